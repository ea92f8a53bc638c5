/- Parts of a proof about the given program: its functions as texts of their own, what each computes, plain laws of that. The conditions of each stand in its statement. -/
import Derived.Test.YtjdiakhipmggjaaGreatDoorB5
import Derived.Test.YtjdiakhipmggjaaGreatDoorB3
import Derived.Test.YtjdiakhipmggjaaGreatDoorB4
import Derived.Test.YtjdiakhipmggjaaGreatDoorRows
import Derived.WalkKit
import Derived.ProofKit
import Derived.OpenShut
import Derived.ShutString
import Derived.ChangeOld
import Derived.Below
import Derived.SizedLaws
import Derived.Lay
import Derived.Carry
import Derived.MakeChecks
import Derived.PinnedBridge
set_option linter.unnecessarySimpa false
set_option linter.defProp false
set_option linter.unusedSectionVars false
set_option linter.unusedVariables false
set_option linter.unusedSimpArgs false
namespace Go.Hm
open Go.Kd
theorem Q7P {a:List Cla} {m:Nat} (b:m<a.length):Z1 a (Y2 a m)=some m↔Z1 (a.take m) (Y2 a m)=none:=by
 have d:Y2 a m=a[m].name:=by unfold Y2;rw[List.getD_eq_getElem?_getD,List.getElem?_eq_getElem b];rfl
 unfold Z1
 rw[List.findIdx?_eq_some_iff_getElem,List.findIdx?_eq_none_iff]
 constructor
 ·rintro ⟨i,k,f⟩ c g
  obtain ⟨j,e,rfl⟩:=List.mem_take_iff_getElem.1 g
  simpa using f j (by omega)
 ·intro h
  refine ⟨b,by simp[d],fun j e=>?_⟩
  simpa using h a[j] (List.mem_take_iff_getElem.2 ⟨j,by omega,rfl⟩)
theorem Q7A {a:List Cla} (d:T1 a) {m:Nat} (b:m<a.length):Xc a (Y2 a m) (Y2 a m)=P3 a a[m]:=by
 have c:Y2 a m=a[m].name:=by unfold Y2;rw[List.getD_eq_getElem?_getD,List.getElem?_eq_getElem b];rfl
 unfold Xc P3
 rw[Xz d b,List.getD_eq_getElem?_getD,List.getElem?_eq_getElem b]
 simp only[Option.getD_some,c]
end Go.Hm
namespace Go.Proofs.YtjdiakhipmggjaaGreatDoor
open Go.Emb Go.RowKit Go.Kd Go.Hm
variable {w : World} {K : Value → World → Prop} {σ : Q5} {l : List Cla}
theorem Q7Z: ∀c∈G2,Zl c=false:=by decide
theorem Q7L {c:Cla} (h:D6 c=0):Zl c=false:=by
 unfold D6 at h
 split at h
 ·cases h
 ·rename_i a;exact eq_false_of_ne_true a
set_option maxHeartbeats 4000000 in
theorem X1K {lv:Value} (hs:X2 w σ) (hl:Sl 8 V0 σ lv l) (cw:l.length≤900)
 (C: ∀i e w' t,Ru D6 l=some (i,e)→Stp w σ w' t→K (.tuple #[.slice none 0 0,I i,I e]) w')
 (h0: ∀v w' t,Ru D6 l=none→Stp w σ w' t→Sl 8 V0 t v (Q4 l)→Ok (Q4 l)→T1 (Q4 l)→K (.tuple #[v,I 0,I 0]) w'):Q1 P F.bM [lv] w K:=Q0E (by
 unfold Em
 have y:G2.length=8:=rfl
 have c8:(Q4 l).length=8+l.length:=by simp[Q4,y]
 refine Q8M hs fun x0 w1 σ1 cf bi=>?_
 refine Q7O bi ?_
 rw[y]
 refine E3 l.length (fun n x w'=> ∃t,Stp w σ w' t∧V5 w.heap.size T.b 8 V0 t w' x (G2++l.take n)∧O8 D6 l 0=O8 D6 (l.drop n) n)
  ⟨σ1,cf,by simpa using bi,rfl⟩ fun n x w4 d J b=>?_
 obtain ⟨σ4,ad,a5,H⟩:=b
 have aa:=hl.up ad
 refine Q8 aa ?_
 refine Z2 ?_
 refine Q7 (fun hh=>?_) (fun hh=>?_)
 ·have a:n<l.length:=by simpa using hh
  obtain ⟨b3,b9,cc,p1,r1⟩:=aa.elC a
  refine Y3 aa a ?_
  refine Y4 ad.sat p1 rfl ?_
  refine Q3y ad.sat r1 fun w6 σ6 Z=>?_
  have bz:=ad.trans Z
  have M:=We a H
  refine Zz ?_
  refine Q7 (fun m=>?_) (fun m=>?_)
  ·have z: ¬D6 l[n]=0:=by simpa using m
   rw[if_neg z] at M
   refine C _ _ _ _ ?_ bz
   unfold Ru
   rw[M]
  ·have hz:D6 l[n]=0:=by simpa using m
   rw[if_pos hz] at M
   refine Y3 (aa.up Z) a ?_
   refine Y4 Z.sat (p1.up Z) rfl ?_
   have cp:=a5.up Z
   have r6:=RCl_lift r1 ⟨Z.le⟩
   refine Jm (R:=V0) (x:=l[n]) bz cp (by simpa [Value.cells] using r6) rfl rfl rfl (by simp[y];omega) (by simp[y];omega) fun s v' w9 σ9 df p cu a0=>?_
   refine L8 ?_
   refine Z9 aa.max a ⟨σ9,p,?_,M⟩
   rw[List.take_add_one,List.getElem?_eq_getElem a,←List.append_assoc]
   exact cu
 have a: ¬n<l.length:=by simpa using hh
 rw[List.take_of_length_le (by omega)] at a5
 rw[List.drop_eq_nil_of_le (by omega)] at H
 have H:O8 D6 l 0=none:=H
 have ca:=P1 H
 have bf: ∀c∈l,Qj c∧Nm c∧c.name≠[]:=fun c hc=>Be (ca c hc)
 have q: ∀c∈Q4 l,Qj c:=fun c hc=>by
  rcases List.mem_append.1 hc with hc | hc
  ·exact (Jw c hc).1
  ·exact (bf c hc).1
 have a3: ∀c∈Q4 l,Nm c:=fun c hc=>by
  rcases List.mem_append.1 hc with hc | hc
  ·exact (Jw c hc).2.1
  ·exact (bf c hc).2.1
 have ac: ∀c∈Q4 l,Zl c=false:=fun c hc=>by
  rcases List.mem_append.1 hc with hc | hc
  ·exact Q7Z c hc
  ·exact Q7L (ca c hc)
 have an:(Q4 l).length≤100000:=by omega
 unfold Ru at C h0
 rw[H] at C h0
 simp only at C h0
 obtain ⟨σ5,o,L,c6,c1⟩:=a5.keep ad
 change Sl 8 V0 σ5 x (Q4 l) at L
 clear a5 ad aa a hh J H bi cf
 have B: ∀{n:Nat} (J:n<l.length),∃(h:8+n<(Q4 l).length),(Q4 l)[8+n]=l[n]:=fun {n} J=>⟨by omega,by
  unfold Q4
  rw[List.getElem_append_right (by rw[y];omega)]
  congr 1
  rw[y];omega⟩
 have b1: ∀{n:Nat} (J:n<l.length),Y2 (Q4 l) (8+n)=l[n].name:=fun {n} J=>by
  obtain ⟨C,h2⟩:=B J
  rw[Gx C,h2]
 have b8: ∀j,j<8→(Z1 ((Q4 l).take j) (Y2 (Q4 l) j)).isSome=false:=by
  have hd: ∀j,j<8→(Z1 (G2.take j) (Y2 G2 j)).isSome=false:=by decide
  intro j hj
  have e1:(Q4 l).take j=G2.take j:=by unfold Q4;rw[List.take_append_of_le_length (by rw[y];omega)]
  have e2:Y2 (Q4 l) j=Y2 G2 j:=by
   unfold Y2 Q4;rw[List.getD_eq_getElem?_getD,List.getD_eq_getElem?_getD,List.getElem?_append_left (by rw[y];omega)]
  rw[e1,e2];exact hd j hj
 refine U1 l.length (fun n w'=>Stp w σ w' σ5∧ ∀j,j<8+n→(Z1 ((Q4 l).take j) (Y2 (Q4 l) j)).isSome=false) ⟨o,by simpa using b8⟩ fun n w5 d J b=>?_
 clear o
 obtain ⟨o,a1⟩:=b
 have aq:=hl.up o
 refine Q8 aq ?_
 refine Z2 ?_
 refine Q7 (fun hh=>?_) (fun hh=>?_)
 ·have a:n<l.length:=by simpa using hh
  obtain ⟨b3,b9,cc,p1,r1⟩:=aq.elC a
  refine Y3 aq a ?_
  (try simp only[↓M1,M1,Mb,reduceIte])
  refine ld o.sat p1 rfl ?_
  refine I0 o.sat L ?_
  rw[S7 (by omega) (by omega)]
  refine Zz ?_
  obtain ⟨W,e8⟩:=B a
  rw[←b1 a]
  have b2:=Q7P W
  cases ao:Z1 ((Q4 l).take (8+n)) (Y2 (Q4 l) (8+n)) with
  | none=>
   rw[b2.2 ao]
   have e:decide (L5 (some (8+n))=(8:Nat)+(n:Int))=true:=by simp[L5]
   rw[e]
   (try simp only[↓M1,M1,Mb,reduceIte])
   refine Y6 aq.max a ⟨o,fun j hj=>?_⟩
   by_cases ej:j=8+n
   ·rw[ej,ao];rfl
   ·exact a1 j (by omega)
  | some i=>
   have z:Z1 (Q4 l) (Y2 (Q4 l) (8+n))≠some (8+n):=fun e=>by rw[b2.1 e] at ao;cases ao
   have e:decide (L5 (Z1 (Q4 l) (Y2 (Q4 l) (8+n)))=(8:Nat)+(n:Int))=false:=by
    rw[decide_eq_false_iff_not]
    intro e
    cases hf:Z1 (Q4 l) (Y2 (Q4 l) (8+n)) with
    | none=>rw[hf] at e;simp only[L5] at e;omega
    | some k=>
     rw[hf] at e z
     simp only[L5] at e
     apply z
     congr 1;omega
   rw[e]
   (try simp only[↓M1,M1,Mb,reduceIte])
   have Q:Rq (Q4 l)=some (8+n):=by
    unfold Rq
    rw[List.find?_range_eq_some]
    refine ⟨by rw[ao];rfl,by simpa using W,fun j hj=>by rw[a1 j hj];rfl⟩
   refine C _ _ _ _ ?_ o
   rw[Q]
   have:((8+n:Nat):Int)-8=n:=by omega
   simp only[this]
 have a: ¬n<l.length:=by simpa using hh
 have Q:Rq (Q4 l)=none:=by
  unfold Rq
  rw[List.find?_eq_none]
  intro j hj
  rw[a1 j (by have:=List.mem_range.1 hj;omega)];simp
 rw[Q] at C h0
 simp only at C h0
 have g:=Gr Q
 clear a1 hh a J aq b8
 refine U1 l.length (fun n w'=> ∃t,Stp w σ w' t∧SLe σ5 t∧O8 (fun c=>(O9 (Q4 l) c:Int)) l 0=O8 (fun c=>(O9 (Q4 l) c:Int)) (l.drop n) n) ⟨σ5,o,SLe.refl _,rfl⟩ fun n w6 d J b=>?_
 obtain ⟨σ9,p,af,ab⟩:=b
 have ay:=hl.up p
 refine Q8 ay ?_
 refine Z2 ?_
 refine Q7 (fun hh=>?_) (fun hh=>?_)
 ·have a:n<l.length:=by simpa using hh
  obtain ⟨b3,b9,cc,p1,r1⟩:=ay.elC a
  refine Y3 ay a ?_
  refine Y4 p.sat p1 rfl ?_
  have O:=We a ab
  refine Q8j p.sat (L.lift af) r1 fun w8 cr av=>?_
  refine Zz ?_
  refine Q7 (fun m=>?_) (fun m=>?_)
  ·have z: ¬(O9 (Q4 l) l[n]:Int)=0:=by simpa using m
   rw[if_neg z] at O
   refine C _ _ _ _ ?_ (p.trans av)
   rw[O]
  ·have hz:(O9 (Q4 l) l[n]:Int)=0:=by simpa using m
   rw[if_pos hz] at O
   refine L8 ?_
   exact Y6 ay.max a ⟨cr,p.trans av,af.more ⟨av.le⟩,O⟩
 have a: ¬n<l.length:=by simpa using hh
 rw[List.drop_eq_nil_of_le (by omega)] at ab
 have ab:O8 (fun c=>(O9 (Q4 l) c:Int)) l 0=none:=ab
 rw[ab] at C h0
 simp only at C h0
 have bp:=P1 ab
 clear hh a J o ay
 refine Q02 p.sat (L.lift af) g (by omega) (by omega) q fun vb di cg ae aj=>?_
 have f:=p.trans ae
 have bc:=af.more ⟨ae.le⟩
 have az:(G7 (Q4 l)).length=(Q4 l).length:=by simp[G7]
 refine U1 l.length (fun n w'=>Stp w σ w' cg∧ ∀j (hj:j<l.length),j<n→P3 (Q4 l) l[j]=false) ⟨f,fun j _ h=>by omega⟩ fun n du d J b=>?_
 clear f
 obtain ⟨f,a4⟩:=b
 have ap:=hl.up f
 refine Q8 ap ?_
 refine Z2 ?_
 refine Q7 (fun hh=>?_) (fun hh=>?_)
 ·have a:n<l.length:=by simpa using hh
  obtain ⟨W,e8⟩:=B a
  refine Xg ⟨by omega,by omega⟩ ?_
  have ec:((8:Nat):Int)+(n:Int)=((8+n:Nat):Int):=by omega
  rw[ec]
  obtain ⟨dv,pb,_,rv,rfl,rb⟩:=aj.el (i:=8+n) (by rw[az];exact W)
  have bv:(G7 (Q4 l))[8+n]'(by rw[az];exact W)=(List.range (Q4 l).length).map fun j=>Xc (Q4 l) (Y2 (Q4 l) (8+n)) (Y2 (Q4 l) j):=by simp[G7]
  rw[bv] at rb
  obtain ⟨cv,bh,_,ak⟩:=rb.el (i:=8+n) (by simpa using W)
  have ak:cv=_:=ak
  subst ak
  simp only[List.getElem_map,List.getElem_range] at bh
  rw[Q7A g W,e8] at bh
  refine Y3 aj (by rw[az];exact W) ?_
  refine X7 f.sat pb rfl ?_
  refine Xg ⟨by omega,by omega⟩ ?_
  rw[ec]
  refine Y3 rb (by simpa using W) ?_
  refine X7 f.sat bh rfl ?_
  cases b7:P3 (Q4 l) l[n] with
  | true=>
   (try simp only[↓M1,M1,Mb,reduceIte])
   have bg:l.findIdx? (P3 (Q4 l))=some n:=by
    rw[List.findIdx?_eq_some_iff_getElem]
    exact ⟨a,b7,fun j hj=>by simpa using a4 j (by omega) hj⟩
   refine C _ _ _ _ ?_ f
   rw[bg]
  | false=>
   (try simp only[↓M1,M1,Mb,reduceIte])
   refine Y6 ap.max a ⟨f,fun j hj dt=>?_⟩
   by_cases e:j=n
   ·subst e;exact b7
   ·exact a4 j hj (by omega)
 have a: ¬n<l.length:=by simpa using hh
 have ba: ∀c∈l,P3 (Q4 l) c=false:=fun c hc=>by
  obtain ⟨j,hj,rfl⟩:=List.getElem_of_mem hc
  exact a4 j hj (by omega)
 have bg:l.findIdx? (P3 (Q4 l))=none:=by
  rw[List.findIdx?_eq_none_iff];exact ba
 rw[bg] at C h0
 simp only at C h0
 clear a4 hh a J ap aj ae p az
 have ax:=Q4V g (fun c hc=>(bf c hc).2.2) ba
 have ai:Q9X (Q4 l):=fun c hc u hu=>by
  rcases List.mem_append.1 hc with hc | hc
  ·rw[(Jw c hc).2.2] at hu;simp at hu
  ·have:=bp c hc
   unfold O9 at this
   split at this
   ·simp at this
   ·split at this
    ·simp at this
    ·rename_i A
     have A:c.like.any (R0 (Q4 l))=false:=eq_false_of_ne_true A
     have:=List.any_eq_false.1 A u hu
     unfold R0 at this
     cases hd:lk (Q4 l) u with
     | none=>rw[hd] at this;simp at this
     | some d=>exact ⟨d,rfl⟩
 have cd:Ok (Q4 l):=⟨ax,an,q,ai,a3⟩
 have b0: ∀i (hi:i<(Q4 l).length),8≤i→ ∀u∈U3 (Q4 l)[i],∃j,Z1 (Q4 l) u=some j:=fun i hi W u hu=>by
  have al:i-8<l.length:=by omega
  obtain ⟨dj,e8⟩:=B al
  have co:(Q4 l)[i]=l[i-8]:=by rw[←e8];congr 1;omega
  rw[co] at hu
  have a7:=List.getElem_mem al
  rcases List.mem_cons.1 hu with hu | hu
  ·have:=bp _ a7
   unfold O9 at this
   split at this
   ·simp at this
   ·rename_i A
    unfold Qr at A
    rw[←hu] at A
    cases hd:lk (Q4 l) u with
    | none=>rw[hd] at A;simp at A
    | some d=>obtain ⟨_,_,j,hj,_⟩:=V3 hd;exact ⟨j,hj⟩
  ·obtain ⟨d,hd⟩:=ai _ (List.mem_append_right _ a7) u hu
   obtain ⟨_,_,j,hj,_⟩:=V3 hd;exact ⟨j,hj⟩
 refine Ed (R:=Wl) (e:=T.e) f (by decide) fun da c5 a9 a8 _=>?_
 refine E3 l.length (fun n x' w'=> ∃t E,Stp w σ w' t∧SLe σ5 t∧V5 w.heap.size T.e 1 Wl t w' x' (ints E)∧Few (Q4 l) E∧E=(((List.range (Q4 l).length).drop 8).take n).foldl (fun E i=>Xh (Q4 l) 8 E i) [])
  ⟨cg,[],f.trans a9,bc,a8,⟨List.nodup_nil,by simp⟩,rfl⟩ fun n x' dc d J b=>?_
 clear a8 a9 f bc af
 obtain ⟨c4,E,X,U,am,aw,ag⟩:=b
 have ar:=hl.up X
 refine Q8 ar ?_
 refine Z2 ?_
 refine Q7 (fun hh=>?_) (fun hh=>?_)
 ·have a:n<l.length:=by simpa using hh
  obtain ⟨W,e8⟩:=B a
  refine Xg ⟨by omega,by omega⟩ ?_
  have ec:((8:Nat):Int)+(n:Int)=((8+n:Nat):Int):=by omega
  rw[ec]
  refine X1s ax g (by omega) q (by omega) b0 ((Q4 l).length+1) W (Nat.lt_succ_of_le (Q1q _ _)) aw X (L.lift U) am fun dw dq ck b6 bl b5=>?_
  refine L8 ?_
  refine Z9 ar.max a ⟨ck,_,b6,U.more bl,b5,Gy ax g (by omega) _ _ _ W aw,?_⟩
  rw[List.take_add_one,List.getElem?_drop,List.getElem?_range W,List.foldl_append,←ag]
  rfl
 have a: ¬n<l.length:=by simpa using hh
 have cl:n=l.length:=by omega
 subst cl
 have bn:E=V7 (Q4 l) 8:=by
  rw[ag,List.take_of_length_le (by rw[List.length_drop,List.length_range];omega)];rfl
 subst bn
 clear ag hh a J
 have dp:=aw.len
 have ct:=X0j g
 obtain ⟨bq,bu,cb,bd,_⟩:=am.keep X
 have bo:=U.more ⟨bd⟩
 clear am X bd U ar
 have al:(ints (V7 (Q4 l) 8)).length=(V7 (Q4 l) 8).length:=by simp
 refine U1 (V7 (Q4 l) 8).length (fun n w'=> ∃t,Stp w σ w' t∧SLe bq t∧ ∀j∈(V7 (Q4 l) 8).take n,V6 (Q4 l) ((Q4 l).getD j Cla.zero)=0) ⟨bq,bu,SLe.refl _,by simp⟩ fun n c3 d J b=>?_
 obtain ⟨ds,N,V,a2⟩:=b
 have Y:=cb.lift V
 refine Q8 Y ?_
 rw[al]
 refine Z2 ?_
 refine Q7 (fun hh=>?_) (fun hh=>?_)
 ·have a:n<(V7 (Q4 l) 8).length:=by simpa using hh
  have bw:n<(ints (V7 (Q4 l) 8)).length:=by rw[al];exact a
  refine Y3 Y bw ?_
  obtain ⟨cs,pc,_,cj⟩:=Y.el bw
  obtain ⟨rfl,_⟩:=cj
  simp only[List.getElem_map] at pc
  refine X7 N.sat pc rfl ?_
  have bk:=(ct _ (List.getElem_mem a)).2
  have a0:(Q4 l).getD (V7 (Q4 l) 8)[n] Cla.zero=(Q4 l)[(V7 (Q4 l) 8)[n]]:=by rw[List.getD_eq_getElem?_getD,List.getElem?_eq_getElem bk];rfl
  refine Q6O N.sat (L.lift (bo.more V)) cd g (by omega) ac bk fun dm b4 r=>?_
  have a6:=N.trans r
  refine Zz ?_
  refine Q7 (fun m=>?_) (fun m=>?_)
  ·have z: ¬V6 (Q4 l) (Q4 l)[(V7 (Q4 l) 8)[n]]=0:=by simpa using m
   have cy:=Y.up r
   have ch:=pc.up r
   refine U2 r.sat ?_
   (repeat refine J6 Qt ?_)
   (intros;(repeat (rename_i hx;subst hx));(try simp only[↓M2,M2,Mb,reduceIte]))
   rename_i cn be
   refine X7 be.sat ch rfl ?_
   refine Zg ⟨by omega,by omega⟩ ?_
   have D:(V7 (Q4 l) 8).find? (fun j=> !decide (V6 (Q4 l) ((Q4 l).getD j Cla.zero)=0))=some (V7 (Q4 l) 8)[n]:=by
    rw[List.find?_eq_some_iff_getElem]
    refine ⟨by rw[a0];simpa using z,n,a,rfl,fun j hj=>?_⟩
    have:=a2 _ (List.mem_take_iff_getElem.2 ⟨j,by omega,rfl⟩)
    rw[this];simp
   have:=C (((V7 (Q4 l) 8)[n]:Int)-8) (V6 (Q4 l) (Q4 l)[(V7 (Q4 l) 8)[n]]) cn b4 (by rw[D];simp only[a0]) (a6.trans be.stp)
   exact this
  ·have hz:V6 (Q4 l) (Q4 l)[(V7 (Q4 l) 8)[n]]=0:=by simpa using m
   refine L8 ?_
   refine Y6 (by omega) a ⟨b4,a6,V.more ⟨r.le⟩,fun j hj=>?_⟩
   rw[List.take_add_one,List.getElem?_eq_getElem a] at hj
   rcases List.mem_append.1 hj with hj | hj
   ·exact a2 j hj
   ·simp at hj;subst hj;rw[a0];exact hz
 ·have a: ¬n<(V7 (Q4 l) 8).length:=by simpa using hh
  rw[List.take_of_length_le (by omega)] at a2
  have D:(V7 (Q4 l) 8).find? (fun j=> !decide (V6 (Q4 l) ((Q4 l).getD j Cla.zero)=0))=none:=by
   rw[List.find?_eq_none]
   intro j hj
   rw[a2 j hj];simp
  rw[D] at h0
  exact h0 _ _ _ rfl N (L.lift (bo.more V)) cd g)
end Go.Proofs.YtjdiakhipmggjaaGreatDoor

namespace Go.Proofs.YtjdiakhipmggjaaGreatDoor
open Go.Emb Go.RowKit Go.Kd Go.Hm
variable {w : World} {K : Value → World → Prop} {σ : Q5} {l : List Cla} {v : Value}
theorem Q8s:(G7 l).length=l.length:=by simp[G7]
theorem Q8Q {i:Nat} (a:i<(G7 l).length):(G7 l)[i]=(List.range l.length).map fun j=>Xc l (Y2 l i) (Y2 l j):=by simp[G7]
theorem Sl.elB {xs:List (List Bool)} {v:Value} (h:Sl 1 Q5V σ v xs) {i:Nat} (a:i<xs.length): ∃u,Z4 σ (Vp 1 v i) [u]∧Sl 1 Q2y σ u xs[i]:=by
 obtain ⟨cs,b,d,u,rfl,c⟩:=h.el a;exact ⟨u,b,c⟩
theorem Sl.elb {xs:List Bool} {v:Value} (h:Sl 1 Q2y σ v xs) {i:Nat} (b:i<xs.length):Z4 σ (Vp 1 v i) [.bool xs[i]]:=by
 obtain ⟨cs,c,d,a⟩:=h.el b
 have a:cs=_:=a
 subst a;exact c
theorem X1p {a b:X0} (n:X2 w σ) (t:Sl 8 V0 σ v (Q4 l)) (y:Wf l) (ok:Ok (Q4 l)) (C:(Q4 l).length≤1000) (Q:a.length≤U0) (hb:b.length≤U0) (h: ∀w' σ',Stp w σ w' σ'→K (.bool (Xl (Q4 l) a b)) w'):Q1 P F.bR [v,S a,S b] w K:=Q0V (by
 unfold Ea
 have z: ∀r,Xl (Q4 l) a b=r→K (.bool r) w:=fun r e=>by rw[←e];exact h _ _ (Stp.refl n)
 refine Dj n t Q ?_
 cases f:N0 (Q4 l) a with
 | false=>
  have O:Xl (Q4 l) a b=false:=by unfold Xl;simp[f]
  (try simp only[↓M1,M1,Mb,reduceIte])
  by_cases e:a=b
  ·have g:decide (a=b)=true:=by simpa using e
   simp only[g,↓M1,M1,Mb,reduceIte]
   refine Dj n t Q ?_
   rw[f]
   (try simp only[↓M1,M1,Mb,reduceIte])
   exact z _ O
  ·have g:decide (a=b)=false:=by simpa using e
   simp only[g,↓M1,M1,Mb,reduceIte]
   exact z _ O
 | true=>
 (try simp only[↓M1,M1,Mb,reduceIte])
 refine Dj n t hb ?_
 cases k:N0 (Q4 l) b with
 | false=>
  have O:Xl (Q4 l) a b=false:=by unfold Xl;simp[k]
  have g:decide (a=b)=false:=by
   rw[decide_eq_false_iff_not];rintro rfl;rw[f] at k;cases k
  simp only[g,↓M1,M1,Mb,reduceIte]
  exact z _ O
 | true=>
 (try simp only[↓M1,M1,Mb,reduceIte])
 by_cases e:a=b
 ·have g:decide (a=b)=true:=by simpa using e
  simp only[g,↓M1,M1,Mb,reduceIte]
  refine Dj n t Q ?_
  rw[f]
  (try simp only[↓M1,M1,Mb,reduceIte])
  exact z _ (y.sub_iff.2 ⟨f,k, .inl e⟩)
 have g:decide (a=b)=false:=by simpa using e
 simp only[g,↓M1,M1,Mb,reduceIte]
 refine Eu _ ?_
 have c:(∀(_:plain a=false∧plain b=false∧(a=H6∨(elem a≠[]∧b=J9)∨(lk (Q4 l) a≠none∧Hm.Reach (lk (Q4 l)) a b))),False)→K (.bool false) w:=fun hx=>z _ (eq_false_of_ne_true fun ht=>by
  obtain ⟨_,_,h3⟩:=y.sub_iff.1 ht
  rcases h3 with h3 | h3
  ·exact e h3
  ·exact hx h3)
 cases q:plain a with
 | true=>(try simp only[↓M1,M1,Mb,reduceIte]);exact c fun hx=>by rw[q] at hx;cases hx.1
 | false=>
 (try simp only[↓M1,M1,Mb,reduceIte])
 refine Eu _ ?_
 cases L:plain b with
 | true=>(try simp only[↓M1,M1,Mb,reduceIte]);exact c fun hx=>by rw[L] at hx;cases hx.2.1
 | false=>
 (try simp only[↓M1,M1,Mb,reduceIte])
 by_cases M:b=H6
 ·have g:decide (b=[110,117,108,108])=true:=by rw[decide_eq_true_eq];exact M
  simp only[g,↓M1,M1,Mb,reduceIte]
  refine c fun ⟨_,_,hx⟩=>?_
  rcases hx with hx | ⟨_,hx⟩ | ⟨_,hx⟩
  ·exact e (hx.trans M.symm)
  ·rw[M] at hx;exact absurd hx (by decide)
  ·obtain ⟨d,A⟩:=hx.right
   rw[M,y.none_null] at A;cases A
 have X:decide (b=[110,117,108,108])=false:=by rw[decide_eq_false_iff_not];exact M
 simp only[X,↓M1,M1,Mb,reduceIte]
 by_cases m:a=H6
 ·have g:decide (a=[110,117,108,108])=true:=by rw[decide_eq_true_eq];exact m
  simp only[g,↓M1,M1,Mb,reduceIte]
  exact z _ (y.sub_iff.2 ⟨f,k, .inr ⟨q,L, .inl m⟩⟩)
 have J:decide (a=[110,117,108,108])=false:=by rw[decide_eq_false_iff_not];exact m
 simp only[J,↓M1,M1,Mb,reduceIte]
 by_cases D:b=J9
 ·have g:decide (b=[79,98,106,101,99,116])=true:=by rw[decide_eq_true_eq];exact D
  simp only[g,↓M1,M1,Mb,reduceIte]
  exact z _ (by rw[D];exact y.sub_root f q)
 have R:decide (b=[79,98,106,101,99,116])=false:=by rw[decide_eq_false_iff_not];exact D
 simp only[R,↓M1,M1,Mb,reduceIte]
 refine I0 n t ?_
 refine I0 n t ?_
 refine P0 ?_
 rw[T2]
 cases o:Z1 (Q4 l) a with
 | none=>
  simp only[Option.isSome_none,↓M1,M1,Mb,reduceIte]
  refine c fun ⟨_,_,hx⟩=>?_
  rcases hx with hx | ⟨_,hx⟩ | ⟨hx,_⟩
  ·exact m hx
  ·exact D hx
  ·exact hx (by unfold lk;rw[o];rfl)
 | some i=>
 simp only[Option.isSome_some,↓M1,M1,Mb,reduceIte]
 cases B:Z1 (Q4 l) b with
 | none=>
  simp only[T2,Option.isSome_none,↓M1,M1,Mb,reduceIte]
  refine c fun ⟨_,_,hx⟩=>?_
  rcases hx with hx | ⟨_,hx⟩ | ⟨_,hx⟩
  ·exact m hx
  ·exact D hx
  ·obtain ⟨d,A⟩:=hx.right
   unfold lk at A;rw[B] at A;cases A
 | some j=>
 obtain ⟨Z,V⟩:=R7 o
 obtain ⟨hj,Y⟩:=R7 B
 simp only[T2,Option.isSome_some,↓M1,M1,Mb,reduceIte]
 simp only[L5]
 refine Q02 n t y.own (by omega) C ok.sm fun v1 w1 σ1 s H=>?_
 have p:i<(G7 (Q4 l)).length:=by rw[Q8s];exact Z
 refine Y3 H p ?_
 obtain ⟨u,p1,U⟩:=Sl.elB H p
 refine X7 s.sat p1 rfl ?_
 rw[Q8Q p] at U
 have E:j<((List.range (Q4 l).length).map fun j=>Xc (Q4 l) (Y2 (Q4 l) i) (Y2 (Q4 l) j)).length:=by simpa using hj
 refine Y3 U E ?_
 refine X7 s.sat (Sl.elb U E) rfl ?_
 (try simp only[↓M1,M1,Mb,reduceIte])
 simp only[List.getElem_map,List.getElem_range,V,Y]
 have N:Xl (Q4 l) a b=Xc (Q4 l) a b:=by
  obtain ⟨ca,W,_⟩:=Zd o
  rw[Bool.eq_iff_iff,y.sub_class W,Jk,Q10]
  constructor
  ·rintro (⟨hx,_⟩ | hx)
   ·exact absurd hx e
   ·exact hx
  ·exact .inr
 rw[←N]
 exact h _ _ s)
end Go.Proofs.YtjdiakhipmggjaaGreatDoor

namespace Go.Proofs.YtjdiakhipmggjaaGreatDoor
open Go.Emb Go.RowKit Go.Kd Go.Hm
variable {w : World} {K : Value → World → Prop} {σ : Q5} {l : List Cla} {v : Value}
end Go.Proofs.YtjdiakhipmggjaaGreatDoor

namespace Go.Emb
open Go.RowKit Go.Hm
def D7 (σ:Q5) (x:List Cla×Int×List Cel) (ds:List Value):Prop:= ∃a b,ds=[a,I x.2.1,b]∧Sl 8 V0 σ a x.1∧Sl 2 R5 σ b x.2.2
instance:Rep D7:=⟨fun hk ⟨lv,cv,h1,h2,h3⟩=>⟨lv,cv,h1,h2.le hk,h3.le hk⟩,fun ⟨lv,cv,h1,h2,h3⟩ u hu=>by
 rw[h1] at hu;simp at hu;rcases hu with rfl | rfl | rfl
 ·exact T3 h2
 ·rfl
 ·exact T3 h3⟩
theorem L3 {σ σ':Q5} {x:List Cla×Int×List Cel} {cs:List Value} (h:D7 σ x cs) (k:SLe σ σ'):D7 σ' x cs:=Rep.up k.le h
theorem D7.out {σ:Q5} {l:List Cla} {room:Int} {cs:List Cel} {ds:List Value} (h:D7 σ (l,room,cs) ds): ∃a b,ds=[a,I room,b]∧Sl 8 V0 σ a l∧Sl 2 R5 σ b cs:=h
end Go.Emb
namespace Go.Proofs.YtjdiakhipmggjaaGreatDoor
open Go.Emb Go.RowKit Go.Kd Go.Hm
variable {w w' : World} {K : Value → World → Prop} {σ σ' : Q5} {ds : List Value} {room : Int} {cs : List Cel} {l : List Cla}
theorem Q9A {k:X0} (O:X2 w σ) (h: ∀w' σ',Stp w σ w' σ'→K (.agg [I (L7 k).sort,I (L7 k).n,S (L7 k).s,I (L7 k).ref].toArray) w'):Q1 P F.aM [S k] w K:=Tv (by
 unfold On
 refine M8 O fun b w1 σ1 Y t v=>?_
 have hB:=M7 Y (Stp.refl O)
 refine W1 (cells:= #[I 0,I 0,S [],I 0]) (by kernel_rfl) ?_
 refine M8 t.sat fun A w2 M J u y=>?_
 have C:=t.trans u
 have j:=M7 J t
 have o:b≠A:=by have:=v.lt;omega
 refine Nk (ds:=[I 0,I 0,S [],I 0]) y rfl rfl (by rw[List.all_toArray];exact List.all_eq_true.2 Rr) fun W Q a=>?_
 have g:=Q.stp C j y.1
 have c:=(v.up u).upd Q o
 have m: ∀(n:Int) (f:World),Y1 M f A [I n,I 0,S [],I 0]→Y1 M f b [I 0,I 0,S [],I 0]→Stp w σ f M→(∀w' σ',Stp w σ w' σ'→K (.agg [I n,I 0,S [],I 0].toArray) w')→Q2 P T.f (.pointer (some ⟨A,0,none⟩)) f fun H w=>
  Y0 P T.f (.pointer (some ⟨b,0,none⟩)) H w fun _u w=>
  Y7 P T.f (.pointer (some ⟨b,0,none⟩)) w fun V=>K V w:=fun n f r q Z X=>
  Si r rfl (F8 q Z hB rfl rfl Rr fun w5 E B=>V1 B rfl (X _ _ E.stp))
 have R:decide (k=[105,110,116])=decide (k=P2):=rfl
 have N:decide (k=[98,111,111,108])=decide (k=Zx):=rfl
 have L:decide (k=[116,101,120,116])=decide (k=D0):=rfl
 unfold L7 at h
 refine U6 ?_
 refine K6 ?_
 rw[R]
 by_cases q:k=P2
 ·simp only[if_pos q] at h
  have U:decide (k=Zx)=false:=by subst q;decide
  have D:decide (k=D0)=false:=by subst q;decide
  rw[decide_eq_true q]
  refine J3 ?_
  refine W4 ?_
  refine Ug (i:=0) a (by simp) rfl rfl fun f p e=>?_
  intro d
  refine U6 ?_
  refine K6 ?_
  rw[N,U]
  refine Z7 ?_
  intro d
  refine U6 ?_
  refine K6 ?_
  rw[L,D]
  refine Z7 ?_
  intro d
  exact m 1 f e (c.upd p o) (p.stp g j a.1) h
 simp only[if_neg q] at h
 rw[decide_eq_false q]
 refine Z7 ?_
 intro d
 refine U6 ?_
 refine K6 ?_
 rw[N]
 by_cases r:k=Zx
 ·simp only[if_pos r] at h
  have D:decide (k=D0)=false:=by subst r;decide
  rw[decide_eq_true r]
  refine J3 ?_
  refine W4 ?_
  refine Ug (i:=0) a (by simp) rfl rfl fun f p e=>?_
  intro d
  refine U6 ?_
  refine K6 ?_
  rw[L,D]
  refine Z7 ?_
  intro d
  exact m 2 f e (c.upd p o) (p.stp g j a.1) h
 simp only[if_neg r] at h
 rw[decide_eq_false r]
 refine Z7 ?_
 intro d
 refine U6 ?_
 refine K6 ?_
 rw[L]
 by_cases z:k=D0
 ·simp only[if_pos z] at h
  rw[decide_eq_true z]
  refine J3 ?_
  refine W4 ?_
  refine Ug (i:=0) a (by simp) rfl rfl fun f p e=>?_
  intro d
  exact m 3 f e (c.upd p o) (p.stp g j a.1) h
 ·simp only[if_neg z] at h
  rw[decide_eq_false z]
  refine Z7 ?_
  intro d
  exact m 0 W a c g h)
theorem Q9m (m:X2 w σ) (hh:D7 σ (l,room,cs) ds) (r:0≤V9 room cs) (z:room≤1048576) (h: ∀w' σ',Stp w σ w' σ'→K (I (V9 room cs)) w'):Q1 P F.aO [.agg ds.toArray] w K:=To (by
 obtain ⟨E,C,rfl,J,p⟩:=D7.out hh
 unfold Ox
 refine Z0 m fun q w1 σ1 g j=>?_
 have b:=g.sat
 have c:=p.up g
 refine W4 ?_
 refine ld b j rfl ?_
 unfold V9 at h r
 refine E3 cs.length (fun n x w'=>w'=w1∧x=I (room-Y8 (cs.take n))) ⟨rfl,by simp[Y8]⟩ fun n x u d D i=>?_
 obtain ⟨rfl,rfl⟩:=i
 have e:Y8 cs=Y8 (cs.take n)+Y8 (cs.drop n):=by rw[←I5,List.take_append_drop]
 have t:=L9 (cs.take n)
 have y:=L9 (cs.drop n)
 refine W4 ?_
 refine ld b j rfl ?_
 refine Q8 c ?_
 refine Z2 ?_
 refine Q7 (fun f=>?_) (fun f=>?_)
 ·have a:n<cs.length:=by simpa using f
  obtain ⟨B,o,k,s⟩:=Sl.elO c a
  refine W4 ?_
  refine ld b j rfl ?_
  refine Y3 c a ?_
  refine W4 ?_
  refine ld b o rfl ?_
  refine Q8 k ?_
  have v:Y8 (cs.drop n)=(1+(cs[n].vals.length:Int))+Y8 (cs.drop (n+1)):=by
   rw[List.drop_eq_getElem_cons a];simp only[Y8,List.map_cons,List.sum_cons]
  have A:=L9 (cs.drop (n+1))
  have H:Y8 (cs.take (n+1))=Y8 (cs.take n)+(1+(cs[n].vals.length:Int)):=by
   rw[List.take_add_one,List.getElem?_eq_getElem a,I5];simp[Y8]
  refine Xg ⟨by omega,by omega⟩ ?_
  refine Zg ⟨by omega,by omega⟩ ?_
  refine L8 ?_
  refine Z9 c.max a ⟨rfl,?_⟩
  congr 1;omega
 ·have a: ¬n<cs.length:=by simpa using f
  rw[List.take_of_length_le (by omega)]
  exact h _ _ g)
theorem Q8L {n:X0} {k:Value} (j:X2 w σ) (d:Sl 8 V0 σ k l) (h:K (.bool (T7 l n)) w):Q1 P F.b7 [k,S n] w K:=Bn (by
 unfold Vl
 refine I0 j d ?_
 refine P0 ?_
 rw[T2]
 unfold T7 at h
 cases b:lk l n with
 | none=>
  rw[b] at h
  rw[Q0b b]
  simp only[Option.isSome_none,↓M1,M1,Mb,reduceIte]
  exact h
 | some c=>
  rw[b] at h
  obtain ⟨_,_,i,m,f⟩:=V3 b
  obtain ⟨a,e⟩:=List.getElem?_eq_some_iff.1 f
  obtain ⟨o,p,q,g,_⟩:=d.elC a
  rw[e] at g
  rw[m]
  simp only[Option.isSome_some,L5,↓M1,M1,Mb,reduceIte]
  refine Y3 d a ?_
  (try simp only[↓M1,M1,Mb,reduceIte])
  refine ld j g rfl ?_
  (try simp only[↓M1,M1,Mb,reduceIte])
  exact h)
theorem Q73 {r i:Int} (u:X2 w σ) (hh:D7 σ (l,room,cs) ds) (h: ∀w' σ',Stp w σ w' σ'→K (I (E2 cs r i)) w'):Q1 P F.aJ [.agg ds.toArray,I r,I i] w K:=Kn (by
 obtain ⟨A,z,rfl,B,d⟩:=D7.out hh
 unfold Mz
 refine Z0 u fun q w1 σ1 a p=>?_
 have c:=a.sat
 have g:=d.up a
 refine Z2 ?_
 unfold E2 at h
 have b:M0 cs r=false→K (I 92) w1:=fun e=>by
  have:=h _ _ a
  rw[e] at this
  exact this
 by_cases s:r<0
 ·rw[decide_eq_true s]
  (try simp only[↓M1,M1,Mb,reduceIte])
  exact b (by simp only[M0,Bool.and_eq_false_iff,decide_eq_false_iff_not];left;omega)
 rw[decide_eq_false s]
 (try simp only[↓M1,M1,Mb,reduceIte])
 refine ld c p rfl ?_
 refine Q8 g ?_
 refine P0 ?_
 (try simp only[↓M1,M1,Mb,reduceIte])
 by_cases m:(cs.length:Int)≤r
 ·rw[decide_eq_true m]
  refine J3 ?_
  exact b (by simp only[M0,Bool.and_eq_false_iff,decide_eq_false_iff_not];right;omega)
 rw[decide_eq_false m]
 refine Z7 ?_
 have n:M0 cs r=true:=by simp only[M0,Bool.and_eq_true,decide_eq_true_eq];omega
 obtain ⟨j,rfl,k⟩:=N3.1 n
 rw[n,W7 k] at h
 obtain ⟨y,v,t,_⟩:=Sl.elO g k
 by_cases o:i<0
 ·rw[decide_eq_true o]
  (try simp only[↓M1,M1,Mb,reduceIte])
  have:=h _ _ a
  rw[if_pos rfl,if_neg (by omega)] at this
  exact this
 ·rw[decide_eq_false o]
  (try simp only[↓M1,M1,Mb,reduceIte])
  refine ld c p rfl ?_
  refine Y3 g k ?_
  (try simp only[↓M1,M1,Mb,reduceIte])
  refine ld c v rfl ?_
  refine Q8 t ?_
  refine P0 ?_
  (try simp only[↓M1,M1,Mb,reduceIte])
  have f:=h _ _ a
  refine Q7 (fun d=>?_) (fun d=>?_)
  ·have d:(cs[j].vals.length:Int)≤i:=by simpa using d
   rw[if_pos rfl,if_neg (by omega)] at f
   exact f
  ·have d: ¬(cs[j].vals.length:Int)≤i:=by simpa using d
   rw[if_pos rfl,if_pos (by omega)] at f
   exact f)
theorem X3C {r i:Int} (L:X2 w σ) (hh:D7 σ (l,room,cs) ds) (h: ∀w' σ',Stp w σ w' σ'→K (.tuple #[.agg [I (Ex cs r i).sort,I (Ex cs r i).n,S (Ex cs r i).s,I (Ex cs r i).ref].toArray,I (E2 cs r i)]) w'):Q1 P F.bO [.agg ds.toArray,I r,I i] w K:=Q0B (by
 have z:=hh
 obtain ⟨X,W,rfl,Y,R⟩:=D7.out hh
 unfold Dr
 refine Z0 L fun q w0 σ0 k B=>?_
 refine M8 k.sat fun b w1 σ1 Q c A=>?_
 have u:=k.trans c
 have hB:=M7 Q k
 have t:=B.up c
 refine Y4 c.sat t rfl ?_
 refine Q73 c.sat (L3 z ⟨u.le⟩) fun U Z a=>?_
 have g:=u.trans a
 have d:=a.sat
 have v:=A.up a
 have y:=t.up a
 refine Zz ?_
 unfold Ex at h
 by_cases p:E2 cs r i=0
 ·have e:decide (E2 cs r i=0)=true:=decide_eq_true p
  rw[if_pos p,p] at h
  simp only[e,Bool.not_true,↓M1,M1,Mb,reduceIte]
  obtain ⟨j,m,rfl,rfl,C,D⟩:=Ll p
  rw[W7 C,Int.toNat_natCast] at h
  have E:=R.up g
  obtain ⟨V,O,H,_⟩:=Sl.elO E C
  obtain ⟨J,N⟩:=Sl.elV H D
  refine ld d y rfl ?_
  refine Y3 E C ?_
  (try simp only[↓M1,M1,Mb,reduceIte])
  refine ld d O rfl ?_
  refine Y3 H D ?_
  refine Y4 d J rfl ?_
  refine F8 v g hB rfl rfl (Rep.one N) fun M f o=>?_
  refine V1 o rfl ?_
  have e:cs[j].vals.getD m Val.zero=cs[j].vals[m]:=by rw[List.getD_eq_getElem?_getD,List.getElem?_eq_getElem D];rfl
  rw[e] at h
  exact h _ _ f.stp
 ·have e:decide (E2 cs r i=0)=false:=by simpa using p
  rw[if_neg p] at h
  simp only[e,Bool.not_false,↓M1,M1,Mb,reduceIte]
  refine W1 (cells:= #[I 0,I 0,S [],I 0]) (by kernel_rfl) ?_
  refine F8 (ds:=[I 0,I 0,S [],I 0]) v g hB rfl rfl Rr fun M f o=>?_
  refine V1 o rfl ?_
  exact h _ _ f.stp)
theorem X2C (p:X2 w σ) (hh:D7 σ (l,room,cs) ds) (ok:Ok l) (c:l.length≤1000) {k:X0} {s:Value} {i:Nat} (r:k.length≤U0) (j:elem k=[]→i<(Y5 l k).length)
 (h: ∀w' σ',Stp w σ w' σ'→K (S (Xe l k i)) w'):Q1 P F.bE [.agg ds.toArray, .agg [S k,s].toArray,I i] w K:=Al (by
 obtain ⟨C,B,rfl,t,D⟩:=D7.out hh
 unfold Om
 refine Z0 p fun y w0 σ0 g m=>?_
 refine Z0 g.sat fun q w1 σ1 a n=>?_
 have b:=g.trans a
 refine W4 ?_
 refine ld (i:=0) a.sat n rfl ?_
 refine X0v k (Nat.le_trans r (by decide)) ?_
 refine Vy ?_
 unfold Xe at h
 by_cases e:elem k=[]
 ·simp only[if_pos e] at h
  rw[decide_eq_true e]
  (try simp only[↓M1,M1,Mb,reduceIte])
  refine ld (i:=0) a.sat (m.up a) rfl ?_
  refine ld (i:=0) a.sat n rfl ?_
  refine Kl a.sat (t.up b) ok.acy c ok.sm fun v A z f d=>?_
  refine Y3 d (j e) ?_
  obtain ⟨u,_⟩:=d.elF (j e)
  (try simp only[↓M1,M1,Mb,reduceIte])
  refine ld f.sat u rfl ?_
  have o:(Y5 l k).getD i Fld.zero=(Y5 l k)[i]'(j e):=by rw[List.getD_eq_getElem?_getD,List.getElem?_eq_getElem (j e)];rfl
  rw[o] at h
  exact h _ _ (b.trans f)
 ·simp only[if_neg e] at h
  rw[decide_eq_false e]
  (try simp only[↓M1,M1,Mb,reduceIte])
  exact h _ _ b)
theorem X3i {ok:X0→Bool} {b d:Int} {c:X0}:K7 ok cs ⟨0,b,c,d⟩=if b=0∧c=[]∧d=0 then H6 else []:=by
 simp[K7,Val.zero]
theorem X3s {ok:X0→Bool} {b d:Int} {c:X0}:K7 ok cs ⟨1,b,c,d⟩=if c=[]∧d=0 then P2 else []:=by
 simp[K7,Val.zero]
theorem X3x {ok:X0→Bool} {b d:Int} {c:X0}:K7 ok cs ⟨2,b,c,d⟩=if (c=[]∧d=0)∧(b=0∨b=1) then Zx else []:=by
 simp[K7,Val.zero]
theorem X3f {ok:X0→Bool} {b d:Int} {c:X0}:K7 ok cs ⟨3,b,c,d⟩=if (b=0∧d=0)∧ok c=true then D0 else []:=by
 simp[K7,Val.zero]
theorem X3d {ok:X0→Bool} {b d:Int} {c:X0}:K7 ok cs ⟨4,b,c,d⟩=if b=0∧c=[] then D2 cs d else []:=by
 simp[K7,Val.zero]
theorem X34 {ok:X0→Bool} {a b d:Int} {c:X0} (i:a≠0) (e:a≠1) (g:a≠2) (h:a≠3) (f:a≠4):K7 ok cs ⟨a,b,c,d⟩=[]:=by
 simp[K7,Val.zero,i,e,g,h,f]
set_option maxHeartbeats 2000000 in
theorem X3T {v:Val} (hs:X2 w σ) (hh:D7 σ (l,room,cs) ds) (hb:v.s.length≤U0) (h: ∀w' σ',Stp w σ w' σ'→K (S (K7 W5 cs v)) w'):Q1 P F.c1 [.agg ds.toArray, .agg [I v.sort,I v.n,S v.s,I v.ref].toArray] w K:=Q1J (by
 obtain ⟨lv,cv,rfl,hl,hc⟩:=D7.out hh
 unfold Hl
 refine Z0 hs fun q0 w0 σ0 M y=>?_
 refine Z0 M.sat fun q w1 σ1 E t=>?_
 have g:=M.trans E
 have f:=E.sat
 have y:=y.up E
 have X:=hc.up g
 have k: ∀{W:World} {σ2:Q5} {x:X0},Stp w σ W σ2→K7 W5 cs v=x→K (S x) W:=fun hS e=>by
  have:=h _ _ hS
  rw[e] at this
  exact this
 obtain ⟨a,b,c,d⟩:=v
 simp only at hb t
 have L: ∀r,M0 cs r=false→D2 cs r=[]:=fun r e=>by unfold D2;rw[e];rfl
 refine W4 ?_
 refine ld f t rfl ?_
 refine K9 ?_
 have z: ∀{A:Value→World→Prop},(∀p:Bool,p=(decide (d=0)&&decide (c=[]))→A (.bool p) w1)→Q0 (.bool (decide (d=0))) true w1 (fieldAddr P T.f (.pointer (some q)) 2) (fun ad w=>
  Q0 (.bool (decide (d=0))) true w (Q2 P T.c ad) fun Z w=>
  Q0 (.bool (decide (d=0))) true w (Q3 P .eql T.c (.tmp 11) (.const (.string ⟨#[]⟩)) Z (.string ⟨#[]⟩)) fun V w=>
  pick P (.bool (decide (d=0))) V (.bool false) w A):=fun {A} hA=>by
  cases hd:decide (d=0) with
  | false=>(try simp only[↓M1,M1,Mb,reduceIte]);exact hA false (by simp[hd])
  | true=>
   (try simp only[↓M1,M1,Mb,reduceIte])
   refine ld f t rfl ?_
   (try simp only[↓M1,M1,Mb,reduceIte])
   exact hA _ (by simp[hd])
 refine z fun p hp=>?_
 refine Up (fun _ w'=>Stp w σ w' σ1∧K7 W5 cs ⟨a,b,c,d⟩=[]) ?_ (fun _ d' w' hz=>k hz.1 hz.2)
 refine W4 ?_
 refine ld (i:=0) f t rfl ?_
 refine K9 ?_
 have C:(p=true)↔(c=[]∧d=0):=by rw[hp];simp[and_comm]
 have H:p=false→ ¬(c=[]∧d=0):=fun e h=>by rw[C.2 h] at e;cases e
 by_cases R:a=0
 ·subst R
  rw[X3i] at*
  rw[decide_eq_true rfl]
  refine J3 ?_
  cases o:p with
  | false=>
   (try simp only[↓M1,M1,Mb,reduceIte])
   exact ⟨g,if_neg fun e=>H o e.2⟩
  | true=>
   have B:=C.1 o
   (try simp only[↓M1,M1,Mb,reduceIte])
   refine ld f t rfl ?_
   (try simp only[↓M1,M1,Mb,reduceIte])
   by_cases m:b=0
   ·rw[decide_eq_true m]
    (try simp only[↓M1,M1,Mb,reduceIte])
    exact k g (if_pos ⟨m,B⟩)
   ·rw[decide_eq_false m]
    (try simp only[↓M1,M1,Mb,reduceIte])
    exact ⟨g,if_neg fun e=>m e.1⟩
 rw[decide_eq_false R]
 refine Z7 ?_
 refine K9 ?_
 by_cases Y:a=1
 ·subst Y
  rw[X3s] at*
  rw[decide_eq_true rfl]
  refine J3 ?_
  cases o:p with
  | false=>exact Z7 ⟨g,if_neg (H o)⟩
  | true=>exact J3 (k g (if_pos (C.1 o)))
 rw[decide_eq_false Y]
 refine Z7 ?_
 refine K9 ?_
 by_cases Q:a=2
 ·subst Q
  rw[X3x] at*
  rw[decide_eq_true rfl]
  refine J3 ?_
  cases o:p with
  | false=>
   (try simp only[↓M1,M1,Mb,reduceIte])
   exact ⟨g,if_neg fun e=>H o e.1⟩
  | true=>
   have B:=C.1 o
   (try simp only[↓M1,M1,Mb,reduceIte])
   refine ld f t rfl ?_
   (try simp only[↓M1,M1,Mb,reduceIte])
   by_cases m:b=0
   ·rw[decide_eq_true m]
    (try simp only[↓M1,M1,Mb,reduceIte])
    exact k g (if_pos ⟨B, .inl m⟩)
   ·rw[decide_eq_false m]
    (try simp only[↓M1,M1,Mb,reduceIte])
    refine ld f t rfl ?_
    (try simp only[↓M1,M1,Mb,reduceIte])
    by_cases N:b=1
    ·rw[decide_eq_true N]
     (try simp only[↓M1,M1,Mb,reduceIte])
     exact k g (if_pos ⟨B, .inr N⟩)
    ·rw[decide_eq_false N]
     (try simp only[↓M1,M1,Mb,reduceIte])
     exact ⟨g,if_neg fun e=>e.2.elim m N⟩
 rw[decide_eq_false Q]
 refine Z7 ?_
 refine K9 ?_
 by_cases a3:a=3
 ·subst a3
  rw[X3f] at*
  rw[decide_eq_true rfl]
  refine J3 ?_
  refine W4 ?_
  refine ld f t rfl ?_
  refine K9 ?_
  by_cases m:b=0
  case neg=>
   rw[decide_eq_false m]
   (try simp only[↓M1,M1,Mb,reduceIte])
   exact ⟨g,if_neg fun e=>m e.1.1⟩
  rw[decide_eq_true m]
  (try simp only[↓M1,M1,Mb,reduceIte])
  refine ld f t rfl ?_
  (try simp only[↓M1,M1,Mb,reduceIte])
  by_cases u:d=0
  case neg=>
   rw[decide_eq_false u]
   (try simp only[↓M1,M1,Mb,reduceIte])
   exact ⟨g,if_neg fun e=>u e.1.2⟩
  rw[decide_eq_true u]
  (try simp only[↓M1,M1,Mb,reduceIte])
  refine ld f t rfl ?_
  refine Ff X8 ?_
  refine Q4K ?_
  by_cases D:c.length≤4096
  case neg=>
   rw[decide_eq_false (show¬(c.length:Int)≤4096 by omega)]
   (try simp only[↓M1,M1,Mb,reduceIte])
   exact ⟨g,if_neg fun e=>D (by have:=e.2;simp only[W5,Bool.and_eq_true,decide_eq_true_eq] at this;exact this.1)⟩
  rw[decide_eq_true (show (c.length:Int)≤4096 by omega)]
  (try simp only[↓M1,M1,Mb,reduceIte])
  refine ld f t rfl ?_
  refine Q4c hb f fun W ab=>?_
  have J:=g.trans (Stp.of_below f ab)
  cases hv:Lib.validD c with
  | true=>
   (try simp only[↓M1,M1,Mb,reduceIte])
   exact k J (if_pos ⟨⟨m,u⟩,by simp[W5,hv,D]⟩)
  | false=>
   (try simp only[↓M1,M1,Mb,reduceIte])
   exact ⟨J,if_neg fun e=>by have:=e.2;simp[W5,hv] at this⟩
 rw[decide_eq_false a3]
 refine Z7 ?_
 refine K9 ?_
 by_cases U:a=4
 case neg=>
  rw[decide_eq_false U]
  exact Z7 ⟨g,X34 R Y Q a3 U⟩
 subst U
 rw[X3d] at*
 rw[decide_eq_true rfl]
 refine J3 ?_
 refine W4 ?_
 refine ld f t rfl ?_
 refine K9 ?_
 by_cases m:b=0
 case neg=>
  rw[decide_eq_false m]
  (try simp only[↓M1,M1,Mb,reduceIte])
  exact ⟨g,if_neg fun e=>m e.1⟩
 rw[decide_eq_true m]
 (try simp only[↓M1,M1,Mb,reduceIte])
 refine ld f t rfl ?_
 (try simp only[↓M1,M1,Mb,reduceIte])
 by_cases D:c=[]
 case neg=>
  rw[decide_eq_false D]
  (try simp only[↓M1,M1,Mb,reduceIte])
  exact ⟨g,if_neg fun e=>D e.2⟩
 rw[decide_eq_true D]
 (try simp only[↓M1,M1,Mb,reduceIte])
 refine ld f t rfl ?_
 refine P0 ?_
 rw[if_pos ⟨m,D⟩] at*
 by_cases u:0≤d
 case neg=>
  rw[decide_eq_false u]
  (try simp only[↓M1,M1,Mb,reduceIte])
  exact ⟨g,L d (by simp[M0,u])⟩
 rw[decide_eq_true u]
 (try simp only[↓M1,M1,Mb,reduceIte])
 refine ld f t rfl ?_
 refine ld f y rfl ?_
 refine Q8 X ?_
 refine Z2 ?_
 (try simp only[↓M1,M1,Mb,reduceIte])
 by_cases O:d<(cs.length:Int)
 case neg=>
  rw[decide_eq_false O]
  exact Z7 ⟨g,L d (by simp[M0,O])⟩
 rw[decide_eq_true O]
 refine J3 ?_
 obtain ⟨j,rfl,hj⟩:=N3.1 (show M0 cs d=true by simp[M0,u,O])
 obtain ⟨vv,p1,p2,_⟩:=Sl.elO X hj
 refine ld f y rfl ?_
 refine ld f t rfl ?_
 refine Y3 X hj ?_
 (try simp only[↓M1,M1,Mb,reduceIte])
 refine ld f p1 rfl ?_
 exact k g (Ye hj))
end Go.Proofs.YtjdiakhipmggjaaGreatDoor

namespace Go.Emb
open Go.RowKit Go.Hm
section
variable {α : Type} {P : Program} {R R' : Q5 → α → List Value → Prop} {sz : Nat} {e : TypeId} {σ σ0 σ' : Q5} {v u : Value} {xs ys : List α} {w w0 w' : World} {K : Value → World → Prop}
theorem X07 {t B:TypeId} {q:Nat} {z:Value} {cs:List Bool} [ts:TS P t e] [tz:TZ P e sz q z] [hr:Rep R] [hr':Rep R'] (O:Stp w0 σ0 w σ) (Z:V5 w0.heap.size e sz R σ w v xs) (J:X2 w σ') (Q:Sl sz R' σ' u ys) (hR: ∀x cs,R' σ' x cs→R σ x cs) (L:(z.cells.size==sz&&decide (0<sz))=true)
 (hb:(xs.length+ys.length)*q≤140737488355328) (hm:xs.length+ys.length≤9223372036854775807)
 (h: ∀f w',w.grownBy w' v.ownBlock→Stp w0 σ0 w' σ→V5 w0.heap.size e sz R σ w' f (xs++ys)→(f.ownBlock=v.ownBlock∨ ∀k,f.ownBlock=some k→w.heap.size≤k)→K f w'):X3 P .append [t,t] B cs [v,u] w K:=by
 obtain ⟨cells,y,U,h3⟩:=Z
 obtain ⟨a,m,c,rfl,Y,V,n3,n4,n5⟩:=Q.cells J
 obtain ⟨i,E,D,H,r⟩:=tz.info
 have s: ∀f w',(Builtin.append_ #[t,t] B #[v, .slice a ys.length m]).run P w= .ok f w'→w'.ownsRow w0.heap.size e sz f (xs.length+ys.length) (cells++c)→w.grownBy w' v.ownBlock→(f.ownBlock=v.ownBlock∨f.ownBlock=some w.heap.size)→X3 P .append [t,t] B cs [v, .slice a ys.length m] w K:=by
  intro f w' A d n hat
  have p:(builtin .append #[t,t] B cs.toArray #[v, .slice a ys.length m]).run P w= .ok (.value f) w':=by
   simp[builtin,A]
  unfold X3
  rw[T9];unfold P5
  rw[p]
  refine h f w' n (Stp.turn n O fun k o=>⟨(y.lt k o).1,U k o⟩) ⟨cells++c,by rw[List.length_append];exact d,?_,?_⟩ ?_
  ·intro k o
   rcases hat with hat | hat
   ·exact U k (hat▸o)
   ·rw[hat] at o;cases o;exact O.sat.none (Nat.le_refl _)
  ·intro j x C
   by_cases X:j<xs.length
   ·rw[List.getElem?_append_left X] at C
    rw[Wj cells c xs.length j y.1 X]
    exact h3 j x C
   ·rw[List.getElem?_append_right (by omega)] at C
    have:=hR _ _ (n5 _ _ C)
    rw[show j*sz=cells.length+(j-xs.length)*sz by rw[y.1,←Nat.add_mul];congr 1;omega,List.drop_append]
    simpa [List.drop_eq_nil_of_le] using this
  ·rcases hat with hat | hat
   ·exact .inl hat
   ·right;intro k o;rw[hat] at o;cases o;exact Nat.le_refl _
 simp only[Bool.and_eq_true,beq_iff_eq,decide_eq_true_eq] at L
 cases a with
 | some b=>
  obtain ⟨f,w',g1,g2,g3,_,g5⟩:=run_append_own_at (P:=P) w w0.heap.size t B e i z sz q ts.h E r D H L.1 L.2 v xs.length cells y b ys.length m c V (n3 b rfl) n4 (by simp only[maxLen];omega) hb O.bel.size
  exact s f w' g1 g2 g3 g5
 | none=>
  have hy:ys=[]:=List.eq_nil_of_length_eq_zero (by obtain ⟨a',W,e',q1,_,q3,_⟩:=Q;injection e' with _ e2 e3;have:=Y rfl;subst e3;omega)
  have M:=Y rfl
  subst hy M
  have hn:c=[]:=List.eq_nil_of_length_eq_zero (by simpa using V)
  subst hn
  have d:=y
  rcases y.2 with ⟨rfl,h0⟩ | ⟨g,m,aj,rfl,ac,hg,N,_⟩
  ·refine s (.slice none 0 0) w ?_ (by simpa using d) (World.grownBy.refl w _) (.inl rfl)
   simp[Builtin.append_,run_underlying ts.h,sizeOf,typeInfo,E,Builtin.lenOf,Builtin.firstCells]
  ·refine s _ w ?_ (by simpa using d) (World.grownBy.refl w _) (.inl rfl)
   simp[Builtin.append_,run_underlying ts.h,sizeOf,typeInfo,E,Builtin.lenOf,Builtin.firstCells,N,storeCells]
end
def Q5C {α:Type} (c:α) (ds:List Value) (_:Q5) (x:α) (cs:List Value):Prop:=x=c∧cs=ds∧ ∀u∈ds,u.oneCell'=true
instance {α:Type} (c:α) (ds:List Value):Rep (Q5C c ds):=⟨fun _ h=>h,fun h u hu=>h.2.2 u (h.2.1▸hu)⟩
end Go.Emb
namespace Go.Proofs.YtjdiakhipmggjaaGreatDoor
open Go.Emb Go.RowKit Go.Kd Go.Hm
variable {w w' : World} {K : Value → World → Prop} {σ σ' : Q5} {ds : List Value} {room : Int} {cs : List Cel} {l : List Cla}
theorem Q6a {d:Value} (b:Sl 2 R5 σ d cs) (r:Int):(D2 cs r).length≤U0:=by
 unfold D2
 split
 ·rename_i c
  obtain ⟨i,rfl,a⟩:=N3.1 c
  rw[W7 a]
  exact (Sl.elO b a).choose_spec.2.2
 ·exact Nat.zero_le _
theorem Q9V {b:Value} (a:Sl 2 R5 σ b cs) (v:Val):(K7 W5 cs v).length≤U0:=by
 unfold K7
 split
 ·decide
 split
 ·decide
 split
 ·decide
 split
 ·decide
 split
 ·exact Q6a a _
 ·exact Nat.zero_le _
theorem X2w {v:Val} {k:X0} (y:X2 w σ) (hh:D7 σ (Q4 l,room,cs) ds) (C:Wf l) (ok:Ok (Q4 l)) (g:(Q4 l).length≤1000) (E:v.s.length≤U0) (A:k.length≤U0) (h: ∀w' σ',Stp w σ w' σ'→K (.bool (B3 W5 (Q4 l) cs v k)) w'):Q1 P F.bA [.agg ds.toArray, .agg [I v.sort,I v.n,S v.s,I v.ref].toArray,S k] w K:=Ao (by
 have o:=hh
 obtain ⟨Q,O,rfl,H,D⟩:=D7.out hh
 unfold Oe
 refine Z0 y fun M w0 σ0 m t=>?_
 refine Z0 m.sat fun q w1 σ1 d B=>?_
 have j:=m.trans d
 have b:=d.sat
 have f:=t.up d
 refine Y4 b f rfl ?_
 refine Y4 b B rfl ?_
 refine X3T b (L3 o ⟨j.le⟩) E fun L U a=>?_
 have c:=j.trans a
 refine Vy ?_
 unfold B3 at h
 have p:=Q9V D v
 generalize K7 W5 cs v=z at*
 by_cases e:z=[]
 ·rw[decide_eq_true e] at h⊢
  (try simp only[↓M1,M1,Mb,reduceIte])
  exact h _ _ c
 ·rw[decide_eq_false e] at h⊢
  (try simp only[↓M1,M1,Mb,reduceIte])
  refine ld (i:=0) a.sat (f.up a) rfl ?_
  refine X1p a.sat (H.up c) C ok g p A fun N J r=>?_
  (try simp only[↓M1,M1,Mb,reduceIte])
  exact h _ _ (c.trans r))
theorem Hq {n a:Nat} {c b:Value} {e:Int} {o:List Value} {w1:World} {σ1:Q5} (s:Stp w σ w1 σ1) (i:Y1 σ1 w1 n [c,I room,b]) (f:Y1 σ1 w1 a o) (r:o.length=3) (k:w.heap.size≤a) (m:D7 σ1 (l,room,cs) [c,I room,b]) (h: ∀w' σ',Stp w σ w' σ'→D7 σ' (l,room,cs) [c,I room,b]→K (.tuple #[.agg [c,I room,b].toArray,I e]) w'):
 Q2 P T.a (.pointer (some ⟨n,0,none⟩)) w1 fun d w=>
 Y0 P T.a (.pointer (some ⟨a,0,none⟩)) d w fun _u w=>
 Y7 P T.a (.pointer (some ⟨a,0,none⟩)) w fun p=>
 K (.tuple #[p,(.int .i64 e)]) w:=
 Si i rfl (F8 f s k r rfl (Rep.one m) fun q g j=>V1 j rfl (h q σ1 g.stp m))
set_option maxHeartbeats 1000000 in
theorem Q9H {p Q b7:Nat} {Y cv x:Value} {k:X0} {vals:List Val} {zs:List Value} {w1:World} {σ1:Q5} (hS:Stp w σ w1 σ1) (M:Y1 σ1 w1 p [Y,I room,cv]) (aj:Y1 σ1 w1 Q zs) (aw:Y1 σ1 w1 b7 [S k,x]) (hz:zs.length=3) (a5:w.heap.size≤p) (a2:w.heap.size≤Q) (ag:p≠Q) (hl:Sl 8 V0 σ1 Y l) (hc:Sl 2 R5 σ1 cv cs) (hx:Sl 4 O3 σ1 x vals) (hk:k.length≤U0) (bq:cs.length≤10000000)
 (h: ∀ab w' σ',Stp w σ w' σ'→D7 σ' (l,room,cs++[⟨k,vals⟩]) [Y,I room,ab]→K (.tuple #[.agg [Y,I room,ab].toArray,I 0]) w'):
 dr w1 fun m U=>
 Q6 m (fun r=> ∀w,U w→fieldAddr P T.a (.pointer (some ⟨p,0,none⟩)) 2 w (dk m r w)) fun r=>
 Q6 m (fun t=> ∀w,U w→buildSlice P T.g 0 [] w (dk m t w)) fun t=>
 Q6 m (fun s=> ∀g w,U w→r g w→Q2 P T.g g w (dk m s w)) fun s=>
 Q6 m (fun H=> ∀f d w,U w→t f w→s d w→X3 P .append [T.g,T.g] T.g [false,false] [f,d] w (dk m H w)) fun H=>
 Q6 m (fun q=> ∀w,U w→Q2 P T.o (.pointer (some ⟨b7,0,none⟩)) w (dk m q w)) fun q=>
 Q6 m (fun E=> ∀i w,U w→q i w→buildSlice P T.g 1 [(0,i)] w (dk m E w)) fun E=>
 ∀g f d O i J w,U w→r g w→t f w→s d w→H O w→q i w→E J w→
 X3 P .append [T.g,T.g] T.g [false,false] [O,J] w fun bd w=>
 fieldAddr P T.a (.pointer (some ⟨p,0,none⟩)) 2 w fun ap w=>
 Y0 P T.g ap bd w fun _u w=>
 Q2 P T.a (.pointer (some ⟨p,0,none⟩)) w fun bb w=>
 Y0 P T.a (.pointer (some ⟨Q,0,none⟩)) bb w fun _u w=>
 Y7 P T.a (.pointer (some ⟨Q,0,none⟩)) w fun r0=>
 K (.tuple #[r0,(.int .i64 0)]) w:=by
 have a4:=hS.sat
 have Z:R5 σ1 ⟨k,vals⟩ [S k,x]:=⟨x,rfl,hx,hk⟩
 have b3:x.cells= #[x]:=by obtain ⟨a,c,rfl,_⟩:=hx;rfl
 have a8: ∀{w':World} {K:Value→World→Prop},Hst w1 σ1 w' σ1→K cv w'→Q2 P T.g (.pointer (some ((⟨p,0,none⟩:Addr).add 2))) w' K:=fun L hK=>Xx (M.up L.stp) rfl hK
 have a0: ∀{w':World} {K:Value→World→Prop},Hst w1 σ1 w' σ1→K (.agg [S k,x].toArray) w'→Q2 P T.o (.pointer (some ⟨b7,0,none⟩)) w' K:=fun L hK=>Si (aw.up L.stp) rfl hK
 refine U2 a4 ?_
 (repeat refine J6 Qt ?_)
 refine Q2X (R:=R5) (by decide) ?_
 refine J6 (V:=cv) (fun g w n e=>?_) ?_
 ·subst e;exact a8 n (E1 rfl)
 refine Q1p (w:=w1) (σ:=σ1) (R:=R5) (sz:=2) (e:=T.o) cs (fun f d w n ba ao=>?_) ?_
 ·obtain ⟨k1,a1,e1⟩:=ba
  subst ao
  exact X2n k1 a1 e1 (hc.up n.stp) rfl (by omega) (by omega) fun v' w' hk ha=>Q2A n hk ha
 refine J6 (V:= .agg [S k,x].toArray) (fun w n=>?_) ?_
 ·exact a0 n (E1 rfl)
 refine Wb (w:=w1) (σ:=σ1) (Φ:=fun σ' v=>Sl 2 (Q5C (⟨k,vals⟩:Cel) [S k,x]) σ' v [⟨k,vals⟩]) (fun i w n e=>?_) ?_
 ·subst e
  refine P6 (R:=Q5C (⟨k,vals⟩:Cel) [S k,x]) (sz:=2) n.sat [.agg [S k,x].toArray] [⟨k,vals⟩] rfl rfl (by simp[Value.cells]) rfl ⟨⟨rfl,rfl,Rep.one (R:=R5) Z⟩,trivial⟩ fun v w2 σ2 aq az=>Rm n aq az
 rintro g f d O i J w2 bo rfl _ rfl ⟨a6,av⟩ rfl ⟨σ3,k3,s3⟩
 refine X07 a6 av k3.sat s3 (fun y ds hy=>by obtain ⟨rfl,rfl,_⟩:=hy;exact Z) rfl (by simp;omega) (by simp;omega) fun v3 w3 b1 ar N _=>?_
 have hN:Stp w1 σ1 w3 σ1:=ar
 have C:=M.up hN
 have ai:=aj.up hN
 have aa:=Jt N
 refine W4 ?_
 refine Ug C (by simp) aa.1 aa.2 fun X u4 B=>?_
 have ad:=M.lt
 have ah:V5 w1.heap.size T.o 2 R5 σ1 X v3 (cs++[⟨k,vals⟩]):=N.kp (D:=fun j=>j=p) (.of_upd u4 rfl) fun j hj e=>by have:=(N.mem j hj).1;omega
 have A:=ai.upd u4 (fun e=>ag e.symm)
 have z:Stp w σ X σ1:=u4.stp (hS.trans hN) a5 C.1
 have af:X2 X σ1:=z.sat
 obtain ⟨σ5,s5,l5,f5,o5⟩:=(J8.of_acc ah).freeze af
 have W: ∀j,j<w1.heap.size→σ5 j=σ1 j:=fun j hj=>o5 j fun e=>by have:=(ah.mem j e.symm).1;omega
 have ak:Y1 σ5 X p [Y,I room,v3]:=⟨(W p ad).trans B.1,B.2⟩
 have ae:Y1 σ5 X Q zs:=⟨(W Q aj.lt).trans A.1,A.2⟩
 have ax:Stp w σ X σ5:=⟨z.bel,s5,fun b o e=>l5.le b o (z.le b o e),fun b n=>(W b (Nat.lt_of_lt_of_le n hS.bel.size)).trans (z.old b n)⟩
 exact Hq ax ak ae hz a2 ⟨Y,v3,rfl,hl.lift l5,f5⟩ fun w' σ' hk hr=>h v3 w' σ' hk hr
end Go.Proofs.YtjdiakhipmggjaaGreatDoor

namespace Go.Proofs.YtjdiakhipmggjaaGreatDoor
open Go.Emb Go.RowKit Go.Kd Go.Hm
variable {w w' : World} {K : Value → World → Prop} {σ σ' : Q5} {ds : List Value} {room : Int} {cs : List Cel} {l : List Cla}
set_option maxHeartbeats 1000000 in
theorem X0o {k:X0} (hs:X2 w σ) (hh:D7 σ (l,room,cs) ds) (ok:Ok l) (hlen:l.length≤1000) (hk:k.length≤U0) (h0:0≤V9 room cs) (h1:room≤1048576)
 (h: ∀ds' w' σ',Stp w σ w' σ'→D7 σ' (l,room,(Zn l room cs k).1) ds'→K (.tuple #[.agg ds'.toArray,I (Zn l room cs k).2]) w'):Q1 P F.bc [.agg ds.toArray,S k] w K:=Fo (by
 have hcl:=P9 cs
 obtain ⟨lv,cv,rfl,hl,hc⟩:=D7.out hh
 unfold Lb
 refine En hs fun b0 w1 σ1 hb0 hk1 hm0=>?_
 refine M8 hk1.sat fun b4 w2 σ2 hb4 hk2 hm4=>?_
 have hS2:=hk1.trans hk2
 have hB4:=M7 hb4 hk1
 have hb04:b0≠b4:=by have:=hm0.lt;omega
 have hm02:=hm0.up hk2
 have hl2:=hl.up hS2
 have hh2:=L3 hh ⟨hS2.le⟩
 unfold V9 at h0
 refine W4 ?_
 refine Xx (i:=0) hm02 rfl ?_
 refine Q8L hk2.sat hl2 ?_
 refine Wd ?_
 unfold Zn at h
 cases ho:T7 l k with
 | false=>
  rw[ho] at h
  simp only[if_pos] at h
  refine J3 ?_
  exact Hq hS2 hm02 hm4 rfl hB4 hh2 fun w' σ' hk hr=>h _ w' σ' hk hr
 | true=>
  rw[ho] at h
  simp only[Bool.true_eq_false,if_false] at h
  refine Z7 ?_
  refine W4 ?_
  refine Xx (i:=0) hm02 rfl ?_
  refine Kl hk2.sat hl2 ok.acy hlen ok.sm fun fv w3 σ3 hk3 hf=>?_
  have hS3:=hS2.trans hk3
  have hfl:=hf.max
  have hfl2:=Ax ok.sm ok.len k
  refine Q8 hf ?_
  refine Xg ⟨by omega,by omega⟩ ?_
  refine Si (hm02.up hk3) rfl ?_
  refine Q9m hk3.sat (L3 hh2 ⟨hk3.le⟩) (by unfold V9;exact h0) h1 fun w4 σ4 hk4=>?_
  have hk34:=hk3.trans hk4
  have hS4:=hS3.trans hk4
  have hm04:=hm02.up hk34
  have hm44:=hm4.up hk34
  have hh4:=L3 hh2 ⟨hk34.le⟩
  have hf4:=hf.up hk4
  rw[Ra]
  by_cases hg:V9 room cs<1+((Y5 l k).length:Int)
  ·rw[if_pos hg] at h
   have e:decide (1+((Y5 l k).length:Int)>V9 room cs)=true:=decide_eq_true hg
   rw[e]
   refine J3 ?_
   exact Hq hS4 hm04 hm44 rfl hB4 hh4 fun w' σ' hk hr=>h _ w' σ' hk hr
  rw[if_neg hg] at h
  have e:decide (1+((Y5 l k).length:Int)>V9 room cs)=false:=decide_eq_false hg
  rw[e]
  refine Z7 ?_
  unfold V9 at hg
  refine W1 (cells:= #[S k, .slice none 0 0]) (by kernel_rfl) ?_
  refine M8 hk4.sat fun b7 w5 σ5 hb7 hk5 hm7=>?_
  have hS5:=hS4.trans hk5
  have hB7:=M7 hb7 hS4
  refine Nk (ds:=[S k, .slice none 0 0]) hm7 rfl rfl (by rw[List.all_toArray];rfl) fun w6 u6 hm76=>?_
  have hS6:=u6.stp hS5 hB7 hm7.1
  have hb07:b0≠b7:=by have:=hm04.lt;omega
  have hb47:b4≠b7:=by have:=hm44.lt;omega
  have hm06:=(hm04.up hk5).upd u6 hb07
  have hm46:=(hm44.up hk5).upd u6 hb47
  have hf6:=(hf4.up hk5)
  have hc6:Sl 2 R5 σ5 cv cs:=hc.up hS5
  have hl6:Sl 8 V0 σ5 lv l:=hl.up hS5
  refine U1 (Y5 l k).length (fun n w'=> ∃σ' x,Stp w σ w' σ'∧SLe σ5 σ'∧Y1 σ' w' b0 [lv,I room,cv]∧Y1 σ' w' b4 _∧Y1 σ' w' b7 [S k,x]∧V5 w.heap.size T.f 4 O3 σ' w' x (((Y5 l k).take n).map fun f=>L7 f.kind)∧x.ownBlock≠some b0∧x.ownBlock≠some b4∧x.ownBlock≠some b7)
   ⟨σ5, .slice none 0 0,hS6,SLe.refl _,hm06,hm46,hm76,V5.nil,by simp[Value.ownBlock],by simp[Value.ownBlock],by simp[Value.ownBlock]⟩ fun n w7 d hn hinv=>?_
  obtain ⟨σ7,x,hS7,le7,hm07,hm47,hm77,ha7,hx0,hx4,hx7⟩:=hinv
  have hf7:=hf6.lift le7
  have hs7:=hS7.sat
  refine Q8 hf7 ?_
  refine Z2 ?_
  refine Q7 (fun hcc=>?_) (fun hcc=>?_)
  ·have hn':n<(Y5 l k).length:=by simpa using hcc
   obtain ⟨p1,r1⟩:=hf7.elF hn'
   have hrd: ∀{w':World} {K:Value→World→Prop},Hst w7 σ7 w' σ7→K x w'→Q2 P T.l (.pointer (some ((⟨b7,0,none⟩:Addr).add 1))) w' K:=fun hst hK=>Xx (hm77.up hst.stp) rfl hK
   refine U2 hs7 ?_
   (repeat (apply J6;(· intros;(repeat (rename_i hx;subst hx));(repeat' (first | (with_reducible exact E1 rfl) | (with_reducible exact B2 (Stp.bel (by (repeat (first | exact Stp.refl (by (first | assumption | exact Stp.sat (by assumption) | exact Hst.sat (by assumption))) | assumption | refine Stp.trans ?_ (by first | assumption | exact Hst.stp (by assumption)))))) rfl) | (with_reducible intro _) | (simp only[↓M2,M2,Mb,reduceIte]) | (with_reducible refine hrd au ?_) | (with_reducible show Q2 _ _ _ _ _;first | refine X7 aS aL aR ?_ | refine Y4 aS aL aR ?_ | refine ld aS aL aR ?_) | (with_reducible show indexAddr _ _ _ _ _ _;refine Y3 aL au ?_) | (with_reducible show X3 _ _ _ _ _ _ _ _;refine Q8 aL ?_) | (with_reducible show G1 _ _ _ _ _ _;refine J4 aR ?_) | (with_reducible show pick _ _ _ _ _ _;refine O5 ?_) | (with_reducible show Q1 _ _ _ _ _;first | refine Q9A au ?_) | (apply K1;intro hh;(try simp only[hh,reduceIte,↓M2,M2,Mb,reduceIte]))));done)))
   refine Wb (w:=w7) (σ:=σ7) (Φ:=fun σ' v=>Sl 4 O3 σ' v [L7 (Y5 l k)[n].kind]) (fun t41 w hb e=>?_) ?_
   ·subst e
    exact P6 (R:=O3) (sz:=4) hb.sat [_] [L7 (Y5 l k)[n].kind] rfl rfl (by simp[Value.cells]) rfl ⟨Gk _,trivial⟩ fun v w2 σ2 hk2 hv2=>Rm hb hk2 hv2
   rintro t34 t38 t39 t35 t40 t41 t42 w8 hb8 rfl rfl rfl rfl rfl rfl ⟨σ8,hk8,s8⟩
   refine X07 (w0:=w) (hS7.trans hb8.stp) (ha7.up hb8.stp) hk8.sat s8 (fun y ds hy=>hy) rfl (by simp;omega) (by simp;omega) fun x9 w9 hg9 hS9 ha9 hat9=>?_
   have hm08:=(hm07.up hb8.stp).turn hg9 fun e=>hx0 e.symm
   have hm48:=(hm47.up hb8.stp).turn hg9 fun e=>hx4 e.symm
   have hm78:=(hm77.up hb8.stp).turn hg9 fun e=>hx7 e.symm
   have hsz:=hb8.stp.bel.size
   have hnew: ∀b,b<w7.heap.size→x.ownBlock≠some b→x9.ownBlock≠some b:=fun b hb hxb e=>by
    rcases hat9 with e2 | e2
    ·exact hxb (e2▸e)
    ·have:=e2 b e;omega
   have hsh:=Jt ha9
   refine W4 ?_
   refine Ug hm78 (by simp) hsh.1 hsh.2 fun w10 u10 hm710=>?_
   refine L8 ?_
   have hx97:=hnew b7 hm77.lt hx7
   refine Y6 hfl hn' ⟨σ7,x9,u10.stp hS9 hB7 hm78.1,le7,hm08.upd u10 hb07,hm48.upd u10 hb47,hm710,?_,hnew b0 hm07.lt hx0,hnew b4 hm47.lt hx4,hx97⟩
   have:=ha9.kp (D:=fun j=>j=b7) (.of_upd u10 rfl) fun j hj e=>hx97 (e▸hj)
   rw[List.take_add_one,List.getElem?_eq_getElem hn',List.map_append]
   exact this
  ·have hn': ¬n<(Y5 l k).length:=by simpa using hcc
   rw[List.take_of_length_le (by omega)] at ha7
   obtain ⟨σ9,hS9,hx9,le9,o9⟩:=ha7.keep hS7
   have mk: ∀{b:Nat} {zs:List Value},Y1 σ7 w7 b zs→x.ownBlock≠some b→Y1 σ9 w7 b zs:=fun hm hne=>⟨(o9 _ fun e=>hne e.symm).trans hm.1,hm.2⟩
   have le59:SLe σ5 σ9:=le7.more ⟨le9⟩
   refine Q9H hS9 (mk hm07 hx0) (mk hm47 hx4) (mk hm77 hx7) rfl hb0 hB4 hb04 (hl6.lift le59) (hc6.lift le59) hx9 hk (by omega) fun cv' w' σ' hk' hr=>h _ w' σ' hk' hr)
set_option maxHeartbeats 1000000 in
theorem X27 {k:X0} {n:Int} (hs:X2 w σ) (hh:D7 σ (l,room,cs) ds) (hk:k.length≤U0) (h0:0≤V9 room cs) (h1:room≤1048576)
 (h: ∀ds' w' σ',Stp w σ w' σ'→D7 σ' (l,room,(Zj l room cs k n).1) ds'→K (.tuple #[.agg ds'.toArray,I (Zj l room cs k n).2]) w'):Q1 P F.bl [.agg ds.toArray,S k,I n] w K:=Pa (by
 have hcl:=P9 cs
 have htn:=L9 cs
 obtain ⟨lv,cv,rfl,hl,hc⟩:=D7.out hh
 unfold Ls
 refine En hs fun b0 w1 σ1 hb0 hk1 hm0=>?_
 refine M8 hk1.sat fun b4 w2 σ2 hb4 hk2 hm4=>?_
 have hS2:=hk1.trans hk2
 have hB4:=M7 hb4 hk1
 have hb04:b0≠b4:=by have:=hm0.lt;omega
 have hm02:=hm0.up hk2
 have hl2:=hl.up hS2
 have hh2:=L3 hh ⟨hS2.le⟩
 unfold V9 at h0
 unfold Zj at h
 have hbad:G0 l k=false→Q2 P T.a (.pointer (some ⟨b0,0,none⟩)) w2 fun t14 w=>
  Y0 P T.a (.pointer (some ⟨b4,0,none⟩)) t14 w fun _u w=>
  Y7 P T.a (.pointer (some ⟨b4,0,none⟩)) w fun r0=>
  K (.tuple #[r0,(.int .i64 91)]) w:=fun ho=>by
  rw[ho] at h
  simp only[if_pos] at h
  exact Hq hS2 hm02 hm4 rfl hB4 hh2 fun w' σ' hk hr=>h _ w' σ' hk hr
 refine K6 ?_
 by_cases hnull:k=H6
 ·rw[show decide (k=[110,117,108,108])=true from decide_eq_true hnull]
  (try simp only[O7,E0,R6,W2,W6,W8,M4,M5,H4,Bool.not_true,Bool.not_false])
  exact hbad (by simp[G0,hnull])
 rw[show decide (k=[110,117,108,108])=false from decide_eq_false hnull]
 (try simp only[O7,E0,R6,W2,W6,W8,M4,M5,H4,Bool.not_true,Bool.not_false])
 refine W4 ?_
 refine Xx (i:=0) hm02 rfl ?_
 refine Dj hk2.sat hl2 hk ?_
 refine Wd ?_
 cases hkm:N0 l k with
 | false=>
  (try simp only[O7,E0,R6,W2,W6,W8,M4,M5,H4,Bool.not_true,Bool.not_false])
  exact hbad (by simp[G0,hkm])
 | true=>
  (try simp only[O7,E0,R6,W2,W6,W8,M4,M5,H4,Bool.not_true,Bool.not_false])
  refine Sd k (Nat.le_trans hk (by decide)) ?_
  have hr:right k=true:=by
   have:=hkm
   simp only[N0,Bool.or_eq_true,Bool.and_eq_true,decide_eq_true_eq] at this
   rcases this with h1 | h1
   ·exact absurd h1 hnull
   ·exact h1.1
  have hdp:Xf k=(base k).2:=by unfold Xf;rw[if_pos hr]
  have hel:G0 l k=decide ((base k).2≤2):=by
   unfold G0;rw[hkm,decide_eq_false hnull,hdp];rfl
  refine Q1v ?_
  by_cases hd2:(2:Int)<((base k).2:Int)
  ·rw[decide_eq_true hd2]
   refine J3 ?_
   exact hbad (by rw[hel,decide_eq_false_iff_not];omega)
  rw[decide_eq_false hd2]
  refine Z7 ?_
  have ho:G0 l k=true:=by rw[hel,decide_eq_true_eq];omega
  rw[ho] at h
  simp only[Bool.true_eq_false,if_false] at h
  refine Z2 ?_
  by_cases hn0:n<0
  ·rw[if_pos hn0] at h
   rw[decide_eq_true hn0]
   refine J3 ?_
   exact Hq hS2 hm02 hm4 rfl hB4 hh2 fun w' σ' hk hr=>h _ w' σ' hk hr
  rw[if_neg hn0] at h
  rw[decide_eq_false hn0]
  refine Z7 ?_
  refine Q1v ?_
  have hbad2: ∀{w3 σ3},Stp w2 σ2 w3 σ3→V9 room cs≤n→Q2 P T.a (.pointer (some ⟨b0,0,none⟩)) w3 fun t14 w=>
   Y0 P T.a (.pointer (some ⟨b4,0,none⟩)) t14 w fun _u w=>
   Y7 P T.a (.pointer (some ⟨b4,0,none⟩)) w fun r0=>
   K (.tuple #[r0,(.int .i64 90)]) w:=fun {w3 σ3} hS hle=>by
   rw[if_pos hle] at h
   exact Hq (hS2.trans hS) (hm02.up hS) (hm4.up hS) rfl hB4 (L3 hh2 ⟨hS.le⟩) fun w' σ' hk hr=>h _ w' σ' hk hr
  by_cases hbig:(1048576:Int)<n
  ·rw[decide_eq_true hbig]
   (try simp only[O7,E0,R6,W2,W6,W8,M4,M5,H4,Bool.not_true,Bool.not_false])
   exact hbad2 (Stp.refl hk2.sat) (by unfold V9;omega)
  rw[decide_eq_false hbig]
  (try simp only[O7,E0,R6,W2,W6,W8,M4,M5,H4,Bool.not_true,Bool.not_false])
  refine Xg ⟨by omega,by omega⟩ ?_
  refine Si hm02 rfl ?_
  refine Q9m hk2.sat hh2 (by unfold V9;exact h0) h1 fun w4 σ4 hk4=>?_
  rw[Ra]
  by_cases hg:V9 room cs≤n
  ·rw[show decide (1+n>V9 room cs)=true from decide_eq_true (by omega)]
   refine J3 ?_
   exact hbad2 hk4 hg
  rw[if_neg hg] at h
  rw[show decide (1+n>V9 room cs)=false from decide_eq_false (by omega)]
  refine Z7 ?_
  have hS4:=hS2.trans hk4
  have hm04:=hm02.up hk4
  have hm44:=hm4.up hk4
  obtain ⟨m,rfl⟩:=Int.eq_ofNat_of_zero_le (Int.not_lt.1 hn0)
  rw[Int.toNat_natCast] at h
  unfold V9 at hg
  have hr38:=Gm hr
  refine Hy (by simp only[List.length_cons,List.length_nil];omega) ?_
  refine W1 (cells:= #[S (k++[91,93]), .slice none 0 0]) (by kernel_rfl) ?_
  refine M8 hk4.sat fun b7 w5 σ5 hb7 hk5 hm7=>?_
  have hS5:=hS4.trans hk5
  have hB7:=M7 hb7 hS4
  refine Nk (ds:=[S (k++[91,93]), .slice none 0 0]) hm7 rfl rfl (by rw[List.all_toArray];rfl) fun w6 u6 hm76=>?_
  have hS6:=u6.stp hS5 hB7 hm7.1
  have hb07:b0≠b7:=by have:=hm04.lt;omega
  have hb47:b4≠b7:=by have:=hm44.lt;omega
  have hm06:=(hm04.up hk5).upd u6 hb07
  have hm46:=(hm44.up hk5).upd u6 hb47
  have hc6:Sl 2 R5 σ5 cv cs:=hc.up hS5
  have hl6:Sl 8 V0 σ5 lv l:=hl.up hS5
  refine U1 m (fun n w'=> ∃σ' x,Stp w σ w' σ'∧SLe σ5 σ'∧Y1 σ' w' b0 [lv,I room,cv]∧Y1 σ' w' b4 _∧Y1 σ' w' b7 [S (k++[91,93]),x]∧V5 w.heap.size T.f 4 O3 σ' w' x (List.replicate n (L7 k))∧x.ownBlock≠some b0∧x.ownBlock≠some b4∧x.ownBlock≠some b7)
   ⟨σ5, .slice none 0 0,hS6,SLe.refl _,hm06,hm46,hm76,V5.nil,by simp[Value.ownBlock],by simp[Value.ownBlock],by simp[Value.ownBlock]⟩ fun n w7 d hn hinv=>?_
  obtain ⟨σ7,x,hS7,le7,hm07,hm47,hm77,ha7,hx0,hx4,hx7⟩:=hinv
  have hs7:=hS7.sat
  refine Z2 ?_
  refine Q7 (fun hcc=>?_) (fun hcc=>?_)
  ·have hn':n<m:=by simpa using hcc
   have hrd: ∀{w':World} {K:Value→World→Prop},Hst w7 σ7 w' σ7→K x w'→Q2 P T.l (.pointer (some ((⟨b7,0,none⟩:Addr).add 1))) w' K:=fun hst hK=>Xx (hm77.up hst.stp) rfl hK
   refine U2 hs7 ?_
   (repeat (apply J6;(· intros;(repeat (rename_i hx;subst hx));(repeat' (first | (with_reducible exact E1 rfl) | (with_reducible exact B2 (Stp.bel (by (repeat (first | exact Stp.refl (by (first | assumption | exact Stp.sat (by assumption) | exact Hst.sat (by assumption))) | assumption | refine Stp.trans ?_ (by first | assumption | exact Hst.stp (by assumption)))))) rfl) | (with_reducible intro _) | (simp only[↓M2,M2,Mb,reduceIte]) | (with_reducible refine hrd au ?_) | (with_reducible show Q2 _ _ _ _ _;first | refine X7 aS aL aR ?_ | refine Y4 aS aL aR ?_ | refine ld aS aL aR ?_) | (with_reducible show indexAddr _ _ _ _ _ _;refine Y3 aL au ?_) | (with_reducible show X3 _ _ _ _ _ _ _ _;refine Q8 aL ?_) | (with_reducible show G1 _ _ _ _ _ _;refine J4 aR ?_) | (with_reducible show pick _ _ _ _ _ _;refine O5 ?_) | (with_reducible show Q1 _ _ _ _ _;first | refine Q9A au ?_) | (apply K1;intro hh;(try simp only[hh,reduceIte,↓M2,M2,Mb,reduceIte]))));done)))
   refine Wb (w:=w7) (σ:=σ7) (Φ:=fun σ' v=>Sl 4 O3 σ' v [L7 k]) (fun t41 w hb e=>?_) ?_
   ·subst e
    exact P6 (R:=O3) (sz:=4) hb.sat [_] [L7 k] rfl rfl (by simp[Value.cells]) rfl ⟨Gk _,trivial⟩ fun v w2 σ2 hk2 hv2=>Rm hb hk2 hv2
   rintro t46 t47 t49 t50 w8 hb8 rfl rfl rfl ⟨σ8,hk8,s8⟩
   refine X07 (w0:=w) (hS7.trans hb8.stp) (ha7.up hb8.stp) hk8.sat s8 (fun y ds hy=>hy) rfl (by simp;omega) (by simp;omega) fun x9 w9 hg9 hS9 ha9 hat9=>?_
   have hm08:=(hm07.up hb8.stp).turn hg9 fun e=>hx0 e.symm
   have hm48:=(hm47.up hb8.stp).turn hg9 fun e=>hx4 e.symm
   have hm78:=(hm77.up hb8.stp).turn hg9 fun e=>hx7 e.symm
   have hsz:=hb8.stp.bel.size
   have hnew: ∀b,b<w7.heap.size→x.ownBlock≠some b→x9.ownBlock≠some b:=fun b hb hxb e=>by
    rcases hat9 with e2 | e2
    ·exact hxb (e2▸e)
    ·have:=e2 b e;omega
   have hsh:=Jt ha9
   refine W4 ?_
   refine Ug hm78 (by simp) hsh.1 hsh.2 fun w10 u10 hm710=>?_
   refine L8 ?_
   have hx97:=hnew b7 hm77.lt hx7
   refine Y6 (by omega) hn' ⟨σ7,x9,u10.stp hS9 hB7 hm78.1,le7,hm08.upd u10 hb07,hm48.upd u10 hb47,hm710,?_,hnew b0 hm07.lt hx0,hnew b4 hm47.lt hx4,hx97⟩
   have:=ha9.kp (D:=fun j=>j=b7) (.of_upd u10 rfl) fun j hj e=>hx97 (e▸hj)
   rw[List.replicate_succ']
   exact this
  ·have hn': ¬n<m:=by simpa using hcc
   have hnm:n=m:=by omega
   subst hnm
   obtain ⟨σ9,hS9,hx9,le9,o9⟩:=ha7.keep hS7
   have mk: ∀{b:Nat} {zs:List Value},Y1 σ7 w7 b zs→x.ownBlock≠some b→Y1 σ9 w7 b zs:=fun hm hne=>⟨(o9 _ fun e=>hne e.symm).trans hm.1,hm.2⟩
   have le59:SLe σ5 σ9:=le7.more ⟨le9⟩
   refine Q9H hS9 (mk hm07 hx0) (mk hm47 hx4) (mk hm77 hx7) rfl hb0 hB4 hb04 (hl6.lift le59) (hc6.lift le59) hx9 (Nat.le_trans (show (k++[91,93]).length≤40 by simp only[List.length_append,List.length_cons,List.length_nil];omega) (by decide)) (by omega) fun cv' w' σ' hk' hr=>h _ w' σ' hk' hr)
end Go.Proofs.YtjdiakhipmggjaaGreatDoor

namespace Go.Emb
open Go.RowKit Go.Hm
section
variable {α : Type} {P : Program} {R : Q5 → α → List Value → Prop} {B sz : Nat} {e : TypeId} {σ σ0 : Q5} {v u : Value} {xs : List α} {w w0 w' : World} {K : Value → World → Prop}
theorem X0M {t:TypeId} {b:Nat} {z:Value} [TS P t e] [TZ P e sz b z] (h:J8 B e sz R σ w v xs) {n:Nat} (m:n<xs.length) (c:K (.pointer (some (Vp sz v n))) w):indexAddr P t v (I n) w K:=by
 obtain ⟨a,i,rfl,o,p,d,f⟩:=h
 obtain ⟨g,j,k,rfl,q⟩:=f (by omega)
 rw[Ro (by omega) (by omega)]
 simpa [Vp] using c
theorem J8.elQ (h:J8 B e sz R σ w v xs) {n:Nat} (p:n<xs.length): ∃cs,cs.length=sz∧R σ xs[n] cs∧ ∀j u,cs[j]? =some u→w.cell? ((Vp sz v n).add j)=some u:=by
 obtain ⟨a,d,rfl,t,q,i,k⟩:=h
 obtain ⟨g,b,f,rfl,s,r,m,y,o⟩:=k (by omega)
 have hh:n*sz+sz≤d*sz:=by rw[←Nat.succ_mul];exact Nat.mul_le_mul_right _ (by omega)
 refine ⟨(f.toList.drop (b+n*sz)).take sz,by rw[List.length_take,List.length_drop,Array.length_toList];omega,o n _ (by simp[p]),fun j u c=>?_⟩
 rw[List.getElem?_take] at c
 split at c
 ·rw[List.getElem?_drop] at c
  have e:Vp sz (.slice (some ⟨g,b,none⟩) xs.length d) n=(⟨g,b,none⟩:Addr).add (n*sz):=rfl
  rw[e]
  unfold World.cell?
  rw[R9,R9,A7,A7,I1 (I1 rfl _)]
  simp only[m]
  simpa using c
 ·cases c
theorem X3S {t:TypeId} {c:Nat} {z:Value} [tz:TZ P t 1 c z] {b i:Nat} {cs:List Value} {v:Value} (d:w.heap[b]? =some (.cells cs.toArray e (0,0))) (f:i<cs.length) (m:v.cells= #[v]) (k:v.oneCell'=true)
 (h: ∀w',Upd w b w'→w'.heap[b]? =some (.cells (cs.set i v).toArray e (0,0))→K undef w'):Y0 P t (.pointer (some ((⟨b,0,none⟩:Addr).add i))) v w K:=by
 unfold Y0
 have a:(⟨b,0,none⟩:Addr).add i=⟨b,i,none⟩:=by unfold Addr.add;split<;>simp_all
 have:=run_storeCells_at P b i e [v] 0 cs.toArray w d (by simp;omega) (by simpa using k)
 simp only[Nat.add_zero] at this
 obtain ⟨j,hh⟩:=My (cs:=(cs.set i v).toArray) d
 have g:(List.take i cs.toArray.toList++[v]++List.drop (i+[v].length) cs.toArray.toList).toArray=(cs.set i v).toArray:=by
  rw[←Q74 f];simp
 rw[g] at this
 rw[Ww (w':=w.setRow b (cs.set i v).toArray) (by simp[Instr.storeAt,Instr.sureAddr,a,storeVar,L2 tz,m,this])]
 exact h _ j hh
theorem X2p {t:TypeId} {A n c:Nat} {z:Value} {x:α} [tz:TZ P t 1 A z] (hS:Stp w0 σ0 w σ) (O:J8 w0.heap.size e sz R σ w v xs) (hn:n<xs.length) (hc:c<sz) (Q:u.cells= #[u]) (V:u.oneCell'=true) (W: ∀cs,cs.length=sz→R σ xs[n] cs→R σ x (cs.set c u))
 (h: ∀w',Kpt (fun k=>v.ownBlock=some k) w w'→Stp w0 σ0 w' σ→J8 w0.heap.size e sz R σ w' v (xs.set n x)→K undef w'):Y0 P t (.pointer (some ((Vp sz v n).add c))) u w K:=by
 obtain ⟨a,i,rfl,U,c2,f,X⟩:=O
 obtain ⟨g,d,p,rfl,J,s,E,q4,H⟩:=X (by omega)
 have hh:n*sz+sz≤i*sz:=by rw[←Nat.succ_mul];exact Nat.mul_le_mul_right _ (by omega)
 have hm:Y1 σ w g p.toList:=⟨s,e,by simpa using E⟩
 have Z:=Array.length_toList (xs:=p)
 have Y:(Vp sz (.slice (some ⟨g,d,none⟩) xs.length i) n).add c=(⟨g,0,none⟩:Addr).add (d+n*sz+c):=by
  simp only[Vp,Q3C]
  unfold Addr.add
  split<;>split<;>simp_all<;>omega
 rw[Y]
 refine X3S (e:=e) (by simpa using E) (by omega) Q V fun w' r M=>?_
 refine h w' (Kpt.of_upd r rfl) (r.stp hS J s) ⟨_,i,by rw[List.length_set],by rw[List.length_set];exact U,c2,fun b q=>⟨(f b q).1,(f b q).2.1,by rw[r.size];exact (f b q).2.2.1,(f b q).2.2.2⟩,fun _=>⟨g,d,_,rfl,J,s,M,by simp;omega,fun j y o=>?_⟩⟩
 rw[List.toList_toArray]
 have m:j<xs.length:=by have:=(List.getElem?_eq_some_iff.1 o).1;simpa using this
 have N:j*sz+sz≤i*sz:=by rw[←Nat.succ_mul];exact Nat.mul_le_mul_right _ (by omega)
 rw[List.drop_set]
 by_cases L:j=n
 ·subst L
  rw[List.getElem?_set_self m] at o
  cases o
  rw[if_neg (by omega),List.take_set,show d+j*sz+c-(d+j*sz)=c by omega]
  exact W _ (by rw[List.length_take,List.length_drop];omega) (H j _ (by simp[m]))
 ·rw[List.getElem?_set_ne (by omega)] at o
  have:=H j y o
  rcases Nat.lt_or_gt_of_ne L with D | hgt
  ·have C:j*sz+sz≤n*sz:=by rw[←Nat.succ_mul];exact Nat.mul_le_mul_right _ D
   rw[if_neg (by omega),List.take_set,List.set_eq_of_length_le (by rw[List.length_take];omega)]
   exact this
  ·have C:n*sz+sz≤j*sz:=by rw[←Nat.succ_mul];exact Nat.mul_le_mul_right _ hgt
   rw[if_pos (by omega)]
   exact this
end
end Go.Emb
namespace Go.Proofs.YtjdiakhipmggjaaGreatDoor
open Go.Emb Go.RowKit Go.Kd Go.Hm
variable {w w' : World} {K : Value → World → Prop} {σ σ' : Q5} {ds : List Value} {room : Int} {cs : List Cel} {l : List Cla}
theorem Q59 (f:Y8 cs≤1048576) {j:Nat} (a:j<cs.length):(cs[j].vals.length:Int)≤1048576:=by
 have e:Y8 cs=Y8 (cs.take j)+Y8 (cs.drop j):=by rw[←I5,List.take_append_drop]
 have b:Y8 (cs.drop j)=(1+(cs[j].vals.length:Int))+Y8 (cs.drop (j+1)):=by
  rw[List.drop_eq_getElem_cons a];simp only[Y8,List.map_cons,List.sum_cons]
 have d:=L9 (cs.take j)
 have c:=L9 (cs.drop (j+1))
 omega
theorem X3m {d i:Nat} {p cv x:Value} {n:List Cel} {W:List Value} {w0 w1:World} {σ0 σ1:Q5} (hS:Stp w σ w0 σ0) (M:Stp w0 σ0 w1 σ1) (C:Y1 σ1 w1 d [p,I room,cv]) (O:Y1 σ1 w1 i W) (hz:W.length=3) (J:d<w0.heap.size) (U:i<w0.heap.size) (H:w.heap.size≤d) (X:w.heap.size≤i) (q:d≠i) (hl:Sl 8 V0 σ1 p l) (Q:J8 w0.heap.size T.o 2 R5 σ1 w1 x n)
 (h: ∀t w' σ',Stp w σ w' σ'→D7 σ' (l,room,n) [p,I room,t]→K (.tuple #[.agg [p,I room,t].toArray,I 0]) w'):
 Y0 P T.g (.pointer (some ((⟨d,0,none⟩:Addr).add 2))) x w1 fun _u w=>
 Q2 P T.a (.pointer (some ⟨d,0,none⟩)) w fun L w=>
 Y0 P T.a (.pointer (some ⟨i,0,none⟩)) L w fun _u w=>
 Y7 P T.a (.pointer (some ⟨i,0,none⟩)) w fun r0=>
 K (.tuple #[r0,(.int .i64 0)]) w:=by
 have r:x.cells= #[x]∧x.oneCell'=true:=by obtain ⟨a,c,rfl,_⟩:=Q;exact ⟨rfl,rfl⟩
 refine Ug C (by simp) r.1 r.2 fun z N g=>?_
 have s:J8 w0.heap.size T.o 2 R5 σ1 z x n:=Q.kp (D:=fun j=>j=d) (.of_upd N rfl) fun j Z e=>by have:=(Q.mem Z).1;omega
 have k:=O.upd N (fun e=>q e.symm)
 have f:Stp w σ z σ1:=N.stp (hS.trans M) H C.1
 obtain ⟨E,s5,Y,f5,o5⟩:=s.freeze f.sat
 have m: ∀j,j<w0.heap.size→E j=σ1 j:=fun j Z=>o5 j fun e=>by have:=(s.mem e.symm).1;omega
 have A:Y1 E z d [p,I room,x]:=⟨(m d J).trans g.1,g.2⟩
 have y:Y1 E z i W:=⟨(m i U).trans k.1,k.2⟩
 have V:Stp w σ z E:=⟨f.bel,s5,fun b o e=>Y.le b o (f.le b o e),fun b hb=>(m b (Nat.lt_of_lt_of_le hb hS.bel.size)).trans (f.old b hb)⟩
 exact Hq V A y hz X ⟨p,x,rfl,hl.lift Y,f5⟩ fun w' σ' M hr=>h x w' σ' M hr
set_option maxHeartbeats 2000000 in
theorem X38 {r i:Int} {v:Val} (hs:X2 w σ) (hh:D7 σ (Q4 l,room,cs) ds) (wf:Wf l) (ok:Ok (Q4 l)) (hlen:(Q4 l).length≤1000) (good: ∀c∈cs,GoodC W5 (Q4 l) cs c) (hl1:Y8 cs≤1048576) (hv:O3 σ v [I v.sort,I v.n,S v.s,I v.ref])
 (h: ∀ds' w' σ',Stp w σ w' σ'→D7 σ' (Q4 l,room,(H5 W5 (Q4 l) cs r i v).1) ds'→K (.tuple #[.agg ds'.toArray,I (H5 W5 (Q4 l) cs r i v).2]) w'):Q1 P F.bN [.agg ds.toArray,I r,I i, .agg [I v.sort,I v.n,S v.s,I v.ref].toArray] w K:=Q05 (by
 have hcl:=P9 cs
 obtain ⟨lv,cv,rfl,hl,hc⟩:=D7.out hh
 unfold El
 refine En hs fun b0 w1 σ1 hb0 hk1 hm0=>?_
 refine Z0 hk1.sat fun q w2 σ2 hk2 hq=>?_
 have hS2:=hk1.trans hk2
 refine M8 hk2.sat fun b4 w3 σ3 hb4 hk3 hm4=>?_
 have hS3:=hS2.trans hk3
 have hB4:=M7 hb4 hS2
 have hm02:=hm0.up hk2
 have hb04:b0≠b4:=by have:=hm02.lt;omega
 have hm03:=hm02.up hk3
 have hh3:=L3 hh ⟨hS3.le⟩
 have hq3:=hq.up hk3
 refine Si hm03 rfl ?_
 refine Q73 hk3.sat hh3 fun w4 σ4 hk4=>?_
 have hS4:=hS3.trans hk4
 have hm04:=hm03.up hk4
 have hm44:=hm4.up hk4
 have hh4:=L3 hh3 ⟨hk4.le⟩
 have hq4:=hq3.up hk4
 unfold H5 at h
 refine Zz ?_
 by_cases h0:E2 cs r i=0
 case neg=>
  rw[decide_eq_false h0]
  rw[if_pos h0] at h
  refine J3 ?_
  exact Hq hS4 hm04 hm44 rfl hB4 hh4 fun w' σ' hk hr=>h _ w' σ' hk hr
 rw[decide_eq_true h0]
 rw[if_neg (fun hn=>hn h0)] at h
 refine Z7 ?_
 obtain ⟨j,m,rfl,rfl,hj,hm⟩:=Ll h0
 rw[W7 hj,Int.toNat_natCast] at h
 have hc4:=hc.up hS4
 obtain ⟨vv,p1,p2,p3⟩:=Sl.elO hc4 hj
 have hgc:=good cs[j] (List.getElem_mem hj)
 have hif:elem cs[j].kind=[]→m<(Y5 (Q4 l) cs[j].kind).length:=fun e=>by
  rcases hgc.is with h | h
  ·exact absurd e h
  ·rw[←h.2];exact hm
 have hs4:=hk4.sat
 have hr0: ∀{w':World} {K:Value→World→Prop},Hst w4 σ4 w' σ4→K (.agg [lv,I room,cv].toArray) w'→Q2 P T.a (.pointer (some ⟨b0,0,none⟩)) w' K:=fun hst hK=>Si (hm04.up hst.stp) rfl hK
 have hr1: ∀{w':World} {K:Value→World→Prop},Hst w4 σ4 w' σ4→K cv w'→Q2 P T.g (.pointer (some ((⟨b0,0,none⟩:Addr).add 2))) w' K:=fun hst hK=>Xx (hm04.up hst.stp) rfl hK
 refine U2 hs4 ?_
 (repeat (apply J6;(· intros;(repeat (rename_i hx;subst hx));(repeat' (first | (with_reducible exact E1 rfl) | (with_reducible exact B2 (Stp.bel (by (repeat (first | exact Stp.refl (by (first | assumption | exact Stp.sat (by assumption) | exact Hst.sat (by assumption))) | assumption | refine Stp.trans ?_ (by first | assumption | exact Hst.stp (by assumption)))))) rfl) | (with_reducible intro _) | (simp only[↓M2,M2,Mb,reduceIte]) | (with_reducible refine hr0 au ?_) | (with_reducible refine hr1 au ?_) | (with_reducible show Q2 _ _ _ _ _;first | refine X7 aS aL aR ?_ | refine Y4 aS aL aR ?_ | refine ld aS aL aR ?_) | (with_reducible show indexAddr _ _ _ _ _ _;refine Y3 aL au ?_) | (with_reducible show X3 _ _ _ _ _ _ _ _;refine Q8 aL ?_) | (with_reducible show G1 _ _ _ _ _ _;refine J4 aR ?_) | (with_reducible show pick _ _ _ _ _ _;refine O5 ?_) | (with_reducible show Q1 _ _ _ _ _;first | refine X2C au au au au au au ?_) | (apply K1;intro hh;(try simp only[hh,reduceIte,↓M2,M2,Mb,reduceIte]))));done)))
 (intros;(repeat (rename_i hx;subst hx)))
 rename_i w5 hb5
 have hS5:=hS4.trans hb5.stp
 refine X2w hb5.sat hh4 wf ok hlen hv.2.2.2.1 (Q2f ok p3 m) fun wA σA hkA=>?_
 have hk4A:=hb5.stp.trans hkA
 have hSA:=hS4.trans hk4A
 have hm0A:=hm04.up hk4A
 have hm4A:=hm44.up hk4A
 have hhA:=L3 hh4 ⟨hk4A.le⟩
 have hqA:=hq4.up hk4A
 have hsA:=hkA.sat
 refine Wd ?_
 cases hf:B3 W5 (Q4 l) cs v (Xe (Q4 l) cs[j].kind m) with
 | false=>
  rw[hf] at h
  simp only[Bool.false_eq_true,if_false] at h
  refine J3 ?_
  exact Hq hSA hm0A hm4A rfl hB4 hhA fun w' σ' hk hr=>h _ w' σ' hk hr
 | true=>
  rw[hf] at h
  simp only[if_true] at h
  refine Z7 ?_
  have hcA:=hc.up hSA
  have hlA:=hl.up hSA
  have hvl:=Q59 hl1 hj
  refine Ed (R:=R5) (e:=T.o) (Stp.refl hsA) (by decide) fun x1 wA1 hkA1 ha1 _=>?_
  refine W4 ?_
  refine Xx (hm0A.up hkA1) rfl ?_
  refine Vw hkA1 ha1 (hcA.up hkA1) rfl (by simp;omega) (by simp;omega) fun x2 wB _ hkB ha2 _=>?_
  rw[List.nil_append] at ha2
  have hsB:=hkB.sat
  refine Ed (R:=O3) (e:=T.f) (Stp.refl hsB) (by decide) fun y1 wB1 hkB1 hy1 _=>?_
  have hq2:=J8.of_acc (ha2.up hkB1)
  refine X0M hq2 hj ?_
  obtain ⟨cs5,hl5,⟨vv5,rfl,p5,_⟩,hcell⟩:=hq2.elQ hj
  refine W4 ?_
  refine A6 (hcell 1 vv5 rfl) ?_
  refine Vw hkB1 hy1 p5 rfl (by simp;omega) (by simp;omega) fun y2 wB2 _ hkB2 hy2 _=>?_
  rw[List.nil_append] at hy2
  refine Y4 hkB2.sat ((hqA.up hkB).up hkB2) rfl ?_
  refine Q2P (x:=v) hkB2 (J8.of_acc hy2) hm rfl (show O3 σA v _ from hv) (Rep.one (R:=O3) (σ:=σA) hv) fun p u w6 _ hb6 hy6=>?_
  obtain ⟨σ7,hk7,hs7,le7,_⟩:=hy6.keep hb6.stp
  have hkA7:=hkB.trans hk7
  have hq7:=J8.of_acc (ha2.up hk7)
  refine X0M hq7 hj ?_
  refine W4 ?_
  have hysh:y2.cells= #[y2]∧y2.oneCell'=true:=Jt hy2
  refine X2p (x:=(⟨cs[j].kind,cs[j].vals.set m v⟩:Cel)) hkA7 hq7 hj (by decide) hysh.1 hysh.2 (fun es _ hes=>by
   obtain ⟨v0,rfl,_,hkl⟩:=hes
   exact ⟨y2,rfl,hs7,hkl⟩) fun w8 _ hk8 hq8=>?_
  refine W4 ?_
  have hsv:B5 cs j m v=cs.set j ⟨cs[j].kind,cs[j].vals.set m v⟩:=by unfold B5;rw[W7 hj,Int.toNat_natCast,Int.toNat_natCast]
  rw[hsv] at h
  exact X3m hSA hk8 (hm0A.up hk8) (hm4A.up hk8) rfl hm0A.lt hm4A.lt hb0 hB4 hb04 (hlA.up hk8) hq8 fun cv' w' σ' hk hr=>h _ w' σ' hk hr)
end Go.Proofs.YtjdiakhipmggjaaGreatDoor

namespace Go.Proofs.YtjdiakhipmggjaaGreatDoor
open Go.Emb Go.RowKit Go.Kd Go.Hm
variable {w w' : World} {K : Value → World → Prop} {σ σ' : Q5} {ds : List Value} {room : Int} {cs : List Cel} {l : List Cla}
theorem Q5L {m a:Nat} {c b:Value} {n:List Value} {w1:World} {σ1:Q5} (r:Stp w σ w1 σ1) (g:Y1 σ1 w1 m [c,I room,b]) (e:Y1 σ1 w1 a n) (q:n.length=3) (j:w.heap.size≤a) (k:D7 σ1 (l,room,cs) [c,I room,b]) (h: ∀w' σ',Stp w σ w' σ'→D7 σ' (l,room,cs) [c,I room,b]→K (.agg [c,I room,b].toArray) w'):
 Q2 P T.a (.pointer (some ⟨m,0,none⟩)) w1 fun d w=>
 Y0 P T.a (.pointer (some ⟨a,0,none⟩)) d w fun _u w=>
 Y7 P T.a (.pointer (some ⟨a,0,none⟩)) w fun o=>
 K o w:=
 Si g rfl (F8 e r j q rfl (Rep.one k) fun p f i=>V1 i rfl (h p σ1 f.stp k))
set_option maxHeartbeats 2000000 in
theorem X3g {n:Int} (hs:X2 w σ) (hh:D7 σ (l,room,cs) ds) (a0:Y8 cs≤1048576) (hn:Yc n)
 (h: ∀am w' σ',Stp w σ w' σ'→D7 σ' (l,room,Iw cs n) am→K (.agg am.toArray) w'):Q1 P F.bP [.agg ds.toArray,I n] w K:=Q0e (by
 have b1:=P9 cs
 obtain ⟨lv,cv,rfl,hl,hc⟩:=D7.out hh
 unfold Ei
 refine En hs fun M w1 σ1 bl ab al=>?_
 refine M8 ab.sat fun b4 w2 σ2 bo V H=>?_
 have a7:=ab.trans V
 have aa:=M7 bo ab
 have an:M≠b4:=by have:=al.lt;omega
 have ah:=al.up V
 have bk:=V.sat
 refine Up (fun z w'=>z=I (max n 0)∧w'=w2) ?_ ?_
 ·refine Z2 ?_
  by_cases e:n<0
  ·rw[decide_eq_true e]
   exact J3 ⟨by rw[show max n 0=0 by omega],rfl⟩
  ·rw[decide_eq_false e]
   exact Z7 ⟨by rw[show max n 0=n by omega],rfl⟩
 rintro z d0 w3 ⟨rfl,rfl⟩
 unfold Iw at h
 obtain ⟨m,ap⟩:=Int.eq_ofNat_of_zero_le (show 0≤max n 0 by omega)
 rw[ap,Int.toNat_natCast] at h
 rw[ap]
 have cf:(m:Int)≤9223372036854775807:=by have:=hn.2;omega
 refine U1 (min m cs.length) (fun i w'=> ∃σ',Stp w3 σ2 w' σ'∧(cs.take i).any (fun c=>c.vals.any (F9 m))=false) ⟨σ2,Stp.refl bk,rfl⟩ fun i w4 d hi v=>?_
 obtain ⟨σ4,q,Y⟩:=v
 have a:=ah.up q
 have s:=a7.trans q
 have J:=hc.up s
 refine Z2 ?_
 have W: ¬i<min m cs.length→(cs.take m).any (fun c=>c.vals.any (F9 m))=false∧(m<cs.length→i=m):=fun ai=>by
  by_cases bp:m≤cs.length
  ·have:i=m:=by omega
   subst this;exact ⟨Y,fun _=>rfl⟩
  ·have e:cs.take m=cs.take i:=by rw[List.take_of_length_le (by omega),List.take_of_length_le (by omega)]
   rw[e];exact ⟨Y,fun h=>by omega⟩
 have Q: ¬i<min m cs.length→jn (α:=Unit) w4 (fun aq w=>
  fieldAddr P T.a (.pointer (some ⟨M,0,none⟩)) 2 w fun bm w=>
  Q2 P T.g bm w fun ba w=>
  X3 P .len [T.g] T.e [false] [ba] w fun bg w=>
  Q3 P .lss T.e (.tmp 52) (.tmp 55) (I (m:Int)) bg w fun bh w=>
  X1 bh (
   buildSlice P T.g 0 [] w fun bd w=>
   fieldAddr P T.a (.pointer (some ⟨M,0,none⟩)) 2 w fun a6 w=>
   Q2 P T.g a6 w fun bj w=>
   R2 P T.g bj none (some (I (m:Int))) none w fun a3 w=>
   X3 P .append [T.g,T.g] T.g [false,false] [bd,a3] w fun bi w=>
   fieldAddr P T.a (.pointer (some ⟨M,0,none⟩)) 2 w fun a8 w=>
   Y0 P T.g a8 bi w fun _u w=>
   aq () w) (
   aq () w)) fun b6 d_ w=>
  Q2 P T.a (.pointer (some ⟨M,0,none⟩)) w fun a9 w=>
  Y0 P T.a (.pointer (some ⟨b4,0,none⟩)) a9 w fun _u w=>
  Y7 P T.a (.pointer (some ⟨b4,0,none⟩)) w fun r0=>
  K r0 w:=fun ai=>by
  obtain ⟨u,_⟩:=W ai
  rw[if_neg (by rw[u];simp)] at h
  refine U6 ?_
  refine W4 ?_
  refine Xx a rfl ?_
  refine Q8 J ?_
  refine Z2 ?_
  by_cases bp:m<cs.length
  ·rw[decide_eq_true (show (m:Int)<(cs.length:Int) by omega)]
   refine J3 ?_
   have bc:=q.sat
   refine Ed (R:=R5) (e:=T.o) (Stp.refl bc) (by decide) fun x1 w5 f bn _=>?_
   refine W4 ?_
   refine Xx (a.up f) rfl ?_
   refine Dq (J.up f) none (some (I m)) 0 m (.inl ⟨rfl,rfl⟩) (.inr rfl) (Nat.zero_le _) (by omega) fun v3 ag=>?_
   rw[List.drop_zero,Nat.sub_zero] at ag
   refine Vw f bn ag rfl (by simp;omega) (by simp;omega) fun x2 w6 _ g E _=>?_
   rw[List.nil_append] at E
   have af:=Jt E
   have O:=a.up g
   refine W4 ?_
   refine Ug O (by simp) af.1 af.2 fun w7 u7 N=>?_
   intro d
   have aj:J8 w4.heap.size T.o 2 R5 σ4 w7 x2 (cs.take m):=(J8.of_acc E).kp (D:=fun j=>j=M) (.of_upd u7 rfl) fun j hj e=>by have:=(E.mem j hj).1;have:=a.lt;omega
   have U:=((H.up q).up g).upd u7 (fun e=>an e.symm)
   have L:Stp w σ w7 σ4:=u7.stp (s.trans g) bl O.1
   obtain ⟨σ8,s8,l8,f8,o8⟩:=aj.freeze L.sat
   have ac: ∀j,j<w4.heap.size→σ8 j=σ4 j:=fun j hj=>o8 j fun e=>by have:=(aj.mem e.symm).1;omega
   have a5:Stp w σ w7 σ8:=⟨L.bel,s8,fun b o e=>l8.le b o (L.le b o e),fun b hb=>(ac b (Nat.lt_of_lt_of_le hb s.bel.size)).trans (L.old b hb)⟩
   exact Q5L a5 (cs:=cs.take m) (l:=l) (show Y1 σ8 w7 M [lv,I room,x2] from ⟨(ac M a.lt).trans N.1,N.2⟩) ⟨(ac b4 (H.up q).lt).trans U.1,U.2⟩ rfl aa ⟨lv,x2,rfl,(hl.up s).lift l8,f8⟩ fun w' σ' hk hr=>h _ w' σ' hk hr
  ·rw[decide_eq_false (show¬(m:Int)<(cs.length:Int) by omega)]
   refine Z7 ?_
   intro d
   rw[List.take_of_length_le (by omega)] at h
   exact Q5L s a (H.up q) rfl aa (L3 hh ⟨s.le⟩) fun w' σ' hk hr=>h _ w' σ' hk hr
 by_cases ce:i<m
 case neg=>
  rw[decide_eq_false (show¬(i:Int)<(m:Int) by omega)]
  (try simp only[O7,E0,R6,W2,W6,W8,M4,M5,H4,Bool.not_true,Bool.not_false])
  exact Q (by omega)
 rw[decide_eq_true (show (i:Int)<(m:Int) by omega)]
 (try simp only[O7,E0,R6,W2,W6,W8,M4,M5,H4,Bool.not_true,Bool.not_false])
 refine W4 ?_
 refine Xx a rfl ?_
 refine Q8 J ?_
 refine Z2 ?_
 by_cases A:i<cs.length
 case neg=>
  rw[decide_eq_false (show¬(i:Int)<(cs.length:Int) by omega)]
  refine Z7 ?_
  exact Q (by omega)
 rw[decide_eq_true (show (i:Int)<(cs.length:Int) by omega)]
 refine J3 ?_
 have b8:=Q59 a0 A
 refine U1 cs[i].vals.length (fun k w'=> ∃σ',Stp w4 σ4 w' σ'∧(cs[i].vals.take k).any (F9 m)=false) ⟨σ4,Stp.refl q.sat,rfl⟩ fun k w5 d hk v=>?_
 obtain ⟨σ5,f,y⟩:=v
 have B:=a.up f
 have X:=J.up f
 have a4:=s.trans f
 have C:=f.sat
 obtain ⟨vv,p1,p2,p3⟩:=Sl.elO X A
 refine W4 ?_
 refine Xx B rfl ?_
 refine Y3 X A ?_
 refine W4 ?_
 refine ld C p1 rfl ?_
 refine Q8 p2 ?_
 refine Z2 ?_
 refine Q7 (fun Z=>?_) (fun Z=>?_)
 ·have r:k<cs[i].vals.length:=by simpa using Z
  obtain ⟨p4,r4⟩:=Sl.elV p2 r
  refine W4 ?_
  refine Xx B rfl ?_
  refine Y3 X A ?_
  refine W4 ?_
  refine ld C p1 rfl ?_
  refine Y3 p2 r ?_
  refine Y4 C p4 rfl ?_
  refine Y9 C (by rfl) rfl (Rep.one r4) fun q6 w6 σ6 g ar=>?_
  have ak:=a4.trans g
  have bb:=L4 (p:=F9 m) r
  refine W4 ?_
  refine ld (i:=0) g.sat ar rfl ?_
  refine K9 ?_
  have t:F9 m cs[i].vals[k]=false→ ∃σ',Stp w4 σ4 w6 σ'∧(cs[i].vals.take (k+1)).any (F9 m)=false:=fun e=>⟨σ6,f.trans g,by rw[bb,y,e];rfl⟩
  by_cases e4:cs[i].vals[k].sort=4
  ·rw[decide_eq_true e4]
   (try simp only[O7,E0,R6,W2,W6,W8,M4,M5,H4,Bool.not_true,Bool.not_false])
   refine W4 ?_
   refine ld g.sat ar rfl ?_
   refine P0 ?_
   by_cases eg:(m:Int)≤cs[i].vals[k].ref
   ·rw[decide_eq_true eg]
    refine J3 ?_
    have u:(cs.take m).any (fun c=>c.vals.any (F9 m))=true:=by
     refine List.any_eq_true.2 ⟨cs[i],List.mem_take_iff_getElem.2 ⟨i,by omega,rfl⟩,S1 r (by simp[F9,e4,eg])⟩
    rw[if_pos u] at h
    exact Q5L ak (B.up g) ((H.up q).up (f.trans g)) rfl aa (L3 hh ⟨ak.le⟩) fun w' σ' hk hr=>h _ w' σ' hk hr
   ·rw[decide_eq_false eg]
    refine Z7 ?_
    refine L8 ?_
    exact Y6 (by omega) r (t (by simp[F9,eg]))
  ·rw[decide_eq_false e4]
   (try simp only[O7,E0,R6,W2,W6,W8,M4,M5,H4,Bool.not_true,Bool.not_false])
   refine L8 ?_
   exact Y6 (by omega) r (t (by simp[F9,e4]))
 ·have r: ¬k<cs[i].vals.length:=by simpa using Z
  rw[D9 r] at y
  refine L8 ?_
  refine Y6 (by omega) (by omega) ⟨σ5,q.trans f,?_⟩
  rw[L4 A,Y,y];rfl)
end Go.Proofs.YtjdiakhipmggjaaGreatDoor

namespace Go.Hm
open Go.Kd
def Q7V:Ins:=⟨[105,110,116],1,[]⟩
def Q0g:Ins:=⟨[114,101,116,117,114,110],0,[]⟩
def kA:X0:=[65]
def fX:Fld:=⟨[120],P2,false⟩
def Q1h:Fld:=⟨[110,101,120,116],kA,false⟩
def fL:Fld:=⟨[108],[65,91,93],false⟩
def mF:Hm.Met:=⟨[102],[P2,kA],P2,false,3,[Q7V,Q0g],[]⟩
def mG:Hm.Met:=⟨[103],[],[],false,1,[Q0g],[]⟩
def cA:Cla:=⟨kA,J9,[],false,false,false,[fX,Q1h],[mF,mG]⟩
def cB:Cla:=⟨[66],kA,[[73]],false,false,false,[fL],[]⟩
def cI:Cla:=⟨[73],J9,[],true,true,false,[],[]⟩
def cD:Cla:=⟨[68],J9,[],false,true,false,[],[]⟩
def I8:List Cla:=[cA,cB,cI,cD]
end Go.Hm
namespace Go.Proofs.YtjdiakhipmggjaaGreatDoor
open Go.Emb Go.RowKit Go.Kd Go.Hm
variable {w w' : World} {K : Value → World → Prop} {σ σ' : Q5} {ds : List Value} {room : Int} {cs : List Cel} {l : List Cla} {hp tv : Value}
set_option maxRecDepth 100000 in
theorem Q2p:Ru D6 I8=none:=by decide+kernel
set_option maxHeartbeats 1000000 in
theorem Q4s (Y:X2 w σ) (h: ∀v w' σ',Stp w σ w' σ'→Sl 8 V0 σ' v I8→K v w'):Q1 P F.aw [] w K:=Bp (by
 unfold Vf
 refine W1 (cells:= #[S Q7V.op,I 1,S []]) (by kernel_rfl) ?_
 refine W1 (cells:= #[S Q0g.op,I 0,S []]) (by kernel_rfl) ?_
 refine P6 (R:=Qk) (sz:=3) Y [.agg #[S Q7V.op,I 1,S []], .agg #[S Q0g.op,I 0,S []]] [Q7V,Q0g] rfl rfl (by simp;exact ⟨rfl,rfl⟩) rfl ⟨⟨rfl,by decide,by decide,by decide⟩,⟨rfl,by decide,by decide,by decide⟩,trivial⟩ fun v1 w1 σ1 r c=>?_
 refine W1 (cells:= #[S fX.name,S fX.kind, .bool false]) (by kernel_rfl) ?_
 refine W1 (cells:= #[S Q1h.name,S Q1h.kind, .bool false]) (by kernel_rfl) ?_
 refine P6 (R:=R3) (sz:=3) r.sat [.agg #[S fX.name,S fX.kind, .bool false], .agg #[S Q1h.name,S Q1h.kind, .bool false]] [fX,Q1h] rfl rfl (by simp;exact ⟨rfl,rfl⟩) rfl ⟨⟨rfl,by decide,by decide⟩,⟨rfl,by decide,by decide⟩,trivial⟩ fun v2 w2 σ2 i f=>?_
 refine P6 (R:=U9) (sz:=1) i.sat [S P2,S kA] [P2,kA] rfl rfl (by simp;exact ⟨rfl,rfl⟩) rfl ⟨⟨rfl,by decide⟩,⟨rfl,by decide⟩,trivial⟩ fun v3 w3 σ3 e u=>?_
 have k:=c;have s:=f;have t:=u
 obtain ⟨J,U,rfl,_⟩:=k
 obtain ⟨C,L,rfl,_⟩:=s
 obtain ⟨O,X,rfl,_⟩:=t
 have c:=(c.up i).up e
 have f:=f.up e
 refine W1 (cells:= #[S mF.name, .slice O 2 X,S P2, .bool false,I 3, .slice J 2 U, .slice none 0 0]) (by kernel_rfl) ?_
 refine W1 (cells:= #[S Q0g.op,I 0,S []]) (by kernel_rfl) ?_
 refine P6 (R:=Qk) (sz:=3) e.sat [.agg #[S Q0g.op,I 0,S []]] [Q0g] rfl rfl (by simp;rfl) rfl ⟨⟨rfl,by decide,by decide,by decide⟩,trivial⟩ fun v4 w4 σ4 b q=>?_
 have p:=q
 obtain ⟨D,W,rfl,_⟩:=p
 refine W1 (cells:= #[S mG.name, .slice none 0 0,S [], .bool false,I 1, .slice D 1 W, .slice none 0 0]) (by kernel_rfl) ?_
 refine P6 (R:=E5) (sz:=7) b.sat [.agg #[S mF.name, .slice O 2 X,S P2, .bool false,I 3, .slice J 2 U, .slice none 0 0], .agg #[S mG.name, .slice none 0 0,S [], .bool false,I 1, .slice D 1 W, .slice none 0 0]] [mF,mG] rfl rfl (by simp;exact ⟨rfl,rfl⟩) rfl
  ⟨⟨_,_,_,rfl,u.up b,c.up b,Sl.nil,by decide,by decide,by decide⟩,⟨_,_,_,rfl,Sl.nil,q,Sl.nil,by decide,by decide,by decide⟩,trivial⟩ fun v5 w5 Z g z=>?_
 have m:=z
 obtain ⟨V,M,rfl,_⟩:=m
 refine W1 (cells:= #[S kA,S J9, .slice none 0 0, .bool false, .bool false, .bool false, .slice C 2 L, .slice V 2 M]) (by kernel_rfl) ?_
 refine P6 (R:=U9) (sz:=1) g.sat [S [73]] [[73]] rfl rfl (by simp;rfl) rfl ⟨⟨rfl,by decide⟩,trivial⟩ fun v6 w6 σ6 d y=>?_
 have j:=y
 obtain ⟨N,H,rfl,_⟩:=j
 refine W1 (cells:= #[S fL.name,S fL.kind, .bool false]) (by kernel_rfl) ?_
 refine P6 (R:=R3) (sz:=3) d.sat [.agg #[S fL.name,S fL.kind, .bool false]] [fL] rfl rfl (by simp;rfl) rfl ⟨⟨rfl,by decide,by decide⟩,trivial⟩ fun v7 w7 σ7 a o=>?_
 have n:=o
 obtain ⟨E,Q,rfl,_⟩:=n
 refine W1 (cells:= #[S cB.name,S kA, .slice N 1 H, .bool false, .bool false, .bool false, .slice E 1 Q, .slice none 0 0]) (by kernel_rfl) ?_
 refine W1 (cells:= #[S cI.name,S J9, .slice none 0 0, .bool true, .bool true, .bool false, .slice none 0 0, .slice none 0 0]) (by kernel_rfl) ?_
 refine W1 (cells:= #[S cD.name,S J9, .slice none 0 0, .bool false, .bool true, .bool false, .slice none 0 0, .slice none 0 0]) (by kernel_rfl) ?_
 refine P6 (R:=V0) (sz:=8) a.sat [.agg #[S kA,S J9, .slice none 0 0, .bool false, .bool false, .bool false, .slice C 2 L, .slice V 2 M], .agg #[S cB.name,S kA, .slice N 1 H, .bool false, .bool false, .bool false, .slice E 1 Q, .slice none 0 0], .agg #[S cI.name,S J9, .slice none 0 0, .bool true, .bool true, .bool false, .slice none 0 0, .slice none 0 0], .agg #[S cD.name,S J9, .slice none 0 0, .bool false, .bool true, .bool false, .slice none 0 0, .slice none 0 0]] I8 rfl rfl (by simp;exact ⟨rfl,rfl,rfl,rfl⟩) rfl
  ⟨⟨_,_,_,rfl,Sl.nil,(((f.up b).up g).up d).up a,(z.up d).up a,by decide,by decide⟩,⟨_,_,_,rfl,y.up a,o,Sl.nil,by decide,by decide⟩,⟨_,_,_,rfl,Sl.nil,Sl.nil,Sl.nil,by decide,by decide⟩,⟨_,_,_,rfl,Sl.nil,Sl.nil,Sl.nil,by decide,by decide⟩,trivial⟩ fun v8 w8 σ8 B A=>?_
 exact h _ _ _ ((((((((r.trans i).trans e).trans b).trans g).trans d).trans a)).trans B) A)
end Go.Proofs.YtjdiakhipmggjaaGreatDoor

namespace Go.Emb
open Go.RowKit
end Go.Emb
namespace Go.Proofs.YtjdiakhipmggjaaGreatDoor
open Go.Emb Go.RowKit Go.Kd Go.Hm
variable {w : World} {K : Value → World → Prop} {σ : Q5} {l : List Cla}
end Go.Proofs.YtjdiakhipmggjaaGreatDoor

namespace Go.Proofs.YtjdiakhipmggjaaGreatDoor
open Go.Emb Go.RowKit Go.Kd Go.Hm
variable {w w' : World} {K : Value → World → Prop} {σ σ' : Q5} {ds : List Value} {room : Int} {cs : List Cel} {l : List Cla} {hp tv : Value}
theorem HeapIs.mono {B B':Nat} {D:Nat→Prop} (h:HeapIs B D σ w hp tv room cs) (hB:B'≤B):HeapIs B' D σ w hp tv room cs:=by
 obtain ⟨b,j,E,f,k,m,⟨vs,n,c,d,hD⟩,hE,a⟩:=h.ex
 exact ⟨b,j,E,f,Nat.le_trans hB k,m,⟨vs,n.mono hB,⟨c.1,fun i g e=>(c.2 i g e).mono hB⟩,d,hD⟩,hE,a⟩
theorem X2G {a:Addr} {n:Int} (h:X2 w σ)
 (g:(n<0∨1048576<n)→K (.tuple #[.pointer none,I 90]) w)
 (j:0≤n→n≤1048576→ ∀b w' σ' D,Stp w σ w' σ'→HeapIs w.heap.size D σ' w' (.pointer (some ⟨b,0,none⟩)) (.pointer (some a)) n []→K (.tuple #[.pointer (some ⟨b,0,none⟩),I 0]) w'):Q1 P F.cM [.pointer (some a),I n] w K:=Q8f (by
 unfold Q2Z
 refine Z2 ?_
 by_cases e:n<0
 ·rw[decide_eq_true e]
  (try simp only[O7,E0,R6,W2,W6,W8,M4,M5,H4,Bool.not_true,Bool.not_false])
  exact g (.inl e)
 rw[decide_eq_false e]
 (try simp only[O7,E0,R6,W2,W6,W8,M4,M5,H4,Bool.not_true,Bool.not_false])
 refine Q1v ?_
 by_cases d:(1048576:Int)<n
 ·rw[decide_eq_true d]
  exact J3 (g (.inr d))
 rw[decide_eq_false d]
 refine Z7 ?_
 refine W1 (cells:= #[.pointer (some a),I n,I 0, .slice none 0 0]) (by kernel_rfl) ?_
 refine En (cs:=[.pointer (some a),I n,I 0, .slice none 0 0]) h fun b w1 σ1 i c f=>?_
 exact j (by omega) (by omega) b w1 σ1 _ c ⟨b,_,_,rfl,i,f,RowsIs.nil,id,fun k=>Iff.rfl⟩)
theorem Q58:P.underlying T.ao=some (.int .u16):=by kernel_rfl
theorem X1I: ∀c∈I8,Qj c:=X2Z (by decide)
theorem Q1e:Wf I8:=X3w Q2p
set_option maxHeartbeats 1000000 in
theorem Q7c {r:Int} (hs:X2 w σ) (hg:Glb σ) (hr:0≤r)
 (h: ∀b a D ds w' σ',Stp w σ w' σ'→HeapIs w.heap.size D σ' w' (.pointer (some ⟨b,0,none⟩)) (.pointer (some a)) (r % 301) []→D7 σ' (Q4 I8,r % 301,[]) ds→Tab σ' (.pointer (some a)) (Q4 I8)→Ok (Q4 I8)→K (.tuple #[.pointer (some ⟨b,0,none⟩), .agg ds.toArray]) w'):Q1 P F.ag [.int .u16 r] w K:=Iq (by
 have hr0:=Int.emod_nonneg r (show (301:Int)≠0 by decide)
 have hr1:=Int.emod_lt_of_pos r (show (0:Int)<301 by decide)
 unfold Nh
 refine M8 hs fun b3 w1 σ1 hb3 hk1 hm1=>?_
 refine Q4s hk1.sat fun v w2 σ2 hk2 hv2=>?_
 refine X3r hk2.sat (hg.lift ⟨(hk1.trans hk2).le⟩) hv2 (by decide) X1I (fun i e _ _ hn=>by rw[Q2p] at hn;cases hn) fun tv w3 σ3 _ hk3 ht ok _=>?_
 obtain ⟨a,_,_,_,rfl,_⟩:=ht.ex
 have hS3:=(hk1.trans hk2).trans hk3
 refine J5 (vs:=[_,_,_]) rfl ?_
 refine J5 (vs:=[_,_,_]) rfl ?_
 refine J5 (vs:=[_,_,_]) rfl ?_
 refine Q4s hk3.sat fun v4 w4 σ4 hk4 hv4=>?_
 refine X1K hk4.sat hv4 (by decide) (fun i e _ _ hn=>by rw[Q2p] at hn;cases hn) fun lv w5 σ5 _ hk5 hlv ok5 _=>?_
 have hk35:=hk4.trans hk5
 have hS5:=hS3.trans hk35
 refine J5 (vs:=[_,_,_]) rfl ?_
 refine J5 (vs:=[_,_,_]) rfl ?_
 refine J5 (vs:=[_,_,_]) rfl ?_
 refine Q37 ⟨by decide,hr⟩ ?_
 rw[Rn Q58 Ks]
 have ew:IntKind.i64.wrap (r % 301)=r % 301:=S7 (n:=r % 301) (by omega) (by omega)
 rw[ew]
 simp only[decide_true,Bool.not_true,Bool.false_eq_true,reduceIte,↓M1,M1,Mb,reduceIte]
 refine X2U ?_
 simp only[decide_true,Bool.not_true,Bool.false_eq_true,reduceIte,↓M1,M1,Mb,reduceIte]
 refine X2G (n:=r % 301) hk5.sat (fun hx=>absurd hx (by omega)) fun _ _ b6 w6 σ6 D hk6 h6=>?_
 refine J5 (vs:=[_,_]) rfl ?_
 refine J5 (vs:=[_,_]) rfl ?_
 simp only[decide_true,Bool.not_true,↓M1,M1,Mb,reduceIte]
 refine W1 (cells:= #[lv,I (r % 301), .slice none 0 0]) (by obtain ⟨a5,c5,hle,_⟩:=id hlv;generalize (Q4 I8).length=n5 at hle;subst hle;kernel_rfl) ?_
 have hm6:=hm1.up ((hk2.trans hk3).trans (hk35.trans hk6))
 have hrh:D7 σ6 (Q4 I8,r % 301,[]) [lv,I (r % 301), .slice none 0 0]:=⟨_,_,rfl,hlv.up hk6,Sl.nil⟩
 refine Nk (ds:=[lv,I (r % 301), .slice none 0 0]) hm6 rfl rfl (by rw[List.all_toArray];exact List.all_eq_true.2 (Rep.one hrh)) fun w7 u7 hm7=>?_
 refine V1 hm7 rfl ?_
 have hS6:=hS5.trans hk6
 have hB3:=M7 hb3 (Stp.refl hs)
 have hS7:=u7.stp hS6 hB3 hm6.1
 have hb35:b3<w5.heap.size:=by
  have:=(hm1.up ((hk2.trans hk3).trans hk35)).lt
  exact this
 exact h b6 a D _ w7 σ6 hS7 ((h6.nx (Nxt.of_upd hk6.sat u7 hm6.1) fun k hk e=>by have:=(h6.mem hk).1;omega).mono hS5.bel.size) hrh (ht.lift ⟨(hk35.trans hk6).le⟩) ok)
theorem X3n {x:ActH} {ds:List Value} (j:X2 w σ) (d:Ke σ x ds) (h: ∀w',Below w.heap.size w w'→K (.bool (decide (x.s.length≤100)&&decide (x.v.s.length≤5000))) w'):Q1 P F.aY [.agg ds.toArray] w K:=Q0P (by
 have g:=d
 obtain ⟨rfl,m,k⟩:=d
 unfold Eg
 refine Z0 j fun q w1 σ1 a c=>?_
 refine W4 ?_
 refine ld (i:=1) a.sat c rfl ?_
 refine Ff (by kernel_rfl) ?_
 refine Q4K ?_
 cases e:decide ((x.s.length:Int)≤100) with
 | false=>
  have b:decide (x.s.length≤100)=false:=by rw[←e];congr 1;simp only[eq_iff_iff];omega
  rw[b] at h
  (try simp only[↓M1,M1,Mb,reduceIte])
  exact h _ a.bel
 | true=>
  have b:decide (x.s.length≤100)=true:=by rw[←e];congr 1;simp only[eq_iff_iff];omega
  rw[b] at h
  (try simp only[O7,E0,R6,W2,W6,W8,M4,M5,H4,Bool.not_true,Bool.not_false])
  (repeat refine Hd.h ?_)
  refine ld (i:=6) a.sat c rfl ?_
  (repeat refine Hd.h ?_)
  refine Ff (by kernel_rfl) ?_
  (repeat refine Hd.h ?_)
  refine Q4K ?_
  (repeat refine Hd.h ?_)
  have f:decide ((x.v.s.length:Int)≤5000)=decide (x.v.s.length≤5000):=by congr 1;simp only[eq_iff_iff];omega
  rw[f]
  exact h _ a.bel)
end Go.Proofs.YtjdiakhipmggjaaGreatDoor

namespace Go.Proofs.YtjdiakhipmggjaaGreatDoor
open Go.Emb Go.RowKit Go.Kd Go.Hm
variable {w w' : World} {K : Value → World → Prop} {σ σ' : Q5} {ds : List Value} {room : Int} {cs : List Cel} {l : List Cla} {hp tv : Value}
def zfK:X0:=[90,101,114,111,70,97,117,108,116]
def zf1:List Cel:=[⟨zfK,[⟨3,0,[],0⟩]⟩]
def zf2:List Cel:=zf1++[⟨P2++[91,93],List.replicate 3 ⟨1,0,[],0⟩⟩]
theorem Q9Y:Zn (Q4 I8) 10 [] zfK=(zf1,0):=by decide
theorem X06:Zj (Q4 I8) 10 zf1 P2 3=(zf2,0):=by decide
theorem Q3H:W5 []=true:=by decide+kernel
theorem Q7i:GoodH W5 (Q4 I8) 10 zf2:=by
 have b:=GoodH.obj Q1e Q3H (GoodH.empty (ok:=W5) (l:=Q4 I8) (show (0:Int)≤10 by decide)) zfK
 rw[Q9Y] at b
 have a:=GoodH.arr Q1e Q3H b P2 3
 rw[X06] at a
 exact a
theorem X3M:P.underlying T.a5=some (.pointer T.p):=by kernel_rfl
theorem X0h (d:Nat) (o:Option Addr):(Op.equalIn (d+1) T.a5 (.pointer o) (.pointer none)).run P w= .ok o.isNone w:=by
 cases o<;>simp[Op.equalIn,run_underlying X3M]
theorem Q8G {a:Addr} {c b:Operand} (h:K (.bool false) w):Q3 P .eql T.a5 c b (.pointer (some a)) (.pointer none) w K:=by
 have e:(Op.equal T.a5 (.pointer (some a)) (.pointer none)).run P w= .ok false w:=X0h 9999 _
 unfold Q3
 rw[X9 (v:= .bool false) (w':=w) (by simp[eqGuard,Go.binOp,e])]
 exact h
theorem X2e {a:Addr} {c b:Operand} (h:K (.bool true) w):Q3 P .neq T.r c b (.pointer (some a)) (.pointer none) w K:=by
 have e:(Op.equal T.r (.pointer (some a)) (.pointer none)).run P w= .ok false w:=Q5E 9999 _
 unfold Q3
 rw[X9 (v:= .bool true) (w':=w) (by simp[eqGuard,Go.binOp,e])]
 exact h
set_option maxHeartbeats 1000000 in
theorem X1c (Z:X2 w σ) (M:Glb σ) (h: ∀w' σ',Stp w σ w' σ'→K (.bool true) w'):Q1 P F.aF [] w K:=Pc (by
 unfold Mk
 refine Q7c Z M (by decide) fun b a D ds w1 σ1 g E p ht ok=>?_
 refine J5 (vs:=[_,_]) rfl ?_
 refine J5 (vs:=[_,_]) rfl ?_
 refine M8 g.sat fun b2 w2 σ2 y j z=>?_
 have ac:=M7 y g
 refine Nk z rfl (by obtain ⟨lv,cv,rfl,_⟩:=D7.out p;rfl) (by rw[List.all_toArray];exact List.all_eq_true.2 (Rep.one p)) fun w3 u3 ae=>?_
 have R:=g.trans j
 have h2:=E.up j
 have d:Stp w1 σ1 w3 σ2:=u3.stp j y z.1
 have O:=E.up d
 have r:=g.trans d
 rw[show (10 % 301:Int)=10 from rfl] at O
 refine Q8G ?_
 (try simp only[O7,E0,R6,W2,W6,W8,M4,M5,H4,Bool.not_true,Bool.not_false])
 have u:=ht.lift ⟨d.le⟩
 refine Q5n d.sat r.bel.size O u ok (k:=zfK) (by decide) (by decide) (by decide) fun w4 σ4 D4 A B Y=>?_
 simp only[Q9Y] at B
 have q:=u.lift A.le
 refine J5 (vs:=[_,_]) rfl ?_
 refine J5 (vs:=[_,_]) rfl ?_
 have H: ∀{k},D k→w.heap.size≤k:=fun s=>(E.mem s).1
 have t:=A.stp' r fun k s=>H s
 refine Q7e A.sat t.bel.size B q (e:=P2) (n:=3) (by decide) (by decide) (by decide) fun w5 V D5 U Q X=>?_
 simp only[X06] at Q
 have L:=q.lift U.le
 have m:=U.stp' t fun k s=>(B.mem s).1
 refine J5 (vs:=[_,_]) rfl ?_
 refine J5 (vs:=[_,_]) rfl ?_
 obtain ⟨σf,N,i,v,_⟩:=Q.freeze m.sat
 simp only[Q9Y,X06,show atM [] 0=0 from rfl,show atM zf1 0=1 from rfl,decide_true,↓M1,M1,Mb,reduceIte]
 refine Q1w N v Q7i.left (by decide) fun w6 C=>?_
 have f:=Stp.of_below N C
 simp only[show V9 10 zf2=4 from by decide,decide_true,↓M1,M1,Mb,reduceIte]
 have c:=v
 refine Q9r f.sat c ?_
 simp only[show ((zf2.length:Nat):Int)=2 from by decide,decide_true,↓M1,M1,Mb,reduceIte]
 refine Q7m f.sat c ?_
 refine K6 ?_
 simp only[show D2 zf2 0=zfK from by decide,show decide (zfK=[90,101,114,111,70,97,117,108,116])=true from by decide,↓M1,M1,Mb,reduceIte]
 refine Q7l f.sat c ?_
 simp only[show Q0v zf2 1=3 from by decide,decide_true,↓M1,M1,Mb,reduceIte]
 have J:=(M.lift ⟨m.le⟩).lift i
 refine X1T f.sat J c (L.lift i) ok Q7i.cells fun W σ7 o=>?_
 simp only[↓M1,M1,Mb,reduceIte]
 refine X0F o.sat (c.lift ⟨o.le⟩) ?_
 refine X2e ?_
 (try simp only[↓M1,M1,Mb,reduceIte])
 exact h W V (m.trans ((f.trans o).weak i.le)))
end Go.Proofs.YtjdiakhipmggjaaGreatDoor

namespace Go.Emb
open Go.RowKit Go.Hm
variable {P : Program} {w w0 w1 w' w'' : World} {K : Value → World → Prop} {σ σ0 σ1 σ' : Q5} {b n : Nat} {ds : List Value} {v V : Value}
structure VarT (b : Nat) (ds : List Value) (w w' : World) : Prop where
  kp : Kpt (fun j => j = b) w w'
  var : (b < w.heap.size → w'.heap[b]? = w.heap[b]?) ∨ ∃ e, w'.heap[b]? = some (.cells ds.toArray e (0, 0))
structure VarB (w0 : World) (σ0 : Q5) (w1 : World) (σ : Q5) (b n : Nat) (w' : World) : Prop where
  hst : Hst w0 σ0 w' σ
  kp : Kpt (fun j => j = b) w1 w'
  var : ∃ cs, cs.length = n ∧ Y1 σ w' b cs
theorem VarT.of_below (h:Below w.heap.size w w'):VarT b ds w w':=⟨.of_below h, .inl fun a=>h.block b a⟩
theorem VarT.of_upd (h:Upd w b w') (a:Y1 σ w' b ds):VarT b ds w w':=⟨.of_upd h rfl, .inr a.2⟩
theorem VarB.step (f:w0.heap.size≤b) (g:ds.length=n) (h:VarB w0 σ0 w1 σ b n w) (k:VarT b ds w w'):VarB w0 σ0 w1 σ b n w':=by
 obtain ⟨cs,d,a⟩:=h.var
 refine ⟨⟨h.hst.stp.kp k.kp fun j c=>by subst c;exact ⟨f,a.1⟩⟩,h.kp.trans k.kp,?_⟩
 rcases k.var with e | e
 ·exact ⟨cs,d,a.1,by rw[e a.lt];exact a.2⟩
 ·exact ⟨ds,g,a.1,e⟩
theorem Q4P {A:(World→World→Prop)→(World→Prop)→Prop} (ds:List Value) {cs:List Value} (a:Stp w0 σ0 w σ) (e:w0.heap.size≤b) (f:Y1 σ w b cs) (g:cs.length=n) (i:ds.length=n)
 (h:A (VarT b ds) (VarB w0 σ0 w σ b n)):dr w A:=
 Im _ _ ⟨⟨a.trans (Stp.of_below a.sat (Below.refl _ _).drew)⟩, .of_below (Below.refl _ _).drew,cs,g,f⟩ (fun _ _ c d=>c.step e i d) h
theorem F2 (h:V=v):dk (VarT b ds) (fun v _=>V=v) w v w:=⟨.of_below (Below.refl _ _),h⟩
theorem Zc (a:Below w.heap.size w w') (h:V=v):dk (VarT b ds) (fun v _=>V=v) w v w':=⟨.of_below a,h⟩
theorem Jf {t:TypeId} {c:Nat} {z:Value} [tz:TZ P t n c z] {a:(List Value→Value→World→Prop)→Prop} {φ:Value→World→Prop} (m:ds.length=n) (q: ∀u∈ds,u.oneCell'=true) (p: ∀v w,φ v w→ .agg ds.toArray=v)
 (o:a (fun _ _ w=>Y1 σ w b ds)) (d:σ b=none):Sk (VarT b ds) (fun F=> ∀x w,VarB w0 σ0 w1 σ b n w→φ x w→Y0 P t (.pointer (some ⟨b,0,none⟩)) x w (dk (VarT b ds) (F [x]) w)) a:=by
 refine Q3u _ (fun xs v w w' h k=>?_) (fun x w s r=>?_) o
 ·rcases k.var with e | e
  ·exact ⟨d,by rw[e h.lt];exact h.2⟩
  ·exact ⟨d,e⟩
 ·have:=p x w r
  subst this
  obtain ⟨cs,i,j⟩:=s.var
  exact Nk j i m (by rw[List.all_toArray];exact List.all_eq_true.2 q) fun w' g f=>⟨.of_upd g f,f⟩
theorem Ve {c d:Bool} {V:Value} {a:World→(Value→World→Prop)→Prop} (h:c=d→a w (dk (VarT b ds) (fun v _=>V=v) w)):Q0 (.bool c) d w a (dk (VarT b ds) (fun v _=>(if c=d then V else undef)=v) w):=by
 by_cases e:c=d
 ·simp only[e,if_true]
  subst e
  have:=h rfl
  cases c
  ·rw[W6];exact this
  ·rw[W2];exact this
 ·simp only[e,if_false]
  cases c<;>cases d<;>first | exact absurd rfl e | (rw[R6];exact F2 rfl) | (rw[E0];exact F2 rfl)
theorem VarB.hs (h:VarB w0 σ0 w1 σ b n w):Hst w0 σ0 w σ:=h.hst
end Go.Emb
namespace Go.Proofs.YtjdiakhipmggjaaGreatDoor
open Go.Emb Go.RowKit Go.Kd Go.Hm
variable {w w' : World} {K : Value → World → Prop} {σ σ' : Q5} {ds : List Value} {room : Int} {cs : List Cel} {l : List Cla} {hp tv : Value}
theorem Q3K {a:Nat} {h g:World} {d:Q5} {x:List Cla×Int×List Cel} {e m:List Value} (r:Stp w σ h d) (hB:w.heap.size≤a) (q:Y1 d h a m) (u:Upd h a g) (f:Y1 d g a e):
 ∃c,Stp w σ g c∧Z4 c ⟨a,0,none⟩ e∧SLe d c∧ ∀k,k≠a→c k=d k:=by
 obtain ⟨c,i,o,p,j⟩:=f.keep (u.stp r hB q.1) hB
 exact ⟨c,i,o,⟨p⟩,j⟩
end Go.Proofs.YtjdiakhipmggjaaGreatDoor

namespace Go.Emb
open Go.RowKit Go.Hm
variable {P : Program} {w w0 w1 w' w'' : World} {K : Value → World → Prop} {σ σ0 σ1 σ' : Q5} {b n : Nat} {ds : List Value} {v V : Value}
theorem Z4.tail {q:Addr} {xs ys:List Value} (h:Z4 σ q (xs++ys)):Z4 σ (q.add xs.length) ys:=by
 obtain ⟨d,a,e,z,f,g⟩:=h
 cases xs with
 | nil=>exact ⟨by simp[Addr.add,d],a,e,z,by simpa [Addr.add] using f,fun i u c=>by simpa [Addr.add] using g i u c⟩
 | cons x xs=>
  refine ⟨by simp[Addr.add,d],a,e,z,by simpa [Addr.add] using f,fun i u c=>?_⟩
  have:=g ((x::xs).length+i) u (by rw[List.getElem?_append_right (by omega)];simpa using c)
  simpa [Addr.add,Nat.add_assoc] using this
theorem J8.down {α:Type} {R:Q5→α→List Value→Prop} {B sz:Nat} {e:TypeId} {v:Value} {xs:List α} (h:J8 B e sz R σ' w v xs) (C:SLe σ σ') (L: ∀x cs,R σ' x cs→R σ x cs):J8 B e sz R σ w v xs:=by
 obtain ⟨a,f,rfl,A,r,c,q⟩:=h
 have p: ∀k,σ' k=none→σ k=none:=fun k u=>by
  cases e:σ k with
  | none=>rfl
  | some o=>have:=C.le k o e;rw[u] at this;cases this
 refine ⟨a,f,rfl,A,r,fun b d=>⟨(c b d).1,(c b d).2.1,(c b d).2.2.1,p _ (c b d).2.2.2⟩,fun J=>?_⟩
 obtain ⟨g,j,m,rfl,z,y,s,H,t⟩:=q J
 exact ⟨g,j,m,rfl,z,p _ y,s,H,fun i x E=>L _ _ (t i x E)⟩
end Go.Emb
namespace Go.Proofs.YtjdiakhipmggjaaGreatDoor
open Go.Emb Go.RowKit Go.Kd Go.Hm
variable {w w' w0 w1 : World} {K : Value → World → Prop} {σ σ' σ0 : Q5} {ds : List Value} {room : Int} {cs cs' : List Cel} {l : List Cla} {hp tv : Value} {B b : Nat} {D : Nat → Prop} {V v : Value}
theorem X0u {ok:X0→Bool} {r i:Int} {v:Val}:H5 ok l (H5 ok l cs r i v).1 r i v=H5 ok l cs r i v:=by
 by_cases k:E2 cs r i=0
 case neg=>
  have e:H5 ok l cs r i v=(cs,E2 cs r i):=by unfold H5;rw[if_pos k]
  rw[e];exact e
 cases f:B3 ok l cs v (Xe l (Vz cs r).kind i.toNat) with
 | false=>
  have e:H5 ok l cs r i v=(cs,91):=by unfold H5;rw[if_neg (fun h=>h k),f];rfl
  rw[e];exact e
 | true=>
  have e:H5 ok l cs r i v=(B5 cs r i v,0):=by unfold H5;rw[if_neg (fun h=>h k),f];rfl
  rw[e]
  obtain ⟨j,m,rfl,rfl,d,y⟩:=Ll k
  have t:M0 cs (j:Int)=true:=N3.2 ⟨j,rfl,d⟩
  have c:B5 cs j m v=cs.set j ⟨cs[j].kind,cs[j].vals.set m v⟩:=by unfold B5;rw[W7 d,Int.toNat_natCast,Int.toNat_natCast]
  have u:(B5 cs j m v).length=cs.length:=by rw[c];simp
  have a:j<(B5 cs j m v).length:=by rw[u];exact d
  have g:Vz (B5 cs j m v) j=⟨cs[j].kind,cs[j].vals.set m v⟩:=by
   rw[W7 a];simp only[c,List.getElem_set_self]
  have p:M0 (B5 cs j m v) (j:Int)=true:=N3.2 ⟨j,rfl,a⟩
  have q:E2 (B5 cs j m v) j m=0:=by
   unfold E2
   rw[p,g]
   simp only[if_true,List.length_set]
   rw[if_pos ⟨by omega,by omega⟩]
  have o:B3 ok l (B5 cs j m v) v (Xe l (Vz (B5 cs j m v) j).kind (m:Int).toNat)=true:=by
   rw[g]
   rw[W7 d] at f
   exact Hp (fun _ _=>Q2M t) f
  have s:B5 (B5 cs j m v) j m v=B5 cs j m v:=by
   unfold B5 at g⊢
   rw[g]
   simp only[Int.toNat_natCast,List.set_set]
   rw[W7 d]
  unfold H5
  rw[if_neg (fun h=>h q),o,s];rfl
theorem RowsIs.down {c:Value} (h:RowsIs B D σ' w c cs) (a:SLe σ σ'):RowsIs B D σ w c cs:=by
 obtain ⟨vs,j,d,e,hD⟩:=h.ex
 exact ⟨vs,j.down a fun _ _ h=>h,⟨d.1,fun i f g=>(d.2 i f g).down a fun _ _ h=>h⟩,e,hD⟩
theorem HeapIs.down (h:HeapIs B D σ' w hp tv room cs) (a:SLe σ σ'):HeapIs B D σ w hp tv room cs:=by
 obtain ⟨b,d,E,rfl,hB,c,f,hE,hD⟩:=h.ex
 refine ⟨b,d,E,rfl,hB,⟨?_,c.2⟩,f.down a,hE,hD⟩
 cases e:σ b with
 | none=>rfl
 | some o=>have:=a.le b o e;rw[c.1] at this;cases this
structure SetT (B : Nat) (D : Nat → Prop) (σ : Q5) (hp tv : Value) (room : Int) (cs' : List Cel) (b : Nat) (ds : List Value) (w w' : World) : Prop where
  kp : Kpt (fun j => j = b ∨ D j) w w'
  var : (b < w.heap.size → w'.heap[b]? = w.heap[b]?) ∨ ∃ e, w'.heap[b]? = some (.cells ds.toArray e (0, 0))
  hp : (∀ j, D j → j < w.heap.size → w'.heap[j]? = w.heap[j]?) ∨ HeapIs B D σ w' hp tv room cs'
structure SetB (B : Nat) (D : Nat → Prop) (hp tv : Value) (room : Int) (cs cs' : List Cel) (w0 : World) (σ0 : Q5) (w1 : World) (σ : Q5) (b n : Nat) (w' : World) : Prop where
  hst : Hst w0 σ0 w' σ
  kp : Kpt (fun j => j = b ∨ D j) w1 w'
  var : ∃ zs, zs.length = n ∧ Y1 σ w' b zs
  hp : HeapIs B D σ w' hp tv room cs ∨ HeapIs B D σ w' hp tv room cs'
theorem SetB.hs {n:Nat} (h:SetB B D hp tv room cs cs' w0 σ0 w1 σ b n w):Hst w0 σ0 w σ:=h.hst
theorem SetT.of_below (h:Below w.heap.size w w'):SetT B D σ hp tv room cs' b ds w w':=⟨.of_below h, .inl fun c=>h.block b c, .inl fun j _ a=>h.block j a⟩
theorem HeapIs.same (h:HeapIs B D σ w hp tv room cs) (k:Kpt (fun j=>j=b∨D j) w w') (g:X2 w' σ) (d: ¬D b) (f: ∀j,D j→j<w.heap.size→w'.heap[j]? =w.heap[j]?):HeapIs B D σ w' hp tv room cs:=
 h.nx (F:=fun j=>j=b) ⟨⟨k.os,k.tape,k.output,k.size,fun j a c=>by
  by_cases e:D j
  ·exact f j e a
  ·exact k.block j a fun h=>h.elim c e⟩,SLe.refl _,fun _ _=>rfl,g⟩ fun j a e=>d (e▸a)
theorem SetB.step {n:Nat} (m:w0.heap.size≤b) (hB:w0.heap.size≤B) (d: ¬D b) (o:ds.length=n) (h:SetB B D hp tv room cs cs' w0 σ0 w1 σ b n w) (k:SetT B D σ hp tv room cs' b ds w w'):SetB B D hp tv room cs cs' w0 σ0 w1 σ b n w':=by
 obtain ⟨i,g,c⟩:=h.var
 have f: ∀j,D j→w0.heap.size≤j∧σ j=none:=fun j hj=>by
  rcases h.hp with h | h
  ·exact ⟨Nat.le_trans hB (h.mem hj).1,(h.mem hj).2.2⟩
  ·exact ⟨Nat.le_trans hB (h.mem hj).1,(h.mem hj).2.2⟩
 have a:Stp w0 σ0 w' σ:=h.hst.stp.kp k.kp fun j hj=>by
  rcases hj with rfl | hj
  ·exact ⟨m,c.1⟩
  ·exact f j hj
 refine ⟨⟨a⟩,h.kp.trans k.kp,?_,?_⟩
 ·rcases k.var with e | e
  ·exact ⟨i,g,c.1,by rw[e c.lt];exact c.2⟩
  ·exact ⟨ds,o,c.1,e⟩
 ·rcases k.hp with e | e
  ·rcases h.hp with h3 | h3
   ·exact .inl (h3.same k.kp a.sat d e)
   ·exact .inr (h3.same k.kp a.sat d e)
  ·exact .inr e
theorem X2x {n:Nat} {A:(World→World→Prop)→(World→Prop)→Prop} (cs':List Cel) (ds:List Value) {a:List Value} (d:Stp w0 σ0 w σ) (g:w0.heap.size≤b) (hB:w0.heap.size≤B) (c: ¬D b) (i:Y1 σ w b a) (j:a.length=n) (k:ds.length=n) (hh:HeapIs B D σ w hp tv room cs)
 (h:A (SetT B D σ hp tv room cs' b ds) (SetB B D hp tv room cs cs' w0 σ0 w σ b n)):dr w A:=
 Im _ _ ⟨⟨d.trans (Stp.of_below d.sat (Below.refl _ _).drew)⟩, .of_below (Below.refl _ _).drew,⟨a,j,i⟩, .inl (hh.up (Stp.of_below d.sat (Below.refl _ _).drew))⟩ (fun _ _ e f=>e.step g hB c k f) h
theorem Q4Z (h:V=v):dk (SetT B D σ hp tv room cs' b ds) (fun v _=>V=v) w v w:=⟨.of_below (Below.refl _ _),h⟩
theorem X23 (a:Below w.heap.size w w') (h:V=v):dk (SetT B D σ hp tv room cs' b ds) (fun v _=>V=v) w v w':=⟨.of_below a,h⟩
theorem X09 {n:Nat} {t:TypeId} {d:Nat} {z:Value} [tz:TZ P t n d z] {a:(List Value→Value→World→Prop)→Prop} {φ:Value→World→Prop} (p:ds.length=n) (s: ∀u∈ds,u.oneCell'=true) (r: ∀v w,φ v w→ .agg ds.toArray=v)
 (q:a (fun _ _ w=>Y1 σ w b ds)) (g:σ b=none) (c: ¬D b):Sk (SetT B D σ hp tv room cs' b ds) (fun G=> ∀x w,SetB B D hp tv room cs cs' w0 σ0 w1 σ b n w→φ x w→Y0 P t (.pointer (some ⟨b,0,none⟩)) x w (dk (SetT B D σ hp tv room cs' b ds) (G [x]) w)) a:=by
 refine Q3u _ (fun xs v w w' h k=>?_) (fun x w C y=>?_) q
 ·rcases k.var with e | e
  ·exact ⟨g,by rw[e h.lt];exact h.2⟩
  ·exact ⟨g,e⟩
 ·have:=r x w y
  subst this
  obtain ⟨H,m,o⟩:=C.var
  exact Nk o m p (by rw[List.all_toArray];exact List.all_eq_true.2 s) fun w' f i=>⟨⟨.of_upd f (.inl rfl), .inr i.2, .inl fun j A E=>f.block j fun e=>c (e▸A)⟩,i⟩
theorem X1O {n:Nat} {x:Val} {r i:Int} {d:(Value→World→Prop)→Prop} {L R M:Value→World→Prop} (J:Glb σ) (Q:Tab σ tv l) (ok:Ok l) (y: ∀c∈cs,GoodC W5 l cs c) (f: ∀c∈(H5 W5 l cs r i x).1,GoodC W5 l (H5 W5 l cs r i x).1 c) (O:O3 σ x [I x.sort,I x.n,S x.s,I x.ref]) (q: ¬D b) (hσ:σ b=none)
 (h1: ∀v w,L v w→I r=v) (W: ∀v w,R v w→I i=v) (X: ∀v w,M v w→Value.agg [I x.sort,I x.n,S x.s,I x.ref].toArray=v)
 (Y:d (fun v w=>I (H5 W5 l cs r i x).2=v∧X2 w σ∧HeapIs B D σ w hp tv room (H5 W5 l cs r i x).1)):
 Q6 (SetT B D σ hp tv room (H5 W5 l cs r i x).1 b ds) (fun G=> ∀C E H w,SetB B D hp tv room cs (H5 W5 l cs r i x).1 w0 σ0 w1 σ b n w→L C w→R E w→M H w→Q1 P F.b4 [hp,C,E,H] w (dk (SetT B D σ hp tv room (H5 W5 l cs r i x).1 b ds) G w)) d:=by
 refine E7 _ (fun v w w' h k=>?_) (fun C E H w A U e2 e3=>?_) Y
 ·obtain ⟨e,hs,h4⟩:=h
  have g:X2 w' σ:=Kpt.sat hs k.kp fun j u=>u.elim (fun e=>e▸hσ) fun u=>(h4.mem u).2.2
  rcases k.hp with e2 | e2
  ·exact ⟨e,g,h4.same k.kp g q e2⟩
  ·exact ⟨e,g,e2⟩
 ·have:=h1 _ _ U
  have:=W _ _ e2
  have:=X _ _ e3
  subst_vars
  have t: ∀{a z},Nxt D w σ a z→HeapIs B D z a hp tv room (H5 W5 l cs r i x).1→SetT B D σ hp tv room (H5 W5 l cs r i x).1 b ds w a∧I (H5 W5 l cs r i x).2=I (H5 W5 l cs r i x).2∧X2 a σ∧HeapIs B D σ a hp tv room (H5 W5 l cs r i x).1:=fun {a z} N h4=>by
   have m:=h4.down N.le
   have p:b<w.heap.size:=by obtain ⟨zs,_,hm⟩:=A.var;exact hm.lt
   exact ⟨⟨N.kp.mono fun _ _ u=> .inr u, .inl fun _=>N.kp.block b p q, .inr m⟩,rfl,fun k o e=>N.sat k o (N.le.le k o e),m⟩
  rcases A.hp with h4 | h4
  ·exact X16 A.hst.sat J h4 Q ok y O fun a z N m=>t N m
  ·have Z:=X0u (ok:=W5) (l:=l) (cs:=cs) (r:=r) (i:=i) (v:=x)
   refine X16 A.hst.sat J h4 Q ok f O fun a z N m=>?_
   rw[Z] at m⊢
   exact t N m
end Go.Proofs.YtjdiakhipmggjaaGreatDoor

namespace Go.Proofs.YtjdiakhipmggjaaGreatDoor
open Go.Emb Go.RowKit Go.Kd Go.Hm
variable {w w' : World} {K : Value → World → Prop} {σ σ' : Q5} {ds : List Value} {room : Int} {cs : List Cel} {l : List Cla} {hp tv : Value}
theorem Vd {B f:Nat} {D m:Nat→Prop} {i c:World} {b:Q5} {h g:List Cel} {a:List Value} {G:Bool→Prop} {d:Bool} (hG:G d) (N:Nxt D w σ i b) (u:HeapIs B m b i hp tv room h) (n: ∀j,m j→D j∨w.heap.size≤j) (q: ¬m f) (A:w.heap.size≤f)
 (t:Kpt (fun j=>j=f) i c) (p:X2 c b) (C:Y1 b c f a) (o:a.length=3) (y:D7 b (Q4 l,room,g) a)
 (hh: ∀a d w' σ' r,G d→Nxt D w σ w' σ'→HeapIs B r σ' w' hp tv room h→(∀j,r j→D j∨w.heap.size≤j)→D7 σ' (Q4 l,room,g) a→K (.tuple #[.agg a.toArray, .bool d]) w'):
 Y7 P T.a (.pointer (some ⟨f,0,none⟩)) c fun v=>K (.tuple #[v, .bool d]) c:=by
 refine V1 C o ?_
 have s:Nxt (fun j=>j=f) i b c b:=⟨t,SLe.refl _,fun _ _=>rfl,p⟩
 exact hh a d c b m hG (N.chain s fun j E e=>by omega) (u.nx s fun k z e=>q (e▸z)) n y
set_option maxHeartbeats 2000000 in
theorem X3V {B:Nat} {D:Nat→Prop} {x:ActH} {xs:List Value} {cr:List Cel} (hs:X2 w σ) (hg:Glb σ) (hB:B≤w.heap.size) (h:HeapIs B D σ w hp tv room cs) (hr:D7 σ (Q4 l,room,cr) ds) (ht:Tab σ tv (Q4 l)) (wf:Wf l) (ok:Ok (Q4 l)) (hlen:(Q4 l).length≤1000)
 (good:GoodH W5 (Q4 l) room cs) (goodr:GoodH W5 (Q4 l) room cr) (h1:room≤1048576) (hx:Ke σ x xs) (hD0: ∀k,D k→B≤k)
 (hh: ∀ds' bb w' σ' D',(cr=cs→bb=true)→Nxt D w σ w' σ'→HeapIs B D' σ' w' hp tv room (C8 W5 (Q4 l) room cs x)→(∀j,D' j→D j∨w.heap.size≤j)→D7 σ' (Q4 l,room,C8 W5 (Q4 l) room cr x) ds'→K (.tuple #[.agg ds'.toArray, .bool bb]) w'):Q1 P F.aC [hp, .agg ds.toArray, .agg xs.toArray] w K:=Q1A (by
 have hx0:=hx
 have hr0:=hr
 obtain ⟨lv,cv,rfl,hl,hc⟩:=D7.out hr
 obtain ⟨rfl,⟨b1,b2,b3,b4⟩,hv⟩:=hx
 have hcl:=P9 cs
 have hlf:=good.left
 unfold V9 at hlf
 have hclr:=P9 cr
 have hlr:=goodr.left
 unfold V9 at hlr
 unfold Hk
 refine Z0 hs fun q4 w1 σ1 hk1 hq4=>?_
 refine Z0 hk1.sat fun q5 w2 σ2 hk2 hq5=>?_
 have hS2:=hk1.trans hk2
 refine M8 hk2.sat fun b6 w3 σ3 hb6 hk3 hm6=>?_
 have hS3:=hS2.trans hk3
 have hB6:=M7 hb6 hS2
 have hq43:=(hq4.up hk2).up hk3
 have hq53:=hq5.up hk3
 have h3:=h.up hS3
 have hr3:=L3 hr0 ⟨hS3.le⟩
 have ht3:=ht.lift ⟨hS3.le⟩
 have hg3:=hg.lift ⟨hS3.le⟩
 refine W4 ?_
 refine ld (i:=0) hk3.sat hq53 rfl ?_
 refine K9 ?_
 have hDl: ∀k,D k→k<w.heap.size:=fun k hk=>(h.mem hk).2.1
 have htk:Y8 cs≤1048576:=by omega
 have htr:Y8 cr≤1048576:=by omega
 by_cases e0:x.kind=0
 ·rw[decide_eq_true e0]
  have ea:C8 W5 (Q4 l) room cs x=(Zn (Q4 l) room cs x.s).1:=by unfold C8;rw[if_pos e0]
  have er:C8 W5 (Q4 l) room cr x=(Zn (Q4 l) room cr x.s).1:=by unfold C8;rw[if_pos e0]
  rw[ea,er] at hh
  refine J3 ?_
  refine Y4 hk3.sat hq43 rfl ?_
  refine W4 ?_
  refine ld (i:=1) hk3.sat hq53 rfl ?_
  refine X0o hk3.sat hr3 ok hlen b2 goodr.left h1 fun ds' w4 σ4 hk4 hr4=>?_
  refine J5 (vs:=[_,_]) rfl ?_
  refine J5 (vs:=[_,_]) rfl ?_
  have hS4:=hS3.trans hk4
  refine M8 hk4.sat fun b8 w5 σ5 hb8 hk5 hm8=>?_
  have hS5:=hS4.trans hk5
  have hB8:=M7 hb8 hS4
  have hr5:=L3 hr4 ⟨hk5.le⟩
  obtain ⟨lv',cv',hde,_,_⟩:=D7.out hr4
  subst hde
  refine Nk (ds:=[lv',I room,cv']) hm8 rfl rfl (by rw[List.all_toArray];exact List.all_eq_true.2 (Rep.one hr5)) fun w6 u6 hm86=>?_
  obtain ⟨σ7,hS7,hq8,l57,o7⟩:=Q3K (x:=(Q4 l,room,(Zn (Q4 l) room cr x.s).1)) hS5 hB8 hm8 u6 hm86
  have l37:SLe σ3 σ7:=(SLe.more ⟨hk4.le⟩ ⟨hk5.le⟩).more l57
  have hb68:b6≠b8:=by have:=(hm6.up hk4).lt;omega
  have hm66:=((hm6.up hk4).up hk5).upd u6 hb68
  have hm67:Y1 σ7 w6 b6 _:=⟨(o7 b6 hb68).trans hm66.1,hm66.2⟩
  have hq57:=hq53.lift l37
  have hq47:=hq43.lift l37
  refine W4 ?_
  refine ld (i:=1) hS7.sat hq57 rfl ?_
  refine Q5n hS7.sat (Nat.le_trans hB hS7.bel.size) (h.up hS7) (ht.lift ⟨hS7.le⟩) ok b2 good.left h1 fun w8 σ8 D8 N8 h8 hD8=>?_
  refine J5 (vs:=[_,_]) rfl ?_
  refine J5 (vs:=[_,_]) rfl ?_
  have N:=(Nxt.of_stp (D:=D) hS7).chain N8 fun k _ e=>e
  have hm68:=hm67.nx N8 fun e=>by have:=hDl _ e;omega
  have hne8: ¬D8 b6:=fun e=>by
   have:=hm67.lt
   rcases hD8 _ e with e | e
   ·have:=hDl _ e;omega
   ·omega
  have hD8': ∀j,D8 j→D j∨w.heap.size≤j:=fun j hj=>(hD8 j hj).imp id fun e=>Nat.le_trans hS7.bel.size e
  have hq48:=hq47.lift N8.le
  have hq88:=hq8.lift N8.le
  have hc8:Sl 2 R5 σ8 cv cr:=hc.lift N.le
  have hr8:=L3 hr5 (l57.more N8.le)
  have hsame:cr=cs→(Zn (Q4 l) room cr x.s).2=(Zn (Q4 l) room cs x.s).2:=fun h=>by rw[h]
  generalize (Zn (Q4 l) room cs x.s).2=e at*
  generalize (Zn (Q4 l) room cr x.s).2=f at*
  refine Q4P (w0:=Kt w8) (σ0:=fun _=>none) (n:=3) [lv',I room,cv'] (Yh N8.sat) (Nat.zero_le _) hm68 rfl rfl ?_
  unfold atM
  by_cases hfe:f=e
  case neg=>
   have hz0:decide (f=e)=false:=decide_eq_false hfe
   (repeat (apply J6;(· intros;(have hzz:=VarB.hs (by assumption));(repeat (rename_i hx;subst hx));(try simp only[hz0,decide_true,Bool.not_true,Bool.not_false,Bool.false_eq_true,Bool.true_eq_false,reduceIte,↓M2,M2,Mb,reduceIte]);(repeat' (first | (with_reducible exact F2 rfl) | (with_reducible exact Zc (Stp.bel (by (repeat (first | exact Stp.refl (by (first | assumption | exact Stp.sat (by assumption) | exact Hst.sat (by assumption))) | assumption | refine Stp.trans ?_ (by first | assumption | exact Hst.stp (by assumption)))))) rfl) | (with_reducible intro _) | (simp only[↓M2,M2,Mb,reduceIte]) | (with_reducible show Q2 _ _ _ _ _;first | refine X7 aS aL aR ?_ | refine Y4 aS aL aR ?_ | refine ld aS aL aR ?_) | (with_reducible show indexAddr _ _ _ _ _ _;refine Y3 aL au ?_) | (with_reducible show X3 _ _ _ _ _ _ _ _;refine Q8 aL ?_) | (with_reducible show G1 _ _ _ _ _ _;refine J4 aR ?_) | (with_reducible show pick _ _ _ _ _ _;refine O5 ?_) | (apply Ve;intro hh;(try simp only[hh,reduceIte,↓M2,M2,Mb,reduceIte]))));done)))
   refine Jf (φ:=fun v _=>Value.agg [lv',I room,cv'].toArray=v) rfl (Rep.one hr5) (fun v w h=>h) ?_ hm68.1
   intros
   rename_i hm9
   (repeat (rename_i hx;subst hx))
   rename_i w9 hb9
   exact Vd (G:=fun b=>cr=cs→b=true) (fun h=>absurd (hsame h) hfe) N h8 hD8' hne8 hB6 hb9.kp hb9.hst.sat hm9 rfl hr8 hh
  subst hfe
  by_cases e1:f=0
  ·subst e1
   simp only[reduceIte]
   have hz0:decide True=true:=decide_true _
   (repeat (apply J6;(· intros;(have hzz:=VarB.hs (by assumption));(repeat (rename_i hx;subst hx));(try simp only[hz0,decide_true,Bool.not_true,Bool.not_false,Bool.false_eq_true,Bool.true_eq_false,reduceIte,↓M2,M2,Mb,reduceIte]);(repeat' (first | (with_reducible exact F2 rfl) | (with_reducible exact Zc (Stp.bel (by (repeat (first | exact Stp.refl (by (first | assumption | exact Stp.sat (by assumption) | exact Hst.sat (by assumption))) | assumption | refine Stp.trans ?_ (by first | assumption | exact Hst.stp (by assumption)))))) rfl) | (with_reducible intro _) | (simp only[↓M2,M2,Mb,reduceIte]) | (with_reducible show Q2 _ _ _ _ _;first | refine X7 aS aL aR ?_ | refine Y4 aS aL aR ?_ | refine ld aS aL aR ?_) | (with_reducible show indexAddr _ _ _ _ _ _;refine Y3 aL au ?_) | (with_reducible show X3 _ _ _ _ _ _ _ _;refine Q8 aL ?_) | (with_reducible show G1 _ _ _ _ _ _;refine J4 aR ?_) | (with_reducible show pick _ _ _ _ _ _;refine O5 ?_) | (apply Ve;intro hh;(try simp only[hh,reduceIte,↓M2,M2,Mb,reduceIte]))));done)))
   refine Jf (φ:=fun v _=>Value.agg [lv',I room,cv'].toArray=v) rfl (Rep.one hr5) (fun v w h=>h) ?_ hm68.1
   intros
   rename_i hm9
   (repeat (rename_i hx;subst hx))
   rename_i w9 hb9
   exact Vd (G:=fun b=>cr=cs→b=true) (fun h=>by rw[h];exact decide_eq_true rfl) N h8 hD8' hne8 hB6 hb9.kp hb9.hst.sat hm9 rfl hr8 hh
  ·simp only[if_neg e1]
   have hz0:decide (f=0)=false:=decide_eq_false e1
   (repeat (apply J6;(· intros;(have hzz:=VarB.hs (by assumption));(repeat (rename_i hx;subst hx));(try simp only[hz0,decide_true,Bool.not_true,Bool.not_false,Bool.false_eq_true,Bool.true_eq_false,reduceIte,↓M2,M2,Mb,reduceIte]);(repeat' (first | (with_reducible exact F2 rfl) | (with_reducible exact Zc (Stp.bel (by (repeat (first | exact Stp.refl (by (first | assumption | exact Stp.sat (by assumption) | exact Hst.sat (by assumption))) | assumption | refine Stp.trans ?_ (by first | assumption | exact Hst.stp (by assumption)))))) rfl) | (with_reducible intro _) | (simp only[↓M2,M2,Mb,reduceIte]) | (with_reducible show Q2 _ _ _ _ _;first | refine X7 aS aL aR ?_ | refine Y4 aS aL aR ?_ | refine ld aS aL aR ?_) | (with_reducible show indexAddr _ _ _ _ _ _;refine Y3 aL au ?_) | (with_reducible show X3 _ _ _ _ _ _ _ _;refine Q8 aL ?_) | (with_reducible show G1 _ _ _ _ _ _;refine J4 aR ?_) | (with_reducible show pick _ _ _ _ _ _;refine O5 ?_) | (apply Ve;intro hh;(try simp only[hh,reduceIte,↓M2,M2,Mb,reduceIte]))));done)))
   refine Jf (φ:=fun v _=>Value.agg [lv',I room,cv'].toArray=v) rfl (Rep.one hr5) (fun v w h=>h) ?_ hm68.1
   intros
   rename_i hm9
   (repeat (rename_i hx;subst hx))
   rename_i w9 hb9
   exact Vd (G:=fun b=>cr=cs→b=true) (fun _=>rfl) N h8 hD8' hne8 hB6 hb9.kp hb9.hst.sat hm9 rfl hr8 hh
 rw[decide_eq_false e0]
 refine Z7 ?_
 refine K9 ?_
 by_cases e1k:x.kind=1
 ·rw[decide_eq_true e1k]
  have ea:C8 W5 (Q4 l) room cs x=(Zj (Q4 l) room cs x.s x.n).1:=by unfold C8;rw[if_neg e0,if_pos e1k]
  have er:C8 W5 (Q4 l) room cr x=(Zj (Q4 l) room cr x.s x.n).1:=by unfold C8;rw[if_neg e0,if_pos e1k]
  rw[ea,er] at hh
  refine J3 ?_
  refine Y4 hk3.sat hq43 rfl ?_
  refine W4 ?_
  refine ld (i:=1) hk3.sat hq53 rfl ?_
  refine W4 ?_
  refine ld (i:=2) hk3.sat hq53 rfl ?_
  refine X27 hk3.sat hr3 b2 goodr.left h1 fun ds' w4 σ4 hk4 hr4=>?_
  refine J5 (vs:=[_,_]) rfl ?_
  refine J5 (vs:=[_,_]) rfl ?_
  have hS4:=hS3.trans hk4
  refine M8 hk4.sat fun b8 w5 σ5 hb8 hk5 hm8=>?_
  have hS5:=hS4.trans hk5
  have hB8:=M7 hb8 hS4
  have hr5:=L3 hr4 ⟨hk5.le⟩
  obtain ⟨lv',cv',hde,_,_⟩:=D7.out hr4
  subst hde
  refine Nk (ds:=[lv',I room,cv']) hm8 rfl rfl (by rw[List.all_toArray];exact List.all_eq_true.2 (Rep.one hr5)) fun w6 u6 hm86=>?_
  obtain ⟨σ7,hS7,hq8,l57,o7⟩:=Q3K (x:=(Q4 l,room,(Zj (Q4 l) room cr x.s x.n).1)) hS5 hB8 hm8 u6 hm86
  have l37:SLe σ3 σ7:=(SLe.more ⟨hk4.le⟩ ⟨hk5.le⟩).more l57
  have hb68:b6≠b8:=by have:=(hm6.up hk4).lt;omega
  have hm66:=((hm6.up hk4).up hk5).upd u6 hb68
  have hm67:Y1 σ7 w6 b6 _:=⟨(o7 b6 hb68).trans hm66.1,hm66.2⟩
  have hq57:=hq53.lift l37
  have hq47:=hq43.lift l37
  refine W4 ?_
  refine ld (i:=1) hS7.sat hq57 rfl ?_
  refine W4 ?_
  refine ld (i:=2) hS7.sat hq57 rfl ?_
  refine Q7e hS7.sat (Nat.le_trans hB hS7.bel.size) (h.up hS7) (ht.lift ⟨hS7.le⟩) b2 good.left h1 fun w8 σ8 D8 N8 h8 hD8=>?_
  refine J5 (vs:=[_,_]) rfl ?_
  refine J5 (vs:=[_,_]) rfl ?_
  have N:=(Nxt.of_stp (D:=D) hS7).chain N8 fun k _ e=>e
  have hm68:=hm67.nx N8 fun e=>by have:=hDl _ e;omega
  have hne8: ¬D8 b6:=fun e=>by
   have:=hm67.lt
   rcases hD8 _ e with e | e
   ·have:=hDl _ e;omega
   ·omega
  have hD8': ∀j,D8 j→D j∨w.heap.size≤j:=fun j hj=>(hD8 j hj).imp id fun e=>Nat.le_trans hS7.bel.size e
  have hq48:=hq47.lift N8.le
  have hq88:=hq8.lift N8.le
  have hc8:Sl 2 R5 σ8 cv cr:=hc.lift N.le
  have hr8:=L3 hr5 (l57.more N8.le)
  have hsame:cr=cs→(Zj (Q4 l) room cr x.s x.n).2=(Zj (Q4 l) room cs x.s x.n).2:=fun h=>by rw[h]
  generalize (Zj (Q4 l) room cs x.s x.n).2=e at*
  generalize (Zj (Q4 l) room cr x.s x.n).2=f at*
  refine Q4P (w0:=Kt w8) (σ0:=fun _=>none) (n:=3) [lv',I room,cv'] (Yh N8.sat) (Nat.zero_le _) hm68 rfl rfl ?_
  unfold atM
  by_cases hfe:f=e
  case neg=>
   have hz0:decide (f=e)=false:=decide_eq_false hfe
   (repeat (apply J6;(· intros;(have hzz:=VarB.hs (by assumption));(repeat (rename_i hx;subst hx));(try simp only[hz0,decide_true,Bool.not_true,Bool.not_false,Bool.false_eq_true,Bool.true_eq_false,reduceIte,↓M2,M2,Mb,reduceIte]);(repeat' (first | (with_reducible exact F2 rfl) | (with_reducible exact Zc (Stp.bel (by (repeat (first | exact Stp.refl (by (first | assumption | exact Stp.sat (by assumption) | exact Hst.sat (by assumption))) | assumption | refine Stp.trans ?_ (by first | assumption | exact Hst.stp (by assumption)))))) rfl) | (with_reducible intro _) | (simp only[↓M2,M2,Mb,reduceIte]) | (with_reducible show Q2 _ _ _ _ _;first | refine X7 aS aL aR ?_ | refine Y4 aS aL aR ?_ | refine ld aS aL aR ?_) | (with_reducible show indexAddr _ _ _ _ _ _;refine Y3 aL au ?_) | (with_reducible show X3 _ _ _ _ _ _ _ _;refine Q8 aL ?_) | (with_reducible show G1 _ _ _ _ _ _;refine J4 aR ?_) | (with_reducible show pick _ _ _ _ _ _;refine O5 ?_) | (apply Ve;intro hh;(try simp only[hh,reduceIte,↓M2,M2,Mb,reduceIte]))));done)))
   refine Jf (φ:=fun v _=>Value.agg [lv',I room,cv'].toArray=v) rfl (Rep.one hr5) (fun v w h=>h) ?_ hm68.1
   intros
   rename_i hm9
   (repeat (rename_i hx;subst hx))
   rename_i w9 hb9
   exact Vd (G:=fun b=>cr=cs→b=true) (fun h=>absurd (hsame h) hfe) N h8 hD8' hne8 hB6 hb9.kp hb9.hst.sat hm9 rfl hr8 hh
  subst hfe
  by_cases e1:f=0
  ·subst e1
   simp only[reduceIte]
   have hz0:decide True=true:=decide_true _
   (repeat (apply J6;(· intros;(have hzz:=VarB.hs (by assumption));(repeat (rename_i hx;subst hx));(try simp only[hz0,decide_true,Bool.not_true,Bool.not_false,Bool.false_eq_true,Bool.true_eq_false,reduceIte,↓M2,M2,Mb,reduceIte]);(repeat' (first | (with_reducible exact F2 rfl) | (with_reducible exact Zc (Stp.bel (by (repeat (first | exact Stp.refl (by (first | assumption | exact Stp.sat (by assumption) | exact Hst.sat (by assumption))) | assumption | refine Stp.trans ?_ (by first | assumption | exact Hst.stp (by assumption)))))) rfl) | (with_reducible intro _) | (simp only[↓M2,M2,Mb,reduceIte]) | (with_reducible show Q2 _ _ _ _ _;first | refine X7 aS aL aR ?_ | refine Y4 aS aL aR ?_ | refine ld aS aL aR ?_) | (with_reducible show indexAddr _ _ _ _ _ _;refine Y3 aL au ?_) | (with_reducible show X3 _ _ _ _ _ _ _ _;refine Q8 aL ?_) | (with_reducible show G1 _ _ _ _ _ _;refine J4 aR ?_) | (with_reducible show pick _ _ _ _ _ _;refine O5 ?_) | (apply Ve;intro hh;(try simp only[hh,reduceIte,↓M2,M2,Mb,reduceIte]))));done)))
   refine Jf (φ:=fun v _=>Value.agg [lv',I room,cv'].toArray=v) rfl (Rep.one hr5) (fun v w h=>h) ?_ hm68.1
   intros
   rename_i hm9
   (repeat (rename_i hx;subst hx))
   rename_i w9 hb9
   exact Vd (G:=fun b=>cr=cs→b=true) (fun h=>by rw[h];exact decide_eq_true rfl) N h8 hD8' hne8 hB6 hb9.kp hb9.hst.sat hm9 rfl hr8 hh
  ·simp only[if_neg e1]
   have hz0:decide (f=0)=false:=decide_eq_false e1
   (repeat (apply J6;(· intros;(have hzz:=VarB.hs (by assumption));(repeat (rename_i hx;subst hx));(try simp only[hz0,decide_true,Bool.not_true,Bool.not_false,Bool.false_eq_true,Bool.true_eq_false,reduceIte,↓M2,M2,Mb,reduceIte]);(repeat' (first | (with_reducible exact F2 rfl) | (with_reducible exact Zc (Stp.bel (by (repeat (first | exact Stp.refl (by (first | assumption | exact Stp.sat (by assumption) | exact Hst.sat (by assumption))) | assumption | refine Stp.trans ?_ (by first | assumption | exact Hst.stp (by assumption)))))) rfl) | (with_reducible intro _) | (simp only[↓M2,M2,Mb,reduceIte]) | (with_reducible show Q2 _ _ _ _ _;first | refine X7 aS aL aR ?_ | refine Y4 aS aL aR ?_ | refine ld aS aL aR ?_) | (with_reducible show indexAddr _ _ _ _ _ _;refine Y3 aL au ?_) | (with_reducible show X3 _ _ _ _ _ _ _ _;refine Q8 aL ?_) | (with_reducible show G1 _ _ _ _ _ _;refine J4 aR ?_) | (with_reducible show pick _ _ _ _ _ _;refine O5 ?_) | (apply Ve;intro hh;(try simp only[hh,reduceIte,↓M2,M2,Mb,reduceIte]))));done)))
   refine Jf (φ:=fun v _=>Value.agg [lv',I room,cv'].toArray=v) rfl (Rep.one hr5) (fun v w h=>h) ?_ hm68.1
   intros
   rename_i hm9
   (repeat (rename_i hx;subst hx))
   rename_i w9 hb9
   exact Vd (G:=fun b=>cr=cs→b=true) (fun _=>rfl) N h8 hD8' hne8 hB6 hb9.kp hb9.hst.sat hm9 rfl hr8 hh
 rw[decide_eq_false e1k]
 refine Z7 ?_
 refine K9 ?_
 have hv43:Z4 σ3 (q5.add 4) [I x.v.sort,I x.v.n,S x.v.s,I x.v.ref]:=hq53.tail (xs:=[_,_,_,_])
 have hvr:O3 σ x.v [I x.v.sort,I x.v.n,S x.v.s,I x.v.ref]:=⟨rfl,hv⟩
 by_cases e2k:x.kind=2
 ·rw[decide_eq_true e2k]
  have ea:C8 W5 (Q4 l) room cs x=(H5 W5 (Q4 l) cs x.ref x.n x.v).1:=by unfold C8;rw[if_neg e0,if_neg e1k,if_pos e2k]
  have er:C8 W5 (Q4 l) room cr x=(H5 W5 (Q4 l) cr x.ref x.n x.v).1:=by unfold C8;rw[if_neg e0,if_neg e1k,if_pos e2k]
  rw[ea,er] at hh
  have good':=(GoodH.set good x.ref x.n x.v).cells
  refine J3 ?_
  refine Y4 hk3.sat hq43 rfl ?_
  refine W4 ?_
  refine ld (i:=3) hk3.sat hq53 rfl ?_
  refine W4 ?_
  refine ld (i:=2) hk3.sat hq53 rfl ?_
  refine W4 ?_
  refine Y4 hk3.sat hv43 rfl ?_
  refine X38 hk3.sat hr3 wf ok hlen goodr.cells htr ⟨rfl,hv⟩ fun ds' w4 σ4 hk4 hr4=>?_
  refine J5 (vs:=[_,_]) rfl ?_
  refine J5 (vs:=[_,_]) rfl ?_
  have hS4:=hS3.trans hk4
  refine M8 hk4.sat fun b8 w5 σ5 hb8 hk5 hm8=>?_
  have hS5:=hS4.trans hk5
  have hB8:=M7 hb8 hS4
  have hr5:=L3 hr4 ⟨hk5.le⟩
  obtain ⟨lv',cv',hde,_,_⟩:=D7.out hr4
  subst hde
  refine Nk (ds:=[lv',I room,cv']) hm8 rfl rfl (by rw[List.all_toArray];exact List.all_eq_true.2 (Rep.one hr5)) fun w6 u6 hm86=>?_
  obtain ⟨σ7,hS7,hq8,l57,o7⟩:=Q3K (x:=(Q4 l,room,(H5 W5 (Q4 l) cr x.ref x.n x.v).1)) hS5 hB8 hm8 u6 hm86
  have l37:SLe σ3 σ7:=(SLe.more ⟨hk4.le⟩ ⟨hk5.le⟩).more l57
  have hb68:b6≠b8:=by have:=(hm6.up hk4).lt;omega
  have hm66:=((hm6.up hk4).up hk5).upd u6 hb68
  have hm67:Y1 σ7 w6 b6 _:=⟨(o7 b6 hb68).trans hm66.1,hm66.2⟩
  have hq57:=hq53.lift l37
  have hv47:=hv43.lift l37
  have hr7:=L3 hr5 l57
  have hbD: ¬D b6:=fun e=>by have:=hDl _ e;omega
  refine X2x (w0:=Kt w6) (σ0:=fun _=>none) (n:=3) (H5 W5 (Q4 l) cs x.ref x.n x.v).1 [lv',I room,cv'] (Yh hS7.sat) (Nat.zero_le _) (Nat.zero_le _) hbD hm67 rfl rfl (h.up hS7) ?_
  (repeat (apply J6;(· intros;(have hzz:=SetB.hs (by assumption));(repeat (rename_i hx;subst hx));(repeat' (first | (with_reducible exact Q4Z rfl) | (with_reducible exact X23 (Stp.bel (by (repeat (first | exact Stp.refl (by (first | assumption | exact Stp.sat (by assumption) | exact Hst.sat (by assumption))) | assumption | refine Stp.trans ?_ (by first | assumption | exact Hst.stp (by assumption)))))) rfl) | (with_reducible intro _) | (simp only[↓M2,M2,Mb,reduceIte]) | (with_reducible show Q2 _ _ _ _ _;first | refine X7 aS aL aR ?_ | refine Y4 aS aL aR ?_ | refine ld aS aL aR ?_) | (with_reducible show indexAddr _ _ _ _ _ _;refine Y3 aL au ?_) | (with_reducible show X3 _ _ _ _ _ _ _ _;refine Q8 aL ?_) | (with_reducible show G1 _ _ _ _ _ _;refine J4 aR ?_) | (with_reducible show pick _ _ _ _ _ _;refine O5 ?_)));done)))
  refine X1O (hg.lift ⟨hS7.le⟩) (ht.lift ⟨hS7.le⟩) ok good.cells good' ⟨rfl,hv⟩ hbD hm67.1 (fun _ _ h=>h) (fun _ _ h=>h) (fun _ _ h=>h) ?_
  refine J6 (V:= .bool (decide ((H5 W5 (Q4 l) cs x.ref x.n x.v).2=(H5 W5 (Q4 l) cr x.ref x.n x.v).2))) (fun t w hb ht=>?_) ?_
  ·obtain ⟨rfl,_,_⟩:=ht
   refine K9 ?_
   exact Q4Z rfl
  refine X09 (φ:=fun v _=>Value.agg [lv',I room,cv'].toArray=v) rfl (Rep.one hr5) (fun v w h=>h) ?_ hm67.1 hbD
  intros
  rename_i hm9
  (repeat (rename_i hx;subst hx))
  rename_i hset
  (repeat (rename_i hx;subst hx))
  rename_i w9 hb9
  obtain ⟨_,hs9,h9⟩:=hset
  refine V1 hm9 rfl ?_
  have Nb:Nxt (fun j=>j=b6∨D j) w6 σ7 w9 σ7:=⟨hb9.kp,SLe.refl _,fun _ _=>rfl,hs9⟩
  exact hh _ _ w9 σ7 D (fun h=>by rw[h];exact decide_eq_true rfl) ((Nxt.of_stp (D:=D) hS7).chain Nb fun j hj e=>e.elim (fun e=>by omega) id) h9 (fun j hj=> .inl hj) hr7
 rw[decide_eq_false e2k]
 refine Z7 ?_
 refine K9 ?_
 by_cases e3k:x.kind=3
 ·rw[decide_eq_true e3k]
  have ea:C8 W5 (Q4 l) room cs x=cs:=by unfold C8;rw[if_neg e0,if_neg e1k,if_neg e2k,if_neg (by omega)]
  have er:C8 W5 (Q4 l) room cr x=cr:=by unfold C8;rw[if_neg e0,if_neg e1k,if_neg e2k,if_neg (by omega)]
  rw[ea,er] at hh
  refine J3 ?_
  refine Y4 hk3.sat hq43 rfl ?_
  refine W4 ?_
  refine ld (i:=3) hk3.sat hq53 rfl ?_
  refine W4 ?_
  refine ld (i:=2) hk3.sat hq53 rfl ?_
  refine X3C hk3.sat hr3 fun w4 σ4 hk4=>?_
  refine J5 (vs:=[_,_]) rfl ?_
  refine J5 (vs:=[_,_]) rfl ?_
  refine Y9 (sz:=4) hk4.sat aR aR Rr fun q8 w5 σ5 hk5 hq8=>?_
  have hk35:=hk4.trans hk5
  have hS5:=hS3.trans hk35
  have h5:=h.up hS5
  have hq55:=hq53.lift ⟨hk35.le⟩
  refine W4 ?_
  refine ld (i:=3) hk35.sat hq55 rfl ?_
  refine W4 ?_
  refine ld (i:=2) hk35.sat hq55 rfl ?_
  obtain ⟨σf,sf,lef,hsl,of⟩:=h5.freeze hk35.sat
  refine X2u sf hsl fun w6 σ6 hk6=>?_
  refine J5 (vs:=[_,_]) rfl ?_
  refine J5 (vs:=[_,_]) rfl ?_
  refine Y9 (sz:=4) hk6.sat aR aR Rr fun q9 w7 σ7 hk7 hq9=>?_
  have hk57:=hk6.trans hk7
  have hS57:=hk57.weak lef.le
  have hS7:=hS5.trans hS57
  have l57:SLe σ5 σ7:=lef.more ⟨hk57.le⟩
  have hbD: ¬D b6:=fun e=>by have:=hDl _ e;omega
  have hm65:=hm6.up hk35
  have hm6f:Y1 σf w5 b6 _:=⟨(of b6 hbD).trans hm65.1,hm65.2⟩
  have hm67:=hm6f.up hk57
  have hq47:=(hq43.lift ⟨hk35.le⟩).lift l57
  have hq87:=hq8.lift l57
  refine Q4P (w0:=Kt w7) (σ0:=fun _=>none) (n:=3) [lv,I room,cv] (Yh hk57.sat) (Nat.zero_le _) hm67 rfl rfl ?_
  have n5:σ5 b6=none:=hm65.1
  have hq97:=hq9
  by_cases hge:Ex cr x.ref x.n=Ex cs x.ref x.n
  ·have hz0:decide True=true:=decide_true _
   (repeat (apply J6;(· intros;(have hzz:=VarB.hs (by assumption));(repeat (rename_i hx;subst hx));(try simp only[hz0,decide_true,Bool.not_true,Bool.not_false,Bool.false_eq_true,Bool.true_eq_false,reduceIte,↓M2,M2,Mb,reduceIte]);(repeat' (first | (with_reducible exact F2 rfl) | (with_reducible exact Zc (Stp.bel (by (repeat (first | exact Stp.refl (by (first | assumption | exact Stp.sat (by assumption) | exact Hst.sat (by assumption))) | assumption | refine Stp.trans ?_ (by first | assumption | exact Hst.stp (by assumption)))))) rfl) | (with_reducible intro _) | (simp only[↓M2,M2,Mb,reduceIte]) | (with_reducible show Q2 _ _ _ _ _;first | refine X7 aS aL aR ?_ | refine Y4 aS aL aR ?_ | refine ld aS aL aR ?_) | (with_reducible show indexAddr _ _ _ _ _ _;refine Y3 aL au ?_) | (with_reducible show X3 _ _ _ _ _ _ _ _;refine Q8 aL ?_) | (with_reducible show G1 _ _ _ _ _ _;refine J4 aR ?_) | (with_reducible show pick _ _ _ _ _ _;refine O5 ?_) | (apply Ve;intro hh;(try simp only[hh,reduceIte,↓M2,M2,Mb,reduceIte]))));done)))
   refine J6 (V:= .bool true) (by
    intros
    (repeat (rename_i hx;subst hx))
    refine Dh ?_
    exact F2 (by rw[hge,decide_eq_true rfl])) ?_
   (repeat (apply J6;(· intros;(have hzz:=VarB.hs (by assumption));(repeat (rename_i hx;subst hx));(try simp only[hz0,decide_true,Bool.not_true,Bool.not_false,Bool.false_eq_true,Bool.true_eq_false,reduceIte,↓M2,M2,Mb,reduceIte]);(repeat' (first | (with_reducible exact F2 rfl) | (with_reducible exact Zc (Stp.bel (by (repeat (first | exact Stp.refl (by (first | assumption | exact Stp.sat (by assumption) | exact Hst.sat (by assumption))) | assumption | refine Stp.trans ?_ (by first | assumption | exact Hst.stp (by assumption)))))) rfl) | (with_reducible intro _) | (simp only[↓M2,M2,Mb,reduceIte]) | (with_reducible show Q2 _ _ _ _ _;first | refine X7 aS aL aR ?_ | refine Y4 aS aL aR ?_ | refine ld aS aL aR ?_) | (with_reducible show indexAddr _ _ _ _ _ _;refine Y3 aL au ?_) | (with_reducible show X3 _ _ _ _ _ _ _ _;refine Q8 aL ?_) | (with_reducible show G1 _ _ _ _ _ _;refine J4 aR ?_) | (with_reducible show pick _ _ _ _ _ _;refine O5 ?_) | (apply Ve;intro hh;(try simp only[hh,reduceIte,↓M2,M2,Mb,reduceIte]))));done)))
   refine Jf (φ:=fun v _=>Value.agg [lv,I room,cv].toArray=v) rfl (Rep.one hr3) (fun v w h=>h) ?_ hm67.1
   intros
   rename_i hm9
   (repeat (rename_i hx;subst hx))
   rename_i w9 hb9
   exact Vd (G:=fun b=>cr=cs→b=true) (fun h=>by rw[h];exact decide_eq_true rfl) (Nxt.of_stp (D:=D) hS7) (h5.up hS57) (fun j hj=> .inl hj) hbD hB6 hb9.kp (fun k o e=>hb9.hst.sat k o (l57.le k o e)) ⟨n5,hm9.2⟩ rfl (L3 hr0 ⟨hS7.le⟩) hh
  ·have hz0:decide True=true:=decide_true _
   (repeat (apply J6;(· intros;(have hzz:=VarB.hs (by assumption));(repeat (rename_i hx;subst hx));(try simp only[hz0,decide_true,Bool.not_true,Bool.not_false,Bool.false_eq_true,Bool.true_eq_false,reduceIte,↓M2,M2,Mb,reduceIte]);(repeat' (first | (with_reducible exact F2 rfl) | (with_reducible exact Zc (Stp.bel (by (repeat (first | exact Stp.refl (by (first | assumption | exact Stp.sat (by assumption) | exact Hst.sat (by assumption))) | assumption | refine Stp.trans ?_ (by first | assumption | exact Hst.stp (by assumption)))))) rfl) | (with_reducible intro _) | (simp only[↓M2,M2,Mb,reduceIte]) | (with_reducible show Q2 _ _ _ _ _;first | refine X7 aS aL aR ?_ | refine Y4 aS aL aR ?_ | refine ld aS aL aR ?_) | (with_reducible show indexAddr _ _ _ _ _ _;refine Y3 aL au ?_) | (with_reducible show X3 _ _ _ _ _ _ _ _;refine Q8 aL ?_) | (with_reducible show G1 _ _ _ _ _ _;refine J4 aR ?_) | (with_reducible show pick _ _ _ _ _ _;refine O5 ?_) | (apply Ve;intro hh;(try simp only[hh,reduceIte,↓M2,M2,Mb,reduceIte]))));done)))
   refine J6 (V:= .bool false) (by
    intros
    (repeat (rename_i hx;subst hx))
    refine Dh ?_
    exact F2 (by rw[decide_eq_false hge])) ?_
   (repeat (apply J6;(· intros;(have hzz:=VarB.hs (by assumption));(repeat (rename_i hx;subst hx));(try simp only[hz0,decide_true,Bool.not_true,Bool.not_false,Bool.false_eq_true,Bool.true_eq_false,reduceIte,↓M2,M2,Mb,reduceIte]);(repeat' (first | (with_reducible exact F2 rfl) | (with_reducible exact Zc (Stp.bel (by (repeat (first | exact Stp.refl (by (first | assumption | exact Stp.sat (by assumption) | exact Hst.sat (by assumption))) | assumption | refine Stp.trans ?_ (by first | assumption | exact Hst.stp (by assumption)))))) rfl) | (with_reducible intro _) | (simp only[↓M2,M2,Mb,reduceIte]) | (with_reducible show Q2 _ _ _ _ _;first | refine X7 aS aL aR ?_ | refine Y4 aS aL aR ?_ | refine ld aS aL aR ?_) | (with_reducible show indexAddr _ _ _ _ _ _;refine Y3 aL au ?_) | (with_reducible show X3 _ _ _ _ _ _ _ _;refine Q8 aL ?_) | (with_reducible show G1 _ _ _ _ _ _;refine J4 aR ?_) | (with_reducible show pick _ _ _ _ _ _;refine O5 ?_) | (apply Ve;intro hh;(try simp only[hh,reduceIte,↓M2,M2,Mb,reduceIte]))));done)))
   refine Jf (φ:=fun v _=>Value.agg [lv,I room,cv].toArray=v) rfl (Rep.one hr3) (fun v w h=>h) ?_ hm67.1
   intros
   rename_i hm9
   (repeat (rename_i hx;subst hx))
   rename_i w9 hb9
   exact Vd (G:=fun b=>cr=cs→b=true) (fun h=>absurd (by rw[h]) hge) (Nxt.of_stp (D:=D) hS7) (h5.up hS57) (fun j hj=> .inl hj) hbD hB6 hb9.kp (fun k o e=>hb9.hst.sat k o (l57.le k o e)) ⟨n5,hm9.2⟩ rfl (L3 hr0 ⟨hS7.le⟩) hh
 rw[decide_eq_false e3k]
 refine Z7 ?_
 refine K9 ?_
 by_cases e4k:x.kind=4
 ·rw[decide_eq_true e4k]
  have ea:C8 W5 (Q4 l) room cs x=Iw cs x.ref:=by unfold C8;rw[if_neg e0,if_neg e1k,if_neg e2k,if_pos e4k]
  have er:C8 W5 (Q4 l) room cr x=Iw cr x.ref:=by unfold C8;rw[if_neg e0,if_neg e1k,if_neg e2k,if_pos e4k]
  rw[ea,er] at hh
  refine J3 ?_
  refine W4 ?_
  refine ld (i:=3) hk3.sat hq53 rfl ?_
  refine X3F hk3.sat h3 htk b4 fun w4 σ4 D4 N4 h4 hD4=>?_
  have hq54:=hq53.lift N4.le
  have hq44:=hq43.lift N4.le
  refine Y4 N4.sat hq44 rfl ?_
  refine W4 ?_
  refine ld (i:=3) N4.sat hq54 rfl ?_
  refine X3g N4.sat (L3 hr3 N4.le) htr b4 fun ds' w5 σ5 hk5 hr5=>?_
  have hbD: ¬D b6:=fun e=>by have:=hDl _ e;omega
  have hm65:=(hm6.nx N4 hbD).up hk5
  obtain ⟨lv',cv',hde,_,_⟩:=D7.out hr5
  subst hde
  refine Nk (ds:=[lv',I room,cv']) hm65 rfl rfl (by rw[List.all_toArray];exact List.all_eq_true.2 (Rep.one hr5)) fun w6 u6 hm66=>?_
  have N:=(Nxt.of_stp (D:=D) hS3).chain (N4.trans (Nxt.of_stp hk5)) fun j _ e=>e
  exact Vd (G:=fun b=>cr=cs→b=true) (fun _=>rfl) N (h4.up hk5) (fun j hj=> .inl (hD4 j hj)) (fun e=>hbD (hD4 _ e)) hB6 (Kpt.of_upd u6 rfl) (u6.stp (Yh hk5.sat) (Nat.zero_le _) hm65.1).sat hm66 rfl hr5 hh
 rw[decide_eq_false e4k]
 refine Z7 ?_
 have ea:C8 W5 (Q4 l) room cs x=cs:=by unfold C8;rw[if_neg e0,if_neg e1k,if_neg e2k,if_neg e4k]
 have er:C8 W5 (Q4 l) room cr x=cr:=by unfold C8;rw[if_neg e0,if_neg e1k,if_neg e2k,if_neg e4k]
 rw[ea,er] at hh
 refine Y4 hk3.sat hq43 rfl ?_
 refine Nk (ds:=[lv,I room,cv]) hm6 rfl rfl (by rw[List.all_toArray];exact List.all_eq_true.2 (Rep.one hr3)) fun w6 u6 hm66=>?_
 have hbD: ¬D b6:=fun e=>by have:=hDl _ e;omega
 exact Vd (G:=fun b=>cr=cs→b=true) (fun _=>rfl) (Nxt.of_stp (D:=D) hS3) h3 (fun j hj=> .inl hj) hbD hB6 (Kpt.of_upd u6 rfl) (u6.stp (Yh hk3.sat) (Nat.zero_le _) hm6.1).sat hm66 rfl hr3 hh)
end Go.Proofs.YtjdiakhipmggjaaGreatDoor

namespace Go.Emb
theorem X3P {w:World} {A:World→Prop} (h:A w.drew):sq w A:=by rw[X0R];exact h
end Go.Emb
namespace Go.Proofs.YtjdiakhipmggjaaGreatDoor
open Go.Emb Go.RowKit Go.Kd Go.Hm
variable {w w' w0 : World} {K : Value → World → Prop} {σ σ' σ0 : Q5} {room : Int} {cs cr : List Cel} {hp tv : Value} {b6 : Nat}
structure RunG (w0 : World) (σ0 : Q5) (w : World) (σ : Q5) (hp tv : Value) (b6 : Nat) (room : Int) (cs cr : List Cel) : Prop where
  stp : Stp w0 σ0 w σ
  ex : ∃ D ds, HeapIs w0.heap.size D σ w hp tv room cs ∧ ¬ D b6 ∧ Y1 σ w b6 ds ∧ D7 σ (Q4 I8, room, cr) ds
  bge : w0.heap.size ≤ b6
  tab : Tab σ tv (Q4 I8)
  ok : Ok (Q4 I8)
  good : GoodH W5 (Q4 I8) room cs
  goodr : GoodH W5 (Q4 I8) room cr
  rm : room ≤ 1048576
abbrev Run (w0:World) (σ0:Q5) (w:World) (σ:Q5) (hp tv:Value) (b6:Nat) (room:Int) (cs:List Cel):Prop:=RunG w0 σ0 w σ hp tv b6 room cs cs
theorem RunG.up (R:RunG w0 σ0 w σ hp tv b6 room cs cr) (k:Stp w σ w' σ'):RunG w0 σ0 w' σ' hp tv b6 room cs cr:=by
 obtain ⟨D,ds,a,c,d,b⟩:=R.ex
 exact ⟨R.stp.trans k,⟨D,ds,a.up k,c,d.up k,L3 b ⟨k.le⟩⟩,R.bge,R.tab.lift ⟨k.le⟩,R.ok,R.good,R.goodr,R.rm⟩
theorem RunG.below (R:RunG w0 σ0 w σ hp tv b6 room cs cr) (k:Below w.heap.size w w'):RunG w0 σ0 w' σ hp tv b6 room cs cr:=R.up (Stp.of_below R.stp.sat k)
theorem RunG.takes (R:RunG w0 σ0 w σ hp tv b6 room cs cr):Y8 cs≤1048576:=by
 have a:=R.good.left
 have b:=R.rm
 unfold V9 at a
 omega
theorem RunG.freeze (R:RunG w0 σ0 w σ hp tv b6 room cs cr): ∃a ds,X2 w a∧SLe σ a∧S4 a hp tv room cs∧Y1 a w b6 ds∧D7 a (Q4 I8,room,cr) ds∧Tab a tv (Q4 I8):=by
 obtain ⟨D,ds,f,h,d,g⟩:=R.ex
 obtain ⟨a,e,b,c,of⟩:=f.freeze R.stp.sat
 exact ⟨a,ds,e,b,c,⟨(of b6 h).trans d.1,d.2⟩,L3 g b,R.tab.lift b⟩
theorem RunG.act {x:ActH} {l ds:List Value} {D:Nat→Prop} (R:RunG w0 σ0 w σ hp tv b6 room cs cr) (p:Glb σ0) (d:HeapIs w0.heap.size D σ w hp tv room cs) (m: ¬D b6) (n:Y1 σ w b6 ds) (r:D7 σ (Q4 I8,room,cr) ds) (t:Ke σ x l)
 (h: ∀a b w' σ' o,HeapIs w0.heap.size o σ' w' hp tv room (C8 W5 (Q4 I8) room cs x)→ ¬o b6→Y1 σ' w' b6 ds→D7 σ' (Q4 I8,room,C8 W5 (Q4 I8) room cr x) a→Stp w0 σ0 w' σ'→SLe σ σ'→(cr=cs→b=true)→K (.tuple #[.agg a.toArray, .bool b]) w'):Q1 P F.aC [hp, .agg ds.toArray, .agg l.toArray] w K:=by
 refine X3V R.stp.sat (p.lift ⟨R.stp.le⟩) R.stp.bel.size d r R.tab Q1e R.ok (by decide) R.good R.goodr R.rm t (fun k c=>(d.mem c).1) fun a b s q v f g u i j=>?_
 have y:=n.lt
 exact h a b s q v u (fun e=>(i _ e).elim m fun e=>by omega) (n.nx g m) j (g.stp' R.stp fun k c=>(d.mem c).1) g.le f
theorem X2t {r:Int} (h:(Lit.int .u16 r).wf=true):0≤r:=by
 simp[Lit.wf,IntKind.min,IntKind.max,IntKind.signed,IntKind.bits] at h
 omega
theorem X1X {o:Operand} {r:Int} {A:Value→Value→Value→World→Prop} (Q:X2 w σ) (C:Glb σ) (O:0≤r)
 (h: ∀a b b6 w' σ',Run w σ w' σ' (.pointer (some a)) (.pointer (some b)) b6 (r % 301) []→A (.pointer (some a)) (.pointer (some ⟨b6,0,none⟩)) (.bool false) w'):
 Q1 P F.ag [.int .u16 r] w fun j w=>ext P j 0 w fun k w=>ext P j 1 w fun p w=>W0 P T.a w fun E w=>Y0 P T.a E p w fun _u w=>Q1 P F.aF [] w fun q w=>J7 P .not q w fun g w=>Q0 g false w (fun w J=>J k w) fun u w=>Q0 g false w (Q3 P .eql T.a5 o (.const (.pointer none)) u (.pointer none)) fun y w=>pick P g (.bool true) y w fun t w=>A k E t w:=by
 have i:=Int.emod_nonneg r (show (301:Int)≠0 by decide)
 have R:=Int.emod_lt_of_pos r (show (0:Int)<301 by decide)
 refine Q7c Q C O fun b a D ds w1 σ1 f L d V ok=>?_
 refine J5 (vs:=[_,_]) rfl ?_
 refine J5 (vs:=[_,_]) rfl ?_
 refine M8 f.sat fun N X M m s n=>?_
 have v:=M7 m f
 refine Nk n rfl (by obtain ⟨lv,cv,rfl,_⟩:=D7.out d;rfl) (by rw[List.all_toArray];exact List.all_eq_true.2 (Rep.one d)) fun H U B=>?_
 have c:Stp w1 σ1 H M:=U.stp s m n.1
 have l:=f.trans c
 have W:Run w σ H M (.pointer (some ⟨b,0,none⟩)) (.pointer (some a)) N (r % 301) []:=⟨l,⟨D,ds,L.up c,fun e=>by have:=(L.mem e).2.1;omega,B,L3 d ⟨c.le⟩⟩,v,V.lift ⟨c.le⟩,ok,GoodH.empty i,GoodH.empty i,by omega⟩
 refine X1c c.sat (C.lift ⟨l.le⟩) fun Z Y z=>?_
 simp only[Bool.not_true,↓M1,M1,Mb,reduceIte]
 refine Q8G ?_
 exact h _ _ _ _ _ (W.up z)
theorem X3k {J:World→Prop} {i:Nat} {xs:List ActH} {v:Value} (U:Glb σ0) (Z:Sl 8 Ke σ0 v xs) (p:i<xs.length) (R:Run w0 σ0 w σ hp tv b6 room cs)
 (h: ∀w' σ' d,Run w0 σ0 w' σ' hp tv b6 room d→d=cs∨d=C8 W5 (Q4 I8) room cs xs[i]→J w'):
 indexAddr P T.a0 v (I i) w fun z w=>Q2 P T.m z w fun y w=>Q1 P F.aY [y] w fun s w=>X1 s (sq w fun w=>indexAddr P T.a0 v (I i) w fun q w=>Q2 P T.a (.pointer (some ⟨b6,0,none⟩)) w fun t w=>Q2 P T.m q w fun m w=>Q1 P F.aC [hp,t,m] w fun g w=>ext P g 0 w fun A w=>ext P g 1 w fun aa w=>Y0 P T.a (.pointer (some ⟨b6,0,none⟩)) A w fun _u w=>J w) (J w):=by
 have b:=Z.up R.stp
 obtain ⟨c0,N,E,Q⟩:=b.el p
 refine Y3 b p ?_
 refine Y4 R.stp.sat N E ?_
 refine X3n R.stp.sat Q fun w1 o=>?_
 have L:=R.below o
 refine Q7 (fun _=>?_) (fun _=>h _ _ _ L (.inl rfl))
 refine X3P ?_
 have a:=L.below (Below.refl _ _).drew
 obtain ⟨D,ds,X,V,C,r⟩:=a.ex
 refine Y3 b p ?_
 refine Si C (by obtain ⟨O,M,rfl,_⟩:=D7.out r;rfl) ?_
 refine Y4 a.stp.sat N E ?_
 refine a.act U X V C r Q fun B bb w3 σ3 D3 Y l c f j n _=>?_
 refine J5 (vs:=[_,_]) rfl ?_
 refine J5 (vs:=[_,_]) rfl ?_
 refine Nk c (by obtain ⟨O,M,rfl,_⟩:=D7.out r;rfl) (by obtain ⟨O,M,rfl,_⟩:=D7.out f;rfl) (by rw[List.all_toArray];exact List.all_eq_true.2 (Rep.one f)) fun w4 H u=>?_
 have G:=GoodH.act Q1e Q3H a.good xs[i]
 exact h _ _ _ ⟨H.stp j a.bge c.1,⟨D3,B,Y.nx (Nxt.of_upd j.sat H c.1) fun k W e=>l (e▸W),l,u,f⟩,a.bge,a.tab.lift n,a.ok,G,G,a.rm⟩ (.inr rfl)
end Go.Proofs.YtjdiakhipmggjaaGreatDoor

namespace Go.Proofs.YtjdiakhipmggjaaGreatDoor
open Go.Emb Go.RowKit Go.Kd Go.Hm
variable {w w' w0 : World} {K : Value → World → Prop} {σ σ' σ0 : Q5} {room : Int} {cs : List Cel} {hp tv : Value} {b6 : Nat}
theorem Q87 {k:Nat} (a:k<cs.length):Y8 (cs.take (k+1))=Y8 (cs.take k)+(1+(cs[k].vals.length:Int)):=by
 rw[List.take_add_one,I5,List.getElem?_eq_getElem a]
 simp[Y8]
theorem Q5w (n:Nat):Y8 (cs.take n)≤Y8 cs:=by
 have h:=L9 (cs.drop n)
 have e:Y8 (cs.take n++cs.drop n)=Y8 cs:=by rw[List.take_append_drop]
 rw[I5] at e
 omega
theorem X0p {k:Nat} (a:k<cs.length):Q0v cs (k:Int)=cs[k].vals.length:=by
 unfold Q0v;rw[if_pos (N3.2 ⟨k,rfl,a⟩),W7 a]
theorem X2B {o1 o2:Operand} {r:Int} (f:0≤r) (h:K (I (r % 301)) w):Q3 P .rem T.ao o1 o2 (.int .u16 r) (.int .u16 301) w fun a w=>conv P T.ao T.e a w fun b w=>K b w:=by
 have e:=Int.emod_nonneg r (show (301:Int)≠0 by decide)
 have c:=Int.emod_lt_of_pos r (show (0:Int)<301 by decide)
 refine Q37 ⟨by decide,f⟩ ?_
 rw[Rn Q58 Ks]
 have d:IntKind.i64.wrap (r % 301)=r % 301:=S7 (n:=r % 301) (by omega) (by omega)
 rw[d]
 exact h
set_option maxHeartbeats 1000000 in
theorem Q6m {r:Int} {v:Value} {xs:List ActH} (O:X2 w σ) (B:Glb σ) (L:(Lit.int .u16 r).wf=true) (D:Sl 8 Ke σ v xs)
 (h: ∀w' σ',Stp w σ w' σ'→K (.bool true) w'):Q1 P F.c5 [.int .u16 r,v] w K:=Rl (by
 have j:0≤r:=X2t L
 unfold Je
 refine X1X O B j fun a b b6 w1 σ1 W=>?_
 refine Z7 ?_
 refine U1 xs.length (fun i w'=> ∃σ' A,Run w σ w' σ' (.pointer (some a)) (.pointer (some b)) b6 (r % 301) A) ⟨σ1,[],W⟩ fun i w2 d hi Q=>?_
 obtain ⟨σ2,X,o⟩:=Q
 have l:=D.up o.stp
 have s:=l.max
 refine Q8 l ?_
 refine Z2 ?_
 cases H:decide ((i:Int)<(xs.length:Nat)) with
 | false=>
  (try simp only[↓M1,M1,Mb,reduceIte])
  exact h _ _ o.stp
 | true=>
  (try simp only[↓M1,M1,Mb,reduceIte])
  have m:i<xs.length:=by simpa using H
  refine Q7 (fun _=>?_) (fun _=>h _ _ o.stp)
  refine U6 ?_
  refine X3k B D m o fun R σ3 c g _=>fun d2=>?_
  obtain ⟨σf,ds,p,J,f,_⟩:=g.freeze
  have M:=g.takes
  have Y:=P9 c
  have z:r % 301-Y8 c=V9 (r % 301) c:=rfl
  refine E3 c.length (fun n a w'=>a=I (Y8 (c.take n))∧w'=R) ⟨rfl,rfl⟩ fun n a w4 d3 hn q=>?_
  obtain ⟨rfl,rfl⟩:=q
  have N:=Q5w (cs:=c) n
  have U:=L9 (c.take n)
  refine Q9r p f ?_
  refine Z2 ?_
  refine Q7 (fun y=>?_) (fun y=>?_)
  ·have e:n<c.length:=by simpa using y
   have u:=Q87 e
   have C:=Q5w (cs:=c) (n+1)
   refine Q7l p f ?_
   rw[X0p e]
   refine L8 ?_
   rw[S7 (by omega) (by omega)]
   refine L8 ?_
   rw[S7 (by omega) (by omega)]
   refine L8 ?_
   exact Z9 (by omega) e ⟨by rw[u],rfl⟩
  ·have e:n=c.length:=by
    have: ¬n<c.length:=by simpa using y
    omega
   subst e
   rw[List.take_length]
   refine Q1w p f g.good.left g.rm fun w5 k=>?_
   refine X2B j ?_
   refine X35 ?_
   rw[S7 (by omega) (by omega),z]
   refine Zz ?_
   simp only[decide_true,Bool.not_true,↓M1,M1,Mb,reduceIte]
   have Z:=g.below k
   refine Q1w (Stp.of_below p k).sat f g.good.left g.rm fun w6 t=>?_
   have V:=g.good.left
   have E:decide (V9 (r % 301) c<0)=false:=decide_eq_false (by omega)
   simp only[E,↓M1,M1,Mb,reduceIte]
   exact Y6 s m ⟨_,_,Z.below t⟩)
end Go.Proofs.YtjdiakhipmggjaaGreatDoor

namespace Go.Proofs.YtjdiakhipmggjaaGreatDoor.heapRooms
open Go.ChangeShapes Go.WideShapes Go.ChangeAt Go.RowKit
open Go.Emb
theorem own : ownKnob Tryz.prog.godebug = none := by kernel_rfl
theorem lay : laidOutB Tryz.prog = true := by kernel_rfl
set_option maxRecDepth 100000 in
theorem X2O (os : Os) (started : os.Started) (H : Type) (enc : TypeId × Value → H) :
    ReturnsInHanded {} Tryz.checked os 5 .any (fun w args => (Rows.heapRoomsSpec.pre enc Tryz.prog Tryz.f5 [] false w args ∧ laidMetH Tryz.prog laidAll w) ∧ sizedMet enc Tryz.prog Tryz.f5 (OpenSpec.ofChange Rows.heapRoomsSpec) false w args) (Rows.heapRoomsSpec.post enc Tryz.prog Tryz.f5 false true false false) := by
  refine returnsInHanded_of_change_and (C := Tryz.checked) (X := fun w _ => laidMetH Tryz.prog laidAll w) (fun _ _ _ hh h => h.of_heap hh) own started (by kernel_rfl) Tryz.func5
    (ChangeSpec.witness_shaped (enc := enc) (C := Tryz.checked) (os := os) (X := fun w _ => laidMetH Tryz.prog laidAll w) false (World.laidAll Tryz.prog os laidAll) #[.int .u16 0, .slice none 0 0] 8 (World.laidAll_os _ _ _)
      (World.shaped_of_ZipB (by kernel_rfl) (by kernel_rfl)) (by kernel_rfl) (by kernel_rfl) (by kernel_rfl) (by rw [MakeChecks.laidMetH_plain _ _ _ (by kernel_rfl)]; exact laidMet_laidAll _ (by kernel_rfl) (by kernel_rfl))) ?_
  intro W base args ds gs before hval0 hW _ hsz0 hL _
  have hsz : (DataW.weightsEach Tryz.prog (Tryz.f5.params.toList ++ Rows.heapRoomsSpec.plain.varTypes Tryz.prog) (ds ++ gs)).all (· ≤ reachBytes) = true := hsz0
  have hval : ∀ (j : Nat) t v, Tryz.f5.params[j]? = some t → args[j]? = some v → Value.okWide Tryz.prog W .any base t v := hval0
  have hW' := hW
  obtain ⟨p, q, hA0, hV, rfl, hfz, hnd⟩ := hW
  have hA : DataW.TrodAll enc Tryz.prog W 0 (fun _ => true) true Tryz.f5.params.toList args.toList ds p := hA0
  have hlt := DataW.TrodAll.lt hA
  rw [Tryz.params5] at hA hval hsz
  obtain ⟨v0, vs0, d0, ds0, p0, q0, hargs, rfl, rfl, h0, r0⟩ := trodAll_cons hA
  obtain ⟨v1, vs1, d1, ds1, p1, q1, rfl, rfl, rfl, h1, r1⟩ := trodAll_cons r0
  obtain ⟨rfl, rfl, rfl⟩ := trodAll_nil r1
  obtain rfl : args = #[v0, v1] := by cases args; simp_all
  obtain ⟨rfl, rfl⟩ := trodVars_none hV
  have g0 : ∀ x ∈ p0, x.block < W.heap.size := fun x hx => hlt x (by simp [hx])
  have k0 := fun (W' : World) (bel : Below W.heap.size W W') => Below.trod lay (by kernel_rfl) (of_decide_eq_true (by kernel_rfl)) h0 bel g0
  obtain ⟨a0, rfl, _, _, w0⟩ := open_int Tryz.underlying43 (hval 0 43 v0 rfl rfl) h0
  have g1 : ∀ x ∈ p1, x.block < W.heap.size := fun x hx => hlt x (by simp [hx])
  have k1 := fun (W' : World) (bel : Below W.heap.size W W') => Below.trod lay (by kernel_rfl) (of_decide_eq_true (by kernel_rfl)) h1 bel g1
  obtain ⟨l1, e1⟩ := X1j (hval 1 44 v1 rfl rfl) h1 (X2D hsz (j := 1) (t := 44) rfl rfl)
  have hc : Q1 Tryz.prog 5 [.int .u16 a0, v1] W (fun e w' => e = .bool true ∧ Below W.heap.size W w') := Q6m Q9C (X2s hL) w0 e1 (fun w' σ' hb => ⟨rfl, hb.bel⟩)
  refine (Q3D Tryz.func5 (by kernel_rfl) (by kernel_rfl) hc).mono fun e W' he => ?_
  obtain ⟨v, rfl⟩ : ∃ v, e = .returned v := by cases e <;> first | exact ⟨_, rfl⟩ | exact he.elim
  obtain ⟨rfl, bel⟩ := he
  exact ⟨_, rfl, _, _, _, [], _, [], hW', trodAll_mk1 (shut_bool Tryz.underlying4 _), (trodAll_cons_mk (k0 W' bel) (trodAll_cons_mk (k1 W' bel) trodAll_mk0)), rfl, bel.frame _, fun h => by cases h⟩
theorem over : Rows.heapRoomsRow.holds Tryz.pinned (OpenSpec.ofChange Rows.heapRoomsSpec) :=
  OpenClaim.holds_of_wide 5 Tryz.f5 rfl rfl rfl rfl rfl rfl rfl ⟨rfl, rfl, rfl, rfl, rfl⟩ rfl rfl rfl rfl rfl (by kernel_rfl) Tryz.func5 (by kernel_rfl)
    (of_decide_eq_true (by kernel_rfl)) (by unfold Func.isWrapper; first | (rw [if_pos (by decide +kernel)]; kernel_rfl) | (rw [if_neg (by decide +kernel)]; exact ⟨rfl, rfl⟩))
    (fun os started H enc _ => X2O os started H enc)
end Go.Proofs.YtjdiakhipmggjaaGreatDoor.heapRooms
namespace Go.Proofs.YtjdiakhipmggjaaGreatDoor
theorem Q3k : Rows.HeapRoomsSaid := heapRooms.over
end Go.Proofs.YtjdiakhipmggjaaGreatDoor
