/- Parts of a proof about the given program: its functions as texts of their own, what each computes, plain laws of that. The conditions of each stand in its statement. -/
import Derived.Test.YtjdiakhipmggjaaGreatDoorB5
import Derived.Test.YtjdiakhipmggjaaGreatDoorB3
import Derived.Test.YtjdiakhipmggjaaGreatDoorB4
import Derived.Test.YtjdiakhipmggjaaGreatDoorRows
import Derived.WalkKit
import Derived.ProofKit
import Derived.OpenShut
import Derived.ShutString
import Derived.ChangeOld
import Derived.Below
import Derived.SizedLaws
import Derived.Lay
import Derived.Carry
import Derived.MakeChecks
import Derived.PinnedBridge
set_option linter.unnecessarySimpa false
set_option linter.defProp false
set_option linter.unusedSectionVars false
set_option linter.unusedVariables false
set_option linter.unusedSimpArgs false
namespace Go.Hm
open Go.Kd
theorem Q8T {a:List Cla} {m:Nat} (b:m<a.length):Z1 a (Y1 a m)=some m↔Z1 (a.take m) (Y1 a m)=none:=by
 have d:Y1 a m=a[m].name:=by unfold Y1;rw[List.getD_eq_getElem?_getD,List.getElem?_eq_getElem b];rfl
 unfold Z1
 rw[List.findIdx?_eq_some_iff_getElem,List.findIdx?_eq_none_iff]
 constructor
 ·rintro ⟨i,k,g⟩ c e
  obtain ⟨j,f,rfl⟩:=List.mem_take_iff_getElem.1 e
  simpa using g j (by omega)
 ·intro h
  refine ⟨b,by simp[d],fun j f=>?_⟩
  simpa using h a[j] (List.mem_take_iff_getElem.2 ⟨j,by omega,rfl⟩)
theorem Q8y {a:List Cla} (d:T7 a) {m:Nat} (b:m<a.length):Xm a (Y1 a m) (Y1 a m)=T0 a a[m]:=by
 have c:Y1 a m=a[m].name:=by unfold Y1;rw[List.getD_eq_getElem?_getD,List.getElem?_eq_getElem b];rfl
 unfold Xm T0
 rw[Yl d b,List.getD_eq_getElem?_getD,List.getElem?_eq_getElem b]
 simp only[Option.getD_some,c]
end Go.Hm
namespace Go.Proofs.YtjdiakhipmggjaaGreatDoor
open Go.Emb Go.RowKit Go.Kd Go.Hm
variable {w : World} {K : Value → World → Prop} {σ : Q6} {l : List Cla}
theorem Q88: ∀c∈I1,Zx c=false:=by decide
theorem Q8C {c:Cla} (h:D6 c=0):Zx c=false:=by
 unfold D6 at h
 split at h
 ·cases h
 ·rename_i a;exact eq_false_of_ne_true a
set_option maxHeartbeats 4000000 in
theorem X25 {lv:Value} (hs:X2 w σ) (hl:Sl 8 V0 σ lv l) (cz:l.length≤900)
 (C: ∀i e w' y,Sa D6 l=some (i,e)→Stp w σ w' y→K (.tuple #[.slice none 0 0,I i,I e]) w')
 (h0: ∀v w' y,Sa D6 l=none→Stp w σ w' y→Sl 8 V0 y v (Q4 l)→Ok (Q4 l)→T7 (Q4 l)→K (.tuple #[v,I 0,I 0]) w'):Q1 P F.bN [lv] w K:=Q15 (by
 unfold Eu
 have A:I1.length=8:=rfl
 have dm:(Q4 l).length=8+l.length:=by simp[Q4,A]
 refine Q9J hs fun x0 w1 σ1 bv bf=>?_
 refine Q8z bf ?_
 rw[A]
 refine H0 l.length (fun n x w'=> ∃y,Stp w σ w' y∧V6 w.heap.size T.b 8 V0 y w' x (I1++l.take n)∧D0 D6 l 0=D0 D6 (l.drop n) n)
  ⟨σ1,bv,by simpa using bf,rfl⟩ fun n x w4 d J b=>?_
 obtain ⟨σ4,aa,a3,E⟩:=b
 have ac:=hl.up aa
 refine Q8 ac ?_
 refine Z2 ?_
 refine Q7 (fun hh=>?_) (fun hh=>?_)
 ·have a:n<l.length:=by simpa using hh
  obtain ⟨b3,b2,b4,p1,r1⟩:=ac.elC a
  refine Y2 ac a ?_
  refine Y5 aa.sat p1 rfl ?_
  refine Q42 aa.sat r1 fun w6 σ6 Z=>?_
  have cf:=aa.trans Z
  have W:=Wo a E
  refine Qx ?_
  refine Q7 (fun m=>?_) (fun m=>?_)
  ·have B: ¬D6 l[n]=0:=by simpa using m
   rw[if_neg B] at W
   refine C _ _ _ _ ?_ cf
   unfold Sa
   rw[W]
  ·have hz:D6 l[n]=0:=by simpa using m
   rw[if_pos hz] at W
   refine Y2 (ac.up Z) a ?_
   refine Y5 Z.sat (p1.up Z) rfl ?_
   have cm:=a3.up Z
   have r6:=RCl_lift r1 ⟨Z.le⟩
   refine Jo (R:=V0) (x:=l[n]) cf cm (by simpa [Value.cells] using r6) rfl rfl rfl (by simp[A];omega) (by simp[A];omega) fun s v' w9 σ9 dl p cl az=>?_
   refine O8 ?_
   refine J6 ac.max a ⟨σ9,p,?_,W⟩
   rw[List.take_add_one,List.getElem?_eq_getElem a,←List.append_assoc]
   exact cl
 have a: ¬n<l.length:=by simpa using hh
 rw[List.take_of_length_le (by omega)] at a3
 rw[List.drop_eq_nil_of_le (by omega)] at E
 have E:D0 D6 l 0=none:=E
 have bs:=P7 E
 have bh: ∀c∈l,Qw c∧Nm c∧c.name≠[]:=fun c hc=>Fh (bs c hc)
 have q: ∀c∈Q4 l,Qw c:=fun c hc=>by
  rcases List.mem_append.1 hc with hc | hc
  ·exact (Jp c hc).1
  ·exact (bh c hc).1
 have a5: ∀c∈Q4 l,Nm c:=fun c hc=>by
  rcases List.mem_append.1 hc with hc | hc
  ·exact (Jp c hc).2.1
  ·exact (bh c hc).2.1
 have ad: ∀c∈Q4 l,Zx c=false:=fun c hc=>by
  rcases List.mem_append.1 hc with hc | hc
  ·exact Q88 c hc
  ·exact Q8C (bs c hc)
 have ap:(Q4 l).length≤100000:=by omega
 unfold Sa at C h0
 rw[E] at C h0
 simp only at C h0
 obtain ⟨σ5,o,H,c4,cx⟩:=a3.keep aa
 change Sl 8 V0 σ5 x (Q4 l) at H
 clear a3 aa ac a hh J E bf bv
 have r: ∀{n:Nat} (J:n<l.length),∃(h:8+n<(Q4 l).length),(Q4 l)[8+n]=l[n]:=fun {n} J=>⟨by omega,by
  unfold Q4
  rw[List.getElem_append_right (by rw[A];omega)]
  congr 1
  rw[A];omega⟩
 have bk: ∀{n:Nat} (J:n<l.length),Y1 (Q4 l) (8+n)=l[n].name:=fun {n} J=>by
  obtain ⟨C,h2⟩:=r J
  rw[Pv C,h2]
 have bn: ∀j,j<8→(Z1 ((Q4 l).take j) (Y1 (Q4 l) j)).isSome=false:=by
  have hd: ∀j,j<8→(Z1 (I1.take j) (Y1 I1 j)).isSome=false:=by decide
  intro j hj
  have e1:(Q4 l).take j=I1.take j:=by unfold Q4;rw[List.take_append_of_le_length (by rw[A];omega)]
  have e2:Y1 (Q4 l) j=Y1 I1 j:=by
   unfold Y1 Q4;rw[List.getD_eq_getElem?_getD,List.getD_eq_getElem?_getD,List.getElem?_append_left (by rw[A];omega)]
  rw[e1,e2];exact hd j hj
 refine U3 l.length (fun n w'=>Stp w σ w' σ5∧ ∀j,j<8+n→(Z1 ((Q4 l).take j) (Y1 (Q4 l) j)).isSome=false) ⟨o,by simpa using bn⟩ fun n w5 d J b=>?_
 clear o
 obtain ⟨o,a2⟩:=b
 have an:=hl.up o
 refine Q8 an ?_
 refine Z2 ?_
 refine Q7 (fun hh=>?_) (fun hh=>?_)
 ·have a:n<l.length:=by simpa using hh
  obtain ⟨b3,b2,b4,p1,r1⟩:=an.elC a
  refine Y2 an a ?_
  (try simp only[↓M1,M1,Mb,reduceIte])
  refine ld o.sat p1 rfl ?_
  refine I9 o.sat H ?_
  rw[F7 (by omega) (by omega)]
  refine Qx ?_
  obtain ⟨U,e8⟩:=r a
  rw[←bk a]
  have b6:=Q8T U
  cases av:Z1 ((Q4 l).take (8+n)) (Y1 (Q4 l) (8+n)) with
  | none=>
   rw[b6.2 av]
   have e:decide (L7 (some (8+n))=(8:Nat)+(n:Int))=true:=by simp[L7]
   rw[e]
   (try simp only[↓M1,M1,Mb,reduceIte])
   refine Y6 an.max a ⟨o,fun j hj=>?_⟩
   by_cases ej:j=8+n
   ·rw[ej,av];rfl
   ·exact a2 j (by omega)
  | some i=>
   have B:Z1 (Q4 l) (Y1 (Q4 l) (8+n))≠some (8+n):=fun e=>by rw[b6.1 e] at av;cases av
   have e:decide (L7 (Z1 (Q4 l) (Y1 (Q4 l) (8+n)))=(8:Nat)+(n:Int))=false:=by
    rw[decide_eq_false_iff_not]
    intro e
    cases hf:Z1 (Q4 l) (Y1 (Q4 l) (8+n)) with
    | none=>rw[hf] at e;simp only[L7] at e;omega
    | some k=>
     rw[hf] at e B
     simp only[L7] at e
     apply B
     congr 1;omega
   rw[e]
   (try simp only[↓M1,M1,Mb,reduceIte])
   have N:Si (Q4 l)=some (8+n):=by
    unfold Si
    rw[List.find?_range_eq_some]
    refine ⟨by rw[av];rfl,by simpa using U,fun j hj=>by rw[a2 j hj];rfl⟩
   refine C _ _ _ _ ?_ o
   rw[N]
   have:((8+n:Nat):Int)-8=n:=by omega
   simp only[this]
 have a: ¬n<l.length:=by simpa using hh
 have N:Si (Q4 l)=none:=by
  unfold Si
  rw[List.find?_eq_none]
  intro j hj
  rw[a2 j (by have:=List.mem_range.1 hj;omega)];simp
 rw[N] at C h0
 simp only at C h0
 have g:=Kc N
 clear a2 hh a J an bn
 refine U3 l.length (fun n w'=> ∃y,Stp w σ w' y∧SLe σ5 y∧D0 (fun c=>(D1 (Q4 l) c:Int)) l 0=D0 (fun c=>(D1 (Q4 l) c:Int)) (l.drop n) n) ⟨σ5,o,SLe.refl _,rfl⟩ fun n w6 d J b=>?_
 obtain ⟨σ9,p,ag,ab⟩:=b
 have aw:=hl.up p
 refine Q8 aw ?_
 refine Z2 ?_
 refine Q7 (fun hh=>?_) (fun hh=>?_)
 ·have a:n<l.length:=by simpa using hh
  obtain ⟨b3,b2,b4,p1,r1⟩:=aw.elC a
  refine Y2 aw a ?_
  refine Y5 p.sat p1 rfl ?_
  have V:=Wo a ab
  refine Q8q p.sat (H.lift ag) r1 fun w8 co aq=>?_
  refine Qx ?_
  refine Q7 (fun m=>?_) (fun m=>?_)
  ·have B: ¬(D1 (Q4 l) l[n]:Int)=0:=by simpa using m
   rw[if_neg B] at V
   refine C _ _ _ _ ?_ (p.trans aq)
   rw[V]
  ·have hz:(D1 (Q4 l) l[n]:Int)=0:=by simpa using m
   rw[if_pos hz] at V
   refine O8 ?_
   exact Y6 aw.max a ⟨co,p.trans aq,ag.more ⟨aq.le⟩,V⟩
 have a: ¬n<l.length:=by simpa using hh
 rw[List.drop_eq_nil_of_le (by omega)] at ab
 have ab:D0 (fun c=>(D1 (Q4 l) c:Int)) l 0=none:=ab
 rw[ab] at C h0
 simp only at C h0
 have cc:=P7 ab
 clear hh a J o aw
 refine Q1e p.sat (H.lift ag) g (by omega) (by omega) q fun vb de b7 am ay=>?_
 have f:=p.trans am
 have a8:=ag.more ⟨am.le⟩
 have a0:(I6 (Q4 l)).length=(Q4 l).length:=by simp[I6]
 refine U3 l.length (fun n w'=>Stp w σ w' b7∧ ∀j (hj:j<l.length),j<n→T0 (Q4 l) l[j]=false) ⟨f,fun j _ h=>by omega⟩ fun n dg d J b=>?_
 clear f
 obtain ⟨f,a4⟩:=b
 have ae:=hl.up f
 refine Q8 ae ?_
 refine Z2 ?_
 refine Q7 (fun hh=>?_) (fun hh=>?_)
 ·have a:n<l.length:=by simpa using hh
  obtain ⟨U,e8⟩:=r a
  refine Yc ⟨by omega,by omega⟩ ?_
  have ec:((8:Nat):Int)+(n:Int)=((8+n:Nat):Int):=by omega
  rw[ec]
  obtain ⟨dw,pb,_,rv,rfl,rb⟩:=ay.el (i:=8+n) (by rw[a0];exact U)
  have ce:(I6 (Q4 l))[8+n]'(by rw[a0];exact U)=(List.range (Q4 l).length).map fun j=>Xm (Q4 l) (Y1 (Q4 l) (8+n)) (Y1 (Q4 l) j):=by simp[I6]
  rw[ce] at rb
  obtain ⟨ct,bg,_,ak⟩:=rb.el (i:=8+n) (by simpa using U)
  have ak:ct=_:=ak
  subst ak
  simp only[List.getElem_map,List.getElem_range] at bg
  rw[Q8y g U,e8] at bg
  refine Y2 ay (by rw[a0];exact U) ?_
  refine X7 f.sat pb rfl ?_
  refine Yc ⟨by omega,by omega⟩ ?_
  rw[ec]
  refine Y2 rb (by simpa using U) ?_
  refine X7 f.sat bg rfl ?_
  cases cd:T0 (Q4 l) l[n] with
  | true=>
   (try simp only[↓M1,M1,Mb,reduceIte])
   have bi:l.findIdx? (T0 (Q4 l))=some n:=by
    rw[List.findIdx?_eq_some_iff_getElem]
    exact ⟨a,cd,fun j hj=>by simpa using a4 j (by omega) hj⟩
   refine C _ _ _ _ ?_ f
   rw[bi]
  | false=>
   (try simp only[↓M1,M1,Mb,reduceIte])
   refine Y6 ae.max a ⟨f,fun j hj dn=>?_⟩
   by_cases e:j=n
   ·subst e;exact cd
   ·exact a4 j hj (by omega)
 have a: ¬n<l.length:=by simpa using hh
 have ba: ∀c∈l,T0 (Q4 l) c=false:=fun c hc=>by
  obtain ⟨j,hj,rfl⟩:=List.getElem_of_mem hc
  exact a4 j hj (by omega)
 have bi:l.findIdx? (T0 (Q4 l))=none:=by
  rw[List.findIdx?_eq_none_iff];exact ba
 rw[bi] at C h0
 simp only at C h0
 clear a4 hh a J ae ay am p a0
 have ax:=Q6a g (fun c hc=>(bh c hc).2.2) ba
 have aj:X1k (Q4 l):=fun c hc u hu=>by
  rcases List.mem_append.1 hc with hc | hc
  ·rw[(Jp c hc).2.2] at hu;simp at hu
  ·have:=cc c hc
   unfold D1 at this
   split at this
   ·simp at this
   ·split at this
    ·simp at this
    ·rename_i z
     have z:c.like.any (R5 (Q4 l))=false:=eq_false_of_ne_true z
     have:=List.any_eq_false.1 z u hu
     unfold R5 at this
     cases hd:lk (Q4 l) u with
     | none=>rw[hd] at this;simp at this
     | some d=>exact ⟨d,rfl⟩
 have b5:Ok (Q4 l):=⟨ax,ap,q,aj,a5⟩
 have ca: ∀i (hi:i<(Q4 l).length),8≤i→ ∀u∈U4 (Q4 l)[i],∃j,Z1 (Q4 l) u=some j:=fun i hi U u hu=>by
  have ah:i-8<l.length:=by omega
  obtain ⟨c3,e8⟩:=r ah
  have cu:(Q4 l)[i]=l[i-8]:=by rw[←e8];congr 1;omega
  rw[cu] at hu
  have bd:=List.getElem_mem ah
  rcases List.mem_cons.1 hu with hu | hu
  ·have:=cc _ bd
   unfold D1 at this
   split at this
   ·simp at this
   ·rename_i z
    unfold Xd at z
    rw[←hu] at z
    cases hd:lk (Q4 l) u with
    | none=>rw[hd] at z;simp at z
    | some d=>obtain ⟨_,_,j,hj,_⟩:=V4 hd;exact ⟨j,hj⟩
  ·obtain ⟨d,hd⟩:=aj _ (List.mem_append_right _ bd) u hu
   obtain ⟨_,_,j,hj,_⟩:=V4 hd;exact ⟨j,hj⟩
 refine Hl (R:=Wv) (e:=T.e) f (by decide) fun db c8 a6 a7 _=>?_
 refine H0 l.length (fun n x' w'=> ∃y D,Stp w σ w' y∧SLe σ5 y∧V6 w.heap.size T.e 1 Wv y w' x' (ints D)∧Few (Q4 l) D∧D=(((List.range (Q4 l).length).drop 8).take n).foldl (fun D i=>Xu (Q4 l) 8 D i) [])
  ⟨b7,[],f.trans a6,a8,a7,⟨List.nodup_nil,by simp⟩,rfl⟩ fun n x' ds d J b=>?_
 clear a7 a6 f a8 ag
 obtain ⟨du,D,Q,O,ai,ar,ao⟩:=b
 have al:=hl.up Q
 refine Q8 al ?_
 refine Z2 ?_
 refine Q7 (fun hh=>?_) (fun hh=>?_)
 ·have a:n<l.length:=by simpa using hh
  obtain ⟨U,e8⟩:=r a
  refine Yc ⟨by omega,by omega⟩ ?_
  have ec:((8:Nat):Int)+(n:Int)=((8+n:Nat):Int):=by omega
  rw[ec]
  refine X1V ax g (by omega) q (by omega) ca ((Q4 l).length+1) U (Nat.lt_succ_of_le (Q1R _ _)) ar Q (H.lift O) ai fun da c5 cp ch b9 bx=>?_
  refine O8 ?_
  refine J6 al.max a ⟨cp,_,ch,O.more b9,bx,Ta ax g (by omega) _ _ _ U ar,?_⟩
  rw[List.take_add_one,List.getElem?_drop,List.getElem?_range U,List.foldl_append,←ao]
  rfl
 have a: ¬n<l.length:=by simpa using hh
 have cv:n=l.length:=by omega
 subst cv
 have b0:D=W0 (Q4 l) 8:=by
  rw[ao,List.take_of_length_le (by rw[List.length_drop,List.length_range];omega)];rfl
 subst b0
 clear ao hh a J
 have c6:=ar.len
 have cq:=X0x g
 obtain ⟨b8,bm,bo,bc,_⟩:=ai.keep Q
 have bl:=O.more ⟨bc⟩
 clear ai Q bc O al
 have ah:(ints (W0 (Q4 l) 8)).length=(W0 (Q4 l) 8).length:=by simp
 refine U3 (W0 (Q4 l) 8).length (fun n w'=> ∃y,Stp w σ w' y∧SLe b8 y∧ ∀j∈(W0 (Q4 l) 8).take n,V7 (Q4 l) ((Q4 l).getD j Cla.zero)=0) ⟨b8,bm,SLe.refl _,by simp⟩ fun n di d J b=>?_
 obtain ⟨c7,X,Y,a1⟩:=b
 have M:=bo.lift Y
 refine Q8 M ?_
 rw[ah]
 refine Z2 ?_
 refine Q7 (fun hh=>?_) (fun hh=>?_)
 ·have a:n<(W0 (Q4 l) 8).length:=by simpa using hh
  have bz:n<(ints (W0 (Q4 l) 8)).length:=by rw[ah];exact a
  refine Y2 M bz ?_
  obtain ⟨cs,pc,_,cj⟩:=M.el bz
  obtain ⟨rfl,_⟩:=cj
  simp only[List.getElem_map] at pc
  refine X7 X.sat pc rfl ?_
  have bw:=(cq _ (List.getElem_mem a)).2
  have az:(Q4 l).getD (W0 (Q4 l) 8)[n] Cla.zero=(Q4 l)[(W0 (Q4 l) 8)[n]]:=by rw[List.getD_eq_getElem?_getD,List.getElem?_eq_getElem bw];rfl
  refine Q78 X.sat (H.lift (bl.more Y)) b5 g (by omega) ad bw fun dt bu t=>?_
  have bb:=X.trans t
  refine Qx ?_
  refine Q7 (fun m=>?_) (fun m=>?_)
  ·have B: ¬V7 (Q4 l) (Q4 l)[(W0 (Q4 l) 8)[n]]=0:=by simpa using m
   have c1:=M.up t
   have b1:=pc.up t
   refine U2 t.sat ?_
   (repeat refine Z8 Qd ?_)
   (intros;(repeat (rename_i hx;subst hx));(try simp only[↓M2,M2,Mb,reduceIte]))
   rename_i ck be
   refine X7 be.sat b1 rfl ?_
   refine Zl ⟨by omega,by omega⟩ ?_
   have L:(W0 (Q4 l) 8).find? (fun j=> !decide (V7 (Q4 l) ((Q4 l).getD j Cla.zero)=0))=some (W0 (Q4 l) 8)[n]:=by
    rw[List.find?_eq_some_iff_getElem]
    refine ⟨by rw[az];simpa using B,n,a,rfl,fun j hj=>?_⟩
    have:=a1 _ (List.mem_take_iff_getElem.2 ⟨j,by omega,rfl⟩)
    rw[this];simp
   have:=C (((W0 (Q4 l) 8)[n]:Int)-8) (V7 (Q4 l) (Q4 l)[(W0 (Q4 l) 8)[n]]) ck bu (by rw[L];simp only[az]) (bb.trans be.stp)
   exact this
  ·have hz:V7 (Q4 l) (Q4 l)[(W0 (Q4 l) 8)[n]]=0:=by simpa using m
   refine O8 ?_
   refine Y6 (by omega) a ⟨bu,bb,Y.more ⟨t.le⟩,fun j hj=>?_⟩
   rw[List.take_add_one,List.getElem?_eq_getElem a] at hj
   rcases List.mem_append.1 hj with hj | hj
   ·exact a1 j hj
   ·simp at hj;subst hj;rw[az];exact hz
 ·have a: ¬n<(W0 (Q4 l) 8).length:=by simpa using hh
  rw[List.take_of_length_le (by omega)] at a1
  have L:(W0 (Q4 l) 8).find? (fun j=> !decide (V7 (Q4 l) ((Q4 l).getD j Cla.zero)=0))=none:=by
   rw[List.find?_eq_none]
   intro j hj
   rw[a1 j hj];simp
  rw[L] at h0
  exact h0 _ _ _ rfl X (H.lift (bl.more Y)) b5 g)
end Go.Proofs.YtjdiakhipmggjaaGreatDoor

namespace Go.Proofs.YtjdiakhipmggjaaGreatDoor
open Go.Emb Go.RowKit Go.Kd Go.Hm
variable {w : World} {K : Value → World → Prop} {σ : Q6} {l : List Cla} {v : Value}
theorem Q8n:(I6 l).length=l.length:=by simp[I6]
theorem Q9G {i:Nat} (a:i<(I6 l).length):(I6 l)[i]=(List.range l.length).map fun j=>Xm l (Y1 l i) (Y1 l j):=by simp[I6]
theorem Sl.elB {xs:List (List Bool)} {v:Value} (h:Sl 1 Q66 σ v xs) {i:Nat} (c:i<xs.length): ∃u,Z6 σ (Vw 1 v i) [u]∧Sl 1 Q3o σ u xs[i]:=by
 obtain ⟨cs,b,d,u,rfl,a⟩:=h.el c;exact ⟨u,b,a⟩
theorem Sl.elb {xs:List Bool} {v:Value} (h:Sl 1 Q3o σ v xs) {i:Nat} (c:i<xs.length):Z6 σ (Vw 1 v i) [.bool xs[i]]:=by
 obtain ⟨cs,b,d,a⟩:=h.el c
 have a:cs=_:=a
 subst a;exact b
theorem X1Y {a b:X0} (n:X2 w σ) (o:Sl 8 V0 σ v (Q4 l)) (s:Wf l) (ok:Ok (Q4 l)) (D:(Q4 l).length≤1000) (X:a.length≤U0) (Z:b.length≤U0) (h: ∀w' σ',Stp w σ w' σ'→K (.bool (Xt (Q4 l) a b)) w'):Q1 P F.bS [v,S a,S b] w K:=Q0s (by
 unfold Eo
 have p: ∀r,Xt (Q4 l) a b=r→K (.bool r) w:=fun r e=>by rw[←e];exact h _ _ (Stp.refl n)
 refine Ds n o X ?_
 cases g:N2 (Q4 l) a with
 | false=>
  have O:Xt (Q4 l) a b=false:=by unfold Xt;simp[g]
  (try simp only[↓M1,M1,Mb,reduceIte])
  by_cases e:a=b
  ·have f:decide (a=b)=true:=by simpa using e
   simp only[f,↓M1,M1,Mb,reduceIte]
   refine Ds n o X ?_
   rw[g]
   (try simp only[↓M1,M1,Mb,reduceIte])
   exact p _ O
  ·have f:decide (a=b)=false:=by simpa using e
   simp only[f,↓M1,M1,Mb,reduceIte]
   exact p _ O
 | true=>
 (try simp only[↓M1,M1,Mb,reduceIte])
 refine Ds n o Z ?_
 cases k:N2 (Q4 l) b with
 | false=>
  have O:Xt (Q4 l) a b=false:=by unfold Xt;simp[k]
  have f:decide (a=b)=false:=by
   rw[decide_eq_false_iff_not];rintro rfl;rw[g] at k;cases k
  simp only[f,↓M1,M1,Mb,reduceIte]
  exact p _ O
 | true=>
 (try simp only[↓M1,M1,Mb,reduceIte])
 by_cases e:a=b
 ·have f:decide (a=b)=true:=by simpa using e
  simp only[f,↓M1,M1,Mb,reduceIte]
  refine Ds n o X ?_
  rw[g]
  (try simp only[↓M1,M1,Mb,reduceIte])
  exact p _ (s.sub_iff.2 ⟨g,k, .inl e⟩)
 have f:decide (a=b)=false:=by simpa using e
 simp only[f,↓M1,M1,Mb,reduceIte]
 refine Eg _ ?_
 have c:(∀(_:plain a=false∧plain b=false∧(a=H8∨(elem a≠[]∧b=U1)∨(lk (Q4 l) a≠none∧Hm.Reach (lk (Q4 l)) a b))),False)→K (.bool false) w:=fun hx=>p _ (eq_false_of_ne_true fun ht=>by
  obtain ⟨_,_,h3⟩:=s.sub_iff.1 ht
  rcases h3 with h3 | h3
  ·exact e h3
  ·exact hx h3)
 cases z:plain a with
 | true=>(try simp only[↓M1,M1,Mb,reduceIte]);exact c fun hx=>by rw[z] at hx;cases hx.1
 | false=>
 (try simp only[↓M1,M1,Mb,reduceIte])
 refine Eg _ ?_
 cases J:plain b with
 | true=>(try simp only[↓M1,M1,Mb,reduceIte]);exact c fun hx=>by rw[J] at hx;cases hx.2.1
 | false=>
 (try simp only[↓M1,M1,Mb,reduceIte])
 by_cases C:b=H8
 ·have f:decide (b=[110,117,108,108])=true:=by rw[decide_eq_true_eq];exact C
  simp only[f,↓M1,M1,Mb,reduceIte]
  refine c fun ⟨_,_,hx⟩=>?_
  rcases hx with hx | ⟨_,hx⟩ | ⟨_,hx⟩
  ·exact e (hx.trans C.symm)
  ·rw[C] at hx;exact absurd hx (by decide)
  ·obtain ⟨d,A⟩:=hx.right
   rw[C,s.none_null] at A;cases A
 have W:decide (b=[110,117,108,108])=false:=by rw[decide_eq_false_iff_not];exact C
 simp only[W,↓M1,M1,Mb,reduceIte]
 by_cases m:a=H8
 ·have f:decide (a=[110,117,108,108])=true:=by rw[decide_eq_true_eq];exact m
  simp only[f,↓M1,M1,Mb,reduceIte]
  exact p _ (s.sub_iff.2 ⟨g,k, .inr ⟨z,J, .inl m⟩⟩)
 have L:decide (a=[110,117,108,108])=false:=by rw[decide_eq_false_iff_not];exact m
 simp only[L,↓M1,M1,Mb,reduceIte]
 by_cases H:b=U1
 ·have f:decide (b=[79,98,106,101,99,116])=true:=by rw[decide_eq_true_eq];exact H
  simp only[f,↓M1,M1,Mb,reduceIte]
  exact p _ (by rw[H];exact s.sub_root g z)
 have Q:decide (b=[79,98,106,101,99,116])=false:=by rw[decide_eq_false_iff_not];exact H
 simp only[Q,↓M1,M1,Mb,reduceIte]
 refine I9 n o ?_
 refine I9 n o ?_
 refine P3 ?_
 rw[T9]
 cases q:Z1 (Q4 l) a with
 | none=>
  simp only[Option.isSome_none,↓M1,M1,Mb,reduceIte]
  refine c fun ⟨_,_,hx⟩=>?_
  rcases hx with hx | ⟨_,hx⟩ | ⟨hx,_⟩
  ·exact m hx
  ·exact H hx
  ·exact hx (by unfold lk;rw[q];rfl)
 | some i=>
 simp only[Option.isSome_some,↓M1,M1,Mb,reduceIte]
 cases B:Z1 (Q4 l) b with
 | none=>
  simp only[T9,Option.isSome_none,↓M1,M1,Mb,reduceIte]
  refine c fun ⟨_,_,hx⟩=>?_
  rcases hx with hx | ⟨_,hx⟩ | ⟨_,hx⟩
  ·exact m hx
  ·exact H hx
  ·obtain ⟨d,A⟩:=hx.right
   unfold lk at A;rw[B] at A;cases A
 | some j=>
 obtain ⟨hi,Y⟩:=S5 q
 obtain ⟨hj,U⟩:=S5 B
 simp only[T9,Option.isSome_some,↓M1,M1,Mb,reduceIte]
 simp only[L7]
 refine Q1e n o s.own (by omega) D ok.sm fun v1 w1 σ1 t M=>?_
 have y:i<(I6 (Q4 l)).length:=by rw[Q8n];exact hi
 refine Y2 M y ?_
 obtain ⟨u,p1,V⟩:=Sl.elB M y
 refine X7 t.sat p1 rfl ?_
 rw[Q9G y] at V
 have N:j<((List.range (Q4 l).length).map fun j=>Xm (Q4 l) (Y1 (Q4 l) i) (Y1 (Q4 l) j)).length:=by simpa using hj
 refine Y2 V N ?_
 refine X7 t.sat (Sl.elb V N) rfl ?_
 (try simp only[↓M1,M1,Mb,reduceIte])
 simp only[List.getElem_map,List.getElem_range,Y,U]
 have E:Xt (Q4 l) a b=Xm (Q4 l) a b:=by
  obtain ⟨ca,R,_⟩:=Zn q
  rw[Bool.eq_iff_iff,s.sub_class R,Jr,Q1k]
  constructor
  ·rintro (⟨hx,_⟩ | hx)
   ·exact absurd hx e
   ·exact hx
  ·exact .inr
 rw[←E]
 exact h _ _ t)
end Go.Proofs.YtjdiakhipmggjaaGreatDoor

namespace Go.Proofs.YtjdiakhipmggjaaGreatDoor
open Go.Emb Go.RowKit Go.Kd Go.Hm
variable {w : World} {K : Value → World → Prop} {σ : Q6} {l : List Cla} {v : Value}
end Go.Proofs.YtjdiakhipmggjaaGreatDoor

namespace Go.Emb
open Go.RowKit Go.Hm
def E3 (σ:Q6) (x:List Cla×Int×List Cel) (ds:List Value):Prop:= ∃b a,ds=[b,I x.2.1,a]∧Sl 8 V0 σ b x.1∧Sl 2 S1 σ a x.2.2
instance:Rep E3:=⟨fun hk ⟨lv,cv,h1,h2,h3⟩=>⟨lv,cv,h1,h2.le hk,h3.le hk⟩,fun ⟨lv,cv,h1,h2,h3⟩ u hu=>by
 rw[h1] at hu;simp at hu;rcases hu with rfl | rfl | rfl
 ·exact A6 h2
 ·rfl
 ·exact A6 h3⟩
theorem L8 {σ σ':Q6} {x:List Cla×Int×List Cel} {cs:List Value} (h:E3 σ x cs) (k:SLe σ σ'):E3 σ' x cs:=Rep.up k.le h
theorem E3.out {σ:Q6} {l:List Cla} {room:Int} {cs:List Cel} {ds:List Value} (h:E3 σ (l,room,cs) ds): ∃b a,ds=[b,I room,a]∧Sl 8 V0 σ b l∧Sl 2 S1 σ a cs:=h
end Go.Emb
namespace Go.Proofs.YtjdiakhipmggjaaGreatDoor
open Go.Emb Go.RowKit Go.Kd Go.Hm
variable {w w' : World} {K : Value → World → Prop} {σ σ' : Q6} {ds : List Value} {room : Int} {cs : List Cel} {l : List Cla}
theorem Q9i {k:X0} (O:X2 w σ) (h: ∀w' σ',Stp w σ w' σ'→K (.agg [I (W1 k).sort,I (W1 k).n,S (W1 k).s,I (W1 k).ref].toArray) w'):Q1 P F.aQ [S k] w K:=An (by
 unfold Dj
 refine M8 O fun b w1 σ1 U t y=>?_
 have hB:=N0 U (Stp.refl O)
 refine W3 (cells:= #[I 0,I 0,S [],I 0]) (by kernel_rfl) ?_
 refine M8 t.sat fun D w2 L B u v=>?_
 have H:=t.trans u
 have o:=N0 B t
 have g:b≠D:=by have:=y.lt;omega
 refine My (ds:=[I 0,I 0,S [],I 0]) v rfl rfl (by rw[List.all_toArray];exact List.all_eq_true.2 Lz) fun Y N a=>?_
 have j:=N.stp H o v.1
 have c:=(y.up u).upd N g
 have m: ∀(n:Int) (e:World),Y3 L e D [I n,I 0,S [],I 0]→Y3 L e b [I 0,I 0,S [],I 0]→Stp w σ e L→(∀w' σ',Stp w σ w' σ'→K (.agg [I n,I 0,S [],I 0].toArray) w')→Q2 P T.f (.pointer (some ⟨D,0,none⟩)) e fun M w=>
  Y0 P T.f (.pointer (some ⟨b,0,none⟩)) M w fun _u w=>
  Y8 P T.f (.pointer (some ⟨b,0,none⟩)) w fun R=>K R w:=fun n e r p X Z=>
  Co r rfl (G0 p X hB rfl rfl Lz fun w5 J E=>V2 E rfl (Z _ _ J.stp))
 have V:decide (k=[105,110,116])=decide (k=P9):=rfl
 have Q:decide (k=[98,111,111,108])=decide (k=Jd):=rfl
 have C:decide (k=[116,101,120,116])=decide (k=D2):=rfl
 unfold W1 at h
 refine U7 ?_
 refine P2 ?_
 rw[V]
 by_cases p:k=P9
 ·simp only[if_pos p] at h
  have W:decide (k=Jd)=false:=by subst p;decide
  have A:decide (k=D2)=false:=by subst p;decide
  rw[decide_eq_true p]
  refine J7 ?_
  refine W6 ?_
  refine Ue (i:=0) a (by simp) rfl rfl fun e q f=>?_
  intro d
  refine U7 ?_
  refine P2 ?_
  rw[Q,W]
  refine J0 ?_
  intro d
  refine U7 ?_
  refine P2 ?_
  rw[C,A]
  refine J0 ?_
  intro d
  exact m 1 e f (c.upd q g) (q.stp j o a.1) h
 simp only[if_neg p] at h
 rw[decide_eq_false p]
 refine J0 ?_
 intro d
 refine U7 ?_
 refine P2 ?_
 rw[Q]
 by_cases r:k=Jd
 ·simp only[if_pos r] at h
  have A:decide (k=D2)=false:=by subst r;decide
  rw[decide_eq_true r]
  refine J7 ?_
  refine W6 ?_
  refine Ue (i:=0) a (by simp) rfl rfl fun e q f=>?_
  intro d
  refine U7 ?_
  refine P2 ?_
  rw[C,A]
  refine J0 ?_
  intro d
  exact m 2 e f (c.upd q g) (q.stp j o a.1) h
 simp only[if_neg r] at h
 rw[decide_eq_false r]
 refine J0 ?_
 intro d
 refine U7 ?_
 refine P2 ?_
 rw[C]
 by_cases z:k=D2
 ·simp only[if_pos z] at h
  rw[decide_eq_true z]
  refine J7 ?_
  refine W6 ?_
  refine Ue (i:=0) a (by simp) rfl rfl fun e q f=>?_
  intro d
  exact m 3 e f (c.upd q g) (q.stp j o a.1) h
 ·simp only[if_neg z] at h
  rw[decide_eq_false z]
  refine J0 ?_
  intro d
  exact m 0 Y a c j h)
theorem Q9H (p:X2 w σ) (hh:E3 σ (l,room,cs) ds) (k:0≤W7 room cs) (D:room≤1048576) (h: ∀w' σ',Stp w σ w' σ'→K (I (W7 room cs)) w'):Q1 P F.aS [.agg ds.toArray] w K:=Ax (by
 obtain ⟨B,y,rfl,A,m⟩:=E3.out hh
 unfold De
 refine Y9 p fun q w1 σ1 g j=>?_
 have c:=g.sat
 have b:=m.up g
 refine W6 ?_
 refine ld c j rfl ?_
 unfold W7 at h k
 refine H0 cs.length (fun n x w'=>w'=w1∧x=I (room-Z7 (cs.take n))) ⟨rfl,by simp[Z7]⟩ fun n x H d t i=>?_
 obtain ⟨rfl,rfl⟩:=i
 have e:Z7 cs=Z7 (cs.take n)+Z7 (cs.drop n):=by rw[←Ql,List.take_append_drop]
 have C:=E0 (cs.take n)
 have s:=E0 (cs.drop n)
 refine W6 ?_
 refine ld c j rfl ?_
 refine Q8 b ?_
 refine Z2 ?_
 refine Q7 (fun f=>?_) (fun f=>?_)
 ·have a:n<cs.length:=by simpa using f
  obtain ⟨v,r,o,J⟩:=Sl.elO b a
  refine W6 ?_
  refine ld c j rfl ?_
  refine Y2 b a ?_
  refine W6 ?_
  refine ld c r rfl ?_
  refine Q8 o ?_
  have E:Z7 (cs.drop n)=(1+(cs[n].vals.length:Int))+Z7 (cs.drop (n+1)):=by
   rw[List.drop_eq_getElem_cons a];simp only[Z7,List.map_cons,List.sum_cons]
  have u:=E0 (cs.drop (n+1))
  have z:Z7 (cs.take (n+1))=Z7 (cs.take n)+(1+(cs[n].vals.length:Int)):=by
   rw[List.take_add_one,List.getElem?_eq_getElem a,Ql];simp[Z7]
  refine Yc ⟨by omega,by omega⟩ ?_
  refine Zl ⟨by omega,by omega⟩ ?_
  refine O8 ?_
  refine J6 b.max a ⟨rfl,?_⟩
  congr 1;omega
 ·have a: ¬n<cs.length:=by simpa using f
  rw[List.take_of_length_le (by omega)]
  exact h _ _ g)
theorem Q9C {n:X0} {k:Value} (g:X2 w σ) (f:Sl 8 V0 σ k l) (h:K (.bool (A5 l n)) w):Q1 P F.b8 [k,S n] w K:=Fo (by
 unfold We
 refine I9 g f ?_
 refine P3 ?_
 rw[T9]
 unfold A5 at h
 cases b:lk l n with
 | none=>
  rw[b] at h
  rw[Q0u b]
  simp only[Option.isSome_none,↓M1,M1,Mb,reduceIte]
  exact h
 | some c=>
  rw[b] at h
  obtain ⟨_,_,i,p,e⟩:=V4 b
  obtain ⟨a,d⟩:=List.getElem?_eq_some_iff.1 e
  obtain ⟨o,m,q,j,_⟩:=f.elC a
  rw[d] at j
  rw[p]
  simp only[Option.isSome_some,L7,↓M1,M1,Mb,reduceIte]
  refine Y2 f a ?_
  (try simp only[↓M1,M1,Mb,reduceIte])
  refine ld g j rfl ?_
  (try simp only[↓M1,M1,Mb,reduceIte])
  exact h)
theorem Q7U {r i:Int} (u:X2 w σ) (hh:E3 σ (l,room,cs) ds) (h: ∀w' σ',Stp w σ w' σ'→K (I (D9 cs r i)) w'):Q1 P F.aN [.agg ds.toArray,I r,I i] w K:=Ks (by
 obtain ⟨B,z,rfl,A,c⟩:=E3.out hh
 unfold Ob
 refine Y9 u fun q w1 σ1 a p=>?_
 have d:=a.sat
 have k:=c.up a
 refine Z2 ?_
 unfold D9 at h
 have b:L9 cs r=false→K (I 92) w1:=fun e=>by
  have:=h _ _ a
  rw[e] at this
  exact this
 by_cases s:r<0
 ·rw[decide_eq_true s]
  (try simp only[↓M1,M1,Mb,reduceIte])
  exact b (by simp only[L9,Bool.and_eq_false_iff,decide_eq_false_iff_not];left;omega)
 rw[decide_eq_false s]
 (try simp only[↓M1,M1,Mb,reduceIte])
 refine ld d p rfl ?_
 refine Q8 k ?_
 refine P3 ?_
 (try simp only[↓M1,M1,Mb,reduceIte])
 by_cases n:(cs.length:Int)≤r
 ·rw[decide_eq_true n]
  refine J7 ?_
  exact b (by simp only[L9,Bool.and_eq_false_iff,decide_eq_false_iff_not];right;omega)
 rw[decide_eq_false n]
 refine J0 ?_
 have m:L9 cs r=true:=by simp only[L9,Bool.and_eq_true,decide_eq_true_eq];omega
 obtain ⟨j,rfl,g⟩:=M4.1 m
 rw[m,W4 g] at h
 obtain ⟨y,v,t,_⟩:=Sl.elO k g
 by_cases o:i<0
 ·rw[decide_eq_true o]
  (try simp only[↓M1,M1,Mb,reduceIte])
  have:=h _ _ a
  rw[if_pos rfl,if_neg (by omega)] at this
  exact this
 ·rw[decide_eq_false o]
  (try simp only[↓M1,M1,Mb,reduceIte])
  refine ld d p rfl ?_
  refine Y2 k g ?_
  (try simp only[↓M1,M1,Mb,reduceIte])
  refine ld d v rfl ?_
  refine Q8 t ?_
  refine P3 ?_
  (try simp only[↓M1,M1,Mb,reduceIte])
  have f:=h _ _ a
  refine Q7 (fun c=>?_) (fun c=>?_)
  ·have c:(cs[j].vals.length:Int)≤i:=by simpa using c
   rw[if_pos rfl,if_neg (by omega)] at f
   exact f
  ·have c: ¬(cs[j].vals.length:Int)≤i:=by simpa using c
   rw[if_pos rfl,if_pos (by omega)] at f
   exact f)
theorem X4f {r i:Int} (O:X2 w σ) (hh:E3 σ (l,room,cs) ds) (h: ∀w' σ',Stp w σ w' σ'→K (.tuple #[.agg [I (Nt cs r i).sort,I (Nt cs r i).n,S (Nt cs r i).s,I (Nt cs r i).ref].toArray,I (D9 cs r i)]) w'):Q1 P F.bP [.agg ds.toArray,I r,I i] w K:=Q1b (by
 have A:=hh
 obtain ⟨Y,V,rfl,W,L⟩:=E3.out hh
 unfold Hf
 refine Y9 O fun q w0 σ0 o C=>?_
 refine M8 o.sat fun b w1 σ1 J c y=>?_
 have u:=o.trans c
 have hB:=N0 J o
 have v:=C.up c
 refine Y5 c.sat v rfl ?_
 refine Q7U c.sat (L8 A ⟨u.le⟩) fun Z X a=>?_
 have k:=u.trans a
 have d:=a.sat
 have t:=y.up a
 have B:=v.up a
 refine Qx ?_
 unfold Nt at h
 by_cases p:D9 cs r i=0
 ·have e:decide (D9 cs r i=0)=true:=decide_eq_true p
  rw[if_pos p,p] at h
  simp only[e,Bool.not_true,↓M1,M1,Mb,reduceIte]
  obtain ⟨j,m,rfl,rfl,z,D⟩:=Lm p
  rw[W4 z,Int.toNat_natCast] at h
  have H:=L.up k
  obtain ⟨U,Q,E,_⟩:=Sl.elO H z
  obtain ⟨R,M⟩:=Sl.elV E D
  refine ld d B rfl ?_
  refine Y2 H z ?_
  (try simp only[↓M1,M1,Mb,reduceIte])
  refine ld d Q rfl ?_
  refine Y2 E D ?_
  refine Y5 d R rfl ?_
  refine G0 t k hB rfl rfl (Rep.one M) fun N g f=>?_
  refine V2 f rfl ?_
  have e:cs[j].vals.getD m Val.zero=cs[j].vals[m]:=by rw[List.getD_eq_getElem?_getD,List.getElem?_eq_getElem D];rfl
  rw[e] at h
  exact h _ _ g.stp
 ·have e:decide (D9 cs r i=0)=false:=by simpa using p
  rw[if_neg p] at h
  simp only[e,Bool.not_false,↓M1,M1,Mb,reduceIte]
  refine W3 (cells:= #[I 0,I 0,S [],I 0]) (by kernel_rfl) ?_
  refine G0 (ds:=[I 0,I 0,S [],I 0]) t k hB rfl rfl Lz fun N g f=>?_
  refine V2 f rfl ?_
  exact h _ _ g.stp)
theorem X3r (t:X2 w σ) (hh:E3 σ (l,room,cs) ds) (ok:Ok l) (c:l.length≤1000) {k:X0} {o:Value} {i:Nat} (r:k.length≤U0) (j:elem k=[]→i<(Y4 l k).length)
 (h: ∀w' σ',Stp w σ w' σ'→K (S (Xl l k i)) w'):Q1 P F.bF [.agg ds.toArray, .agg [S k,o].toArray,I i] w K:=Q0i (by
 obtain ⟨C,z,rfl,p,A⟩:=E3.out hh
 unfold Oh
 refine Y9 t fun B w0 σ0 g m=>?_
 refine Y9 g.sat fun q w1 σ1 a n=>?_
 have b:=g.trans a
 refine W6 ?_
 refine ld (i:=0) a.sat n rfl ?_
 refine X1e k (Nat.le_trans r (by decide)) ?_
 refine Ja ?_
 unfold Xl at h
 by_cases e:elem k=[]
 ·simp only[if_pos e] at h
  rw[decide_eq_true e]
  (try simp only[↓M1,M1,Mb,reduceIte])
  refine ld (i:=0) a.sat (m.up a) rfl ?_
  refine ld (i:=0) a.sat n rfl ?_
  refine Te a.sat (p.up b) ok.acy c ok.sm fun D y v f d=>?_
  refine Y2 d (j e) ?_
  obtain ⟨s,_⟩:=d.elF (j e)
  (try simp only[↓M1,M1,Mb,reduceIte])
  refine ld f.sat s rfl ?_
  have u:(Y4 l k).getD i Fld.zero=(Y4 l k)[i]'(j e):=by rw[List.getD_eq_getElem?_getD,List.getElem?_eq_getElem (j e)];rfl
  rw[u] at h
  exact h _ _ (b.trans f)
 ·simp only[if_neg e] at h
  rw[decide_eq_false e]
  (try simp only[↓M1,M1,Mb,reduceIte])
  exact h _ _ b)
theorem X3L {ok:X0→Bool} {b d:Int} {c:X0}:P4 ok cs ⟨0,b,c,d⟩=if b=0∧c=[]∧d=0 then H8 else []:=by
 simp[P4,Val.zero]
theorem X3S {ok:X0→Bool} {b d:Int} {c:X0}:P4 ok cs ⟨1,b,c,d⟩=if c=[]∧d=0 then P9 else []:=by
 simp[P4,Val.zero]
theorem X49 {ok:X0→Bool} {b d:Int} {c:X0}:P4 ok cs ⟨2,b,c,d⟩=if (c=[]∧d=0)∧(b=0∨b=1) then Jd else []:=by
 simp[P4,Val.zero]
theorem X46 {ok:X0→Bool} {b d:Int} {c:X0}:P4 ok cs ⟨3,b,c,d⟩=if (b=0∧d=0)∧ok c=true then D2 else []:=by
 simp[P4,Val.zero]
theorem X3O {ok:X0→Bool} {b d:Int} {c:X0}:P4 ok cs ⟨4,b,c,d⟩=if b=0∧c=[] then O5 cs d else []:=by
 simp[P4,Val.zero]
theorem X3N {ok:X0→Bool} {a b d:Int} {c:X0} (h:a≠0) (f:a≠1) (g:a≠2) (i:a≠3) (e:a≠4):P4 ok cs ⟨a,b,c,d⟩=[]:=by
 simp[P4,Val.zero,h,f,g,i,e]
set_option maxHeartbeats 2000000 in
theorem X4t {v:Val} (hs:X2 w σ) (hh:E3 σ (l,room,cs) ds) (hb:v.s.length≤U0) (h: ∀w' σ',Stp w σ w' σ'→K (S (P4 W8 cs v)) w'):Q1 P F.c2 [.agg ds.toArray, .agg [I v.sort,I v.n,S v.s,I v.ref].toArray] w K:=Q1W (by
 obtain ⟨lv,cv,rfl,hl,hc⟩:=E3.out hh
 unfold Hw
 refine Y9 hs fun q0 w0 σ0 H B=>?_
 refine Y9 H.sat fun q w1 σ1 D t=>?_
 have f:=H.trans D
 have g:=D.sat
 have B:=B.up D
 have W:=hc.up f
 have k: ∀{w2:World} {σ2:Q6} {x:X0},Stp w σ w2 σ2→P4 W8 cs v=x→K (S x) w2:=fun hS e=>by
  have:=h _ _ hS
  rw[e] at this
  exact this
 obtain ⟨a,b,c,d⟩:=v
 simp only at hb t
 have L: ∀r,L9 cs r=false→O5 cs r=[]:=fun r e=>by unfold O5;rw[e];rfl
 refine W6 ?_
 refine ld g t rfl ?_
 refine I2 ?_
 have y: ∀{A:Value→World→Prop},(∀p:Bool,p=(decide (d=0)&&decide (c=[]))→A (.bool p) w1)→Q0 (.bool (decide (d=0))) true w1 (fieldAddr P T.f (.pointer (some q)) 2) (fun X w=>
  Q0 (.bool (decide (d=0))) true w (Q2 P T.c X) fun Z w=>
  Q0 (.bool (decide (d=0))) true w (Q3 P .eql T.c (.tmp 11) (.const (.string ⟨#[]⟩)) Z (.string ⟨#[]⟩)) fun Y w=>
  pick P (.bool (decide (d=0))) Y (.bool false) w A):=fun {A} hA=>by
  cases hd:decide (d=0) with
  | false=>(try simp only[↓M1,M1,Mb,reduceIte]);exact hA false (by simp[hd])
  | true=>
   (try simp only[↓M1,M1,Mb,reduceIte])
   refine ld g t rfl ?_
   (try simp only[↓M1,M1,Mb,reduceIte])
   exact hA _ (by simp[hd])
 refine y fun p hp=>?_
 refine Yp (fun _ w'=>Stp w σ w' σ1∧P4 W8 cs ⟨a,b,c,d⟩=[]) ?_ (fun _ d' w' hz=>k hz.1 hz.2)
 refine W6 ?_
 refine ld (i:=0) g t rfl ?_
 refine I2 ?_
 have C:(p=true)↔(c=[]∧d=0):=by rw[hp];simp[and_comm]
 have E:p=false→ ¬(c=[]∧d=0):=fun e h=>by rw[C.2 h] at e;cases e
 by_cases Q:a=0
 ·subst Q
  rw[X3L] at*
  rw[decide_eq_true rfl]
  refine J7 ?_
  cases o:p with
  | false=>
   (try simp only[↓M1,M1,Mb,reduceIte])
   exact ⟨f,if_neg fun e=>E o e.2⟩
  | true=>
   have u:=C.1 o
   (try simp only[↓M1,M1,Mb,reduceIte])
   refine ld g t rfl ?_
   (try simp only[↓M1,M1,Mb,reduceIte])
   by_cases m:b=0
   ·rw[decide_eq_true m]
    (try simp only[↓M1,M1,Mb,reduceIte])
    exact k f (if_pos ⟨m,u⟩)
   ·rw[decide_eq_false m]
    (try simp only[↓M1,M1,Mb,reduceIte])
    exact ⟨f,if_neg fun e=>m e.1⟩
 rw[decide_eq_false Q]
 refine J0 ?_
 refine I2 ?_
 by_cases U:a=1
 ·subst U
  rw[X3S] at*
  rw[decide_eq_true rfl]
  refine J7 ?_
  cases o:p with
  | false=>exact J0 ⟨f,if_neg (E o)⟩
  | true=>exact J7 (k f (if_pos (C.1 o)))
 rw[decide_eq_false U]
 refine J0 ?_
 refine I2 ?_
 by_cases a2:a=2
 ·subst a2
  rw[X49] at*
  rw[decide_eq_true rfl]
  refine J7 ?_
  cases o:p with
  | false=>
   (try simp only[↓M1,M1,Mb,reduceIte])
   exact ⟨f,if_neg fun e=>E o e.1⟩
  | true=>
   have u:=C.1 o
   (try simp only[↓M1,M1,Mb,reduceIte])
   refine ld g t rfl ?_
   (try simp only[↓M1,M1,Mb,reduceIte])
   by_cases m:b=0
   ·rw[decide_eq_true m]
    (try simp only[↓M1,M1,Mb,reduceIte])
    exact k f (if_pos ⟨u, .inl m⟩)
   ·rw[decide_eq_false m]
    (try simp only[↓M1,M1,Mb,reduceIte])
    refine ld g t rfl ?_
    (try simp only[↓M1,M1,Mb,reduceIte])
    by_cases M:b=1
    ·rw[decide_eq_true M]
     (try simp only[↓M1,M1,Mb,reduceIte])
     exact k f (if_pos ⟨u, .inr M⟩)
    ·rw[decide_eq_false M]
     (try simp only[↓M1,M1,Mb,reduceIte])
     exact ⟨f,if_neg fun e=>e.2.elim m M⟩
 rw[decide_eq_false a2]
 refine J0 ?_
 refine I2 ?_
 by_cases O:a=3
 ·subst O
  rw[X46] at*
  rw[decide_eq_true rfl]
  refine J7 ?_
  refine W6 ?_
  refine ld g t rfl ?_
  refine I2 ?_
  by_cases m:b=0
  case neg=>
   rw[decide_eq_false m]
   (try simp only[↓M1,M1,Mb,reduceIte])
   exact ⟨f,if_neg fun e=>m e.1.1⟩
  rw[decide_eq_true m]
  (try simp only[↓M1,M1,Mb,reduceIte])
  refine ld g t rfl ?_
  (try simp only[↓M1,M1,Mb,reduceIte])
  by_cases z:d=0
  case neg=>
   rw[decide_eq_false z]
   (try simp only[↓M1,M1,Mb,reduceIte])
   exact ⟨f,if_neg fun e=>z e.1.2⟩
  rw[decide_eq_true z]
  (try simp only[↓M1,M1,Mb,reduceIte])
  refine ld g t rfl ?_
  refine Cc X8 ?_
  refine Q5m ?_
  by_cases c0:c.length≤4096
  case neg=>
   rw[decide_eq_false (show¬(c.length:Int)≤4096 by omega)]
   (try simp only[↓M1,M1,Mb,reduceIte])
   exact ⟨f,if_neg fun e=>c0 (by have:=e.2;simp only[W8,Bool.and_eq_true,decide_eq_true_eq] at this;exact this.1)⟩
  rw[decide_eq_true (show (c.length:Int)≤4096 by omega)]
  (try simp only[↓M1,M1,Mb,reduceIte])
  refine ld g t rfl ?_
  refine Q4t hb g fun w2 R=>?_
  have J:=f.trans (Stp.of_below g R)
  cases hv:Lib.validD c with
  | true=>
   (try simp only[↓M1,M1,Mb,reduceIte])
   exact k J (if_pos ⟨⟨m,z⟩,by simp[W8,hv,c0]⟩)
  | false=>
   (try simp only[↓M1,M1,Mb,reduceIte])
   exact ⟨J,if_neg fun e=>by have:=e.2;simp[W8,hv] at this⟩
 rw[decide_eq_false O]
 refine J0 ?_
 refine I2 ?_
 by_cases a4:a=4
 case neg=>
  rw[decide_eq_false a4]
  exact J0 ⟨f,X3N Q U a2 O a4⟩
 subst a4
 rw[X3O] at*
 rw[decide_eq_true rfl]
 refine J7 ?_
 refine W6 ?_
 refine ld g t rfl ?_
 refine I2 ?_
 by_cases m:b=0
 case neg=>
  rw[decide_eq_false m]
  (try simp only[↓M1,M1,Mb,reduceIte])
  exact ⟨f,if_neg fun e=>m e.1⟩
 rw[decide_eq_true m]
 (try simp only[↓M1,M1,Mb,reduceIte])
 refine ld g t rfl ?_
 (try simp only[↓M1,M1,Mb,reduceIte])
 by_cases c0:c=[]
 case neg=>
  rw[decide_eq_false c0]
  (try simp only[↓M1,M1,Mb,reduceIte])
  exact ⟨f,if_neg fun e=>c0 e.2⟩
 rw[decide_eq_true c0]
 (try simp only[↓M1,M1,Mb,reduceIte])
 refine ld g t rfl ?_
 refine P3 ?_
 rw[if_pos ⟨m,c0⟩] at*
 by_cases z:0≤d
 case neg=>
  rw[decide_eq_false z]
  (try simp only[↓M1,M1,Mb,reduceIte])
  exact ⟨f,L d (by simp[L9,z])⟩
 rw[decide_eq_true z]
 (try simp only[↓M1,M1,Mb,reduceIte])
 refine ld g t rfl ?_
 refine ld g B rfl ?_
 refine Q8 W ?_
 refine Z2 ?_
 (try simp only[↓M1,M1,Mb,reduceIte])
 by_cases N:d<(cs.length:Int)
 case neg=>
  rw[decide_eq_false N]
  exact J0 ⟨f,L d (by simp[L9,N])⟩
 rw[decide_eq_true N]
 refine J7 ?_
 obtain ⟨j,rfl,V⟩:=M4.1 (show L9 cs d=true by simp[L9,z,N])
 obtain ⟨vv,p1,p2,_⟩:=Sl.elO W V
 refine ld g B rfl ?_
 refine ld g t rfl ?_
 refine Y2 W V ?_
 (try simp only[↓M1,M1,Mb,reduceIte])
 refine ld g p1 rfl ?_
 exact k f (Qs V))
end Go.Proofs.YtjdiakhipmggjaaGreatDoor

namespace Go.Emb
open Go.RowKit Go.Hm
section
variable {α : Type} {P : Program} {R R' : Q6 → α → List Value → Prop} {sz : Nat} {e : TypeId} {σ σ0 σ' : Q6} {v u : Value} {xs ys : List α} {w w0 w' : World} {K : Value → World → Prop}
theorem X17 {t B:TypeId} {p:Nat} {z:Value} {cs:List Bool} [ts:TS P t e] [tz:TZ P e sz p z] [hr:Rep R] [hr':Rep R'] (L:Stp w0 σ0 w σ) (ha:V6 w0.heap.size e sz R σ w v xs) (O:X2 w σ') (Y:Sl sz R' σ' u ys) (hR: ∀x cs,R' σ' x cs→R σ x cs) (D:(z.cells.size==sz&&decide (0<sz))=true)
 (hb:(xs.length+ys.length)*p≤140737488355328) (hm:xs.length+ys.length≤9223372036854775807)
 (h: ∀f w',w.grownBy w' v.ownBlock→Stp w0 σ0 w' σ→V6 w0.heap.size e sz R σ w' f (xs++ys)→(f.ownBlock=v.ownBlock∨ ∀k,f.ownBlock=some k→w.heap.size≤k)→K f w'):X3 P .append [t,t] B cs [v,u] w K:=by
 obtain ⟨cells,y,Q,h3⟩:=ha
 obtain ⟨a,n,c,rfl,V,W,Z,n4,n5⟩:=Y.cells O
 obtain ⟨i,H,E,M,s⟩:=tz.info
 have r: ∀f w',(Builtin.append_ #[t,t] B #[v, .slice a ys.length n]).run P w= .ok f w'→w'.ownsRow w0.heap.size e sz f (xs.length+ys.length) (cells++c)→w.grownBy w' v.ownBlock→(f.ownBlock=v.ownBlock∨f.ownBlock=some w.heap.size)→X3 P .append [t,t] B cs [v, .slice a ys.length n] w K:=by
  intro f w' A d m hat
  have q:(builtin .append #[t,t] B cs.toArray #[v, .slice a ys.length n]).run P w= .ok (.value f) w':=by
   simp[builtin,A]
  unfold X3
  rw[Qa];unfold T2
  rw[q]
  refine h f w' m (Stp.turn m L fun k o=>⟨(y.lt k o).1,Q k o⟩) ⟨cells++c,by rw[List.length_append];exact d,?_,?_⟩ ?_
  ·intro k o
   rcases hat with hat | hat
   ·exact Q k (hat▸o)
   ·rw[hat] at o;cases o;exact L.sat.none (Nat.le_refl _)
  ·intro j x C
   by_cases U:j<xs.length
   ·rw[List.getElem?_append_left U] at C
    rw[Wr cells c xs.length j y.1 U]
    exact h3 j x C
   ·rw[List.getElem?_append_right (by omega)] at C
    have:=hR _ _ (n5 _ _ C)
    rw[show j*sz=cells.length+(j-xs.length)*sz by rw[y.1,←Nat.add_mul];congr 1;omega,List.drop_append]
    simpa [List.drop_eq_nil_of_le] using this
  ·rcases hat with hat | hat
   ·exact .inl hat
   ·right;intro k o;rw[hat] at o;cases o;exact Nat.le_refl _
 simp only[Bool.and_eq_true,beq_iff_eq,decide_eq_true_eq] at D
 cases a with
 | some b=>
  obtain ⟨f,w',g1,g2,g3,_,g5⟩:=run_append_own_at (P:=P) w w0.heap.size t B e i z sz p ts.h H s E M D.1 D.2 v xs.length cells y b ys.length n c W (Z b rfl) n4 (by simp only[maxLen];omega) hb L.bel.size
  exact r f w' g1 g2 g3 g5
 | none=>
  have hy:ys=[]:=List.eq_nil_of_length_eq_zero (by obtain ⟨a',X,e',q1,_,q3,_⟩:=Y;injection e' with _ e2 e3;have:=V rfl;subst e3;omega)
  have J:=V rfl
  subst hy J
  have hn:c=[]:=List.eq_nil_of_length_eq_zero (by simpa using W)
  subst hn
  have d:=y
  rcases y.2 with ⟨rfl,h0⟩ | ⟨g,n,ab,rfl,af,hg,N,_⟩
  ·refine r (.slice none 0 0) w ?_ (by simpa using d) (World.grownBy.refl w _) (.inl rfl)
   simp[Builtin.append_,run_underlying ts.h,sizeOf,typeInfo,H,Builtin.lenOf,Builtin.firstCells]
  ·refine r _ w ?_ (by simpa using d) (World.grownBy.refl w _) (.inl rfl)
   simp[Builtin.append_,run_underlying ts.h,sizeOf,typeInfo,H,Builtin.lenOf,Builtin.firstCells,N,storeCells]
end
def Q5U {α:Type} (c:α) (ds:List Value) (_:Q6) (x:α) (cs:List Value):Prop:=x=c∧cs=ds∧ ∀u∈ds,u.oneCell'=true
instance {α:Type} (c:α) (ds:List Value):Rep (Q5U c ds):=⟨fun _ h=>h,fun h u hu=>h.2.2 u (h.2.1▸hu)⟩
end Go.Emb
namespace Go.Proofs.YtjdiakhipmggjaaGreatDoor
open Go.Emb Go.RowKit Go.Kd Go.Hm
variable {w w' : World} {K : Value → World → Prop} {σ σ' : Q6} {ds : List Value} {room : Int} {cs : List Cel} {l : List Cla}
theorem Q71 {b:Value} (d:Sl 2 S1 σ b cs) (r:Int):(O5 cs r).length≤U0:=by
 unfold O5
 split
 ·rename_i c
  obtain ⟨i,rfl,a⟩:=M4.1 c
  rw[W4 a]
  exact (Sl.elO d a).choose_spec.2.2
 ·exact Nat.zero_le _
theorem X0G {a:Value} (b:Sl 2 S1 σ a cs) (v:Val):(P4 W8 cs v).length≤U0:=by
 unfold P4
 split
 ·decide
 split
 ·decide
 split
 ·decide
 split
 ·decide
 split
 ·exact Q71 b _
 ·exact Nat.zero_le _
theorem X36 {v:Val} {k:X0} (D:X2 w σ) (hh:E3 σ (Q4 l,room,cs) ds) (C:Wf l) (ok:Ok (Q4 l)) (f:(Q4 l).length≤1000) (y:v.s.length≤U0) (B:k.length≤U0) (h: ∀w' σ',Stp w σ w' σ'→K (.bool (F2 W8 (Q4 l) cs v k)) w'):Q1 P F.bC [.agg ds.toArray, .agg [I v.sort,I v.n,S v.s,I v.ref].toArray,S k] w K:=Q08 (by
 have p:=hh
 obtain ⟨O,J,rfl,A,z⟩:=E3.out hh
 unfold Oy
 refine Y9 D fun M w0 σ0 m t=>?_
 refine Y9 m.sat fun q w1 σ1 c E=>?_
 have g:=m.trans c
 have d:=c.sat
 have j:=t.up c
 refine Y5 d j rfl ?_
 refine Y5 d E rfl ?_
 refine X4t d (L8 p ⟨g.le⟩) y fun U L a=>?_
 have b:=g.trans a
 refine Ja ?_
 unfold F2 at h
 have r:=X0G z v
 generalize P4 W8 cs v=H at*
 by_cases e:H=[]
 ·rw[decide_eq_true e] at h⊢
  (try simp only[↓M1,M1,Mb,reduceIte])
  exact h _ _ b
 ·rw[decide_eq_false e] at h⊢
  (try simp only[↓M1,M1,Mb,reduceIte])
  refine ld (i:=0) a.sat (j.up a) rfl ?_
  refine X1Y a.sat (A.up b) C ok f r B fun Q N o=>?_
  (try simp only[↓M1,M1,Mb,reduceIte])
  exact h _ _ (b.trans o))
theorem Rl {o b:Nat} {c a:Value} {e:Int} {m:List Value} {w1:World} {σ1:Q6} (r:Stp w σ w1 σ1) (g:Y3 σ1 w1 o [c,I room,a]) (j:Y3 σ1 w1 b m) (q:m.length=3) (i:w.heap.size≤b) (n:E3 σ1 (l,room,cs) [c,I room,a]) (h: ∀w' σ',Stp w σ w' σ'→E3 σ' (l,room,cs) [c,I room,a]→K (.tuple #[.agg [c,I room,a].toArray,I e]) w'):
 Q2 P T.a (.pointer (some ⟨o,0,none⟩)) w1 fun k w=>
 Y0 P T.a (.pointer (some ⟨b,0,none⟩)) k w fun _u w=>
 Y8 P T.a (.pointer (some ⟨b,0,none⟩)) w fun p=>
 K (.tuple #[p,(.int .i64 e)]) w:=
 Co g rfl (G0 j r i q rfl (Rep.one n) fun s f d=>V2 d rfl (h s σ1 f.stp n))
set_option maxHeartbeats 1000000 in
theorem Q9p {p L b7:Nat} {Y cv x:Value} {k:X0} {vals:List Val} {zs:List Value} {w1:World} {σ1:Q6} (hS:Stp w σ w1 σ1) (U:Y3 σ1 w1 p [Y,I room,cv]) (aj:Y3 σ1 w1 L zs) (av:Y3 σ1 w1 b7 [S k,x]) (hz:zs.length=3) (aq:w.heap.size≤p) (a0:w.heap.size≤L) (Z:p≠L) (hl:Sl 8 V0 σ1 Y l) (hc:Sl 2 S1 σ1 cv cs) (hx:Sl 4 O9 σ1 x vals) (hk:k.length≤U0) (bj:cs.length≤10000000)
 (h: ∀ae w' σ',Stp w σ w' σ'→E3 σ' (l,room,cs++[⟨k,vals⟩]) [Y,I room,ae]→K (.tuple #[.agg [Y,I room,ae].toArray,I 0]) w'):
 dr w1 fun n J=>
 Q5 n (fun t=> ∀w,J w→fieldAddr P T.a (.pointer (some ⟨p,0,none⟩)) 2 w (dk n t w)) fun t=>
 Q5 n (fun r=> ∀w,J w→buildSlice P T.g 0 [] w (dk n r w)) fun r=>
 Q5 n (fun z=> ∀d w,J w→t d w→Q2 P T.g d w (dk n z w)) fun z=>
 Q5 n (fun Q=> ∀g i w,J w→r g w→z i w→X3 P .append [T.g,T.g] T.g [false,false] [g,i] w (dk n Q w)) fun Q=>
 Q5 n (fun q=> ∀w,J w→Q2 P T.o (.pointer (some ⟨b7,0,none⟩)) w (dk n q w)) fun q=>
 Q5 n (fun H=> ∀f w,J w→q f w→buildSlice P T.g 1 [(0,f)] w (dk n H w)) fun H=>
 ∀d g i O f M w,J w→t d w→r g w→z i w→Q O w→q f w→H M w→
 X3 P .append [T.g,T.g] T.g [false,false] [O,M] w fun ax w=>
 fieldAddr P T.a (.pointer (some ⟨p,0,none⟩)) 2 w fun ba w=>
 Y0 P T.g ba ax w fun _u w=>
 Q2 P T.a (.pointer (some ⟨p,0,none⟩)) w fun a7 w=>
 Y0 P T.a (.pointer (some ⟨L,0,none⟩)) a7 w fun _u w=>
 Y8 P T.a (.pointer (some ⟨L,0,none⟩)) w fun r0=>
 K (.tuple #[r0,(.int .i64 0)]) w:=by
 have bd:=hS.sat
 have af:S1 σ1 ⟨k,vals⟩ [S k,x]:=⟨x,rfl,hx,hk⟩
 have bx:x.cells= #[x]:=by obtain ⟨a,c,rfl,_⟩:=hx;rfl
 have a3: ∀{w':World} {K:Value→World→Prop},Hst w1 σ1 w' σ1→K cv w'→Q2 P T.g (.pointer (some ((⟨p,0,none⟩:Addr).add 2))) w' K:=fun N hK=>Yk (U.up N.stp) rfl hK
 have bc: ∀{w':World} {K:Value→World→Prop},Hst w1 σ1 w' σ1→K (.agg [S k,x].toArray) w'→Q2 P T.o (.pointer (some ⟨b7,0,none⟩)) w' K:=fun N hK=>Co (av.up N.stp) rfl hK
 refine U2 bd ?_
 (repeat refine Z8 Qd ?_)
 refine Q3w (R:=S1) (by decide) ?_
 refine Z8 (V:=cv) (fun d w m e=>?_) ?_
 ·subst e;exact a3 m (L1 rfl)
 refine Q1L (w:=w1) (σ:=σ1) (R:=S1) (sz:=2) (e:=T.o) cs (fun g i w m a5 ay=>?_) ?_
 ·obtain ⟨k1,a1,e1⟩:=a5
  subst ay
  exact X3p k1 a1 e1 (hc.up m.stp) rfl (by omega) (by omega) fun v' w' hk ha=>Q3m m hk ha
 refine Z8 (V:= .agg [S k,x].toArray) (fun w m=>?_) ?_
 ·exact bc m (L1 rfl)
 refine Wh (w:=w1) (σ:=σ1) (Φ:=fun σ' v=>Sl 2 (Q5U (⟨k,vals⟩:Cel) [S k,x]) σ' v [⟨k,vals⟩]) (fun f w m e=>?_) ?_
 ·subst e
  refine T4 (R:=Q5U (⟨k,vals⟩:Cel) [S k,x]) (sz:=2) m.sat [.agg [S k,x].toArray] [⟨k,vals⟩] rfl rfl (by simp[Value.cells]) rfl ⟨⟨rfl,rfl,Rep.one (R:=S1) af⟩,trivial⟩ fun v w2 σ2 ap a6=>Rx m ap a6
 rintro d g i O f M w2 bk rfl _ rfl ⟨a2,a8⟩ rfl ⟨σ3,k3,s3⟩
 refine X17 a2 a8 k3.sat s3 (fun y ds hy=>by obtain ⟨rfl,rfl,_⟩:=hy;exact af) rfl (by simp;omega) (by simp;omega) fun v3 w3 bo ar E _=>?_
 have hN:Stp w1 σ1 w3 σ1:=ar
 have A:=U.up hN
 have ac:=aj.up hN
 have ai:=Us E
 refine W6 ?_
 refine Ue A (by simp) ai.1 ai.2 fun X u4 C=>?_
 have aa:=U.lt
 have ad:V6 w1.heap.size T.o 2 S1 σ1 X v3 (cs++[⟨k,vals⟩]):=E.kp (D:=fun j=>j=p) (.of_upd u4 rfl) fun j hj e=>by have:=(E.mem j hj).1;omega
 have B:=ac.upd u4 (fun e=>Z e.symm)
 have s:Stp w σ X σ1:=u4.stp (hS.trans hN) aq A.1
 have ak:X2 X σ1:=s.sat
 obtain ⟨σ5,s5,l5,f5,o5⟩:=(J9.of_acc ad).freeze ak
 have W: ∀j,j<w1.heap.size→σ5 j=σ1 j:=fun j hj=>o5 j fun e=>by have:=(ad.mem j e.symm).1;omega
 have ab:Y3 σ5 X p [Y,I room,v3]:=⟨(W p aa).trans C.1,C.2⟩
 have ah:Y3 σ5 X L zs:=⟨(W L aj.lt).trans B.1,B.2⟩
 have aw:Stp w σ X σ5:=⟨s.bel,s5,fun b o e=>l5.le b o (s.le b o e),fun b m=>(W b (Nat.lt_of_lt_of_le m hS.bel.size)).trans (s.old b m)⟩
 exact Rl aw ab ah hz a0 ⟨Y,v3,rfl,hl.lift l5,f5⟩ fun w' σ' hk hr=>h v3 w' σ' hk hr
end Go.Proofs.YtjdiakhipmggjaaGreatDoor

namespace Go.Proofs.YtjdiakhipmggjaaGreatDoor
open Go.Emb Go.RowKit Go.Kd Go.Hm
variable {w w' : World} {K : Value → World → Prop} {σ σ' : Q6} {ds : List Value} {room : Int} {cs : List Cel} {l : List Cla}
set_option maxHeartbeats 1000000 in
theorem X0q {k:X0} (hs:X2 w σ) (hh:E3 σ (l,room,cs) ds) (ok:Ok l) (hlen:l.length≤1000) (hk:k.length≤U0) (h0:0≤W7 room cs) (h1:room≤1048576)
 (h: ∀ds' w' σ',Stp w σ w' σ'→E3 σ' (l,room,(P8 l room cs k).1) ds'→K (.tuple #[.agg ds'.toArray,I (P8 l room cs k).2]) w'):Q1 P F.bd [.agg ds.toArray,S k] w K:=Ii (by
 have hcl:=Qt cs
 obtain ⟨lv,cv,rfl,hl,hc⟩:=E3.out hh
 unfold Lc
 refine Ex hs fun b0 w1 σ1 hb0 hk1 hm0=>?_
 refine M8 hk1.sat fun b4 w2 σ2 hb4 hk2 hm4=>?_
 have hS2:=hk1.trans hk2
 have hB4:=N0 hb4 hk1
 have hb04:b0≠b4:=by have:=hm0.lt;omega
 have hm02:=hm0.up hk2
 have hl2:=hl.up hS2
 have hh2:=L8 hh ⟨hS2.le⟩
 unfold W7 at h0
 refine W6 ?_
 refine Yk (i:=0) hm02 rfl ?_
 refine Q9C hk2.sat hl2 ?_
 refine Wg ?_
 unfold P8 at h
 cases ho:A5 l k with
 | false=>
  rw[ho] at h
  simp only[if_pos] at h
  refine J7 ?_
  exact Rl hS2 hm02 hm4 rfl hB4 hh2 fun w' σ' hk hr=>h _ w' σ' hk hr
 | true=>
  rw[ho] at h
  simp only[Bool.true_eq_false,if_false] at h
  refine J0 ?_
  refine W6 ?_
  refine Yk (i:=0) hm02 rfl ?_
  refine Te hk2.sat hl2 ok.acy hlen ok.sm fun fv w3 σ3 hk3 hf=>?_
  have hS3:=hS2.trans hk3
  have hfl:=hf.max
  have hfl2:=Q0B ok.sm ok.len k
  refine Q8 hf ?_
  refine Yc ⟨by omega,by omega⟩ ?_
  refine Co (hm02.up hk3) rfl ?_
  refine Q9H hk3.sat (L8 hh2 ⟨hk3.le⟩) (by unfold W7;exact h0) h1 fun w4 σ4 hk4=>?_
  have hk34:=hk3.trans hk4
  have hS4:=hS3.trans hk4
  have hm04:=hm02.up hk34
  have hm44:=hm4.up hk34
  have hh4:=L8 hh2 ⟨hk34.le⟩
  have hf4:=hf.up hk4
  rw[Rq]
  by_cases hg:W7 room cs<1+((Y4 l k).length:Int)
  ·rw[if_pos hg] at h
   have e:decide (1+((Y4 l k).length:Int)>W7 room cs)=true:=decide_eq_true hg
   rw[e]
   refine J7 ?_
   exact Rl hS4 hm04 hm44 rfl hB4 hh4 fun w' σ' hk hr=>h _ w' σ' hk hr
  rw[if_neg hg] at h
  have e:decide (1+((Y4 l k).length:Int)>W7 room cs)=false:=decide_eq_false hg
  rw[e]
  refine J0 ?_
  unfold W7 at hg
  refine W3 (cells:= #[S k, .slice none 0 0]) (by kernel_rfl) ?_
  refine M8 hk4.sat fun b7 w5 σ5 hb7 hk5 hm7=>?_
  have hS5:=hS4.trans hk5
  have hB7:=N0 hb7 hS4
  refine My (ds:=[S k, .slice none 0 0]) hm7 rfl rfl (by rw[List.all_toArray];rfl) fun w6 u6 hm76=>?_
  have hS6:=u6.stp hS5 hB7 hm7.1
  have hb07:b0≠b7:=by have:=hm04.lt;omega
  have hb47:b4≠b7:=by have:=hm44.lt;omega
  have hm06:=(hm04.up hk5).upd u6 hb07
  have hm46:=(hm44.up hk5).upd u6 hb47
  have hf6:=(hf4.up hk5)
  have hc6:Sl 2 S1 σ5 cv cs:=hc.up hS5
  have hl6:Sl 8 V0 σ5 lv l:=hl.up hS5
  refine U3 (Y4 l k).length (fun n w'=> ∃σ' x,Stp w σ w' σ'∧SLe σ5 σ'∧Y3 σ' w' b0 [lv,I room,cv]∧Y3 σ' w' b4 _∧Y3 σ' w' b7 [S k,x]∧V6 w.heap.size T.f 4 O9 σ' w' x (((Y4 l k).take n).map fun f=>W1 f.kind)∧x.ownBlock≠some b0∧x.ownBlock≠some b4∧x.ownBlock≠some b7)
   ⟨σ5, .slice none 0 0,hS6,SLe.refl _,hm06,hm46,hm76,V6.nil,by simp[Value.ownBlock],by simp[Value.ownBlock],by simp[Value.ownBlock]⟩ fun n w7 d hn hinv=>?_
  obtain ⟨σ7,x,hS7,le7,hm07,hm47,hm77,ha7,hx0,hx4,hx7⟩:=hinv
  have hf7:=hf6.lift le7
  have hs7:=hS7.sat
  refine Q8 hf7 ?_
  refine Z2 ?_
  refine Q7 (fun hcc=>?_) (fun hcc=>?_)
  ·have hn':n<(Y4 l k).length:=by simpa using hcc
   obtain ⟨p1,r1⟩:=hf7.elF hn'
   have hrd: ∀{w':World} {K:Value→World→Prop},Hst w7 σ7 w' σ7→K x w'→Q2 P T.l (.pointer (some ((⟨b7,0,none⟩:Addr).add 1))) w' K:=fun hst hK=>Yk (hm77.up hst.stp) rfl hK
   refine U2 hs7 ?_
   (repeat (apply Z8;(· intros;(repeat (rename_i hx;subst hx));(repeat' (first | (with_reducible exact L1 rfl) | (with_reducible exact S3 (Stp.bel (by (repeat (first | exact Stp.refl (by (first | assumption | exact Stp.sat (by assumption) | exact Hst.sat (by assumption))) | assumption | refine Stp.trans ?_ (by first | assumption | exact Hst.stp (by assumption)))))) rfl) | (with_reducible intro _) | (simp only[↓M2,M2,Mb,reduceIte]) | (with_reducible refine hrd au ?_) | (with_reducible show Q2 _ _ _ _ _;first | refine X7 aS aL aR ?_ | refine Y5 aS aL aR ?_ | refine ld aS aL aR ?_) | (with_reducible show indexAddr _ _ _ _ _ _;refine Y2 aL au ?_) | (with_reducible show X3 _ _ _ _ _ _ _ _;refine Q8 aL ?_) | (with_reducible show F5 _ _ _ _ _ _;refine J4 aR ?_) | (with_reducible show pick _ _ _ _ _ _;refine M3 ?_) | (with_reducible show Q1 _ _ _ _ _;first | refine Q9i au ?_) | (apply G2;intro hh;(try simp only[hh,reduceIte,↓M2,M2,Mb,reduceIte]))));done)))
   refine Wh (w:=w7) (σ:=σ7) (Φ:=fun σ' v=>Sl 4 O9 σ' v [W1 (Y4 l k)[n].kind]) (fun t41 w hb e=>?_) ?_
   ·subst e
    exact T4 (R:=O9) (sz:=4) hb.sat [_] [W1 (Y4 l k)[n].kind] rfl rfl (by simp[Value.cells]) rfl ⟨Gj _,trivial⟩ fun v w2 σ2 hk2 hv2=>Rx hb hk2 hv2
   rintro t34 t38 t39 t35 t40 t41 t42 w8 hb8 rfl rfl rfl rfl rfl rfl ⟨σ8,hk8,s8⟩
   refine X17 (w0:=w) (hS7.trans hb8.stp) (ha7.up hb8.stp) hk8.sat s8 (fun y ds hy=>hy) rfl (by simp;omega) (by simp;omega) fun x9 w9 hg9 hS9 ha9 hat9=>?_
   have hm08:=(hm07.up hb8.stp).turn hg9 fun e=>hx0 e.symm
   have hm48:=(hm47.up hb8.stp).turn hg9 fun e=>hx4 e.symm
   have hm78:=(hm77.up hb8.stp).turn hg9 fun e=>hx7 e.symm
   have hsz:=hb8.stp.bel.size
   have hnew: ∀b,b<w7.heap.size→x.ownBlock≠some b→x9.ownBlock≠some b:=fun b hb hxb e=>by
    rcases hat9 with e2 | e2
    ·exact hxb (e2▸e)
    ·have:=e2 b e;omega
   have hsh:=Us ha9
   refine W6 ?_
   refine Ue hm78 (by simp) hsh.1 hsh.2 fun w10 u10 hm710=>?_
   refine O8 ?_
   have hx97:=hnew b7 hm77.lt hx7
   refine Y6 hfl hn' ⟨σ7,x9,u10.stp hS9 hB7 hm78.1,le7,hm08.upd u10 hb07,hm48.upd u10 hb47,hm710,?_,hnew b0 hm07.lt hx0,hnew b4 hm47.lt hx4,hx97⟩
   have:=ha9.kp (D:=fun j=>j=b7) (.of_upd u10 rfl) fun j hj e=>hx97 (e▸hj)
   rw[List.take_add_one,List.getElem?_eq_getElem hn',List.map_append]
   exact this
  ·have hn': ¬n<(Y4 l k).length:=by simpa using hcc
   rw[List.take_of_length_le (by omega)] at ha7
   obtain ⟨σ9,hS9,hx9,le9,o9⟩:=ha7.keep hS7
   have mk: ∀{b:Nat} {zs:List Value},Y3 σ7 w7 b zs→x.ownBlock≠some b→Y3 σ9 w7 b zs:=fun hm hne=>⟨(o9 _ fun e=>hne e.symm).trans hm.1,hm.2⟩
   have le59:SLe σ5 σ9:=le7.more ⟨le9⟩
   refine Q9p hS9 (mk hm07 hx0) (mk hm47 hx4) (mk hm77 hx7) rfl hb0 hB4 hb04 (hl6.lift le59) (hc6.lift le59) hx9 hk (by omega) fun cv' w' σ' hk' hr=>h _ w' σ' hk' hr)
set_option maxHeartbeats 1000000 in
theorem X2x {k:X0} {n:Int} (hs:X2 w σ) (hh:E3 σ (l,room,cs) ds) (hk:k.length≤U0) (h0:0≤W7 room cs) (h1:room≤1048576)
 (h: ∀ds' w' σ',Stp w σ w' σ'→E3 σ' (l,room,(T3 l room cs k n).1) ds'→K (.tuple #[.agg ds'.toArray,I (T3 l room cs k n).2]) w'):Q1 P F.bn [.agg ds.toArray,S k,I n] w K:=Ir (by
 have hcl:=Qt cs
 have htn:=E0 cs
 obtain ⟨lv,cv,rfl,hl,hc⟩:=E3.out hh
 unfold Ml
 refine Ex hs fun b0 w1 σ1 hb0 hk1 hm0=>?_
 refine M8 hk1.sat fun b4 w2 σ2 hb4 hk2 hm4=>?_
 have hS2:=hk1.trans hk2
 have hB4:=N0 hb4 hk1
 have hb04:b0≠b4:=by have:=hm0.lt;omega
 have hm02:=hm0.up hk2
 have hl2:=hl.up hS2
 have hh2:=L8 hh ⟨hS2.le⟩
 unfold W7 at h0
 unfold T3 at h
 have hbad:B6 l k=false→Q2 P T.a (.pointer (some ⟨b0,0,none⟩)) w2 fun t14 w=>
  Y0 P T.a (.pointer (some ⟨b4,0,none⟩)) t14 w fun _u w=>
  Y8 P T.a (.pointer (some ⟨b4,0,none⟩)) w fun r0=>
  K (.tuple #[r0,(.int .i64 91)]) w:=fun ho=>by
  rw[ho] at h
  simp only[if_pos] at h
  exact Rl hS2 hm02 hm4 rfl hB4 hh2 fun w' σ' hk hr=>h _ w' σ' hk hr
 refine P2 ?_
 by_cases hnull:k=H8
 ·rw[show decide (k=[110,117,108,108])=true from decide_eq_true hnull]
  (try simp only[O4,E2,S4,W5,W9,L2,M6,M5,H7,Bool.not_true,Bool.not_false])
  exact hbad (by simp[B6,hnull])
 rw[show decide (k=[110,117,108,108])=false from decide_eq_false hnull]
 (try simp only[O4,E2,S4,W5,W9,L2,M6,M5,H7,Bool.not_true,Bool.not_false])
 refine W6 ?_
 refine Yk (i:=0) hm02 rfl ?_
 refine Ds hk2.sat hl2 hk ?_
 refine Wg ?_
 cases hkm:N2 l k with
 | false=>
  (try simp only[O4,E2,S4,W5,W9,L2,M6,M5,H7,Bool.not_true,Bool.not_false])
  exact hbad (by simp[B6,hkm])
 | true=>
  (try simp only[O4,E2,S4,W5,W9,L2,M6,M5,H7,Bool.not_true,Bool.not_false])
  refine Ct k (Nat.le_trans hk (by decide)) ?_
  have hr:right k=true:=by
   have:=hkm
   simp only[N2,Bool.or_eq_true,Bool.and_eq_true,decide_eq_true_eq] at this
   rcases this with h1 | h1
   ·exact absurd h1 hnull
   ·exact h1.1
  have hdp:Yf k=(base k).2:=by unfold Yf;rw[if_pos hr]
  have hel:B6 l k=decide ((base k).2≤2):=by
   unfold B6;rw[hkm,decide_eq_false hnull,hdp];rfl
  refine Iz ?_
  by_cases hd2:(2:Int)<((base k).2:Int)
  ·rw[decide_eq_true hd2]
   refine J7 ?_
   exact hbad (by rw[hel,decide_eq_false_iff_not];omega)
  rw[decide_eq_false hd2]
  refine J0 ?_
  have ho:B6 l k=true:=by rw[hel,decide_eq_true_eq];omega
  rw[ho] at h
  simp only[Bool.true_eq_false,if_false] at h
  refine Z2 ?_
  by_cases hn0:n<0
  ·rw[if_pos hn0] at h
   rw[decide_eq_true hn0]
   refine J7 ?_
   exact Rl hS2 hm02 hm4 rfl hB4 hh2 fun w' σ' hk hr=>h _ w' σ' hk hr
  rw[if_neg hn0] at h
  rw[decide_eq_false hn0]
  refine J0 ?_
  refine Iz ?_
  have hbad2: ∀{w3 σ3},Stp w2 σ2 w3 σ3→W7 room cs≤n→Q2 P T.a (.pointer (some ⟨b0,0,none⟩)) w3 fun t14 w=>
   Y0 P T.a (.pointer (some ⟨b4,0,none⟩)) t14 w fun _u w=>
   Y8 P T.a (.pointer (some ⟨b4,0,none⟩)) w fun r0=>
   K (.tuple #[r0,(.int .i64 90)]) w:=fun {w3 σ3} hS hle=>by
   rw[if_pos hle] at h
   exact Rl (hS2.trans hS) (hm02.up hS) (hm4.up hS) rfl hB4 (L8 hh2 ⟨hS.le⟩) fun w' σ' hk hr=>h _ w' σ' hk hr
  by_cases hbig:(1048576:Int)<n
  ·rw[decide_eq_true hbig]
   (try simp only[O4,E2,S4,W5,W9,L2,M6,M5,H7,Bool.not_true,Bool.not_false])
   exact hbad2 (Stp.refl hk2.sat) (by unfold W7;omega)
  rw[decide_eq_false hbig]
  (try simp only[O4,E2,S4,W5,W9,L2,M6,M5,H7,Bool.not_true,Bool.not_false])
  refine Yc ⟨by omega,by omega⟩ ?_
  refine Co hm02 rfl ?_
  refine Q9H hk2.sat hh2 (by unfold W7;exact h0) h1 fun w4 σ4 hk4=>?_
  rw[Rq]
  by_cases hg:W7 room cs≤n
  ·rw[show decide (1+n>W7 room cs)=true from decide_eq_true (by omega)]
   refine J7 ?_
   exact hbad2 hk4 hg
  rw[if_neg hg] at h
  rw[show decide (1+n>W7 room cs)=false from decide_eq_false (by omega)]
  refine J0 ?_
  have hS4:=hS2.trans hk4
  have hm04:=hm02.up hk4
  have hm44:=hm4.up hk4
  obtain ⟨m,rfl⟩:=Int.eq_ofNat_of_zero_le (Int.not_lt.1 hn0)
  rw[Int.toNat_natCast] at h
  unfold W7 at hg
  have hr38:=Gx hr
  refine Ec (by simp only[List.length_cons,List.length_nil];omega) ?_
  refine W3 (cells:= #[S (k++[91,93]), .slice none 0 0]) (by kernel_rfl) ?_
  refine M8 hk4.sat fun b7 w5 σ5 hb7 hk5 hm7=>?_
  have hS5:=hS4.trans hk5
  have hB7:=N0 hb7 hS4
  refine My (ds:=[S (k++[91,93]), .slice none 0 0]) hm7 rfl rfl (by rw[List.all_toArray];rfl) fun w6 u6 hm76=>?_
  have hS6:=u6.stp hS5 hB7 hm7.1
  have hb07:b0≠b7:=by have:=hm04.lt;omega
  have hb47:b4≠b7:=by have:=hm44.lt;omega
  have hm06:=(hm04.up hk5).upd u6 hb07
  have hm46:=(hm44.up hk5).upd u6 hb47
  have hc6:Sl 2 S1 σ5 cv cs:=hc.up hS5
  have hl6:Sl 8 V0 σ5 lv l:=hl.up hS5
  refine U3 m (fun n w'=> ∃σ' x,Stp w σ w' σ'∧SLe σ5 σ'∧Y3 σ' w' b0 [lv,I room,cv]∧Y3 σ' w' b4 _∧Y3 σ' w' b7 [S (k++[91,93]),x]∧V6 w.heap.size T.f 4 O9 σ' w' x (List.replicate n (W1 k))∧x.ownBlock≠some b0∧x.ownBlock≠some b4∧x.ownBlock≠some b7)
   ⟨σ5, .slice none 0 0,hS6,SLe.refl _,hm06,hm46,hm76,V6.nil,by simp[Value.ownBlock],by simp[Value.ownBlock],by simp[Value.ownBlock]⟩ fun n w7 d hn hinv=>?_
  obtain ⟨σ7,x,hS7,le7,hm07,hm47,hm77,ha7,hx0,hx4,hx7⟩:=hinv
  have hs7:=hS7.sat
  refine Z2 ?_
  refine Q7 (fun hcc=>?_) (fun hcc=>?_)
  ·have hn':n<m:=by simpa using hcc
   have hrd: ∀{w':World} {K:Value→World→Prop},Hst w7 σ7 w' σ7→K x w'→Q2 P T.l (.pointer (some ((⟨b7,0,none⟩:Addr).add 1))) w' K:=fun hst hK=>Yk (hm77.up hst.stp) rfl hK
   refine U2 hs7 ?_
   (repeat (apply Z8;(· intros;(repeat (rename_i hx;subst hx));(repeat' (first | (with_reducible exact L1 rfl) | (with_reducible exact S3 (Stp.bel (by (repeat (first | exact Stp.refl (by (first | assumption | exact Stp.sat (by assumption) | exact Hst.sat (by assumption))) | assumption | refine Stp.trans ?_ (by first | assumption | exact Hst.stp (by assumption)))))) rfl) | (with_reducible intro _) | (simp only[↓M2,M2,Mb,reduceIte]) | (with_reducible refine hrd au ?_) | (with_reducible show Q2 _ _ _ _ _;first | refine X7 aS aL aR ?_ | refine Y5 aS aL aR ?_ | refine ld aS aL aR ?_) | (with_reducible show indexAddr _ _ _ _ _ _;refine Y2 aL au ?_) | (with_reducible show X3 _ _ _ _ _ _ _ _;refine Q8 aL ?_) | (with_reducible show F5 _ _ _ _ _ _;refine J4 aR ?_) | (with_reducible show pick _ _ _ _ _ _;refine M3 ?_) | (with_reducible show Q1 _ _ _ _ _;first | refine Q9i au ?_) | (apply G2;intro hh;(try simp only[hh,reduceIte,↓M2,M2,Mb,reduceIte]))));done)))
   refine Wh (w:=w7) (σ:=σ7) (Φ:=fun σ' v=>Sl 4 O9 σ' v [W1 k]) (fun t41 w hb e=>?_) ?_
   ·subst e
    exact T4 (R:=O9) (sz:=4) hb.sat [_] [W1 k] rfl rfl (by simp[Value.cells]) rfl ⟨Gj _,trivial⟩ fun v w2 σ2 hk2 hv2=>Rx hb hk2 hv2
   rintro t46 t47 t49 t50 w8 hb8 rfl rfl rfl ⟨σ8,hk8,s8⟩
   refine X17 (w0:=w) (hS7.trans hb8.stp) (ha7.up hb8.stp) hk8.sat s8 (fun y ds hy=>hy) rfl (by simp;omega) (by simp;omega) fun x9 w9 hg9 hS9 ha9 hat9=>?_
   have hm08:=(hm07.up hb8.stp).turn hg9 fun e=>hx0 e.symm
   have hm48:=(hm47.up hb8.stp).turn hg9 fun e=>hx4 e.symm
   have hm78:=(hm77.up hb8.stp).turn hg9 fun e=>hx7 e.symm
   have hsz:=hb8.stp.bel.size
   have hnew: ∀b,b<w7.heap.size→x.ownBlock≠some b→x9.ownBlock≠some b:=fun b hb hxb e=>by
    rcases hat9 with e2 | e2
    ·exact hxb (e2▸e)
    ·have:=e2 b e;omega
   have hsh:=Us ha9
   refine W6 ?_
   refine Ue hm78 (by simp) hsh.1 hsh.2 fun w10 u10 hm710=>?_
   refine O8 ?_
   have hx97:=hnew b7 hm77.lt hx7
   refine Y6 (by omega) hn' ⟨σ7,x9,u10.stp hS9 hB7 hm78.1,le7,hm08.upd u10 hb07,hm48.upd u10 hb47,hm710,?_,hnew b0 hm07.lt hx0,hnew b4 hm47.lt hx4,hx97⟩
   have:=ha9.kp (D:=fun j=>j=b7) (.of_upd u10 rfl) fun j hj e=>hx97 (e▸hj)
   rw[List.replicate_succ']
   exact this
  ·have hn': ¬n<m:=by simpa using hcc
   have hnm:n=m:=by omega
   subst hnm
   obtain ⟨σ9,hS9,hx9,le9,o9⟩:=ha7.keep hS7
   have mk: ∀{b:Nat} {zs:List Value},Y3 σ7 w7 b zs→x.ownBlock≠some b→Y3 σ9 w7 b zs:=fun hm hne=>⟨(o9 _ fun e=>hne e.symm).trans hm.1,hm.2⟩
   have le59:SLe σ5 σ9:=le7.more ⟨le9⟩
   refine Q9p hS9 (mk hm07 hx0) (mk hm47 hx4) (mk hm77 hx7) rfl hb0 hB4 hb04 (hl6.lift le59) (hc6.lift le59) hx9 (Nat.le_trans (show (k++[91,93]).length≤40 by simp only[List.length_append,List.length_cons,List.length_nil];omega) (by decide)) (by omega) fun cv' w' σ' hk' hr=>h _ w' σ' hk' hr)
end Go.Proofs.YtjdiakhipmggjaaGreatDoor

namespace Go.Emb
open Go.RowKit Go.Hm
section
variable {α : Type} {P : Program} {R : Q6 → α → List Value → Prop} {B sz : Nat} {e : TypeId} {σ σ0 : Q6} {v u : Value} {xs : List α} {w w0 w' : World} {K : Value → World → Prop}
theorem X1q {t:TypeId} {b:Nat} {z:Value} [TS P t e] [TZ P e sz b z] (h:J9 B e sz R σ w v xs) {n:Nat} (p:n<xs.length) (i:K (.pointer (some (Vw sz v n))) w):indexAddr P t v (I n) w K:=by
 obtain ⟨a,f,rfl,o,m,d,k⟩:=h
 obtain ⟨g,c,j,rfl,q⟩:=k (by omega)
 rw[Se (by omega) (by omega)]
 simpa [Vw] using i
theorem J9.elQ (h:J9 B e sz R σ w v xs) {n:Nat} (i:n<xs.length): ∃cs,cs.length=sz∧R σ xs[n] cs∧ ∀j u,cs[j]? =some u→w.cell? ((Vw sz v n).add j)=some u:=by
 obtain ⟨a,d,rfl,y,t,k,p⟩:=h
 obtain ⟨g,b,f,rfl,s,r,o,q,m⟩:=p (by omega)
 have hh:n*sz+sz≤d*sz:=by rw[←Nat.succ_mul];exact Nat.mul_le_mul_right _ (by omega)
 refine ⟨(f.toList.drop (b+n*sz)).take sz,by rw[List.length_take,List.length_drop,Array.length_toList];omega,m n _ (by simp[i]),fun j u c=>?_⟩
 rw[List.getElem?_take] at c
 split at c
 ·rw[List.getElem?_drop] at c
  have e:Vw sz (.slice (some ⟨g,b,none⟩) xs.length d) n=(⟨g,b,none⟩:Addr).add (n*sz):=rfl
  rw[e]
  unfold World.cell?
  rw[S9,S9,Qf,Qf,K2 (K2 rfl _)]
  simp only[o]
  simpa using c
 ·cases c
theorem X4u {t:TypeId} {c:Nat} {z:Value} [tz:TZ P t 1 c z] {b i:Nat} {cs:List Value} {v:Value} (d:w.heap[b]? =some (.cells cs.toArray e (0,0))) (k:i<cs.length) (j:v.cells= #[v]) (f:v.oneCell'=true)
 (h: ∀w',Upd w b w'→w'.heap[b]? =some (.cells (cs.set i v).toArray e (0,0))→K undef w'):Y0 P t (.pointer (some ((⟨b,0,none⟩:Addr).add i))) v w K:=by
 unfold Y0
 have a:(⟨b,0,none⟩:Addr).add i=⟨b,i,none⟩:=by unfold Addr.add;split<;>simp_all
 have:=run_storeCells_at P b i e [v] 0 cs.toArray w d (by simp;omega) (by simpa using f)
 simp only[Nat.add_zero] at this
 obtain ⟨m,hh⟩:=Mo (cs:=(cs.set i v).toArray) d
 have g:(List.take i cs.toArray.toList++[v]++List.drop (i+[v].length) cs.toArray.toList).toArray=(cs.set i v).toArray:=by
  rw[←Q82 k];simp
 rw[g] at this
 rw[Lh (w':=w.setRow b (cs.set i v).toArray) (by simp[Instr.storeAt,Instr.sureAddr,a,storeVar,L5 tz,j,this])]
 exact h _ m hh
theorem X2U {t:TypeId} {r n c:Nat} {z:Value} {x:α} [tz:TZ P t 1 r z] (U:Stp w0 σ0 w σ) (Z:J9 w0.heap.size e sz R σ w v xs) (hn:n<xs.length) (hc:c<sz) (X:u.cells= #[u]) (Y:u.oneCell'=true) (hx: ∀cs,cs.length=sz→R σ xs[n] cs→R σ x (cs.set c u))
 (h: ∀w',Kpt (fun k=>v.ownBlock=some k) w w'→Stp w0 σ0 w' σ→J9 w0.heap.size e sz R σ w' v (xs.set n x)→K undef w'):Y0 P t (.pointer (some ((Vw sz v n).add c))) u w K:=by
 obtain ⟨a,i,rfl,O,M,f,V⟩:=Z
 obtain ⟨g,d,m,rfl,E,s,L,q4,J⟩:=V (by omega)
 have hh:n*sz+sz≤i*sz:=by rw[←Nat.succ_mul];exact Nat.mul_le_mul_right _ (by omega)
 have hm:Y3 σ w g m.toList:=⟨s,e,by simpa using L⟩
 have N:=Array.length_toList (xs:=m)
 have ea:(Vw sz (.slice (some ⟨g,d,none⟩) xs.length i) n).add c=(⟨g,0,none⟩:Addr).add (d+n*sz+c):=by
  simp only[Vw,Q4i]
  unfold Addr.add
  split<;>split<;>simp_all<;>omega
 rw[ea]
 refine X4u (e:=e) (by simpa using L) (by omega) X Y fun w' D W=>?_
 refine h w' (Kpt.of_upd D rfl) (D.stp U E s) ⟨_,i,by rw[List.length_set],by rw[List.length_set];exact O,M,fun b q=>⟨(f b q).1,(f b q).2.1,by rw[D.size];exact (f b q).2.2.1,(f b q).2.2.2⟩,fun _=>⟨g,d,_,rfl,E,s,W,by simp;omega,fun j y p=>?_⟩⟩
 rw[List.toList_toArray]
 have o:j<xs.length:=by have:=(List.getElem?_eq_some_iff.1 p).1;simpa using this
 have Q:j*sz+sz≤i*sz:=by rw[←Nat.succ_mul];exact Nat.mul_le_mul_right _ (by omega)
 rw[List.drop_set]
 by_cases H:j=n
 ·subst H
  rw[List.getElem?_set_self o] at p
  cases p
  rw[if_neg (by omega),List.take_set,show d+j*sz+c-(d+j*sz)=c by omega]
  exact hx _ (by rw[List.length_take,List.length_drop];omega) (J j _ (by simp[o]))
 ·rw[List.getElem?_set_ne (by omega)] at p
  have:=J j y p
  rcases Nat.lt_or_gt_of_ne H with A | hgt
  ·have C:j*sz+sz≤n*sz:=by rw[←Nat.succ_mul];exact Nat.mul_le_mul_right _ A
   rw[if_neg (by omega),List.take_set,List.set_eq_of_length_le (by rw[List.length_take];omega)]
   exact this
  ·have C:n*sz+sz≤j*sz:=by rw[←Nat.succ_mul];exact Nat.mul_le_mul_right _ hgt
   rw[if_pos (by omega)]
   exact this
end
end Go.Emb
namespace Go.Proofs.YtjdiakhipmggjaaGreatDoor
open Go.Emb Go.RowKit Go.Kd Go.Hm
variable {w w' : World} {K : Value → World → Prop} {σ σ' : Q6} {ds : List Value} {room : Int} {cs : List Cel} {l : List Cla}
theorem Q5R (d:Z7 cs≤1048576) {j:Nat} (a:j<cs.length):(cs[j].vals.length:Int)≤1048576:=by
 have e:Z7 cs=Z7 (cs.take j)+Z7 (cs.drop j):=by rw[←Ql,List.take_append_drop]
 have c:Z7 (cs.drop j)=(1+(cs[j].vals.length:Int))+Z7 (cs.drop (j+1)):=by
  rw[List.drop_eq_getElem_cons a];simp only[Z7,List.map_cons,List.sum_cons]
 have f:=E0 (cs.take j)
 have b:=E0 (cs.drop (j+1))
 omega
theorem X48 {d i:Nat} {p cv x:Value} {m:List Cel} {H:List Value} {w0 w1:World} {σ0 σ1:Q6} (hS:Stp w σ w0 σ0) (M:Stp w0 σ0 w1 σ1) (z:Y3 σ1 w1 d [p,I room,cv]) (Q:Y3 σ1 w1 i H) (hz:H.length=3) (L:d<w0.heap.size) (N:i<w0.heap.size) (X:w.heap.size≤d) (O:w.heap.size≤i) (q:d≠i) (hl:Sl 8 V0 σ1 p l) (V:J9 w0.heap.size T.o 2 S1 σ1 w1 x m)
 (h: ∀y w' σ',Stp w σ w' σ'→E3 σ' (l,room,m) [p,I room,y]→K (.tuple #[.agg [p,I room,y].toArray,I 0]) w'):
 Y0 P T.g (.pointer (some ((⟨d,0,none⟩:Addr).add 2))) x w1 fun _u w=>
 Q2 P T.a (.pointer (some ⟨d,0,none⟩)) w fun W w=>
 Y0 P T.a (.pointer (some ⟨i,0,none⟩)) W w fun _u w=>
 Y8 P T.a (.pointer (some ⟨i,0,none⟩)) w fun r0=>
 K (.tuple #[r0,(.int .i64 0)]) w:=by
 have C:x.cells= #[x]∧x.oneCell'=true:=by obtain ⟨a,c,rfl,_⟩:=V;exact ⟨rfl,rfl⟩
 refine Ue z (by simp) C.1 C.2 fun r U g=>?_
 have s:J9 w0.heap.size T.o 2 S1 σ1 r x m:=V.kp (D:=fun j=>j=d) (.of_upd U rfl) fun j Z e=>by have:=(V.mem Z).1;omega
 have k:=Q.upd U (fun e=>q e.symm)
 have f:Stp w σ r σ1:=U.stp (hS.trans M) X z.1
 obtain ⟨E,s5,l5,f5,o5⟩:=s.freeze f.sat
 have n: ∀j,j<w0.heap.size→E j=σ1 j:=fun j Z=>o5 j fun e=>by have:=(s.mem e.symm).1;omega
 have t:Y3 E r d [p,I room,x]:=⟨(n d L).trans g.1,g.2⟩
 have A:Y3 E r i H:=⟨(n i N).trans k.1,k.2⟩
 have J:Stp w σ r E:=⟨f.bel,s5,fun b o e=>l5.le b o (f.le b o e),fun b Y=>(n b (Nat.lt_of_lt_of_le Y hS.bel.size)).trans (f.old b Y)⟩
 exact Rl J t A hz O ⟨p,x,rfl,hl.lift l5,f5⟩ fun w' σ' M hr=>h x w' σ' M hr
set_option maxHeartbeats 2000000 in
theorem X4e {r i:Int} {v:Val} (hs:X2 w σ) (hh:E3 σ (Q4 l,room,cs) ds) (wf:Wf l) (ok:Ok (Q4 l)) (hlen:(Q4 l).length≤1000) (good: ∀c∈cs,GoodC W8 (Q4 l) cs c) (hl1:Z7 cs≤1048576) (hv:O9 σ v [I v.sort,I v.n,S v.s,I v.ref])
 (h: ∀ds' w' σ',Stp w σ w' σ'→E3 σ' (Q4 l,room,(H6 W8 (Q4 l) cs r i v).1) ds'→K (.tuple #[.agg ds'.toArray,I (H6 W8 (Q4 l) cs r i v).2]) w'):Q1 P F.bO [.agg ds.toArray,I r,I i, .agg [I v.sort,I v.n,S v.s,I v.ref].toArray] w K:=Q0X (by
 have hcl:=Qt cs
 obtain ⟨lv,cv,rfl,hl,hc⟩:=E3.out hh
 unfold El
 refine Ex hs fun b0 w1 σ1 hb0 hk1 hm0=>?_
 refine Y9 hk1.sat fun q w2 σ2 hk2 hq=>?_
 have hS2:=hk1.trans hk2
 refine M8 hk2.sat fun b4 w3 σ3 hb4 hk3 hm4=>?_
 have hS3:=hS2.trans hk3
 have hB4:=N0 hb4 hS2
 have hm02:=hm0.up hk2
 have hb04:b0≠b4:=by have:=hm02.lt;omega
 have hm03:=hm02.up hk3
 have hh3:=L8 hh ⟨hS3.le⟩
 have hq3:=hq.up hk3
 refine Co hm03 rfl ?_
 refine Q7U hk3.sat hh3 fun w4 σ4 hk4=>?_
 have hS4:=hS3.trans hk4
 have hm04:=hm03.up hk4
 have hm44:=hm4.up hk4
 have hh4:=L8 hh3 ⟨hk4.le⟩
 have hq4:=hq3.up hk4
 unfold H6 at h
 refine Qx ?_
 by_cases h0:D9 cs r i=0
 case neg=>
  rw[decide_eq_false h0]
  rw[if_pos h0] at h
  refine J7 ?_
  exact Rl hS4 hm04 hm44 rfl hB4 hh4 fun w' σ' hk hr=>h _ w' σ' hk hr
 rw[decide_eq_true h0]
 rw[if_neg (fun hn=>hn h0)] at h
 refine J0 ?_
 obtain ⟨j,m,rfl,rfl,hj,hm⟩:=Lm h0
 rw[W4 hj,Int.toNat_natCast] at h
 have hc4:=hc.up hS4
 obtain ⟨vv,p1,p2,p3⟩:=Sl.elO hc4 hj
 have hgc:=good cs[j] (List.getElem_mem hj)
 have hif:elem cs[j].kind=[]→m<(Y4 (Q4 l) cs[j].kind).length:=fun e=>by
  rcases hgc.is with h | h
  ·exact absurd e h
  ·rw[←h.2];exact hm
 have hs4:=hk4.sat
 have hr0: ∀{w':World} {K:Value→World→Prop},Hst w4 σ4 w' σ4→K (.agg [lv,I room,cv].toArray) w'→Q2 P T.a (.pointer (some ⟨b0,0,none⟩)) w' K:=fun hst hK=>Co (hm04.up hst.stp) rfl hK
 have hr1: ∀{w':World} {K:Value→World→Prop},Hst w4 σ4 w' σ4→K cv w'→Q2 P T.g (.pointer (some ((⟨b0,0,none⟩:Addr).add 2))) w' K:=fun hst hK=>Yk (hm04.up hst.stp) rfl hK
 refine U2 hs4 ?_
 (repeat (apply Z8;(· intros;(repeat (rename_i hx;subst hx));(repeat' (first | (with_reducible exact L1 rfl) | (with_reducible exact S3 (Stp.bel (by (repeat (first | exact Stp.refl (by (first | assumption | exact Stp.sat (by assumption) | exact Hst.sat (by assumption))) | assumption | refine Stp.trans ?_ (by first | assumption | exact Hst.stp (by assumption)))))) rfl) | (with_reducible intro _) | (simp only[↓M2,M2,Mb,reduceIte]) | (with_reducible refine hr0 au ?_) | (with_reducible refine hr1 au ?_) | (with_reducible show Q2 _ _ _ _ _;first | refine X7 aS aL aR ?_ | refine Y5 aS aL aR ?_ | refine ld aS aL aR ?_) | (with_reducible show indexAddr _ _ _ _ _ _;refine Y2 aL au ?_) | (with_reducible show X3 _ _ _ _ _ _ _ _;refine Q8 aL ?_) | (with_reducible show F5 _ _ _ _ _ _;refine J4 aR ?_) | (with_reducible show pick _ _ _ _ _ _;refine M3 ?_) | (with_reducible show Q1 _ _ _ _ _;first | refine X3r au au au au au au ?_) | (apply G2;intro hh;(try simp only[hh,reduceIte,↓M2,M2,Mb,reduceIte]))));done)))
 (intros;(repeat (rename_i hx;subst hx)))
 rename_i w5 hb5
 have hS5:=hS4.trans hb5.stp
 refine X36 hb5.sat hh4 wf ok hlen hv.2.2.2.1 (Q2F ok p3 m) fun wA σA hkA=>?_
 have hk4A:=hb5.stp.trans hkA
 have hSA:=hS4.trans hk4A
 have hm0A:=hm04.up hk4A
 have hm4A:=hm44.up hk4A
 have hhA:=L8 hh4 ⟨hk4A.le⟩
 have hqA:=hq4.up hk4A
 have hsA:=hkA.sat
 refine Wg ?_
 cases hf:F2 W8 (Q4 l) cs v (Xl (Q4 l) cs[j].kind m) with
 | false=>
  rw[hf] at h
  simp only[Bool.false_eq_true,if_false] at h
  refine J7 ?_
  exact Rl hSA hm0A hm4A rfl hB4 hhA fun w' σ' hk hr=>h _ w' σ' hk hr
 | true=>
  rw[hf] at h
  simp only[if_true] at h
  refine J0 ?_
  have hcA:=hc.up hSA
  have hlA:=hl.up hSA
  have hvl:=Q5R hl1 hj
  refine Hl (R:=S1) (e:=T.o) (Stp.refl hsA) (by decide) fun x1 wA1 hkA1 ha1 _=>?_
  refine W6 ?_
  refine Yk (hm0A.up hkA1) rfl ?_
  refine Wk hkA1 ha1 (hcA.up hkA1) rfl (by simp;omega) (by simp;omega) fun x2 wB _ hkB ha2 _=>?_
  rw[List.nil_append] at ha2
  have hsB:=hkB.sat
  refine Hl (R:=O9) (e:=T.f) (Stp.refl hsB) (by decide) fun y1 wB1 hkB1 hy1 _=>?_
  have hq2:=J9.of_acc (ha2.up hkB1)
  refine X1q hq2 hj ?_
  obtain ⟨cs5,hl5,⟨vv5,rfl,p5,_⟩,hcell⟩:=hq2.elQ hj
  refine W6 ?_
  refine Qg (hcell 1 vv5 rfl) ?_
  refine Wk hkB1 hy1 p5 rfl (by simp;omega) (by simp;omega) fun y2 wB2 _ hkB2 hy2 _=>?_
  rw[List.nil_append] at hy2
  refine Y5 hkB2.sat ((hqA.up hkB).up hkB2) rfl ?_
  refine Q3v (x:=v) hkB2 (J9.of_acc hy2) hm rfl (show O9 σA v _ from hv) (Rep.one (R:=O9) (σ:=σA) hv) fun p u w6 _ hb6 hy6=>?_
  obtain ⟨σ7,hk7,hs7,le7,_⟩:=hy6.keep hb6.stp
  have hkA7:=hkB.trans hk7
  have hq7:=J9.of_acc (ha2.up hk7)
  refine X1q hq7 hj ?_
  refine W6 ?_
  have hysh:y2.cells= #[y2]∧y2.oneCell'=true:=Us hy2
  refine X2U (x:=(⟨cs[j].kind,cs[j].vals.set m v⟩:Cel)) hkA7 hq7 hj (by decide) hysh.1 hysh.2 (fun es _ hes=>by
   obtain ⟨v0,rfl,_,hkl⟩:=hes
   exact ⟨y2,rfl,hs7,hkl⟩) fun w8 _ hk8 hq8=>?_
  refine W6 ?_
  have hsv:F3 cs j m v=cs.set j ⟨cs[j].kind,cs[j].vals.set m v⟩:=by unfold F3;rw[W4 hj,Int.toNat_natCast,Int.toNat_natCast]
  rw[hsv] at h
  exact X48 hSA hk8 (hm0A.up hk8) (hm4A.up hk8) rfl hm0A.lt hm4A.lt hb0 hB4 hb04 (hlA.up hk8) hq8 fun cv' w' σ' hk hr=>h _ w' σ' hk hr)
end Go.Proofs.YtjdiakhipmggjaaGreatDoor

namespace Go.Proofs.YtjdiakhipmggjaaGreatDoor
open Go.Emb Go.RowKit Go.Kd Go.Hm
variable {w w' : World} {K : Value → World → Prop} {σ σ' : Q6} {ds : List Value} {room : Int} {cs : List Cel} {l : List Cla}
theorem Q5q {n b:Nat} {c a:Value} {k:List Value} {w1:World} {σ1:Q6} (q:Stp w σ w1 σ1) (f:Y3 σ1 w1 n [c,I room,a]) (i:Y3 σ1 w1 b k) (p:k.length=3) (g:w.heap.size≤b) (m:E3 σ1 (l,room,cs) [c,I room,a]) (h: ∀w' σ',Stp w σ w' σ'→E3 σ' (l,room,cs) [c,I room,a]→K (.agg [c,I room,a].toArray) w'):
 Q2 P T.a (.pointer (some ⟨n,0,none⟩)) w1 fun j w=>
 Y0 P T.a (.pointer (some ⟨b,0,none⟩)) j w fun _u w=>
 Y8 P T.a (.pointer (some ⟨b,0,none⟩)) w fun o=>
 K o w:=
 Co f rfl (G0 i q g p rfl (Rep.one m) fun r e d=>V2 d rfl (h r σ1 e.stp m))
set_option maxHeartbeats 2000000 in
theorem X44 {n:Int} (hs:X2 w σ) (hh:E3 σ (l,room,cs) ds) (ba:Z7 cs≤1048576) (hn:Yz n)
 (h: ∀av w' σ',Stp w σ w' σ'→E3 σ' (l,room,Tj cs n) av→K (.agg av.toArray) w'):Q1 P F.bQ [.agg ds.toArray,I n] w K:=Q1n (by
 have bz:=Qt cs
 obtain ⟨lv,cv,rfl,hl,hc⟩:=E3.out hh
 unfold Hg
 refine Ex hs fun Q w1 σ1 bn X an=>?_
 refine M8 X.sat fun b4 w2 σ2 a0 V J=>?_
 have bl:=X.trans V
 have W:=N0 a0 X
 have aj:Q≠b4:=by have:=an.lt;omega
 have ag:=an.up V
 have a7:=V.sat
 refine Yp (fun z w'=>z=I (max n 0)∧w'=w2) ?_ ?_
 ·refine Z2 ?_
  by_cases e:n<0
  ·rw[decide_eq_true e]
   exact J7 ⟨by rw[show max n 0=0 by omega],rfl⟩
  ·rw[decide_eq_false e]
   exact J0 ⟨by rw[show max n 0=n by omega],rfl⟩
 rintro z d0 w3 ⟨rfl,rfl⟩
 unfold Tj at h
 obtain ⟨m,ak⟩:=Int.eq_ofNat_of_zero_le (show 0≤max n 0 by omega)
 rw[ak,Int.toNat_natCast] at h
 rw[ak]
 have ce:(m:Int)≤9223372036854775807:=by have:=hn.2;omega
 refine U3 (min m cs.length) (fun i w'=> ∃σ',Stp w3 σ2 w' σ'∧(cs.take i).any (fun c=>c.vals.any (G5 m))=false) ⟨σ2,Stp.refl a7,rfl⟩ fun i w4 d hi t=>?_
 obtain ⟨σ4,q,aa⟩:=t
 have a:=ag.up q
 have s:=bl.trans q
 have E:=hc.up s
 refine Z2 ?_
 have ab: ¬i<min m cs.length→(cs.take m).any (fun c=>c.vals.any (G5 m))=false∧(m<cs.length→i=m):=fun ai=>by
  by_cases bk:m≤cs.length
  ·have:i=m:=by omega
   subst this;exact ⟨aa,fun _=>rfl⟩
  ·have e:cs.take m=cs.take i:=by rw[List.take_of_length_le (by omega),List.take_of_length_le (by omega)]
   rw[e];exact ⟨aa,fun h=>by omega⟩
 have N: ¬i<min m cs.length→jn (α:=Unit) w4 (fun ah w=>
  fieldAddr P T.a (.pointer (some ⟨Q,0,none⟩)) 2 w fun bc w=>
  Q2 P T.g bc w fun bh w=>
  X3 P .len [T.g] T.e [false] [bh] w fun a1 w=>
  Q3 P .lss T.e (.tmp 52) (.tmp 55) (I (m:Int)) a1 w fun bp w=>
  X1 bp (
   buildSlice P T.g 0 [] w fun bi w=>
   fieldAddr P T.a (.pointer (some ⟨Q,0,none⟩)) 2 w fun bo w=>
   Q2 P T.g bo w fun bb w=>
   R8 P T.g bb none (some (I (m:Int))) none w fun bg w=>
   X3 P .append [T.g,T.g] T.g [false,false] [bi,bg] w fun bd w=>
   fieldAddr P T.a (.pointer (some ⟨Q,0,none⟩)) 2 w fun bf w=>
   Y0 P T.g bf bd w fun _u w=>
   ah () w) (
   ah () w)) fun b5 d_ w=>
  Q2 P T.a (.pointer (some ⟨Q,0,none⟩)) w fun a8 w=>
  Y0 P T.a (.pointer (some ⟨b4,0,none⟩)) a8 w fun _u w=>
  Y8 P T.a (.pointer (some ⟨b4,0,none⟩)) w fun r0=>
  K r0 w:=fun ai=>by
  obtain ⟨A,_⟩:=ab ai
  rw[if_neg (by rw[A];simp)] at h
  refine U7 ?_
  refine W6 ?_
  refine Yk a rfl ?_
  refine Q8 E ?_
  refine Z2 ?_
  by_cases bk:m<cs.length
  ·rw[decide_eq_true (show (m:Int)<(cs.length:Int) by omega)]
   refine J7 ?_
   have bj:=q.sat
   refine Hl (R:=S1) (e:=T.o) (Stp.refl bj) (by decide) fun x1 w5 f a9 _=>?_
   refine W6 ?_
   refine Yk (a.up f) rfl ?_
   refine Ez (E.up f) none (some (I m)) 0 m (.inl ⟨rfl,rfl⟩) (.inr rfl) (Nat.zero_le _) (by omega) fun v3 am=>?_
   rw[List.drop_zero,Nat.sub_zero] at am
   refine Wk f a9 am rfl (by simp;omega) (by simp;omega) fun x2 w6 _ g L _=>?_
   rw[List.nil_append] at L
   have ar:=Us L
   have O:=a.up g
   refine W6 ?_
   refine Ue O (by simp) ar.1 ar.2 fun w7 u7 U=>?_
   intro d
   have ao:J9 w4.heap.size T.o 2 S1 σ4 w7 x2 (cs.take m):=(J9.of_acc L).kp (D:=fun j=>j=Q) (.of_upd u7 rfl) fun j hj e=>by have:=(L.mem j hj).1;have:=a.lt;omega
   have M:=((J.up q).up g).upd u7 (fun e=>aj e.symm)
   have C:Stp w σ w7 σ4:=u7.stp (s.trans g) bn O.1
   obtain ⟨σ8,s8,l8,f8,o8⟩:=ao.freeze C.sat
   have ac: ∀j,j<w4.heap.size→σ8 j=σ4 j:=fun j hj=>o8 j fun e=>by have:=(ao.mem e.symm).1;omega
   have a2:Stp w σ w7 σ8:=⟨C.bel,s8,fun b o e=>l8.le b o (C.le b o e),fun b hb=>(ac b (Nat.lt_of_lt_of_le hb s.bel.size)).trans (C.old b hb)⟩
   exact Q5q a2 (cs:=cs.take m) (l:=l) (show Y3 σ8 w7 Q [lv,I room,x2] from ⟨(ac Q a.lt).trans U.1,U.2⟩) ⟨(ac b4 (J.up q).lt).trans M.1,M.2⟩ rfl W ⟨lv,x2,rfl,(hl.up s).lift l8,f8⟩ fun w' σ' hk hr=>h _ w' σ' hk hr
  ·rw[decide_eq_false (show¬(m:Int)<(cs.length:Int) by omega)]
   refine J0 ?_
   intro d
   rw[List.take_of_length_le (by omega)] at h
   exact Q5q s a (J.up q) rfl W (L8 hh ⟨s.le⟩) fun w' σ' hk hr=>h _ w' σ' hk hr
 by_cases ch:i<m
 case neg=>
  rw[decide_eq_false (show¬(i:Int)<(m:Int) by omega)]
  (try simp only[O4,E2,S4,W5,W9,L2,M6,M5,H7,Bool.not_true,Bool.not_false])
  exact N (by omega)
 rw[decide_eq_true (show (i:Int)<(m:Int) by omega)]
 (try simp only[O4,E2,S4,W5,W9,L2,M6,M5,H7,Bool.not_true,Bool.not_false])
 refine W6 ?_
 refine Yk a rfl ?_
 refine Q8 E ?_
 refine Z2 ?_
 by_cases u:i<cs.length
 case neg=>
  rw[decide_eq_false (show¬(i:Int)<(cs.length:Int) by omega)]
  refine J0 ?_
  exact N (by omega)
 rw[decide_eq_true (show (i:Int)<(cs.length:Int) by omega)]
 refine J7 ?_
 have b2:=Q5R ba u
 refine U3 cs[i].vals.length (fun k w'=> ∃σ',Stp w4 σ4 w' σ'∧(cs[i].vals.take k).any (G5 m)=false) ⟨σ4,Stp.refl q.sat,rfl⟩ fun k w5 d hk t=>?_
 obtain ⟨σ5,f,y⟩:=t
 have B:=a.up f
 have Y:=E.up f
 have a5:=s.trans f
 have H:=f.sat
 obtain ⟨vv,p1,p2,p3⟩:=Sl.elO Y u
 refine W6 ?_
 refine Yk B rfl ?_
 refine Y2 Y u ?_
 refine W6 ?_
 refine ld H p1 rfl ?_
 refine Q8 p2 ?_
 refine Z2 ?_
 refine Q7 (fun Z=>?_) (fun Z=>?_)
 ·have r:k<cs[i].vals.length:=by simpa using Z
  obtain ⟨p4,r4⟩:=Sl.elV p2 r
  refine W6 ?_
  refine Yk B rfl ?_
  refine Y2 Y u ?_
  refine W6 ?_
  refine ld H p1 rfl ?_
  refine Y2 p2 r ?_
  refine Y5 H p4 rfl ?_
  refine Y7 H (by rfl) rfl (Rep.one r4) fun q6 w6 σ6 g ap=>?_
  have aq:=a5.trans g
  have bm:=L4 (p:=G5 m) r
  refine W6 ?_
  refine ld (i:=0) g.sat ap rfl ?_
  refine I2 ?_
  have v:G5 m cs[i].vals[k]=false→ ∃σ',Stp w4 σ4 w6 σ'∧(cs[i].vals.take (k+1)).any (G5 m)=false:=fun e=>⟨σ6,f.trans g,by rw[bm,y,e];rfl⟩
  by_cases e4:cs[i].vals[k].sort=4
  ·rw[decide_eq_true e4]
   (try simp only[O4,E2,S4,W5,W9,L2,M6,M5,H7,Bool.not_true,Bool.not_false])
   refine W6 ?_
   refine ld g.sat ap rfl ?_
   refine P3 ?_
   by_cases eg:(m:Int)≤cs[i].vals[k].ref
   ·rw[decide_eq_true eg]
    refine J7 ?_
    have A:(cs.take m).any (fun c=>c.vals.any (G5 m))=true:=by
     refine List.any_eq_true.2 ⟨cs[i],List.mem_take_iff_getElem.2 ⟨i,by omega,rfl⟩,S6 r (by simp[G5,e4,eg])⟩
    rw[if_pos A] at h
    exact Q5q aq (B.up g) ((J.up q).up (f.trans g)) rfl W (L8 hh ⟨aq.le⟩) fun w' σ' hk hr=>h _ w' σ' hk hr
   ·rw[decide_eq_false eg]
    refine J0 ?_
    refine O8 ?_
    exact Y6 (by omega) r (v (by simp[G5,eg]))
  ·rw[decide_eq_false e4]
   (try simp only[O4,E2,S4,W5,W9,L2,M6,M5,H7,Bool.not_true,Bool.not_false])
   refine O8 ?_
   exact Y6 (by omega) r (v (by simp[G5,e4]))
 ·have r: ¬k<cs[i].vals.length:=by simpa using Z
  rw[E1 r] at y
  refine O8 ?_
  refine Y6 (by omega) (by omega) ⟨σ5,q.trans f,?_⟩
  rw[L4 u,aa,y];rfl)
end Go.Proofs.YtjdiakhipmggjaaGreatDoor

namespace Go.Hm
open Go.Kd
def Q8d:Ins:=⟨[105,110,116],1,[]⟩
def Q0p:Ins:=⟨[114,101,116,117,114,110],0,[]⟩
def kA:X0:=[65]
def fX:Fld:=⟨[120],P9,false⟩
def Q1P:Fld:=⟨[110,101,120,116],kA,false⟩
def fL:Fld:=⟨[108],[65,91,93],false⟩
def mF:Hm.Met:=⟨[102],[P9,kA],P9,false,3,[Q8d,Q0p],[]⟩
def mG:Hm.Met:=⟨[103],[],[],false,1,[Q0p],[]⟩
def cA:Cla:=⟨kA,U1,[],false,false,false,[fX,Q1P],[mF,mG]⟩
def cB:Cla:=⟨[66],kA,[[73]],false,false,false,[fL],[]⟩
def cI:Cla:=⟨[73],U1,[],true,true,false,[],[]⟩
def cD:Cla:=⟨[68],U1,[],false,true,false,[],[]⟩
def R7:List Cla:=[cA,cB,cI,cD]
end Go.Hm
namespace Go.Proofs.YtjdiakhipmggjaaGreatDoor
open Go.Emb Go.RowKit Go.Kd Go.Hm
variable {w w' : World} {K : Value → World → Prop} {σ σ' : Q6} {ds : List Value} {room : Int} {cs : List Cel} {l : List Cla} {hp tv : Value}
set_option maxRecDepth 100000 in
theorem Q2T:Sa D6 R7=none:=by decide+kernel
set_option maxHeartbeats 1000000 in
theorem Q4K (Y:X2 w σ) (h: ∀v w' σ',Stp w σ w' σ'→Sl 8 V0 σ' v R7→K v w'):Q1 P F.aD [] w K:=Fl (by
 unfold Vv
 refine W3 (cells:= #[S Q8d.op,I 1,S []]) (by kernel_rfl) ?_
 refine W3 (cells:= #[S Q0p.op,I 0,S []]) (by kernel_rfl) ?_
 refine T4 (R:=Qi) (sz:=3) Y [.agg #[S Q8d.op,I 1,S []], .agg #[S Q0p.op,I 0,S []]] [Q8d,Q0p] rfl rfl (by simp;exact ⟨rfl,rfl⟩) rfl ⟨⟨rfl,by decide,by decide,by decide⟩,⟨rfl,by decide,by decide,by decide⟩,trivial⟩ fun v1 w1 σ1 u f=>?_
 refine W3 (cells:= #[S fX.name,S fX.kind, .bool false]) (by kernel_rfl) ?_
 refine W3 (cells:= #[S Q1P.name,S Q1P.kind, .bool false]) (by kernel_rfl) ?_
 refine T4 (R:=R9) (sz:=3) u.sat [.agg #[S fX.name,S fX.kind, .bool false], .agg #[S Q1P.name,S Q1P.kind, .bool false]] [fX,Q1P] rfl rfl (by simp;exact ⟨rfl,rfl⟩) rfl ⟨⟨rfl,by decide,by decide⟩,⟨rfl,by decide,by decide⟩,trivial⟩ fun v2 w2 σ2 g c=>?_
 refine T4 (R:=U9) (sz:=1) g.sat [S P9,S kA] [P9,kA] rfl rfl (by simp;exact ⟨rfl,rfl⟩) rfl ⟨⟨rfl,by decide⟩,⟨rfl,by decide⟩,trivial⟩ fun v3 w3 σ3 e p=>?_
 have m:=f;have k:=c;have r:=p
 obtain ⟨D,Q,rfl,_⟩:=m
 obtain ⟨N,L,rfl,_⟩:=k
 obtain ⟨C,O,rfl,_⟩:=r
 have f:=(f.up g).up e
 have c:=c.up e
 refine W3 (cells:= #[S mF.name, .slice C 2 O,S P9, .bool false,I 3, .slice D 2 Q, .slice none 0 0]) (by kernel_rfl) ?_
 refine W3 (cells:= #[S Q0p.op,I 0,S []]) (by kernel_rfl) ?_
 refine T4 (R:=Qi) (sz:=3) e.sat [.agg #[S Q0p.op,I 0,S []]] [Q0p] rfl rfl (by simp;rfl) rfl ⟨⟨rfl,by decide,by decide,by decide⟩,trivial⟩ fun v4 w4 σ4 b z=>?_
 have o:=z
 obtain ⟨W,H,rfl,_⟩:=o
 refine W3 (cells:= #[S mG.name, .slice none 0 0,S [], .bool false,I 1, .slice W 1 H, .slice none 0 0]) (by kernel_rfl) ?_
 refine T4 (R:=E5) (sz:=7) b.sat [.agg #[S mF.name, .slice C 2 O,S P9, .bool false,I 3, .slice D 2 Q, .slice none 0 0], .agg #[S mG.name, .slice none 0 0,S [], .bool false,I 1, .slice W 1 H, .slice none 0 0]] [mF,mG] rfl rfl (by simp;exact ⟨rfl,rfl⟩) rfl
  ⟨⟨_,_,_,rfl,p.up b,f.up b,Sl.nil,by decide,by decide,by decide⟩,⟨_,_,_,rfl,Sl.nil,z,Sl.nil,by decide,by decide,by decide⟩,trivial⟩ fun v5 w5 σ5 i n=>?_
 have s:=n
 obtain ⟨V,E,rfl,_⟩:=s
 refine W3 (cells:= #[S kA,S U1, .slice none 0 0, .bool false, .bool false, .bool false, .slice N 2 L, .slice V 2 E]) (by kernel_rfl) ?_
 refine T4 (R:=U9) (sz:=1) i.sat [S [73]] [[73]] rfl rfl (by simp;rfl) rfl ⟨⟨rfl,by decide⟩,trivial⟩ fun v6 w6 σ6 d j=>?_
 have y:=j
 obtain ⟨J,X,rfl,_⟩:=y
 refine W3 (cells:= #[S fL.name,S fL.kind, .bool false]) (by kernel_rfl) ?_
 refine T4 (R:=R9) (sz:=3) d.sat [.agg #[S fL.name,S fL.kind, .bool false]] [fL] rfl rfl (by simp;rfl) rfl ⟨⟨rfl,by decide,by decide⟩,trivial⟩ fun v7 w7 Z a q=>?_
 have t:=q
 obtain ⟨M,U,rfl,_⟩:=t
 refine W3 (cells:= #[S cB.name,S kA, .slice J 1 X, .bool false, .bool false, .bool false, .slice M 1 U, .slice none 0 0]) (by kernel_rfl) ?_
 refine W3 (cells:= #[S cI.name,S U1, .slice none 0 0, .bool true, .bool true, .bool false, .slice none 0 0, .slice none 0 0]) (by kernel_rfl) ?_
 refine W3 (cells:= #[S cD.name,S U1, .slice none 0 0, .bool false, .bool true, .bool false, .slice none 0 0, .slice none 0 0]) (by kernel_rfl) ?_
 refine T4 (R:=V0) (sz:=8) a.sat [.agg #[S kA,S U1, .slice none 0 0, .bool false, .bool false, .bool false, .slice N 2 L, .slice V 2 E], .agg #[S cB.name,S kA, .slice J 1 X, .bool false, .bool false, .bool false, .slice M 1 U, .slice none 0 0], .agg #[S cI.name,S U1, .slice none 0 0, .bool true, .bool true, .bool false, .slice none 0 0, .slice none 0 0], .agg #[S cD.name,S U1, .slice none 0 0, .bool false, .bool true, .bool false, .slice none 0 0, .slice none 0 0]] R7 rfl rfl (by simp;exact ⟨rfl,rfl,rfl,rfl⟩) rfl
  ⟨⟨_,_,_,rfl,Sl.nil,(((c.up b).up i).up d).up a,(n.up d).up a,by decide,by decide⟩,⟨_,_,_,rfl,j.up a,q,Sl.nil,by decide,by decide⟩,⟨_,_,_,rfl,Sl.nil,Sl.nil,Sl.nil,by decide,by decide⟩,⟨_,_,_,rfl,Sl.nil,Sl.nil,Sl.nil,by decide,by decide⟩,trivial⟩ fun v8 w8 σ8 A B=>?_
 exact h _ _ _ ((((((((u.trans g).trans e).trans b).trans i).trans d).trans a)).trans A) B)
end Go.Proofs.YtjdiakhipmggjaaGreatDoor

namespace Go.Emb
open Go.RowKit
end Go.Emb
namespace Go.Proofs.YtjdiakhipmggjaaGreatDoor
open Go.Emb Go.RowKit Go.Kd Go.Hm
variable {w : World} {K : Value → World → Prop} {σ : Q6} {l : List Cla}
end Go.Proofs.YtjdiakhipmggjaaGreatDoor

namespace Go.Proofs.YtjdiakhipmggjaaGreatDoor
open Go.Emb Go.RowKit Go.Kd Go.Hm
variable {w w' : World} {K : Value → World → Prop} {σ σ' : Q6} {ds : List Value} {room : Int} {cs : List Cel} {l : List Cla} {hp tv : Value}
theorem HeapIs.mono {B B':Nat} {D:Nat→Prop} (h:HeapIs B D σ w hp tv room cs) (hB:B'≤B):HeapIs B' D σ w hp tv room cs:=by
 obtain ⟨b,j,E,f,d,m,⟨vs,g,c,n,hD⟩,hE,a⟩:=h.ex
 exact ⟨b,j,E,f,Nat.le_trans hB d,m,⟨vs,g.mono hB,⟨c.1,fun i k e=>(c.2 i k e).mono hB⟩,n,hD⟩,hE,a⟩
theorem X39 {a:Addr} {n:Int} (i:X2 w σ)
 (g:(n<0∨1048576<n)→K (.tuple #[.pointer none,I 90]) w)
 (j:0≤n→n≤1048576→ ∀b w' σ' D,Stp w σ w' σ'→HeapIs w.heap.size D σ' w' (.pointer (some ⟨b,0,none⟩)) (.pointer (some a)) n []→K (.tuple #[.pointer (some ⟨b,0,none⟩),I 0]) w'):Q1 P F.cM [.pointer (some a),I n] w K:=Q8I (by
 unfold Q3i
 refine Z2 ?_
 by_cases e:n<0
 ·rw[decide_eq_true e]
  (try simp only[O4,E2,S4,W5,W9,L2,M6,M5,H7,Bool.not_true,Bool.not_false])
  exact g (.inl e)
 rw[decide_eq_false e]
 (try simp only[O4,E2,S4,W5,W9,L2,M6,M5,H7,Bool.not_true,Bool.not_false])
 refine Iz ?_
 by_cases f:(1048576:Int)<n
 ·rw[decide_eq_true f]
  exact J7 (g (.inr f))
 rw[decide_eq_false f]
 refine J0 ?_
 refine W3 (cells:= #[.pointer (some a),I n,I 0, .slice none 0 0]) (by kernel_rfl) ?_
 refine Ex (cs:=[.pointer (some a),I n,I 0, .slice none 0 0]) i fun b w1 σ1 h d c=>?_
 exact j (by omega) (by omega) b w1 σ1 _ d ⟨b,_,_,rfl,h,c,RowsIs.nil,id,fun k=>Iff.rfl⟩)
theorem X1f:P.underlying T.aq=some (.int .u16):=by kernel_rfl
theorem X2y: ∀c∈R7,Qw c:=X2Z (by decide)
theorem Lr:Wf R7:=X3M Q2T
set_option maxHeartbeats 1000000 in
theorem Q7Z {r:Int} (hs:X2 w σ) (hg:Glb σ) (hr:0≤r)
 (h: ∀b a D ds w' σ',Stp w σ w' σ'→HeapIs w.heap.size D σ' w' (.pointer (some ⟨b,0,none⟩)) (.pointer (some a)) (r % 301) []→E3 σ' (Q4 R7,r % 301,[]) ds→Tab σ' (.pointer (some a)) (Q4 R7)→Ok (Q4 R7)→K (.tuple #[.pointer (some ⟨b,0,none⟩), .agg ds.toArray]) w'):Q1 P F.ak [.int .u16 r] w K:=Pd (by
 have hr0:=Int.emod_nonneg r (show (301:Int)≠0 by decide)
 have hr1:=Int.emod_lt_of_pos r (show (0:Int)<301 by decide)
 unfold Md
 refine M8 hs fun b3 w1 σ1 hb3 hk1 hm1=>?_
 refine Q4K hk1.sat fun v w2 σ2 hk2 hv2=>?_
 refine X3J hk2.sat (hg.lift ⟨(hk1.trans hk2).le⟩) hv2 (by decide) X2y (fun i e _ _ hn=>by rw[Q2T] at hn;cases hn) fun tv w3 σ3 _ hk3 ht ok _=>?_
 obtain ⟨a,_,_,_,rfl,_⟩:=ht.ex
 have hS3:=(hk1.trans hk2).trans hk3
 refine Z5 (vs:=[_,_,_]) rfl ?_
 refine Z5 (vs:=[_,_,_]) rfl ?_
 refine Z5 (vs:=[_,_,_]) rfl ?_
 refine Q4K hk3.sat fun v4 w4 σ4 hk4 hv4=>?_
 refine X25 hk4.sat hv4 (by decide) (fun i e _ _ hn=>by rw[Q2T] at hn;cases hn) fun lv w5 σ5 _ hk5 hlv ok5 _=>?_
 have hk35:=hk4.trans hk5
 have hS5:=hS3.trans hk35
 refine Z5 (vs:=[_,_,_]) rfl ?_
 refine Z5 (vs:=[_,_,_]) rfl ?_
 refine Z5 (vs:=[_,_,_]) rfl ?_
 refine Q0Q ⟨by decide,hr⟩ ?_
 rw[Sf X1f Q1N]
 have ew:IntKind.i64.wrap (r % 301)=r % 301:=F7 (n:=r % 301) (by omega) (by omega)
 rw[ew]
 simp only[decide_true,Bool.not_true,Bool.false_eq_true,reduceIte,↓M1,M1,Mb,reduceIte]
 refine X3e ?_
 simp only[decide_true,Bool.not_true,Bool.false_eq_true,reduceIte,↓M1,M1,Mb,reduceIte]
 refine X39 (n:=r % 301) hk5.sat (fun hx=>absurd hx (by omega)) fun _ _ b6 w6 σ6 D hk6 h6=>?_
 refine Z5 (vs:=[_,_]) rfl ?_
 refine Z5 (vs:=[_,_]) rfl ?_
 simp only[decide_true,Bool.not_true,↓M1,M1,Mb,reduceIte]
 refine W3 (cells:= #[lv,I (r % 301), .slice none 0 0]) (by obtain ⟨a5,c5,hle,_⟩:=id hlv;generalize (Q4 R7).length=n5 at hle;subst hle;kernel_rfl) ?_
 have hm6:=hm1.up ((hk2.trans hk3).trans (hk35.trans hk6))
 have hrh:E3 σ6 (Q4 R7,r % 301,[]) [lv,I (r % 301), .slice none 0 0]:=⟨_,_,rfl,hlv.up hk6,Sl.nil⟩
 refine My (ds:=[lv,I (r % 301), .slice none 0 0]) hm6 rfl rfl (by rw[List.all_toArray];exact List.all_eq_true.2 (Rep.one hrh)) fun w7 u7 hm7=>?_
 refine V2 hm7 rfl ?_
 have hS6:=hS5.trans hk6
 have hB3:=N0 hb3 (Stp.refl hs)
 have hS7:=u7.stp hS6 hB3 hm6.1
 have hb35:b3<w5.heap.size:=by
  have:=(hm1.up ((hk2.trans hk3).trans hk35)).lt
  exact this
 exact h b6 a D _ w7 σ6 hS7 ((h6.nx (Nxt.of_upd hk6.sat u7 hm6.1) fun k hk e=>by have:=(h6.mem hk).1;omega).mono hS5.bel.size) hrh (ht.lift ⟨(hk35.trans hk6).le⟩) ok)
theorem X40 {x:ActH} {ds:List Value} (f:X2 w σ) (d:Fs σ x ds) (h: ∀w',Below w.heap.size w w'→K (.bool (decide (x.s.length≤100)&&decide (x.v.s.length≤5000))) w'):Q1 P F.aE [.agg ds.toArray] w K:=Q0E (by
 have g:=d
 obtain ⟨rfl,k,m⟩:=d
 unfold Ee
 refine Y9 f fun q w1 σ1 a c=>?_
 refine W6 ?_
 refine ld (i:=1) a.sat c rfl ?_
 refine Cc (by kernel_rfl) ?_
 refine Q5m ?_
 cases e:decide ((x.s.length:Int)≤100) with
 | false=>
  have b:decide (x.s.length≤100)=false:=by rw[←e];congr 1;simp only[eq_iff_iff];omega
  rw[b] at h
  (try simp only[↓M1,M1,Mb,reduceIte])
  exact h _ a.bel
 | true=>
  have b:decide (x.s.length≤100)=true:=by rw[←e];congr 1;simp only[eq_iff_iff];omega
  rw[b] at h
  (try simp only[O4,E2,S4,W5,W9,L2,M6,M5,H7,Bool.not_true,Bool.not_false])
  (repeat refine Hd.h ?_)
  refine ld (i:=6) a.sat c rfl ?_
  (repeat refine Hd.h ?_)
  refine Cc (by kernel_rfl) ?_
  (repeat refine Hd.h ?_)
  refine Q5m ?_
  (repeat refine Hd.h ?_)
  have j:decide ((x.v.s.length:Int)≤5000)=decide (x.v.s.length≤5000):=by congr 1;simp only[eq_iff_iff];omega
  rw[j]
  exact h _ a.bel)
end Go.Proofs.YtjdiakhipmggjaaGreatDoor

namespace Go.Proofs.YtjdiakhipmggjaaGreatDoor
open Go.Emb Go.RowKit Go.Kd Go.Hm
variable {w w' : World} {K : Value → World → Prop} {σ σ' : Q6} {ds : List Value} {room : Int} {cs : List Cel} {l : List Cla} {hp tv : Value}
def zfK:X0:=[90,101,114,111,70,97,117,108,116]
def zf1:List Cel:=[⟨zfK,[⟨3,0,[],0⟩]⟩]
def zf2:List Cel:=zf1++[⟨P9++[91,93],List.replicate 3 ⟨1,0,[],0⟩⟩]
theorem X1g:P8 (Q4 R7) 10 [] zfK=(zf1,0):=by decide
theorem X18:T3 (Q4 R7) 10 zf1 P9 3=(zf2,0):=by decide
theorem Rr:W8 []=true:=by decide+kernel
theorem Q7G:GoodH W8 (Q4 R7) 10 zf2:=by
 have a:=GoodH.obj Lr Rr (GoodH.empty (ok:=W8) (l:=Q4 R7) (show (0:Int)≤10 by decide)) zfK
 rw[X1g] at a
 have b:=GoodH.arr Lr Rr a P9 3
 rw[X18] at b
 exact b
theorem X4x:P.underlying T.a5=some (.pointer T.p):=by kernel_rfl
theorem X11 (d:Nat) (o:Option Addr):(Op.equalIn (d+1) T.a5 (.pointer o) (.pointer none)).run P w= .ok o.isNone w:=by
 cases o<;>simp[Op.equalIn,run_underlying X4x]
theorem Q9n {a:Addr} {c b:Operand} (h:K (.bool false) w):Q3 P .eql T.a5 c b (.pointer (some a)) (.pointer none) w K:=by
 have e:(Op.equal T.a5 (.pointer (some a)) (.pointer none)).run P w= .ok false w:=X11 9999 _
 unfold Q3
 rw[X9 (v:= .bool false) (w':=w) (by simp[eqGuard,Go.binOp,e])]
 exact h
theorem X37 {a:Addr} {c b:Operand} (h:K (.bool true) w):Q3 P .neq T.r c b (.pointer (some a)) (.pointer none) w K:=by
 have e:(Op.equal T.r (.pointer (some a)) (.pointer none)).run P w= .ok false w:=Q5x 9999 _
 unfold Q3
 rw[X9 (v:= .bool true) (w':=w) (by simp[eqGuard,Go.binOp,e])]
 exact h
set_option maxHeartbeats 1000000 in
theorem Q7P (hs:X2 w σ) (Q:Glb σ) (h: ∀w' σ',Stp w σ w' σ'→K (.bool true) w'):Q1 P F.aj [] w K:=To (by
 unfold Nh
 refine Q7Z hs Q (by decide) fun b a D ds w1 σ1 g L p Z ok=>?_
 refine Z5 (vs:=[_,_]) rfl ?_
 refine Z5 (vs:=[_,_]) rfl ?_
 refine M8 g.sat fun b2 w2 σ2 s i r=>?_
 have Y:=N0 s g
 refine My r rfl (by obtain ⟨lv,cv,rfl,_⟩:=E3.out p;rfl) (by rw[List.all_toArray];exact List.all_eq_true.2 (Rep.one p)) fun w3 V W=>?_
 have O:=g.trans i
 have h2:=L.up i
 have d:Stp w1 σ1 w3 σ2:=V.stp i s r.1
 have R:=L.up d
 have q:=g.trans d
 rw[show (10 % 301:Int)=10 from rfl] at R
 refine Q9n ?_
 (try simp only[O4,E2,S4,W5,W9,L2,M6,M5,H7,Bool.not_true,Bool.not_false])
 have y:=Z.lift ⟨d.le⟩
 refine Q2E d.sat q.bel.size R y ok (k:=zfK) (by decide) (by decide) (by decide) fun w4 σ4 D4 H A aa=>?_
 simp only[X1g] at A
 have z:=y.lift H.le
 refine Z5 (vs:=[_,_]) rfl ?_
 refine Z5 (vs:=[_,_]) rfl ?_
 have B: ∀{k},D k→w.heap.size≤k:=fun v=>(L.mem v).1
 have t:=H.stp' q fun k v=>B v
 refine Q43 H.sat t.bel.size A z (e:=P9) (n:=3) (by decide) (by decide) (by decide) fun w5 σ5 D5 U M X=>?_
 simp only[X18] at M
 have C:=z.lift U.le
 have m:=U.stp' t fun k v=>(A.mem v).1
 refine Z5 (vs:=[_,_]) rfl ?_
 refine Z5 (vs:=[_,_]) rfl ?_
 obtain ⟨σf,N,o,u,_⟩:=M.freeze m.sat
 simp only[X1g,X18,show atM [] 0=0 from rfl,show atM zf1 0=1 from rfl,decide_true,↓M1,M1,Mb,reduceIte]
 refine Q7z N u Q7G.left (by decide) fun w6 J=>?_
 have f:=Stp.of_below N J
 simp only[show W7 10 zf2=4 from by decide,decide_true,↓M1,M1,Mb,reduceIte]
 have c:=u
 refine X2S f.sat c ?_
 simp only[show ((zf2.length:Nat):Int)=2 from by decide,decide_true,↓M1,M1,Mb,reduceIte]
 refine Q1J f.sat c ?_
 refine P2 ?_
 simp only[show O5 zf2 0=zfK from by decide,show decide (zfK=[90,101,114,111,70,97,117,108,116])=true from by decide,↓M1,M1,Mb,reduceIte]
 refine Q1x f.sat c ?_
 simp only[show Q0t zf2 1=3 from by decide,decide_true,↓M1,M1,Mb,reduceIte]
 have E:=(Q.lift ⟨m.le⟩).lift o
 refine X2n f.sat E c (C.lift o) ok Q7G.cells fun w7 σ7 j=>?_
 simp only[↓M1,M1,Mb,reduceIte]
 refine Q5H j.sat (c.lift ⟨j.le⟩) ?_
 refine X37 ?_
 (try simp only[↓M1,M1,Mb,reduceIte])
 exact h w7 σ5 (m.trans ((f.trans j).weak o.le)))
end Go.Proofs.YtjdiakhipmggjaaGreatDoor

namespace Go.Emb
open Go.RowKit Go.Hm
variable {P : Program} {w w0 w1 w' w'' : World} {K : Value → World → Prop} {σ σ0 σ1 σ' : Q6} {b n : Nat} {ds : List Value} {v V : Value}
structure VarT (b : Nat) (ds : List Value) (w w' : World) : Prop where
  kp : Kpt (fun j => j = b) w w'
  var : (b < w.heap.size → w'.heap[b]? = w.heap[b]?) ∨ ∃ e, w'.heap[b]? = some (.cells ds.toArray e (0, 0))
structure VarB (w0 : World) (σ0 : Q6) (w1 : World) (σ : Q6) (b n : Nat) (w' : World) : Prop where
  hst : Hst w0 σ0 w' σ
  kp : Kpt (fun j => j = b) w1 w'
  var : ∃ cs, cs.length = n ∧ Y3 σ w' b cs
theorem VarT.of_below (h:Below w.heap.size w w'):VarT b ds w w':=⟨.of_below h, .inl fun a=>h.block b a⟩
theorem VarT.of_upd (h:Upd w b w') (a:Y3 σ w' b ds):VarT b ds w w':=⟨.of_upd h rfl, .inr a.2⟩
theorem VarB.step (c:w0.heap.size≤b) (g:ds.length=n) (h:VarB w0 σ0 w1 σ b n w) (k:VarT b ds w w'):VarB w0 σ0 w1 σ b n w':=by
 obtain ⟨cs,d,a⟩:=h.var
 refine ⟨⟨h.hst.stp.kp k.kp fun j f=>by subst f;exact ⟨c,a.1⟩⟩,h.kp.trans k.kp,?_⟩
 rcases k.var with e | e
 ·exact ⟨cs,d,a.1,by rw[e a.lt];exact a.2⟩
 ·exact ⟨ds,g,a.1,e⟩
theorem Q5u {A:(World→World→Prop)→(World→Prop)→Prop} (ds:List Value) {cs:List Value} (a:Stp w0 σ0 w σ) (c:w0.heap.size≤b) (f:Y3 σ w b cs) (i:cs.length=n) (g:ds.length=n)
 (h:A (VarT b ds) (VarB w0 σ0 w σ b n)):dr w A:=
 Pa _ _ ⟨⟨a.trans (Stp.of_below a.sat (Below.refl _ _).drew)⟩, .of_below (Below.refl _ _).drew,cs,i,f⟩ (fun _ _ d e=>d.step c g e) h
theorem G9 (h:V=v):dk (VarT b ds) (fun v _=>V=v) w v w:=⟨.of_below (Below.refl _ _),h⟩
theorem Zo (a:Below w.heap.size w w') (h:V=v):dk (VarT b ds) (fun v _=>V=v) w v w':=⟨.of_below a,h⟩
theorem Uo {t:TypeId} {c:Nat} {z:Value} [tz:TZ P t n c z] {a:(List Value→Value→World→Prop)→Prop} {φ:Value→World→Prop} (g:ds.length=n) (r: ∀u∈ds,u.oneCell'=true) (j: ∀v w,φ v w→ .agg ds.toArray=v)
 (o:a (fun _ _ w=>Y3 σ w b ds)) (d:σ b=none):Cl (VarT b ds) (fun F=> ∀x w,VarB w0 σ0 w1 σ b n w→φ x w→Y0 P t (.pointer (some ⟨b,0,none⟩)) x w (dk (VarT b ds) (F [x]) w)) a:=by
 refine Q4g _ (fun xs v w w' h k=>?_) (fun x w i s=>?_) o
 ·rcases k.var with e | e
  ·exact ⟨d,by rw[e h.lt];exact h.2⟩
  ·exact ⟨d,e⟩
 ·have:=j x w s
  subst this
  obtain ⟨cs,m,q⟩:=i.var
  exact My q m g (by rw[List.all_toArray];exact List.all_eq_true.2 r) fun w' p f=>⟨.of_upd p f,f⟩
theorem Wb {c d:Bool} {V:Value} {a:World→(Value→World→Prop)→Prop} (h:c=d→a w (dk (VarT b ds) (fun v _=>V=v) w)):Q0 (.bool c) d w a (dk (VarT b ds) (fun v _=>(if c=d then V else undef)=v) w):=by
 by_cases e:c=d
 ·simp only[e,if_true]
  subst e
  have:=h rfl
  cases c
  ·rw[W9];exact this
  ·rw[W5];exact this
 ·simp only[e,if_false]
  cases c<;>cases d<;>first | exact absurd rfl e | (rw[S4];exact G9 rfl) | (rw[E2];exact G9 rfl)
theorem VarB.hs (h:VarB w0 σ0 w1 σ b n w):Hst w0 σ0 w σ:=h.hst
end Go.Emb
namespace Go.Proofs.YtjdiakhipmggjaaGreatDoor
open Go.Emb Go.RowKit Go.Kd Go.Hm
variable {w w' : World} {K : Value → World → Prop} {σ σ' : Q6} {ds : List Value} {room : Int} {cs : List Cel} {l : List Cla} {hp tv : Value}
theorem Q45 {c:Nat} {g h:World} {d:Q6} {x:List Cla×Int×List Cel} {e q:List Value} (o:Stp w σ g d) (hB:w.heap.size≤c) (p:Y3 d g c q) (u:Upd g c h) (f:Y3 d h c e):
 ∃a,Stp w σ h a∧Z6 a ⟨c,0,none⟩ e∧SLe d a∧ ∀k,k≠c→a k=d k:=by
 obtain ⟨a,j,m,r,i⟩:=f.keep (u.stp o hB p.1) hB
 exact ⟨a,j,m,⟨r⟩,i⟩
end Go.Proofs.YtjdiakhipmggjaaGreatDoor

namespace Go.Emb
open Go.RowKit Go.Hm
variable {P : Program} {w w0 w1 w' w'' : World} {K : Value → World → Prop} {σ σ0 σ1 σ' : Q6} {b n : Nat} {ds : List Value} {v V : Value}
theorem Z6.tail {q:Addr} {xs ys:List Value} (h:Z6 σ q (xs++ys)):Z6 σ (q.add xs.length) ys:=by
 obtain ⟨f,a,e,z,d,g⟩:=h
 cases xs with
 | nil=>exact ⟨by simp[Addr.add,f],a,e,z,by simpa [Addr.add] using d,fun i u c=>by simpa [Addr.add] using g i u c⟩
 | cons x xs=>
  refine ⟨by simp[Addr.add,f],a,e,z,by simpa [Addr.add] using d,fun i u c=>?_⟩
  have:=g ((x::xs).length+i) u (by rw[List.getElem?_append_right (by omega)];simpa using c)
  simpa [Addr.add,Nat.add_assoc] using this
theorem J9.down {α:Type} {R:Q6→α→List Value→Prop} {B sz:Nat} {e:TypeId} {v:Value} {xs:List α} (h:J9 B e sz R σ' w v xs) (y:SLe σ σ') (J: ∀x cs,R σ' x cs→R σ x cs):J9 B e sz R σ w v xs:=by
 obtain ⟨a,m,rfl,H,t,c,E⟩:=h
 have p: ∀k,σ' k=none→σ k=none:=fun k A=>by
  cases e:σ k with
  | none=>rfl
  | some o=>have:=y.le k o e;rw[A] at this;cases this
 refine ⟨a,m,rfl,H,t,fun b d=>⟨(c b d).1,(c b d).2.1,(c b d).2.2.1,p _ (c b d).2.2.2⟩,fun u=>?_⟩
 obtain ⟨g,j,f,rfl,s,r,C,q,z⟩:=E u
 exact ⟨g,j,f,rfl,s,p _ r,C,q,fun i x L=>J _ _ (z i x L)⟩
end Go.Emb
namespace Go.Proofs.YtjdiakhipmggjaaGreatDoor
open Go.Emb Go.RowKit Go.Kd Go.Hm
variable {w w' w0 w1 : World} {K : Value → World → Prop} {σ σ' σ0 : Q6} {ds : List Value} {room : Int} {cs cs' : List Cel} {l : List Cla} {hp tv : Value} {B b : Nat} {D : Nat → Prop} {V v : Value}
theorem X0T {ok:X0→Bool} {r i:Int} {v:Val}:H6 ok l (H6 ok l cs r i v).1 r i v=H6 ok l cs r i v:=by
 by_cases f:D9 cs r i=0
 case neg=>
  have e:H6 ok l cs r i v=(cs,D9 cs r i):=by unfold H6;rw[if_pos f]
  rw[e];exact e
 cases k:F2 ok l cs v (Xl l (Wj cs r).kind i.toNat) with
 | false=>
  have e:H6 ok l cs r i v=(cs,91):=by unfold H6;rw[if_neg (fun h=>h f),k];rfl
  rw[e];exact e
 | true=>
  have e:H6 ok l cs r i v=(F3 cs r i v,0):=by unfold H6;rw[if_neg (fun h=>h f),k];rfl
  rw[e]
  obtain ⟨j,m,rfl,rfl,c,y⟩:=Lm f
  have s:L9 cs (j:Int)=true:=M4.2 ⟨j,rfl,c⟩
  have a:F3 cs j m v=cs.set j ⟨cs[j].kind,cs[j].vals.set m v⟩:=by unfold F3;rw[W4 c,Int.toNat_natCast,Int.toNat_natCast]
  have t:(F3 cs j m v).length=cs.length:=by rw[a];simp
  have d:j<(F3 cs j m v).length:=by rw[t];exact c
  have g:Wj (F3 cs j m v) j=⟨cs[j].kind,cs[j].vals.set m v⟩:=by
   rw[W4 d];simp only[a,List.getElem_set_self]
  have p:L9 (F3 cs j m v) (j:Int)=true:=M4.2 ⟨j,rfl,d⟩
  have q:D9 (F3 cs j m v) j m=0:=by
   unfold D9
   rw[p,g]
   simp only[if_true,List.length_set]
   rw[if_pos ⟨by omega,by omega⟩]
  have o:F2 ok l (F3 cs j m v) v (Xl l (Wj (F3 cs j m v) j).kind (m:Int).toNat)=true:=by
   rw[g]
   rw[W4 c] at k
   exact Rc (fun _ _=>Q3t s) k
  have u:F3 (F3 cs j m v) j m v=F3 cs j m v:=by
   unfold F3 at g⊢
   rw[g]
   simp only[Int.toNat_natCast,List.set_set]
   rw[W4 c]
  unfold H6
  rw[if_neg (fun h=>h q),o,u];rfl
theorem RowsIs.down {c:Value} (h:RowsIs B D σ' w c cs) (d:SLe σ σ'):RowsIs B D σ w c cs:=by
 obtain ⟨vs,j,a,g,hD⟩:=h.ex
 exact ⟨vs,j.down d fun _ _ h=>h,⟨a.1,fun i e f=>(a.2 i e f).down d fun _ _ h=>h⟩,g,hD⟩
theorem HeapIs.down (h:HeapIs B D σ' w hp tv room cs) (c:SLe σ σ'):HeapIs B D σ w hp tv room cs:=by
 obtain ⟨b,f,E,rfl,hB,a,d,hE,hD⟩:=h.ex
 refine ⟨b,f,E,rfl,hB,⟨?_,a.2⟩,d.down c,hE,hD⟩
 cases e:σ b with
 | none=>rfl
 | some o=>have:=c.le b o e;rw[a.1] at this;cases this
structure SetT (B : Nat) (D : Nat → Prop) (σ : Q6) (hp tv : Value) (room : Int) (cs' : List Cel) (b : Nat) (ds : List Value) (w w' : World) : Prop where
  kp : Kpt (fun j => j = b ∨ D j) w w'
  var : (b < w.heap.size → w'.heap[b]? = w.heap[b]?) ∨ ∃ e, w'.heap[b]? = some (.cells ds.toArray e (0, 0))
  hp : (∀ j, D j → j < w.heap.size → w'.heap[j]? = w.heap[j]?) ∨ HeapIs B D σ w' hp tv room cs'
structure SetB (B : Nat) (D : Nat → Prop) (hp tv : Value) (room : Int) (cs cs' : List Cel) (w0 : World) (σ0 : Q6) (w1 : World) (σ : Q6) (b n : Nat) (w' : World) : Prop where
  hst : Hst w0 σ0 w' σ
  kp : Kpt (fun j => j = b ∨ D j) w1 w'
  var : ∃ zs, zs.length = n ∧ Y3 σ w' b zs
  hp : HeapIs B D σ w' hp tv room cs ∨ HeapIs B D σ w' hp tv room cs'
theorem SetB.hs {n:Nat} (h:SetB B D hp tv room cs cs' w0 σ0 w1 σ b n w):Hst w0 σ0 w σ:=h.hst
theorem SetT.of_below (h:Below w.heap.size w w'):SetT B D σ hp tv room cs' b ds w w':=⟨.of_below h, .inl fun a=>h.block b a, .inl fun j _ c=>h.block j c⟩
theorem HeapIs.same (h:HeapIs B D σ w hp tv room cs) (k:Kpt (fun j=>j=b∨D j) w w') (c:X2 w' σ) (d: ¬D b) (g: ∀j,D j→j<w.heap.size→w'.heap[j]? =w.heap[j]?):HeapIs B D σ w' hp tv room cs:=
 h.nx (F:=fun j=>j=b) ⟨⟨k.os,k.tape,k.output,k.size,fun j a f=>by
  by_cases e:D j
  ·exact g j e a
  ·exact k.block j a fun h=>h.elim f e⟩,SLe.refl _,fun _ _=>rfl,c⟩ fun j a e=>d (e▸a)
theorem SetB.step {n:Nat} (g:w0.heap.size≤b) (hB:w0.heap.size≤B) (f: ¬D b) (o:ds.length=n) (h:SetB B D hp tv room cs cs' w0 σ0 w1 σ b n w) (k:SetT B D σ hp tv room cs' b ds w w'):SetB B D hp tv room cs cs' w0 σ0 w1 σ b n w':=by
 obtain ⟨m,i,c⟩:=h.var
 have d: ∀j,D j→w0.heap.size≤j∧σ j=none:=fun j hj=>by
  rcases h.hp with h | h
  ·exact ⟨Nat.le_trans hB (h.mem hj).1,(h.mem hj).2.2⟩
  ·exact ⟨Nat.le_trans hB (h.mem hj).1,(h.mem hj).2.2⟩
 have a:Stp w0 σ0 w' σ:=h.hst.stp.kp k.kp fun j hj=>by
  rcases hj with rfl | hj
  ·exact ⟨g,c.1⟩
  ·exact d j hj
 refine ⟨⟨a⟩,h.kp.trans k.kp,?_,?_⟩
 ·rcases k.var with e | e
  ·exact ⟨m,i,c.1,by rw[e c.lt];exact c.2⟩
  ·exact ⟨ds,o,c.1,e⟩
 ·rcases k.hp with e | e
  ·rcases h.hp with h3 | h3
   ·exact .inl (h3.same k.kp a.sat f e)
   ·exact .inr (h3.same k.kp a.sat f e)
  ·exact .inr e
theorem X3F {n:Nat} {A:(World→World→Prop)→(World→Prop)→Prop} (cs':List Cel) (ds:List Value) {c:List Value} (a:Stp w0 σ0 w σ) (e:w0.heap.size≤b) (hB:w0.heap.size≤B) (d: ¬D b) (i:Y3 σ w b c) (k:c.length=n) (j:ds.length=n) (hh:HeapIs B D σ w hp tv room cs)
 (h:A (SetT B D σ hp tv room cs' b ds) (SetB B D hp tv room cs cs' w0 σ0 w σ b n)):dr w A:=
 Pa _ _ ⟨⟨a.trans (Stp.of_below a.sat (Below.refl _ _).drew)⟩, .of_below (Below.refl _ _).drew,⟨c,k,i⟩, .inl (hh.up (Stp.of_below a.sat (Below.refl _ _).drew))⟩ (fun _ _ f g=>f.step e hB d j g) h
theorem Q5v (h:V=v):dk (SetT B D σ hp tv room cs' b ds) (fun v _=>V=v) w v w:=⟨.of_below (Below.refl _ _),h⟩
theorem X1O (a:Below w.heap.size w w') (h:V=v):dk (SetT B D σ hp tv room cs' b ds) (fun v _=>V=v) w v w':=⟨.of_below a,h⟩
theorem X19 {n:Nat} {t:TypeId} {c:Nat} {z:Value} [tz:TZ P t n c z] {a:(List Value→Value→World→Prop)→Prop} {φ:Value→World→Prop} (m:ds.length=n) (C: ∀u∈ds,u.oneCell'=true) (r: ∀v w,φ v w→ .agg ds.toArray=v)
 (s:a (fun _ _ w=>Y3 σ w b ds)) (f:σ b=none) (d: ¬D b):Cl (SetT B D σ hp tv room cs' b ds) (fun G=> ∀x w,SetB B D hp tv room cs cs' w0 σ0 w1 σ b n w→φ x w→Y0 P t (.pointer (some ⟨b,0,none⟩)) x w (dk (SetT B D σ hp tv room cs' b ds) (G [x]) w)) a:=by
 refine Q4g _ (fun xs v w w' h k=>?_) (fun x w o E=>?_) s
 ·rcases k.var with e | e
  ·exact ⟨f,by rw[e h.lt];exact h.2⟩
  ·exact ⟨f,e⟩
 ·have:=r x w E
  subst this
  obtain ⟨H,q,A⟩:=o.var
  exact My A q m (by rw[List.all_toArray];exact List.all_eq_true.2 C) fun w' g i=>⟨⟨.of_upd g (.inl rfl), .inr i.2, .inl fun j y p=>g.block j fun e=>d (e▸y)⟩,i⟩
theorem X28 {n:Nat} {x:Val} {r i:Int} {a:(Value→World→Prop)→Prop} {L R O:Value→World→Prop} (Q:Glb σ) (M:Tab σ tv l) (ok:Ok l) (u: ∀c∈cs,GoodC W8 l cs c) (g: ∀c∈(H6 W8 l cs r i x).1,GoodC W8 l (H6 W8 l cs r i x).1 c) (J:O9 σ x [I x.sort,I x.n,S x.s,I x.ref]) (t: ¬D b) (hσ:σ b=none)
 (h1: ∀v w,L v w→I r=v) (U: ∀v w,R v w→I i=v) (h3: ∀v w,O v w→Value.agg [I x.sort,I x.n,S x.s,I x.ref].toArray=v)
 (W:a (fun v w=>I (H6 W8 l cs r i x).2=v∧X2 w σ∧HeapIs B D σ w hp tv room (H6 W8 l cs r i x).1)):
 Q5 (SetT B D σ hp tv room (H6 W8 l cs r i x).1 b ds) (fun G=> ∀E H C w,SetB B D hp tv room cs (H6 W8 l cs r i x).1 w0 σ0 w1 σ b n w→L E w→R H w→O C w→Q1 P F.b5 [hp,E,H,C] w (dk (SetT B D σ hp tv room (H6 W8 l cs r i x).1 b ds) G w)) a:=by
 refine E8 _ (fun v w w' h k=>?_) (fun E H C w A Z e2 X=>?_) W
 ·obtain ⟨e,hs,h4⟩:=h
  have m:X2 w' σ:=Kpt.sat hs k.kp fun j q=>q.elim (fun e=>e▸hσ) fun q=>(h4.mem q).2.2
  rcases k.hp with e2 | e2
  ·exact ⟨e,m,h4.same k.kp m t e2⟩
  ·exact ⟨e,m,e2⟩
 ·have:=h1 _ _ Z
  have:=U _ _ e2
  have:=h3 _ _ X
  subst_vars
  have p: ∀{d y},Nxt D w σ d y→HeapIs B D y d hp tv room (H6 W8 l cs r i x).1→SetT B D σ hp tv room (H6 W8 l cs r i x).1 b ds w d∧I (H6 W8 l cs r i x).2=I (H6 W8 l cs r i x).2∧X2 d σ∧HeapIs B D σ d hp tv room (H6 W8 l cs r i x).1:=fun {d y} N h4=>by
   have f:=h4.down N.le
   have z:b<w.heap.size:=by obtain ⟨zs,_,hm⟩:=A.var;exact hm.lt
   exact ⟨⟨N.kp.mono fun _ _ q=> .inr q, .inl fun _=>N.kp.block b z t, .inr f⟩,rfl,fun k o e=>N.sat k o (N.le.le k o e),f⟩
  rcases A.hp with h4 | h4
  ·exact X1M A.hst.sat Q h4 M ok u J fun d y N f=>p N f
  ·have Y:=X0T (ok:=W8) (l:=l) (cs:=cs) (r:=r) (i:=i) (v:=x)
   refine X1M A.hst.sat Q h4 M ok g J fun d y N f=>?_
   rw[Y] at f⊢
   exact p N f
end Go.Proofs.YtjdiakhipmggjaaGreatDoor

namespace Go.Proofs.YtjdiakhipmggjaaGreatDoor
open Go.Emb Go.RowKit Go.Kd Go.Hm
variable {w w' : World} {K : Value → World → Prop} {σ σ' : Q6} {ds : List Value} {room : Int} {cs : List Cel} {l : List Cla} {hp tv : Value}
theorem Vz {B d:Nat} {D i:Nat→Prop} {m c:World} {b:Q6} {g h:List Cel} {a:List Value} {G:Bool→Prop} {f:Bool} (hG:G f) (N:Nxt D w σ m b) (A:HeapIs B i b m hp tv room g) (n: ∀j,i j→D j∨w.heap.size≤j) (q: ¬i d) (v:w.heap.size≤d)
 (z:Kpt (fun j=>j=d) m c) (p:X2 c b) (y:Y3 b c d a) (o:a.length=3) (t:E3 b (Q4 l,room,h) a)
 (hh: ∀a f w' σ' D',G f→Nxt D w σ w' σ'→HeapIs B D' σ' w' hp tv room g→(∀j,D' j→D j∨w.heap.size≤j)→E3 σ' (Q4 l,room,h) a→K (.tuple #[.agg a.toArray, .bool f]) w'):
 Y8 P T.a (.pointer (some ⟨d,0,none⟩)) c fun s=>K (.tuple #[s, .bool f]) c:=by
 refine V2 y o ?_
 have r:Nxt (fun j=>j=d) m b c b:=⟨z,SLe.refl _,fun _ _=>rfl,p⟩
 exact hh a f c b i hG (N.chain r fun j C e=>by omega) (A.nx r fun k u e=>q (e▸u)) n t
set_option maxHeartbeats 2000000 in
theorem X4C {B:Nat} {D:Nat→Prop} {x:ActH} {xs:List Value} {cr:List Cel} (hs:X2 w σ) (hg:Glb σ) (hB:B≤w.heap.size) (h:HeapIs B D σ w hp tv room cs) (hr:E3 σ (Q4 l,room,cr) ds) (ht:Tab σ tv (Q4 l)) (wf:Wf l) (ok:Ok (Q4 l)) (hlen:(Q4 l).length≤1000)
 (good:GoodH W8 (Q4 l) room cs) (goodr:GoodH W8 (Q4 l) room cr) (h1:room≤1048576) (hx:Fs σ x xs) (hD0: ∀k,D k→B≤k)
 (hh: ∀ds' bb w' σ' D',(cr=cs→bb=true)→Nxt D w σ w' σ'→HeapIs B D' σ' w' hp tv room (B2 W8 (Q4 l) room cs x)→(∀j,D' j→D j∨w.heap.size≤j)→E3 σ' (Q4 l,room,B2 W8 (Q4 l) room cr x) ds'→K (.tuple #[.agg ds'.toArray, .bool bb]) w'):Q1 P F.al [hp, .agg ds.toArray, .agg xs.toArray] w K:=Q23 (by
 have hx0:=hx
 have hr0:=hr
 obtain ⟨lv,cv,rfl,hl,hc⟩:=E3.out hr
 obtain ⟨rfl,⟨b1,b2,b3,b4⟩,hv⟩:=hx
 have hcl:=Qt cs
 have hlf:=good.left
 unfold W7 at hlf
 have hclr:=Qt cr
 have hlr:=goodr.left
 unfold W7 at hlr
 unfold Hu
 refine Y9 hs fun q4 w1 σ1 hk1 hq4=>?_
 refine Y9 hk1.sat fun q5 w2 σ2 hk2 hq5=>?_
 have hS2:=hk1.trans hk2
 refine M8 hk2.sat fun b6 w3 σ3 hb6 hk3 hm6=>?_
 have hS3:=hS2.trans hk3
 have hB6:=N0 hb6 hS2
 have hq43:=(hq4.up hk2).up hk3
 have hq53:=hq5.up hk3
 have h3:=h.up hS3
 have hr3:=L8 hr0 ⟨hS3.le⟩
 have ht3:=ht.lift ⟨hS3.le⟩
 have hg3:=hg.lift ⟨hS3.le⟩
 refine W6 ?_
 refine ld (i:=0) hk3.sat hq53 rfl ?_
 refine I2 ?_
 have hDl: ∀k,D k→k<w.heap.size:=fun k hk=>(h.mem hk).2.1
 have htk:Z7 cs≤1048576:=by omega
 have htr:Z7 cr≤1048576:=by omega
 by_cases e0:x.kind=0
 ·rw[decide_eq_true e0]
  have ea:B2 W8 (Q4 l) room cs x=(P8 (Q4 l) room cs x.s).1:=by unfold B2;rw[if_pos e0]
  have er:B2 W8 (Q4 l) room cr x=(P8 (Q4 l) room cr x.s).1:=by unfold B2;rw[if_pos e0]
  rw[ea,er] at hh
  refine J7 ?_
  refine Y5 hk3.sat hq43 rfl ?_
  refine W6 ?_
  refine ld (i:=1) hk3.sat hq53 rfl ?_
  refine X0q hk3.sat hr3 ok hlen b2 goodr.left h1 fun ds' w4 σ4 hk4 hr4=>?_
  refine Z5 (vs:=[_,_]) rfl ?_
  refine Z5 (vs:=[_,_]) rfl ?_
  have hS4:=hS3.trans hk4
  refine M8 hk4.sat fun b8 w5 σ5 hb8 hk5 hm8=>?_
  have hS5:=hS4.trans hk5
  have hB8:=N0 hb8 hS4
  have hr5:=L8 hr4 ⟨hk5.le⟩
  obtain ⟨lv',cv',hde,_,_⟩:=E3.out hr4
  subst hde
  refine My (ds:=[lv',I room,cv']) hm8 rfl rfl (by rw[List.all_toArray];exact List.all_eq_true.2 (Rep.one hr5)) fun w6 u6 hm86=>?_
  obtain ⟨σ7,hS7,hq8,l57,o7⟩:=Q45 (x:=(Q4 l,room,(P8 (Q4 l) room cr x.s).1)) hS5 hB8 hm8 u6 hm86
  have l37:SLe σ3 σ7:=(SLe.more ⟨hk4.le⟩ ⟨hk5.le⟩).more l57
  have hb68:b6≠b8:=by have:=(hm6.up hk4).lt;omega
  have hm66:=((hm6.up hk4).up hk5).upd u6 hb68
  have hm67:Y3 σ7 w6 b6 _:=⟨(o7 b6 hb68).trans hm66.1,hm66.2⟩
  have hq57:=hq53.lift l37
  have hq47:=hq43.lift l37
  refine W6 ?_
  refine ld (i:=1) hS7.sat hq57 rfl ?_
  refine Q2E hS7.sat (Nat.le_trans hB hS7.bel.size) (h.up hS7) (ht.lift ⟨hS7.le⟩) ok b2 good.left h1 fun w8 σ8 D8 N8 h8 hD8=>?_
  refine Z5 (vs:=[_,_]) rfl ?_
  refine Z5 (vs:=[_,_]) rfl ?_
  have N:=(Nxt.of_stp (D:=D) hS7).chain N8 fun k _ e=>e
  have hm68:=hm67.nx N8 fun e=>by have:=hDl _ e;omega
  have hne8: ¬D8 b6:=fun e=>by
   have:=hm67.lt
   rcases hD8 _ e with e | e
   ·have:=hDl _ e;omega
   ·omega
  have hD8': ∀j,D8 j→D j∨w.heap.size≤j:=fun j hj=>(hD8 j hj).imp id fun e=>Nat.le_trans hS7.bel.size e
  have hq48:=hq47.lift N8.le
  have hq88:=hq8.lift N8.le
  have hc8:Sl 2 S1 σ8 cv cr:=hc.lift N.le
  have hr8:=L8 hr5 (l57.more N8.le)
  have hsame:cr=cs→(P8 (Q4 l) room cr x.s).2=(P8 (Q4 l) room cs x.s).2:=fun h=>by rw[h]
  generalize (P8 (Q4 l) room cs x.s).2=e at*
  generalize (P8 (Q4 l) room cr x.s).2=f at*
  refine Q5u (w0:=Td w8) (σ0:=fun _=>none) (n:=3) [lv',I room,cv'] (Zb N8.sat) (Nat.zero_le _) hm68 rfl rfl ?_
  unfold atM
  by_cases hfe:f=e
  case neg=>
   have hz0:decide (f=e)=false:=decide_eq_false hfe
   (repeat (apply Z8;(· intros;(have hzz:=VarB.hs (by assumption));(repeat (rename_i hx;subst hx));(try simp only[hz0,decide_true,Bool.not_true,Bool.not_false,Bool.false_eq_true,Bool.true_eq_false,reduceIte,↓M2,M2,Mb,reduceIte]);(repeat' (first | (with_reducible exact G9 rfl) | (with_reducible exact Zo (Stp.bel (by (repeat (first | exact Stp.refl (by (first | assumption | exact Stp.sat (by assumption) | exact Hst.sat (by assumption))) | assumption | refine Stp.trans ?_ (by first | assumption | exact Hst.stp (by assumption)))))) rfl) | (with_reducible intro _) | (simp only[↓M2,M2,Mb,reduceIte]) | (with_reducible show Q2 _ _ _ _ _;first | refine X7 aS aL aR ?_ | refine Y5 aS aL aR ?_ | refine ld aS aL aR ?_) | (with_reducible show indexAddr _ _ _ _ _ _;refine Y2 aL au ?_) | (with_reducible show X3 _ _ _ _ _ _ _ _;refine Q8 aL ?_) | (with_reducible show F5 _ _ _ _ _ _;refine J4 aR ?_) | (with_reducible show pick _ _ _ _ _ _;refine M3 ?_) | (apply Wb;intro hh;(try simp only[hh,reduceIte,↓M2,M2,Mb,reduceIte]))));done)))
   refine Uo (φ:=fun v _=>Value.agg [lv',I room,cv'].toArray=v) rfl (Rep.one hr5) (fun v w h=>h) ?_ hm68.1
   intros
   rename_i hm9
   (repeat (rename_i hx;subst hx))
   rename_i w9 hb9
   exact Vz (G:=fun b=>cr=cs→b=true) (fun h=>absurd (hsame h) hfe) N h8 hD8' hne8 hB6 hb9.kp hb9.hst.sat hm9 rfl hr8 hh
  subst hfe
  by_cases e1:f=0
  ·subst e1
   simp only[reduceIte]
   have hz0:decide True=true:=decide_true _
   (repeat (apply Z8;(· intros;(have hzz:=VarB.hs (by assumption));(repeat (rename_i hx;subst hx));(try simp only[hz0,decide_true,Bool.not_true,Bool.not_false,Bool.false_eq_true,Bool.true_eq_false,reduceIte,↓M2,M2,Mb,reduceIte]);(repeat' (first | (with_reducible exact G9 rfl) | (with_reducible exact Zo (Stp.bel (by (repeat (first | exact Stp.refl (by (first | assumption | exact Stp.sat (by assumption) | exact Hst.sat (by assumption))) | assumption | refine Stp.trans ?_ (by first | assumption | exact Hst.stp (by assumption)))))) rfl) | (with_reducible intro _) | (simp only[↓M2,M2,Mb,reduceIte]) | (with_reducible show Q2 _ _ _ _ _;first | refine X7 aS aL aR ?_ | refine Y5 aS aL aR ?_ | refine ld aS aL aR ?_) | (with_reducible show indexAddr _ _ _ _ _ _;refine Y2 aL au ?_) | (with_reducible show X3 _ _ _ _ _ _ _ _;refine Q8 aL ?_) | (with_reducible show F5 _ _ _ _ _ _;refine J4 aR ?_) | (with_reducible show pick _ _ _ _ _ _;refine M3 ?_) | (apply Wb;intro hh;(try simp only[hh,reduceIte,↓M2,M2,Mb,reduceIte]))));done)))
   refine Uo (φ:=fun v _=>Value.agg [lv',I room,cv'].toArray=v) rfl (Rep.one hr5) (fun v w h=>h) ?_ hm68.1
   intros
   rename_i hm9
   (repeat (rename_i hx;subst hx))
   rename_i w9 hb9
   exact Vz (G:=fun b=>cr=cs→b=true) (fun h=>by rw[h];exact decide_eq_true rfl) N h8 hD8' hne8 hB6 hb9.kp hb9.hst.sat hm9 rfl hr8 hh
  ·simp only[if_neg e1]
   have hz0:decide (f=0)=false:=decide_eq_false e1
   (repeat (apply Z8;(· intros;(have hzz:=VarB.hs (by assumption));(repeat (rename_i hx;subst hx));(try simp only[hz0,decide_true,Bool.not_true,Bool.not_false,Bool.false_eq_true,Bool.true_eq_false,reduceIte,↓M2,M2,Mb,reduceIte]);(repeat' (first | (with_reducible exact G9 rfl) | (with_reducible exact Zo (Stp.bel (by (repeat (first | exact Stp.refl (by (first | assumption | exact Stp.sat (by assumption) | exact Hst.sat (by assumption))) | assumption | refine Stp.trans ?_ (by first | assumption | exact Hst.stp (by assumption)))))) rfl) | (with_reducible intro _) | (simp only[↓M2,M2,Mb,reduceIte]) | (with_reducible show Q2 _ _ _ _ _;first | refine X7 aS aL aR ?_ | refine Y5 aS aL aR ?_ | refine ld aS aL aR ?_) | (with_reducible show indexAddr _ _ _ _ _ _;refine Y2 aL au ?_) | (with_reducible show X3 _ _ _ _ _ _ _ _;refine Q8 aL ?_) | (with_reducible show F5 _ _ _ _ _ _;refine J4 aR ?_) | (with_reducible show pick _ _ _ _ _ _;refine M3 ?_) | (apply Wb;intro hh;(try simp only[hh,reduceIte,↓M2,M2,Mb,reduceIte]))));done)))
   refine Uo (φ:=fun v _=>Value.agg [lv',I room,cv'].toArray=v) rfl (Rep.one hr5) (fun v w h=>h) ?_ hm68.1
   intros
   rename_i hm9
   (repeat (rename_i hx;subst hx))
   rename_i w9 hb9
   exact Vz (G:=fun b=>cr=cs→b=true) (fun _=>rfl) N h8 hD8' hne8 hB6 hb9.kp hb9.hst.sat hm9 rfl hr8 hh
 rw[decide_eq_false e0]
 refine J0 ?_
 refine I2 ?_
 by_cases e1k:x.kind=1
 ·rw[decide_eq_true e1k]
  have ea:B2 W8 (Q4 l) room cs x=(T3 (Q4 l) room cs x.s x.n).1:=by unfold B2;rw[if_neg e0,if_pos e1k]
  have er:B2 W8 (Q4 l) room cr x=(T3 (Q4 l) room cr x.s x.n).1:=by unfold B2;rw[if_neg e0,if_pos e1k]
  rw[ea,er] at hh
  refine J7 ?_
  refine Y5 hk3.sat hq43 rfl ?_
  refine W6 ?_
  refine ld (i:=1) hk3.sat hq53 rfl ?_
  refine W6 ?_
  refine ld (i:=2) hk3.sat hq53 rfl ?_
  refine X2x hk3.sat hr3 b2 goodr.left h1 fun ds' w4 σ4 hk4 hr4=>?_
  refine Z5 (vs:=[_,_]) rfl ?_
  refine Z5 (vs:=[_,_]) rfl ?_
  have hS4:=hS3.trans hk4
  refine M8 hk4.sat fun b8 w5 σ5 hb8 hk5 hm8=>?_
  have hS5:=hS4.trans hk5
  have hB8:=N0 hb8 hS4
  have hr5:=L8 hr4 ⟨hk5.le⟩
  obtain ⟨lv',cv',hde,_,_⟩:=E3.out hr4
  subst hde
  refine My (ds:=[lv',I room,cv']) hm8 rfl rfl (by rw[List.all_toArray];exact List.all_eq_true.2 (Rep.one hr5)) fun w6 u6 hm86=>?_
  obtain ⟨σ7,hS7,hq8,l57,o7⟩:=Q45 (x:=(Q4 l,room,(T3 (Q4 l) room cr x.s x.n).1)) hS5 hB8 hm8 u6 hm86
  have l37:SLe σ3 σ7:=(SLe.more ⟨hk4.le⟩ ⟨hk5.le⟩).more l57
  have hb68:b6≠b8:=by have:=(hm6.up hk4).lt;omega
  have hm66:=((hm6.up hk4).up hk5).upd u6 hb68
  have hm67:Y3 σ7 w6 b6 _:=⟨(o7 b6 hb68).trans hm66.1,hm66.2⟩
  have hq57:=hq53.lift l37
  have hq47:=hq43.lift l37
  refine W6 ?_
  refine ld (i:=1) hS7.sat hq57 rfl ?_
  refine W6 ?_
  refine ld (i:=2) hS7.sat hq57 rfl ?_
  refine Q43 hS7.sat (Nat.le_trans hB hS7.bel.size) (h.up hS7) (ht.lift ⟨hS7.le⟩) b2 good.left h1 fun w8 σ8 D8 N8 h8 hD8=>?_
  refine Z5 (vs:=[_,_]) rfl ?_
  refine Z5 (vs:=[_,_]) rfl ?_
  have N:=(Nxt.of_stp (D:=D) hS7).chain N8 fun k _ e=>e
  have hm68:=hm67.nx N8 fun e=>by have:=hDl _ e;omega
  have hne8: ¬D8 b6:=fun e=>by
   have:=hm67.lt
   rcases hD8 _ e with e | e
   ·have:=hDl _ e;omega
   ·omega
  have hD8': ∀j,D8 j→D j∨w.heap.size≤j:=fun j hj=>(hD8 j hj).imp id fun e=>Nat.le_trans hS7.bel.size e
  have hq48:=hq47.lift N8.le
  have hq88:=hq8.lift N8.le
  have hc8:Sl 2 S1 σ8 cv cr:=hc.lift N.le
  have hr8:=L8 hr5 (l57.more N8.le)
  have hsame:cr=cs→(T3 (Q4 l) room cr x.s x.n).2=(T3 (Q4 l) room cs x.s x.n).2:=fun h=>by rw[h]
  generalize (T3 (Q4 l) room cs x.s x.n).2=e at*
  generalize (T3 (Q4 l) room cr x.s x.n).2=f at*
  refine Q5u (w0:=Td w8) (σ0:=fun _=>none) (n:=3) [lv',I room,cv'] (Zb N8.sat) (Nat.zero_le _) hm68 rfl rfl ?_
  unfold atM
  by_cases hfe:f=e
  case neg=>
   have hz0:decide (f=e)=false:=decide_eq_false hfe
   (repeat (apply Z8;(· intros;(have hzz:=VarB.hs (by assumption));(repeat (rename_i hx;subst hx));(try simp only[hz0,decide_true,Bool.not_true,Bool.not_false,Bool.false_eq_true,Bool.true_eq_false,reduceIte,↓M2,M2,Mb,reduceIte]);(repeat' (first | (with_reducible exact G9 rfl) | (with_reducible exact Zo (Stp.bel (by (repeat (first | exact Stp.refl (by (first | assumption | exact Stp.sat (by assumption) | exact Hst.sat (by assumption))) | assumption | refine Stp.trans ?_ (by first | assumption | exact Hst.stp (by assumption)))))) rfl) | (with_reducible intro _) | (simp only[↓M2,M2,Mb,reduceIte]) | (with_reducible show Q2 _ _ _ _ _;first | refine X7 aS aL aR ?_ | refine Y5 aS aL aR ?_ | refine ld aS aL aR ?_) | (with_reducible show indexAddr _ _ _ _ _ _;refine Y2 aL au ?_) | (with_reducible show X3 _ _ _ _ _ _ _ _;refine Q8 aL ?_) | (with_reducible show F5 _ _ _ _ _ _;refine J4 aR ?_) | (with_reducible show pick _ _ _ _ _ _;refine M3 ?_) | (apply Wb;intro hh;(try simp only[hh,reduceIte,↓M2,M2,Mb,reduceIte]))));done)))
   refine Uo (φ:=fun v _=>Value.agg [lv',I room,cv'].toArray=v) rfl (Rep.one hr5) (fun v w h=>h) ?_ hm68.1
   intros
   rename_i hm9
   (repeat (rename_i hx;subst hx))
   rename_i w9 hb9
   exact Vz (G:=fun b=>cr=cs→b=true) (fun h=>absurd (hsame h) hfe) N h8 hD8' hne8 hB6 hb9.kp hb9.hst.sat hm9 rfl hr8 hh
  subst hfe
  by_cases e1:f=0
  ·subst e1
   simp only[reduceIte]
   have hz0:decide True=true:=decide_true _
   (repeat (apply Z8;(· intros;(have hzz:=VarB.hs (by assumption));(repeat (rename_i hx;subst hx));(try simp only[hz0,decide_true,Bool.not_true,Bool.not_false,Bool.false_eq_true,Bool.true_eq_false,reduceIte,↓M2,M2,Mb,reduceIte]);(repeat' (first | (with_reducible exact G9 rfl) | (with_reducible exact Zo (Stp.bel (by (repeat (first | exact Stp.refl (by (first | assumption | exact Stp.sat (by assumption) | exact Hst.sat (by assumption))) | assumption | refine Stp.trans ?_ (by first | assumption | exact Hst.stp (by assumption)))))) rfl) | (with_reducible intro _) | (simp only[↓M2,M2,Mb,reduceIte]) | (with_reducible show Q2 _ _ _ _ _;first | refine X7 aS aL aR ?_ | refine Y5 aS aL aR ?_ | refine ld aS aL aR ?_) | (with_reducible show indexAddr _ _ _ _ _ _;refine Y2 aL au ?_) | (with_reducible show X3 _ _ _ _ _ _ _ _;refine Q8 aL ?_) | (with_reducible show F5 _ _ _ _ _ _;refine J4 aR ?_) | (with_reducible show pick _ _ _ _ _ _;refine M3 ?_) | (apply Wb;intro hh;(try simp only[hh,reduceIte,↓M2,M2,Mb,reduceIte]))));done)))
   refine Uo (φ:=fun v _=>Value.agg [lv',I room,cv'].toArray=v) rfl (Rep.one hr5) (fun v w h=>h) ?_ hm68.1
   intros
   rename_i hm9
   (repeat (rename_i hx;subst hx))
   rename_i w9 hb9
   exact Vz (G:=fun b=>cr=cs→b=true) (fun h=>by rw[h];exact decide_eq_true rfl) N h8 hD8' hne8 hB6 hb9.kp hb9.hst.sat hm9 rfl hr8 hh
  ·simp only[if_neg e1]
   have hz0:decide (f=0)=false:=decide_eq_false e1
   (repeat (apply Z8;(· intros;(have hzz:=VarB.hs (by assumption));(repeat (rename_i hx;subst hx));(try simp only[hz0,decide_true,Bool.not_true,Bool.not_false,Bool.false_eq_true,Bool.true_eq_false,reduceIte,↓M2,M2,Mb,reduceIte]);(repeat' (first | (with_reducible exact G9 rfl) | (with_reducible exact Zo (Stp.bel (by (repeat (first | exact Stp.refl (by (first | assumption | exact Stp.sat (by assumption) | exact Hst.sat (by assumption))) | assumption | refine Stp.trans ?_ (by first | assumption | exact Hst.stp (by assumption)))))) rfl) | (with_reducible intro _) | (simp only[↓M2,M2,Mb,reduceIte]) | (with_reducible show Q2 _ _ _ _ _;first | refine X7 aS aL aR ?_ | refine Y5 aS aL aR ?_ | refine ld aS aL aR ?_) | (with_reducible show indexAddr _ _ _ _ _ _;refine Y2 aL au ?_) | (with_reducible show X3 _ _ _ _ _ _ _ _;refine Q8 aL ?_) | (with_reducible show F5 _ _ _ _ _ _;refine J4 aR ?_) | (with_reducible show pick _ _ _ _ _ _;refine M3 ?_) | (apply Wb;intro hh;(try simp only[hh,reduceIte,↓M2,M2,Mb,reduceIte]))));done)))
   refine Uo (φ:=fun v _=>Value.agg [lv',I room,cv'].toArray=v) rfl (Rep.one hr5) (fun v w h=>h) ?_ hm68.1
   intros
   rename_i hm9
   (repeat (rename_i hx;subst hx))
   rename_i w9 hb9
   exact Vz (G:=fun b=>cr=cs→b=true) (fun _=>rfl) N h8 hD8' hne8 hB6 hb9.kp hb9.hst.sat hm9 rfl hr8 hh
 rw[decide_eq_false e1k]
 refine J0 ?_
 refine I2 ?_
 have hv43:Z6 σ3 (q5.add 4) [I x.v.sort,I x.v.n,S x.v.s,I x.v.ref]:=hq53.tail (xs:=[_,_,_,_])
 have hvr:O9 σ x.v [I x.v.sort,I x.v.n,S x.v.s,I x.v.ref]:=⟨rfl,hv⟩
 by_cases e2k:x.kind=2
 ·rw[decide_eq_true e2k]
  have ea:B2 W8 (Q4 l) room cs x=(H6 W8 (Q4 l) cs x.ref x.n x.v).1:=by unfold B2;rw[if_neg e0,if_neg e1k,if_pos e2k]
  have er:B2 W8 (Q4 l) room cr x=(H6 W8 (Q4 l) cr x.ref x.n x.v).1:=by unfold B2;rw[if_neg e0,if_neg e1k,if_pos e2k]
  rw[ea,er] at hh
  have good':=(GoodH.set good x.ref x.n x.v).cells
  refine J7 ?_
  refine Y5 hk3.sat hq43 rfl ?_
  refine W6 ?_
  refine ld (i:=3) hk3.sat hq53 rfl ?_
  refine W6 ?_
  refine ld (i:=2) hk3.sat hq53 rfl ?_
  refine W6 ?_
  refine Y5 hk3.sat hv43 rfl ?_
  refine X4e hk3.sat hr3 wf ok hlen goodr.cells htr ⟨rfl,hv⟩ fun ds' w4 σ4 hk4 hr4=>?_
  refine Z5 (vs:=[_,_]) rfl ?_
  refine Z5 (vs:=[_,_]) rfl ?_
  have hS4:=hS3.trans hk4
  refine M8 hk4.sat fun b8 w5 σ5 hb8 hk5 hm8=>?_
  have hS5:=hS4.trans hk5
  have hB8:=N0 hb8 hS4
  have hr5:=L8 hr4 ⟨hk5.le⟩
  obtain ⟨lv',cv',hde,_,_⟩:=E3.out hr4
  subst hde
  refine My (ds:=[lv',I room,cv']) hm8 rfl rfl (by rw[List.all_toArray];exact List.all_eq_true.2 (Rep.one hr5)) fun w6 u6 hm86=>?_
  obtain ⟨σ7,hS7,hq8,l57,o7⟩:=Q45 (x:=(Q4 l,room,(H6 W8 (Q4 l) cr x.ref x.n x.v).1)) hS5 hB8 hm8 u6 hm86
  have l37:SLe σ3 σ7:=(SLe.more ⟨hk4.le⟩ ⟨hk5.le⟩).more l57
  have hb68:b6≠b8:=by have:=(hm6.up hk4).lt;omega
  have hm66:=((hm6.up hk4).up hk5).upd u6 hb68
  have hm67:Y3 σ7 w6 b6 _:=⟨(o7 b6 hb68).trans hm66.1,hm66.2⟩
  have hq57:=hq53.lift l37
  have hv47:=hv43.lift l37
  have hr7:=L8 hr5 l57
  have hbD: ¬D b6:=fun e=>by have:=hDl _ e;omega
  refine X3F (w0:=Td w6) (σ0:=fun _=>none) (n:=3) (H6 W8 (Q4 l) cs x.ref x.n x.v).1 [lv',I room,cv'] (Zb hS7.sat) (Nat.zero_le _) (Nat.zero_le _) hbD hm67 rfl rfl (h.up hS7) ?_
  (repeat (apply Z8;(· intros;(have hzz:=SetB.hs (by assumption));(repeat (rename_i hx;subst hx));(repeat' (first | (with_reducible exact Q5v rfl) | (with_reducible exact X1O (Stp.bel (by (repeat (first | exact Stp.refl (by (first | assumption | exact Stp.sat (by assumption) | exact Hst.sat (by assumption))) | assumption | refine Stp.trans ?_ (by first | assumption | exact Hst.stp (by assumption)))))) rfl) | (with_reducible intro _) | (simp only[↓M2,M2,Mb,reduceIte]) | (with_reducible show Q2 _ _ _ _ _;first | refine X7 aS aL aR ?_ | refine Y5 aS aL aR ?_ | refine ld aS aL aR ?_) | (with_reducible show indexAddr _ _ _ _ _ _;refine Y2 aL au ?_) | (with_reducible show X3 _ _ _ _ _ _ _ _;refine Q8 aL ?_) | (with_reducible show F5 _ _ _ _ _ _;refine J4 aR ?_) | (with_reducible show pick _ _ _ _ _ _;refine M3 ?_)));done)))
  refine X28 (hg.lift ⟨hS7.le⟩) (ht.lift ⟨hS7.le⟩) ok good.cells good' ⟨rfl,hv⟩ hbD hm67.1 (fun _ _ h=>h) (fun _ _ h=>h) (fun _ _ h=>h) ?_
  refine Z8 (V:= .bool (decide ((H6 W8 (Q4 l) cs x.ref x.n x.v).2=(H6 W8 (Q4 l) cr x.ref x.n x.v).2))) (fun t w hb ht=>?_) ?_
  ·obtain ⟨rfl,_,_⟩:=ht
   refine I2 ?_
   exact Q5v rfl
  refine X19 (φ:=fun v _=>Value.agg [lv',I room,cv'].toArray=v) rfl (Rep.one hr5) (fun v w h=>h) ?_ hm67.1 hbD
  intros
  rename_i hm9
  (repeat (rename_i hx;subst hx))
  rename_i hset
  (repeat (rename_i hx;subst hx))
  rename_i w9 hb9
  obtain ⟨_,hs9,h9⟩:=hset
  refine V2 hm9 rfl ?_
  have Nb:Nxt (fun j=>j=b6∨D j) w6 σ7 w9 σ7:=⟨hb9.kp,SLe.refl _,fun _ _=>rfl,hs9⟩
  exact hh _ _ w9 σ7 D (fun h=>by rw[h];exact decide_eq_true rfl) ((Nxt.of_stp (D:=D) hS7).chain Nb fun j hj e=>e.elim (fun e=>by omega) id) h9 (fun j hj=> .inl hj) hr7
 rw[decide_eq_false e2k]
 refine J0 ?_
 refine I2 ?_
 by_cases e3k:x.kind=3
 ·rw[decide_eq_true e3k]
  have ea:B2 W8 (Q4 l) room cs x=cs:=by unfold B2;rw[if_neg e0,if_neg e1k,if_neg e2k,if_neg (by omega)]
  have er:B2 W8 (Q4 l) room cr x=cr:=by unfold B2;rw[if_neg e0,if_neg e1k,if_neg e2k,if_neg (by omega)]
  rw[ea,er] at hh
  refine J7 ?_
  refine Y5 hk3.sat hq43 rfl ?_
  refine W6 ?_
  refine ld (i:=3) hk3.sat hq53 rfl ?_
  refine W6 ?_
  refine ld (i:=2) hk3.sat hq53 rfl ?_
  refine X4f hk3.sat hr3 fun w4 σ4 hk4=>?_
  refine Z5 (vs:=[_,_]) rfl ?_
  refine Z5 (vs:=[_,_]) rfl ?_
  refine Y7 (sz:=4) hk4.sat aR aR Lz fun q8 w5 σ5 hk5 hq8=>?_
  have hk35:=hk4.trans hk5
  have hS5:=hS3.trans hk35
  have h5:=h.up hS5
  have hq55:=hq53.lift ⟨hk35.le⟩
  refine W6 ?_
  refine ld (i:=3) hk35.sat hq55 rfl ?_
  refine W6 ?_
  refine ld (i:=2) hk35.sat hq55 rfl ?_
  obtain ⟨σf,sf,lef,hsl,of⟩:=h5.freeze hk35.sat
  refine Q6n sf hsl fun w6 σ6 hk6=>?_
  refine Z5 (vs:=[_,_]) rfl ?_
  refine Z5 (vs:=[_,_]) rfl ?_
  refine Y7 (sz:=4) hk6.sat aR aR Lz fun q9 w7 σ7 hk7 hq9=>?_
  have hk57:=hk6.trans hk7
  have hS57:=hk57.weak lef.le
  have hS7:=hS5.trans hS57
  have l57:SLe σ5 σ7:=lef.more ⟨hk57.le⟩
  have hbD: ¬D b6:=fun e=>by have:=hDl _ e;omega
  have hm65:=hm6.up hk35
  have hm6f:Y3 σf w5 b6 _:=⟨(of b6 hbD).trans hm65.1,hm65.2⟩
  have hm67:=hm6f.up hk57
  have hq47:=(hq43.lift ⟨hk35.le⟩).lift l57
  have hq87:=hq8.lift l57
  refine Q5u (w0:=Td w7) (σ0:=fun _=>none) (n:=3) [lv,I room,cv] (Zb hk57.sat) (Nat.zero_le _) hm67 rfl rfl ?_
  have n5:σ5 b6=none:=hm65.1
  have hq97:=hq9
  by_cases hge:Nt cr x.ref x.n=Nt cs x.ref x.n
  ·have hz0:decide True=true:=decide_true _
   (repeat (apply Z8;(· intros;(have hzz:=VarB.hs (by assumption));(repeat (rename_i hx;subst hx));(try simp only[hz0,decide_true,Bool.not_true,Bool.not_false,Bool.false_eq_true,Bool.true_eq_false,reduceIte,↓M2,M2,Mb,reduceIte]);(repeat' (first | (with_reducible exact G9 rfl) | (with_reducible exact Zo (Stp.bel (by (repeat (first | exact Stp.refl (by (first | assumption | exact Stp.sat (by assumption) | exact Hst.sat (by assumption))) | assumption | refine Stp.trans ?_ (by first | assumption | exact Hst.stp (by assumption)))))) rfl) | (with_reducible intro _) | (simp only[↓M2,M2,Mb,reduceIte]) | (with_reducible show Q2 _ _ _ _ _;first | refine X7 aS aL aR ?_ | refine Y5 aS aL aR ?_ | refine ld aS aL aR ?_) | (with_reducible show indexAddr _ _ _ _ _ _;refine Y2 aL au ?_) | (with_reducible show X3 _ _ _ _ _ _ _ _;refine Q8 aL ?_) | (with_reducible show F5 _ _ _ _ _ _;refine J4 aR ?_) | (with_reducible show pick _ _ _ _ _ _;refine M3 ?_) | (apply Wb;intro hh;(try simp only[hh,reduceIte,↓M2,M2,Mb,reduceIte]))));done)))
   refine Z8 (V:= .bool true) (by
    intros
    (repeat (rename_i hx;subst hx))
    refine Dx ?_
    exact G9 (by rw[hge,decide_eq_true rfl])) ?_
   (repeat (apply Z8;(· intros;(have hzz:=VarB.hs (by assumption));(repeat (rename_i hx;subst hx));(try simp only[hz0,decide_true,Bool.not_true,Bool.not_false,Bool.false_eq_true,Bool.true_eq_false,reduceIte,↓M2,M2,Mb,reduceIte]);(repeat' (first | (with_reducible exact G9 rfl) | (with_reducible exact Zo (Stp.bel (by (repeat (first | exact Stp.refl (by (first | assumption | exact Stp.sat (by assumption) | exact Hst.sat (by assumption))) | assumption | refine Stp.trans ?_ (by first | assumption | exact Hst.stp (by assumption)))))) rfl) | (with_reducible intro _) | (simp only[↓M2,M2,Mb,reduceIte]) | (with_reducible show Q2 _ _ _ _ _;first | refine X7 aS aL aR ?_ | refine Y5 aS aL aR ?_ | refine ld aS aL aR ?_) | (with_reducible show indexAddr _ _ _ _ _ _;refine Y2 aL au ?_) | (with_reducible show X3 _ _ _ _ _ _ _ _;refine Q8 aL ?_) | (with_reducible show F5 _ _ _ _ _ _;refine J4 aR ?_) | (with_reducible show pick _ _ _ _ _ _;refine M3 ?_) | (apply Wb;intro hh;(try simp only[hh,reduceIte,↓M2,M2,Mb,reduceIte]))));done)))
   refine Uo (φ:=fun v _=>Value.agg [lv,I room,cv].toArray=v) rfl (Rep.one hr3) (fun v w h=>h) ?_ hm67.1
   intros
   rename_i hm9
   (repeat (rename_i hx;subst hx))
   rename_i w9 hb9
   exact Vz (G:=fun b=>cr=cs→b=true) (fun h=>by rw[h];exact decide_eq_true rfl) (Nxt.of_stp (D:=D) hS7) (h5.up hS57) (fun j hj=> .inl hj) hbD hB6 hb9.kp (fun k o e=>hb9.hst.sat k o (l57.le k o e)) ⟨n5,hm9.2⟩ rfl (L8 hr0 ⟨hS7.le⟩) hh
  ·have hz0:decide True=true:=decide_true _
   (repeat (apply Z8;(· intros;(have hzz:=VarB.hs (by assumption));(repeat (rename_i hx;subst hx));(try simp only[hz0,decide_true,Bool.not_true,Bool.not_false,Bool.false_eq_true,Bool.true_eq_false,reduceIte,↓M2,M2,Mb,reduceIte]);(repeat' (first | (with_reducible exact G9 rfl) | (with_reducible exact Zo (Stp.bel (by (repeat (first | exact Stp.refl (by (first | assumption | exact Stp.sat (by assumption) | exact Hst.sat (by assumption))) | assumption | refine Stp.trans ?_ (by first | assumption | exact Hst.stp (by assumption)))))) rfl) | (with_reducible intro _) | (simp only[↓M2,M2,Mb,reduceIte]) | (with_reducible show Q2 _ _ _ _ _;first | refine X7 aS aL aR ?_ | refine Y5 aS aL aR ?_ | refine ld aS aL aR ?_) | (with_reducible show indexAddr _ _ _ _ _ _;refine Y2 aL au ?_) | (with_reducible show X3 _ _ _ _ _ _ _ _;refine Q8 aL ?_) | (with_reducible show F5 _ _ _ _ _ _;refine J4 aR ?_) | (with_reducible show pick _ _ _ _ _ _;refine M3 ?_) | (apply Wb;intro hh;(try simp only[hh,reduceIte,↓M2,M2,Mb,reduceIte]))));done)))
   refine Z8 (V:= .bool false) (by
    intros
    (repeat (rename_i hx;subst hx))
    refine Dx ?_
    exact G9 (by rw[decide_eq_false hge])) ?_
   (repeat (apply Z8;(· intros;(have hzz:=VarB.hs (by assumption));(repeat (rename_i hx;subst hx));(try simp only[hz0,decide_true,Bool.not_true,Bool.not_false,Bool.false_eq_true,Bool.true_eq_false,reduceIte,↓M2,M2,Mb,reduceIte]);(repeat' (first | (with_reducible exact G9 rfl) | (with_reducible exact Zo (Stp.bel (by (repeat (first | exact Stp.refl (by (first | assumption | exact Stp.sat (by assumption) | exact Hst.sat (by assumption))) | assumption | refine Stp.trans ?_ (by first | assumption | exact Hst.stp (by assumption)))))) rfl) | (with_reducible intro _) | (simp only[↓M2,M2,Mb,reduceIte]) | (with_reducible show Q2 _ _ _ _ _;first | refine X7 aS aL aR ?_ | refine Y5 aS aL aR ?_ | refine ld aS aL aR ?_) | (with_reducible show indexAddr _ _ _ _ _ _;refine Y2 aL au ?_) | (with_reducible show X3 _ _ _ _ _ _ _ _;refine Q8 aL ?_) | (with_reducible show F5 _ _ _ _ _ _;refine J4 aR ?_) | (with_reducible show pick _ _ _ _ _ _;refine M3 ?_) | (apply Wb;intro hh;(try simp only[hh,reduceIte,↓M2,M2,Mb,reduceIte]))));done)))
   refine Uo (φ:=fun v _=>Value.agg [lv,I room,cv].toArray=v) rfl (Rep.one hr3) (fun v w h=>h) ?_ hm67.1
   intros
   rename_i hm9
   (repeat (rename_i hx;subst hx))
   rename_i w9 hb9
   exact Vz (G:=fun b=>cr=cs→b=true) (fun h=>absurd (by rw[h]) hge) (Nxt.of_stp (D:=D) hS7) (h5.up hS57) (fun j hj=> .inl hj) hbD hB6 hb9.kp (fun k o e=>hb9.hst.sat k o (l57.le k o e)) ⟨n5,hm9.2⟩ rfl (L8 hr0 ⟨hS7.le⟩) hh
 rw[decide_eq_false e3k]
 refine J0 ?_
 refine I2 ?_
 by_cases e4k:x.kind=4
 ·rw[decide_eq_true e4k]
  have ea:B2 W8 (Q4 l) room cs x=Tj cs x.ref:=by unfold B2;rw[if_neg e0,if_neg e1k,if_neg e2k,if_pos e4k]
  have er:B2 W8 (Q4 l) room cr x=Tj cr x.ref:=by unfold B2;rw[if_neg e0,if_neg e1k,if_neg e2k,if_pos e4k]
  rw[ea,er] at hh
  refine J7 ?_
  refine W6 ?_
  refine ld (i:=3) hk3.sat hq53 rfl ?_
  refine X4p hk3.sat h3 htk b4 fun w4 σ4 D4 N4 h4 hD4=>?_
  have hq54:=hq53.lift N4.le
  have hq44:=hq43.lift N4.le
  refine Y5 N4.sat hq44 rfl ?_
  refine W6 ?_
  refine ld (i:=3) N4.sat hq54 rfl ?_
  refine X44 N4.sat (L8 hr3 N4.le) htr b4 fun ds' w5 σ5 hk5 hr5=>?_
  have hbD: ¬D b6:=fun e=>by have:=hDl _ e;omega
  have hm65:=(hm6.nx N4 hbD).up hk5
  obtain ⟨lv',cv',hde,_,_⟩:=E3.out hr5
  subst hde
  refine My (ds:=[lv',I room,cv']) hm65 rfl rfl (by rw[List.all_toArray];exact List.all_eq_true.2 (Rep.one hr5)) fun w6 u6 hm66=>?_
  have N:=(Nxt.of_stp (D:=D) hS3).chain (N4.trans (Nxt.of_stp hk5)) fun j _ e=>e
  exact Vz (G:=fun b=>cr=cs→b=true) (fun _=>rfl) N (h4.up hk5) (fun j hj=> .inl (hD4 j hj)) (fun e=>hbD (hD4 _ e)) hB6 (Kpt.of_upd u6 rfl) (u6.stp (Zb hk5.sat) (Nat.zero_le _) hm65.1).sat hm66 rfl hr5 hh
 rw[decide_eq_false e4k]
 refine J0 ?_
 have ea:B2 W8 (Q4 l) room cs x=cs:=by unfold B2;rw[if_neg e0,if_neg e1k,if_neg e2k,if_neg e4k]
 have er:B2 W8 (Q4 l) room cr x=cr:=by unfold B2;rw[if_neg e0,if_neg e1k,if_neg e2k,if_neg e4k]
 rw[ea,er] at hh
 refine Y5 hk3.sat hq43 rfl ?_
 refine My (ds:=[lv,I room,cv]) hm6 rfl rfl (by rw[List.all_toArray];exact List.all_eq_true.2 (Rep.one hr3)) fun w6 u6 hm66=>?_
 have hbD: ¬D b6:=fun e=>by have:=hDl _ e;omega
 exact Vz (G:=fun b=>cr=cs→b=true) (fun _=>rfl) (Nxt.of_stp (D:=D) hS3) h3 (fun j hj=> .inl hj) hbD hB6 (Kpt.of_upd u6 rfl) (u6.stp (Zb hk3.sat) (Nat.zero_le _) hm6.1).sat hm66 rfl hr3 hh)
end Go.Proofs.YtjdiakhipmggjaaGreatDoor

namespace Go.Emb
theorem X4w {w:World} {A:World→Prop} (h:A w.drew):sq w A:=by rw[Q8W];exact h
end Go.Emb
namespace Go.Proofs.YtjdiakhipmggjaaGreatDoor
open Go.Emb Go.RowKit Go.Kd Go.Hm
variable {w w' w0 : World} {K : Value → World → Prop} {σ σ' σ0 : Q6} {room : Int} {cs cr : List Cel} {hp tv : Value} {b6 : Nat}
structure RunG (w0 : World) (σ0 : Q6) (w : World) (σ : Q6) (hp tv : Value) (b6 : Nat) (room : Int) (cs cr : List Cel) : Prop where
  stp : Stp w0 σ0 w σ
  ex : ∃ D ds, HeapIs w0.heap.size D σ w hp tv room cs ∧ ¬ D b6 ∧ Y3 σ w b6 ds ∧ E3 σ (Q4 R7, room, cr) ds
  bge : w0.heap.size ≤ b6
  tab : Tab σ tv (Q4 R7)
  ok : Ok (Q4 R7)
  good : GoodH W8 (Q4 R7) room cs
  goodr : GoodH W8 (Q4 R7) room cr
  rm : room ≤ 1048576
abbrev Run (w0:World) (σ0:Q6) (w:World) (σ:Q6) (hp tv:Value) (b6:Nat) (room:Int) (cs:List Cel):Prop:=RunG w0 σ0 w σ hp tv b6 room cs cs
theorem RunG.up (R:RunG w0 σ0 w σ hp tv b6 room cs cr) (k:Stp w σ w' σ'):RunG w0 σ0 w' σ' hp tv b6 room cs cr:=by
 obtain ⟨D,ds,b,c,d,a⟩:=R.ex
 exact ⟨R.stp.trans k,⟨D,ds,b.up k,c,d.up k,L8 a ⟨k.le⟩⟩,R.bge,R.tab.lift ⟨k.le⟩,R.ok,R.good,R.goodr,R.rm⟩
theorem RunG.below (R:RunG w0 σ0 w σ hp tv b6 room cs cr) (k:Below w.heap.size w w'):RunG w0 σ0 w' σ hp tv b6 room cs cr:=R.up (Stp.of_below R.stp.sat k)
theorem RunG.act {x:ActH} {c0 ds:List Value} {D:Nat→Prop} (R:RunG w0 σ0 w σ hp tv b6 room cs cr) (t:Glb σ0) (j:HeapIs w0.heap.size D σ w hp tv room cs) (l: ¬D b6) (m:Y3 σ w b6 ds) (n:E3 σ (Q4 R7,room,cr) ds) (u:Fs σ x c0)
 (h: ∀a b w' σ' D',HeapIs w0.heap.size D' σ' w' hp tv room (B2 W8 (Q4 R7) room cs x)→ ¬D' b6→Y3 σ' w' b6 ds→E3 σ' (Q4 R7,room,B2 W8 (Q4 R7) room cr x) a→Stp w0 σ0 w' σ'→SLe σ σ'→(cr=cs→b=true)→K (.tuple #[.agg a.toArray, .bool b]) w'):Q1 P F.al [hp, .agg ds.toArray, .agg c0.toArray] w K:=by
 refine X4C R.stp.sat (t.lift ⟨R.stp.le⟩) R.stp.bel.size j n R.tab Lr R.ok (by decide) R.good R.goodr R.rm u (fun k i=>(j.mem i).1) fun a b s r q d c o f g=>?_
 have p:=m.lt
 exact h a b s r q o (fun e=>(f _ e).elim l fun e=>by omega) (m.nx c l) g (c.stp' R.stp fun k i=>(j.mem i).1) c.le d
theorem X3i {r:Int} (h:(Lit.int .u16 r).wf=true):0≤r:=by
 simp[Lit.wf,IntKind.min,IntKind.max,IntKind.signed,IntKind.bits] at h
 omega
theorem X4n {r:Int} (h:(Lit.int .u8 r).wf=true):0≤r∧r<256:=by
 simp[Lit.wf,IntKind.min,IntKind.max,IntKind.signed,IntKind.bits] at h
 omega
theorem X2m {o:Operand} {r:Int} {A:Value→Value→Value→World→Prop} (V:X2 w σ) (H:Glb σ) (O:0≤r)
 (h: ∀a b b6 w' σ',Run w σ w' σ' (.pointer (some a)) (.pointer (some b)) b6 (r % 301) []→A (.pointer (some a)) (.pointer (some ⟨b6,0,none⟩)) (.bool false) w'):
 Q1 P F.ak [.int .u16 r] w fun n w=>ext P n 0 w fun m w=>ext P n 1 w fun B w=>V8 P T.a w fun C w=>Y0 P T.a C B w fun _u w=>Q1 P F.aj [] w fun q w=>J8 P .not q w fun f w=>Q0 f false w (fun w J=>J m w) fun y w=>Q0 f false w (Q3 P .eql T.a5 o (.const (.pointer none)) y (.pointer none)) fun s w=>pick P f (.bool true) s w fun v w=>A m C v w:=by
 have k:=Int.emod_nonneg r (show (301:Int)≠0 by decide)
 have W:=Int.emod_lt_of_pos r (show (0:Int)<301 by decide)
 refine Q7Z V H O fun b a D ds w1 σ1 g L d U ok=>?_
 refine Z5 (vs:=[_,_]) rfl ?_
 refine Z5 (vs:=[_,_]) rfl ?_
 refine M8 g.sat fun R w2 M l p i=>?_
 have u:=N0 l g
 refine My i rfl (by obtain ⟨lv,Z,rfl,_⟩:=E3.out d;rfl) (by rw[List.all_toArray];exact List.all_eq_true.2 (Rep.one d)) fun E N t=>?_
 have c:Stp w1 σ1 E M:=N.stp p l i.1
 have j:=g.trans c
 have Q:Run w σ E M (.pointer (some ⟨b,0,none⟩)) (.pointer (some a)) R (r % 301) []:=⟨j,⟨D,ds,L.up c,fun e=>by have:=(L.mem e).2.1;omega,t,L8 d ⟨c.le⟩⟩,u,U.lift ⟨c.le⟩,ok,GoodH.empty k,GoodH.empty k,by omega⟩
 refine Q7P c.sat (H.lift ⟨j.le⟩) fun Y X z=>?_
 simp only[Bool.not_true,↓M1,M1,Mb,reduceIte]
 refine Q9n ?_
 exact h _ _ _ _ _ (Q.up z)
theorem X3Y {J:World→Prop} {i:Nat} {xs:List ActH} {v:Value} (hg:Glb σ0) (U:Sl 8 Fs σ0 v xs) (r:i<xs.length) (R:Run w0 σ0 w σ hp tv b6 room cs)
 (h: ∀w' σ' c,Run w0 σ0 w' σ' hp tv b6 room c→c=cs∨c=B2 W8 (Q4 R7) room cs xs[i]→J w'):
 indexAddr P T.z v (I i) w fun q w=>Q2 P T.m q w fun y w=>Q1 P F.aE [y] w fun p w=>X1 p (sq w fun w=>indexAddr P T.z v (I i) w fun n w=>Q2 P T.a (.pointer (some ⟨b6,0,none⟩)) w fun u w=>Q2 P T.m n w fun t w=>Q1 P F.al [hp,u,t] w fun g w=>ext P g 0 w fun o w=>ext P g 1 w fun W w=>Y0 P T.a (.pointer (some ⟨b6,0,none⟩)) o w fun _u w=>J w) (J w):=by
 have f:=U.up R.stp
 obtain ⟨c0,O,M,N⟩:=f.el r
 refine Y2 f r ?_
 refine Y5 R.stp.sat O M ?_
 refine X40 R.stp.sat N fun w1 s=>?_
 have E:=R.below s
 refine Q7 (fun _=>?_) (fun _=>h _ _ _ E (.inl rfl))
 refine X4w ?_
 have a:=E.below (Below.refl _ _).drew
 obtain ⟨D,ds,h1,X,L,m⟩:=a.ex
 refine Y2 f r ?_
 refine Co L (by obtain ⟨H,C,rfl,_⟩:=E3.out m;rfl) ?_
 refine Y5 a.stp.sat O M ?_
 refine a.act hg h1 X L m N fun A bb w3 σ3 Y V l b d j B _=>?_
 refine Z5 (vs:=[_,_]) rfl ?_
 refine Z5 (vs:=[_,_]) rfl ?_
 refine My b (by obtain ⟨H,C,rfl,_⟩:=E3.out m;rfl) (by obtain ⟨H,C,rfl,_⟩:=E3.out d;rfl) (by rw[List.all_toArray];exact List.all_eq_true.2 (Rep.one d)) fun w4 Q z=>?_
 have G:=GoodH.act Lr Rr a.good xs[i]
 exact h _ _ _ ⟨Q.stp j a.bge b.1,⟨Y,A,V.nx (Nxt.of_upd j.sat Q b.1) fun k Z e=>l (e▸Z),l,z,d⟩,a.bge,a.tab.lift B,a.ok,G,G,a.rm⟩ (.inr rfl)
theorem X3I {o1 o2 M N Q X:Operand} {u:Int} {E:World→Prop} {xs:List ActH} {v:Value} (W:Glb σ0) (C:Sl 8 Fs σ0 v xs) (R:Run w0 σ0 w σ hp tv b6 room cs)
 (h: ∀w' σ' a,Run w0 σ0 w' σ' hp tv b6 room a→E w'):
 lp (α:=Value) (.int .i64 0) w fun b x U w=>X3 P .len [T.z] T.e [false] [v] w fun t w=>Q3 P .lss T.e o1 o2 x t w fun c w=>Q0 c true w (fun w J=>J x w) fun q w=>Q0 c true w (Q3 P .lss T.e M N q (.int .i64 u)) fun y w=>pick P c y (.bool false) w fun o w=>X1 o (jn (α:=Unit) w (fun J w=>
  indexAddr P T.z v x w fun p w=>Q2 P T.m p w fun B w=>Q1 P F.aE [B] w fun m w=>X1 m (sq w fun w=>indexAddr P T.z v x w fun k w=>Q2 P T.a (.pointer (some ⟨b6,0,none⟩)) w fun A w=>Q2 P T.m k w fun r w=>Q1 P F.al [hp,A,r] w fun e w=>ext P e 0 w fun l w=>ext P e 1 w fun L w=>Y0 P T.a (.pointer (some ⟨b6,0,none⟩)) l w fun _u w=>J () w) (J () w))
  fun z U w=>Q3 P .add T.e Q X x (.int .i64 1) w fun s w=>b s w) (E w):=by
 refine U3 xs.length (fun i w'=> ∃σ' a,Run w0 σ0 w' σ' hp tv b6 room a) ⟨σ,cs,R⟩ fun i w1 d Z V=>?_
 obtain ⟨σ1,Y,j⟩:=V
 have f:=C.up j.stp
 have n:=f.max
 refine Q8 f ?_
 refine Z2 ?_
 cases D:decide ((i:Int)<(xs.length:Nat)) with
 | false=>
  (try simp only[↓M1,M1,Mb,reduceIte])
  exact h _ _ _ j
 | true=>
  (try simp only[↓M1,M1,Mb,reduceIte])
  have g:i<xs.length:=by simpa using D
  refine Q7 (fun _=>?_) (fun _=>h _ _ _ j)
  refine U7 ?_
  refine X3Y W C g j fun w2 σ2 H O _=>fun d2=>?_
  (try simp only[↓M1,M1,Mb,reduceIte])
  exact Y6 n g ⟨_,_,O⟩
end Go.Proofs.YtjdiakhipmggjaaGreatDoor

namespace Go.Proofs.YtjdiakhipmggjaaGreatDoor
open Go.Emb Go.RowKit Go.Kd Go.Hm
variable {w w' w0 : World} {K : Value → World → Prop} {σ σ' σ0 : Q6} {room : Int} {cs : List Cel} {hp tv : Value} {b6 : Nat}
end Go.Proofs.YtjdiakhipmggjaaGreatDoor

namespace Go.Proofs.YtjdiakhipmggjaaGreatDoor
open Go.Emb Go.RowKit Go.Kd Go.Hm
variable {w w' w0 : World} {K : Value → World → Prop} {σ σ' σ0 : Q6} {room : Int} {cs : List Cel} {hp tv : Value} {b6 : Nat}
end Go.Proofs.YtjdiakhipmggjaaGreatDoor

namespace Go.Hm
open Go.Kd
variable {ok : X0 → Bool} {l : List Cla} {room : Int} {cs pre more : List Cel} {c : Cel} {k : X0} {n : Int}
theorem X3w (h:(P8 l room cs k).2=0):(P8 l room cs k).1=cs++[⟨k,(Y4 l k).map fun f=>W1 f.kind⟩]:=by
 unfold P8 at*
 split at h
 ·simp at h
 split at h
 ·simp at h
 rename_i a b
 rw[if_neg a,if_neg b]
theorem X2O (h:(T3 l room cs k n).2=0):(T3 l room cs k n).1=cs++[⟨k++[91,93],List.replicate n.toNat (W1 k)⟩]∧B6 l k=true∧0≤n:=by
 unfold T3 at*
 split at h
 ·simp at h
 split at h
 ·simp at h
 split at h
 ·simp at h
 rename_i a b d
 rw[if_neg a,if_neg b,if_neg d]
 exact ⟨rfl,by simpa using a,by omega⟩
theorem X2E: ∃more,(T3 l room cs k n).1=cs++more:=by
 unfold T3
 split
 ·exact ⟨[],by simp⟩
 split
 ·exact ⟨[],by simp⟩
 split
 ·exact ⟨[],by simp⟩
 exact ⟨_,rfl⟩
theorem Q87 (k:X0):(W1 k).s=[]:=by
 unfold W1
 split
 ·rfl
 split
 ·rfl
 split<;>rfl
theorem Ss:pre.length<(pre++c::more).length:=by simp
theorem Q3b:(pre++c::more)[pre.length]'(Ss)=c:=by simp
theorem Q5O:O5 (pre++c::more) (pre.length:Int)=c.kind:=by rw[Qs Ss,Q3b]
theorem Q2S:Q0t (pre++c::more) (pre.length:Int)=c.vals.length:=by
 unfold Q0t;rw[if_pos (M4.2 ⟨_,rfl,Ss⟩),W4 Ss,Q3b]
theorem Q0v {i:Nat} (a:i<c.vals.length):D9 (pre++c::more) (pre.length:Int) (i:Int)=0:=by
 unfold D9;rw[if_pos (M4.2 ⟨_,rfl,Ss⟩),W4 Ss,Q3b,if_pos ⟨by omega,by omega⟩]
theorem Q7O {i:Nat} (a:i<c.vals.length):Nt (pre++c::more) (pre.length:Int) (i:Int)=c.vals[i]:=by
 unfold Nt;rw[if_pos (Q0v a),W4 Ss,Q3b,Int.toNat_natCast,List.getD_eq_getElem?_getD,List.getElem?_eq_getElem a];rfl
end Go.Hm
namespace Go.Proofs.YtjdiakhipmggjaaGreatDoor
open Go.Emb Go.RowKit Go.Kd Go.Hm
variable {w w' w0 : World} {K : Value → World → Prop} {σ σ' σ0 : Q6} {room : Int} {cs : List Cel} {hp tv : Value} {b6 : Nat}
set_option maxHeartbeats 2000000 in
theorem Q7r {r n:Int} {v:Value} {xs:List ActH} {k:X0} (hs:X2 w σ) (hg:Glb σ) (hr:(Lit.int .u16 r).wf=true) (hv:Sl 8 Fs σ v xs) (hk:k.length≤U0) (hn:(Lit.int .u8 n).wf=true)
 (h: ∀w' σ',Stp w σ w' σ'→K (.bool true) w'):Q1 P F.c6 [.int .u16 r,v,S k, .int .u8 n] w K:=Ck (by
 have hr0:0≤r:=X3i hr
 obtain ⟨n0,n1⟩:=X4n hn
 have hm0:=Int.emod_nonneg n (show (20:Int)≠0 by decide)
 have hm1:=Int.emod_lt_of_pos n (show (0:Int)<20 by decide)
 unfold Ug
 refine X2m hs hg hr0 fun a b b6 w1 σ1 R1=>?_
 (repeat refine Hd.h ?_)
 refine Cc (by kernel_rfl) ?_
 (repeat refine Hd.h ?_)
 refine Iz ?_
 (repeat refine Hd.h ?_)
 refine Q7 (fun hc=>?_) (fun hc=>?_)
 ·refine Q7P R1.stp.sat (hg.lift ⟨R1.stp.le⟩) fun w2 σ2 hk2=>?_
  exact h _ _ (R1.stp.trans hk2)
 have hc:k.length≤100:=by simp at hc;omega
 refine X3I hg hv R1 fun w2 σ2 cs2 R2=>?_
 obtain ⟨D,ds,h1,h2,h3,h4⟩:=R2.ex
 refine Q2E R2.stp.sat R2.stp.bel.size h1 R2.tab R2.ok hk R2.good.left R2.rm fun w3 σ3 D3 N3 h5 hD3=>?_
 refine Z5 (vs:=[_,_]) rfl ?_
 refine Z5 (vs:=[_,_]) rfl ?_
 have hS3:=N3.stp' R2.stp fun k hk=>(h1.mem hk).1
 refine Q0Q ⟨by decide,n0⟩ ?_
 rw[Sf Q1D Q48]
 have ew:IntKind.i64.wrap (n % 20)=n % 20:=F7 (n:=n % 20) (by omega) (by omega)
 rw[ew]
 have G3:=GoodH.obj Lr Rr R2.good k
 refine Q43 hS3.sat hS3.bel.size h5 (R2.tab.lift N3.le) hk G3.left R2.rm fun w4 σ4 D4 N4 h6 hD4=>?_
 refine Z5 (vs:=[_,_]) rfl ?_
 refine Z5 (vs:=[_,_]) rfl ?_
 have hS4:=N4.stp' hS3 fun k hk=>(h5.mem hk).1
 obtain ⟨σf,sf,lef,hsl,_⟩:=h6.freeze hS4.sat
 have hgf:=(hg.lift ⟨hS4.le⟩).lift lef
 have htf:=((R2.tab.lift N3.le).lift N4.le).lift lef
 have ok:=R2.ok
 have fin: ∀{w' σ'},Stp w4 σf w' σ'→K (.bool true) w':=fun k=>h _ _ (hS4.trans (k.weak lef.le))
 obtain ⟨more,em⟩:=X2E (l:=Q4 R7) (room:=r % 301) (cs:=(P8 (Q4 R7) (r % 301) cs2 k).1) (k:=k) (n:=n % 20)
 refine Yp (fun _ w'=>Stp w4 σf w' σf) ?_ (fun _ d w5 hk5=>?_)
 ·refine I2 ?_
  refine Q7 (fun he=>?_) (fun he=>Stp.refl sf)
  have he:(P8 (Q4 R7) (r % 301) cs2 k).2=0:=by simpa using he
  have eo:=X3w he
  rw[he]
  rw[em,eo,List.append_assoc,List.singleton_append] at hsl
  simp only[show atM cs2 0=(cs2.length:Int) from rfl]
  refine Q5H sf hsl ?_
  refine Rv sf htf ok.acy ok.len ok.sm fun fv w5 σ5 hk5 hf5=>?_
  have hsl5:=hsl.lift ⟨hk5.le⟩
  have hg5:=hgf.lift ⟨hk5.le⟩
  have ht5:=htf.lift ⟨hk5.le⟩
  refine Q1J hk5.sat hsl5 ?_
  refine Ja ?_
  simp only[Q5O,decide_true,Bool.not_true]
  (repeat refine Hd.h ?_)
  refine Q1x hk5.sat hsl5 ?_
  (repeat refine Hd.h ?_)
  refine Q8 hf5 ?_
  (repeat refine Hd.h ?_)
  refine Qx ?_
  simp only[Q2S,List.length_map,decide_true,Bool.not_true]
  (repeat refine Hd.h ?_)
  refine J0 ?_
  refine U3 (Y4 (Q4 R7) k).length (fun i w'=>Stp w5 σ5 w' σ5) (Stp.refl hk5.sat) fun i w6 d6 hi hk6=>?_
  refine Q8 hf5 ?_
  refine Z2 ?_
  refine Q7 (fun hc=>?_) (fun hc=>?_)
  ·have hi':i<(Y4 (Q4 R7) k).length:=by simpa using hc
   have hi2:i<(((Y4 (Q4 R7) k).map fun f=>W1 f.kind)).length:=by simpa using hi'
   obtain ⟨e1,e2⟩:=Sl.elF hf5 hi'
   have e3:=e2.2.2
   have hth:=Lr.field_kinds (List.getElem_mem hi')
   refine Q6n hk6.sat hsl5 fun w7 σ7 hk7=>?_
   rw[Q7O (c:=⟨k,(Y4 (Q4 R7) k).map fun f=>W1 f.kind⟩) hi2,Q0v (c:=⟨k,(Y4 (Q4 R7) k).map fun f=>W1 f.kind⟩) hi2]
   simp only[List.getElem_map]
   refine Z5 (vs:=[_,_]) rfl ?_
   refine Z5 (vs:=[_,_]) rfl ?_
   refine Y7 (sz:=4) hk7.sat aR aR Lz fun q8 w8 σ8 hk8 hq8=>?_
   have l58:SLe σ5 σ8:=SLe.more ⟨hk7.le⟩ ⟨hk8.le⟩
   have hf8:=hf5.lift l58
   have e8:=e1.lift l58
   refine U2 hk8.sat ?_
   refine Z8 (V:= .bool false) (by
    intros
    exact Qx (L1 (by simp))) ?_
   (repeat (apply Z8;(· intros;(repeat (rename_i hx;subst hx));(repeat' (first | (with_reducible exact L1 rfl) | (with_reducible exact S3 (Stp.bel (by (repeat (first | exact Stp.refl (by (first | assumption | exact Stp.sat (by assumption) | exact Hst.sat (by assumption))) | assumption | refine Stp.trans ?_ (by first | assumption | exact Hst.stp (by assumption)))))) rfl) | (with_reducible intro _) | (simp only[↓M2,M2,Mb,reduceIte]) | (with_reducible show Q2 _ _ _ _ _;first | refine X7 aS aL aR ?_ | refine Y5 aS aL aR ?_ | refine ld aS aL aR ?_) | (with_reducible show indexAddr _ _ _ _ _ _;refine Y2 aL au ?_) | (with_reducible show X3 _ _ _ _ _ _ _ _;refine Q8 aL ?_) | (with_reducible show F5 _ _ _ _ _ _;refine J4 aR ?_) | (with_reducible show pick _ _ _ _ _ _;refine M3 ?_) | (with_reducible show Q1 _ _ _ _ _;first | refine Q3M au ?_) | (apply G2;intro hh;(try simp only[hh,reduceIte,↓M2,M2,Mb,reduceIte]))));done)))
   refine Z8 (V:= .bool false) (by
    intros
    (repeat (rename_i hx;subst hx))
    simp only[↓M2,M2,Mb,reduceIte]
    exact Q7N (L1 (by simp))) ?_
   (repeat refine Z8 Qd ?_)
   (intros;(repeat (rename_i hx;subst hx));(try simp only[↓M2,M2,Mb,reduceIte]))
   rename_i w9 hb9
   (repeat refine Hd.h ?_)
   have k9:=hb9.stp
   have l59:SLe σ5 σ8:=l58
   refine Q3G k9.sat (hg5.lift l59) (hsl5.lift l59) (ht5.lift l59) ok (by rw[Q87];decide) e3 fun w10 σ10 hk10=>?_
   rw[Lr.zero_fits Rr hth]
   (try simp only[↓M1,M1,Mb,reduceIte])
   exact Y6 hf5.max hi' (hk6.trans (((hk7.trans (hk8.trans k9)).trans hk10).weak fun _ _ h=>h))
  ·exact (hk5.trans hk6).weak fun _ _ h=>h
 ·refine Yp (fun _ w'=>Stp w4 σf w' σf) ?_ (fun _ d w6 hk6=>fin hk6)
  refine I2 ?_
  refine Q7 (fun he=>?_) (fun he=>hk5)
  have he:(T3 (Q4 R7) (r % 301) (P8 (Q4 R7) (r % 301) cs2 k).1 k (n % 20)).2=0:=by simpa using he
  obtain ⟨ea,hel,_⟩:=X2O he
  obtain ⟨hth,_⟩:=Q3l.1 hel
  rw[he]
  rw[ea] at hsl
  clear em ea he h5 h6
  generalize (P8 (Q4 R7) (r % 301) cs2 k).1=cs3 at*
  simp only[show atM cs3 0=(cs3.length:Int) from rfl]
  refine Q1J hk5.sat hsl ?_
  refine Ec (by simp only[List.length_cons,List.length_nil];omega) ?_
  refine Ja ?_
  simp only[Q5O,decide_true,Bool.not_true]
  (repeat refine Hd.h ?_)
  refine Q1x hk5.sat hsl ?_
  (repeat refine Hd.h ?_)
  refine Q0Q ⟨by decide,n0⟩ ?_
  (repeat refine Hd.h ?_)
  refine Q1K ⟨hm0,by omega⟩ ?_
  (repeat refine Hd.h ?_)
  refine Qx ?_
  simp only[Q2S,List.length_replicate,Int.toNat_of_nonneg hm0,decide_true,Bool.not_true]
  (repeat refine Hd.h ?_)
  refine J0 ?_
  refine U3 (n % 20).toNat (fun i w'=>Stp w5 σf w' σf) (Stp.refl hk5.sat) fun i w6 d6 hi hk6=>?_
  refine Q1x hk6.sat hsl ?_
  rw[Q2S,List.length_replicate]
  refine Z2 ?_
  refine Q7 (fun hc=>?_) (fun hc=>?_)
  ·have hi':i<(n % 20).toNat:=by
    simp only[decide_eq_true_eq] at hc
    omega
   have hi2:i<(List.replicate (n % 20).toNat (W1 k)).length:=by simpa using hi'
   refine Q6n hk6.sat hsl fun w7 σ7 hk7=>?_
   rw[Q7O (c:=⟨k++[91,93],List.replicate (n % 20).toNat (W1 k)⟩) hi2,Q0v (c:=⟨k++[91,93],List.replicate (n % 20).toNat (W1 k)⟩) hi2]
   simp only[List.getElem_replicate]
   refine Z5 (vs:=[_,_]) rfl ?_
   refine Z5 (vs:=[_,_]) rfl ?_
   refine Y7 (sz:=4) hk7.sat aR aR Lz fun q8 w8 σ8 hk8 hq8=>?_
   have l58:SLe σf σ8:=SLe.more ⟨hk7.le⟩ ⟨hk8.le⟩
   refine U2 hk8.sat ?_
   refine Z8 (V:= .bool false) (by
    intros
    exact Qx (L1 (by simp))) ?_
   (repeat (apply Z8;(· intros;(repeat (rename_i hx;subst hx));(repeat' (first | (with_reducible exact L1 rfl) | (with_reducible exact S3 (Stp.bel (by (repeat (first | exact Stp.refl (by (first | assumption | exact Stp.sat (by assumption) | exact Hst.sat (by assumption))) | assumption | refine Stp.trans ?_ (by first | assumption | exact Hst.stp (by assumption)))))) rfl) | (with_reducible intro _) | (simp only[↓M2,M2,Mb,reduceIte]) | (with_reducible show Q2 _ _ _ _ _;first | refine X7 aS aL aR ?_ | refine Y5 aS aL aR ?_ | refine ld aS aL aR ?_) | (with_reducible show indexAddr _ _ _ _ _ _;refine Y2 aL au ?_) | (with_reducible show X3 _ _ _ _ _ _ _ _;refine Q8 aL ?_) | (with_reducible show F5 _ _ _ _ _ _;refine J4 aR ?_) | (with_reducible show pick _ _ _ _ _ _;refine M3 ?_) | (with_reducible show Q1 _ _ _ _ _;first | refine Q3M au ?_) | (apply G2;intro hh;(try simp only[hh,reduceIte,↓M2,M2,Mb,reduceIte]))));done)))
   refine Z8 (V:= .bool false) (by
    intros
    (repeat (rename_i hx;subst hx))
    simp only[↓M2,M2,Mb,reduceIte]
    exact Q7N (L1 (by simp))) ?_
   (repeat refine Z8 Qd ?_)
   (intros;(repeat (rename_i hx;subst hx));(try simp only[↓M2,M2,Mb,reduceIte]))
   rename_i w9 hb9
   (repeat refine Hd.h ?_)
   have k9:=hb9.stp
   refine Q3G k9.sat (hgf.lift l58) (hsl.lift l58) (htf.lift l58) ok (by rw[Q87];decide) hk fun w10 σ10 hk10=>?_
   rw[Lr.zero_fits Rr hth]
   (try simp only[↓M1,M1,Mb,reduceIte])
   exact Y6 (by omega) hi' (hk6.trans (((hk7.trans (hk8.trans k9)).trans hk10).weak fun _ _ h=>h))
  ·exact hk5.trans hk6)
end Go.Proofs.YtjdiakhipmggjaaGreatDoor

namespace Go.Proofs.YtjdiakhipmggjaaGreatDoor.heapFresh
open Go.ChangeShapes Go.WideShapes Go.ChangeAt Go.RowKit
open Go.Emb
theorem own : ownKnob Tryz.prog.godebug = none := by kernel_rfl
theorem lay : laidOutB Tryz.prog = true := by kernel_rfl
set_option maxRecDepth 100000 in
theorem X3g (os : Os) (started : os.Started) (H : Type) (enc : TypeId × Value → H) :
    ReturnsInHanded {} Tryz.checked os 6 .any (fun w args => (Rows.heapFreshSpec.pre enc Tryz.prog Tryz.f6 [] false w args ∧ laidMetH Tryz.prog laidAll w) ∧ sizedMet enc Tryz.prog Tryz.f6 (OpenSpec.ofChange Rows.heapFreshSpec) false w args) (Rows.heapFreshSpec.post enc Tryz.prog Tryz.f6 false true false false) := by
  refine returnsInHanded_of_change_and (C := Tryz.checked) (X := fun w _ => laidMetH Tryz.prog laidAll w) (fun _ _ _ hh h => h.of_heap hh) own started (by kernel_rfl) Tryz.func6
    (ChangeSpec.witness_shaped (enc := enc) (C := Tryz.checked) (os := os) (X := fun w _ => laidMetH Tryz.prog laidAll w) false (World.laidAll Tryz.prog os laidAll) #[.int .u16 0, .slice none 0 0, .string ByteArray.empty, .int .u8 0] 8 (World.laidAll_os _ _ _)
      (World.shaped_of_ZipB (by kernel_rfl) (by kernel_rfl)) (by kernel_rfl) (by kernel_rfl) (by kernel_rfl) (by rw [MakeChecks.laidMetH_plain _ _ _ (by kernel_rfl)]; exact laidMet_laidAll _ (by kernel_rfl) (by kernel_rfl))) ?_
  intro W base args ds gs before hval0 hW _ hsz0 hL _
  have hsz : (DataW.weightsEach Tryz.prog (Tryz.f6.params.toList ++ Rows.heapFreshSpec.plain.varTypes Tryz.prog) (ds ++ gs)).all (· ≤ reachBytes) = true := hsz0
  have hval : ∀ (j : Nat) t v, Tryz.f6.params[j]? = some t → args[j]? = some v → Value.okWide Tryz.prog W .any base t v := hval0
  have hW' := hW
  obtain ⟨p, q, hA0, hV, rfl, hfz, hnd⟩ := hW
  have hA : DataW.TrodAll enc Tryz.prog W 0 (fun _ => true) true Tryz.f6.params.toList args.toList ds p := hA0
  have hlt := DataW.TrodAll.lt hA
  rw [Tryz.params6] at hA hval hsz
  obtain ⟨v0, vs0, d0, ds0, p0, q0, hargs, rfl, rfl, h0, r0⟩ := trodAll_cons hA
  obtain ⟨v1, vs1, d1, ds1, p1, q1, rfl, rfl, rfl, h1, r1⟩ := trodAll_cons r0
  obtain ⟨v2, vs2, d2, ds2, p2, q2, rfl, rfl, rfl, h2, r2⟩ := trodAll_cons r1
  obtain ⟨v3, vs3, d3, ds3, p3, q3, rfl, rfl, rfl, h3, r3⟩ := trodAll_cons r2
  obtain ⟨rfl, rfl, rfl⟩ := trodAll_nil r3
  obtain rfl : args = #[v0, v1, v2, v3] := by cases args; simp_all
  obtain ⟨rfl, rfl⟩ := trodVars_none hV
  have g0 : ∀ x ∈ p0, x.block < W.heap.size := fun x hx => hlt x (by simp [hx])
  have k0 := fun (W' : World) (bel : Below W.heap.size W W') => Below.trod lay (by kernel_rfl) (of_decide_eq_true (by kernel_rfl)) h0 bel g0
  obtain ⟨a0, rfl, _, _, w0⟩ := open_int Tryz.underlying43 (hval 0 43 v0 rfl rfl) h0
  have g1 : ∀ x ∈ p1, x.block < W.heap.size := fun x hx => hlt x (by simp [hx])
  have k1 := fun (W' : World) (bel : Below W.heap.size W W') => Below.trod lay (by kernel_rfl) (of_decide_eq_true (by kernel_rfl)) h1 bel g1
  obtain ⟨l1, e1⟩ := X2j (hval 1 44 v1 rfl rfl) h1 (Q9v hsz (j := 1) (t := 44) rfl rfl)
  have g2 : ∀ x ∈ p2, x.block < W.heap.size := fun x hx => hlt x (by simp [hx])
  have k2 := fun (W' : World) (bel : Below W.heap.size W W') => Below.trod lay (by kernel_rfl) (of_decide_eq_true (by kernel_rfl)) h2 bel g2
  obtain ⟨a2, rfl, w2⟩ := X3a (hval 2 9 v2 rfl rfl) h2 (Q9v hsz (j := 2) (t := 9) rfl rfl)
  have g3 : ∀ x ∈ p3, x.block < W.heap.size := fun x hx => hlt x (by simp [hx])
  have k3 := fun (W' : World) (bel : Below W.heap.size W W') => Below.trod lay (by kernel_rfl) (of_decide_eq_true (by kernel_rfl)) h3 bel g3
  obtain ⟨a3, rfl, _, _, w3⟩ := open_int Tryz.underlying5 (hval 3 5 v3 rfl rfl) h3
  have hc : Q1 Tryz.prog 6 [.int .u16 a0, v1, S a2, .int .u8 a3] W (fun e w' => e = .bool true ∧ Below W.heap.size W w') := Q7r Q9W (X3v hL) w0 e1 w2 w3 (fun w' σ' hb => ⟨rfl, hb.bel⟩)
  refine (Q4c Tryz.func6 (by kernel_rfl) (by kernel_rfl) hc).mono fun e W' he => ?_
  obtain ⟨v, rfl⟩ : ∃ v, e = .returned v := by cases e <;> first | exact ⟨_, rfl⟩ | exact he.elim
  obtain ⟨rfl, bel⟩ := he
  exact ⟨_, rfl, _, _, _, [], _, [], hW', trodAll_mk1 (shut_bool Tryz.underlying4 _), (trodAll_cons_mk (k0 W' bel) (trodAll_cons_mk (k1 W' bel) (trodAll_cons_mk (k2 W' bel) (trodAll_cons_mk (k3 W' bel) trodAll_mk0)))), rfl, bel.frame _, fun h => by cases h⟩
theorem over : Rows.heapFreshRow.holds Tryz.pinned (OpenSpec.ofChange Rows.heapFreshSpec) :=
  OpenClaim.holds_of_wide 6 Tryz.f6 rfl rfl rfl rfl rfl rfl rfl ⟨rfl, rfl, rfl, rfl, rfl⟩ rfl rfl rfl rfl rfl (by kernel_rfl) Tryz.func6 (by kernel_rfl)
    (of_decide_eq_true (by kernel_rfl)) (by unfold Func.isWrapper; first | (rw [if_pos (by decide +kernel)]; kernel_rfl) | (rw [if_neg (by decide +kernel)]; exact ⟨rfl, rfl⟩))
    (fun os started H enc _ => X3g os started H enc)
end Go.Proofs.YtjdiakhipmggjaaGreatDoor.heapFresh
namespace Go.Proofs.YtjdiakhipmggjaaGreatDoor
theorem Q3g : Rows.HeapFreshSaid := heapFresh.over
end Go.Proofs.YtjdiakhipmggjaaGreatDoor
