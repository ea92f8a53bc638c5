/- Parts of a proof about the given program: its functions as texts of their own, what each computes, plain laws of that. The conditions of each stand in its statement. -/
import Derived.Test.YtjdiakhipmggjaaGreatDoorB5
import Derived.Test.YtjdiakhipmggjaaGreatDoorB4
import Derived.Test.YtjdiakhipmggjaaGreatDoorB3
import Derived.Test.YtjdiakhipmggjaaGreatDoorRows
import Derived.WalkKit
import Derived.ProofKit
import Derived.OpenShut
import Derived.ShutString
import Derived.ChangeOld
import Derived.Below
import Derived.SizedLaws
import Derived.Lay
import Derived.Carry
import Derived.MakeChecks
import Derived.PinnedBridge
set_option linter.unnecessarySimpa false
set_option linter.defProp false
set_option linter.unusedSectionVars false
set_option linter.unusedVariables false
set_option linter.unusedSimpArgs false
namespace Go.Hm
open Go.Kd
structure Alike (l m : List Cla) : Prop where
  lk : lk l = lk m
  len : l.length = m.length
  weigh : weigh l [] = weigh m []
section
variable {l m : List Cla} (h : Alike l m)
include h
end
theorem X1S {l:List Cla} {frm:Nat}: ∀(f:Nat) (a:List Nat) (i:Nat),∀y∈Qb l frm f a i,y∈a∨frm≤y:=by
 intro f
 induction f with
 | zero=>intro a i y hy;exact .inl hy
 | succ f c=>
  intro a i y hy
  simp only[Qb] at hy
  split at hy
  ·exact .inl hy
  ·split at hy
   ·exact .inl hy
   ·rename_i e _
    rcases List.mem_append.1 hy with hy | hy
    ·exact Lr (p:=fun y=>frm≤y) _ _ (fun b x _ z d=>c b _ z d) y hy
    ·simp at hy;omega
theorem X0B {a:List Cla} (f:T9 a): ∀j∈W0 a 8,8≤j∧j<a.length:=by
 intro j d
 unfold W0 at d
 have e:=Lr (p:=fun y=>8≤y) _ _ (fun b x _ z c=>X1S _ b x z c) j d
 have i:=Lr (p:=fun y=>y<a.length) _ _ (fun b x g z c=>(Q6d f (by omega) _ b x (by
  have:=List.mem_of_mem_drop g
  simpa using this) z c).imp id (·.1)) j d
 exact ⟨e.resolve_left (by simp),i.resolve_left (by simp)⟩
end Go.Hm
namespace Go.Proofs.YtjdiakhipmggjaaGreatDoor
open Go.Emb Go.RowKit Go.Kd Go.Hm
end Go.Proofs.YtjdiakhipmggjaaGreatDoor

namespace Go.Hm
open Go.Kd
theorem Q8E {a:List Cla} {m:Nat} (b:m<a.length):Z3 a (Y3 a m)=some m↔Z3 (a.take m) (Y3 a m)=none:=by
 have f:Y3 a m=a[m].name:=by unfold Y3;rw[List.getD_eq_getElem?_getD,List.getElem?_eq_getElem b];rfl
 unfold Z3
 rw[List.findIdx?_eq_some_iff_getElem,List.findIdx?_eq_none_iff]
 constructor
 ·rintro ⟨i,k,d⟩ c e
  obtain ⟨j,g,rfl⟩:=List.mem_take_iff_getElem.1 e
  simpa using d j (by omega)
 ·intro h
  refine ⟨b,by simp[f],fun j g=>?_⟩
  simpa using h a[j] (List.mem_take_iff_getElem.2 ⟨j,by omega,rfl⟩)
theorem Q8U {a:List Cla} (c:T9 a) {m:Nat} (b:m<a.length):Xi a (Y3 a m) (Y3 a m)=T1 a a[m]:=by
 have d:Y3 a m=a[m].name:=by unfold Y3;rw[List.getD_eq_getElem?_getD,List.getElem?_eq_getElem b];rfl
 unfold Xi T1
 rw[Yh c b,List.getD_eq_getElem?_getD,List.getElem?_eq_getElem b]
 simp only[Option.getD_some,d]
end Go.Hm
namespace Go.Proofs.YtjdiakhipmggjaaGreatDoor
open Go.Emb Go.RowKit Go.Kd Go.Hm
variable {w : World} {K : Value → World → Prop} {σ : Q6} {l : List Cla}
theorem Q8k: ∀c∈I2,Zw c=false:=by decide
theorem Q8h {c:Cla} (h:D3 c=0):Zw c=false:=by
 unfold D3 at h
 split at h
 ·cases h
 ·rename_i a;exact eq_false_of_ne_true a
set_option maxHeartbeats 4000000 in
theorem X26 {lv:Value} (hs:X3 w σ) (hl:Sl 8 U9 σ lv l) (cx:l.length≤900)
 (C: ∀i e w' y,Sh D3 l=some (i,e)→Stp w σ w' y→K (.tuple #[.slice none 0 0,I i,I e]) w')
 (h0: ∀v w' y,Sh D3 l=none→Stp w σ w' y→Sl 8 U9 y v (Q4 l)→Ok (Q4 l)→T9 (Q4 l)→K (.tuple #[v,I 0,I 0]) w'):Q1 P F.bO [lv] w K:=Q1h (by
 unfold Ew
 have A:I2.length=8:=rfl
 have ds:(Q4 l).length=8+l.length:=by simp[Q4,A]
 refine X0l hs fun x0 w1 σ1 b6 bf=>?_
 refine Q8z bf ?_
 rw[A]
 refine E2 l.length (fun n x w'=> ∃y,Stp w σ w' y∧V7 w.heap.size T.b 8 U9 y w' x (I2++l.take n)∧O9 D3 l 0=O9 D3 (l.drop n) n)
  ⟨σ1,b6,by simpa using bf,rfl⟩ fun n x w4 d J f=>?_
 obtain ⟨σ4,ac,a2,E⟩:=f
 have aa:=hl.up ac
 refine Q8 aa ?_
 refine Y9 ?_
 refine Q7 (fun hh=>?_) (fun hh=>?_)
 ·have a:n<l.length:=by simpa using hh
  obtain ⟨cb,bn,b7,p1,r1⟩:=aa.elC a
  refine Y1 aa a ?_
  refine Y4 ac.sat p1 rfl ?_
  refine Q3W ac.sat r1 fun w6 σ6 ab=>?_
  have b3:=ac.trans ab
  have N:=Wp a E
  refine Za ?_
  refine Q7 (fun m=>?_) (fun m=>?_)
  ·have t: ¬D3 l[n]=0:=by simpa using m
   rw[if_neg t] at N
   refine C _ _ _ _ ?_ b3
   unfold Sh
   rw[N]
  ·have hz:D3 l[n]=0:=by simpa using m
   rw[if_pos hz] at N
   refine Y1 (aa.up ab) a ?_
   refine Y4 ab.sat (p1.up ab) rfl ?_
   have ct:=a2.up ab
   have r6:=RCl_lift r1 ⟨ab.le⟩
   refine Jp (R:=U9) (x:=l[n]) b3 ct (by simpa [Value.cells] using r6) rfl rfl rfl (by simp[A];omega) (by simp[A];omega) fun s v' w9 σ9 c5 o cj a4=>?_
   refine N3 ?_
   refine J5 aa.max a ⟨σ9,o,?_,N⟩
   rw[List.take_add_one,List.getElem?_eq_getElem a,←List.append_assoc]
   exact cj
 have a: ¬n<l.length:=by simpa using hh
 rw[List.take_of_length_le (by omega)] at a2
 rw[List.drop_eq_nil_of_le (by omega)] at E
 have E:O9 D3 l 0=none:=E
 have b2:=T0 E
 have bg: ∀c∈l,Qs c∧Nm c∧c.name≠[]:=fun c hc=>Fe (b2 c hc)
 have q: ∀c∈Q4 l,Qs c:=fun c hc=>by
  rcases List.mem_append.1 hc with hc | hc
  ·exact (Jw c hc).1
  ·exact (bg c hc).1
 have a3: ∀c∈Q4 l,Nm c:=fun c hc=>by
  rcases List.mem_append.1 hc with hc | hc
  ·exact (Jw c hc).2.1
  ·exact (bg c hc).2.1
 have ad: ∀c∈Q4 l,Zw c=false:=fun c hc=>by
  rcases List.mem_append.1 hc with hc | hc
  ·exact Q8k c hc
  ·exact Q8h (b2 c hc)
 have ax:(Q4 l).length≤100000:=by omega
 unfold Sh at C h0
 rw[E] at C h0
 simp only at C h0
 obtain ⟨σ5,p,L,dq,c2⟩:=a2.keep ac
 change Sl 8 U9 σ5 x (Q4 l) at L
 clear a2 ac aa a hh J E bf b6
 have r: ∀{n:Nat} (J:n<l.length),∃(h:8+n<(Q4 l).length),(Q4 l)[8+n]=l[n]:=fun {n} J=>⟨by omega,by
  unfold Q4
  rw[List.getElem_append_right (by rw[A];omega)]
  congr 1
  rw[A];omega⟩
 have bv: ∀{n:Nat} (J:n<l.length),Y3 (Q4 l) (8+n)=l[n].name:=fun {n} J=>by
  obtain ⟨C,h2⟩:=r J
  rw[Ta C,h2]
 have cd: ∀j,j<8→(Z3 ((Q4 l).take j) (Y3 (Q4 l) j)).isSome=false:=by
  have hd: ∀j,j<8→(Z3 (I2.take j) (Y3 I2 j)).isSome=false:=by decide
  intro j hj
  have e1:(Q4 l).take j=I2.take j:=by unfold Q4;rw[List.take_append_of_le_length (by rw[A];omega)]
  have e2:Y3 (Q4 l) j=Y3 I2 j:=by
   unfold Y3 Q4;rw[List.getD_eq_getElem?_getD,List.getD_eq_getElem?_getD,List.getElem?_append_left (by rw[A];omega)]
  rw[e1,e2];exact hd j hj
 refine U3 l.length (fun n w'=>Stp w σ w' σ5∧ ∀j,j<8+n→(Z3 ((Q4 l).take j) (Y3 (Q4 l) j)).isSome=false) ⟨p,by simpa using cd⟩ fun n w5 d J f=>?_
 clear p
 obtain ⟨p,az⟩:=f
 have am:=hl.up p
 refine Q8 am ?_
 refine Y9 ?_
 refine Q7 (fun hh=>?_) (fun hh=>?_)
 ·have a:n<l.length:=by simpa using hh
  obtain ⟨cb,bn,b7,p1,r1⟩:=am.elC a
  refine Y1 am a ?_
  (try simp only[↓M1,M1,Mb,reduceIte])
  refine ld p.sat p1 rfl ?_
  refine K0 p.sat L ?_
  rw[G7 (by omega) (by omega)]
  refine Za ?_
  obtain ⟨O,e8⟩:=r a
  rw[←bv a]
  have bo:=Q8E O
  cases af:Z3 ((Q4 l).take (8+n)) (Y3 (Q4 l) (8+n)) with
  | none=>
   rw[bo.2 af]
   have e:decide (L6 (some (8+n))=(8:Nat)+(n:Int))=true:=by simp[L6]
   rw[e]
   (try simp only[↓M1,M1,Mb,reduceIte])
   refine Y5 am.max a ⟨p,fun j hj=>?_⟩
   by_cases ej:j=8+n
   ·rw[ej,af];rfl
   ·exact az j (by omega)
  | some i=>
   have t:Z3 (Q4 l) (Y3 (Q4 l) (8+n))≠some (8+n):=fun e=>by rw[bo.1 e] at af;cases af
   have e:decide (L6 (Z3 (Q4 l) (Y3 (Q4 l) (8+n)))=(8:Nat)+(n:Int))=false:=by
    rw[decide_eq_false_iff_not]
    intro e
    cases hf:Z3 (Q4 l) (Y3 (Q4 l) (8+n)) with
    | none=>rw[hf] at e;simp only[L6] at e;omega
    | some k=>
     rw[hf] at e t
     simp only[L6] at e
     apply t
     congr 1;omega
   rw[e]
   (try simp only[↓M1,M1,Mb,reduceIte])
   have V:So (Q4 l)=some (8+n):=by
    unfold So
    rw[List.find?_range_eq_some]
    refine ⟨by rw[af];rfl,by simpa using O,fun j hj=>by rw[az j hj];rfl⟩
   refine C _ _ _ _ ?_ p
   rw[V]
   have:((8+n:Nat):Int)-8=n:=by omega
   simp only[this]
 have a: ¬n<l.length:=by simpa using hh
 have V:So (Q4 l)=none:=by
  unfold So
  rw[List.find?_eq_none]
  intro j hj
  rw[az j (by have:=List.mem_range.1 hj;omega)];simp
 rw[V] at C h0
 simp only at C h0
 have g:=Kq V
 clear az hh a J am cd
 refine U3 l.length (fun n w'=> ∃y,Stp w σ w' y∧SLe σ5 y∧O9 (fun c=>(D2 (Q4 l) c:Int)) l 0=O9 (fun c=>(D2 (Q4 l) c:Int)) (l.drop n) n) ⟨σ5,p,SLe.refl _,rfl⟩ fun n w6 d J f=>?_
 obtain ⟨σ9,o,aj,Z⟩:=f
 have al:=hl.up o
 refine Q8 al ?_
 refine Y9 ?_
 refine Q7 (fun hh=>?_) (fun hh=>?_)
 ·have a:n<l.length:=by simpa using hh
  obtain ⟨cb,bn,b7,p1,r1⟩:=al.elC a
  refine Y1 al a ?_
  refine Y4 o.sat p1 rfl ?_
  have U:=Wp a Z
  refine Q8t o.sat (L.lift aj) r1 fun w8 co ah=>?_
  refine Za ?_
  refine Q7 (fun m=>?_) (fun m=>?_)
  ·have t: ¬(D2 (Q4 l) l[n]:Int)=0:=by simpa using m
   rw[if_neg t] at U
   refine C _ _ _ _ ?_ (o.trans ah)
   rw[U]
  ·have hz:(D2 (Q4 l) l[n]:Int)=0:=by simpa using m
   rw[if_pos hz] at U
   refine N3 ?_
   exact Y5 al.max a ⟨co,o.trans ah,aj.more ⟨ah.le⟩,U⟩
 have a: ¬n<l.length:=by simpa using hh
 rw[List.drop_eq_nil_of_le (by omega)] at Z
 have Z:O9 (fun c=>(D2 (Q4 l) c:Int)) l 0=none:=Z
 rw[Z] at C h0
 simp only at C h0
 have bx:=T0 Z
 clear hh a J p al
 refine Q17 o.sat (L.lift aj) g (by omega) (by omega) q fun vb dx ca aq ar=>?_
 have b:=o.trans aq
 have be:=aj.more ⟨aq.le⟩
 have a5:(I7 (Q4 l)).length=(Q4 l).length:=by simp[I7]
 refine U3 l.length (fun n w'=>Stp w σ w' ca∧ ∀j (hj:j<l.length),j<n→T1 (Q4 l) l[j]=false) ⟨b,fun j _ h=>by omega⟩ fun n da d J f=>?_
 clear b
 obtain ⟨b,a1⟩:=f
 have ay:=hl.up b
 refine Q8 ay ?_
 refine Y9 ?_
 refine Q7 (fun hh=>?_) (fun hh=>?_)
 ·have a:n<l.length:=by simpa using hh
  obtain ⟨O,e8⟩:=r a
  refine Xw ⟨by omega,by omega⟩ ?_
  have ec:((8:Nat):Int)+(n:Int)=((8+n:Nat):Int):=by omega
  rw[ec]
  obtain ⟨db,pb,_,rv,rfl,rb⟩:=ar.el (i:=8+n) (by rw[a5];exact O)
  have cg:(I7 (Q4 l))[8+n]'(by rw[a5];exact O)=(List.range (Q4 l).length).map fun j=>Xi (Q4 l) (Y3 (Q4 l) (8+n)) (Y3 (Q4 l) j):=by simp[I7]
  rw[cg] at rb
  obtain ⟨cn,bi,_,ap⟩:=rb.el (i:=8+n) (by simpa using O)
  have ap:cn=_:=ap
  subst ap
  simp only[List.getElem_map,List.getElem_range] at bi
  rw[Q8U g O,e8] at bi
  refine Y1 ar (by rw[a5];exact O) ?_
  refine X7 b.sat pb rfl ?_
  refine Xw ⟨by omega,by omega⟩ ?_
  rw[ec]
  refine Y1 rb (by simpa using O) ?_
  refine X7 b.sat bi rfl ?_
  cases bz:T1 (Q4 l) l[n] with
  | true=>
   (try simp only[↓M1,M1,Mb,reduceIte])
   have bh:l.findIdx? (T1 (Q4 l))=some n:=by
    rw[List.findIdx?_eq_some_iff_getElem]
    exact ⟨a,bz,fun j hj=>by simpa using a1 j (by omega) hj⟩
   refine C _ _ _ _ ?_ b
   rw[bh]
  | false=>
   (try simp only[↓M1,M1,Mb,reduceIte])
   refine Y5 ay.max a ⟨b,fun j hj c8=>?_⟩
   by_cases e:j=n
   ·subst e;exact bz
   ·exact a1 j hj (by omega)
 have a: ¬n<l.length:=by simpa using hh
 have ba: ∀c∈l,T1 (Q4 l) c=false:=fun c hc=>by
  obtain ⟨j,hj,rfl⟩:=List.getElem_of_mem hc
  exact a1 j hj (by omega)
 have bh:l.findIdx? (T1 (Q4 l))=none:=by
  rw[List.findIdx?_eq_none_iff];exact ba
 rw[bh] at C h0
 simp only at C h0
 clear a1 hh a J ay ar aq o a5
 have ag:=Q6r g (fun c hc=>(bg c hc).2.2) ba
 have ai:X0V (Q4 l):=fun c hc u hu=>by
  rcases List.mem_append.1 hc with hc | hc
  ·rw[(Jw c hc).2.2] at hu;simp at hu
  ·have:=bx c hc
   unfold D2 at this
   split at this
   ·simp at this
   ·split at this
    ·simp at this
    ·rename_i B
     have B:c.like.any (R5 (Q4 l))=false:=eq_false_of_ne_true B
     have:=List.any_eq_false.1 B u hu
     unfold R5 at this
     cases hd:lk (Q4 l) u with
     | none=>rw[hd] at this;simp at this
     | some d=>exact ⟨d,rfl⟩
 have b9:Ok (Q4 l):=⟨ag,ax,q,ai,a3⟩
 have bu: ∀i (hi:i<(Q4 l).length),8≤i→ ∀u∈U4 (Q4 l)[i],∃j,Z3 (Q4 l) u=some j:=fun i hi O u hu=>by
  have aw:i-8<l.length:=by omega
  obtain ⟨dv,e8⟩:=r aw
  have cl:(Q4 l)[i]=l[i-8]:=by rw[←e8];congr 1;omega
  rw[cl] at hu
  have bc:=List.getElem_mem aw
  rcases List.mem_cons.1 hu with hu | hu
  ·have:=bx _ bc
   unfold D2 at this
   split at this
   ·simp at this
   ·rename_i B
    unfold Qy at B
    rw[←hu] at B
    cases hd:lk (Q4 l) u with
    | none=>rw[hd] at B;simp at B
    | some d=>obtain ⟨_,_,j,hj,_⟩:=V3 hd;exact ⟨j,hj⟩
  ·obtain ⟨d,hd⟩:=ai _ (List.mem_append_right _ bc) u hu
   obtain ⟨_,_,j,hj,_⟩:=V3 hd;exact ⟨j,hj⟩
 refine Ej (R:=Wx) (e:=T.e) b (by decide) fun c4 df a7 bd _=>?_
 refine E2 l.length (fun n x' w'=> ∃y H,Stp w σ w' y∧SLe σ5 y∧V7 w.heap.size T.e 1 Wx y w' x' (ints H)∧Few (Q4 l) H∧H=(((List.range (Q4 l).length).drop 8).take n).foldl (fun H i=>Xq (Q4 l) 8 H i) [])
  ⟨ca,[],b.trans a7,be,bd,⟨List.nodup_nil,by simp⟩,rfl⟩ fun n x' dt d J f=>?_
 clear bd a7 b be aj
 obtain ⟨dm,H,Y,Q,ao,ak,an⟩:=f
 have av:=hl.up Y
 refine Q8 av ?_
 refine Y9 ?_
 refine Q7 (fun hh=>?_) (fun hh=>?_)
 ·have a:n<l.length:=by simpa using hh
  obtain ⟨O,e8⟩:=r a
  refine Xw ⟨by omega,by omega⟩ ?_
  have ec:((8:Nat):Int)+(n:Int)=((8+n:Nat):Int):=by omega
  rw[ec]
  refine X1Q ag g (by omega) q (by omega) bu ((Q4 l).length+1) O (Nat.lt_succ_of_le (Q1E _ _)) ak Y (L.lift Q) ao fun dd dn cu br b8 ch=>?_
  refine N3 ?_
  refine J5 av.max a ⟨cu,_,br,Q.more b8,ch,Ip ag g (by omega) _ _ _ O ak,?_⟩
  rw[List.take_add_one,List.getElem?_drop,List.getElem?_range O,List.foldl_append,←an]
  rfl
 have a: ¬n<l.length:=by simpa using hh
 have cm:n=l.length:=by omega
 subst cm
 have b1:H=W0 (Q4 l) 8:=by
  rw[an,List.take_of_length_le (by rw[List.length_drop,List.length_range];omega)];rfl
 subst b1
 clear an hh a J
 have dg:=ak.len
 have cr:=X0B g
 obtain ⟨bs,bp,bk,bb,_⟩:=ao.keep Y
 have ce:=Q.more ⟨bb⟩
 clear ao Y bb Q av
 have aw:(ints (W0 (Q4 l) 8)).length=(W0 (Q4 l) 8).length:=by simp
 refine U3 (W0 (Q4 l) 8).length (fun n w'=> ∃y,Stp w σ w' y∧SLe bs y∧ ∀j∈(W0 (Q4 l) 8).take n,V9 (Q4 l) ((Q4 l).getD j Cla.zero)=0) ⟨bs,bp,SLe.refl _,by simp⟩ fun n de d J f=>?_
 obtain ⟨dl,X,W,a0⟩:=f
 have M:=bk.lift W
 refine Q8 M ?_
 rw[aw]
 refine Y9 ?_
 refine Q7 (fun hh=>?_) (fun hh=>?_)
 ·have a:n<(W0 (Q4 l) 8).length:=by simpa using hh
  have b5:n<(ints (W0 (Q4 l) 8)).length:=by rw[aw];exact a
  refine Y1 M b5 ?_
  obtain ⟨cs,pc,_,cq⟩:=M.el b5
  obtain ⟨rfl,_⟩:=cq
  simp only[List.getElem_map] at pc
  refine X7 X.sat pc rfl ?_
  have bl:=(cr _ (List.getElem_mem a)).2
  have a4:(Q4 l).getD (W0 (Q4 l) 8)[n] Cla.zero=(Q4 l)[(W0 (Q4 l) 8)[n]]:=by rw[List.getD_eq_getElem?_getD,List.getElem?_eq_getElem bl];rfl
  refine Q71 X.sat (L.lift (ce.more W)) b9 g (by omega) ad bl fun dp bw z=>?_
  have a6:=X.trans z
  refine Za ?_
  refine Q7 (fun m=>?_) (fun m=>?_)
  ·have t: ¬V9 (Q4 l) (Q4 l)[(W0 (Q4 l) 8)[n]]=0:=by simpa using m
   have cz:=M.up z
   have bm:=pc.up z
   refine U0 z.sat ?_
   (repeat refine Z9 Qa ?_)
   (intros;(repeat (rename_i hx;subst hx));(try simp only[↓M2,M2,Mb,reduceIte]))
   rename_i cv a9
   refine X7 a9.sat bm rfl ?_
   refine Zp ⟨by omega,by omega⟩ ?_
   have D:(W0 (Q4 l) 8).find? (fun j=> !decide (V9 (Q4 l) ((Q4 l).getD j Cla.zero)=0))=some (W0 (Q4 l) 8)[n]:=by
    rw[List.find?_eq_some_iff_getElem]
    refine ⟨by rw[a4];simpa using t,n,a,rfl,fun j hj=>?_⟩
    have:=a0 _ (List.mem_take_iff_getElem.2 ⟨j,by omega,rfl⟩)
    rw[this];simp
   have:=C (((W0 (Q4 l) 8)[n]:Int)-8) (V9 (Q4 l) (Q4 l)[(W0 (Q4 l) 8)[n]]) cv bw (by rw[D];simp only[a4]) (a6.trans a9.stp)
   exact this
  ·have hz:V9 (Q4 l) (Q4 l)[(W0 (Q4 l) 8)[n]]=0:=by simpa using m
   refine N3 ?_
   refine Y5 (by omega) a ⟨bw,a6,W.more ⟨z.le⟩,fun j hj=>?_⟩
   rw[List.take_add_one,List.getElem?_eq_getElem a] at hj
   rcases List.mem_append.1 hj with hj | hj
   ·exact a0 j hj
   ·simp at hj;subst hj;rw[a4];exact hz
 ·have a: ¬n<(W0 (Q4 l) 8).length:=by simpa using hh
  rw[List.take_of_length_le (by omega)] at a0
  have D:(W0 (Q4 l) 8).find? (fun j=> !decide (V9 (Q4 l) ((Q4 l).getD j Cla.zero)=0))=none:=by
   rw[List.find?_eq_none]
   intro j hj
   rw[a0 j hj];simp
  rw[D] at h0
  exact h0 _ _ _ rfl X (L.lift (ce.more W)) b9 g)
end Go.Proofs.YtjdiakhipmggjaaGreatDoor

namespace Go.Proofs.YtjdiakhipmggjaaGreatDoor
open Go.Emb Go.RowKit Go.Kd Go.Hm
variable {w : World} {K : Value → World → Prop} {σ : Q6} {l : List Cla} {v : Value}
theorem Q83:(I7 l).length=l.length:=by simp[I7]
theorem Q9w {i:Nat} (a:i<(I7 l).length):(I7 l)[i]=(List.range l.length).map fun j=>Xi l (Y3 l i) (Y3 l j):=by simp[I7]
theorem Sl.elB {xs:List (List Bool)} {v:Value} (h:Sl 1 Q5L σ v xs) {i:Nat} (b:i<xs.length): ∃u,Z6 σ (Wj 1 v i) [u]∧Sl 1 Q3f σ u xs[i]:=by
 obtain ⟨cs,a,d,u,rfl,c⟩:=h.el b;exact ⟨u,a,c⟩
theorem Sl.elb {xs:List Bool} {v:Value} (h:Sl 1 Q3f σ v xs) {i:Nat} (c:i<xs.length):Z6 σ (Wj 1 v i) [.bool xs[i]]:=by
 obtain ⟨cs,b,d,a⟩:=h.el c
 have a:cs=_:=a
 subst a;exact b
theorem X23 {a b:X0} (n:X3 w σ) (z:Sl 8 U9 σ v (Q4 l)) (t:Wf l) (ok:Ok (Q4 l)) (C:(Q4 l).length≤1000) (W:a.length≤U2) (hb:b.length≤U2) (h: ∀w' Z,Stp w σ w' Z→K (.bool (Xo (Q4 l) a b)) w'):Q1 P F.bT [v,S a,S b] w K:=Q0T (by
 unfold El
 have p: ∀r,Xo (Q4 l) a b=r→K (.bool r) w:=fun r e=>by rw[←e];exact h _ _ (Stp.refl n)
 refine Dy n z W ?_
 cases g:N1 (Q4 l) a with
 | false=>
  have O:Xo (Q4 l) a b=false:=by unfold Xo;simp[g]
  (try simp only[↓M1,M1,Mb,reduceIte])
  by_cases e:a=b
  ·have f:decide (a=b)=true:=by simpa using e
   simp only[f,↓M1,M1,Mb,reduceIte]
   refine Dy n z W ?_
   rw[g]
   (try simp only[↓M1,M1,Mb,reduceIte])
   exact p _ O
  ·have f:decide (a=b)=false:=by simpa using e
   simp only[f,↓M1,M1,Mb,reduceIte]
   exact p _ O
 | true=>
 (try simp only[↓M1,M1,Mb,reduceIte])
 refine Dy n z hb ?_
 cases k:N1 (Q4 l) b with
 | false=>
  have O:Xo (Q4 l) a b=false:=by unfold Xo;simp[k]
  have f:decide (a=b)=false:=by
   rw[decide_eq_false_iff_not];rintro rfl;rw[g] at k;cases k
  simp only[f,↓M1,M1,Mb,reduceIte]
  exact p _ O
 | true=>
 (try simp only[↓M1,M1,Mb,reduceIte])
 by_cases e:a=b
 ·have f:decide (a=b)=true:=by simpa using e
  simp only[f,↓M1,M1,Mb,reduceIte]
  refine Dy n z W ?_
  rw[g]
  (try simp only[↓M1,M1,Mb,reduceIte])
  exact p _ (t.sub_iff.2 ⟨g,k, .inl e⟩)
 have f:decide (a=b)=false:=by simpa using e
 simp only[f,↓M1,M1,Mb,reduceIte]
 refine Ee _ ?_
 have c:(∀(_:plain a=false∧plain b=false∧(a=H8∨(elem a≠[]∧b=U1)∨(lk (Q4 l) a≠none∧Hm.Reach (lk (Q4 l)) a b))),False)→K (.bool false) w:=fun hx=>p _ (eq_false_of_ne_true fun ht=>by
  obtain ⟨_,_,h3⟩:=t.sub_iff.1 ht
  rcases h3 with h3 | h3
  ·exact e h3
  ·exact hx h3)
 cases s:plain a with
 | true=>(try simp only[↓M1,M1,Mb,reduceIte]);exact c fun hx=>by rw[s] at hx;cases hx.1
 | false=>
 (try simp only[↓M1,M1,Mb,reduceIte])
 refine Ee _ ?_
 cases L:plain b with
 | true=>(try simp only[↓M1,M1,Mb,reduceIte]);exact c fun hx=>by rw[L] at hx;cases hx.2.1
 | false=>
 (try simp only[↓M1,M1,Mb,reduceIte])
 by_cases M:b=H8
 ·have f:decide (b=[110,117,108,108])=true:=by rw[decide_eq_true_eq];exact M
  simp only[f,↓M1,M1,Mb,reduceIte]
  refine c fun ⟨_,_,hx⟩=>?_
  rcases hx with hx | ⟨_,hx⟩ | ⟨_,hx⟩
  ·exact e (hx.trans M.symm)
  ·rw[M] at hx;exact absurd hx (by decide)
  ·obtain ⟨d,A⟩:=hx.right
   rw[M,t.none_null] at A;cases A
 have Q:decide (b=[110,117,108,108])=false:=by rw[decide_eq_false_iff_not];exact M
 simp only[Q,↓M1,M1,Mb,reduceIte]
 by_cases m:a=H8
 ·have f:decide (a=[110,117,108,108])=true:=by rw[decide_eq_true_eq];exact m
  simp only[f,↓M1,M1,Mb,reduceIte]
  exact p _ (t.sub_iff.2 ⟨g,k, .inr ⟨s,L, .inl m⟩⟩)
 have D:decide (a=[110,117,108,108])=false:=by rw[decide_eq_false_iff_not];exact m
 simp only[D,↓M1,M1,Mb,reduceIte]
 by_cases H:b=U1
 ·have f:decide (b=[79,98,106,101,99,116])=true:=by rw[decide_eq_true_eq];exact H
  simp only[f,↓M1,M1,Mb,reduceIte]
  exact p _ (by rw[H];exact t.sub_root g s)
 have X:decide (b=[79,98,106,101,99,116])=false:=by rw[decide_eq_false_iff_not];exact H
 simp only[X,↓M1,M1,Mb,reduceIte]
 refine K0 n z ?_
 refine K0 n z ?_
 refine P7 ?_
 rw[A5]
 cases y:Z3 (Q4 l) a with
 | none=>
  simp only[Option.isSome_none,↓M1,M1,Mb,reduceIte]
  refine c fun ⟨_,_,hx⟩=>?_
  rcases hx with hx | ⟨_,hx⟩ | ⟨hx,_⟩
  ·exact m hx
  ·exact H hx
  ·exact hx (by unfold lk;rw[y];rfl)
 | some i=>
 simp only[Option.isSome_some,↓M1,M1,Mb,reduceIte]
 cases E:Z3 (Q4 l) b with
 | none=>
  simp only[A5,Option.isSome_none,↓M1,M1,Mb,reduceIte]
  refine c fun ⟨_,_,hx⟩=>?_
  rcases hx with hx | ⟨_,hx⟩ | ⟨_,hx⟩
  ·exact m hx
  ·exact H hx
  ·obtain ⟨d,A⟩:=hx.right
   unfold lk at A;rw[E] at A;cases A
 | some j=>
 obtain ⟨hi,Y⟩:=S8 y
 obtain ⟨hj,V⟩:=S8 E
 simp only[A5,Option.isSome_some,↓M1,M1,Mb,reduceIte]
 simp only[L6]
 refine Q17 n z t.own (by omega) C ok.sm fun v1 w1 σ1 o B=>?_
 have q:i<(I7 (Q4 l)).length:=by rw[Q83];exact hi
 refine Y1 B q ?_
 obtain ⟨u,p1,U⟩:=Sl.elB B q
 refine X7 o.sat p1 rfl ?_
 rw[Q9w q] at U
 have J:j<((List.range (Q4 l).length).map fun j=>Xi (Q4 l) (Y3 (Q4 l) i) (Y3 (Q4 l) j)).length:=by simpa using hj
 refine Y1 U J ?_
 refine X7 o.sat (Sl.elb U J) rfl ?_
 (try simp only[↓M1,M1,Mb,reduceIte])
 simp only[List.getElem_map,List.getElem_range,Y,V]
 have N:Xo (Q4 l) a b=Xi (Q4 l) a b:=by
  obtain ⟨ca,R,_⟩:=Zk y
  rw[Bool.eq_iff_iff,t.sub_class R,Uc,Q0B]
  constructor
  ·rintro (⟨hx,_⟩ | hx)
   ·exact absurd hx e
   ·exact hx
  ·exact .inr
 rw[←N]
 exact h _ _ o)
end Go.Proofs.YtjdiakhipmggjaaGreatDoor

namespace Go.Proofs.YtjdiakhipmggjaaGreatDoor
open Go.Emb Go.RowKit Go.Kd Go.Hm
variable {w : World} {K : Value → World → Prop} {σ : Q6} {l : List Cla} {v : Value}
end Go.Proofs.YtjdiakhipmggjaaGreatDoor

namespace Go.Emb
open Go.RowKit Go.Hm
def O5 (σ:Q6) (x:List Cla×Int×List Cel) (ds:List Value):Prop:= ∃a b,ds=[a,I x.2.1,b]∧Sl 8 U9 σ a x.1∧Sl 2 E4 σ b x.2.2
instance:Rep O5:=⟨fun hk ⟨lv,cv,h1,h2,h3⟩=>⟨lv,cv,h1,h2.le hk,h3.le hk⟩,fun ⟨lv,cv,h1,h2,h3⟩ u hu=>by
 rw[h1] at hu;simp at hu;rcases hu with rfl | rfl | rfl
 ·exact A8 h2
 ·rfl
 ·exact A8 h3⟩
theorem W4 {σ σ':Q6} {x:List Cla×Int×List Cel} {cs:List Value} (h:O5 σ x cs) (k:SLe σ σ'):O5 σ' x cs:=Rep.up k.le h
theorem O5.out {σ:Q6} {l:List Cla} {room:Int} {cs:List Cel} {ds:List Value} (h:O5 σ (l,room,cs) ds): ∃a b,ds=[a,I room,b]∧Sl 8 U9 σ a l∧Sl 2 E4 σ b cs:=h
end Go.Emb
namespace Go.Proofs.YtjdiakhipmggjaaGreatDoor
open Go.Emb Go.RowKit Go.Kd Go.Hm
variable {w w' : World} {K : Value → World → Prop} {σ σ' : Q6} {ds : List Value} {room : Int} {cs : List Cel} {l : List Cla}
theorem Q9A {k:X0} (N:X3 w σ) (h: ∀w' σ',Stp w σ w' σ'→K (.agg [I (M5 k).sort,I (M5 k).n,S (M5 k).s,I (M5 k).ref].toArray) w'):Q1 P F.aP [S k] w K:=Al (by
 unfold De
 refine M0 N fun b w1 σ1 X r u=>?_
 have hB:=L9 X (Stp.refl N)
 refine W1 (cells:= #[I 0,I 0,S [],I 0]) (by kernel_rfl) ?_
 refine M0 r.sat fun D w2 E M y v=>?_
 have B:=r.trans y
 have m:=L9 M r
 have g:b≠D:=by have:=u.lt;omega
 refine Wc (ds:=[I 0,I 0,S [],I 0]) v rfl rfl (by rw[List.all_toArray];exact List.all_eq_true.2 Ck) fun R Q a=>?_
 have o:=Q.stp B m v.1
 have c:=(u.up y).upd Q g
 have j: ∀(n:Int) (f:World),Y2 E f D [I n,I 0,S [],I 0]→Y2 E f b [I 0,I 0,S [],I 0]→Stp w σ f E→(∀w' σ',Stp w σ w' σ'→K (.agg [I n,I 0,S [],I 0].toArray) w')→Q2 P T.g (.pointer (some ⟨D,0,none⟩)) f fun H w=>
  X9 P T.g (.pointer (some ⟨b,0,none⟩)) H w fun _u w=>
  Y7 P T.g (.pointer (some ⟨b,0,none⟩)) w fun V=>K V w:=fun n f t q Z U=>
  Dz t rfl (G8 q Z hB rfl rfl Ck fun w5 C J=>V2 J rfl (U _ _ C.stp))
 have W:decide (k=[105,110,116])=decide (k=P9):=rfl
 have O:decide (k=[98,111,111,108])=decide (k=Jb):=rfl
 have L:decide (k=[116,101,120,116])=decide (k=D0):=rfl
 unfold M5 at h
 refine V0 ?_
 refine P6 ?_
 rw[W]
 by_cases q:k=P9
 ·simp only[if_pos q] at h
  have Y:decide (k=Jb)=false:=by subst q;decide
  have A:decide (k=D0)=false:=by subst q;decide
  rw[decide_eq_true q]
  refine J7 ?_
  refine W3 ?_
  refine Jz (i:=0) a (by simp) rfl rfl fun f p e=>?_
  intro d
  refine V0 ?_
  refine P6 ?_
  rw[O,Y]
  refine Z7 ?_
  intro d
  refine V0 ?_
  refine P6 ?_
  rw[L,A]
  refine Z7 ?_
  intro d
  exact j 1 f e (c.upd p g) (p.stp o m a.1) h
 simp only[if_neg q] at h
 rw[decide_eq_false q]
 refine Z7 ?_
 intro d
 refine V0 ?_
 refine P6 ?_
 rw[O]
 by_cases t:k=Jb
 ·simp only[if_pos t] at h
  have A:decide (k=D0)=false:=by subst t;decide
  rw[decide_eq_true t]
  refine J7 ?_
  refine W3 ?_
  refine Jz (i:=0) a (by simp) rfl rfl fun f p e=>?_
  intro d
  refine V0 ?_
  refine P6 ?_
  rw[L,A]
  refine Z7 ?_
  intro d
  exact j 2 f e (c.upd p g) (p.stp o m a.1) h
 simp only[if_neg t] at h
 rw[decide_eq_false t]
 refine Z7 ?_
 intro d
 refine V0 ?_
 refine P6 ?_
 rw[L]
 by_cases z:k=D0
 ·simp only[if_pos z] at h
  rw[decide_eq_true z]
  refine J7 ?_
  refine W3 ?_
  refine Jz (i:=0) a (by simp) rfl rfl fun f p e=>?_
  intro d
  exact j 3 f e (c.upd p g) (p.stp o m a.1) h
 ·simp only[if_neg z] at h
  rw[decide_eq_false z]
  refine Z7 ?_
  intro d
  exact j 0 R a c o h)
theorem Q5Z (k:X3 w σ) (hh:O5 σ (l,room,cs) ds) (m:0≤W6 room cs) (v:room≤1048576) (h: ∀w' σ',Stp w σ w' σ'→K (I (W6 room cs)) w'):Q1 P F.ac [.agg ds.toArray] w K:=Aq (by
 obtain ⟨z,H,rfl,B,p⟩:=O5.out hh
 unfold Oh
 refine Z1 k fun q w1 σ1 f j=>?_
 have b:=f.sat
 have c:=p.up f
 refine W3 ?_
 refine ld b j rfl ?_
 unfold W6 at h m
 refine E2 cs.length (fun n x w'=>w'=w1∧x=I (room-Z0 (cs.take n))) ⟨rfl,by simp[Z0]⟩ fun n x u d E i=>?_
 obtain ⟨rfl,rfl⟩:=i
 have e:Z0 cs=Z0 (cs.take n)+Z0 (cs.drop n):=by rw[←T7,List.take_append_drop]
 have s:=M4 (cs.take n)
 have t:=M4 (cs.drop n)
 refine W3 ?_
 refine ld b j rfl ?_
 refine Q8 c ?_
 refine Y9 ?_
 refine Q7 (fun g=>?_) (fun g=>?_)
 ·have a:n<cs.length:=by simpa using g
  obtain ⟨y,r,o,D⟩:=Sl.elO c a
  refine W3 ?_
  refine ld b j rfl ?_
  refine Y1 c a ?_
  refine W3 ?_
  refine ld b r rfl ?_
  refine Q8 o ?_
  have C:Z0 (cs.drop n)=(1+(cs[n].vals.length:Int))+Z0 (cs.drop (n+1)):=by
   rw[List.drop_eq_getElem_cons a];simp only[Z0,List.map_cons,List.sum_cons]
  have A:=M4 (cs.drop (n+1))
  have J:Z0 (cs.take (n+1))=Z0 (cs.take n)+(1+(cs[n].vals.length:Int)):=by
   rw[List.take_add_one,List.getElem?_eq_getElem a,T7];simp[Z0]
  refine Xw ⟨by omega,by omega⟩ ?_
  refine Zp ⟨by omega,by omega⟩ ?_
  refine N3 ?_
  refine J5 c.max a ⟨rfl,?_⟩
  congr 1;omega
 ·have a: ¬n<cs.length:=by simpa using g
  rw[List.take_of_length_le (by omega)]
  exact h _ _ f)
theorem Q9l {n:X0} {g:Value} (j:X3 w σ) (e:Sl 8 U9 σ g l) (h:K (.bool (A9 l n)) w):Q1 P F.b7 [g,S n] w K:=Bw (by
 unfold Wd
 refine K0 j e ?_
 refine P7 ?_
 rw[A5]
 unfold A9 at h
 cases b:lk l n with
 | none=>
  rw[b] at h
  rw[Q1j b]
  simp only[Option.isSome_none,↓M1,M1,Mb,reduceIte]
  exact h
 | some c=>
  rw[b] at h
  obtain ⟨_,_,i,o,f⟩:=V3 b
  obtain ⟨a,d⟩:=List.getElem?_eq_some_iff.1 f
  obtain ⟨m,p,q,k,_⟩:=e.elC a
  rw[d] at k
  rw[o]
  simp only[Option.isSome_some,L6,↓M1,M1,Mb,reduceIte]
  refine Y1 e a ?_
  (try simp only[↓M1,M1,Mb,reduceIte])
  refine ld j k rfl ?_
  (try simp only[↓M1,M1,Mb,reduceIte])
  exact h)
theorem Q7B {r i:Int} (t:X3 w σ) (hh:O5 σ (l,room,cs) ds) (h: ∀w' σ',Stp w σ w' σ'→K (I (E3 cs r i)) w'):Q1 P F.aM [.agg ds.toArray,I r,I i] w K:=Pw (by
 obtain ⟨z,B,rfl,A,d⟩:=O5.out hh
 unfold Od
 refine Z1 t fun q w1 σ1 a n=>?_
 have c:=a.sat
 have g:=d.up a
 refine Y9 ?_
 unfold E3 at h
 have b:M6 cs r=false→K (I 92) w1:=fun e=>by
  have:=h _ _ a
  rw[e] at this
  exact this
 by_cases m:r<0
 ·rw[decide_eq_true m]
  (try simp only[↓M1,M1,Mb,reduceIte])
  exact b (by simp only[M6,Bool.and_eq_false_iff,decide_eq_false_iff_not];left;omega)
 rw[decide_eq_false m]
 (try simp only[↓M1,M1,Mb,reduceIte])
 refine ld c n rfl ?_
 refine Q8 g ?_
 refine P7 ?_
 (try simp only[↓M1,M1,Mb,reduceIte])
 by_cases o:(cs.length:Int)≤r
 ·rw[decide_eq_true o]
  refine J7 ?_
  exact b (by simp only[M6,Bool.and_eq_false_iff,decide_eq_false_iff_not];right;omega)
 rw[decide_eq_false o]
 refine Z7 ?_
 have p:M6 cs r=true:=by simp only[M6,Bool.and_eq_true,decide_eq_true_eq];omega
 obtain ⟨j,rfl,k⟩:=D9.1 p
 rw[p,L4 k] at h
 obtain ⟨y,v,u,_⟩:=Sl.elO g k
 by_cases s:i<0
 ·rw[decide_eq_true s]
  (try simp only[↓M1,M1,Mb,reduceIte])
  have:=h _ _ a
  rw[if_pos rfl,if_neg (by omega)] at this
  exact this
 ·rw[decide_eq_false s]
  (try simp only[↓M1,M1,Mb,reduceIte])
  refine ld c n rfl ?_
  refine Y1 g k ?_
  (try simp only[↓M1,M1,Mb,reduceIte])
  refine ld c v rfl ?_
  refine Q8 u ?_
  refine P7 ?_
  (try simp only[↓M1,M1,Mb,reduceIte])
  have f:=h _ _ a
  refine Q7 (fun d=>?_) (fun d=>?_)
  ·have d:(cs[j].vals.length:Int)≤i:=by simpa using d
   rw[if_pos rfl,if_neg (by omega)] at f
   exact f
  ·have d: ¬(cs[j].vals.length:Int)≤i:=by simpa using d
   rw[if_pos rfl,if_pos (by omega)] at f
   exact f)
theorem X3L {r i:Int} (J:X3 w σ) (hh:O5 σ (l,room,cs) ds) (h: ∀w' σ',Stp w σ w' σ'→K (.tuple #[.agg [I (Ho cs r i).sort,I (Ho cs r i).n,S (Ho cs r i).s,I (Ho cs r i).ref].toArray,I (E3 cs r i)]) w'):Q1 P F.bQ [.agg ds.toArray,I r,I i] w K:=Q1i (by
 have z:=hh
 obtain ⟨X,Z,rfl,Y,N⟩:=O5.out hh
 unfold Ef
 refine Z1 J fun q w0 σ0 k B=>?_
 refine M0 k.sat fun b w1 σ1 O a y=>?_
 have v:=k.trans a
 have hB:=L9 O k
 have u:=B.up a
 refine Y4 a.sat u rfl ?_
 refine Q7B a.sat (W4 z ⟨v.le⟩) fun U V c=>?_
 have d:=v.trans c
 have f:=c.sat
 have t:=y.up c
 have C:=u.up c
 refine Za ?_
 unfold Ho at h
 by_cases p:E3 cs r i=0
 ·have e:decide (E3 cs r i=0)=true:=decide_eq_true p
  rw[if_pos p,p] at h
  simp only[e,Bool.not_true,↓M1,M1,Mb,reduceIte]
  obtain ⟨j,m,rfl,rfl,D,A⟩:=Lw p
  rw[L4 D,Int.toNat_natCast] at h
  have H:=N.up d
  obtain ⟨W,Q,E,_⟩:=Sl.elO H D
  obtain ⟨R,M⟩:=Sl.elV E A
  refine ld f C rfl ?_
  refine Y1 H D ?_
  (try simp only[↓M1,M1,Mb,reduceIte])
  refine ld f Q rfl ?_
  refine Y1 E A ?_
  refine Y4 f R rfl ?_
  refine G8 t d hB rfl rfl (Rep.one M) fun L g o=>?_
  refine V2 o rfl ?_
  have e:cs[j].vals.getD m Val.zero=cs[j].vals[m]:=by rw[List.getD_eq_getElem?_getD,List.getElem?_eq_getElem A];rfl
  rw[e] at h
  exact h _ _ g.stp
 ·have e:decide (E3 cs r i=0)=false:=by simpa using p
  rw[if_neg p] at h
  simp only[e,Bool.not_false,↓M1,M1,Mb,reduceIte]
  refine W1 (cells:= #[I 0,I 0,S [],I 0]) (by kernel_rfl) ?_
  refine G8 (ds:=[I 0,I 0,S [],I 0]) t d hB rfl rfl Ck fun L g o=>?_
  refine V2 o rfl ?_
  exact h _ _ g.stp)
theorem X36 (o:X3 w σ) (hh:O5 σ (l,room,cs) ds) (ok:Ok l) (c:l.length≤1000) {k:X0} {r:Value} {i:Nat} (t:k.length≤U2) (j:elem k=[]→i<(Y6 l k).length)
 (h: ∀w' σ',Stp w σ w' σ'→K (S (Xl l k i)) w'):Q1 P F.bE [.agg ds.toArray, .agg [S k,r].toArray,I i] w K:=Q0b (by
 obtain ⟨A,D,rfl,s,B⟩:=O5.out hh
 unfold On
 refine Z1 o fun v w0 σ0 d m=>?_
 refine Z1 d.sat fun q w1 σ1 a n=>?_
 have b:=d.trans a
 refine W3 ?_
 refine ld (i:=0) a.sat n rfl ?_
 refine X0D k (Nat.le_trans t (by decide)) ?_
 refine Jh ?_
 unfold Xl at h
 by_cases e:elem k=[]
 ·simp only[if_pos e] at h
  rw[decide_eq_true e]
  (try simp only[↓M1,M1,Mb,reduceIte])
  refine ld (i:=0) a.sat (m.up a) rfl ?_
  refine ld (i:=0) a.sat n rfl ?_
  refine Kn a.sat (s.up b) ok.acy c ok.sm fun z C y f g=>?_
  refine Y1 g (j e) ?_
  obtain ⟨p,_⟩:=g.elF (j e)
  (try simp only[↓M1,M1,Mb,reduceIte])
  refine ld f.sat p rfl ?_
  have u:(Y6 l k).getD i Fld.zero=(Y6 l k)[i]'(j e):=by rw[List.getD_eq_getElem?_getD,List.getElem?_eq_getElem (j e)];rfl
  rw[u] at h
  exact h _ _ (b.trans f)
 ·simp only[if_neg e] at h
  rw[decide_eq_false e]
  (try simp only[↓M1,M1,Mb,reduceIte])
  exact h _ _ b)
theorem X44 {ok:X0→Bool} {b d:Int} {c:X0}:P8 ok cs ⟨0,b,c,d⟩=if b=0∧c=[]∧d=0 then H8 else []:=by
 simp[P8,Val.zero]
theorem X3V {ok:X0→Bool} {b d:Int} {c:X0}:P8 ok cs ⟨1,b,c,d⟩=if c=[]∧d=0 then P9 else []:=by
 simp[P8,Val.zero]
theorem X3U {ok:X0→Bool} {b d:Int} {c:X0}:P8 ok cs ⟨2,b,c,d⟩=if (c=[]∧d=0)∧(b=0∨b=1) then Jb else []:=by
 simp[P8,Val.zero]
theorem X4h {ok:X0→Bool} {b d:Int} {c:X0}:P8 ok cs ⟨3,b,c,d⟩=if (b=0∧d=0)∧ok c=true then D0 else []:=by
 simp[P8,Val.zero]
theorem X3P {ok:X0→Bool} {b d:Int} {c:X0}:P8 ok cs ⟨4,b,c,d⟩=if b=0∧c=[] then D6 cs d else []:=by
 simp[P8,Val.zero]
theorem X48 {ok:X0→Bool} {a b d:Int} {c:X0} (h:a≠0) (e:a≠1) (i:a≠2) (f:a≠3) (g:a≠4):P8 ok cs ⟨a,b,c,d⟩=[]:=by
 simp[P8,Val.zero,h,e,i,f,g]
set_option maxHeartbeats 2000000 in
theorem X4A {v:Val} (hs:X3 w σ) (hh:O5 σ (l,room,cs) ds) (hb:v.s.length≤U2) (h: ∀w' σ',Stp w σ w' σ'→K (S (P8 W7 cs v)) w'):Q1 P F.c3 [.agg ds.toArray, .agg [I v.sort,I v.n,S v.s,I v.ref].toArray] w K:=Q21 (by
 obtain ⟨lv,cv,rfl,hl,hc⟩:=O5.out hh
 unfold Hz
 refine Z1 hs fun q0 w0 σ0 L B=>?_
 refine Z1 L.sat fun q w1 σ1 D t=>?_
 have g:=L.trans D
 have f:=D.sat
 have B:=B.up D
 have Z:=hc.up g
 have k: ∀{Q:World} {σ2:Q6} {x:X0},Stp w σ Q σ2→P8 W7 cs v=x→K (S x) Q:=fun hS e=>by
  have:=h _ _ hS
  rw[e] at this
  exact this
 obtain ⟨a,b,c,d⟩:=v
 simp only at hb t
 have J: ∀r,M6 cs r=false→D6 cs r=[]:=fun r e=>by unfold D6;rw[e];rfl
 refine W3 ?_
 refine ld f t rfl ?_
 refine P4 ?_
 have z: ∀{A:Value→World→Prop},(∀p:Bool,p=(decide (d=0)&&decide (c=[]))→A (.bool p) w1)→Q0 (.bool (decide (d=0))) true w1 (fieldAddr P T.g (.pointer (some q)) 2) (fun Y w=>
  Q0 (.bool (decide (d=0))) true w (Q2 P T.c Y) fun W w=>
  Q0 (.bool (decide (d=0))) true w (Q3 P .eql T.c (.tmp 11) (.const (.string ⟨#[]⟩)) W (.string ⟨#[]⟩)) fun U w=>
  pick P (.bool (decide (d=0))) U (.bool false) w A):=fun {A} hA=>by
  cases hd:decide (d=0) with
  | false=>(try simp only[↓M1,M1,Mb,reduceIte]);exact hA false (by simp[hd])
  | true=>
   (try simp only[↓M1,M1,Mb,reduceIte])
   refine ld f t rfl ?_
   (try simp only[↓M1,M1,Mb,reduceIte])
   exact hA _ (by simp[hd])
 refine z fun p hp=>?_
 refine Zy (fun _ w'=>Stp w σ w' σ1∧P8 W7 cs ⟨a,b,c,d⟩=[]) ?_ (fun _ d' w' hz=>k hz.1 hz.2)
 refine W3 ?_
 refine ld (i:=0) f t rfl ?_
 refine P4 ?_
 have C:(p=true)↔(c=[]∧d=0):=by rw[hp];simp[and_comm]
 have E:p=false→ ¬(c=[]∧d=0):=fun e h=>by rw[C.2 h] at e;cases e
 by_cases R:a=0
 ·subst R
  rw[X44] at*
  rw[decide_eq_true rfl]
  refine J7 ?_
  cases o:p with
  | false=>
   (try simp only[↓M1,M1,Mb,reduceIte])
   exact ⟨g,if_neg fun e=>E o e.2⟩
  | true=>
   have y:=C.1 o
   (try simp only[↓M1,M1,Mb,reduceIte])
   refine ld f t rfl ?_
   (try simp only[↓M1,M1,Mb,reduceIte])
   by_cases m:b=0
   ·rw[decide_eq_true m]
    (try simp only[↓M1,M1,Mb,reduceIte])
    exact k g (if_pos ⟨m,y⟩)
   ·rw[decide_eq_false m]
    (try simp only[↓M1,M1,Mb,reduceIte])
    exact ⟨g,if_neg fun e=>m e.1⟩
 rw[decide_eq_false R]
 refine Z7 ?_
 refine P4 ?_
 by_cases O:a=1
 ·subst O
  rw[X3V] at*
  rw[decide_eq_true rfl]
  refine J7 ?_
  cases o:p with
  | false=>exact Z7 ⟨g,if_neg (E o)⟩
  | true=>exact J7 (k g (if_pos (C.1 o)))
 rw[decide_eq_false O]
 refine Z7 ?_
 refine P4 ?_
 by_cases a2:a=2
 ·subst a2
  rw[X3U] at*
  rw[decide_eq_true rfl]
  refine J7 ?_
  cases o:p with
  | false=>
   (try simp only[↓M1,M1,Mb,reduceIte])
   exact ⟨g,if_neg fun e=>E o e.1⟩
  | true=>
   have y:=C.1 o
   (try simp only[↓M1,M1,Mb,reduceIte])
   refine ld f t rfl ?_
   (try simp only[↓M1,M1,Mb,reduceIte])
   by_cases m:b=0
   ·rw[decide_eq_true m]
    (try simp only[↓M1,M1,Mb,reduceIte])
    exact k g (if_pos ⟨y, .inl m⟩)
   ·rw[decide_eq_false m]
    (try simp only[↓M1,M1,Mb,reduceIte])
    refine ld f t rfl ?_
    (try simp only[↓M1,M1,Mb,reduceIte])
    by_cases M:b=1
    ·rw[decide_eq_true M]
     (try simp only[↓M1,M1,Mb,reduceIte])
     exact k g (if_pos ⟨y, .inr M⟩)
    ·rw[decide_eq_false M]
     (try simp only[↓M1,M1,Mb,reduceIte])
     exact ⟨g,if_neg fun e=>e.2.elim m M⟩
 rw[decide_eq_false a2]
 refine Z7 ?_
 refine P4 ?_
 by_cases X:a=3
 ·subst X
  rw[X4h] at*
  rw[decide_eq_true rfl]
  refine J7 ?_
  refine W3 ?_
  refine ld f t rfl ?_
  refine P4 ?_
  by_cases m:b=0
  case neg=>
   rw[decide_eq_false m]
   (try simp only[↓M1,M1,Mb,reduceIte])
   exact ⟨g,if_neg fun e=>m e.1.1⟩
  rw[decide_eq_true m]
  (try simp only[↓M1,M1,Mb,reduceIte])
  refine ld f t rfl ?_
  (try simp only[↓M1,M1,Mb,reduceIte])
  by_cases u:d=0
  case neg=>
   rw[decide_eq_false u]
   (try simp only[↓M1,M1,Mb,reduceIte])
   exact ⟨g,if_neg fun e=>u e.1.2⟩
  rw[decide_eq_true u]
  (try simp only[↓M1,M1,Mb,reduceIte])
  refine ld f t rfl ?_
  refine Fw X8 ?_
  refine Q5d ?_
  by_cases c0:c.length≤4096
  case neg=>
   rw[decide_eq_false (show¬(c.length:Int)≤4096 by omega)]
   (try simp only[↓M1,M1,Mb,reduceIte])
   exact ⟨g,if_neg fun e=>c0 (by have:=e.2;simp only[W7,Bool.and_eq_true,decide_eq_true_eq] at this;exact this.1)⟩
  rw[decide_eq_true (show (c.length:Int)≤4096 by omega)]
  (try simp only[↓M1,M1,Mb,reduceIte])
  refine ld f t rfl ?_
  refine Q4n hb f fun Q aa=>?_
  have H:=g.trans (Stp.of_below f aa)
  cases hv:Lib.validD c with
  | true=>
   (try simp only[↓M1,M1,Mb,reduceIte])
   exact k H (if_pos ⟨⟨m,u⟩,by simp[W7,hv,c0]⟩)
  | false=>
   (try simp only[↓M1,M1,Mb,reduceIte])
   exact ⟨H,if_neg fun e=>by have:=e.2;simp[W7,hv] at this⟩
 rw[decide_eq_false X]
 refine Z7 ?_
 refine P4 ?_
 by_cases V:a=4
 case neg=>
  rw[decide_eq_false V]
  exact Z7 ⟨g,X48 R O a2 X V⟩
 subst V
 rw[X3P] at*
 rw[decide_eq_true rfl]
 refine J7 ?_
 refine W3 ?_
 refine ld f t rfl ?_
 refine P4 ?_
 by_cases m:b=0
 case neg=>
  rw[decide_eq_false m]
  (try simp only[↓M1,M1,Mb,reduceIte])
  exact ⟨g,if_neg fun e=>m e.1⟩
 rw[decide_eq_true m]
 (try simp only[↓M1,M1,Mb,reduceIte])
 refine ld f t rfl ?_
 (try simp only[↓M1,M1,Mb,reduceIte])
 by_cases c0:c=[]
 case neg=>
  rw[decide_eq_false c0]
  (try simp only[↓M1,M1,Mb,reduceIte])
  exact ⟨g,if_neg fun e=>c0 e.2⟩
 rw[decide_eq_true c0]
 (try simp only[↓M1,M1,Mb,reduceIte])
 refine ld f t rfl ?_
 refine P7 ?_
 rw[if_pos ⟨m,c0⟩] at*
 by_cases u:0≤d
 case neg=>
  rw[decide_eq_false u]
  (try simp only[↓M1,M1,Mb,reduceIte])
  exact ⟨g,J d (by simp[M6,u])⟩
 rw[decide_eq_true u]
 (try simp only[↓M1,M1,Mb,reduceIte])
 refine ld f t rfl ?_
 refine ld f B rfl ?_
 refine Q8 Z ?_
 refine Y9 ?_
 (try simp only[↓M1,M1,Mb,reduceIte])
 by_cases N:d<(cs.length:Int)
 case neg=>
  rw[decide_eq_false N]
  exact Z7 ⟨g,J d (by simp[M6,N])⟩
 rw[decide_eq_true N]
 refine J7 ?_
 obtain ⟨j,rfl,hj⟩:=D9.1 (show M6 cs d=true by simp[M6,u,N])
 obtain ⟨vv,p1,p2,_⟩:=Sl.elO Z hj
 refine ld f B rfl ?_
 refine ld f t rfl ?_
 refine Y1 Z hj ?_
 (try simp only[↓M1,M1,Mb,reduceIte])
 refine ld f p1 rfl ?_
 exact k g (Zc hj))
end Go.Proofs.YtjdiakhipmggjaaGreatDoor

namespace Go.Emb
open Go.RowKit Go.Hm
section
variable {α : Type} {P : Program} {R R' : Q6 → α → List Value → Prop} {sz : Nat} {e : TypeId} {σ σ0 σ' : Q6} {v u : Value} {xs ys : List α} {w w0 w' : World} {K : Value → World → Prop}
theorem X0C {t A:TypeId} {p:Nat} {z:Value} {cs:List Bool} [ts:TS P t e] [tz:TZ P e sz p z] [hr:Rep R] [hr':Rep R'] (O:Stp w0 σ0 w σ) (ha:V7 w0.heap.size e sz R σ w v xs) (N:X3 w σ') (Q:Sl sz R' σ' u ys) (hR: ∀x cs,R' σ' x cs→R σ x cs) (E:(z.cells.size==sz&&decide (0<sz))=true)
 (hb:(xs.length+ys.length)*p≤140737488355328) (hm:xs.length+ys.length≤9223372036854775807)
 (h: ∀d w',w.grownBy w' v.ownBlock→Stp w0 σ0 w' σ→V7 w0.heap.size e sz R σ w' d (xs++ys)→(d.ownBlock=v.ownBlock∨ ∀k,d.ownBlock=some k→w.heap.size≤k)→K d w'):X2 P .append [t,t] A cs [v,u] w K:=by
 obtain ⟨cells,y,V,h3⟩:=ha
 obtain ⟨a,n,c,rfl,U,X,n3,n4,n5⟩:=Q.cells N
 obtain ⟨i,M,H,L,r⟩:=tz.info
 have q: ∀d w',(Builtin.append_ #[t,t] A #[v, .slice a ys.length n]).run P w= .ok d w'→w'.ownsRow w0.heap.size e sz d (xs.length+ys.length) (cells++c)→w.grownBy w' v.ownBlock→(d.ownBlock=v.ownBlock∨d.ownBlock=some w.heap.size)→X2 P .append [t,t] A cs [v, .slice a ys.length n] w K:=by
  intro d w' B f m hat
  have s:(builtin .append #[t,t] A cs.toArray #[v, .slice a ys.length n]).run P w= .ok (.value d) w':=by
   simp[builtin,B]
  unfold X2
  rw[T3];unfold P5
  rw[s]
  refine h d w' m (Stp.turn m O fun k o=>⟨(y.lt k o).1,V k o⟩) ⟨cells++c,by rw[List.length_append];exact f,?_,?_⟩ ?_
  ·intro k o
   rcases hat with hat | hat
   ·exact V k (hat▸o)
   ·rw[hat] at o;cases o;exact O.sat.none (Nat.le_refl _)
  ·intro j x C
   by_cases Y:j<xs.length
   ·rw[List.getElem?_append_left Y] at C
    rw[La cells c xs.length j y.1 Y]
    exact h3 j x C
   ·rw[List.getElem?_append_right (by omega)] at C
    have:=hR _ _ (n5 _ _ C)
    rw[show j*sz=cells.length+(j-xs.length)*sz by rw[y.1,←Nat.add_mul];congr 1;omega,List.drop_append]
    simpa [List.drop_eq_nil_of_le] using this
  ·rcases hat with hat | hat
   ·exact .inl hat
   ·right;intro k o;rw[hat] at o;cases o;exact Nat.le_refl _
 simp only[Bool.and_eq_true,beq_iff_eq,decide_eq_true_eq] at E
 cases a with
 | some b=>
  obtain ⟨d,w',g1,g2,Z,_,g5⟩:=run_append_own_at (P:=P) w w0.heap.size t A e i z sz p ts.h M r H L E.1 E.2 v xs.length cells y b ys.length n c X (n3 b rfl) n4 (by simp only[maxLen];omega) hb O.bel.size
  exact q d w' g1 g2 Z g5
 | none=>
  have hy:ys=[]:=List.eq_nil_of_length_eq_zero (by obtain ⟨a',W,e',q1,_,q3,_⟩:=Q;injection e' with _ e2 e3;have:=U rfl;subst e3;omega)
  have J:=U rfl
  subst hy J
  have hn:c=[]:=List.eq_nil_of_length_eq_zero (by simpa using X)
  subst hn
  have f:=y
  rcases y.2 with ⟨rfl,h0⟩ | ⟨g,n,ah,rfl,an,hg,D,_⟩
  ·refine q (.slice none 0 0) w ?_ (by simpa using f) (World.grownBy.refl w _) (.inl rfl)
   simp[Builtin.append_,run_underlying ts.h,sizeOf,typeInfo,M,Builtin.lenOf,Builtin.firstCells]
  ·refine q _ w ?_ (by simpa using f) (World.grownBy.refl w _) (.inl rfl)
   simp[Builtin.append_,run_underlying ts.h,sizeOf,typeInfo,M,Builtin.lenOf,Builtin.firstCells,D,storeCells]
end
def Q6A {α:Type} (c:α) (ds:List Value) (_:Q6) (x:α) (cs:List Value):Prop:=x=c∧cs=ds∧ ∀u∈ds,u.oneCell'=true
instance {α:Type} (c:α) (ds:List Value):Rep (Q6A c ds):=⟨fun _ h=>h,fun h u hu=>h.2.2 u (h.2.1▸hu)⟩
end Go.Emb
namespace Go.Proofs.YtjdiakhipmggjaaGreatDoor
open Go.Emb Go.RowKit Go.Kd Go.Hm
variable {w w' : World} {K : Value → World → Prop} {σ σ' : Q6} {ds : List Value} {room : Int} {cs : List Cel} {l : List Cla}
theorem Q6W {c:Value} (b:Sl 2 E4 σ c cs) (r:Int):(D6 cs r).length≤U2:=by
 unfold D6
 split
 ·rename_i d
  obtain ⟨i,rfl,a⟩:=D9.1 d
  rw[L4 a]
  exact (Sl.elO b a).choose_spec.2.2
 ·exact Nat.zero_le _
theorem X1i {a:Value} (b:Sl 2 E4 σ a cs) (v:Val):(P8 W7 cs v).length≤U2:=by
 unfold P8
 split
 ·decide
 split
 ·decide
 split
 ·decide
 split
 ·decide
 split
 ·exact Q6W b _
 ·exact Nat.zero_le _
theorem X2S {v:Val} {k:X0} (y:X3 w σ) (hh:O5 σ (Q4 l,room,cs) ds) (A:Wf l) (ok:Ok (Q4 l)) (f:(Q4 l).length≤1000) (H:v.s.length≤U2) (E:k.length≤U2) (h: ∀w' σ',Stp w σ w' σ'→K (.bool (F4 W7 (Q4 l) cs v k)) w'):Q1 P F.bA [.agg ds.toArray, .agg [I v.sort,I v.n,S v.s,I v.ref].toArray,S k] w K:=Q0h (by
 have t:=hh
 obtain ⟨O,U,rfl,C,B⟩:=O5.out hh
 unfold Og
 refine Z1 y fun L w0 σ0 j r=>?_
 refine Z1 j.sat fun q w1 σ1 b z=>?_
 have m:=j.trans b
 have c:=b.sat
 have g:=r.up b
 refine Y4 c g rfl ?_
 refine Y4 c z rfl ?_
 refine X4A c (W4 t ⟨m.le⟩) H fun M N a=>?_
 have d:=m.trans a
 refine Jh ?_
 unfold F4 at h
 have o:=X1i B v
 generalize P8 W7 cs v=D at*
 by_cases e:D=[]
 ·rw[decide_eq_true e] at h⊢
  (try simp only[↓M1,M1,Mb,reduceIte])
  exact h _ _ d
 ·rw[decide_eq_false e] at h⊢
  (try simp only[↓M1,M1,Mb,reduceIte])
  refine ld (i:=0) a.sat (g.up a) rfl ?_
  refine X23 a.sat (C.up d) A ok f o E fun J Q p=>?_
  (try simp only[↓M1,M1,Mb,reduceIte])
  exact h _ _ (d.trans p))
theorem Ri {m a:Nat} {b c:Value} {e:Int} {o:List Value} {w1:World} {σ1:Q6} (s:Stp w σ w1 σ1) (j:Y2 σ1 w1 m [b,I room,c]) (f:Y2 σ1 w1 a o) (p:o.length=3) (g:w.heap.size≤a) (n:O5 σ1 (l,room,cs) [b,I room,c]) (h: ∀w' σ',Stp w σ w' σ'→O5 σ' (l,room,cs) [b,I room,c]→K (.tuple #[.agg [b,I room,c].toArray,I e]) w'):
 Q2 P T.a (.pointer (some ⟨m,0,none⟩)) w1 fun i w=>
 X9 P T.a (.pointer (some ⟨a,0,none⟩)) i w fun _u w=>
 Y7 P T.a (.pointer (some ⟨a,0,none⟩)) w fun r=>
 K (.tuple #[r,(.int .i64 e)]) w:=
 Dz j rfl (G8 f s g p rfl (Rep.one n) fun q k d=>V2 d rfl (h q σ1 k.stp n))
set_option maxHeartbeats 1000000 in
theorem Q9k {p E b7:Nat} {X cv x:Value} {k:X0} {vals:List Val} {zs:List Value} {w1:World} {σ1:Q6} (hS:Stp w σ w1 σ1) (O:Y2 σ1 w1 p [X,I room,cv]) (Z:Y2 σ1 w1 E zs) (be:Y2 σ1 w1 b7 [S k,x]) (hz:zs.length=3) (ar:w.heap.size≤p) (a8:w.heap.size≤E) (ag:p≠E) (hl:Sl 8 U9 σ1 X l) (hc:Sl 2 E4 σ1 cv cs) (hx:Sl 4 O3 σ1 x vals) (hk:k.length≤U2) (b3:cs.length≤10000000)
 (h: ∀ae w' σ',Stp w σ w' σ'→O5 σ' (l,room,cs++[⟨k,vals⟩]) [X,I room,ae]→K (.tuple #[.agg [X,I room,ae].toArray,I 0]) w'):
 dr w1 fun m L=>
 Q5 m (fun z=> ∀w,L w→fieldAddr P T.a (.pointer (some ⟨p,0,none⟩)) 2 w (dk m z w)) fun z=>
 Q5 m (fun t=> ∀w,L w→buildSlice P T.f 0 [] w (dk m t w)) fun t=>
 Q5 m (fun r=> ∀f w,L w→z f w→Q2 P T.f f w (dk m r w)) fun r=>
 Q5 m (fun N=> ∀g d w,L w→t g w→r d w→X2 P .append [T.f,T.f] T.f [false,false] [g,d] w (dk m N w)) fun N=>
 Q5 m (fun q=> ∀w,L w→Q2 P T.m (.pointer (some ⟨b7,0,none⟩)) w (dk m q w)) fun q=>
 Q5 m (fun J=> ∀i w,L w→q i w→buildSlice P T.f 1 [(0,i)] w (dk m J w)) fun J=>
 ∀f g d M i Q w,L w→z f w→t g w→r d w→N M w→q i w→J Q w→
 X2 P .append [T.f,T.f] T.f [false,false] [M,Q] w fun a9 w=>
 fieldAddr P T.a (.pointer (some ⟨p,0,none⟩)) 2 w fun aq w=>
 X9 P T.f aq a9 w fun _u w=>
 Q2 P T.a (.pointer (some ⟨p,0,none⟩)) w fun ao w=>
 X9 P T.a (.pointer (some ⟨E,0,none⟩)) ao w fun _u w=>
 Y7 P T.a (.pointer (some ⟨E,0,none⟩)) w fun r0=>
 K (.tuple #[r0,(.int .i64 0)]) w:=by
 have av:=hS.sat
 have ak:E4 σ1 ⟨k,vals⟩ [S k,x]:=⟨x,rfl,hx,hk⟩
 have bz:x.cells= #[x]:=by obtain ⟨a,c,rfl,_⟩:=hx;rfl
 have ay: ∀{w':World} {K:Value→World→Prop},Hst w1 σ1 w' σ1→K cv w'→Q2 P T.f (.pointer (some ((⟨p,0,none⟩:Addr).add 2))) w' K:=fun W hK=>Yi (O.up W.stp) rfl hK
 have aw: ∀{w':World} {K:Value→World→Prop},Hst w1 σ1 w' σ1→K (.agg [S k,x].toArray) w'→Q2 P T.m (.pointer (some ⟨b7,0,none⟩)) w' K:=fun W hK=>Dz (be.up W.stp) rfl hK
 refine U0 av ?_
 (repeat refine Z9 Qa ?_)
 refine Q37 (R:=E4) (by decide) ?_
 refine Z9 (V:=cv) (fun f w n e=>?_) ?_
 ·subst e;exact ay n (L7 rfl)
 refine Q1P (w:=w1) (σ:=σ1) (R:=E4) (sz:=2) (e:=T.m) cs (fun g d w n bd a7=>?_) ?_
 ·obtain ⟨k1,a1,e1⟩:=bd
  subst a7
  exact X3B k1 a1 e1 (hc.up n.stp) rfl (by omega) (by omega) fun v' w' hk ha=>Q3h n hk ha
 refine Z9 (V:= .agg [S k,x].toArray) (fun w n=>?_) ?_
 ·exact aw n (L7 rfl)
 refine Uv (w:=w1) (σ:=σ1) (Φ:=fun σ' v=>Sl 2 (Q6A (⟨k,vals⟩:Cel) [S k,x]) σ' v [⟨k,vals⟩]) (fun i w n e=>?_) ?_
 ·subst e
  refine T4 (R:=Q6A (⟨k,vals⟩:Cel) [S k,x]) (sz:=2) n.sat [.agg [S k,x].toArray] [⟨k,vals⟩] rfl rfl (by simp[Value.cells]) rfl ⟨⟨rfl,rfl,Rep.one (R:=E4) ak⟩,trivial⟩ fun v w2 σ2 a5 a0=>Hr n a5 a0
 rintro f g d M i Q w2 bv rfl _ rfl ⟨az,ax⟩ rfl ⟨σ3,k3,s3⟩
 refine X0C az ax k3.sat s3 (fun y ds hy=>by obtain ⟨rfl,rfl,_⟩:=hy;exact ak) rfl (by simp;omega) (by simp;omega) fun v3 w3 bu a2 H _=>?_
 have hN:Stp w1 σ1 w3 σ1:=a2
 have C:=O.up hN
 have ad:=Z.up hN
 have ab:=Jo H
 refine W3 ?_
 refine Jz C (by simp) ab.1 ab.2 fun Y u4 A=>?_
 have aj:=O.lt
 have aa:V7 w1.heap.size T.m 2 E4 σ1 Y v3 (cs++[⟨k,vals⟩]):=H.kp (D:=fun j=>j=p) (.of_upd u4 rfl) fun j hj e=>by have:=(H.mem j hj).1;omega
 have B:=ad.upd u4 (fun e=>ag e.symm)
 have s:Stp w σ Y σ1:=u4.stp (hS.trans hN) ar C.1
 have af:X3 Y σ1:=s.sat
 obtain ⟨σ5,s5,l5,f5,o5⟩:=(J9.of_acc aa).freeze af
 have U: ∀j,j<w1.heap.size→σ5 j=σ1 j:=fun j hj=>o5 j fun e=>by have:=(aa.mem j e.symm).1;omega
 have ah:Y2 σ5 Y p [X,I room,v3]:=⟨(U p aj).trans A.1,A.2⟩
 have ac:Y2 σ5 Y E zs:=⟨(U E Z.lt).trans B.1,B.2⟩
 have ba:Stp w σ Y σ5:=⟨s.bel,s5,fun b o e=>l5.le b o (s.le b o e),fun b n=>(U b (Nat.lt_of_lt_of_le n hS.bel.size)).trans (s.old b n)⟩
 exact Ri ba ah ac hz a8 ⟨X,v3,rfl,hl.lift l5,f5⟩ fun w' σ' hk hr=>h v3 w' σ' hk hr
end Go.Proofs.YtjdiakhipmggjaaGreatDoor

namespace Go.Proofs.YtjdiakhipmggjaaGreatDoor
open Go.Emb Go.RowKit Go.Kd Go.Hm
variable {w w' : World} {K : Value → World → Prop} {σ σ' : Q6} {ds : List Value} {room : Int} {cs : List Cel} {l : List Cla}
set_option maxHeartbeats 1000000 in
theorem X0F {k:X0} (hs:X3 w σ) (hh:O5 σ (l,room,cs) ds) (ok:Ok l) (hlen:l.length≤1000) (hk:k.length≤U2) (h0:0≤W6 room cs) (h1:room≤1048576)
 (h: ∀ds' w' σ',Stp w σ w' σ'→O5 σ' (l,room,(Zt l room cs k).1) ds'→K (.tuple #[.agg ds'.toArray,I (Zt l room cs k).2]) w'):Q1 P F.bc [.agg ds.toArray,S k] w K:=Gv (by
 have hcl:=T6 cs
 obtain ⟨lv,cv,rfl,hl,hc⟩:=O5.out hh
 unfold Lq
 refine Hk hs fun b0 w1 σ1 hb0 hk1 hm0=>?_
 refine M0 hk1.sat fun b4 w2 σ2 hb4 hk2 hm4=>?_
 have hS2:=hk1.trans hk2
 have hB4:=L9 hb4 hk1
 have hb04:b0≠b4:=by have:=hm0.lt;omega
 have hm02:=hm0.up hk2
 have hl2:=hl.up hS2
 have hh2:=W4 hh ⟨hS2.le⟩
 unfold W6 at h0
 refine W3 ?_
 refine Yi (i:=0) hm02 rfl ?_
 refine Q9l hk2.sat hl2 ?_
 refine Jj ?_
 unfold Zt at h
 cases ho:A9 l k with
 | false=>
  rw[ho] at h
  simp only[if_pos] at h
  refine J7 ?_
  exact Ri hS2 hm02 hm4 rfl hB4 hh2 fun w' σ' hk hr=>h _ w' σ' hk hr
 | true=>
  rw[ho] at h
  simp only[Bool.true_eq_false,if_false] at h
  refine Z7 ?_
  refine W3 ?_
  refine Yi (i:=0) hm02 rfl ?_
  refine Kn hk2.sat hl2 ok.acy hlen ok.sm fun fv w3 σ3 hk3 hf=>?_
  have hS3:=hS2.trans hk3
  have hfl:=hf.max
  have hfl2:=Q0W ok.sm ok.len k
  refine Q8 hf ?_
  refine Xw ⟨by omega,by omega⟩ ?_
  refine Dz (hm02.up hk3) rfl ?_
  refine Q5Z hk3.sat (W4 hh2 ⟨hk3.le⟩) (by unfold W6;exact h0) h1 fun w4 σ4 hk4=>?_
  have hk34:=hk3.trans hk4
  have hS4:=hS3.trans hk4
  have hm04:=hm02.up hk34
  have hm44:=hm4.up hk34
  have hh4:=W4 hh2 ⟨hk34.le⟩
  have hf4:=hf.up hk4
  rw[Rt]
  by_cases hg:W6 room cs<1+((Y6 l k).length:Int)
  ·rw[if_pos hg] at h
   have e:decide (1+((Y6 l k).length:Int)>W6 room cs)=true:=decide_eq_true hg
   rw[e]
   refine J7 ?_
   exact Ri hS4 hm04 hm44 rfl hB4 hh4 fun w' σ' hk hr=>h _ w' σ' hk hr
  rw[if_neg hg] at h
  have e:decide (1+((Y6 l k).length:Int)>W6 room cs)=false:=decide_eq_false hg
  rw[e]
  refine Z7 ?_
  unfold W6 at hg
  refine W1 (cells:= #[S k, .slice none 0 0]) (by kernel_rfl) ?_
  refine M0 hk4.sat fun b7 w5 σ5 hb7 hk5 hm7=>?_
  have hS5:=hS4.trans hk5
  have hB7:=L9 hb7 hS4
  refine Wc (ds:=[S k, .slice none 0 0]) hm7 rfl rfl (by rw[List.all_toArray];rfl) fun w6 u6 hm76=>?_
  have hS6:=u6.stp hS5 hB7 hm7.1
  have hb07:b0≠b7:=by have:=hm04.lt;omega
  have hb47:b4≠b7:=by have:=hm44.lt;omega
  have hm06:=(hm04.up hk5).upd u6 hb07
  have hm46:=(hm44.up hk5).upd u6 hb47
  have hf6:=(hf4.up hk5)
  have hc6:Sl 2 E4 σ5 cv cs:=hc.up hS5
  have hl6:Sl 8 U9 σ5 lv l:=hl.up hS5
  refine U3 (Y6 l k).length (fun n w'=> ∃σ' x,Stp w σ w' σ'∧SLe σ5 σ'∧Y2 σ' w' b0 [lv,I room,cv]∧Y2 σ' w' b4 _∧Y2 σ' w' b7 [S k,x]∧V7 w.heap.size T.g 4 O3 σ' w' x (((Y6 l k).take n).map fun f=>M5 f.kind)∧x.ownBlock≠some b0∧x.ownBlock≠some b4∧x.ownBlock≠some b7)
   ⟨σ5, .slice none 0 0,hS6,SLe.refl _,hm06,hm46,hm76,V7.nil,by simp[Value.ownBlock],by simp[Value.ownBlock],by simp[Value.ownBlock]⟩ fun n w7 d hn hinv=>?_
  obtain ⟨σ7,x,hS7,le7,hm07,hm47,hm77,ha7,hx0,hx4,hx7⟩:=hinv
  have hf7:=hf6.lift le7
  have hs7:=hS7.sat
  refine Q8 hf7 ?_
  refine Y9 ?_
  refine Q7 (fun hcc=>?_) (fun hcc=>?_)
  ·have hn':n<(Y6 l k).length:=by simpa using hcc
   obtain ⟨p1,r1⟩:=hf7.elF hn'
   have hrd: ∀{w':World} {K:Value→World→Prop},Hst w7 σ7 w' σ7→K x w'→Q2 P T.l (.pointer (some ((⟨b7,0,none⟩:Addr).add 1))) w' K:=fun hst hK=>Yi (hm77.up hst.stp) rfl hK
   refine U0 hs7 ?_
   (repeat (apply Z9;(· intros;(repeat (rename_i hx;subst hx));(repeat' (first | (with_reducible exact L7 rfl) | (with_reducible exact R9 (Stp.bel (by (repeat (first | exact Stp.refl (by (first | assumption | exact Stp.sat (by assumption) | exact Hst.sat (by assumption))) | assumption | refine Stp.trans ?_ (by first | assumption | exact Hst.stp (by assumption)))))) rfl) | (with_reducible intro _) | (simp only[↓M2,M2,Mb,reduceIte]) | (with_reducible refine hrd au ?_) | (with_reducible show Q2 _ _ _ _ _;first | refine X7 aS aL aR ?_ | refine Y4 aS aL aR ?_ | refine ld aS aL aR ?_) | (with_reducible show indexAddr _ _ _ _ _ _;refine Y1 aL au ?_) | (with_reducible show X2 _ _ _ _ _ _ _ _;refine Q8 aL ?_) | (with_reducible show B7 _ _ _ _ _ _;refine J3 aR ?_) | (with_reducible show pick _ _ _ _ _ _;refine M3 ?_) | (with_reducible show Q1 _ _ _ _ _;first | refine Q9A au ?_) | (apply B8;intro hh;(try simp only[hh,reduceIte,↓M2,M2,Mb,reduceIte]))));done)))
   refine Uv (w:=w7) (σ:=σ7) (Φ:=fun σ' v=>Sl 4 O3 σ' v [M5 (Y6 l k)[n].kind]) (fun t41 w hb e=>?_) ?_
   ·subst e
    exact T4 (R:=O3) (sz:=4) hb.sat [_] [M5 (Y6 l k)[n].kind] rfl rfl (by simp[Value.cells]) rfl ⟨Gu _,trivial⟩ fun v w2 σ2 hk2 hv2=>Hr hb hk2 hv2
   rintro t34 t38 t39 t35 t40 t41 t42 w8 hb8 rfl rfl rfl rfl rfl rfl ⟨σ8,hk8,s8⟩
   refine X0C (w0:=w) (hS7.trans hb8.stp) (ha7.up hb8.stp) hk8.sat s8 (fun y ds hy=>hy) rfl (by simp;omega) (by simp;omega) fun x9 w9 hg9 hS9 ha9 hat9=>?_
   have hm08:=(hm07.up hb8.stp).turn hg9 fun e=>hx0 e.symm
   have hm48:=(hm47.up hb8.stp).turn hg9 fun e=>hx4 e.symm
   have hm78:=(hm77.up hb8.stp).turn hg9 fun e=>hx7 e.symm
   have hsz:=hb8.stp.bel.size
   have hnew: ∀b,b<w7.heap.size→x.ownBlock≠some b→x9.ownBlock≠some b:=fun b hb hxb e=>by
    rcases hat9 with e2 | e2
    ·exact hxb (e2▸e)
    ·have:=e2 b e;omega
   have hsh:=Jo ha9
   refine W3 ?_
   refine Jz hm78 (by simp) hsh.1 hsh.2 fun w10 u10 hm710=>?_
   refine N3 ?_
   have hx97:=hnew b7 hm77.lt hx7
   refine Y5 hfl hn' ⟨σ7,x9,u10.stp hS9 hB7 hm78.1,le7,hm08.upd u10 hb07,hm48.upd u10 hb47,hm710,?_,hnew b0 hm07.lt hx0,hnew b4 hm47.lt hx4,hx97⟩
   have:=ha9.kp (D:=fun j=>j=b7) (.of_upd u10 rfl) fun j hj e=>hx97 (e▸hj)
   rw[List.take_add_one,List.getElem?_eq_getElem hn',List.map_append]
   exact this
  ·have hn': ¬n<(Y6 l k).length:=by simpa using hcc
   rw[List.take_of_length_le (by omega)] at ha7
   obtain ⟨σ9,hS9,hx9,le9,o9⟩:=ha7.keep hS7
   have mk: ∀{b:Nat} {zs:List Value},Y2 σ7 w7 b zs→x.ownBlock≠some b→Y2 σ9 w7 b zs:=fun hm hne=>⟨(o9 _ fun e=>hne e.symm).trans hm.1,hm.2⟩
   have le59:SLe σ5 σ9:=le7.more ⟨le9⟩
   refine Q9k hS9 (mk hm07 hx0) (mk hm47 hx4) (mk hm77 hx7) rfl hb0 hB4 hb04 (hl6.lift le59) (hc6.lift le59) hx9 hk (by omega) fun cv' w' σ' hk' hr=>h _ w' σ' hk' hr)
set_option maxHeartbeats 1000000 in
theorem X28 {k:X0} {n:Int} (hs:X3 w σ) (hh:O5 σ (l,room,cs) ds) (hk:k.length≤U2) (h0:0≤W6 room cs) (h1:room≤1048576)
 (h: ∀ds' w' σ',Stp w σ w' σ'→O5 σ' (l,room,(Zu l room cs k n).1) ds'→K (.tuple #[.agg ds'.toArray,I (Zu l room cs k n).2]) w'):Q1 P F.bl [.agg ds.toArray,S k,I n] w K:=Kb (by
 have hcl:=T6 cs
 have htn:=M4 cs
 obtain ⟨lv,cv,rfl,hl,hc⟩:=O5.out hh
 unfold Ma
 refine Hk hs fun b0 w1 σ1 hb0 hk1 hm0=>?_
 refine M0 hk1.sat fun b4 w2 σ2 hb4 hk2 hm4=>?_
 have hS2:=hk1.trans hk2
 have hB4:=L9 hb4 hk1
 have hb04:b0≠b4:=by have:=hm0.lt;omega
 have hm02:=hm0.up hk2
 have hl2:=hl.up hS2
 have hh2:=W4 hh ⟨hS2.le⟩
 unfold W6 at h0
 unfold Zu at h
 have hbad:G3 l k=false→Q2 P T.a (.pointer (some ⟨b0,0,none⟩)) w2 fun t14 w=>
  X9 P T.a (.pointer (some ⟨b4,0,none⟩)) t14 w fun _u w=>
  Y7 P T.a (.pointer (some ⟨b4,0,none⟩)) w fun r0=>
  K (.tuple #[r0,(.int .i64 91)]) w:=fun ho=>by
  rw[ho] at h
  simp only[if_pos] at h
  exact Ri hS2 hm02 hm4 rfl hB4 hh2 fun w' σ' hk hr=>h _ w' σ' hk hr
 refine P6 ?_
 by_cases hnull:k=H8
 ·rw[show decide (k=[110,117,108,108])=true from decide_eq_true hnull]
  (try simp only[O7,E1,S6,W5,W9,L1,M8,M7,H6,Bool.not_true,Bool.not_false])
  exact hbad (by simp[G3,hnull])
 rw[show decide (k=[110,117,108,108])=false from decide_eq_false hnull]
 (try simp only[O7,E1,S6,W5,W9,L1,M8,M7,H6,Bool.not_true,Bool.not_false])
 refine W3 ?_
 refine Yi (i:=0) hm02 rfl ?_
 refine Dy hk2.sat hl2 hk ?_
 refine Jj ?_
 cases hkm:N1 l k with
 | false=>
  (try simp only[O7,E1,S6,W5,W9,L1,M8,M7,H6,Bool.not_true,Bool.not_false])
  exact hbad (by simp[G3,hkm])
 | true=>
  (try simp only[O7,E1,S6,W5,W9,L1,M8,M7,H6,Bool.not_true,Bool.not_false])
  refine Cm k (Nat.le_trans hk (by decide)) ?_
  have hr:right k=true:=by
   have:=hkm
   simp only[N1,Bool.or_eq_true,Bool.and_eq_true,decide_eq_true_eq] at this
   rcases this with h1 | h1
   ·exact absurd h1 hnull
   ·exact h1.1
  have hdp:Xt k=(base k).2:=by unfold Xt;rw[if_pos hr]
  have hel:G3 l k=decide ((base k).2≤2):=by
   unfold G3;rw[hkm,decide_eq_false hnull,hdp];rfl
  refine Q1G ?_
  by_cases hd2:(2:Int)<((base k).2:Int)
  ·rw[decide_eq_true hd2]
   refine J7 ?_
   exact hbad (by rw[hel,decide_eq_false_iff_not];omega)
  rw[decide_eq_false hd2]
  refine Z7 ?_
  have ho:G3 l k=true:=by rw[hel,decide_eq_true_eq];omega
  rw[ho] at h
  simp only[Bool.true_eq_false,if_false] at h
  refine Y9 ?_
  by_cases hn0:n<0
  ·rw[if_pos hn0] at h
   rw[decide_eq_true hn0]
   refine J7 ?_
   exact Ri hS2 hm02 hm4 rfl hB4 hh2 fun w' σ' hk hr=>h _ w' σ' hk hr
  rw[if_neg hn0] at h
  rw[decide_eq_false hn0]
  refine Z7 ?_
  refine Q1G ?_
  have hbad2: ∀{w3 σ3},Stp w2 σ2 w3 σ3→W6 room cs≤n→Q2 P T.a (.pointer (some ⟨b0,0,none⟩)) w3 fun t14 w=>
   X9 P T.a (.pointer (some ⟨b4,0,none⟩)) t14 w fun _u w=>
   Y7 P T.a (.pointer (some ⟨b4,0,none⟩)) w fun r0=>
   K (.tuple #[r0,(.int .i64 90)]) w:=fun {w3 σ3} hS hle=>by
   rw[if_pos hle] at h
   exact Ri (hS2.trans hS) (hm02.up hS) (hm4.up hS) rfl hB4 (W4 hh2 ⟨hS.le⟩) fun w' σ' hk hr=>h _ w' σ' hk hr
  by_cases hbig:(1048576:Int)<n
  ·rw[decide_eq_true hbig]
   (try simp only[O7,E1,S6,W5,W9,L1,M8,M7,H6,Bool.not_true,Bool.not_false])
   exact hbad2 (Stp.refl hk2.sat) (by unfold W6;omega)
  rw[decide_eq_false hbig]
  (try simp only[O7,E1,S6,W5,W9,L1,M8,M7,H6,Bool.not_true,Bool.not_false])
  refine Xw ⟨by omega,by omega⟩ ?_
  refine Dz hm02 rfl ?_
  refine Q5Z hk2.sat hh2 (by unfold W6;exact h0) h1 fun w4 σ4 hk4=>?_
  rw[Rt]
  by_cases hg:W6 room cs≤n
  ·rw[show decide (1+n>W6 room cs)=true from decide_eq_true (by omega)]
   refine J7 ?_
   exact hbad2 hk4 hg
  rw[if_neg hg] at h
  rw[show decide (1+n>W6 room cs)=false from decide_eq_false (by omega)]
  refine Z7 ?_
  have hS4:=hS2.trans hk4
  have hm04:=hm02.up hk4
  have hm44:=hm4.up hk4
  obtain ⟨m,rfl⟩:=Int.eq_ofNat_of_zero_le (Int.not_lt.1 hn0)
  rw[Int.toNat_natCast] at h
  unfold W6 at hg
  have hr38:=Gc hr
  refine Rk (by simp only[List.length_cons,List.length_nil];omega) ?_
  refine W1 (cells:= #[S (k++[91,93]), .slice none 0 0]) (by kernel_rfl) ?_
  refine M0 hk4.sat fun b7 w5 σ5 hb7 hk5 hm7=>?_
  have hS5:=hS4.trans hk5
  have hB7:=L9 hb7 hS4
  refine Wc (ds:=[S (k++[91,93]), .slice none 0 0]) hm7 rfl rfl (by rw[List.all_toArray];rfl) fun w6 u6 hm76=>?_
  have hS6:=u6.stp hS5 hB7 hm7.1
  have hb07:b0≠b7:=by have:=hm04.lt;omega
  have hb47:b4≠b7:=by have:=hm44.lt;omega
  have hm06:=(hm04.up hk5).upd u6 hb07
  have hm46:=(hm44.up hk5).upd u6 hb47
  have hc6:Sl 2 E4 σ5 cv cs:=hc.up hS5
  have hl6:Sl 8 U9 σ5 lv l:=hl.up hS5
  refine U3 m (fun n w'=> ∃σ' x,Stp w σ w' σ'∧SLe σ5 σ'∧Y2 σ' w' b0 [lv,I room,cv]∧Y2 σ' w' b4 _∧Y2 σ' w' b7 [S (k++[91,93]),x]∧V7 w.heap.size T.g 4 O3 σ' w' x (List.replicate n (M5 k))∧x.ownBlock≠some b0∧x.ownBlock≠some b4∧x.ownBlock≠some b7)
   ⟨σ5, .slice none 0 0,hS6,SLe.refl _,hm06,hm46,hm76,V7.nil,by simp[Value.ownBlock],by simp[Value.ownBlock],by simp[Value.ownBlock]⟩ fun n w7 d hn hinv=>?_
  obtain ⟨σ7,x,hS7,le7,hm07,hm47,hm77,ha7,hx0,hx4,hx7⟩:=hinv
  have hs7:=hS7.sat
  refine Y9 ?_
  refine Q7 (fun hcc=>?_) (fun hcc=>?_)
  ·have hn':n<m:=by simpa using hcc
   have hrd: ∀{w':World} {K:Value→World→Prop},Hst w7 σ7 w' σ7→K x w'→Q2 P T.l (.pointer (some ((⟨b7,0,none⟩:Addr).add 1))) w' K:=fun hst hK=>Yi (hm77.up hst.stp) rfl hK
   refine U0 hs7 ?_
   (repeat (apply Z9;(· intros;(repeat (rename_i hx;subst hx));(repeat' (first | (with_reducible exact L7 rfl) | (with_reducible exact R9 (Stp.bel (by (repeat (first | exact Stp.refl (by (first | assumption | exact Stp.sat (by assumption) | exact Hst.sat (by assumption))) | assumption | refine Stp.trans ?_ (by first | assumption | exact Hst.stp (by assumption)))))) rfl) | (with_reducible intro _) | (simp only[↓M2,M2,Mb,reduceIte]) | (with_reducible refine hrd au ?_) | (with_reducible show Q2 _ _ _ _ _;first | refine X7 aS aL aR ?_ | refine Y4 aS aL aR ?_ | refine ld aS aL aR ?_) | (with_reducible show indexAddr _ _ _ _ _ _;refine Y1 aL au ?_) | (with_reducible show X2 _ _ _ _ _ _ _ _;refine Q8 aL ?_) | (with_reducible show B7 _ _ _ _ _ _;refine J3 aR ?_) | (with_reducible show pick _ _ _ _ _ _;refine M3 ?_) | (with_reducible show Q1 _ _ _ _ _;first | refine Q9A au ?_) | (apply B8;intro hh;(try simp only[hh,reduceIte,↓M2,M2,Mb,reduceIte]))));done)))
   refine Uv (w:=w7) (σ:=σ7) (Φ:=fun σ' v=>Sl 4 O3 σ' v [M5 k]) (fun t41 w hb e=>?_) ?_
   ·subst e
    exact T4 (R:=O3) (sz:=4) hb.sat [_] [M5 k] rfl rfl (by simp[Value.cells]) rfl ⟨Gu _,trivial⟩ fun v w2 σ2 hk2 hv2=>Hr hb hk2 hv2
   rintro t46 t47 t49 t50 w8 hb8 rfl rfl rfl ⟨σ8,hk8,s8⟩
   refine X0C (w0:=w) (hS7.trans hb8.stp) (ha7.up hb8.stp) hk8.sat s8 (fun y ds hy=>hy) rfl (by simp;omega) (by simp;omega) fun x9 w9 hg9 hS9 ha9 hat9=>?_
   have hm08:=(hm07.up hb8.stp).turn hg9 fun e=>hx0 e.symm
   have hm48:=(hm47.up hb8.stp).turn hg9 fun e=>hx4 e.symm
   have hm78:=(hm77.up hb8.stp).turn hg9 fun e=>hx7 e.symm
   have hsz:=hb8.stp.bel.size
   have hnew: ∀b,b<w7.heap.size→x.ownBlock≠some b→x9.ownBlock≠some b:=fun b hb hxb e=>by
    rcases hat9 with e2 | e2
    ·exact hxb (e2▸e)
    ·have:=e2 b e;omega
   have hsh:=Jo ha9
   refine W3 ?_
   refine Jz hm78 (by simp) hsh.1 hsh.2 fun w10 u10 hm710=>?_
   refine N3 ?_
   have hx97:=hnew b7 hm77.lt hx7
   refine Y5 (by omega) hn' ⟨σ7,x9,u10.stp hS9 hB7 hm78.1,le7,hm08.upd u10 hb07,hm48.upd u10 hb47,hm710,?_,hnew b0 hm07.lt hx0,hnew b4 hm47.lt hx4,hx97⟩
   have:=ha9.kp (D:=fun j=>j=b7) (.of_upd u10 rfl) fun j hj e=>hx97 (e▸hj)
   rw[List.replicate_succ']
   exact this
  ·have hn': ¬n<m:=by simpa using hcc
   have hnm:n=m:=by omega
   subst hnm
   obtain ⟨σ9,hS9,hx9,le9,o9⟩:=ha7.keep hS7
   have mk: ∀{b:Nat} {zs:List Value},Y2 σ7 w7 b zs→x.ownBlock≠some b→Y2 σ9 w7 b zs:=fun hm hne=>⟨(o9 _ fun e=>hne e.symm).trans hm.1,hm.2⟩
   have le59:SLe σ5 σ9:=le7.more ⟨le9⟩
   refine Q9k hS9 (mk hm07 hx0) (mk hm47 hx4) (mk hm77 hx7) rfl hb0 hB4 hb04 (hl6.lift le59) (hc6.lift le59) hx9 (Nat.le_trans (show (k++[91,93]).length≤40 by simp only[List.length_append,List.length_cons,List.length_nil];omega) (by decide)) (by omega) fun cv' w' σ' hk' hr=>h _ w' σ' hk' hr)
end Go.Proofs.YtjdiakhipmggjaaGreatDoor

namespace Go.Emb
open Go.RowKit Go.Hm
section
variable {α : Type} {P : Program} {R : Q6 → α → List Value → Prop} {B sz : Nat} {e : TypeId} {σ σ0 : Q6} {v u : Value} {xs : List α} {w w0 w' : World} {K : Value → World → Prop}
theorem X1E {t:TypeId} {b:Nat} {z:Value} [TS P t e] [TZ P e sz b z] (h:J9 B e sz R σ w v xs) {n:Nat} (o:n<xs.length) (j:K (.pointer (some (Wj sz v n))) w):indexAddr P t v (I n) w K:=by
 obtain ⟨a,c,rfl,m,p,f,d⟩:=h
 obtain ⟨g,i,k,rfl,q⟩:=d (by omega)
 rw[Sr (by omega) (by omega)]
 simpa [Wj] using j
theorem J9.elQ (h:J9 B e sz R σ w v xs) {n:Nat} (o:n<xs.length): ∃cs,cs.length=sz∧R σ xs[n] cs∧ ∀j u,cs[j]? =some u→w.cell? ((Wj sz v n).add j)=some u:=by
 obtain ⟨a,d,rfl,q,t,k,i⟩:=h
 obtain ⟨g,b,f,rfl,s,y,p,r,m⟩:=i (by omega)
 have hh:n*sz+sz≤d*sz:=by rw[←Nat.succ_mul];exact Nat.mul_le_mul_right _ (by omega)
 refine ⟨(f.toList.drop (b+n*sz)).take sz,by rw[List.length_take,List.length_drop,Array.length_toList];omega,m n _ (by simp[o]),fun j u c=>?_⟩
 rw[List.getElem?_take] at c
 split at c
 ·rw[List.getElem?_drop] at c
  have e:Wj sz (.slice (some ⟨g,b,none⟩) xs.length d) n=(⟨g,b,none⟩:Addr).add (n*sz):=rfl
  rw[e]
  unfold World.cell?
  rw[S9,S9,Qh,Qh,I8 (I8 rfl _)]
  simp only[p]
  simpa using c
 ·cases c
theorem X4z {t:TypeId} {c:Nat} {z:Value} [tz:TZ P t 1 c z] {b i:Nat} {cs:List Value} {v:Value} (d:w.heap[b]? =some (.cells cs.toArray e (0,0))) (j:i<cs.length) (m:v.cells= #[v]) (g:v.oneCell'=true)
 (h: ∀w',Upd w b w'→w'.heap[b]? =some (.cells (cs.set i v).toArray e (0,0))→K undef w'):X9 P t (.pointer (some ((⟨b,0,none⟩:Addr).add i))) v w K:=by
 unfold X9
 have a:(⟨b,0,none⟩:Addr).add i=⟨b,i,none⟩:=by unfold Addr.add;split<;>simp_all
 have:=run_storeCells_at P b i e [v] 0 cs.toArray w d (by simp;omega) (by simpa using g)
 simp only[Nat.add_zero] at this
 obtain ⟨k,hh⟩:=Uy (cs:=(cs.set i v).toArray) d
 have f:(List.take i cs.toArray.toList++[v]++List.drop (i+[v].length) cs.toArray.toList).toArray=(cs.set i v).toArray:=by
  rw[←Q7y j];simp
 rw[f] at this
 rw[Lg (w':=w.setRow b (cs.set i v).toArray) (by simp[Instr.storeAt,Instr.sureAddr,a,storeVar,L3 tz,m,this])]
 exact h _ k hh
theorem X3t {t:TypeId} {s n c:Nat} {z:Value} {x:α} [tz:TZ P t 1 s z] (Z:Stp w0 σ0 w σ) (X:J9 w0.heap.size e sz R σ w v xs) (hn:n<xs.length) (hc:c<sz) (O:u.cells= #[u]) (N:u.oneCell'=true) (W: ∀cs,cs.length=sz→R σ xs[n] cs→R σ x (cs.set c u))
 (h: ∀w',Kpt (fun k=>v.ownBlock=some k) w w'→Stp w0 σ0 w' σ→J9 w0.heap.size e sz R σ w' v (xs.set n x)→K undef w'):X9 P t (.pointer (some ((Wj sz v n).add c))) u w K:=by
 obtain ⟨a,i,rfl,Y,M,f,U⟩:=X
 obtain ⟨g,d,o,rfl,J,C,L,q4,E⟩:=U (by omega)
 have hh:n*sz+sz≤i*sz:=by rw[←Nat.succ_mul];exact Nat.mul_le_mul_right _ (by omega)
 have hm:Y2 σ w g o.toList:=⟨C,e,by simpa using L⟩
 have V:=Array.length_toList (xs:=o)
 have Q:(Wj sz (.slice (some ⟨g,d,none⟩) xs.length i) n).add c=(⟨g,0,none⟩:Addr).add (d+n*sz+c):=by
  simp only[Wj,Q3R]
  unfold Addr.add
  split<;>split<;>simp_all<;>omega
 rw[Q]
 refine X4z (e:=e) (by simpa using L) (by omega) O N fun w' r hg=>?_
 refine h w' (Kpt.of_upd r rfl) (r.stp Z J C) ⟨_,i,by rw[List.length_set],by rw[List.length_set];exact Y,M,fun b q=>⟨(f b q).1,(f b q).2.1,by rw[r.size];exact (f b q).2.2.1,(f b q).2.2.2⟩,fun _=>⟨g,d,_,rfl,J,C,hg,by simp;omega,fun j y m=>?_⟩⟩
 rw[List.toList_toArray]
 have p:j<xs.length:=by have:=(List.getElem?_eq_some_iff.1 m).1;simpa using this
 have ab:j*sz+sz≤i*sz:=by rw[←Nat.succ_mul];exact Nat.mul_le_mul_right _ (by omega)
 rw[List.drop_set]
 by_cases H:j=n
 ·subst H
  rw[List.getElem?_set_self p] at m
  cases m
  rw[if_neg (by omega),List.take_set,show d+j*sz+c-(d+j*sz)=c by omega]
  exact W _ (by rw[List.length_take,List.length_drop];omega) (E j _ (by simp[p]))
 ·rw[List.getElem?_set_ne (by omega)] at m
  have:=E j y m
  rcases Nat.lt_or_gt_of_ne H with D | hgt
  ·have A:j*sz+sz≤n*sz:=by rw[←Nat.succ_mul];exact Nat.mul_le_mul_right _ D
   rw[if_neg (by omega),List.take_set,List.set_eq_of_length_le (by rw[List.length_take];omega)]
   exact this
  ·have A:n*sz+sz≤j*sz:=by rw[←Nat.succ_mul];exact Nat.mul_le_mul_right _ hgt
   rw[if_pos (by omega)]
   exact this
end
end Go.Emb
namespace Go.Proofs.YtjdiakhipmggjaaGreatDoor
open Go.Emb Go.RowKit Go.Kd Go.Hm
variable {w w' : World} {K : Value → World → Prop} {σ σ' : Q6} {ds : List Value} {room : Int} {cs : List Cel} {l : List Cla}
theorem Q5q (f:Z0 cs≤1048576) {j:Nat} (a:j<cs.length):(cs[j].vals.length:Int)≤1048576:=by
 have e:Z0 cs=Z0 (cs.take j)+Z0 (cs.drop j):=by rw[←T7,List.take_append_drop]
 have b:Z0 (cs.drop j)=(1+(cs[j].vals.length:Int))+Z0 (cs.drop (j+1)):=by
  rw[List.drop_eq_getElem_cons a];simp only[Z0,List.map_cons,List.sum_cons]
 have c:=M4 (cs.take j)
 have d:=M4 (cs.drop (j+1))
 omega
theorem X3W {d g:Nat} {p cv x:Value} {m:List Cel} {X:List Value} {w0 w1:World} {σ0 σ1:Q6} (hS:Stp w σ w0 σ0) (V:Stp w0 σ0 w1 σ1) (A:Y2 σ1 w1 d [p,I room,cv]) (J:Y2 σ1 w1 g X) (hz:X.length=3) (U:d<w0.heap.size) (W:g<w0.heap.size) (M:w.heap.size≤d) (L:w.heap.size≤g) (q:d≠g) (hl:Sl 8 U9 σ1 p l) (Q:J9 w0.heap.size T.m 2 E4 σ1 w1 x m)
 (h: ∀C w' σ',Stp w σ w' σ'→O5 σ' (l,room,m) [p,I room,C]→K (.tuple #[.agg [p,I room,C].toArray,I 0]) w'):
 X9 P T.f (.pointer (some ((⟨d,0,none⟩:Addr).add 2))) x w1 fun _u w=>
 Q2 P T.a (.pointer (some ⟨d,0,none⟩)) w fun O w=>
 X9 P T.a (.pointer (some ⟨g,0,none⟩)) O w fun _u w=>
 Y7 P T.a (.pointer (some ⟨g,0,none⟩)) w fun r0=>
 K (.tuple #[r0,(.int .i64 0)]) w:=by
 have t:x.cells= #[x]∧x.oneCell'=true:=by obtain ⟨a,c,rfl,_⟩:=Q;exact ⟨rfl,rfl⟩
 refine Jz A (by simp) t.1 t.2 fun y H i=>?_
 have s:J9 w0.heap.size T.m 2 E4 σ1 y x m:=Q.kp (D:=fun j=>j=d) (.of_upd H rfl) fun j hj e=>by have:=(Q.mem hj).1;omega
 have k:=J.upd H (fun e=>q e.symm)
 have f:Stp w σ y σ1:=H.stp (hS.trans V) M A.1
 obtain ⟨E,s5,Z,f5,o5⟩:=s.freeze f.sat
 have n: ∀j,j<w0.heap.size→E j=σ1 j:=fun j hj=>o5 j fun e=>by have:=(s.mem e.symm).1;omega
 have r:Y2 E y d [p,I room,x]:=⟨(n d U).trans i.1,i.2⟩
 have z:Y2 E y g X:=⟨(n g W).trans k.1,k.2⟩
 have N:Stp w σ y E:=⟨f.bel,s5,fun b o e=>Z.le b o (f.le b o e),fun b Y=>(n b (Nat.lt_of_lt_of_le Y hS.bel.size)).trans (f.old b Y)⟩
 exact Ri N r z hz L ⟨p,x,rfl,hl.lift Z,f5⟩ fun w' σ' V hr=>h x w' σ' V hr
set_option maxHeartbeats 2000000 in
theorem X40 {r i:Int} {v:Val} (hs:X3 w σ) (hh:O5 σ (Q4 l,room,cs) ds) (wf:Wf l) (ok:Ok (Q4 l)) (hlen:(Q4 l).length≤1000) (good: ∀c∈cs,GoodC W7 (Q4 l) cs c) (hl1:Z0 cs≤1048576) (hv:O3 σ v [I v.sort,I v.n,S v.s,I v.ref])
 (h: ∀ds' w' σ',Stp w σ w' σ'→O5 σ' (Q4 l,room,(H7 W7 (Q4 l) cs r i v).1) ds'→K (.tuple #[.agg ds'.toArray,I (H7 W7 (Q4 l) cs r i v).2]) w'):Q1 P F.bP [.agg ds.toArray,I r,I i, .agg [I v.sort,I v.n,S v.s,I v.ref].toArray] w K:=Q0v (by
 have hcl:=T6 cs
 obtain ⟨lv,cv,rfl,hl,hc⟩:=O5.out hh
 unfold Es
 refine Hk hs fun b0 w1 σ1 hb0 hk1 hm0=>?_
 refine Z1 hk1.sat fun q w2 σ2 hk2 hq=>?_
 have hS2:=hk1.trans hk2
 refine M0 hk2.sat fun b4 w3 σ3 hb4 hk3 hm4=>?_
 have hS3:=hS2.trans hk3
 have hB4:=L9 hb4 hS2
 have hm02:=hm0.up hk2
 have hb04:b0≠b4:=by have:=hm02.lt;omega
 have hm03:=hm02.up hk3
 have hh3:=W4 hh ⟨hS3.le⟩
 have hq3:=hq.up hk3
 refine Dz hm03 rfl ?_
 refine Q7B hk3.sat hh3 fun w4 σ4 hk4=>?_
 have hS4:=hS3.trans hk4
 have hm04:=hm03.up hk4
 have hm44:=hm4.up hk4
 have hh4:=W4 hh3 ⟨hk4.le⟩
 have hq4:=hq3.up hk4
 unfold H7 at h
 refine Za ?_
 by_cases h0:E3 cs r i=0
 case neg=>
  rw[decide_eq_false h0]
  rw[if_pos h0] at h
  refine J7 ?_
  exact Ri hS4 hm04 hm44 rfl hB4 hh4 fun w' σ' hk hr=>h _ w' σ' hk hr
 rw[decide_eq_true h0]
 rw[if_neg (fun hn=>hn h0)] at h
 refine Z7 ?_
 obtain ⟨j,m,rfl,rfl,hj,hm⟩:=Lw h0
 rw[L4 hj,Int.toNat_natCast] at h
 have hc4:=hc.up hS4
 obtain ⟨vv,p1,p2,p3⟩:=Sl.elO hc4 hj
 have hgc:=good cs[j] (List.getElem_mem hj)
 have hif:elem cs[j].kind=[]→m<(Y6 (Q4 l) cs[j].kind).length:=fun e=>by
  rcases hgc.is with h | h
  ·exact absurd e h
  ·rw[←h.2];exact hm
 have hs4:=hk4.sat
 have hr0: ∀{w':World} {K:Value→World→Prop},Hst w4 σ4 w' σ4→K (.agg [lv,I room,cv].toArray) w'→Q2 P T.a (.pointer (some ⟨b0,0,none⟩)) w' K:=fun hst hK=>Dz (hm04.up hst.stp) rfl hK
 have hr1: ∀{w':World} {K:Value→World→Prop},Hst w4 σ4 w' σ4→K cv w'→Q2 P T.f (.pointer (some ((⟨b0,0,none⟩:Addr).add 2))) w' K:=fun hst hK=>Yi (hm04.up hst.stp) rfl hK
 refine U0 hs4 ?_
 (repeat (apply Z9;(· intros;(repeat (rename_i hx;subst hx));(repeat' (first | (with_reducible exact L7 rfl) | (with_reducible exact R9 (Stp.bel (by (repeat (first | exact Stp.refl (by (first | assumption | exact Stp.sat (by assumption) | exact Hst.sat (by assumption))) | assumption | refine Stp.trans ?_ (by first | assumption | exact Hst.stp (by assumption)))))) rfl) | (with_reducible intro _) | (simp only[↓M2,M2,Mb,reduceIte]) | (with_reducible refine hr0 au ?_) | (with_reducible refine hr1 au ?_) | (with_reducible show Q2 _ _ _ _ _;first | refine X7 aS aL aR ?_ | refine Y4 aS aL aR ?_ | refine ld aS aL aR ?_) | (with_reducible show indexAddr _ _ _ _ _ _;refine Y1 aL au ?_) | (with_reducible show X2 _ _ _ _ _ _ _ _;refine Q8 aL ?_) | (with_reducible show B7 _ _ _ _ _ _;refine J3 aR ?_) | (with_reducible show pick _ _ _ _ _ _;refine M3 ?_) | (with_reducible show Q1 _ _ _ _ _;first | refine X36 au au au au au au ?_) | (apply B8;intro hh;(try simp only[hh,reduceIte,↓M2,M2,Mb,reduceIte]))));done)))
 (intros;(repeat (rename_i hx;subst hx)))
 rename_i w5 hb5
 have hS5:=hS4.trans hb5.stp
 refine X2S hb5.sat hh4 wf ok hlen hv.2.2.2.1 (Q2L ok p3 m) fun wA σA hkA=>?_
 have hk4A:=hb5.stp.trans hkA
 have hSA:=hS4.trans hk4A
 have hm0A:=hm04.up hk4A
 have hm4A:=hm44.up hk4A
 have hhA:=W4 hh4 ⟨hk4A.le⟩
 have hqA:=hq4.up hk4A
 have hsA:=hkA.sat
 refine Jj ?_
 cases hf:F4 W7 (Q4 l) cs v (Xl (Q4 l) cs[j].kind m) with
 | false=>
  rw[hf] at h
  simp only[Bool.false_eq_true,if_false] at h
  refine J7 ?_
  exact Ri hSA hm0A hm4A rfl hB4 hhA fun w' σ' hk hr=>h _ w' σ' hk hr
 | true=>
  rw[hf] at h
  simp only[if_true] at h
  refine Z7 ?_
  have hcA:=hc.up hSA
  have hlA:=hl.up hSA
  have hvl:=Q5q hl1 hj
  refine Ej (R:=E4) (e:=T.m) (Stp.refl hsA) (by decide) fun x1 wA1 hkA1 ha1 _=>?_
  refine W3 ?_
  refine Yi (hm0A.up hkA1) rfl ?_
  refine Wm hkA1 ha1 (hcA.up hkA1) rfl (by simp;omega) (by simp;omega) fun x2 wB _ hkB ha2 _=>?_
  rw[List.nil_append] at ha2
  have hsB:=hkB.sat
  refine Ej (R:=O3) (e:=T.g) (Stp.refl hsB) (by decide) fun y1 wB1 hkB1 hy1 _=>?_
  have hq2:=J9.of_acc (ha2.up hkB1)
  refine X1E hq2 hj ?_
  obtain ⟨cs5,hl5,⟨vv5,rfl,p5,_⟩,hcell⟩:=hq2.elQ hj
  refine W3 ?_
  refine Qg (hcell 1 vv5 rfl) ?_
  refine Wm hkB1 hy1 p5 rfl (by simp;omega) (by simp;omega) fun y2 wB2 _ hkB2 hy2 _=>?_
  rw[List.nil_append] at hy2
  refine Y4 hkB2.sat ((hqA.up hkB).up hkB2) rfl ?_
  refine Q2W (x:=v) hkB2 (J9.of_acc hy2) hm rfl (show O3 σA v _ from hv) (Rep.one (R:=O3) (σ:=σA) hv) fun p u w6 _ hb6 hy6=>?_
  obtain ⟨σ7,hk7,hs7,le7,_⟩:=hy6.keep hb6.stp
  have hkA7:=hkB.trans hk7
  have hq7:=J9.of_acc (ha2.up hk7)
  refine X1E hq7 hj ?_
  refine W3 ?_
  have hysh:y2.cells= #[y2]∧y2.oneCell'=true:=Jo hy2
  refine X3t (x:=(⟨cs[j].kind,cs[j].vals.set m v⟩:Cel)) hkA7 hq7 hj (by decide) hysh.1 hysh.2 (fun es _ hes=>by
   obtain ⟨v0,rfl,_,hkl⟩:=hes
   exact ⟨y2,rfl,hs7,hkl⟩) fun w8 _ hk8 hq8=>?_
  refine W3 ?_
  have hsv:F6 cs j m v=cs.set j ⟨cs[j].kind,cs[j].vals.set m v⟩:=by unfold F6;rw[L4 hj,Int.toNat_natCast,Int.toNat_natCast]
  rw[hsv] at h
  exact X3W hSA hk8 (hm0A.up hk8) (hm4A.up hk8) rfl hm0A.lt hm4A.lt hb0 hB4 hb04 (hlA.up hk8) hq8 fun cv' w' σ' hk hr=>h _ w' σ' hk hr)
end Go.Proofs.YtjdiakhipmggjaaGreatDoor

namespace Go.Proofs.YtjdiakhipmggjaaGreatDoor
open Go.Emb Go.RowKit Go.Kd Go.Hm
variable {w w' : World} {K : Value → World → Prop} {σ σ' : Q6} {ds : List Value} {room : Int} {cs : List Cel} {l : List Cla}
theorem Q5T {k a:Nat} {b c:Value} {n:List Value} {w1:World} {σ1:Q6} (r:Stp w σ w1 σ1) (i:Y2 σ1 w1 k [b,I room,c]) (e:Y2 σ1 w1 a n) (o:n.length=3) (f:w.heap.size≤a) (m:O5 σ1 (l,room,cs) [b,I room,c]) (h: ∀w' σ',Stp w σ w' σ'→O5 σ' (l,room,cs) [b,I room,c]→K (.agg [b,I room,c].toArray) w'):
 Q2 P T.a (.pointer (some ⟨k,0,none⟩)) w1 fun g w=>
 X9 P T.a (.pointer (some ⟨a,0,none⟩)) g w fun _u w=>
 Y7 P T.a (.pointer (some ⟨a,0,none⟩)) w fun q=>
 K q w:=
 Dz i rfl (G8 e r f o rfl (Rep.one m) fun p j d=>V2 d rfl (h p σ1 j.stp m))
set_option maxHeartbeats 2000000 in
theorem X4i {n:Int} (hs:X3 w σ) (hh:O5 σ (l,room,cs) ds) (ba:Z0 cs≤1048576) (hn:Yn n)
 (h: ∀af w' σ',Stp w σ w' σ'→O5 σ' (l,room,Iz cs n) af→K (.agg af.toArray) w'):Q1 P F.bR [.agg ds.toArray,I n] w K:=Q0x (by
 have b7:=T6 cs
 obtain ⟨lv,cv,rfl,hl,hc⟩:=O5.out hh
 unfold Ex
 refine Hk hs fun Q w1 σ1 a7 ab aq=>?_
 refine M0 ab.sat fun b4 w2 σ2 a8 aa H=>?_
 have a1:=ab.trans aa
 have X:=L9 a8 ab
 have ag:Q≠b4:=by have:=aq.lt;omega
 have am:=aq.up aa
 have a2:=aa.sat
 refine Zy (fun z w'=>z=I (max n 0)∧w'=w2) ?_ ?_
 ·refine Y9 ?_
  by_cases e:n<0
  ·rw[decide_eq_true e]
   exact J7 ⟨by rw[show max n 0=0 by omega],rfl⟩
  ·rw[decide_eq_false e]
   exact Z7 ⟨by rw[show max n 0=n by omega],rfl⟩
 rintro z d0 w3 ⟨rfl,rfl⟩
 unfold Iz at h
 obtain ⟨m,al⟩:=Int.eq_ofNat_of_zero_le (show 0≤max n 0 by omega)
 rw[al,Int.toNat_natCast] at h
 rw[al]
 have cc:(m:Int)≤9223372036854775807:=by have:=hn.2;omega
 refine U3 (min m cs.length) (fun i w'=> ∃σ',Stp w3 σ2 w' σ'∧(cs.take i).any (fun c=>c.vals.any (G4 m))=false) ⟨σ2,Stp.refl a2,rfl⟩ fun i w4 d hi A=>?_
 obtain ⟨σ4,q,W⟩:=A
 have a:=am.up q
 have s:=a1.trans q
 have L:=hc.up s
 refine Y9 ?_
 have V: ¬i<min m cs.length→(cs.take m).any (fun c=>c.vals.any (G4 m))=false∧(m<cs.length→i=m):=fun ar=>by
  by_cases a5:m≤cs.length
  ·have:i=m:=by omega
   subst this;exact ⟨W,fun _=>rfl⟩
  ·have e:cs.take m=cs.take i:=by rw[List.take_of_length_le (by omega),List.take_of_length_le (by omega)]
   rw[e];exact ⟨W,fun h=>by omega⟩
 have U: ¬i<min m cs.length→jn (α:=Unit) w4 (fun ao w=>
  fieldAddr P T.a (.pointer (some ⟨Q,0,none⟩)) 2 w fun be w=>
  Q2 P T.f be w fun bm w=>
  X2 P .len [T.f] T.e [false] [bm] w fun bf w=>
  Q3 P .lss T.e (.tmp 52) (.tmp 55) (I (m:Int)) bf w fun bc w=>
  X1 bc (
   buildSlice P T.f 0 [] w fun bn w=>
   fieldAddr P T.a (.pointer (some ⟨Q,0,none⟩)) 2 w fun a6 w=>
   Q2 P T.f a6 w fun bk w=>
   S4 P T.f bk none (some (I (m:Int))) none w fun a0 w=>
   X2 P .append [T.f,T.f] T.f [false,false] [bn,a0] w fun bg w=>
   fieldAddr P T.a (.pointer (some ⟨Q,0,none⟩)) 2 w fun bi w=>
   X9 P T.f bi bg w fun _u w=>
   ao () w) (
   ao () w)) fun bz d_ w=>
  Q2 P T.a (.pointer (some ⟨Q,0,none⟩)) w fun bp w=>
  X9 P T.a (.pointer (some ⟨b4,0,none⟩)) bp w fun _u w=>
  Y7 P T.a (.pointer (some ⟨b4,0,none⟩)) w fun r0=>
  K r0 w:=fun ar=>by
  obtain ⟨B,_⟩:=V ar
  rw[if_neg (by rw[B];simp)] at h
  refine V0 ?_
  refine W3 ?_
  refine Yi a rfl ?_
  refine Q8 L ?_
  refine Y9 ?_
  by_cases a5:m<cs.length
  ·rw[decide_eq_true (show (m:Int)<(cs.length:Int) by omega)]
   refine J7 ?_
   have bh:=q.sat
   refine Ej (R:=E4) (e:=T.m) (Stp.refl bh) (by decide) fun x1 w5 f a3 _=>?_
   refine W3 ?_
   refine Yi (a.up f) rfl ?_
   refine Et (L.up f) none (some (I m)) 0 m (.inl ⟨rfl,rfl⟩) (.inr rfl) (Nat.zero_le _) (by omega) fun v3 ak=>?_
   rw[List.drop_zero,Nat.sub_zero] at ak
   refine Wm f a3 ak rfl (by simp;omega) (by simp;omega) fun x2 w6 _ g C _=>?_
   rw[List.nil_append] at C
   have ap:=Jo C
   have M:=a.up g
   refine W3 ?_
   refine Jz M (by simp) ap.1 ap.2 fun w7 u7 O=>?_
   intro d
   have ai:J9 w4.heap.size T.m 2 E4 σ4 w7 x2 (cs.take m):=(J9.of_acc C).kp (D:=fun j=>j=Q) (.of_upd u7 rfl) fun j hj e=>by have:=(C.mem j hj).1;have:=a.lt;omega
   have N:=((H.up q).up g).upd u7 (fun e=>ag e.symm)
   have E:Stp w σ w7 σ4:=u7.stp (s.trans g) a7 M.1
   obtain ⟨σ8,s8,l8,f8,o8⟩:=ai.freeze E.sat
   have Y: ∀j,j<w4.heap.size→σ8 j=σ4 j:=fun j hj=>o8 j fun e=>by have:=(ai.mem e.symm).1;omega
   have bj:Stp w σ w7 σ8:=⟨E.bel,s8,fun b o e=>l8.le b o (E.le b o e),fun b hb=>(Y b (Nat.lt_of_lt_of_le hb s.bel.size)).trans (E.old b hb)⟩
   exact Q5T bj (cs:=cs.take m) (l:=l) (show Y2 σ8 w7 Q [lv,I room,x2] from ⟨(Y Q a.lt).trans O.1,O.2⟩) ⟨(Y b4 (H.up q).lt).trans N.1,N.2⟩ rfl X ⟨lv,x2,rfl,(hl.up s).lift l8,f8⟩ fun w' σ' hk hr=>h _ w' σ' hk hr
  ·rw[decide_eq_false (show¬(m:Int)<(cs.length:Int) by omega)]
   refine Z7 ?_
   intro d
   rw[List.take_of_length_le (by omega)] at h
   exact Q5T s a (H.up q) rfl X (W4 hh ⟨s.le⟩) fun w' σ' hk hr=>h _ w' σ' hk hr
 by_cases ca:i<m
 case neg=>
  rw[decide_eq_false (show¬(i:Int)<(m:Int) by omega)]
  (try simp only[O7,E1,S6,W5,W9,L1,M8,M7,H6,Bool.not_true,Bool.not_false])
  exact U (by omega)
 rw[decide_eq_true (show (i:Int)<(m:Int) by omega)]
 (try simp only[O7,E1,S6,W5,W9,L1,M8,M7,H6,Bool.not_true,Bool.not_false])
 refine W3 ?_
 refine Yi a rfl ?_
 refine Q8 L ?_
 refine Y9 ?_
 by_cases u:i<cs.length
 case neg=>
  rw[decide_eq_false (show¬(i:Int)<(cs.length:Int) by omega)]
  refine Z7 ?_
  exact U (by omega)
 rw[decide_eq_true (show (i:Int)<(cs.length:Int) by omega)]
 refine J7 ?_
 have ch:=Q5q ba u
 refine U3 cs[i].vals.length (fun k w'=> ∃σ',Stp w4 σ4 w' σ'∧(cs[i].vals.take k).any (G4 m)=false) ⟨σ4,Stp.refl q.sat,rfl⟩ fun k w5 d hk A=>?_
 obtain ⟨σ5,f,t⟩:=A
 have y:=a.up f
 have ac:=L.up f
 have bo:=s.trans f
 have J:=f.sat
 obtain ⟨vv,p1,p2,p3⟩:=Sl.elO ac u
 refine W3 ?_
 refine Yi y rfl ?_
 refine Y1 ac u ?_
 refine W3 ?_
 refine ld J p1 rfl ?_
 refine Q8 p2 ?_
 refine Y9 ?_
 refine Q7 (fun Z=>?_) (fun Z=>?_)
 ·have r:k<cs[i].vals.length:=by simpa using Z
  obtain ⟨p4,r4⟩:=Sl.elV p2 r
  refine W3 ?_
  refine Yi y rfl ?_
  refine Y1 ac u ?_
  refine W3 ?_
  refine ld J p1 rfl ?_
  refine Y1 p2 r ?_
  refine Y4 J p4 rfl ?_
  refine Y8 J (by rfl) rfl (Rep.one r4) fun q6 w6 σ6 g av=>?_
  have an:=bo.trans g
  have a4:=L2 (p:=G4 m) r
  refine W3 ?_
  refine ld (i:=0) g.sat av rfl ?_
  refine P4 ?_
  have v:G4 m cs[i].vals[k]=false→ ∃σ',Stp w4 σ4 w6 σ'∧(cs[i].vals.take (k+1)).any (G4 m)=false:=fun e=>⟨σ6,f.trans g,by rw[a4,t,e];rfl⟩
  by_cases e4:cs[i].vals[k].sort=4
  ·rw[decide_eq_true e4]
   (try simp only[O7,E1,S6,W5,W9,L1,M8,M7,H6,Bool.not_true,Bool.not_false])
   refine W3 ?_
   refine ld g.sat av rfl ?_
   refine P7 ?_
   by_cases eg:(m:Int)≤cs[i].vals[k].ref
   ·rw[decide_eq_true eg]
    refine J7 ?_
    have B:(cs.take m).any (fun c=>c.vals.any (G4 m))=true:=by
     refine List.any_eq_true.2 ⟨cs[i],List.mem_take_iff_getElem.2 ⟨i,by omega,rfl⟩,C0 r (by simp[G4,e4,eg])⟩
    rw[if_pos B] at h
    exact Q5T an (y.up g) ((H.up q).up (f.trans g)) rfl X (W4 hh ⟨an.le⟩) fun w' σ' hk hr=>h _ w' σ' hk hr
   ·rw[decide_eq_false eg]
    refine Z7 ?_
    refine N3 ?_
    exact Y5 (by omega) r (v (by simp[G4,eg]))
  ·rw[decide_eq_false e4]
   (try simp only[O7,E1,S6,W5,W9,L1,M8,M7,H6,Bool.not_true,Bool.not_false])
   refine N3 ?_
   exact Y5 (by omega) r (v (by simp[G4,e4]))
 ·have r: ¬k<cs[i].vals.length:=by simpa using Z
  rw[E0 r] at t
  refine N3 ?_
  refine Y5 (by omega) (by omega) ⟨σ5,q.trans f,?_⟩
  rw[L2 u,W,t];rfl)
end Go.Proofs.YtjdiakhipmggjaaGreatDoor

namespace Go.Hm
open Go.Kd
def Q8r:Ins:=⟨[105,110,116],1,[]⟩
def Q1e:Ins:=⟨[114,101,116,117,114,110],0,[]⟩
def kA:X0:=[65]
def fX:Fld:=⟨[120],P9,false⟩
def Q1A:Fld:=⟨[110,101,120,116],kA,false⟩
def fL:Fld:=⟨[108],[65,91,93],false⟩
def mF:Hm.Met:=⟨[102],[P9,kA],P9,false,3,[Q8r,Q1e],[]⟩
def mG:Hm.Met:=⟨[103],[],[],false,1,[Q1e],[]⟩
def cA:Cla:=⟨kA,U1,[],false,false,false,[fX,Q1A],[mF,mG]⟩
def cB:Cla:=⟨[66],kA,[[73]],false,false,false,[fL],[]⟩
def cI:Cla:=⟨[73],U1,[],true,true,false,[],[]⟩
def cD:Cla:=⟨[68],U1,[],false,true,false,[],[]⟩
def F5:List Cla:=[cA,cB,cI,cD]
end Go.Hm
namespace Go.Proofs.YtjdiakhipmggjaaGreatDoor
open Go.Emb Go.RowKit Go.Kd Go.Hm
variable {w w' : World} {K : Value → World → Prop} {σ σ' : Q6} {ds : List Value} {room : Int} {cs : List Cel} {l : List Cla} {hp tv : Value}
set_option maxRecDepth 100000 in
theorem Q2J:Sh D3 F5=none:=by decide+kernel
set_option maxHeartbeats 1000000 in
theorem Q4H (Y:X3 w σ) (h: ∀v w' σ',Stp w σ w' σ'→Sl 8 U9 σ' v F5→K v w'):Q1 P F.az [] w K:=Ff (by
 unfold Wi
 refine W1 (cells:= #[S Q8r.op,I 1,S []]) (by kernel_rfl) ?_
 refine W1 (cells:= #[S Q1e.op,I 0,S []]) (by kernel_rfl) ?_
 refine T4 (R:=Qp) (sz:=3) Y [.agg #[S Q8r.op,I 1,S []], .agg #[S Q1e.op,I 0,S []]] [Q8r,Q1e] rfl rfl (by simp;exact ⟨rfl,rfl⟩) rfl ⟨⟨rfl,by decide,by decide,by decide⟩,⟨rfl,by decide,by decide,by decide⟩,trivial⟩ fun v1 w1 σ1 n c=>?_
 refine W1 (cells:= #[S fX.name,S fX.kind, .bool false]) (by kernel_rfl) ?_
 refine W1 (cells:= #[S Q1A.name,S Q1A.kind, .bool false]) (by kernel_rfl) ?_
 refine T4 (R:=S5) (sz:=3) n.sat [.agg #[S fX.name,S fX.kind, .bool false], .agg #[S Q1A.name,S Q1A.kind, .bool false]] [fX,Q1A] rfl rfl (by simp;exact ⟨rfl,rfl⟩) rfl ⟨⟨rfl,by decide,by decide⟩,⟨rfl,by decide,by decide⟩,trivial⟩ fun v2 w2 σ2 i f=>?_
 refine T4 (R:=U8) (sz:=1) i.sat [S P9,S kA] [P9,kA] rfl rfl (by simp;exact ⟨rfl,rfl⟩) rfl ⟨⟨rfl,by decide⟩,⟨rfl,by decide⟩,trivial⟩ fun v3 w3 σ3 e y=>?_
 have o:=c;have z:=f;have k:=y
 obtain ⟨D,O,rfl,_⟩:=o
 obtain ⟨X,H,rfl,_⟩:=z
 obtain ⟨W,Q,rfl,_⟩:=k
 have c:=(c.up i).up e
 have f:=f.up e
 refine W1 (cells:= #[S mF.name, .slice W 2 Q,S P9, .bool false,I 3, .slice D 2 O, .slice none 0 0]) (by kernel_rfl) ?_
 refine W1 (cells:= #[S Q1e.op,I 0,S []]) (by kernel_rfl) ?_
 refine T4 (R:=Qp) (sz:=3) e.sat [.agg #[S Q1e.op,I 0,S []]] [Q1e] rfl rfl (by simp;rfl) rfl ⟨⟨rfl,by decide,by decide,by decide⟩,trivial⟩ fun v4 w4 σ4 a u=>?_
 have m:=u
 obtain ⟨L,C,rfl,_⟩:=m
 refine W1 (cells:= #[S mG.name, .slice none 0 0,S [], .bool false,I 1, .slice L 1 C, .slice none 0 0]) (by kernel_rfl) ?_
 refine T4 (R:=E7) (sz:=7) a.sat [.agg #[S mF.name, .slice W 2 Q,S P9, .bool false,I 3, .slice D 2 O, .slice none 0 0], .agg #[S mG.name, .slice none 0 0,S [], .bool false,I 1, .slice L 1 C, .slice none 0 0]] [mF,mG] rfl rfl (by simp;exact ⟨rfl,rfl⟩) rfl
  ⟨⟨_,_,_,rfl,y.up a,c.up a,Sl.nil,by decide,by decide,by decide⟩,⟨_,_,_,rfl,Sl.nil,u,Sl.nil,by decide,by decide,by decide⟩,trivial⟩ fun Z w5 σ5 g t=>?_
 have p:=t
 obtain ⟨E,M,rfl,_⟩:=p
 refine W1 (cells:= #[S kA,S U1, .slice none 0 0, .bool false, .bool false, .bool false, .slice X 2 H, .slice E 2 M]) (by kernel_rfl) ?_
 refine T4 (R:=U8) (sz:=1) g.sat [S [73]] [[73]] rfl rfl (by simp;rfl) rfl ⟨⟨rfl,by decide⟩,trivial⟩ fun v6 w6 σ6 d q=>?_
 have r:=q
 obtain ⟨V,U,rfl,_⟩:=r
 refine W1 (cells:= #[S fL.name,S fL.kind, .bool false]) (by kernel_rfl) ?_
 refine T4 (R:=S5) (sz:=3) d.sat [.agg #[S fL.name,S fL.kind, .bool false]] [fL] rfl rfl (by simp;rfl) rfl ⟨⟨rfl,by decide,by decide⟩,trivial⟩ fun v7 w7 σ7 b s=>?_
 have j:=s
 obtain ⟨J,N,rfl,_⟩:=j
 refine W1 (cells:= #[S cB.name,S kA, .slice V 1 U, .bool false, .bool false, .bool false, .slice J 1 N, .slice none 0 0]) (by kernel_rfl) ?_
 refine W1 (cells:= #[S cI.name,S U1, .slice none 0 0, .bool true, .bool true, .bool false, .slice none 0 0, .slice none 0 0]) (by kernel_rfl) ?_
 refine W1 (cells:= #[S cD.name,S U1, .slice none 0 0, .bool false, .bool true, .bool false, .slice none 0 0, .slice none 0 0]) (by kernel_rfl) ?_
 refine T4 (R:=U9) (sz:=8) b.sat [.agg #[S kA,S U1, .slice none 0 0, .bool false, .bool false, .bool false, .slice X 2 H, .slice E 2 M], .agg #[S cB.name,S kA, .slice V 1 U, .bool false, .bool false, .bool false, .slice J 1 N, .slice none 0 0], .agg #[S cI.name,S U1, .slice none 0 0, .bool true, .bool true, .bool false, .slice none 0 0, .slice none 0 0], .agg #[S cD.name,S U1, .slice none 0 0, .bool false, .bool true, .bool false, .slice none 0 0, .slice none 0 0]] F5 rfl rfl (by simp;exact ⟨rfl,rfl,rfl,rfl⟩) rfl
  ⟨⟨_,_,_,rfl,Sl.nil,(((f.up a).up g).up d).up b,(t.up d).up b,by decide,by decide⟩,⟨_,_,_,rfl,q.up b,s,Sl.nil,by decide,by decide⟩,⟨_,_,_,rfl,Sl.nil,Sl.nil,Sl.nil,by decide,by decide⟩,⟨_,_,_,rfl,Sl.nil,Sl.nil,Sl.nil,by decide,by decide⟩,trivial⟩ fun v8 w8 σ8 A B=>?_
 exact h _ _ _ ((((((((n.trans i).trans e).trans a).trans g).trans d).trans b)).trans A) B)
end Go.Proofs.YtjdiakhipmggjaaGreatDoor

namespace Go.Emb
open Go.RowKit
end Go.Emb
namespace Go.Proofs.YtjdiakhipmggjaaGreatDoor
open Go.Emb Go.RowKit Go.Kd Go.Hm
variable {w : World} {K : Value → World → Prop} {σ : Q6} {l : List Cla}
end Go.Proofs.YtjdiakhipmggjaaGreatDoor

namespace Go.Proofs.YtjdiakhipmggjaaGreatDoor
open Go.Emb Go.RowKit Go.Kd Go.Hm
variable {w w' : World} {K : Value → World → Prop} {σ σ' : Q6} {ds : List Value} {room : Int} {cs : List Cel} {l : List Cla} {hp tv : Value}
theorem HeapIs.mono {B B':Nat} {D:Nat→Prop} (h:HeapIs B D σ w hp tv room cs) (hB:B'≤B):HeapIs B' D σ w hp tv room cs:=by
 obtain ⟨b,g,E,d,k,f,⟨vs,j,c,m,hD⟩,hE,a⟩:=h.ex
 exact ⟨b,g,E,d,Nat.le_trans hB k,f,⟨vs,j.mono hB,⟨c.1,fun i e n=>(c.2 i e n).mono hB⟩,m,hD⟩,hE,a⟩
theorem X3e {a:Addr} {n:Int} (h:X3 w σ)
 (g:(n<0∨1048576<n)→K (.tuple #[.pointer none,I 90]) w)
 (j:0≤n→n≤1048576→ ∀b w' σ' D,Stp w σ w' σ'→HeapIs w.heap.size D σ' w' (.pointer (some ⟨b,0,none⟩)) (.pointer (some a)) n []→K (.tuple #[.pointer (some ⟨b,0,none⟩),I 0]) w'):Q1 P F.cO [.pointer (some a),I n] w K:=Q96 (by
 unfold Q3z
 refine Y9 ?_
 by_cases e:n<0
 ·rw[decide_eq_true e]
  (try simp only[O7,E1,S6,W5,W9,L1,M8,M7,H6,Bool.not_true,Bool.not_false])
  exact g (.inl e)
 rw[decide_eq_false e]
 (try simp only[O7,E1,S6,W5,W9,L1,M8,M7,H6,Bool.not_true,Bool.not_false])
 refine Q1G ?_
 by_cases c:(1048576:Int)<n
 ·rw[decide_eq_true c]
  exact J7 (g (.inr c))
 rw[decide_eq_false c]
 refine Z7 ?_
 refine W1 (cells:= #[.pointer (some a),I n,I 0, .slice none 0 0]) (by kernel_rfl) ?_
 refine Hk (cs:=[.pointer (some a),I n,I 0, .slice none 0 0]) h fun b w1 σ1 i f d=>?_
 exact j (by omega) (by omega) b w1 σ1 _ f ⟨b,_,_,rfl,i,d,RowsIs.nil,id,fun k=>Iff.rfl⟩)
theorem X0K:P.underlying T.aq=some (.int .u16):=by kernel_rfl
theorem X2N: ∀c∈F5,Qs c:=X30 (by decide)
theorem Ig:Wf F5:=X49 Q2J
set_option maxHeartbeats 1000000 in
theorem Q7X {r:Int} (hs:X3 w σ) (hg:Glb σ) (hr:0≤r)
 (h: ∀b a D ds w' σ',Stp w σ w' σ'→HeapIs w.heap.size D σ' w' (.pointer (some ⟨b,0,none⟩)) (.pointer (some a)) (r % 301) []→O5 σ' (Q4 F5,r % 301,[]) ds→Tab σ' (.pointer (some a)) (Q4 F5)→Ok (Q4 F5)→K (.tuple #[.pointer (some ⟨b,0,none⟩), .agg ds.toArray]) w'):Q1 P F.ah [.int .u16 r] w K:=Tj (by
 have hr0:=Int.emod_nonneg r (show (301:Int)≠0 by decide)
 have hr1:=Int.emod_lt_of_pos r (show (0:Int)<301 by decide)
 unfold Mc
 refine M0 hs fun b3 w1 σ1 hb3 hk1 hm1=>?_
 refine Q4H hk1.sat fun v w2 σ2 hk2 hv2=>?_
 refine X4o hk2.sat (hg.lift ⟨(hk1.trans hk2).le⟩) hv2 (by decide) X2N (fun i e _ _ hn=>by rw[Q2J] at hn;cases hn) fun tv w3 σ3 _ hk3 ht ok _=>?_
 obtain ⟨a,_,_,_,rfl,_⟩:=ht.ex
 have hS3:=(hk1.trans hk2).trans hk3
 refine J4 (vs:=[_,_,_]) rfl ?_
 refine J4 (vs:=[_,_,_]) rfl ?_
 refine J4 (vs:=[_,_,_]) rfl ?_
 refine Q4H hk3.sat fun v4 w4 σ4 hk4 hv4=>?_
 refine X26 hk4.sat hv4 (by decide) (fun i e _ _ hn=>by rw[Q2J] at hn;cases hn) fun lv w5 σ5 _ hk5 hlv ok5 _=>?_
 have hk35:=hk4.trans hk5
 have hS5:=hS3.trans hk35
 refine J4 (vs:=[_,_,_]) rfl ?_
 refine J4 (vs:=[_,_,_]) rfl ?_
 refine J4 (vs:=[_,_,_]) rfl ?_
 refine Q5p ⟨by decide,hr⟩ ?_
 rw[Ke X0K Q1C]
 have ew:IntKind.i64.wrap (r % 301)=r % 301:=G7 (n:=r % 301) (by omega) (by omega)
 rw[ew]
 simp only[decide_true,Bool.not_true,Bool.false_eq_true,reduceIte,↓M1,M1,Mb,reduceIte]
 refine X2X ?_
 simp only[decide_true,Bool.not_true,Bool.false_eq_true,reduceIte,↓M1,M1,Mb,reduceIte]
 refine X3e (n:=r % 301) hk5.sat (fun hx=>absurd hx (by omega)) fun _ _ b6 w6 σ6 D hk6 h6=>?_
 refine J4 (vs:=[_,_]) rfl ?_
 refine J4 (vs:=[_,_]) rfl ?_
 simp only[decide_true,Bool.not_true,↓M1,M1,Mb,reduceIte]
 refine W1 (cells:= #[lv,I (r % 301), .slice none 0 0]) (by obtain ⟨a5,c5,hle,_⟩:=id hlv;generalize (Q4 F5).length=n5 at hle;subst hle;kernel_rfl) ?_
 have hm6:=hm1.up ((hk2.trans hk3).trans (hk35.trans hk6))
 have hrh:O5 σ6 (Q4 F5,r % 301,[]) [lv,I (r % 301), .slice none 0 0]:=⟨_,_,rfl,hlv.up hk6,Sl.nil⟩
 refine Wc (ds:=[lv,I (r % 301), .slice none 0 0]) hm6 rfl rfl (by rw[List.all_toArray];exact List.all_eq_true.2 (Rep.one hrh)) fun w7 u7 hm7=>?_
 refine V2 hm7 rfl ?_
 have hS6:=hS5.trans hk6
 have hB3:=L9 hb3 (Stp.refl hs)
 have hS7:=u7.stp hS6 hB3 hm6.1
 have hb35:b3<w5.heap.size:=by
  have:=(hm1.up ((hk2.trans hk3).trans hk35)).lt
  exact this
 exact h b6 a D _ w7 σ6 hS7 ((h6.nx (Nxt.of_upd hk6.sat u7 hm6.1) fun k hk e=>by have:=(h6.mem hk).1;omega).mono hS5.bel.size) hrh (ht.lift ⟨(hk35.trans hk6).le⟩) ok)
theorem X4n {x:ActH} {ds:List Value} (g:X3 w σ) (d:Q13 σ x ds) (h: ∀w',Below w.heap.size w w'→K (.bool (decide (x.s.length≤100)&&decide (x.v.s.length≤5000))) w'):Q1 P F.bN [.agg ds.toArray] w K:=Q0Z (by
 have f:=d
 obtain ⟨rfl,k,m⟩:=d
 unfold He
 refine Z1 g fun q w1 σ1 a c=>?_
 refine W3 ?_
 refine ld (i:=1) a.sat c rfl ?_
 refine Fw (by kernel_rfl) ?_
 refine Q5d ?_
 cases e:decide ((x.s.length:Int)≤100) with
 | false=>
  have b:decide (x.s.length≤100)=false:=by rw[←e];congr 1;simp only[eq_iff_iff];omega
  rw[b] at h
  (try simp only[↓M1,M1,Mb,reduceIte])
  exact h _ a.bel
 | true=>
  have b:decide (x.s.length≤100)=true:=by rw[←e];congr 1;simp only[eq_iff_iff];omega
  rw[b] at h
  (try simp only[O7,E1,S6,W5,W9,L1,M8,M7,H6,Bool.not_true,Bool.not_false])
  (repeat refine Hd.h ?_)
  refine ld (i:=6) a.sat c rfl ?_
  (repeat refine Hd.h ?_)
  refine Fw (by kernel_rfl) ?_
  (repeat refine Hd.h ?_)
  refine Q5d ?_
  (repeat refine Hd.h ?_)
  have j:decide ((x.v.s.length:Int)≤5000)=decide (x.v.s.length≤5000):=by congr 1;simp only[eq_iff_iff];omega
  rw[j]
  exact h _ a.bel)
theorem X2U {v u:Value} (hs:X3 w σ) (hv:Sl 2 E4 σ v cs) (hu:Sl 2 E4 σ u cs) (h: ∀w',Below w.heap.size w w'→K (.bool true) w'):Q1 P F.aR [v,u] w K:=Q0j (by
 have hcl:=hv.max
 unfold Ov
 refine Q8 hv ?_
 refine Q8 hu ?_
 refine Za ?_
 simp only[decide_true,Bool.not_true,↓M1,M1,Mb,reduceIte]
 refine U3 cs.length (fun i w'=>Stp w σ w' σ) (Stp.refl hs) fun i w1 d hi hk1=>?_
 have hv1:=hv.up hk1
 have hu1:=hu.up hk1
 refine Q8 hv1 ?_
 refine Y9 ?_
 refine Q7 (fun hc=>?_) (fun hc=>?_)
 ·have hi':i<cs.length:=by simpa using hc
  obtain ⟨vv,p1,p2,b2⟩:=Sl.elO hv1 hi'
  obtain ⟨uu,q1,q2,_⟩:=Sl.elO hu1 hi'
  have hmx:=p2.max
  refine U0 hk1.sat ?_
  (repeat (apply Z9;(· intros;(repeat (rename_i hx;subst hx));(repeat' (first | (with_reducible exact L7 rfl) | (with_reducible exact R9 (Stp.bel (by (repeat (first | exact Stp.refl (by (first | assumption | exact Stp.sat (by assumption) | exact Hst.sat (by assumption))) | assumption | refine Stp.trans ?_ (by first | assumption | exact Hst.stp (by assumption)))))) rfl) | (with_reducible intro _) | (simp only[↓M2,M2,Mb,reduceIte]) | (with_reducible refine Jh ?_) | (with_reducible show Q2 _ _ _ _ _;first | refine X7 aS aL aR ?_ | refine Y4 aS aL aR ?_ | refine ld aS aL aR ?_) | (with_reducible show indexAddr _ _ _ _ _ _;refine Y1 aL au ?_) | (with_reducible show X2 _ _ _ _ _ _ _ _;refine Q8 aL ?_) | (with_reducible show B7 _ _ _ _ _ _;refine J3 aR ?_) | (with_reducible show pick _ _ _ _ _ _;refine M3 ?_) | (apply B8;intro hh;(try simp only[hh,reduceIte,↓M2,M2,Mb,reduceIte]))));done)))
  simp only[decide_true,Bool.not_true,Bool.false_eq_true,reduceIte]
  (repeat (apply Z9;(· intros;(repeat (rename_i hx;subst hx));(repeat' (first | (with_reducible exact L7 rfl) | (with_reducible exact R9 (Stp.bel (by (repeat (first | exact Stp.refl (by (first | assumption | exact Stp.sat (by assumption) | exact Hst.sat (by assumption))) | assumption | refine Stp.trans ?_ (by first | assumption | exact Hst.stp (by assumption)))))) rfl) | (with_reducible intro _) | (simp only[↓M2,M2,Mb,reduceIte]) | (with_reducible refine Jh ?_) | (with_reducible show Q2 _ _ _ _ _;first | refine X7 aS aL aR ?_ | refine Y4 aS aL aR ?_ | refine ld aS aL aR ?_) | (with_reducible show indexAddr _ _ _ _ _ _;refine Y1 aL au ?_) | (with_reducible show X2 _ _ _ _ _ _ _ _;refine Q8 aL ?_) | (with_reducible show B7 _ _ _ _ _ _;refine J3 aR ?_) | (with_reducible show pick _ _ _ _ _ _;refine M3 ?_) | (apply B8;intro hh;(try simp only[hh,reduceIte,↓M2,M2,Mb,reduceIte]))));done)))
  (intros;(repeat (rename_i hx;subst hx));(try simp only[↓M2,M2,Mb,reduceIte]))
  rename_i w2 hb2
  (repeat refine Hd.h ?_)
  simp only[decide_true,Bool.not_true,↓M1,M1,Mb,reduceIte]
  refine U3 cs[i].vals.length (fun j w'=>Stp w1 σ w' σ) hb2.stp fun j w3 d hj hk3=>?_
  have hv3:=hv1.up hk3
  have hu3:=hu1.up hk3
  refine Y1 hv3 hi' ?_
  refine W3 ?_
  refine ld hk3.sat (p1.up hk3) rfl ?_
  refine Q8 (p2.up hk3) ?_
  refine Y9 ?_
  refine Q7 (fun hc=>?_) (fun hc=>?_)
  ·have hj':j<cs[i].vals.length:=by simpa using hc
   obtain ⟨p3,r3⟩:=Sl.elV (p2.up hk3) hj'
   obtain ⟨q3,t3⟩:=Sl.elV (q2.up hk3) hj'
   have p13:=p1.up hk3
   have q13:=q1.up hk3
   have p23:=p2.up hk3
   have q23:=q2.up hk3
   refine U0 hk3.sat ?_
   (repeat refine Z9 Qa ?_)
   (intros;(repeat (rename_i hx;subst hx));(try simp only[↓M2,M2,Mb,reduceIte]))
   rename_i w4 hb4
   refine X1R ?_
   simp only[decide_true,Bool.not_true,↓M1,M1,Mb,reduceIte]
   exact Y5 (by omega) hj' (hk3.trans hb4.stp)
  ·exact Y5 hcl hi' (hk1.trans hk3)
 ·exact h _ hk1.bel)
end Go.Proofs.YtjdiakhipmggjaaGreatDoor

namespace Go.Proofs.YtjdiakhipmggjaaGreatDoor
open Go.Emb Go.RowKit Go.Kd Go.Hm
variable {w w' : World} {K : Value → World → Prop} {σ σ' : Q6} {ds : List Value} {room : Int} {cs : List Cel} {l : List Cla} {hp tv : Value}
def zfK:X0:=[90,101,114,111,70,97,117,108,116]
def zf1:List Cel:=[⟨zfK,[⟨3,0,[],0⟩]⟩]
def zf2:List Cel:=zf1++[⟨P9++[91,93],List.replicate 3 ⟨1,0,[],0⟩⟩]
theorem X0L:Zt (Q4 F5) 10 [] zfK=(zf1,0):=by decide
theorem X1j:Zu (Q4 F5) 10 zf1 P9 3=(zf2,0):=by decide
theorem Q3J:W7 []=true:=by decide+kernel
theorem Q7D:GoodH W7 (Q4 F5) 10 zf2:=by
 have a:=GoodH.obj Ig Q3J (GoodH.empty (ok:=W7) (l:=Q4 F5) (show (0:Int)≤10 by decide)) zfK
 rw[X0L] at a
 have b:=GoodH.arr Ig Q3J a P9 3
 rw[X1j] at b
 exact b
theorem X4v:P.underlying T.a5=some (.pointer T.p):=by kernel_rfl
theorem X0U (d:Nat) (o:Option Addr):(Op.equalIn (d+1) T.a5 (.pointer o) (.pointer none)).run P w= .ok o.isNone w:=by
 cases o<;>simp[Op.equalIn,run_underlying X4v]
theorem Q9o {a:Addr} {b c:Operand} (h:K (.bool false) w):Q3 P .eql T.a5 b c (.pointer (some a)) (.pointer none) w K:=by
 have e:(Op.equal T.a5 (.pointer (some a)) (.pointer none)).run P w= .ok false w:=X0U 9999 _
 unfold Q3
 rw[Y0 (v:= .bool false) (w':=w) (by simp[eqGuard,Go.binOp,e])]
 exact h
theorem X2Y {a:Addr} {b c:Operand} (h:K (.bool true) w):Q3 P .neq T.r b c (.pointer (some a)) (.pointer none) w K:=by
 have e:(Op.equal T.r (.pointer (some a)) (.pointer none)).run P w= .ok false w:=Q5s 9999 _
 unfold Q3
 rw[Y0 (v:= .bool true) (w':=w) (by simp[eqGuard,Go.binOp,e])]
 exact h
set_option maxHeartbeats 1000000 in
theorem X2s (W:X3 w σ) (U:Glb σ) (h: ∀w' σ',Stp w σ w' σ'→K (.bool true) w'):Q1 P F.aI [] w K:=Pr (by
 unfold Ob
 refine Q7X W U (by decide) fun b a D ds w1 σ1 g H u Y ok=>?_
 refine J4 (vs:=[_,_]) rfl ?_
 refine J4 (vs:=[_,_]) rfl ?_
 refine M0 g.sat fun b2 w2 Z p o q=>?_
 have ae:=L9 p g
 refine Wc q rfl (by obtain ⟨lv,cv,rfl,_⟩:=O5.out u;rfl) (by rw[List.all_toArray];exact List.all_eq_true.2 (Rep.one u)) fun X u3 ab=>?_
 have Q:=g.trans o
 have h2:=H.up o
 have d:Stp w1 σ1 X Z:=u3.stp o p q.1
 have N:=H.up d
 have z:=g.trans d
 rw[show (10 % 301:Int)=10 from rfl] at N
 refine Q9o ?_
 (try simp only[O7,E1,S6,W5,W9,L1,M8,M7,H6,Bool.not_true,Bool.not_false])
 have s:=Y.lift ⟨d.le⟩
 refine Q6h d.sat z.bel.size N s ok (k:=zfK) (by decide) (by decide) (by decide) fun w4 σ4 D4 C A af=>?_
 simp only[X0L] at A
 have v:=s.lift C.le
 refine J4 (vs:=[_,_]) rfl ?_
 refine J4 (vs:=[_,_]) rfl ?_
 have L: ∀{k},D k→w.heap.size≤k:=fun y=>(H.mem y).1
 have t:=C.stp' z fun k y=>L y
 refine Q7z C.sat t.bel.size A v (e:=P9) (n:=3) (by decide) (by decide) (by decide) fun w5 σ5 D5 M R aa=>?_
 simp only[X1j] at R
 have J:=v.lift M.le
 have j:=M.stp' t fun k y=>(A.mem y).1
 refine J4 (vs:=[_,_]) rfl ?_
 refine J4 (vs:=[_,_]) rfl ?_
 obtain ⟨σf,O,i,r,_⟩:=R.freeze j.sat
 simp only[X0L,X1j,show atM [] 0=0 from rfl,show atM zf1 0=1 from rfl,decide_true,↓M1,M1,Mb,reduceIte]
 refine Q3N O r Q7D.left (by decide) fun w6 E=>?_
 have f:=Stp.of_below O E
 simp only[show W6 10 zf2=4 from by decide,decide_true,↓M1,M1,Mb,reduceIte]
 have c:=r
 refine X0a f.sat c ?_
 simp only[show ((zf2.length:Nat):Int)=2 from by decide,decide_true,↓M1,M1,Mb,reduceIte]
 refine Q7u f.sat c ?_
 refine P6 ?_
 simp only[show D6 zf2 0=zfK from by decide,show decide (zfK=[90,101,114,111,70,97,117,108,116])=true from by decide,↓M1,M1,Mb,reduceIte]
 refine X1T f.sat c ?_
 simp only[show Q6w zf2 1=3 from by decide,decide_true,↓M1,M1,Mb,reduceIte]
 have B:=(U.lift ⟨j.le⟩).lift i
 refine X2j f.sat B c (J.lift i) ok Q7D.cells fun V σ7 m=>?_
 simp only[↓M1,M1,Mb,reduceIte]
 refine X0R m.sat (c.lift ⟨m.le⟩) ?_
 refine X2Y ?_
 (try simp only[↓M1,M1,Mb,reduceIte])
 exact h V σ5 (j.trans ((f.trans m).weak i.le)))
end Go.Proofs.YtjdiakhipmggjaaGreatDoor

namespace Go.Emb
open Go.RowKit Go.Hm
variable {P : Program} {w w0 w1 w' w'' : World} {K : Value → World → Prop} {σ σ0 σ1 σ' : Q6} {b n : Nat} {ds : List Value} {v V : Value}
structure VarT (b : Nat) (ds : List Value) (w w' : World) : Prop where
  kp : Kpt (fun j => j = b) w w'
  var : (b < w.heap.size → w'.heap[b]? = w.heap[b]?) ∨ ∃ e, w'.heap[b]? = some (.cells ds.toArray e (0, 0))
structure VarB (w0 : World) (σ0 : Q6) (w1 : World) (σ : Q6) (b n : Nat) (w' : World) : Prop where
  hst : Hst w0 σ0 w' σ
  kp : Kpt (fun j => j = b) w1 w'
  var : ∃ cs, cs.length = n ∧ Y2 σ w' b cs
theorem VarT.of_below (h:Below w.heap.size w w'):VarT b ds w w':=⟨.of_below h, .inl fun a=>h.block b a⟩
theorem VarT.of_upd (h:Upd w b w') (a:Y2 σ w' b ds):VarT b ds w w':=⟨.of_upd h rfl, .inr a.2⟩
theorem VarB.step (g:w0.heap.size≤b) (f:ds.length=n) (h:VarB w0 σ0 w1 σ b n w) (k:VarT b ds w w'):VarB w0 σ0 w1 σ b n w':=by
 obtain ⟨cs,c,a⟩:=h.var
 refine ⟨⟨h.hst.stp.kp k.kp fun j d=>by subst d;exact ⟨g,a.1⟩⟩,h.kp.trans k.kp,?_⟩
 rcases k.var with e | e
 ·exact ⟨cs,c,a.1,by rw[e a.lt];exact a.2⟩
 ·exact ⟨ds,f,a.1,e⟩
theorem Q6C {A:(World→World→Prop)→(World→Prop)→Prop} (ds:List Value) {cs:List Value} (a:Stp w0 σ0 w σ) (i:w0.heap.size≤b) (g:Y2 σ w b cs) (f:cs.length=n) (e:ds.length=n)
 (h:A (VarT b ds) (VarB w0 σ0 w σ b n)):dr w A:=
 Ph _ _ ⟨⟨a.trans (Stp.of_below a.sat (Below.refl _ _).drew)⟩, .of_below (Below.refl _ _).drew,cs,f,g⟩ (fun _ _ c d=>c.step i e d) h
theorem G0 (h:V=v):dk (VarT b ds) (fun v _=>V=v) w v w:=⟨.of_below (Below.refl _ _),h⟩
theorem Zm (a:Below w.heap.size w w') (h:V=v):dk (VarT b ds) (fun v _=>V=v) w v w':=⟨.of_below a,h⟩
theorem Jy {t:TypeId} {c:Nat} {z:Value} [tz:TZ P t n c z] {a:(List Value→Value→World→Prop)→Prop} {φ:Value→World→Prop} (s:ds.length=n) (i: ∀u∈ds,u.oneCell'=true) (p: ∀v w,φ v w→ .agg ds.toArray=v)
 (m:a (fun _ _ w=>Y2 σ w b ds)) (d:σ b=none):Sn (VarT b ds) (fun F=> ∀x w,VarB w0 σ0 w1 σ b n w→φ x w→X9 P t (.pointer (some ⟨b,0,none⟩)) x w (dk (VarT b ds) (F [x]) w)) a:=by
 refine Q41 _ (fun xs v w w' h k=>?_) (fun x w r o=>?_) m
 ·rcases k.var with e | e
  ·exact ⟨d,by rw[e h.lt];exact h.2⟩
  ·exact ⟨d,e⟩
 ·have:=p x w o
  subst this
  obtain ⟨cs,q,g⟩:=r.var
  exact Wc g q s (by rw[List.all_toArray];exact List.all_eq_true.2 i) fun w' j f=>⟨.of_upd j f,f⟩
theorem Vx {c a:Bool} {V:Value} {d:World→(Value→World→Prop)→Prop} (h:c=a→d w (dk (VarT b ds) (fun v _=>V=v) w)):Q0 (.bool c) a w d (dk (VarT b ds) (fun v _=>(if c=a then V else undef)=v) w):=by
 by_cases e:c=a
 ·simp only[e,if_true]
  subst e
  have:=h rfl
  cases c
  ·rw[W9];exact this
  ·rw[W5];exact this
 ·simp only[e,if_false]
  cases c<;>cases a<;>first | exact absurd rfl e | (rw[S6];exact G0 rfl) | (rw[E1];exact G0 rfl)
theorem VarB.hs (h:VarB w0 σ0 w1 σ b n w):Hst w0 σ0 w σ:=h.hst
end Go.Emb
namespace Go.Proofs.YtjdiakhipmggjaaGreatDoor
open Go.Emb Go.RowKit Go.Kd Go.Hm
variable {w w' : World} {K : Value → World → Prop} {σ σ' : Q6} {ds : List Value} {room : Int} {cs : List Cel} {l : List Cla} {hp tv : Value}
theorem Q3Q {a:Nat} {g f:World} {e:Q6} {x:List Cla×Int×List Cel} {d o:List Value} (p:Stp w σ g e) (hB:w.heap.size≤a) (q:Y2 e g a o) (u:Upd g a f) (h:Y2 e f a d):
 ∃c,Stp w σ f c∧Z6 c ⟨a,0,none⟩ d∧SLe e c∧ ∀k,k≠a→c k=e k:=by
 obtain ⟨c,i,r,j,m⟩:=h.keep (u.stp p hB q.1) hB
 exact ⟨c,i,r,⟨j⟩,m⟩
end Go.Proofs.YtjdiakhipmggjaaGreatDoor

namespace Go.Emb
open Go.RowKit Go.Hm
variable {P : Program} {w w0 w1 w' w'' : World} {K : Value → World → Prop} {σ σ0 σ1 σ' : Q6} {b n : Nat} {ds : List Value} {v V : Value}
theorem Z6.tail {q:Addr} {xs ys:List Value} (h:Z6 σ q (xs++ys)):Z6 σ (q.add xs.length) ys:=by
 obtain ⟨d,a,e,z,g,f⟩:=h
 cases xs with
 | nil=>exact ⟨by simp[Addr.add,d],a,e,z,by simpa [Addr.add] using g,fun i u c=>by simpa [Addr.add] using f i u c⟩
 | cons x xs=>
  refine ⟨by simp[Addr.add,d],a,e,z,by simpa [Addr.add] using g,fun i u c=>?_⟩
  have:=f ((x::xs).length+i) u (by rw[List.getElem?_append_right (by omega)];simpa using c)
  simpa [Addr.add,Nat.add_assoc] using this
theorem J9.down {α:Type} {R:Q6→α→List Value→Prop} {B sz:Nat} {e:TypeId} {v:Value} {xs:List α} (h:J9 B e sz R σ' w v xs) (t:SLe σ σ') (s: ∀x cs,R σ' x cs→R σ x cs):J9 B e sz R σ w v xs:=by
 obtain ⟨a,m,rfl,u,H,c,q⟩:=h
 have p: ∀k,σ' k=none→σ k=none:=fun k E=>by
  cases e:σ k with
  | none=>rfl
  | some o=>have:=t.le k o e;rw[E] at this;cases this
 refine ⟨a,m,rfl,u,H,fun b d=>⟨(c b d).1,(c b d).2.1,(c b d).2.2.1,p _ (c b d).2.2.2⟩,fun y=>?_⟩
 obtain ⟨g,f,j,rfl,C,J,L,A,r⟩:=q y
 exact ⟨g,f,j,rfl,C,p _ J,L,A,fun i x z=>s _ _ (r i x z)⟩
end Go.Emb
namespace Go.Proofs.YtjdiakhipmggjaaGreatDoor
open Go.Emb Go.RowKit Go.Kd Go.Hm
variable {w w' w0 w1 : World} {K : Value → World → Prop} {σ σ' σ0 : Q6} {ds : List Value} {room : Int} {cs cs' : List Cel} {l : List Cla} {hp tv : Value} {B b : Nat} {D : Nat → Prop} {V v : Value}
theorem X0s {ok:X0→Bool} {r i:Int} {v:Val}:H7 ok l (H7 ok l cs r i v).1 r i v=H7 ok l cs r i v:=by
 by_cases g:E3 cs r i=0
 case neg=>
  have e:H7 ok l cs r i v=(cs,E3 cs r i):=by unfold H7;rw[if_pos g]
  rw[e];exact e
 cases f:F4 ok l cs v (Xl l (Wn cs r).kind i.toNat) with
 | false=>
  have e:H7 ok l cs r i v=(cs,91):=by unfold H7;rw[if_neg (fun h=>h g),f];rfl
  rw[e];exact e
 | true=>
  have e:H7 ok l cs r i v=(F6 cs r i v,0):=by unfold H7;rw[if_neg (fun h=>h g),f];rfl
  rw[e]
  obtain ⟨j,m,rfl,rfl,d,y⟩:=Lw g
  have s:M6 cs (j:Int)=true:=D9.2 ⟨j,rfl,d⟩
  have a:F6 cs j m v=cs.set j ⟨cs[j].kind,cs[j].vals.set m v⟩:=by unfold F6;rw[L4 d,Int.toNat_natCast,Int.toNat_natCast]
  have t:(F6 cs j m v).length=cs.length:=by rw[a];simp
  have c:j<(F6 cs j m v).length:=by rw[t];exact d
  have k:Wn (F6 cs j m v) j=⟨cs[j].kind,cs[j].vals.set m v⟩:=by
   rw[L4 c];simp only[a,List.getElem_set_self]
  have p:M6 (F6 cs j m v) (j:Int)=true:=D9.2 ⟨j,rfl,c⟩
  have u:E3 (F6 cs j m v) j m=0:=by
   unfold E3
   rw[p,k]
   simp only[if_true,List.length_set]
   rw[if_pos ⟨by omega,by omega⟩]
  have o:F4 ok l (F6 cs j m v) v (Xl l (Wn (F6 cs j m v) j).kind (m:Int).toNat)=true:=by
   rw[k]
   rw[L4 d] at f
   exact Rf (fun _ _=>Q31 s) f
  have q:F6 (F6 cs j m v) j m v=F6 cs j m v:=by
   unfold F6 at k⊢
   rw[k]
   simp only[Int.toNat_natCast,List.set_set]
   rw[L4 d]
  unfold H7
  rw[if_neg (fun h=>h u),o,q];rfl
theorem RowsIs.down {c:Value} (h:RowsIs B D σ' w c cs) (a:SLe σ σ'):RowsIs B D σ w c cs:=by
 obtain ⟨vs,g,d,j,hD⟩:=h.ex
 exact ⟨vs,g.down a fun _ _ h=>h,⟨d.1,fun i e f=>(d.2 i e f).down a fun _ _ h=>h⟩,j,hD⟩
theorem HeapIs.down (h:HeapIs B D σ' w hp tv room cs) (a:SLe σ σ'):HeapIs B D σ w hp tv room cs:=by
 obtain ⟨b,d,E,rfl,hB,c,f,hE,hD⟩:=h.ex
 refine ⟨b,d,E,rfl,hB,⟨?_,c.2⟩,f.down a,hE,hD⟩
 cases e:σ b with
 | none=>rfl
 | some o=>have:=a.le b o e;rw[c.1] at this;cases this
structure SetT (B : Nat) (D : Nat → Prop) (σ : Q6) (hp tv : Value) (room : Int) (cs' : List Cel) (b : Nat) (ds : List Value) (w w' : World) : Prop where
  kp : Kpt (fun j => j = b ∨ D j) w w'
  var : (b < w.heap.size → w'.heap[b]? = w.heap[b]?) ∨ ∃ e, w'.heap[b]? = some (.cells ds.toArray e (0, 0))
  hp : (∀ j, D j → j < w.heap.size → w'.heap[j]? = w.heap[j]?) ∨ HeapIs B D σ w' hp tv room cs'
structure SetB (B : Nat) (D : Nat → Prop) (hp tv : Value) (room : Int) (cs cs' : List Cel) (w0 : World) (σ0 : Q6) (w1 : World) (σ : Q6) (b n : Nat) (w' : World) : Prop where
  hst : Hst w0 σ0 w' σ
  kp : Kpt (fun j => j = b ∨ D j) w1 w'
  var : ∃ zs, zs.length = n ∧ Y2 σ w' b zs
  hp : HeapIs B D σ w' hp tv room cs ∨ HeapIs B D σ w' hp tv room cs'
theorem SetB.hs {n:Nat} (h:SetB B D hp tv room cs cs' w0 σ0 w1 σ b n w):Hst w0 σ0 w σ:=h.hst
theorem SetT.of_below (h:Below w.heap.size w w'):SetT B D σ hp tv room cs' b ds w w':=⟨.of_below h, .inl fun a=>h.block b a, .inl fun j _ c=>h.block j c⟩
theorem HeapIs.same (h:HeapIs B D σ w hp tv room cs) (k:Kpt (fun j=>j=b∨D j) w w') (c:X3 w' σ) (g: ¬D b) (f: ∀j,D j→j<w.heap.size→w'.heap[j]? =w.heap[j]?):HeapIs B D σ w' hp tv room cs:=
 h.nx (F:=fun j=>j=b) ⟨⟨k.os,k.tape,k.output,k.size,fun j a d=>by
  by_cases e:D j
  ·exact f j e a
  ·exact k.block j a fun h=>h.elim d e⟩,SLe.refl _,fun _ _=>rfl,c⟩ fun j a e=>g (e▸a)
theorem SetB.step {n:Nat} (o:w0.heap.size≤b) (hB:w0.heap.size≤B) (d: ¬D b) (m:ds.length=n) (h:SetB B D hp tv room cs cs' w0 σ0 w1 σ b n w) (k:SetT B D σ hp tv room cs' b ds w w'):SetB B D hp tv room cs cs' w0 σ0 w1 σ b n w':=by
 obtain ⟨i,g,f⟩:=h.var
 have c: ∀j,D j→w0.heap.size≤j∧σ j=none:=fun j hj=>by
  rcases h.hp with h | h
  ·exact ⟨Nat.le_trans hB (h.mem hj).1,(h.mem hj).2.2⟩
  ·exact ⟨Nat.le_trans hB (h.mem hj).1,(h.mem hj).2.2⟩
 have a:Stp w0 σ0 w' σ:=h.hst.stp.kp k.kp fun j hj=>by
  rcases hj with rfl | hj
  ·exact ⟨o,f.1⟩
  ·exact c j hj
 refine ⟨⟨a⟩,h.kp.trans k.kp,?_,?_⟩
 ·rcases k.var with e | e
  ·exact ⟨i,g,f.1,by rw[e f.lt];exact f.2⟩
  ·exact ⟨ds,m,f.1,e⟩
 ·rcases k.hp with e | e
  ·rcases h.hp with h3 | h3
   ·exact .inl (h3.same k.kp a.sat d e)
   ·exact .inr (h3.same k.kp a.sat d e)
  ·exact .inr e
theorem X3b {n:Nat} {A:(World→World→Prop)→(World→Prop)→Prop} (cs':List Cel) (ds:List Value) {c:List Value} (a:Stp w0 σ0 w σ) (k:w0.heap.size≤b) (hB:w0.heap.size≤B) (d: ¬D b) (j:Y2 σ w b c) (i:c.length=n) (g:ds.length=n) (hh:HeapIs B D σ w hp tv room cs)
 (h:A (SetT B D σ hp tv room cs' b ds) (SetB B D hp tv room cs cs' w0 σ0 w σ b n)):dr w A:=
 Ph _ _ ⟨⟨a.trans (Stp.of_below a.sat (Below.refl _ _).drew)⟩, .of_below (Below.refl _ _).drew,⟨c,i,j⟩, .inl (hh.up (Stp.of_below a.sat (Below.refl _ _).drew))⟩ (fun _ _ e f=>e.step k hB d g f) h
theorem Q5N (h:V=v):dk (SetT B D σ hp tv room cs' b ds) (fun v _=>V=v) w v w:=⟨.of_below (Below.refl _ _),h⟩
theorem X2w (a:Below w.heap.size w w') (h:V=v):dk (SetT B D σ hp tv room cs' b ds) (fun v _=>V=v) w v w':=⟨.of_below a,h⟩
theorem X0Q {n:Nat} {t:TypeId} {c:Nat} {z:Value} [tz:TZ P t n c z] {a:(List Value→Value→World→Prop)→Prop} {φ:Value→World→Prop} (C:ds.length=n) (o: ∀u∈ds,u.oneCell'=true) (r: ∀v w,φ v w→ .agg ds.toArray=v)
 (p:a (fun _ _ w=>Y2 σ w b ds)) (g:σ b=none) (d: ¬D b):Sn (SetT B D σ hp tv room cs' b ds) (fun G=> ∀x w,SetB B D hp tv room cs cs' w0 σ0 w1 σ b n w→φ x w→X9 P t (.pointer (some ⟨b,0,none⟩)) x w (dk (SetT B D σ hp tv room cs' b ds) (G [x]) w)) a:=by
 refine Q41 _ (fun xs v w w' h k=>?_) (fun x w s q=>?_) p
 ·rcases k.var with e | e
  ·exact ⟨g,by rw[e h.lt];exact h.2⟩
  ·exact ⟨g,e⟩
 ·have:=r x w q
  subst this
  obtain ⟨H,y,m⟩:=s.var
  exact Wc m y C (by rw[List.all_toArray];exact List.all_eq_true.2 o) fun w' f i=>⟨⟨.of_upd f (.inl rfl), .inr i.2, .inl fun j E A=>f.block j fun e=>d (e▸E)⟩,i⟩
theorem X2u {n:Nat} {x:Val} {r i:Int} {d:(Value→World→Prop)→Prop} {R O L:Value→World→Prop} (Q:Glb σ) (J:Tab σ tv l) (ok:Ok l) (y: ∀c∈cs,GoodC W7 l cs c) (g: ∀c∈(H7 W7 l cs r i x).1,GoodC W7 l (H7 W7 l cs r i x).1 c) (M:O3 σ x [I x.sort,I x.n,S x.s,I x.ref]) (q: ¬D b) (Y:σ b=none)
 (X: ∀v w,R v w→I r=v) (h2: ∀v w,O v w→I i=v) (U: ∀v w,L v w→Value.agg [I x.sort,I x.n,S x.s,I x.ref].toArray=v)
 (hr:d (fun v w=>I (H7 W7 l cs r i x).2=v∧X3 w σ∧HeapIs B D σ w hp tv room (H7 W7 l cs r i x).1)):
 Q5 (SetT B D σ hp tv room (H7 W7 l cs r i x).1 b ds) (fun G=> ∀E H C w,SetB B D hp tv room cs (H7 W7 l cs r i x).1 w0 σ0 w1 σ b n w→R E w→O H w→L C w→Q1 P F.b4 [hp,E,H,C] w (dk (SetT B D σ hp tv room (H7 W7 l cs r i x).1 b ds) G w)) d:=by
 refine E8 _ (fun v w w' h k=>?_) (fun E H C w A Z e2 e3=>?_) hr
 ·obtain ⟨e,W,h4⟩:=h
  have m:X3 w' σ:=Kpt.sat W k.kp fun j z=>z.elim (fun e=>e▸Y) fun z=>(h4.mem z).2.2
  rcases k.hp with e2 | e2
  ·exact ⟨e,m,h4.same k.kp m q e2⟩
  ·exact ⟨e,m,e2⟩
 ·have:=X _ _ Z
  have:=h2 _ _ e2
  have:=U _ _ e3
  subst_vars
  have p: ∀{a u},Nxt D w σ a u→HeapIs B D u a hp tv room (H7 W7 l cs r i x).1→SetT B D σ hp tv room (H7 W7 l cs r i x).1 b ds w a∧I (H7 W7 l cs r i x).2=I (H7 W7 l cs r i x).2∧X3 a σ∧HeapIs B D σ a hp tv room (H7 W7 l cs r i x).1:=fun {a u} N h4=>by
   have f:=h4.down N.le
   have t:b<w.heap.size:=by obtain ⟨zs,_,hm⟩:=A.var;exact hm.lt
   exact ⟨⟨N.kp.mono fun _ _ z=> .inr z, .inl fun _=>N.kp.block b t q, .inr f⟩,rfl,fun k o e=>N.sat k o (N.le.le k o e),f⟩
  rcases A.hp with h4 | h4
  ·exact X1F A.hst.sat Q h4 J ok y M fun a u N f=>p N f
  ·have hi:=X0s (ok:=W7) (l:=l) (cs:=cs) (r:=r) (i:=i) (v:=x)
   refine X1F A.hst.sat Q h4 J ok g M fun a u N f=>?_
   rw[hi] at f⊢
   exact p N f
end Go.Proofs.YtjdiakhipmggjaaGreatDoor

namespace Go.Proofs.YtjdiakhipmggjaaGreatDoor
open Go.Emb Go.RowKit Go.Kd Go.Hm
variable {w w' : World} {K : Value → World → Prop} {σ σ' : Q6} {ds : List Value} {room : Int} {cs : List Cel} {l : List Cla} {hp tv : Value}
theorem Vq {B f:Nat} {D i:Nat→Prop} {m c:World} {b:Q6} {g h:List Cel} {a:List Value} {G:Bool→Prop} {d:Bool} (hG:G d) (N:Nxt D w σ m b) (z:HeapIs B i b m hp tv room g) (q: ∀j,i j→D j∨w.heap.size≤j) (p: ¬i f) (s:w.heap.size≤f)
 (y:Kpt (fun j=>j=f) m c) (o:X3 c b) (v:Y2 b c f a) (n:a.length=3) (u:O5 b (Q4 l,room,h) a)
 (hh: ∀a d w' σ' D',G d→Nxt D w σ w' σ'→HeapIs B D' σ' w' hp tv room g→(∀j,D' j→D j∨w.heap.size≤j)→O5 σ' (Q4 l,room,h) a→K (.tuple #[.agg a.toArray, .bool d]) w'):
 Y7 P T.a (.pointer (some ⟨f,0,none⟩)) c fun t=>K (.tuple #[t, .bool d]) c:=by
 refine V2 v n ?_
 have r:Nxt (fun j=>j=f) m b c b:=⟨y,SLe.refl _,fun _ _=>rfl,o⟩
 exact hh a d c b i hG (N.chain r fun j C e=>by omega) (z.nx r fun k A e=>p (e▸A)) q u
set_option maxHeartbeats 2000000 in
theorem X3h {B:Nat} {D:Nat→Prop} {x:ActH} {xs:List Value} {cr:List Cel} (hs:X3 w σ) (hg:Glb σ) (hB:B≤w.heap.size) (h:HeapIs B D σ w hp tv room cs) (hr:O5 σ (Q4 l,room,cr) ds) (ht:Tab σ tv (Q4 l)) (wf:Wf l) (ok:Ok (Q4 l)) (hlen:(Q4 l).length≤1000)
 (good:GoodH W7 (Q4 l) room cs) (goodr:GoodH W7 (Q4 l) room cr) (h1:room≤1048576) (hx:Q13 σ x xs) (hD0: ∀k,D k→B≤k)
 (hh: ∀ds' bb w' σ' D',(cr=cs→bb=true)→Nxt D w σ w' σ'→HeapIs B D' σ' w' hp tv room (S7 W7 (Q4 l) room cs x)→(∀j,D' j→D j∨w.heap.size≤j)→O5 σ' (Q4 l,room,S7 W7 (Q4 l) room cr x) ds'→K (.tuple #[.agg ds'.toArray, .bool bb]) w'):Q1 P F.ai [hp, .agg ds.toArray, .agg xs.toArray] w K:=Q29 (by
 have hx0:=hx
 have hr0:=hr
 obtain ⟨lv,cv,rfl,hl,hc⟩:=O5.out hr
 obtain ⟨rfl,⟨b1,b2,b3,b4⟩,hv⟩:=hx
 have hcl:=T6 cs
 have hlf:=good.left
 unfold W6 at hlf
 have hclr:=T6 cr
 have hlr:=goodr.left
 unfold W6 at hlr
 unfold Hu
 refine Z1 hs fun q4 w1 σ1 hk1 hq4=>?_
 refine Z1 hk1.sat fun q5 w2 σ2 hk2 hq5=>?_
 have hS2:=hk1.trans hk2
 refine M0 hk2.sat fun b6 w3 σ3 hb6 hk3 hm6=>?_
 have hS3:=hS2.trans hk3
 have hB6:=L9 hb6 hS2
 have hq43:=(hq4.up hk2).up hk3
 have hq53:=hq5.up hk3
 have h3:=h.up hS3
 have hr3:=W4 hr0 ⟨hS3.le⟩
 have ht3:=ht.lift ⟨hS3.le⟩
 have hg3:=hg.lift ⟨hS3.le⟩
 refine W3 ?_
 refine ld (i:=0) hk3.sat hq53 rfl ?_
 refine P4 ?_
 have hDl: ∀k,D k→k<w.heap.size:=fun k hk=>(h.mem hk).2.1
 have htk:Z0 cs≤1048576:=by omega
 have htr:Z0 cr≤1048576:=by omega
 by_cases e0:x.kind=0
 ·rw[decide_eq_true e0]
  have ea:S7 W7 (Q4 l) room cs x=(Zt (Q4 l) room cs x.s).1:=by unfold S7;rw[if_pos e0]
  have er:S7 W7 (Q4 l) room cr x=(Zt (Q4 l) room cr x.s).1:=by unfold S7;rw[if_pos e0]
  rw[ea,er] at hh
  refine J7 ?_
  refine Y4 hk3.sat hq43 rfl ?_
  refine W3 ?_
  refine ld (i:=1) hk3.sat hq53 rfl ?_
  refine X0F hk3.sat hr3 ok hlen b2 goodr.left h1 fun ds' w4 σ4 hk4 hr4=>?_
  refine J4 (vs:=[_,_]) rfl ?_
  refine J4 (vs:=[_,_]) rfl ?_
  have hS4:=hS3.trans hk4
  refine M0 hk4.sat fun b8 w5 σ5 hb8 hk5 hm8=>?_
  have hS5:=hS4.trans hk5
  have hB8:=L9 hb8 hS4
  have hr5:=W4 hr4 ⟨hk5.le⟩
  obtain ⟨lv',cv',hde,_,_⟩:=O5.out hr4
  subst hde
  refine Wc (ds:=[lv',I room,cv']) hm8 rfl rfl (by rw[List.all_toArray];exact List.all_eq_true.2 (Rep.one hr5)) fun w6 u6 hm86=>?_
  obtain ⟨σ7,hS7,hq8,l57,o7⟩:=Q3Q (x:=(Q4 l,room,(Zt (Q4 l) room cr x.s).1)) hS5 hB8 hm8 u6 hm86
  have l37:SLe σ3 σ7:=(SLe.more ⟨hk4.le⟩ ⟨hk5.le⟩).more l57
  have hb68:b6≠b8:=by have:=(hm6.up hk4).lt;omega
  have hm66:=((hm6.up hk4).up hk5).upd u6 hb68
  have hm67:Y2 σ7 w6 b6 _:=⟨(o7 b6 hb68).trans hm66.1,hm66.2⟩
  have hq57:=hq53.lift l37
  have hq47:=hq43.lift l37
  refine W3 ?_
  refine ld (i:=1) hS7.sat hq57 rfl ?_
  refine Q6h hS7.sat (Nat.le_trans hB hS7.bel.size) (h.up hS7) (ht.lift ⟨hS7.le⟩) ok b2 good.left h1 fun w8 σ8 D8 N8 h8 hD8=>?_
  refine J4 (vs:=[_,_]) rfl ?_
  refine J4 (vs:=[_,_]) rfl ?_
  have N:=(Nxt.of_stp (D:=D) hS7).chain N8 fun k _ e=>e
  have hm68:=hm67.nx N8 fun e=>by have:=hDl _ e;omega
  have hne8: ¬D8 b6:=fun e=>by
   have:=hm67.lt
   rcases hD8 _ e with e | e
   ·have:=hDl _ e;omega
   ·omega
  have hD8': ∀j,D8 j→D j∨w.heap.size≤j:=fun j hj=>(hD8 j hj).imp id fun e=>Nat.le_trans hS7.bel.size e
  have hq48:=hq47.lift N8.le
  have hq88:=hq8.lift N8.le
  have hc8:Sl 2 E4 σ8 cv cr:=hc.lift N.le
  have hr8:=W4 hr5 (l57.more N8.le)
  have hsame:cr=cs→(Zt (Q4 l) room cr x.s).2=(Zt (Q4 l) room cs x.s).2:=fun h=>by rw[h]
  generalize (Zt (Q4 l) room cs x.s).2=e at*
  generalize (Zt (Q4 l) room cr x.s).2=f at*
  refine Q6C (w0:=Pj w8) (σ0:=fun _=>none) (n:=3) [lv',I room,cv'] (Yt N8.sat) (Nat.zero_le _) hm68 rfl rfl ?_
  unfold atM
  by_cases hfe:f=e
  case neg=>
   have hz0:decide (f=e)=false:=decide_eq_false hfe
   (repeat (apply Z9;(· intros;(have hzz:=VarB.hs (by assumption));(repeat (rename_i hx;subst hx));(try simp only[hz0,decide_true,Bool.not_true,Bool.not_false,Bool.false_eq_true,Bool.true_eq_false,reduceIte,↓M2,M2,Mb,reduceIte]);(repeat' (first | (with_reducible exact G0 rfl) | (with_reducible exact Zm (Stp.bel (by (repeat (first | exact Stp.refl (by (first | assumption | exact Stp.sat (by assumption) | exact Hst.sat (by assumption))) | assumption | refine Stp.trans ?_ (by first | assumption | exact Hst.stp (by assumption)))))) rfl) | (with_reducible intro _) | (simp only[↓M2,M2,Mb,reduceIte]) | (with_reducible show Q2 _ _ _ _ _;first | refine X7 aS aL aR ?_ | refine Y4 aS aL aR ?_ | refine ld aS aL aR ?_) | (with_reducible show indexAddr _ _ _ _ _ _;refine Y1 aL au ?_) | (with_reducible show X2 _ _ _ _ _ _ _ _;refine Q8 aL ?_) | (with_reducible show B7 _ _ _ _ _ _;refine J3 aR ?_) | (with_reducible show pick _ _ _ _ _ _;refine M3 ?_) | (apply Vx;intro hh;(try simp only[hh,reduceIte,↓M2,M2,Mb,reduceIte]))));done)))
   refine Jy (φ:=fun v _=>Value.agg [lv',I room,cv'].toArray=v) rfl (Rep.one hr5) (fun v w h=>h) ?_ hm68.1
   intros
   rename_i hm9
   (repeat (rename_i hx;subst hx))
   rename_i w9 hb9
   exact Vq (G:=fun b=>cr=cs→b=true) (fun h=>absurd (hsame h) hfe) N h8 hD8' hne8 hB6 hb9.kp hb9.hst.sat hm9 rfl hr8 hh
  subst hfe
  by_cases e1:f=0
  ·subst e1
   simp only[reduceIte]
   have hz0:decide True=true:=decide_true _
   (repeat (apply Z9;(· intros;(have hzz:=VarB.hs (by assumption));(repeat (rename_i hx;subst hx));(try simp only[hz0,decide_true,Bool.not_true,Bool.not_false,Bool.false_eq_true,Bool.true_eq_false,reduceIte,↓M2,M2,Mb,reduceIte]);(repeat' (first | (with_reducible exact G0 rfl) | (with_reducible exact Zm (Stp.bel (by (repeat (first | exact Stp.refl (by (first | assumption | exact Stp.sat (by assumption) | exact Hst.sat (by assumption))) | assumption | refine Stp.trans ?_ (by first | assumption | exact Hst.stp (by assumption)))))) rfl) | (with_reducible intro _) | (simp only[↓M2,M2,Mb,reduceIte]) | (with_reducible show Q2 _ _ _ _ _;first | refine X7 aS aL aR ?_ | refine Y4 aS aL aR ?_ | refine ld aS aL aR ?_) | (with_reducible show indexAddr _ _ _ _ _ _;refine Y1 aL au ?_) | (with_reducible show X2 _ _ _ _ _ _ _ _;refine Q8 aL ?_) | (with_reducible show B7 _ _ _ _ _ _;refine J3 aR ?_) | (with_reducible show pick _ _ _ _ _ _;refine M3 ?_) | (apply Vx;intro hh;(try simp only[hh,reduceIte,↓M2,M2,Mb,reduceIte]))));done)))
   refine Jy (φ:=fun v _=>Value.agg [lv',I room,cv'].toArray=v) rfl (Rep.one hr5) (fun v w h=>h) ?_ hm68.1
   intros
   rename_i hm9
   (repeat (rename_i hx;subst hx))
   rename_i w9 hb9
   exact Vq (G:=fun b=>cr=cs→b=true) (fun h=>by rw[h];exact decide_eq_true rfl) N h8 hD8' hne8 hB6 hb9.kp hb9.hst.sat hm9 rfl hr8 hh
  ·simp only[if_neg e1]
   have hz0:decide (f=0)=false:=decide_eq_false e1
   (repeat (apply Z9;(· intros;(have hzz:=VarB.hs (by assumption));(repeat (rename_i hx;subst hx));(try simp only[hz0,decide_true,Bool.not_true,Bool.not_false,Bool.false_eq_true,Bool.true_eq_false,reduceIte,↓M2,M2,Mb,reduceIte]);(repeat' (first | (with_reducible exact G0 rfl) | (with_reducible exact Zm (Stp.bel (by (repeat (first | exact Stp.refl (by (first | assumption | exact Stp.sat (by assumption) | exact Hst.sat (by assumption))) | assumption | refine Stp.trans ?_ (by first | assumption | exact Hst.stp (by assumption)))))) rfl) | (with_reducible intro _) | (simp only[↓M2,M2,Mb,reduceIte]) | (with_reducible show Q2 _ _ _ _ _;first | refine X7 aS aL aR ?_ | refine Y4 aS aL aR ?_ | refine ld aS aL aR ?_) | (with_reducible show indexAddr _ _ _ _ _ _;refine Y1 aL au ?_) | (with_reducible show X2 _ _ _ _ _ _ _ _;refine Q8 aL ?_) | (with_reducible show B7 _ _ _ _ _ _;refine J3 aR ?_) | (with_reducible show pick _ _ _ _ _ _;refine M3 ?_) | (apply Vx;intro hh;(try simp only[hh,reduceIte,↓M2,M2,Mb,reduceIte]))));done)))
   refine Jy (φ:=fun v _=>Value.agg [lv',I room,cv'].toArray=v) rfl (Rep.one hr5) (fun v w h=>h) ?_ hm68.1
   intros
   rename_i hm9
   (repeat (rename_i hx;subst hx))
   rename_i w9 hb9
   exact Vq (G:=fun b=>cr=cs→b=true) (fun _=>rfl) N h8 hD8' hne8 hB6 hb9.kp hb9.hst.sat hm9 rfl hr8 hh
 rw[decide_eq_false e0]
 refine Z7 ?_
 refine P4 ?_
 by_cases e1k:x.kind=1
 ·rw[decide_eq_true e1k]
  have ea:S7 W7 (Q4 l) room cs x=(Zu (Q4 l) room cs x.s x.n).1:=by unfold S7;rw[if_neg e0,if_pos e1k]
  have er:S7 W7 (Q4 l) room cr x=(Zu (Q4 l) room cr x.s x.n).1:=by unfold S7;rw[if_neg e0,if_pos e1k]
  rw[ea,er] at hh
  refine J7 ?_
  refine Y4 hk3.sat hq43 rfl ?_
  refine W3 ?_
  refine ld (i:=1) hk3.sat hq53 rfl ?_
  refine W3 ?_
  refine ld (i:=2) hk3.sat hq53 rfl ?_
  refine X28 hk3.sat hr3 b2 goodr.left h1 fun ds' w4 σ4 hk4 hr4=>?_
  refine J4 (vs:=[_,_]) rfl ?_
  refine J4 (vs:=[_,_]) rfl ?_
  have hS4:=hS3.trans hk4
  refine M0 hk4.sat fun b8 w5 σ5 hb8 hk5 hm8=>?_
  have hS5:=hS4.trans hk5
  have hB8:=L9 hb8 hS4
  have hr5:=W4 hr4 ⟨hk5.le⟩
  obtain ⟨lv',cv',hde,_,_⟩:=O5.out hr4
  subst hde
  refine Wc (ds:=[lv',I room,cv']) hm8 rfl rfl (by rw[List.all_toArray];exact List.all_eq_true.2 (Rep.one hr5)) fun w6 u6 hm86=>?_
  obtain ⟨σ7,hS7,hq8,l57,o7⟩:=Q3Q (x:=(Q4 l,room,(Zu (Q4 l) room cr x.s x.n).1)) hS5 hB8 hm8 u6 hm86
  have l37:SLe σ3 σ7:=(SLe.more ⟨hk4.le⟩ ⟨hk5.le⟩).more l57
  have hb68:b6≠b8:=by have:=(hm6.up hk4).lt;omega
  have hm66:=((hm6.up hk4).up hk5).upd u6 hb68
  have hm67:Y2 σ7 w6 b6 _:=⟨(o7 b6 hb68).trans hm66.1,hm66.2⟩
  have hq57:=hq53.lift l37
  have hq47:=hq43.lift l37
  refine W3 ?_
  refine ld (i:=1) hS7.sat hq57 rfl ?_
  refine W3 ?_
  refine ld (i:=2) hS7.sat hq57 rfl ?_
  refine Q7z hS7.sat (Nat.le_trans hB hS7.bel.size) (h.up hS7) (ht.lift ⟨hS7.le⟩) b2 good.left h1 fun w8 σ8 D8 N8 h8 hD8=>?_
  refine J4 (vs:=[_,_]) rfl ?_
  refine J4 (vs:=[_,_]) rfl ?_
  have N:=(Nxt.of_stp (D:=D) hS7).chain N8 fun k _ e=>e
  have hm68:=hm67.nx N8 fun e=>by have:=hDl _ e;omega
  have hne8: ¬D8 b6:=fun e=>by
   have:=hm67.lt
   rcases hD8 _ e with e | e
   ·have:=hDl _ e;omega
   ·omega
  have hD8': ∀j,D8 j→D j∨w.heap.size≤j:=fun j hj=>(hD8 j hj).imp id fun e=>Nat.le_trans hS7.bel.size e
  have hq48:=hq47.lift N8.le
  have hq88:=hq8.lift N8.le
  have hc8:Sl 2 E4 σ8 cv cr:=hc.lift N.le
  have hr8:=W4 hr5 (l57.more N8.le)
  have hsame:cr=cs→(Zu (Q4 l) room cr x.s x.n).2=(Zu (Q4 l) room cs x.s x.n).2:=fun h=>by rw[h]
  generalize (Zu (Q4 l) room cs x.s x.n).2=e at*
  generalize (Zu (Q4 l) room cr x.s x.n).2=f at*
  refine Q6C (w0:=Pj w8) (σ0:=fun _=>none) (n:=3) [lv',I room,cv'] (Yt N8.sat) (Nat.zero_le _) hm68 rfl rfl ?_
  unfold atM
  by_cases hfe:f=e
  case neg=>
   have hz0:decide (f=e)=false:=decide_eq_false hfe
   (repeat (apply Z9;(· intros;(have hzz:=VarB.hs (by assumption));(repeat (rename_i hx;subst hx));(try simp only[hz0,decide_true,Bool.not_true,Bool.not_false,Bool.false_eq_true,Bool.true_eq_false,reduceIte,↓M2,M2,Mb,reduceIte]);(repeat' (first | (with_reducible exact G0 rfl) | (with_reducible exact Zm (Stp.bel (by (repeat (first | exact Stp.refl (by (first | assumption | exact Stp.sat (by assumption) | exact Hst.sat (by assumption))) | assumption | refine Stp.trans ?_ (by first | assumption | exact Hst.stp (by assumption)))))) rfl) | (with_reducible intro _) | (simp only[↓M2,M2,Mb,reduceIte]) | (with_reducible show Q2 _ _ _ _ _;first | refine X7 aS aL aR ?_ | refine Y4 aS aL aR ?_ | refine ld aS aL aR ?_) | (with_reducible show indexAddr _ _ _ _ _ _;refine Y1 aL au ?_) | (with_reducible show X2 _ _ _ _ _ _ _ _;refine Q8 aL ?_) | (with_reducible show B7 _ _ _ _ _ _;refine J3 aR ?_) | (with_reducible show pick _ _ _ _ _ _;refine M3 ?_) | (apply Vx;intro hh;(try simp only[hh,reduceIte,↓M2,M2,Mb,reduceIte]))));done)))
   refine Jy (φ:=fun v _=>Value.agg [lv',I room,cv'].toArray=v) rfl (Rep.one hr5) (fun v w h=>h) ?_ hm68.1
   intros
   rename_i hm9
   (repeat (rename_i hx;subst hx))
   rename_i w9 hb9
   exact Vq (G:=fun b=>cr=cs→b=true) (fun h=>absurd (hsame h) hfe) N h8 hD8' hne8 hB6 hb9.kp hb9.hst.sat hm9 rfl hr8 hh
  subst hfe
  by_cases e1:f=0
  ·subst e1
   simp only[reduceIte]
   have hz0:decide True=true:=decide_true _
   (repeat (apply Z9;(· intros;(have hzz:=VarB.hs (by assumption));(repeat (rename_i hx;subst hx));(try simp only[hz0,decide_true,Bool.not_true,Bool.not_false,Bool.false_eq_true,Bool.true_eq_false,reduceIte,↓M2,M2,Mb,reduceIte]);(repeat' (first | (with_reducible exact G0 rfl) | (with_reducible exact Zm (Stp.bel (by (repeat (first | exact Stp.refl (by (first | assumption | exact Stp.sat (by assumption) | exact Hst.sat (by assumption))) | assumption | refine Stp.trans ?_ (by first | assumption | exact Hst.stp (by assumption)))))) rfl) | (with_reducible intro _) | (simp only[↓M2,M2,Mb,reduceIte]) | (with_reducible show Q2 _ _ _ _ _;first | refine X7 aS aL aR ?_ | refine Y4 aS aL aR ?_ | refine ld aS aL aR ?_) | (with_reducible show indexAddr _ _ _ _ _ _;refine Y1 aL au ?_) | (with_reducible show X2 _ _ _ _ _ _ _ _;refine Q8 aL ?_) | (with_reducible show B7 _ _ _ _ _ _;refine J3 aR ?_) | (with_reducible show pick _ _ _ _ _ _;refine M3 ?_) | (apply Vx;intro hh;(try simp only[hh,reduceIte,↓M2,M2,Mb,reduceIte]))));done)))
   refine Jy (φ:=fun v _=>Value.agg [lv',I room,cv'].toArray=v) rfl (Rep.one hr5) (fun v w h=>h) ?_ hm68.1
   intros
   rename_i hm9
   (repeat (rename_i hx;subst hx))
   rename_i w9 hb9
   exact Vq (G:=fun b=>cr=cs→b=true) (fun h=>by rw[h];exact decide_eq_true rfl) N h8 hD8' hne8 hB6 hb9.kp hb9.hst.sat hm9 rfl hr8 hh
  ·simp only[if_neg e1]
   have hz0:decide (f=0)=false:=decide_eq_false e1
   (repeat (apply Z9;(· intros;(have hzz:=VarB.hs (by assumption));(repeat (rename_i hx;subst hx));(try simp only[hz0,decide_true,Bool.not_true,Bool.not_false,Bool.false_eq_true,Bool.true_eq_false,reduceIte,↓M2,M2,Mb,reduceIte]);(repeat' (first | (with_reducible exact G0 rfl) | (with_reducible exact Zm (Stp.bel (by (repeat (first | exact Stp.refl (by (first | assumption | exact Stp.sat (by assumption) | exact Hst.sat (by assumption))) | assumption | refine Stp.trans ?_ (by first | assumption | exact Hst.stp (by assumption)))))) rfl) | (with_reducible intro _) | (simp only[↓M2,M2,Mb,reduceIte]) | (with_reducible show Q2 _ _ _ _ _;first | refine X7 aS aL aR ?_ | refine Y4 aS aL aR ?_ | refine ld aS aL aR ?_) | (with_reducible show indexAddr _ _ _ _ _ _;refine Y1 aL au ?_) | (with_reducible show X2 _ _ _ _ _ _ _ _;refine Q8 aL ?_) | (with_reducible show B7 _ _ _ _ _ _;refine J3 aR ?_) | (with_reducible show pick _ _ _ _ _ _;refine M3 ?_) | (apply Vx;intro hh;(try simp only[hh,reduceIte,↓M2,M2,Mb,reduceIte]))));done)))
   refine Jy (φ:=fun v _=>Value.agg [lv',I room,cv'].toArray=v) rfl (Rep.one hr5) (fun v w h=>h) ?_ hm68.1
   intros
   rename_i hm9
   (repeat (rename_i hx;subst hx))
   rename_i w9 hb9
   exact Vq (G:=fun b=>cr=cs→b=true) (fun _=>rfl) N h8 hD8' hne8 hB6 hb9.kp hb9.hst.sat hm9 rfl hr8 hh
 rw[decide_eq_false e1k]
 refine Z7 ?_
 refine P4 ?_
 have hv43:Z6 σ3 (q5.add 4) [I x.v.sort,I x.v.n,S x.v.s,I x.v.ref]:=hq53.tail (xs:=[_,_,_,_])
 have hvr:O3 σ x.v [I x.v.sort,I x.v.n,S x.v.s,I x.v.ref]:=⟨rfl,hv⟩
 by_cases e2k:x.kind=2
 ·rw[decide_eq_true e2k]
  have ea:S7 W7 (Q4 l) room cs x=(H7 W7 (Q4 l) cs x.ref x.n x.v).1:=by unfold S7;rw[if_neg e0,if_neg e1k,if_pos e2k]
  have er:S7 W7 (Q4 l) room cr x=(H7 W7 (Q4 l) cr x.ref x.n x.v).1:=by unfold S7;rw[if_neg e0,if_neg e1k,if_pos e2k]
  rw[ea,er] at hh
  have good':=(GoodH.set good x.ref x.n x.v).cells
  refine J7 ?_
  refine Y4 hk3.sat hq43 rfl ?_
  refine W3 ?_
  refine ld (i:=3) hk3.sat hq53 rfl ?_
  refine W3 ?_
  refine ld (i:=2) hk3.sat hq53 rfl ?_
  refine W3 ?_
  refine Y4 hk3.sat hv43 rfl ?_
  refine X40 hk3.sat hr3 wf ok hlen goodr.cells htr ⟨rfl,hv⟩ fun ds' w4 σ4 hk4 hr4=>?_
  refine J4 (vs:=[_,_]) rfl ?_
  refine J4 (vs:=[_,_]) rfl ?_
  have hS4:=hS3.trans hk4
  refine M0 hk4.sat fun b8 w5 σ5 hb8 hk5 hm8=>?_
  have hS5:=hS4.trans hk5
  have hB8:=L9 hb8 hS4
  have hr5:=W4 hr4 ⟨hk5.le⟩
  obtain ⟨lv',cv',hde,_,_⟩:=O5.out hr4
  subst hde
  refine Wc (ds:=[lv',I room,cv']) hm8 rfl rfl (by rw[List.all_toArray];exact List.all_eq_true.2 (Rep.one hr5)) fun w6 u6 hm86=>?_
  obtain ⟨σ7,hS7,hq8,l57,o7⟩:=Q3Q (x:=(Q4 l,room,(H7 W7 (Q4 l) cr x.ref x.n x.v).1)) hS5 hB8 hm8 u6 hm86
  have l37:SLe σ3 σ7:=(SLe.more ⟨hk4.le⟩ ⟨hk5.le⟩).more l57
  have hb68:b6≠b8:=by have:=(hm6.up hk4).lt;omega
  have hm66:=((hm6.up hk4).up hk5).upd u6 hb68
  have hm67:Y2 σ7 w6 b6 _:=⟨(o7 b6 hb68).trans hm66.1,hm66.2⟩
  have hq57:=hq53.lift l37
  have hv47:=hv43.lift l37
  have hr7:=W4 hr5 l57
  have hbD: ¬D b6:=fun e=>by have:=hDl _ e;omega
  refine X3b (w0:=Pj w6) (σ0:=fun _=>none) (n:=3) (H7 W7 (Q4 l) cs x.ref x.n x.v).1 [lv',I room,cv'] (Yt hS7.sat) (Nat.zero_le _) (Nat.zero_le _) hbD hm67 rfl rfl (h.up hS7) ?_
  (repeat (apply Z9;(· intros;(have hzz:=SetB.hs (by assumption));(repeat (rename_i hx;subst hx));(repeat' (first | (with_reducible exact Q5N rfl) | (with_reducible exact X2w (Stp.bel (by (repeat (first | exact Stp.refl (by (first | assumption | exact Stp.sat (by assumption) | exact Hst.sat (by assumption))) | assumption | refine Stp.trans ?_ (by first | assumption | exact Hst.stp (by assumption)))))) rfl) | (with_reducible intro _) | (simp only[↓M2,M2,Mb,reduceIte]) | (with_reducible show Q2 _ _ _ _ _;first | refine X7 aS aL aR ?_ | refine Y4 aS aL aR ?_ | refine ld aS aL aR ?_) | (with_reducible show indexAddr _ _ _ _ _ _;refine Y1 aL au ?_) | (with_reducible show X2 _ _ _ _ _ _ _ _;refine Q8 aL ?_) | (with_reducible show B7 _ _ _ _ _ _;refine J3 aR ?_) | (with_reducible show pick _ _ _ _ _ _;refine M3 ?_)));done)))
  refine X2u (hg.lift ⟨hS7.le⟩) (ht.lift ⟨hS7.le⟩) ok good.cells good' ⟨rfl,hv⟩ hbD hm67.1 (fun _ _ h=>h) (fun _ _ h=>h) (fun _ _ h=>h) ?_
  refine Z9 (V:= .bool (decide ((H7 W7 (Q4 l) cs x.ref x.n x.v).2=(H7 W7 (Q4 l) cr x.ref x.n x.v).2))) (fun t w hb ht=>?_) ?_
  ·obtain ⟨rfl,_,_⟩:=ht
   refine P4 ?_
   exact Q5N rfl
  refine X0Q (φ:=fun v _=>Value.agg [lv',I room,cv'].toArray=v) rfl (Rep.one hr5) (fun v w h=>h) ?_ hm67.1 hbD
  intros
  rename_i hm9
  (repeat (rename_i hx;subst hx))
  rename_i hset
  (repeat (rename_i hx;subst hx))
  rename_i w9 hb9
  obtain ⟨_,hs9,h9⟩:=hset
  refine V2 hm9 rfl ?_
  have Nb:Nxt (fun j=>j=b6∨D j) w6 σ7 w9 σ7:=⟨hb9.kp,SLe.refl _,fun _ _=>rfl,hs9⟩
  exact hh _ _ w9 σ7 D (fun h=>by rw[h];exact decide_eq_true rfl) ((Nxt.of_stp (D:=D) hS7).chain Nb fun j hj e=>e.elim (fun e=>by omega) id) h9 (fun j hj=> .inl hj) hr7
 rw[decide_eq_false e2k]
 refine Z7 ?_
 refine P4 ?_
 by_cases e3k:x.kind=3
 ·rw[decide_eq_true e3k]
  have ea:S7 W7 (Q4 l) room cs x=cs:=by unfold S7;rw[if_neg e0,if_neg e1k,if_neg e2k,if_neg (by omega)]
  have er:S7 W7 (Q4 l) room cr x=cr:=by unfold S7;rw[if_neg e0,if_neg e1k,if_neg e2k,if_neg (by omega)]
  rw[ea,er] at hh
  refine J7 ?_
  refine Y4 hk3.sat hq43 rfl ?_
  refine W3 ?_
  refine ld (i:=3) hk3.sat hq53 rfl ?_
  refine W3 ?_
  refine ld (i:=2) hk3.sat hq53 rfl ?_
  refine X3L hk3.sat hr3 fun w4 σ4 hk4=>?_
  refine J4 (vs:=[_,_]) rfl ?_
  refine J4 (vs:=[_,_]) rfl ?_
  refine Y8 (sz:=4) hk4.sat aR aR Ck fun q8 w5 σ5 hk5 hq8=>?_
  have hk35:=hk4.trans hk5
  have hS5:=hS3.trans hk35
  have h5:=h.up hS5
  have hq55:=hq53.lift ⟨hk35.le⟩
  refine W3 ?_
  refine ld (i:=3) hk35.sat hq55 rfl ?_
  refine W3 ?_
  refine ld (i:=2) hk35.sat hq55 rfl ?_
  obtain ⟨σf,sf,lef,hsl,of⟩:=h5.freeze hk35.sat
  refine X3s sf hsl fun w6 σ6 hk6=>?_
  refine J4 (vs:=[_,_]) rfl ?_
  refine J4 (vs:=[_,_]) rfl ?_
  refine Y8 (sz:=4) hk6.sat aR aR Ck fun q9 w7 σ7 hk7 hq9=>?_
  have hk57:=hk6.trans hk7
  have hS57:=hk57.weak lef.le
  have hS7:=hS5.trans hS57
  have l57:SLe σ5 σ7:=lef.more ⟨hk57.le⟩
  have hbD: ¬D b6:=fun e=>by have:=hDl _ e;omega
  have hm65:=hm6.up hk35
  have hm6f:Y2 σf w5 b6 _:=⟨(of b6 hbD).trans hm65.1,hm65.2⟩
  have hm67:=hm6f.up hk57
  have hq47:=(hq43.lift ⟨hk35.le⟩).lift l57
  have hq87:=hq8.lift l57
  refine Q6C (w0:=Pj w7) (σ0:=fun _=>none) (n:=3) [lv,I room,cv] (Yt hk57.sat) (Nat.zero_le _) hm67 rfl rfl ?_
  have n5:σ5 b6=none:=hm65.1
  have hq97:=hq9
  by_cases hge:Ho cr x.ref x.n=Ho cs x.ref x.n
  ·have hz0:decide True=true:=decide_true _
   (repeat (apply Z9;(· intros;(have hzz:=VarB.hs (by assumption));(repeat (rename_i hx;subst hx));(try simp only[hz0,decide_true,Bool.not_true,Bool.not_false,Bool.false_eq_true,Bool.true_eq_false,reduceIte,↓M2,M2,Mb,reduceIte]);(repeat' (first | (with_reducible exact G0 rfl) | (with_reducible exact Zm (Stp.bel (by (repeat (first | exact Stp.refl (by (first | assumption | exact Stp.sat (by assumption) | exact Hst.sat (by assumption))) | assumption | refine Stp.trans ?_ (by first | assumption | exact Hst.stp (by assumption)))))) rfl) | (with_reducible intro _) | (simp only[↓M2,M2,Mb,reduceIte]) | (with_reducible show Q2 _ _ _ _ _;first | refine X7 aS aL aR ?_ | refine Y4 aS aL aR ?_ | refine ld aS aL aR ?_) | (with_reducible show indexAddr _ _ _ _ _ _;refine Y1 aL au ?_) | (with_reducible show X2 _ _ _ _ _ _ _ _;refine Q8 aL ?_) | (with_reducible show B7 _ _ _ _ _ _;refine J3 aR ?_) | (with_reducible show pick _ _ _ _ _ _;refine M3 ?_) | (apply Vx;intro hh;(try simp only[hh,reduceIte,↓M2,M2,Mb,reduceIte]))));done)))
   refine Z9 (V:= .bool true) (by
    intros
    (repeat (rename_i hx;subst hx))
    refine Dw ?_
    exact G0 (by rw[hge,decide_eq_true rfl])) ?_
   (repeat (apply Z9;(· intros;(have hzz:=VarB.hs (by assumption));(repeat (rename_i hx;subst hx));(try simp only[hz0,decide_true,Bool.not_true,Bool.not_false,Bool.false_eq_true,Bool.true_eq_false,reduceIte,↓M2,M2,Mb,reduceIte]);(repeat' (first | (with_reducible exact G0 rfl) | (with_reducible exact Zm (Stp.bel (by (repeat (first | exact Stp.refl (by (first | assumption | exact Stp.sat (by assumption) | exact Hst.sat (by assumption))) | assumption | refine Stp.trans ?_ (by first | assumption | exact Hst.stp (by assumption)))))) rfl) | (with_reducible intro _) | (simp only[↓M2,M2,Mb,reduceIte]) | (with_reducible show Q2 _ _ _ _ _;first | refine X7 aS aL aR ?_ | refine Y4 aS aL aR ?_ | refine ld aS aL aR ?_) | (with_reducible show indexAddr _ _ _ _ _ _;refine Y1 aL au ?_) | (with_reducible show X2 _ _ _ _ _ _ _ _;refine Q8 aL ?_) | (with_reducible show B7 _ _ _ _ _ _;refine J3 aR ?_) | (with_reducible show pick _ _ _ _ _ _;refine M3 ?_) | (apply Vx;intro hh;(try simp only[hh,reduceIte,↓M2,M2,Mb,reduceIte]))));done)))
   refine Jy (φ:=fun v _=>Value.agg [lv,I room,cv].toArray=v) rfl (Rep.one hr3) (fun v w h=>h) ?_ hm67.1
   intros
   rename_i hm9
   (repeat (rename_i hx;subst hx))
   rename_i w9 hb9
   exact Vq (G:=fun b=>cr=cs→b=true) (fun h=>by rw[h];exact decide_eq_true rfl) (Nxt.of_stp (D:=D) hS7) (h5.up hS57) (fun j hj=> .inl hj) hbD hB6 hb9.kp (fun k o e=>hb9.hst.sat k o (l57.le k o e)) ⟨n5,hm9.2⟩ rfl (W4 hr0 ⟨hS7.le⟩) hh
  ·have hz0:decide True=true:=decide_true _
   (repeat (apply Z9;(· intros;(have hzz:=VarB.hs (by assumption));(repeat (rename_i hx;subst hx));(try simp only[hz0,decide_true,Bool.not_true,Bool.not_false,Bool.false_eq_true,Bool.true_eq_false,reduceIte,↓M2,M2,Mb,reduceIte]);(repeat' (first | (with_reducible exact G0 rfl) | (with_reducible exact Zm (Stp.bel (by (repeat (first | exact Stp.refl (by (first | assumption | exact Stp.sat (by assumption) | exact Hst.sat (by assumption))) | assumption | refine Stp.trans ?_ (by first | assumption | exact Hst.stp (by assumption)))))) rfl) | (with_reducible intro _) | (simp only[↓M2,M2,Mb,reduceIte]) | (with_reducible show Q2 _ _ _ _ _;first | refine X7 aS aL aR ?_ | refine Y4 aS aL aR ?_ | refine ld aS aL aR ?_) | (with_reducible show indexAddr _ _ _ _ _ _;refine Y1 aL au ?_) | (with_reducible show X2 _ _ _ _ _ _ _ _;refine Q8 aL ?_) | (with_reducible show B7 _ _ _ _ _ _;refine J3 aR ?_) | (with_reducible show pick _ _ _ _ _ _;refine M3 ?_) | (apply Vx;intro hh;(try simp only[hh,reduceIte,↓M2,M2,Mb,reduceIte]))));done)))
   refine Z9 (V:= .bool false) (by
    intros
    (repeat (rename_i hx;subst hx))
    refine Dw ?_
    exact G0 (by rw[decide_eq_false hge])) ?_
   (repeat (apply Z9;(· intros;(have hzz:=VarB.hs (by assumption));(repeat (rename_i hx;subst hx));(try simp only[hz0,decide_true,Bool.not_true,Bool.not_false,Bool.false_eq_true,Bool.true_eq_false,reduceIte,↓M2,M2,Mb,reduceIte]);(repeat' (first | (with_reducible exact G0 rfl) | (with_reducible exact Zm (Stp.bel (by (repeat (first | exact Stp.refl (by (first | assumption | exact Stp.sat (by assumption) | exact Hst.sat (by assumption))) | assumption | refine Stp.trans ?_ (by first | assumption | exact Hst.stp (by assumption)))))) rfl) | (with_reducible intro _) | (simp only[↓M2,M2,Mb,reduceIte]) | (with_reducible show Q2 _ _ _ _ _;first | refine X7 aS aL aR ?_ | refine Y4 aS aL aR ?_ | refine ld aS aL aR ?_) | (with_reducible show indexAddr _ _ _ _ _ _;refine Y1 aL au ?_) | (with_reducible show X2 _ _ _ _ _ _ _ _;refine Q8 aL ?_) | (with_reducible show B7 _ _ _ _ _ _;refine J3 aR ?_) | (with_reducible show pick _ _ _ _ _ _;refine M3 ?_) | (apply Vx;intro hh;(try simp only[hh,reduceIte,↓M2,M2,Mb,reduceIte]))));done)))
   refine Jy (φ:=fun v _=>Value.agg [lv,I room,cv].toArray=v) rfl (Rep.one hr3) (fun v w h=>h) ?_ hm67.1
   intros
   rename_i hm9
   (repeat (rename_i hx;subst hx))
   rename_i w9 hb9
   exact Vq (G:=fun b=>cr=cs→b=true) (fun h=>absurd (by rw[h]) hge) (Nxt.of_stp (D:=D) hS7) (h5.up hS57) (fun j hj=> .inl hj) hbD hB6 hb9.kp (fun k o e=>hb9.hst.sat k o (l57.le k o e)) ⟨n5,hm9.2⟩ rfl (W4 hr0 ⟨hS7.le⟩) hh
 rw[decide_eq_false e3k]
 refine Z7 ?_
 refine P4 ?_
 by_cases e4k:x.kind=4
 ·rw[decide_eq_true e4k]
  have ea:S7 W7 (Q4 l) room cs x=Iz cs x.ref:=by unfold S7;rw[if_neg e0,if_neg e1k,if_neg e2k,if_pos e4k]
  have er:S7 W7 (Q4 l) room cr x=Iz cr x.ref:=by unfold S7;rw[if_neg e0,if_neg e1k,if_neg e2k,if_pos e4k]
  rw[ea,er] at hh
  refine J7 ?_
  refine W3 ?_
  refine ld (i:=3) hk3.sat hq53 rfl ?_
  refine X45 hk3.sat h3 htk b4 fun w4 σ4 D4 N4 h4 hD4=>?_
  have hq54:=hq53.lift N4.le
  have hq44:=hq43.lift N4.le
  refine Y4 N4.sat hq44 rfl ?_
  refine W3 ?_
  refine ld (i:=3) N4.sat hq54 rfl ?_
  refine X4i N4.sat (W4 hr3 N4.le) htr b4 fun ds' w5 σ5 hk5 hr5=>?_
  have hbD: ¬D b6:=fun e=>by have:=hDl _ e;omega
  have hm65:=(hm6.nx N4 hbD).up hk5
  obtain ⟨lv',cv',hde,_,_⟩:=O5.out hr5
  subst hde
  refine Wc (ds:=[lv',I room,cv']) hm65 rfl rfl (by rw[List.all_toArray];exact List.all_eq_true.2 (Rep.one hr5)) fun w6 u6 hm66=>?_
  have N:=(Nxt.of_stp (D:=D) hS3).chain (N4.trans (Nxt.of_stp hk5)) fun j _ e=>e
  exact Vq (G:=fun b=>cr=cs→b=true) (fun _=>rfl) N (h4.up hk5) (fun j hj=> .inl (hD4 j hj)) (fun e=>hbD (hD4 _ e)) hB6 (Kpt.of_upd u6 rfl) (u6.stp (Yt hk5.sat) (Nat.zero_le _) hm65.1).sat hm66 rfl hr5 hh
 rw[decide_eq_false e4k]
 refine Z7 ?_
 have ea:S7 W7 (Q4 l) room cs x=cs:=by unfold S7;rw[if_neg e0,if_neg e1k,if_neg e2k,if_neg e4k]
 have er:S7 W7 (Q4 l) room cr x=cr:=by unfold S7;rw[if_neg e0,if_neg e1k,if_neg e2k,if_neg e4k]
 rw[ea,er] at hh
 refine Y4 hk3.sat hq43 rfl ?_
 refine Wc (ds:=[lv,I room,cv]) hm6 rfl rfl (by rw[List.all_toArray];exact List.all_eq_true.2 (Rep.one hr3)) fun w6 u6 hm66=>?_
 have hbD: ¬D b6:=fun e=>by have:=hDl _ e;omega
 exact Vq (G:=fun b=>cr=cs→b=true) (fun _=>rfl) (Nxt.of_stp (D:=D) hS3) h3 (fun j hj=> .inl hj) hbD hB6 (Kpt.of_upd u6 rfl) (u6.stp (Yt hk3.sat) (Nat.zero_le _) hm6.1).sat hm66 rfl hr3 hh)
end Go.Proofs.YtjdiakhipmggjaaGreatDoor

namespace Go.Emb
theorem X4w {w:World} {A:World→Prop} (h:A w.drew):sq w A:=by rw[Q92];exact h
end Go.Emb
namespace Go.Proofs.YtjdiakhipmggjaaGreatDoor
open Go.Emb Go.RowKit Go.Kd Go.Hm
variable {w w' w0 : World} {K : Value → World → Prop} {σ σ' σ0 : Q6} {room : Int} {cs cr : List Cel} {hp tv : Value} {b6 : Nat}
structure RunG (w0 : World) (σ0 : Q6) (w : World) (σ : Q6) (hp tv : Value) (b6 : Nat) (room : Int) (cs cr : List Cel) : Prop where
  stp : Stp w0 σ0 w σ
  ex : ∃ D ds, HeapIs w0.heap.size D σ w hp tv room cs ∧ ¬ D b6 ∧ Y2 σ w b6 ds ∧ O5 σ (Q4 F5, room, cr) ds
  bge : w0.heap.size ≤ b6
  tab : Tab σ tv (Q4 F5)
  ok : Ok (Q4 F5)
  good : GoodH W7 (Q4 F5) room cs
  goodr : GoodH W7 (Q4 F5) room cr
  rm : room ≤ 1048576
abbrev Run (w0:World) (σ0:Q6) (w:World) (σ:Q6) (hp tv:Value) (b6:Nat) (room:Int) (cs:List Cel):Prop:=RunG w0 σ0 w σ hp tv b6 room cs cs
theorem RunG.up (R:RunG w0 σ0 w σ hp tv b6 room cs cr) (k:Stp w σ w' σ'):RunG w0 σ0 w' σ' hp tv b6 room cs cr:=by
 obtain ⟨D,ds,a,d,b,c⟩:=R.ex
 exact ⟨R.stp.trans k,⟨D,ds,a.up k,d,b.up k,W4 c ⟨k.le⟩⟩,R.bge,R.tab.lift ⟨k.le⟩,R.ok,R.good,R.goodr,R.rm⟩
theorem RunG.below (R:RunG w0 σ0 w σ hp tv b6 room cs cr) (k:Below w.heap.size w w'):RunG w0 σ0 w' σ hp tv b6 room cs cr:=R.up (Stp.of_below R.stp.sat k)
theorem RunG.takes (R:RunG w0 σ0 w σ hp tv b6 room cs cr):Z0 cs≤1048576:=by
 have a:=R.good.left
 have b:=R.rm
 unfold W6 at a
 omega
theorem RunG.freeze (R:RunG w0 σ0 w σ hp tv b6 room cs cr): ∃a ds,X3 w a∧SLe σ a∧R0 a hp tv room cs∧Y2 a w b6 ds∧O5 a (Q4 F5,room,cr) ds∧Tab a tv (Q4 F5):=by
 obtain ⟨D,ds,e,h,d,f⟩:=R.ex
 obtain ⟨a,g,b,c,of⟩:=e.freeze R.stp.sat
 exact ⟨a,ds,g,b,c,⟨(of b6 h).trans d.1,d.2⟩,W4 f b,R.tab.lift b⟩
theorem RunG.freezeL (R:RunG w0 σ0 w σ hp tv b6 room cs cr): ∃a ds,X3 w a∧SLe σ a∧R0 a hp tv room cs∧Z6 a ⟨b6,0,none⟩ ds∧O5 a (Q4 F5,room,cr) ds∧Tab a tv (Q4 F5):=by
 obtain ⟨a,ds,e,c,d,k,h,j⟩:=R.freeze
 obtain ⟨f,g,b,i,l⟩:=k.freeze e
 exact ⟨f,ds,g,c.more b,d.lift b,i,W4 h b,j.lift b⟩
theorem RunG.thaw {a:Q6} (R:RunG w0 σ0 w σ hp tv b6 room cs cr) (b:SLe σ a) (k:Stp w a w' σ'):RunG w0 σ0 w' σ hp tv b6 room cs cr:=R.up (k.weak b.le)
theorem X37 {r:Int} (h:(Lit.int .u16 r).wf=true):0≤r:=by
 simp[Lit.wf,IntKind.min,IntKind.max,IntKind.signed,IntKind.bits] at h
 omega
theorem X2z {o:Operand} {r:Int} {A:Value→Value→Value→World→Prop} (N:X3 w σ) (M:Glb σ) (R:0≤r)
 (h: ∀a b b6 w' σ',Run w σ w' σ' (.pointer (some a)) (.pointer (some b)) b6 (r % 301) []→A (.pointer (some a)) (.pointer (some ⟨b6,0,none⟩)) (.bool false) w'):
 Q1 P F.ah [.int .u16 r] w fun l w=>ext P l 0 w fun k w=>ext P l 1 w fun t w=>V6 P T.a w fun L w=>X9 P T.a L t w fun _u w=>Q1 P F.aI [] w fun p w=>J8 P .not p w fun g w=>Q0 g false w (fun w J=>J k w) fun v w=>Q0 g false w (Q3 P .eql T.a5 o (.const (.pointer none)) v (.pointer none)) fun q w=>pick P g (.bool true) q w fun y w=>A k L y w:=by
 have m:=Int.emod_nonneg r (show (301:Int)≠0 by decide)
 have V:=Int.emod_lt_of_pos r (show (0:Int)<301 by decide)
 refine Q7X N M R fun b a D ds w1 σ1 d E f O ok=>?_
 refine J4 (vs:=[_,_]) rfl ?_
 refine J4 (vs:=[_,_]) rfl ?_
 refine M0 d.sat fun Q X H i B j=>?_
 have z:=L9 i d
 refine Wc j rfl (by obtain ⟨Z,cv,rfl,_⟩:=O5.out f;rfl) (by rw[List.all_toArray];exact List.all_eq_true.2 (Rep.one f)) fun C W u=>?_
 have c:Stp w1 σ1 C H:=W.stp B i j.1
 have n:=d.trans c
 have U:Run w σ C H (.pointer (some ⟨b,0,none⟩)) (.pointer (some a)) Q (r % 301) []:=⟨n,⟨D,ds,E.up c,fun e=>by have:=(E.mem e).2.1;omega,u,W4 f ⟨c.le⟩⟩,z,O.lift ⟨c.le⟩,ok,GoodH.empty m,GoodH.empty m,by omega⟩
 refine X2s c.sat (M.lift ⟨n.le⟩) fun w4 Y s=>?_
 simp only[Bool.not_true,↓M1,M1,Mb,reduceIte]
 refine Q9o ?_
 exact h _ _ _ _ _ (U.up s)
end Go.Proofs.YtjdiakhipmggjaaGreatDoor

namespace Go.Proofs.YtjdiakhipmggjaaGreatDoor
open Go.Emb Go.RowKit Go.Kd Go.Hm
variable {w w' w0 : World} {K : Value → World → Prop} {σ σ' σ0 : Q6} {room : Int} {cs : List Cel} {hp tv : Value} {b6 : Nat}
end Go.Proofs.YtjdiakhipmggjaaGreatDoor

namespace Go.Proofs.YtjdiakhipmggjaaGreatDoor
open Go.Emb Go.RowKit Go.Kd Go.Hm
variable {w w' w0 : World} {K : Value → World → Prop} {σ σ' σ0 : Q6} {room : Int} {cs : List Cel} {hp tv : Value} {b6 : Nat}
end Go.Proofs.YtjdiakhipmggjaaGreatDoor

namespace Go.Hm
open Go.Kd
variable {ok : X0 → Bool} {l : List Cla} {room : Int} {cs pre more : List Cel} {c : Cel} {k : X0} {n : Int}
end Go.Hm
namespace Go.Proofs.YtjdiakhipmggjaaGreatDoor
open Go.Emb Go.RowKit Go.Kd Go.Hm
variable {w w' w0 : World} {K : Value → World → Prop} {σ σ' σ0 : Q6} {room : Int} {cs : List Cel} {hp tv : Value} {b6 : Nat}
end Go.Proofs.YtjdiakhipmggjaaGreatDoor

namespace Go.Proofs.YtjdiakhipmggjaaGreatDoor
open Go.Emb Go.RowKit Go.Kd Go.Hm
variable {w w' w0 : World} {K : Value → World → Prop} {σ σ' σ0 σ1 : Q6} {room : Int} {cs cr : List Cel} {hp tv : Value} {b6 : Nat} {l : List Cla} {ds : List Value}
end Go.Proofs.YtjdiakhipmggjaaGreatDoor

namespace Go.Hm
open Go.Kd
variable {ok : X0 → Bool} {l : List Cla} {cs : List Cel} {r i : Int} {v : Val}
end Go.Hm
namespace Go.Proofs.YtjdiakhipmggjaaGreatDoor
open Go.Emb Go.RowKit Go.Kd Go.Hm
variable {w w' w0 : World} {K : Value → World → Prop} {σ σ' σ0 σ1 : Q6} {room : Int} {cs cr : List Cel} {hp tv : Value} {b6 : Nat} {l : List Cla} {ds : List Value} {ok : X0 → Bool} {r i : Int} {v : Val}
end Go.Proofs.YtjdiakhipmggjaaGreatDoor

namespace Go.Emb
open Go.RowKit Go.Hm
section
variable {P : Program} {w w' w0 : World} {σ σ0 : Q6} {α : Type} {R : Q6 → α → List Value → Prop} {sz : Nat} {e : TypeId} {v u : Value} {xs : List α} {y : α}
end
end Go.Emb
namespace Go.Proofs.YtjdiakhipmggjaaGreatDoor
open Go.Emb Go.RowKit Go.Kd Go.Hm
variable {w w' w0 : World} {K : Value → World → Prop} {σ σ' σ0 σ1 : Q6} {room : Int} {cs cr : List Cel} {hp tv lv : Value} {b6 B : Nat} {D : Nat → Prop}
theorem X0W (d:X3 w σ) (hh:R0 σ hp tv room cs) (l:Z0 cs≤1048576) (h: ∀v w' σ',Stp w σ w' σ'→Sl 2 E4 σ' v cs→K v w'):Q1 P F.ap [hp] w K:=by
 refine X2l d hh l fun v g p q a c=>?_
 obtain ⟨j,m,f,n,i⟩:=c.freeze a.sat
 exact h v g j ⟨a.bel,m,fun k o e=>f.le k o (a.le k o e),fun k b=>(i k fun e=>by have:=(c.mem e).1;omega).trans (a.old k b)⟩ n
end Go.Proofs.YtjdiakhipmggjaaGreatDoor

namespace Go.Proofs.YtjdiakhipmggjaaGreatDoor
open Go.Emb Go.RowKit Go.Kd Go.Hm
variable {w w' w0 : World} {K : Value → World → Prop} {σ σ' σ0 σ1 : Q6} {room : Int} {cs cr : List Cel} {hp tv lv : Value} {b6 B : Nat} {D : Nat → Prop}
theorem X46 {E:Value→World→Prop} {i:Nat} {xs:List ActH} {v:Value} (hg:Glb σ0) (hv:Sl 8 Q13 σ0 v xs) (hi:i<xs.length) (R:Run w0 σ0 w σ hp tv b6 room cs)
 (h: ∀w' σ',Run w0 σ0 w' σ' hp tv b6 room (S7 W7 (Q4 F5) room cs xs[i])→E (.bool true) w'):
 (indexAddr P T.z v (I i) w fun y w=>Q2 P T.a (.pointer (some ⟨b6,0,none⟩)) w fun N w=>Q2 P T.n y w fun O w=>Q1 P F.ai [hp,N,O] w fun l w=>ext P l 0 w fun U w=>ext P l 1 w fun L w=>V6 P T.a w fun t8 w=>X9 P T.a t8 U w fun _u w=>Q2 P T.a t8 w fun n w=>X9 P T.a (.pointer (some ⟨b6,0,none⟩)) n w fun _u w=>E L w)∧
 (indexAddr P T.z v (I i) w fun y w=>Q2 P T.a (.pointer (some ⟨b6,0,none⟩)) w fun N w=>Q2 P T.n y w fun O w=>V6 P T.a w fun t8 w=>Q1 P F.ai [hp,N,O] w fun l w=>ext P l 0 w fun U w=>ext P l 1 w fun L w=>X9 P T.a t8 U w fun _u w=>Q2 P T.a t8 w fun n w=>X9 P T.a (.pointer (some ⟨b6,0,none⟩)) n w fun _u w=>E L w):=by
 have u:=hv.up R.stp
 obtain ⟨c0,p1,p2,p3⟩:=u.el hi
 have G:=GoodH.act Ig Q3J R.good xs[i]
 obtain ⟨D,ds,h1,h2,t,h4⟩:=R.ex
 have z:ds.length=3:=by obtain ⟨_,_,rfl,_⟩:=O5.out h4;rfl
 have j: ∀{k},D k→w0.heap.size≤k:=fun b=>(h1.mem b).1
 have Y: ∀{wa:World} {s:Q6} {C:Nat→Prop} {A:Nat} {d:List Value},Stp w0 σ0 wa s→HeapIs w0.heap.size C s wa hp tv room (S7 W7 (Q4 F5) room cs xs[i])→ ¬C b6→Y2 s wa b6 ds→O5 s (Q4 F5,room,S7 W7 (Q4 F5) room cs xs[i]) d→SLe σ s→Y2 s wa A d→
  (Q2 P T.a (.pointer (some ⟨A,0,none⟩)) wa fun n w=>X9 P T.a (.pointer (some ⟨b6,0,none⟩)) n w fun _u w=>E (.bool true) w):=fun S W f m hr le a=>by
  have ap:=hr
  obtain ⟨_,_,rfl,_⟩:=O5.out ap
  refine Dz a rfl ?_
  refine Wc m z rfl (by rw[List.all_toArray];exact List.all_eq_true.2 (Rep.one hr)) fun w4 u4 am=>?_
  exact h _ _ ⟨u4.stp S R.bge m.1,⟨_,_,W.nx (Nxt.of_upd S.sat u4 m.1) fun k b e=>f (e▸b),f,am,hr⟩,R.bge,R.tab.lift le,R.ok,G,G,R.rm⟩
 have one: ∀{s:Q6} {d:List Value},O5 s (Q4 F5,room,S7 W7 (Q4 F5) room cs xs[i]) d→d.toArray.all (·.oneCell')=true:=fun hr=>by rw[List.all_toArray];exact List.all_eq_true.2 (Rep.one hr)
 constructor
 ·refine Y1 u hi ?_
  refine Dz t z ?_
  refine Y4 R.stp.sat p1 p2 ?_
  refine X3h R.stp.sat (hg.lift ⟨R.stp.le⟩) R.stp.bel.size h1 h4 R.tab Ig R.ok (by decide) R.good R.good R.rm p3 (fun k b=>j b) fun d bb w3 σ3 C M o W r q=>?_
  obtain rfl:=M rfl
  refine J4 (vs:=[_,_]) rfl ?_
  refine J4 (vs:=[_,_]) rfl ?_
  refine M0 o.sat fun A w4 σ4 H p a=>?_
  have Q:=W4 q ⟨p.le⟩
  have ad:=(o.stp' R.stp fun k b=>j b).trans p
  refine Wc a rfl (by obtain ⟨_,_,rfl,_⟩:=O5.out Q;rfl) (one Q) fun w5 J V=>?_
  have ah:=t.lt
  have f: ¬C b6:=fun e=>(r _ e).elim h2 fun e=>by omega
  have m:=(t.nx o h2).up p
  have aw:=(t.nx o h2).lt
  have ac:=m.upd J (by omega)
  have X:=L9 H (o.stp' R.stp fun k b=>j b)
  exact Y (J.stp ad X a.1) ((W.up p).nx (Nxt.of_upd ad.sat J a.1) fun k b e=>by have:=(W.mem b).2.1;omega) f ac Q (o.le.more ⟨p.le⟩) V
 ·refine Y1 u hi ?_
  refine Dz t z ?_
  refine Y4 R.stp.sat p1 p2 ?_
  refine M0 R.stp.sat fun A w2 σ2 H c a=>?_
  have S2:=R.stp.trans c
  have an:=h1.up c
  have Z: ¬D A:=fun e=>by have:=(h1.mem e).2.1;omega
  have ah:=t.lt
  have aq:b6≠A:=by omega
  refine X3h S2.sat (hg.lift ⟨S2.le⟩) S2.bel.size an (W4 h4 ⟨c.le⟩) (R.tab.lift ⟨c.le⟩) Ig R.ok (by decide) R.good R.good R.rm p3 (fun k b=>j b) fun d bb w3 σ3 C M o W r q=>?_
  obtain rfl:=M rfl
  refine J4 (vs:=[_,_]) rfl ?_
  refine J4 (vs:=[_,_]) rfl ?_
  have g:=a.nx o Z
  have S3:=o.stp' S2 fun k b=>j b
  refine Wc g rfl (by obtain ⟨_,_,rfl,_⟩:=O5.out q;rfl) (one q) fun w5 J V=>?_
  have ag:=(t.up c).nx o h2
  have a1:=(t.up c).lt
  have av:=a.lt
  have f: ¬C b6:=fun e=>(r _ e).elim h2 fun e=>by omega
  have af: ¬C A:=fun e=>(r _ e).elim Z fun e=>by omega
  exact Y (J.stp S3 (L9 H R.stp) g.1) (W.nx (Nxt.of_upd S3.sat J g.1) fun k b e=>af (e▸b)) f (ag.upd J aq) q ((⟨c.le⟩:SLe σ σ2).more o.le) V
set_option maxHeartbeats 1000000 in
theorem Q73 {r:Int} {v:Value} {xs:List ActH} (hs:X3 w σ) (hg:Glb σ) (hr:(Lit.int .u16 r).wf=true) (hv:Sl 8 Q13 σ v xs)
 (h: ∀w' σ',Stp w σ w' σ'→K (.bool true) w'):Q1 P F.c7 [.int .u16 r,v] w K:=Ce (by
 have hr0:0≤r:=X37 hr
 unfold Ut
 refine X2z hs hg hr0 fun a b b6 w1 σ1 R1=>?_
 refine Z7 ?_
 refine U3 xs.length (fun i w'=> ∃σ' cs',Run w σ w' σ' (.pointer (some a)) (.pointer (some b)) b6 (r % 301) cs') ⟨σ1,[],R1⟩ fun i w2 d hi hk=>?_
 obtain ⟨σ2,cs2,R2⟩:=hk
 have hv2:=hv.up R2.stp
 have hmx:=hv2.max
 have done:dr w2 fun Tr Br=>
  Q5 Tr (fun φ67=> ∀w,Br w→fieldAddr P T.a (.pointer (some ⟨b6,0,none⟩)) 2 w (dk Tr φ67 w)) fun φ67=>
  Q5 Tr (fun φ66=> ∀w,Br w→Q1 P F.ap [.pointer (some a)] w (dk Tr φ66 w)) fun φ66=>
  Q5 Tr (fun φ68=> ∀t67 w,Br w→φ67 t67 w→Q2 P T.f t67 w (dk Tr φ68 w)) fun φ68=>
  ∀t67 t66 t68 w,Br w→φ67 t67 w→φ66 t66 w→φ68 t68 w→
  Q1 P F.aR [t66,t68] w fun t69 w=>
  K t69 w:=by
  obtain ⟨σf,dsf,sf,lef,hsl,lb,hrf,htf⟩:=R2.freezeL
  obtain ⟨lvf,cvf,rfl,_,hcf⟩:=O5.out hrf
  have htk:=R2.takes
  refine U0 sf ?_
  (repeat refine Z9 Qa ?_)
  refine Uv (w:=w2) (σ:=σf) (Φ:=fun σ' v=>Sl 2 E4 σ' v cs2) (fun w hb=>?_) ?_
  ·exact X0W hb.sat hsl htk fun v' w' σ' hk hv'=>Hr hb hk hv'
  (repeat refine Z9 Qa ?_)
  intros
  rename_i hx;subst hx
  rename_i hx7
  rename_i hx;subst hx
  rename_i w5 hb5
  obtain ⟨σ5,k5,hv5⟩:=hx7
  refine X2U k5.sat hv5 (hcf.lift ⟨k5.le⟩) fun w6 hb6=>?_
  exact h _ _ (R2.thaw lef (k5.trans (Stp.of_below k5.sat hb6))).stp
 refine Q8 hv2 ?_
 refine Y9 ?_
 cases hd:decide ((i:Int)<(xs.length:Nat)) with
 | false=>
  (repeat refine Hd.h ?_)
  refine Z7 ?_
  exact done
 | true=>
  (repeat refine Hd.h ?_)
  refine Y9 ?_
  (repeat refine Hd.h ?_)
  have hi':i<xs.length:=by simpa using hd
  refine Q7 (fun _=>?_) (fun _=>done)
  refine Zy (fun _ w'=> ∃σ' cs',Run w σ w' σ' (.pointer (some a)) (.pointer (some b)) b6 (r % 301) cs') ?_ (fun _ d w6 hk6=>?_)
  ·obtain ⟨c0,p1,p2,p3⟩:=hv2.el hi'
   refine Y1 hv2 hi' ?_
   refine Y4 R2.stp.sat p1 p2 ?_
   refine X4n R2.stp.sat p3 fun w6 hb6=>?_
   have R6:=R2.below hb6
   refine Jj ?_
   refine Q7 (fun _=>⟨_,_,R6⟩) (fun _=>?_)
   refine X4w ?_
   refine X46 hg hv hi' (R6.below (Below.refl _ _).drew) fun w7 σ7 R7=>?_
   obtain ⟨σf,dsf,sf,lef,hsl,lb,hrf,htf⟩:=R7.freezeL
   generalize S7 W7 (Q4 F5) (r % 301) cs2 xs[i]=cs7 at*
   obtain ⟨lvf,cvf,rfl,_,hcf⟩:=O5.out hrf
   have hlf:=R7.good.left
   have hrm:=R7.rm
   refine U0 sf ?_
   refine Z9 (V:= .bool false) (by
    intros
    exact Jj (L7 rfl)) ?_
   (repeat (apply Z9;(· intros;(repeat (rename_i hx;subst hx));(repeat' (first | (with_reducible exact L7 rfl) | (with_reducible exact R9 (Stp.bel (by (repeat (first | exact Stp.refl (by (first | assumption | exact Stp.sat (by assumption) | exact Hst.sat (by assumption))) | assumption | refine Stp.trans ?_ (by first | assumption | exact Hst.stp (by assumption)))))) rfl) | (with_reducible intro _) | (simp only[↓M2,M2,Mb,reduceIte]) | (with_reducible show Q2 _ _ _ _ _;first | refine X7 aS aL aR ?_ | refine Y4 aS aL aR ?_ | refine ld aS aL aR ?_) | (with_reducible show indexAddr _ _ _ _ _ _;refine Y1 aL au ?_) | (with_reducible show X2 _ _ _ _ _ _ _ _;refine Q8 aL ?_) | (with_reducible show B7 _ _ _ _ _ _;refine J3 aR ?_) | (with_reducible show pick _ _ _ _ _ _;refine M3 ?_) | (with_reducible show Q1 _ _ _ _ _;first | refine X0a au au ?_ | refine Q3N au au au au (W8 aS ?_)) | (apply B8;intro hh;(try simp only[hh,reduceIte,↓M2,M2,Mb,reduceIte]))));done)))
   (intros;(repeat (rename_i hx;subst hx));(try simp only[↓M2,M2,Mb,reduceIte]))
   rename_i w8 hb8
   simp only[decide_true,Bool.not_true,↓M1,M1,Mb,reduceIte]
   refine Q5Z hb8.sat hrf hlf hrm fun w9 σ9 hk9=>?_
   (repeat refine Hd.h ?_)
   refine Za ?_
   simp only[decide_true,Bool.not_true]
   (repeat refine Hd.h ?_)
   refine Z7 ?_
   exact ⟨_,_,R7.thaw lef (hb8.stp.trans hk9)⟩
  ·obtain ⟨σ6,cs6,R6⟩:=hk6
   (try simp only[↓M1,M1,Mb,reduceIte])
   exact Y5 hmx hi' ⟨_,_,R6⟩)
end Go.Proofs.YtjdiakhipmggjaaGreatDoor

namespace Go.Proofs.YtjdiakhipmggjaaGreatDoor.heapPlays
open Go.ChangeShapes Go.WideShapes Go.ChangeAt Go.RowKit
open Go.Emb
theorem own : ownKnob Tryz.prog.godebug = none := by kernel_rfl
theorem lay : laidOutB Tryz.prog = true := by kernel_rfl
set_option maxRecDepth 100000 in
theorem X3n (os : Os) (started : os.Started) (H : Type) (enc : TypeId × Value → H) :
    ReturnsInHanded {} Tryz.checked os 7 .any (fun w args => (Rows.heapPlaysSpec.pre enc Tryz.prog Tryz.f7 [] false w args ∧ laidMetH Tryz.prog laidAll w) ∧ sizedMet enc Tryz.prog Tryz.f7 (OpenSpec.ofChange Rows.heapPlaysSpec) false w args) (Rows.heapPlaysSpec.post enc Tryz.prog Tryz.f7 false true false false) := by
  refine returnsInHanded_of_change_and (C := Tryz.checked) (X := fun w _ => laidMetH Tryz.prog laidAll w) (fun _ _ _ hh h => h.of_heap hh) own started (by kernel_rfl) Tryz.func7
    (ChangeSpec.witness_shaped (enc := enc) (C := Tryz.checked) (os := os) (X := fun w _ => laidMetH Tryz.prog laidAll w) false (World.laidAll Tryz.prog os laidAll) #[.int .u16 0, .slice none 0 0] 8 (World.laidAll_os _ _ _)
      (World.shaped_of_ZipB (by kernel_rfl) (by kernel_rfl)) (by kernel_rfl) (by kernel_rfl) (by kernel_rfl) (by rw [MakeChecks.laidMetH_plain _ _ _ (by kernel_rfl)]; exact laidMet_laidAll _ (by kernel_rfl) (by kernel_rfl))) ?_
  intro W base args ds gs before hval0 hW _ hsz0 hL _
  have hsz : (DataW.weightsEach Tryz.prog (Tryz.f7.params.toList ++ Rows.heapPlaysSpec.plain.varTypes Tryz.prog) (ds ++ gs)).all (· ≤ reachBytes) = true := hsz0
  have hval : ∀ (j : Nat) t v, Tryz.f7.params[j]? = some t → args[j]? = some v → Value.okWide Tryz.prog W .any base t v := hval0
  have hW' := hW
  obtain ⟨p, q, hA0, hV, rfl, hfz, hnd⟩ := hW
  have hA : DataW.TrodAll enc Tryz.prog W 0 (fun _ => true) true Tryz.f7.params.toList args.toList ds p := hA0
  have hlt := DataW.TrodAll.lt hA
  rw [Tryz.params7] at hA hval hsz
  obtain ⟨v0, vs0, d0, ds0, p0, q0, hargs, rfl, rfl, h0, r0⟩ := trodAll_cons hA
  obtain ⟨v1, vs1, d1, ds1, p1, q1, rfl, rfl, rfl, h1, r1⟩ := trodAll_cons r0
  obtain ⟨rfl, rfl, rfl⟩ := trodAll_nil r1
  obtain rfl : args = #[v0, v1] := by cases args; simp_all
  obtain ⟨rfl, rfl⟩ := trodVars_none hV
  have g0 : ∀ x ∈ p0, x.block < W.heap.size := fun x hx => hlt x (by simp [hx])
  have k0 := fun (W' : World) (bel : Below W.heap.size W W') => Below.trod lay (by kernel_rfl) (of_decide_eq_true (by kernel_rfl)) h0 bel g0
  obtain ⟨a0, rfl, _, _, w0⟩ := open_int Tryz.underlying43 (hval 0 43 v0 rfl rfl) h0
  have g1 : ∀ x ∈ p1, x.block < W.heap.size := fun x hx => hlt x (by simp [hx])
  have k1 := fun (W' : World) (bel : Below W.heap.size W W') => Below.trod lay (by kernel_rfl) (of_decide_eq_true (by kernel_rfl)) h1 bel g1
  obtain ⟨l1, e1⟩ := X29 (hval 1 44 v1 rfl rfl) h1 (X3F hsz (j := 1) (t := 44) rfl rfl)
  have hc : Q1 Tryz.prog 7 [.int .u16 a0, v1] W (fun e w' => e = .bool true ∧ Below W.heap.size W w') := Q73 Q9C (X3r hL) w0 e1 (fun w' σ' hb => ⟨rfl, hb.bel⟩)
  refine (Q4f Tryz.func7 (by kernel_rfl) (by kernel_rfl) hc).mono fun e W' he => ?_
  obtain ⟨v, rfl⟩ : ∃ v, e = .returned v := by cases e <;> first | exact ⟨_, rfl⟩ | exact he.elim
  obtain ⟨rfl, bel⟩ := he
  exact ⟨_, rfl, _, _, _, [], _, [], hW', trodAll_mk1 (shut_bool Tryz.underlying4 _), (trodAll_cons_mk (k0 W' bel) (trodAll_cons_mk (k1 W' bel) trodAll_mk0)), rfl, bel.frame _, fun h => by cases h⟩
theorem over : Rows.heapPlaysRow.holds Tryz.pinned (OpenSpec.ofChange Rows.heapPlaysSpec) :=
  OpenClaim.holds_of_wide 7 Tryz.f7 rfl rfl rfl rfl rfl rfl rfl ⟨rfl, rfl, rfl, rfl, rfl⟩ rfl rfl rfl rfl rfl (by kernel_rfl) Tryz.func7 (by kernel_rfl)
    (of_decide_eq_true (by kernel_rfl)) (by unfold Func.isWrapper; first | (rw [if_pos (by decide +kernel)]; kernel_rfl) | (rw [if_neg (by decide +kernel)]; exact ⟨rfl, rfl⟩))
    (fun os started H enc _ => X3n os started H enc)
end Go.Proofs.YtjdiakhipmggjaaGreatDoor.heapPlays
namespace Go.Proofs.YtjdiakhipmggjaaGreatDoor
theorem Q3x : Rows.HeapPlaysSaid := heapPlays.over
end Go.Proofs.YtjdiakhipmggjaaGreatDoor
