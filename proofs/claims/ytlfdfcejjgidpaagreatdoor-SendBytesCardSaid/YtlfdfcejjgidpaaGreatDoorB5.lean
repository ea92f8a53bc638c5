/- Parts of a proof about the given program: its functions as texts of their own, what each computes, plain laws of that. The conditions of each stand in its statement. -/
import Derived.Test.YtlfdfcejjgidpaaGreatDoorB4
import Derived.Laws.OwnMore
import Derived.Laws.CopyRow
import Derived.Test.YtlfdfcejjgidpaaGreatDoorB3
import Derived.Lib.TrimUEq
import Derived.Laws.BytesArg
import Derived.Laws.IdiomStrings
import Derived.Laws.BitsAllLaws
set_option linter.unnecessarySimpa false
set_option linter.defProp false
set_option linter.unusedSectionVars false
set_option linter.unusedVariables false
set_option linter.unusedSimpArgs false
namespace Go.Proofs.Y
open Go.Emb Go.RowKit Go.Kd Go.Hm
variable {w w' : World} {σ σ' : Q2} {cs : List Cel} {l : List Cla}
theorem X1I (ok:Ok l) {k:Q9} (d:k.length<=V4) (i:Nat):(Wz l k i).length<=V4:=by
 unfold Wz
 split
 .cases h:(V0 l k)[i]? with
  | none=>rw[List.getD_eq_getElem?_getD,h];exact Nat.zero_le _
  | some f=>
   rw[List.getD_eq_getElem?_getD,h];have a:=List.mem_of_getElem? h;unfold V0 at a;obtain ⟨c,b,a⟩:=List.mem_flatMap.1 a;have:=((ok.nm c (To (by simpa using b))).2.1 f a).2
   exact Nat.le_trans this L7
 .unfold elem
  split
  .unfold Kd.cutA;rw[List.length_take];omega
  .exact Nat.zero_le _
theorem Y0r {B:Nat} {D:Nat->Prop} {m v:Value} {vals:List Val} {k:Q9} {ty:TypeId} {cb:List Bool} {A:Value->Value->World->Prop} (hs:X3 w σ) (hB:B<=w.heap.size) (h:RowsIs B D σ w m cs) (Y:J7 B T.f 4 O6 σ w v vals) (hd: ∀j,v.ownBlock=some j-> ¬D j) (hk:k.length<=V4) (hl:cs.length<=10000000)
 (hh: ∀s d w' σ' D',Nxt (fun j=>m.ownBlock=some j) w σ w' σ'->(∀j,m.ownBlock=some j->D j)->RowsIs B D' σ' w' d (cs++[⟨k,vals⟩])->(∀j,D' j->D j\/v.ownBlock=some j\/w.heap.size<=j)->(∀j,D j->m.ownBlock≠some j->D' j)->A s d w'):
 buildSlice P T.g 1 [(0, .agg #[S k,v])] w (fun s w=>U4 P .append [T.g,T.g] ty cb [m,s] w (fun v' w=>A s v' w)):=by
 obtain ⟨vs,hq,o,ha,hD⟩:=h.ex;obtain ⟨a,J,E,_⟩:=(id Y:J7 B T.f 4 O6 σ w v vals);have al:v.cells= #[v]:=by rw[E];rfl
 refine C1 (R:=Q7S) (sz:=2) hs [.agg #[S k,v]] [(k,v)] rfl rfl (by simp[Value.cells]) rfl ⟨(⟨rfl,hk,a,_,J,E⟩:Q7S σ (k,v) [S k,v]),trivial⟩ fun s w1 σ1 c X=>?_
 refine Il c.sat (Nat.le_trans hB c.bel.size) (hq.up c) X rfl (by rw[Cy o.1];simp;omega) (by rw[Cy o.1];simp;omega) fun d H O W V N=>?_
 have g: ∀j,m.ownBlock=some j->D j:=fun j b=>(hD j).2 ⟨m,by simp,b⟩
 have L:Nxt (fun j=>m.ownBlock=some j) w σ H σ1:=
  ⟨(Kpt.of_below c.bel).trans (O.mono fun j _ b=>b.1),⟨c.le⟩,c.old,W⟩
 have C: ∀j,v.ownBlock=some j->m.ownBlock≠some j:=fun j b e=>hd j b (g j e)
 have f: ∀j,d.ownBlock=some j->m.ownBlock=some j\/w1.heap.size<=j:=fun j b=>by
  rcases N with ⟨a',aa,e1,e2⟩ | ⟨_,hn⟩
  .left;rw[e1];rw[e2] at b;cases a'<;>exact b
  .exact .inr (hn j b)
 obtain ⟨t,M⟩:=List.pairwise_cons.1 ha;have y: ∀i (p:i<vs.length) (q:i<cs.length),J7 B T.f 4 O6 σ1 H vs[i] cs[i].vals:=fun i p q=>(o.2 i p q).nx L fun j b e=>t _ (List.getElem_mem p) j e b;have Z:J7 B T.f 4 O6 σ1 H v vals:=Y.nx L fun j b e=>C j b e
 have Q: ∀u∈vs,∀j,u.ownBlock=some j->j<w.heap.size:=fun u hu j b=>by
  obtain ⟨i,p,rfl⟩:=List.getElem_of_mem hu;exact ((o.2 i p (by rw[<-o.1];exact p)).mem b).2.1
 refine hh s d H σ1 (fun j=> ∃u∈d::(vs++[v]),u.ownBlock=some j) L g ⟨vs++[v],?_,⟨by simp[o.1],fun i p q=>?_⟩,?_,fun j=>Iff.rfl⟩ ?_ ?_
 .have e:Jf (vs++[v]) (cs++[⟨k,vals⟩])=Jf vs cs++[(k,v)]:=by
   unfold Jf;rw[List.zipWith_append o.1];rfl
  rw[e];exact V
 .by_cases n:i<vs.length
  .have r:i<cs.length:=by rw[<-o.1];exact n
   rw[List.getElem_append_left n,List.getElem_append_left r];exact y i n r
  .have r: ¬i<cs.length:=by rw[<-o.1];exact n
   have e1:i=vs.length:=by simp at p;omega
   rw[List.getElem_append_right Q5,List.getElem_append_right Q5];simp only[List.getElem_singleton];exact Z
 .refine List.pairwise_cons.2 ⟨fun u hu j b e=>?_,List.pairwise_append.2 ⟨M,List.pairwise_singleton _ _,fun u hu u2 z j b e=>?_⟩⟩
  .rcases List.mem_append.1 hu with hu | hu
   .rcases f j b with h1 | h1
    .exact t u hu j h1 e
    .have:=Q u hu j e;have:=c.bel.size;omega
   .simp at hu;subst hu
    rcases f j b with h1 | h1
    .exact C j e h1
    .have:=(Y.mem e).2.1;have:=c.bel.size;omega
  .simp at z;subst z
   exact hd j e ((hD j).2 ⟨u,by simp[hu],b⟩)
 .rintro j ⟨u,hu,b⟩
  rcases List.mem_cons.1 hu with rfl | hu
  .rcases f j b with h1 | h1
   .exact .inl (g j h1)
   .right;right;have:=c.bel.size;omega
  .rcases List.mem_append.1 hu with hu | hu
   .exact .inl ((hD j).2 ⟨u,by simp[hu],b⟩)
   .simp at hu;subst hu;exact .inr (.inl b)
 .intro j b U
  obtain ⟨u,hu,b⟩:=(hD j).1 b
  rcases List.mem_cons.1 hu with rfl | hu
  .exact absurd b U
  .exact ⟨u,by simp[hu],b⟩
variable {K : Value -> World -> Prop} {v : Value}
theorem Xl {n:Q9} (u:X3 w σ) (m:Sl 8 M8 σ v l) (h:K (I (E1 (U2 l n))) w):Q0 P F.b [v,S n] w K:=Q3o (by
 unfold Cb X6 V1 X4 X1;refine V7 l.length (fun k w'=>w'=w/\ ∀j (g:j<l.length),j<k-> ¬l[j].name=n) ⟨rfl,fun j _ h=>by omega⟩ fun k w1 d E q=>?_
 obtain ⟨rfl,f⟩:=q;refine Q6 m ?_;refine Y9 ?_;refine Q4 (fun i=>?_) (fun i=>?_)
 .have a:k<l.length:=by simpa using i
  refine E4 m a fun p cells o s t=>?_;obtain ⟨H,D,mv,rfl,y,z,A,B,C⟩:=t;rw[fa];refine ld u o rfl ?_;refine K2 ?_;refine Q4 (fun b=>?_) (fun b=>?_)
  .have b:l[k].name=n:=by simpa using b
   have:U2 l n=some k:=by
    unfold U2;rw[List.findIdx?_eq_some_iff_getElem];exact ⟨a,by simpa using b,fun j g=>by simpa using f j Q5 g⟩
   rw[this] at h;exact h
  .have b: ¬l[k].name=n:=by simpa using b
   refine C2 ?_;refine Z4 m.max a ⟨rfl,fun j g r=>?_⟩
   by_cases e:j=k
   .subst e;exact b
   .exact f j g Q5
 .have a: ¬k<l.length:=by simpa using i
  have:U2 l n=none:=by
   unfold U2;rw[List.findIdx?_eq_none_iff];intro c i;obtain ⟨j,g,rfl⟩:=List.getElem_of_mem i
   simpa using f j g Q5
  rw[this] at h;exact h)
theorem X1u {a:Q9} (c:a.length<=V4) (h:K (S (base a).1) w):Q0 P F.b4 [S a] w K:=Q3q (by
 unfold Cd X4 X1;have d:=Q52 a;have b:a.length<=140737488355328:=by simp only[V4] at c;omega
 rw[I4 Z5];refine Pt a b ?_
 (try simp only[↓Mr,Mr,Mb,reduceIte])
 rw[Qi (n:=2*((base a).2:Int)) Q5 Q5,Qi Q5 Q5,Yq Z5 Q5 Q5];rw[show ((a.length:Int)-2*((base a).2:Int)).toNat=a.length-2*(base a).2 from by omega,Q8G]
 exact h)
theorem Bc {s:Q9} (g:X3 w σ) (f:Sl 8 M8 σ v l) (c:s.length<=V4) (h:K (.bool (H7 l s)) w):Q0 P F.a4 [v,S s] w K:=Q3p (by
 unfold Cc X8 X2 J9;have b:s.length<=140737488355328:=by simp only[V4] at c;omega
 unfold H7 at h;refine K2 ?_
 by_cases a:s=I1
 .have:decide (s=[110,117,108,108])=true:=by rw[decide_eq_true_eq];exact a
  simp only[this,↓M1,M1,Mb,reduceIte];simp only[a,decide_true,Bool.true_or] at h;exact h
 .have:decide (s=[110,117,108,108])=false:=by rw[decide_eq_false_iff_not];exact a
  simp only[this,↓M1,M1,Mb,reduceIte];simp only[a,decide_false,Bool.false_or] at h;refine Mq s b ?_;cases e:right s with
  | false=>(try simp only[↓M1,M1,Mb,reduceIte]);simpa [e] using h
  | true=>
   (try simp only[↓M1,M1,Mb,reduceIte])
   refine X1u c ?_
   (try simp only[↓M1,M1,Mb,reduceIte])
   refine Gb _ ?_;simp only[e,Bool.true_and] at h;cases d:plain (base s).1 with
   | true=>(try simp only[↓M1,M1,Mb,reduceIte]);simpa [d] using h
   | false=>
    (try simp only[↓M1,M1,Mb,reduceIte])
    refine X1u c ?_
    (try simp only[↓M1,M1,Mb,reduceIte])
    refine Xl g f ?_;refine T2 ?_;rw[Yw]
    (try simp only[↓M1,M1,Mb,reduceIte])
    simpa [d,Q4d] using h)
theorem X60 {s:Q9} (d:X3 w σ) (c:Sl 8 M8 σ v l) (b:s.length<=V4) (h:K (.bool (B2 l s)) w):Q0 P F.bS [v,S s] w K:=Q2f (by
 unfold Ra X8 J9;unfold B2 at h;refine Jb ?_;have e:decide (s=[110,117,108,108])=decide (s=I1):=rfl;rw[e];cases a:decide (s=I1) with
 | true=>
  rw[a] at h
  (try simp only[↓M1,M1,Mb,reduceIte])
  exact h
 | false=>
  rw[a] at h
  (try simp only[↓M1,M1,Mb,reduceIte])
  refine Bc d c b ?_
  (try simp only[↓M1,M1,Mb,reduceIte])
  simpa using h)
def Pf (c:Cla) (n:Q9):Option Nat:=c.methods.findIdx? fun m=>decide (m.name=n)
theorem X3e {c:Cla} {cs:List Value} {n:Q9} (C:X3 w σ) (r:M8 σ c cs) (h: ∀w' D,Stp w σ w' D->K (I (E1 (Pf c n))) w'):Q0 P F.bd [.agg cs.toArray,S n] w K:=Q4K (by
 unfold Fj X6 V1 X4 X1;obtain ⟨Y,N,mv,rfl,H,J,o,L,M⟩:=r;refine Z6 C fun q w0 σ0 a t=>?_;have o:=o.up a;refine V7 c.methods.length (fun k w'=>w'=w0/\ ∀j (i:j<c.methods.length),j<k-> ¬c.methods[j].name=n) ⟨rfl,fun j _ h=>by omega⟩ fun k w1 d W u=>?_
 obtain ⟨rfl,g⟩:=u;rw[fa];refine ld a.sat t rfl ?_;refine Q6 o ?_;refine Y9 ?_;refine Q4 (fun r=>?_) (fun r=>?_)
 .have b:k<c.methods.length:=by simpa using r
  rw[fa];refine ld a.sat t rfl ?_;refine E4 o b fun p cells s z B=>?_;obtain ⟨pv,E,X,rfl,O,Q,R,U,V⟩:=B;rw[fa];refine ld a.sat s rfl ?_;refine K2 ?_;refine Q4 (fun f=>?_) (fun f=>?_)
  .have f:c.methods[k].name=n:=by simpa using f
   have:Pf c n=some k:=by
    unfold Pf;rw[List.findIdx?_eq_some_iff_getElem];exact ⟨b,by simpa using f,fun j i=>by simpa using g j Q5 i⟩
   rw[this] at h;exact h _ _ a
  .have f: ¬c.methods[k].name=n:=by simpa using f
   refine C2 ?_;refine Z4 o.max b ⟨rfl,fun j i y=>?_⟩
   by_cases e:j=k
   .subst e;exact f
   .exact g j i Q5
 .have b: ¬k<c.methods.length:=by simpa using r
  have:Pf c n=none:=by
   unfold Pf;rw[List.findIdx?_eq_none_iff];intro m A;obtain ⟨j,i,rfl⟩:=List.getElem_of_mem A
   simpa using g j i Q5
  rw[this] at h;exact h _ _ a)
theorem Ga {n:Q9} {d:Cla} (f:X3 w σ) (e:Sl 8 M8 σ v l) (c:lk l n=some d) (h: ∀i:Nat,l[i]? =some d->U2 l n=some i->K (I i) w):Q0 P F.b [v,S n] w K:=by
 obtain ⟨_,_,i,a,b⟩:=N1 c;refine Xl f e ?_;rw[a];exact h i b a
theorem Af {n:Q9} (f:X3 w σ) (e:Sl 8 M8 σ v l) (b:lk l n=none) (h:K (I (-1)) w):Q0 P F.b [v,S n] w K:=by
 refine Xl f e ?_;cases d:U2 l n with
 | none=>exact h
 | some i=>obtain ⟨c,a,_⟩:=Wc d;rw[b] at a;cases a
theorem X4a:decide ((-1:Int)<0)=true:=by decide
theorem Q7j (i:Nat):decide ((i:Int)<0)=false:=by rw[decide_eq_false_iff_not];omega
theorem X4v {c:Cla} {cs:List Value} (hs:X3 w σ) (hl:Sl 8 M8 σ v l) (A:M8 σ c cs) (h: ∀w' σ',Stp w σ w' σ'->K (I (B8 l c)) w'):Q0 P F.bz [v, .agg cs.toArray] w K:=Q0G (by
 unfold Dz J1 X6 J3 V1 X8 X4 X2 X1;obtain ⟨lv,fv,mv,rfl,z,f2,f3,f4,f5⟩:=A;refine Z6 hs fun q w0 σ0 o Q=>?_;have z:=z.up o;have b:=hl.up o;have a:=o.sat;have y: ∀n:Nat,B8 l c=n->K (I n) w0:=fun n e=>by rw[<-e];exact h _ _ o
 clear h
 (try simp only[↓M1,M1,Mb,reduceIte])
 refine ld a Q rfl ?_;have m:Ji l c.super=true->K (I (61:Nat)) w0:=fun e=>y 61 (by unfold B8;rw[if_pos e])
 cases J:lk l c.super with
 | none=>
  refine Af a b J ?_;simp only[X4a,↓M1,M1,Mb,reduceIte];exact m (by unfold Ji;rw[J])
 | some d=>
  refine Ga a b J fun i Y hf=>?_;obtain ⟨s,N⟩:=List.getElem?_eq_some_iff.1 Y;simp only[Q7j,↓M1,M1,Mb,reduceIte];refine Y7 b s ?_;obtain ⟨ad,V,af,R,r1⟩:=b.elC s;rw[N] at R
  (try simp only[↓M1,M1,Mb,reduceIte])
  refine ld a R rfl ?_;have g:Ji l c.super=(d.iface||d.fin):=by unfold Ji;rw[J]
  cases D:d.iface with
  | true=>
   rw[D] at g
   (try simp only[↓M1,M1,Mb,reduceIte])
   exact m (by rw[g];rfl)
  | false=>
   rw[D] at g
   (try simp only[↓M1,M1,Mb,reduceIte])
   refine Y7 b s ?_
   (try simp only[↓M1,M1,Mb,reduceIte])
   refine ld a R rfl ?_;cases B:d.fin with
   | true=>
    rw[B] at g
    (try simp only[↓M1,M1,Mb,reduceIte])
    exact m (by rw[g];rfl)
   | false=>
    rw[B] at g;have H:Ji l c.super=false:=g
    (try simp only[↓M1,M1,Mb,reduceIte])
    refine V7 c.like.length (fun k w'=>w'=w0/\(c.like.take k).any (I9 l)=false) ⟨rfl,rfl⟩ fun k w1 d1 hk M=>?_;obtain ⟨hw,u⟩:=M;subst hw
    (try simp only[↓M1,M1,Mb,reduceIte])
    refine ld a Q rfl ?_;refine Q6 z ?_;refine Y9 ?_;refine Q4 (fun A=>?_) (fun A=>?_)
    .have f:k<c.like.length:=by simpa using A
     have r:I9 l c.like[k]=true->K (I (62:Nat)) w1:=fun e=>y 62 (by
      unfold B8;rw[H,P0 f e];rfl)
     have t:I9 l c.like[k]=false->(c.like.take (k+1)).any (I9 l)=false:=fun e=>by rw[E8 f,u,e];rfl
     (try simp only[↓M1,M1,Mb,reduceIte])
     refine ld a Q rfl ?_;refine Y7 z f ?_;obtain ⟨p2,_⟩:=z.elS f;refine Y6 a p2 rfl ?_;cases L:lk l c.like[k] with
     | none=>
      refine Af a b L ?_;simp only[X4a,↓M1,M1,Mb,reduceIte];exact r (by unfold I9;rw[L])
     | some e=>
      refine Ga a b L fun j Z X=>?_;obtain ⟨E,O⟩:=List.getElem?_eq_some_iff.1 Z;simp only[Q7j,↓M1,M1,Mb,reduceIte];refine Y7 b E ?_;obtain ⟨ae,W,ag,U,r3⟩:=b.elC E;rw[O] at U
      (try simp only[↓M1,M1,Mb,reduceIte])
      refine ld a U rfl ?_;have p:I9 l c.like[k]= !e.iface:=by unfold I9;rw[L]
      cases C:e.iface with
      | true=>
       rw[C] at p
       (try simp only[↓M1,M1,Mb,reduceIte])
       exact Z4 z.max f ⟨rfl,t p⟩
      | false=>
       rw[C] at p
       (try simp only[↓M1,M1,Mb,reduceIte])
       exact r p
    .have f: ¬k<c.like.length:=by simpa using A
     rw[B7 f] at u;exact y 0 (by unfold B8;rw[H,u];rfl))
theorem X2a {n:Q9} (h:lk l n=none):V0 l n=[]:=by unfold V0;rw[Em h];rfl
theorem X2b (a:Uo l) {n:Q9} {c:Cla} (h:lk l n=some c):V0 l n=V0 l c.super++c.fields:=by
 unfold V0;rw[Kn a,h]
 simp
theorem Q6U (a: ∀c∈l,Yy c) (n:Q9):(V0 l n).length<=(l.length+1)*1000000:=by
 unfold V0;have b:=Jd (fun c:Cla=>c.fields) 1000000 (chain l n).reverse fun c e=>(a c (To (by simpa using e))).2.1
 have d:=Tn l n;rw[List.length_reverse] at b;exact Nat.le_trans b (Nat.mul_le_mul_right _ d)
theorem Q6a {n:Q9} (a:lk l n=none) (b:X3 w σ) (e:Sl 8 M8 σ v l) (h: ∀c w' d,Stp w σ w' d->Sl 3 K3 d c (V0 l n)->K c w'):Q0 P F.m [v,S n] w K:=Ef (by
 unfold Ub;simp only[Y5,X5,N2];unfold X2;refine Af b e a ?_;simp only[X4a,↓M1,M1,Mb,reduceIte];exact h _ _ _ (Stp.refl b) (by rw[X2a a];exact Sl.nil))
theorem X2z (o:Uo l) (hl:l.length<=1000) (g: ∀c∈l,Yy c): ∀(k:Nat) {n:Q9} {w:World} {σ:Q2} {K:Value->World->Prop},(lk l n=none\/A0 l n<k)->X3 w σ->Sl 8 M8 σ v l->
 (∀j w' m,Stp w σ w' m->Sl 3 K3 m j (V0 l n)->K j w')->Q0 P F.m [v,S n] w K:=by
 intro k
 induction k with
 | zero=>
  intro n w σ K hk f b h
  rcases hk with hk | hk
  .exact Q6a hk f b h
  .omega
 | succ k ih=>
  intro n w σ K hk f b h;cases a:lk l n with
  | none=>exact Q6a a f b h
  | some c=>
   have hk:A0 l n<k+1:=by
    rcases hk with hk | hk
    .rw[a] at hk;cases hk
    .exact hk
   refine Ef ?_;unfold Ub;simp only[Y5,X5,N2];unfold X2;refine Ga f b a fun i Z hf=>?_;obtain ⟨D,C⟩:=List.getElem?_eq_some_iff.1 Z;simp only[Q7j,↓M1,M1,Mb,reduceIte];obtain ⟨lv,fv,mv,p1,O⟩:=b.elC D;rw[C] at p1 O;obtain ⟨_,V,_,_,_⟩:=O.parts
   have E:lk l c.super=none\/A0 l c.super<k:=by
    cases hu:lk l c.super with
    | none=>exact .inl rfl
    | some d=>
     have:=Yf o a (u:=c.super) (by simp[M6]) hu
     right;omega
   have Y:=Q6U g c.super;have X:=(g c (N1 a).2.1).2.1;have N:(l.length+1)*1000000<=1001*1000000:=Nat.mul_le_mul_right _ Q5;refine V3 f ?_
   (repeat refine Y3 Vq ?_)
   refine Q11 (R:=K3) L7 ?_
   (repeat refine Y3 Vq ?_)
   refine Zq (w:=w) (σ:=σ) (Φ:=fun m v=>Sl 3 K3 m v (V0 l c.super)) (fun t w p e=>?_) ?_
   .subst e;exact ih E p.sat b fun j w' m hk H=>Er p hk H
   refine Q0f (w:=w) (σ:=σ) (R:=K3) (sz:=3) (e:=T.m) (V0 l c.super) (fun L M w p r s=>?_) ?_
   .obtain ⟨k1,Q,U⟩:=r
    obtain ⟨σ2,k2,s2⟩:=s;exact X3q k1 Q U k2.sat s2 (fun _ _ h=>h) rfl Q5 Q5 fun j w' hk o=>Q3O p hk o
   (repeat refine Y3 Vq ?_)
   rintro ah ai al am L aj M ak an w2 W rfl rfl rfl rfl _ rfl _ ⟨y,q⟩ rfl;refine Vn y q V rfl Q5 Q5 fun j w3 aa z B _=>?_;obtain ⟨σ4,A,J,_⟩:=B.keep z;exact h _ _ _ A (by rw[X2b o a];exact J)
theorem Iy {n:Q9} (g:X3 w σ) (i:Sl 8 M8 σ v l) (e:Uo l) (f:l.length<=1000) (a: ∀c∈l,Yy c) (h: ∀b w' d,Stp w σ w' d->Sl 3 K3 d b (V0 l n)->K b w'):Q0 P F.m [v,S n] w K:=
 X2z e f a _ (.inr (Nat.lt_succ_self _)) g i h
theorem X5T {n f:Q9} (D:X3 w σ) (E:Sl 8 M8 σ v l) (y:Uo l) (B:l.length<=1000) (u: ∀c∈l,Yy c) (h: ∀w' L,Stp w σ w' L->K (I (E1 (Rv l n f))) w'):Q0 P F.bR [v,S n,S f] w K:=Q2d (by
 unfold Hy X6 V1 X4 X1;refine Iy D E y B u fun N w1 σ1 r b=>?_;have s: ∀o,Rv l n f=o->K (I (E1 o)) w1:=fun o e=>by rw[<-e];exact h _ _ r
 unfold Rv at s;generalize V0 l n=g at b s;refine V7 g.length (fun k w'=>w'=w1/\ ∀j (q:j<g.length),j<k-> ¬g[j].name=f) ⟨rfl,fun j _ h=>by omega⟩ fun k O d M z=>?_
 obtain ⟨H,p⟩:=z;subst H;refine Q6 b ?_;refine Y9 ?_;refine Q4 (fun t=>?_) (fun t=>?_)
 .have a:k<g.length:=by simpa using t
  refine Y7 b a ?_;obtain ⟨J,_⟩:=b.elF a
  (try simp only[↓M1,M1,Mb,reduceIte])
  refine ld r.sat J rfl ?_;refine K2 ?_;refine Q4 (fun i=>?_) (fun i=>?_)
  .have i:g[k].name=f:=by simpa using i
   exact s (some k) (by
    rw[List.findIdx?_eq_some_iff_getElem];exact ⟨a,by simpa using i,fun j q=>by simpa using p j Q5 q⟩)
  .have i: ¬g[k].name=f:=by simpa using i
   (try simp only[↓M1,M1,Mb,reduceIte])
   refine Z4 b.max a ⟨rfl,fun j q A=>?_⟩
   by_cases e:j=k
   .subst e;exact i
   .exact p j q Q5
 .have a: ¬k<g.length:=by simpa using t
  exact s none (by
   rw[List.findIdx?_eq_none_iff];intro m C;obtain ⟨j,q,rfl⟩:=List.getElem_of_mem C
   simpa using p j q Q5))
end Go.Proofs.Y
namespace Go.Emb
open Go.RowKit Go.Hm
variable {w w' : World} {σ : Q2}
theorem Nxt.of_upd {b:Nat} (c:X3 w σ) (a:Upd w b w') (d:σ b=none):Nxt (fun j=>j=b) w σ w' σ:=
 ⟨Kpt.of_upd a rfl,SLe.refl _,fun _ _=>rfl,(Kpt.of_upd (D:=fun j=>j=b) a rfl).sat c fun k e=>e▸d⟩
theorem Nxt.chain {D E:Nat->Prop} {w1 c:World} {σ1 d:Q2} (h:Nxt D w σ w1 σ1) (k:Nxt E w1 σ1 c d) (f: ∀j,j<w.heap.size->E j->D j):Nxt D w σ c d:=
 ⟨⟨k.kp.os.trans h.kp.os,k.kp.tape.trans h.kp.tape,k.kp.output.trans h.kp.output,Nat.le_trans h.kp.size k.kp.size,fun j a b=>(k.kp.block j (Nat.lt_of_lt_of_le a h.kp.size) fun e=>b (f j a e)).trans (h.kp.block j a b)⟩,h.le.more k.le,fun j a=>(k.old j (Nat.lt_of_lt_of_le a h.kp.size)).trans (h.old j a),k.sat⟩
end Go.Emb
namespace Go.Proofs.Y
open Go.Emb Go.RowKit Go.Kd Go.Hm
variable {w w' : World} {K : Value -> World -> Prop} {σ σ' : Q2} {hp tv : Value} {room : Int} {cs : List Cel} {l : List Cla}
theorem RowsIs.shape {B:Nat} {D:Nat->Prop} {b:Value} (h:RowsIs B D σ w b cs):b.cells= #[b]/\b.oneCell'=true:=by
 obtain ⟨vs,d,_⟩:=h.ex;obtain ⟨a,c,rfl,_⟩:=d;exact ⟨rfl,rfl⟩
theorem RowsIs.len {B:Nat} {D:Nat->Prop} {c:Value} (h:RowsIs B D σ w c cs): ∃a b,c= .slice a cs.length b:=by
 obtain ⟨vs,d,e,_⟩:=h.ex;obtain ⟨a,b,rfl,_⟩:=d;exact ⟨a,b,by rw[Cy e.1]⟩
theorem X7x {B:Nat} {D:Nat->Prop} {v:Value} {vals:List Val} {k:Q9} (hs:X3 w σ) (hB:B<=w.heap.size) (h:HeapIs B D σ w hp tv room cs) (M:J7 B T.f 4 O6 σ w v vals) (C: ∀j,v.ownBlock=some j-> ¬D j) (hk:k.length<=V4) (hl:U9 cs+(1+(vals.length:Int))<=1048576)
 (hh: ∀w' σ' D',Nxt D w σ w' σ'->HeapIs B D' σ' w' hp tv room (cs++[⟨k,vals⟩])->(∀j,D' j->D j\/v.ownBlock=some j\/w.heap.size<=j)->K (.tuple #[I cs.length,I 0]) w'):Q0 P F.bi [hp,S k,v] w K:=Q5H (by
 obtain ⟨b,lv,E,rfl,A,t,hr,hE,hD⟩:=h.ex;have ab:=Xs cs;have af:=C4 cs;have c:D b:=(hD b).2 (.inl rfl);have O: ∃a d,v= .slice a vals.length d:=by obtain ⟨a,d,e,_⟩:=M;exact ⟨a,d,e⟩
 have U:=t.lt;unfold Gs X6 X4 X2 X1;rw[C0,fa];refine Yj t rfl ?_;refine Rw M ?_;refine Zm ⟨by omega,by omega⟩ ?_
 refine Zm ⟨by omega,by omega⟩ ?_
 rw[C0,fa];refine Vy t V5 rfl rfl fun w1 u o=>?_;have r:=Nxt.of_upd hs u t.1;have H:=hr.nx r fun j hj e=>hE (e▸hj);have N:=M.nx r fun j hj e=>C j hj (e▸c);have L:=r.sat;rw[C0,fa];refine Yj o rfl ?_;refine M9 (cells:= #[S k,v]) (by obtain ⟨a,d,rfl⟩:=O;kernel_rfl) ?_
 refine Y0r L (by rw[u.size];exact hB) H N (fun j hj e=>C j hj ((hD j).2 (.inr e))) hk Q5 fun s ah w2 W y z i f m aa=>?_
 have n: ∀j,lv.ownBlock=some j->j≠b:=fun j hj e=>hE (e▸i j hj);have p:=o.nx z fun e=>n b e rfl
 have g: ¬y b:=fun e=>by
  rcases m b e with e | e | e
  .exact hE e
  .exact C b e c
  .rw[u.size] at e;omega
 rw[C0,fa];refine Vy p V5 f.shape.1 f.shape.2 fun V u3 q=>?_;have Q:=Nxt.of_upd z.sat u3 p.1;have J:=f.nx Q fun j hj e=>g (e▸hj);rw[C0,fa];refine Yj q rfl ?_;obtain ⟨a2,R,rfl⟩:=f.len;rw[Q5f];refine Wh ⟨by simp only[List.length_append,List.length_cons,List.length_nil];omega,by simp only[List.length_append,List.length_cons,List.length_nil];omega⟩ ?_
 have Y:(((cs++[(⟨k,vals⟩:Cel)]).length:Nat):Int)-1=cs.length:=by simp
 rw[Y];have Z:U9 (cs++[(⟨k,vals⟩:Cel)])=U9 cs+(1+(vals.length:Int)):=by rw[Ja];simp[U9]
 have X:Nxt D w σ V W:=((r.mono fun j _ e=>e▸c).chain z fun j _ e=>(hD j).2 (.inr (i j e))).chain Q fun j _ e=>e▸c;refine hh V W (fun j=>j=b\/y j) X ⟨b,_,y,rfl,A,?_,J,g,fun j=>Iff.rfl⟩ fun j hj=>?_
 .rw[Z];exact q
 .rcases hj with rfl | hj
  .exact .inl c
  .rcases m j hj with e | e | e
   .exact .inl ((hD j).2 (.inr e))
   .exact .inr (.inl e)
   .rw[u.size] at e;exact .inr (.inr e))
theorem HeapIs.tab {B:Nat} {D:Nat->Prop} (h:HeapIs B D σ w hp tv room cs): ∃b a E,hp= .pointer (some ⟨b,0,none⟩)/\Z7 σ w b [tv,I room,I (U9 cs),a]/\RowsIs B E σ w a cs:=by
 obtain ⟨b,a,E,e,c,d,f,hE,hD⟩:=h.ex;exact ⟨b,a,E,e,d,f⟩
theorem X0c {B:Nat} {D:Nat->Prop} (b:X3 w σ) (h:HeapIs B D σ w hp tv room cs) (c:0<=D9 room cs) (d:room<=1048576) (e: ∀w',Stp w σ w' σ->K (I (D9 room cs)) w'):Q0 P F.aE [hp] w K:=by
 obtain ⟨j,i,g,a,_⟩:=h.freeze b;exact X89 i a c d fun w' f=>e w' (Stp.of_below b f)
theorem Q0T (k:Q9) {σ:Q2}:O6 σ (R9 k) (Value.agg [I (R9 k).sort,I (R9 k).n,S (R9 k).s,I (R9 k).ref].toArray).cells.toList:=by
 refine ⟨rfl,?_⟩;unfold R9
 split
 .decide
 split
 .decide
 split
 .decide
 .decide
theorem Q3R (a: ∀c∈l,Yy c) (b:l.length<=100000) (n:Q9):(V0 l n).length<=1000000000000:=by
 have h:=Q6U a n;have:(l.length+1)*1000000<=100001*1000000:=Nat.mul_le_mul_right _ Q5;omega
def atM (cs:List Cel) (e:Int):Int:=if e=0 then cs.length else 0
set_option maxHeartbeats 1000000 in
theorem X09 {B:Nat} {D:Nat->Prop} {k:Q9} (hs:X3 w σ) (hB:B<=w.heap.size) (h:HeapIs B D σ w hp tv room cs) (ht:Tab σ tv l) (ok:Ok l) (hk:k.length<=V4) (h0:0<=D9 room cs) (h1:room<=1048576)
 (hh: ∀w' σ' D',Nxt D w σ w' σ'->HeapIs B D' σ' w' hp tv room (Vf l room cs k).1->(∀j,D' j->D j\/w.heap.size<=j)->K (.tuple #[I (atM cs (Vf l room cs k).2),I (Vf l room cs k).2]) w'):Q0 P F.aK [hp,S k] w K:=Q1N (by
 obtain ⟨b,lv,E,rfl,hm,hr⟩:=h.tab;unfold Ew;simp only[L9,D0];unfold X6 J3 X4 X2 X1;rw[C0,fa];refine Yj (i:=0) hm rfl ?_;refine X4S hs ht fun w1 σ1 g=>?_;refine Nj ?_;unfold Vf at hh;have ab:=ht.lift ⟨g.le⟩;cases ho:Za l k with
 | false=>
  rw[ho] at hh;simp only[if_pos] at hh;refine Z1 ?_;exact hh w1 σ1 D (.of_stp g) (h.up g) fun j r=> .inl r
 | true=>
  rw[ho] at hh;simp only[Bool.true_eq_false,if_false] at hh;refine Z0 ?_;rw[C0,fa];refine Yj (i:=0) (hm.up g) rfl ?_;refine Q0X g.sat ab ok.acy ok.len ok.sm fun fv w2 σ2 J Y=>?_;have v:=g.trans J;have Z:=Y.max;refine Q6 Y ?_;have ae:=Q3R ok.sm ok.len k;refine Zm ⟨by omega,by omega⟩ ?_
  refine X0c J.sat (h.up v) h0 h1 fun N z=>?_;have o:=v.trans z;have A:=Y.up z;rw[Kc]
  by_cases M:D9 room cs<1+((V0 l k).length:Int)
  .rw[if_pos M] at hh
   have e:decide (1+((V0 l k).length:Int)>D9 room cs)=true:=decide_eq_true M;rw[e];refine Z1 ?_;exact hh N σ2 D (.of_stp o) (h.up o) fun j r=> .inl r
  rw[if_neg M] at hh;have e:decide (1+((V0 l k).length:Int)>D9 room cs)=false:=decide_eq_false M;rw[e];refine Z0 ?_;refine Q6 A ?_;have u:=o.bel.size;refine O4 (V0 l k).length (fun n x w'=> ∃σ',Stp N σ2 w' σ'/\W4 N.heap.size T.f 4 O6 σ' w' x (((V0 l k).take n).map fun f=>R9 f.kind)) ⟨σ2,Stp.refl z.sat,W4.nil⟩ fun n x w4 d hn H=>?_;obtain ⟨σ4,c,p⟩:=H;refine Y9 ?_;refine Q4 (fun X=>?_) (fun X=>?_)
  .have m:n<(V0 l k).length:=by simpa using X
   have C:=A.up c;refine Y7 C m ?_;obtain ⟨p1,r1⟩:=C.elF m;refine Z3 c.sat p1 rfl ?_;refine Z9 c.sat (by rfl) rfl (Rep.one (R:=K3) r1) fun q w5 σ5 t aa=>?_
   rw[fa];refine ld t.sat aa rfl ?_;refine X4W t.sat fun w6 σ6 L=>?_;have Q:=(c.trans t).trans L;have V:=(p.up t).up L;refine Un (R:=O6) (x:=R9 (V0 l k)[n].kind) Q V (Q0T _) rfl rfl rfl (by rw[List.length_map,List.length_take];omega) (by rw[List.length_map,List.length_take];omega) fun s v' w7 σ7 ao U W _=>?_
   refine C2 ?_;refine Z8 Z m ⟨σ7,U,?_⟩;rw[List.take_add_one,List.getElem?_eq_getElem m,List.map_append];exact W
  .have m: ¬n<(V0 l k).length:=by simpa using X
   rw[List.take_of_length_le Q5] at p;have a:=o.trans c;have y: ∀j,x.ownBlock=some j->N.heap.size<=j:=fun j r=>(p.mem j r).1
   refine X7x c.sat (Nat.le_trans hB a.bel.size) (h.up a) ((J7.of_acc p).mono (Nat.le_trans hB u)) (fun j r hD=>by
    have:=(h.mem hD).2.1;have:=y j r;omega) hk (by rw[List.length_map];unfold D9 at*;omega) fun w7 σ7 D' N7 h7 O=>?_
   refine J5 (vs:=[_,_]) rfl ?_;refine J5 (vs:=[_,_]) rfl ?_;refine hh w7 σ7 D' ((Nxt.of_stp a).chain N7 fun j _ e=>e) h7 fun j r=>?_
   rcases O j r with e | e | e
   .exact .inl e
   .right;have:=y j e;omega
   .right;have:=a.bel.size;omega)
end Go.Proofs.Y
namespace Go.Hm
open Go.Kd
def P6 (n i b:Nat):Bool:=decide (i<n)&&decide (128<=b)&&decide (b<192)
def Wp (n a b c d:Nat):Nat:=
 if a<128 then 1
 else if (decide (194<=a)&&decide (a<224)&&P6 n 1 b)=true then 2
 else if (decide (224<=a)&&decide (a<240)&&P6 n 1 b&&P6 n 2 c)=true then
  (if 2048<=a % 16*4096+b % 64*64+c % 64/\(a % 16*4096+b % 64*64+c % 64<55296\/57343<a % 16*4096+b % 64*64+c % 64) then 3 else 0)
 else if (decide (240<=a)&&decide (a<245)&&P6 n 1 b&&P6 n 2 c&&P6 n 3 d)=true then
  (if 65536<=a % 8*262144+b % 64*4096+c % 64*64+d % 64/\a % 8*262144+b % 64*4096+c % 64*64+d % 64<=1114111 then 4 else 0)
 else 0
theorem X6A (n a b c d:Nat) (r:a<256) (s:b<256) (t:c<256) (u:d<256):
 Wp n a b c d=if (Lib.decodeN n a b c d).1=65533/\(Lib.decodeN n a b c d).2=1 then 0 else (Lib.decodeN n a b c d).2:=by
 have key: ∀v k:Nat,Lib.decodeN n a b c d=(v,k)-> ¬k=1->Wp n a b c d=k->Wp n a b c d=if (Lib.decodeN n a b c d).1=65533/\(Lib.decodeN n a b c d).2=1 then 0 else (Lib.decodeN n a b c d).2:=by
  intro v k h p o;rw[h,o,if_neg (fun e=>p e.2)]
 have g:Lib.decodeN n a b c d=(65533,1)->Wp n a b c d=0->Wp n a b c d=if (Lib.decodeN n a b c d).1=65533/\(Lib.decodeN n a b c d).2=1 then 0 else (Lib.decodeN n a b c d).2:=by
  intro h o;rw[h,o];simp
 by_cases f:a<128
 .have h:Lib.decodeN n a b c d=(a,1):=by unfold Lib.decodeN;rw[if_pos f]
  rw[h,if_neg (by simp only;omega)]
  unfold Wp;rw[if_pos f]
 by_cases j:a / 32=6/\(1<n/\b / 64=2)
 .by_cases i:a % 32*64+b % 64>=128
  .refine key _ 2 (by unfold Lib.decodeN;rw[if_neg f,if_pos j,if_pos i]) (by decide) ?_
   unfold Wp P6;simp only[Bool.and_eq_true,decide_eq_true_eq];rw[if_neg f,if_pos (by omega)]
  .refine g (by unfold Lib.decodeN;rw[if_neg f,if_pos j,if_neg i]) ?_
   unfold Wp P6;simp only[Bool.and_eq_true,decide_eq_true_eq];rw[if_neg f,if_neg (by omega),if_neg (by omega),if_neg (by omega)]
 by_cases l:a / 16=14/\(1<n/\b / 64=2)/\(2<n/\c / 64=2)
 .by_cases i:2048<=a % 16*4096+b % 64*64+c % 64/\(a % 16*4096+b % 64*64+c % 64<55296\/57343<a % 16*4096+b % 64*64+c % 64)
  .refine key _ 3 (by unfold Lib.decodeN;rw[if_neg f,if_neg j,if_pos l,if_pos (by omega)]) (by decide) ?_
   unfold Wp P6;simp only[Bool.and_eq_true,decide_eq_true_eq];rw[if_neg f,if_neg (by omega),if_pos (by omega),if_pos i]
  .refine g (by unfold Lib.decodeN;rw[if_neg f,if_neg j,if_pos l,if_neg (by omega)]) ?_
   unfold Wp P6;simp only[Bool.and_eq_true,decide_eq_true_eq];rw[if_neg f,if_neg (by omega),if_pos (by omega),if_neg i]
 by_cases m:a / 8=30/\(1<n/\b / 64=2)/\(2<n/\c / 64=2)/\(3<n/\d / 64=2)
 .by_cases i:65536<=a % 8*262144+b % 64*4096+c % 64*64+d % 64/\a % 8*262144+b % 64*4096+c % 64*64+d % 64<=1114111
  .refine key _ 4 (by unfold Lib.decodeN;rw[if_neg f,if_neg j,if_neg l,if_pos m,if_pos (by omega)]) (by decide) ?_
   unfold Wp P6;simp only[Bool.and_eq_true,decide_eq_true_eq];rw[if_neg f,if_neg (by omega),if_neg (by omega),if_pos (by omega),if_pos i]
  .refine g (by unfold Lib.decodeN;rw[if_neg f,if_neg j,if_neg l,if_pos m,if_neg (by omega)]) ?_
   unfold Wp P6;simp only[Bool.and_eq_true,decide_eq_true_eq];rw[if_neg f,if_neg (by omega),if_neg (by omega)]
   by_cases q:a<245
   .rw[if_pos (by omega),if_neg i]
   .rw[if_neg (by omega)]
 .refine g (by unfold Lib.decodeN;rw[if_neg f,if_neg j,if_neg l,if_neg m]) ?_
  unfold Wp P6;simp only[Bool.and_eq_true,decide_eq_true_eq];rw[if_neg f,if_neg (by omega),if_neg (by omega),if_neg (by omega)]
def Y2 (l:Q9) (i:Nat):Nat:=(l.getD i 0).toNat
theorem Up (l:Q9) (i:Nat):Y2 l i<256:=(l.getD i 0).toNat_lt
def Wo (l:Q9):Nat:=Wp l.length (Y2 l 0) (Y2 l 1) (Y2 l 2) (Y2 l 3)
theorem X0j (l:Q9):Wo l=if (Lib.decodeL l).1=65533/\(Lib.decodeL l).2=1 then 0 else (Lib.decodeL l).2:=by
 rw[Lib.decodeL_N];exact X6A _ _ _ _ _ (Up l 0) (Up l 1) (Up l 2) (Up l 3)
theorem X53 {l:Q9} (a:l≠[]) (h:Wo l≠0):1<=Wo l/\Wo l<=l.length:=by
 have b:=Lib.decodeL_le l a;have c:=Lib.decodeL_width l;rw[X0j] at h⊢
 split at h
 .exact absurd rfl h
 .rw[if_neg (by assumption)];omega
theorem X4D {f:Nat} {l:Q9} (a:l≠[]):Lib.validGoD (f+1) l=if Wo l=0 then false else Lib.validGoD f (l.drop (Wo l)):=by
 have b:=Lib.decodeL_width l;simp only[Lib.validGoD,if_neg a];rw[X0j]
 split
 .rw[if_pos rfl]
 .rw[if_neg (by omega)]
end Go.Hm
namespace Go.Emb
open Go.RowKit
theorem Q7Q {P:Program} {w:World} {K:Value->World->Prop} {k:IntKind} {t:TypeId} {b d:Operand} {a c:Int} (f:0<c/\0<=a) (h:K (.int k (a % c)) w):Z2 P .rem t b d (.int k a) (.int k c) w K:=by
 have e:Z2 P .rem t b d (.int k a) (.int k c) w K=K (.int k (a.tmod c)) w:=Y8 (by simp[eqGuard,Go.binOp,Op.intDiv];intro e;omega)
 rw[e,Int.tmod_eq_emod_of_nonneg f.2];exact h
end Go.Emb
namespace Go.Proofs.Y
open Go.Emb Go.RowKit Go.Kd Go.Hm
variable {w : World} {K : Value -> World -> Prop} {σ : Q2}
theorem Sd {a:Q9} {i:Nat} (b:i<a.length) (h:K (.int .u8 (Y2 a i)) w):P7 P T.b (S a) (I i) w K:=by
 rw[Uc Z5 Q5 (by simpa using b)]
 have:(a[(i:Int).toNat]'(by simpa using b)).toNat=Y2 a i:=by
  unfold Y2;rw[List.getD_eq_getElem?_getD,List.getElem?_eq_getElem b];rfl
 rw[this];exact h
theorem Q8E {n:Int} (a:0<=n/\n<256) (h:K (I n) w):conv P T.a2 T.e (.int .u8 n) w K:=by
 rw[Jc Q8x La,Qi Q5 Q5];exact h
theorem Eh {a:Q9} {i:Nat} (h:K (.bool (P6 a.length i (Y2 a i))) w):Q0 P F.s [S a,I i] w K:=Q22 (by
 unfold Hn X8 X4 X1;unfold P6 at h;simp only[↓M1,M1,Mb,reduceIte]
 by_cases b:i<a.length
 .have c:decide ((i:Int)<a.length)=true:=by rw[decide_eq_true_eq];omega
  have d:decide (i<a.length)=true:=by simpa using b
  rw[d] at h;simp only[c,↓M1,M1,Mb,reduceIte];refine Sd b ?_
  (try simp only[↓M1,M1,Mb,reduceIte])
  have f:decide ((128:Int)<=(Y2 a i:Int))=decide (128<=Y2 a i):=by rw[Bool.eq_iff_iff,decide_eq_true_eq,decide_eq_true_eq];omega
  have g:decide ((Y2 a i:Int)<192)=decide (Y2 a i<192):=by rw[Bool.eq_iff_iff,decide_eq_true_eq,decide_eq_true_eq];omega
  rw[f];cases e:decide (128<=Y2 a i) with
  | true=>
   rw[e] at h;simp only[↓M1,M1,Mb,reduceIte];refine Sd b ?_;simp only[g,↓M1,M1,Mb,reduceIte]
   simpa using h
  | false=>
   rw[e] at h;simp only[↓M1,M1,Mb,reduceIte]
   simpa using h
 .have c:decide ((i:Int)<a.length)=false:=by rw[decide_eq_false_iff_not];omega
  have d:decide (i<a.length)=false:=by simpa using b
  rw[d] at h;simp only[c,↓M1,M1,Mb,reduceIte]
  simpa using h)
def Mu (a:Q9):Nat:=Y2 a 0 % 16*4096+Y2 a 1 % 64*64+Y2 a 2 % 64
def Tc (a:Q9):Nat:=Y2 a 0 % 8*262144+Y2 a 1 % 64*4096+Y2 a 2 % 64*64+Y2 a 3 % 64
theorem X52 (a:Q9):Wo a=if Y2 a 0<128 then 1
 else if (decide (194<=Y2 a 0)&&decide (Y2 a 0<224)&&P6 a.length 1 (Y2 a 1))=true then 2
 else if (decide (224<=Y2 a 0)&&decide (Y2 a 0<240)&&P6 a.length 1 (Y2 a 1)&&P6 a.length 2 (Y2 a 2))=true then
  (if 2048<=Mu a/\(Mu a<55296\/57343<Mu a) then 3 else 0)
 else if (decide (240<=Y2 a 0)&&decide (Y2 a 0<245)&&P6 a.length 1 (Y2 a 1)&&P6 a.length 2 (Y2 a 2)&&P6 a.length 3 (Y2 a 3))=true then
  (if 65536<=Tc a/\Tc a<=1114111 then 4 else 0)
 else 0:=rfl
set_option maxRecDepth 9999 in
set_option maxHeartbeats 2000000 in
theorem X7b {a:Q9} (hne:a≠[]) (hs:X3 w σ) (h: ∀w',Below w.heap.size w w'->K (I (Wo a)) w'):Q0 P F.c3 [S a] w K:=Q3i (by
 unfold Sv;simp only[Y5,X5,N2];unfold X8 X2 X1;have hl:0<a.length:=List.length_pos_iff.2 hne;have b0:=Up a 0;have b1:=Up a 1;have b2:=Up a 2;have b3:=Up a 3;refine Sd (i:=0) hl ?_;refine Q8E Q5 ?_
 refine Qt (fun _ w'=>Below w.heap.size w w'/\Wo a=0) ?_ (fun _ d w' hx=>by
  have:=h w' hx.1;rw[hx.2] at this;exact this)
 have hK: ∀n w',Below w.heap.size w w'->Wo a=n->K (I n) w':=fun n w' hb e=>by rw[<-e];exact h w' hb
 clear h;have hcm:=X52 a;simp only[↓M1,M1,Mb,reduceIte];refine Q4 (fun h1=>?_) (fun h1=>?_)
 .have:Y2 a 0<128:=by have:=of_decide_eq_true h1;omega
  exact hK 1 _ (Below.refl _ _) (by rw[hcm,if_pos this])
 have c0: ¬Y2 a 0<128:=by have:=of_decide_eq_false h1;omega
 rw[if_neg c0] at hcm
 by_cases c1:Y2 a 0<194
 .have i1:decide ((194:Int)<=Y2 a 0)=false:=by rw[decide_eq_false_iff_not];omega
  have n1:decide (194<=Y2 a 0)=false:=by rw[decide_eq_false_iff_not];omega
  have i2:decide ((Y2 a 0:Int)<224)=true:=by rw[decide_eq_true_eq];omega
  have n2:decide (Y2 a 0<224)=true:=by rw[decide_eq_true_eq];omega
  have i3:decide ((224:Int)<=Y2 a 0)=false:=by rw[decide_eq_false_iff_not];omega
  have n3:decide (224<=Y2 a 0)=false:=by rw[decide_eq_false_iff_not];omega
  have i4:decide ((Y2 a 0:Int)<240)=true:=by rw[decide_eq_true_eq];omega
  have n4:decide (Y2 a 0<240)=true:=by rw[decide_eq_true_eq];omega
  have i5:decide ((240:Int)<=Y2 a 0)=false:=by rw[decide_eq_false_iff_not];omega
  have n5:decide (240<=Y2 a 0)=false:=by rw[decide_eq_false_iff_not];omega
  have i6:decide ((Y2 a 0:Int)<245)=true:=by rw[decide_eq_true_eq];omega
  have n6:decide (Y2 a 0<245)=true:=by rw[decide_eq_true_eq];omega
  simp only[i1,i2,i3,i4,i5,i6,↓M1,M1,Mb,reduceIte];exact ⟨Below.refl _ _,by rw[hcm];simp only[n1,n2,n3,n4,n5,n6,Bool.and_true,Bool.true_and,Bool.false_and,Bool.and_false,Bool.false_eq_true,if_true,if_false,reduceIte]⟩
 by_cases c2:Y2 a 0<224
 .have i1:decide ((194:Int)<=Y2 a 0)=true:=by rw[decide_eq_true_eq];omega
  have n1:decide (194<=Y2 a 0)=true:=by rw[decide_eq_true_eq];omega
  have i2:decide ((Y2 a 0:Int)<224)=true:=by rw[decide_eq_true_eq];omega
  have n2:decide (Y2 a 0<224)=true:=by rw[decide_eq_true_eq];omega
  have i3:decide ((224:Int)<=Y2 a 0)=false:=by rw[decide_eq_false_iff_not];omega
  have n3:decide (224<=Y2 a 0)=false:=by rw[decide_eq_false_iff_not];omega
  have i4:decide ((Y2 a 0:Int)<240)=true:=by rw[decide_eq_true_eq];omega
  have n4:decide (Y2 a 0<240)=true:=by rw[decide_eq_true_eq];omega
  have i5:decide ((240:Int)<=Y2 a 0)=false:=by rw[decide_eq_false_iff_not];omega
  have n5:decide (240<=Y2 a 0)=false:=by rw[decide_eq_false_iff_not];omega
  have i6:decide ((Y2 a 0:Int)<245)=true:=by rw[decide_eq_true_eq];omega
  have n6:decide (Y2 a 0<245)=true:=by rw[decide_eq_true_eq];omega
  simp only[i1,i2,i3,i4,i5,i6,↓M1,M1,Mb,reduceIte];refine Eh (i:=1) ?_;cases A1:P6 a.length 1 (Y2 a 1) with
  | true=>simp only[↓M1,M1,Mb,reduceIte];exact hK 2 _ (Below.refl _ _) (by rw[hcm];simp only[A1,n1,n2,n3,n4,n5,n6,Bool.and_true,Bool.true_and,Bool.false_and,Bool.and_false,Bool.false_eq_true,if_true,if_false,reduceIte])
  | false=>simp only[↓M1,M1,Mb,reduceIte];exact ⟨Below.refl _ _,by rw[hcm];simp only[A1,n1,n2,n3,n4,n5,n6,Bool.and_true,Bool.true_and,Bool.false_and,Bool.and_false,Bool.false_eq_true,if_true,if_false,reduceIte]⟩
 by_cases c3:Y2 a 0<240
 .have i1:decide ((194:Int)<=Y2 a 0)=true:=by rw[decide_eq_true_eq];omega
  have n1:decide (194<=Y2 a 0)=true:=by rw[decide_eq_true_eq];omega
  have i2:decide ((Y2 a 0:Int)<224)=false:=by rw[decide_eq_false_iff_not];omega
  have n2:decide (Y2 a 0<224)=false:=by rw[decide_eq_false_iff_not];omega
  have i3:decide ((224:Int)<=Y2 a 0)=true:=by rw[decide_eq_true_eq];omega
  have n3:decide (224<=Y2 a 0)=true:=by rw[decide_eq_true_eq];omega
  have i4:decide ((Y2 a 0:Int)<240)=true:=by rw[decide_eq_true_eq];omega
  have n4:decide (Y2 a 0<240)=true:=by rw[decide_eq_true_eq];omega
  have i5:decide ((240:Int)<=Y2 a 0)=false:=by rw[decide_eq_false_iff_not];omega
  have n5:decide (240<=Y2 a 0)=false:=by rw[decide_eq_false_iff_not];omega
  have i6:decide ((Y2 a 0:Int)<245)=true:=by rw[decide_eq_true_eq];omega
  have n6:decide (Y2 a 0<245)=true:=by rw[decide_eq_true_eq];omega
  simp only[i1,i2,i3,i4,i5,i6,↓M1,M1,Mb,reduceIte];refine Eh (i:=1) ?_;cases A1:P6 a.length 1 (Y2 a 1) with
  | false=>simp only[↓M1,M1,Mb,reduceIte];exact ⟨Below.refl _ _,by rw[hcm];simp only[A1,n1,n2,n3,n4,n5,n6,Bool.and_true,Bool.true_and,Bool.false_and,Bool.and_false,Bool.false_eq_true,if_true,if_false,reduceIte]⟩
  | true=>
  simp only[↓M1,M1,Mb,reduceIte];refine Eh (i:=2) ?_;cases A2:P6 a.length 2 (Y2 a 2) with
  | false=>simp only[↓M1,M1,Mb,reduceIte];exact ⟨Below.refl _ _,by rw[hcm];simp only[A1,A2,n1,n2,n3,n4,n5,n6,Bool.and_true,Bool.true_and,Bool.false_and,Bool.and_false,Bool.false_eq_true,if_true,if_false,reduceIte]⟩
  | true=>
  simp only[↓M1,M1,Mb,reduceIte];simp only[A1,A2,n1,n2,n3,n4,n5,n6,Bool.and_true,Bool.true_and,Bool.false_and,Bool.and_false,Bool.false_eq_true,if_true,if_false,reduceIte] at hcm;have hl1:1<a.length:=by unfold P6 at A1;simp only[Bool.and_eq_true,decide_eq_true_eq] at A1;exact A1.1.1
  have hl2:2<a.length:=by unfold P6 at A2;simp only[Bool.and_eq_true,decide_eq_true_eq] at A2;exact A2.1.1
  have hw:IntKind.i64.wrap (IntKind.i64.wrap (IntKind.i64.wrap ((Y2 a 0:Int) % 16*4096)+IntKind.i64.wrap ((Y2 a 1:Int) % 64*64))+(Y2 a 2:Int) % 64)=((Mu a:Nat):Int):=by
   rw[Qi (n:=(Y2 a 0:Int) % 16*4096) Q5 Q5,Qi (n:=(Y2 a 1:Int) % 64*64) Q5 Q5,Qi (n:=_+(Y2 a 1:Int) % 64*64) Q5 Q5,Qi Q5 Q5];unfold Mu;omega
  refine V3 hs ?_;have hx1: ∀{w':World} {K:Value->World->Prop},K (.int .u8 (Y2 a 1)) w'->P7 P T.b (S a) (.int .i64 1) w' K:=fun hK=>Sd (i:=1) hl1 hK;have hx2: ∀{w':World} {K:Value->World->Prop},K (.int .u8 (Y2 a 2)) w'->P7 P T.b (S a) (.int .i64 2) w' K:=fun hK=>Sd (i:=2) hl2 hK
  (repeat (apply Y3;(· intros;(repeat (rename_i hx;subst hx));(repeat' (first | (with_reducible exact X9 rfl) | (with_reducible exact F7 (Stp.bel (by (repeat (first | exact Stp.refl (by (first | assumption | exact Stp.sat Q8 | exact Hst.sat Q8)) | assumption | refine Stp.trans ?_ (by first | assumption | exact Hst.stp Q8))))) rfl) | (with_reducible intro _) | (simp only[↓M2,M2,Mb,reduceIte]) | (with_reducible refine Q7Q au ?_) | (with_reducible refine Q8E au ?_) | (with_reducible refine hx1 ?_) | (with_reducible refine hx2 ?_) | (with_reducible show Q7 _ _ _ _ _;first | refine Y6 aS aL aR ?_ | refine Z3 aS aL aR ?_ | refine ld aS aL aR ?_) | (with_reducible show indexAddr _ _ _ _ _ _;refine Y7 aL au ?_) | (with_reducible show U4 _ _ _ _ _ _ _ _;refine Q6 aL ?_) | (with_reducible show Xv _ _ _ _ _ _;refine W3 aR ?_) | (with_reducible show pick _ _ _ _ _ _;refine F6 ?_) | (apply Zv;intro hh;(try simp only[hh,reduceIte,↓M2,M2,Mb,reduceIte]))));done)))
  (intros;(repeat (rename_i hx;subst hx));(try simp only[↓M2,M2,Mb,reduceIte]))
  rename_i w2 hb2;simp only[hw];have hb:=hb2.stp.bel
  by_cases e1:2048<=Mu a
  .by_cases e2:Mu a<55296
   .simp only[(show decide ((2048:Int)<=(Mu a:Int))=true by rw[decide_eq_true_eq];omega),(show decide ((Mu a:Int)<55296)=true by rw[decide_eq_true_eq];omega),↓M1,M1,Mb,reduceIte]
    exact hK 3 _ hb (by rw[hcm,if_pos ⟨e1, .inl e2⟩])
   .by_cases e3:57343<Mu a
    .simp only[(show decide ((2048:Int)<=(Mu a:Int))=true by rw[decide_eq_true_eq];omega),(show decide ((Mu a:Int)<55296)=false by rw[decide_eq_false_iff_not];omega),(show decide ((57343:Int)<(Mu a:Int))=true by rw[decide_eq_true_eq];omega),↓M1,M1,Mb,reduceIte]
     exact hK 3 _ hb (by rw[hcm,if_pos ⟨e1, .inr e3⟩])
    .simp only[(show decide ((2048:Int)<=(Mu a:Int))=true by rw[decide_eq_true_eq];omega),(show decide ((Mu a:Int)<55296)=false by rw[decide_eq_false_iff_not];omega),(show decide ((57343:Int)<(Mu a:Int))=false by rw[decide_eq_false_iff_not];omega),↓M1,M1,Mb,reduceIte]
     exact ⟨hb,by rw[hcm,if_neg Q5]⟩
  .simp only[(show decide ((2048:Int)<=(Mu a:Int))=false by rw[decide_eq_false_iff_not];omega),↓M1,M1,Mb,reduceIte]
   exact ⟨hb,by rw[hcm,if_neg Q5]⟩
 by_cases c4:Y2 a 0<245
 .have i1:decide ((194:Int)<=Y2 a 0)=true:=by rw[decide_eq_true_eq];omega
  have n1:decide (194<=Y2 a 0)=true:=by rw[decide_eq_true_eq];omega
  have i2:decide ((Y2 a 0:Int)<224)=false:=by rw[decide_eq_false_iff_not];omega
  have n2:decide (Y2 a 0<224)=false:=by rw[decide_eq_false_iff_not];omega
  have i3:decide ((224:Int)<=Y2 a 0)=true:=by rw[decide_eq_true_eq];omega
  have n3:decide (224<=Y2 a 0)=true:=by rw[decide_eq_true_eq];omega
  have i4:decide ((Y2 a 0:Int)<240)=false:=by rw[decide_eq_false_iff_not];omega
  have n4:decide (Y2 a 0<240)=false:=by rw[decide_eq_false_iff_not];omega
  have i5:decide ((240:Int)<=Y2 a 0)=true:=by rw[decide_eq_true_eq];omega
  have n5:decide (240<=Y2 a 0)=true:=by rw[decide_eq_true_eq];omega
  have i6:decide ((Y2 a 0:Int)<245)=true:=by rw[decide_eq_true_eq];omega
  have n6:decide (Y2 a 0<245)=true:=by rw[decide_eq_true_eq];omega
  simp only[i1,i2,i3,i4,i5,i6,↓M1,M1,Mb,reduceIte];refine Eh (i:=1) ?_;cases A1:P6 a.length 1 (Y2 a 1) with
  | false=>simp only[↓M1,M1,Mb,reduceIte];exact ⟨Below.refl _ _,by rw[hcm];simp only[A1,n1,n2,n3,n4,n5,n6,Bool.and_true,Bool.true_and,Bool.false_and,Bool.and_false,Bool.false_eq_true,if_true,if_false,reduceIte]⟩
  | true=>
  simp only[↓M1,M1,Mb,reduceIte];refine Eh (i:=2) ?_;cases A2:P6 a.length 2 (Y2 a 2) with
  | false=>simp only[↓M1,M1,Mb,reduceIte];exact ⟨Below.refl _ _,by rw[hcm];simp only[A1,A2,n1,n2,n3,n4,n5,n6,Bool.and_true,Bool.true_and,Bool.false_and,Bool.and_false,Bool.false_eq_true,if_true,if_false,reduceIte]⟩
  | true=>
  simp only[↓M1,M1,Mb,reduceIte];refine Eh (i:=3) ?_;cases A3:P6 a.length 3 (Y2 a 3) with
  | false=>simp only[↓M1,M1,Mb,reduceIte];exact ⟨Below.refl _ _,by rw[hcm];simp only[A1,A2,A3,n1,n2,n3,n4,n5,n6,Bool.and_true,Bool.true_and,Bool.false_and,Bool.and_false,Bool.false_eq_true,if_true,if_false,reduceIte]⟩
  | true=>
  simp only[↓M1,M1,Mb,reduceIte];simp only[A1,A2,A3,n1,n2,n3,n4,n5,n6,Bool.and_true,Bool.true_and,Bool.false_and,Bool.and_false,Bool.false_eq_true,if_true,if_false,reduceIte] at hcm;have hl1:1<a.length:=by unfold P6 at A1;simp only[Bool.and_eq_true,decide_eq_true_eq] at A1;exact A1.1.1
  have hl2:2<a.length:=by unfold P6 at A2;simp only[Bool.and_eq_true,decide_eq_true_eq] at A2;exact A2.1.1
  have hl3:3<a.length:=by unfold P6 at A3;simp only[Bool.and_eq_true,decide_eq_true_eq] at A3;exact A3.1.1
  have hw:IntKind.i64.wrap (IntKind.i64.wrap (IntKind.i64.wrap (IntKind.i64.wrap ((Y2 a 0:Int) % 8*262144)+IntKind.i64.wrap ((Y2 a 1:Int) % 64*4096))+IntKind.i64.wrap ((Y2 a 2:Int) % 64*64))+(Y2 a 3:Int) % 64)=((Tc a:Nat):Int):=by
   rw[Qi (n:=(Y2 a 0:Int) % 8*262144) Q5 Q5,Qi (n:=(Y2 a 1:Int) % 64*4096) Q5 Q5,Qi (n:=(Y2 a 2:Int) % 64*64) Q5 Q5,Qi (n:=_+(Y2 a 1:Int) % 64*4096) Q5 Q5,Qi (n:=_+(Y2 a 2:Int) % 64*64) Q5 Q5,Qi Q5 Q5];unfold Tc;omega
  refine V3 hs ?_;have hx1: ∀{w':World} {K:Value->World->Prop},K (.int .u8 (Y2 a 1)) w'->P7 P T.b (S a) (.int .i64 1) w' K:=fun hK=>Sd (i:=1) hl1 hK;have hx2: ∀{w':World} {K:Value->World->Prop},K (.int .u8 (Y2 a 2)) w'->P7 P T.b (S a) (.int .i64 2) w' K:=fun hK=>Sd (i:=2) hl2 hK;have hx3: ∀{w':World} {K:Value->World->Prop},K (.int .u8 (Y2 a 3)) w'->P7 P T.b (S a) (.int .i64 3) w' K:=fun hK=>Sd (i:=3) hl3 hK
  (repeat (apply Y3;(· intros;(repeat (rename_i hx;subst hx));(repeat' (first | (with_reducible exact X9 rfl) | (with_reducible exact F7 (Stp.bel (by (repeat (first | exact Stp.refl (by (first | assumption | exact Stp.sat Q8 | exact Hst.sat Q8)) | assumption | refine Stp.trans ?_ (by first | assumption | exact Hst.stp Q8))))) rfl) | (with_reducible intro _) | (simp only[↓M2,M2,Mb,reduceIte]) | (with_reducible refine Q7Q au ?_) | (with_reducible refine Q8E au ?_) | (with_reducible refine hx1 ?_) | (with_reducible refine hx2 ?_) | (with_reducible refine hx3 ?_) | (with_reducible show Q7 _ _ _ _ _;first | refine Y6 aS aL aR ?_ | refine Z3 aS aL aR ?_ | refine ld aS aL aR ?_) | (with_reducible show indexAddr _ _ _ _ _ _;refine Y7 aL au ?_) | (with_reducible show U4 _ _ _ _ _ _ _ _;refine Q6 aL ?_) | (with_reducible show Xv _ _ _ _ _ _;refine W3 aR ?_) | (with_reducible show pick _ _ _ _ _ _;refine F6 ?_) | (apply Zv;intro hh;(try simp only[hh,reduceIte,↓M2,M2,Mb,reduceIte]))));done)))
  (intros;(repeat (rename_i hx;subst hx));(try simp only[↓M2,M2,Mb,reduceIte]))
  rename_i w2 hb2;simp only[hw];have hb:=hb2.stp.bel
  by_cases e1:65536<=Tc a
  .by_cases e2:Tc a<=1114111
   .simp only[(show decide ((65536:Int)<=(Tc a:Int))=true by rw[decide_eq_true_eq];omega),(show decide ((Tc a:Int)<=1114111)=true by rw[decide_eq_true_eq];omega),↓M1,M1,Mb,reduceIte]
    exact hK 4 _ hb (by rw[hcm,if_pos ⟨e1,e2⟩])
   .simp only[(show decide ((65536:Int)<=(Tc a:Int))=true by rw[decide_eq_true_eq];omega),(show decide ((Tc a:Int)<=1114111)=false by rw[decide_eq_false_iff_not];omega),↓M1,M1,Mb,reduceIte]
    exact ⟨hb,by rw[hcm,if_neg Q5]⟩
  .simp only[(show decide ((65536:Int)<=(Tc a:Int))=false by rw[decide_eq_false_iff_not];omega),↓M1,M1,Mb,reduceIte]
   exact ⟨hb,by rw[hcm,if_neg Q5]⟩
 have i1:decide ((194:Int)<=Y2 a 0)=true:=by rw[decide_eq_true_eq];omega
 have n1:decide (194<=Y2 a 0)=true:=by rw[decide_eq_true_eq];omega
 have i2:decide ((Y2 a 0:Int)<224)=false:=by rw[decide_eq_false_iff_not];omega
 have n2:decide (Y2 a 0<224)=false:=by rw[decide_eq_false_iff_not];omega
 have i3:decide ((224:Int)<=Y2 a 0)=true:=by rw[decide_eq_true_eq];omega
 have n3:decide (224<=Y2 a 0)=true:=by rw[decide_eq_true_eq];omega
 have i4:decide ((Y2 a 0:Int)<240)=false:=by rw[decide_eq_false_iff_not];omega
 have n4:decide (Y2 a 0<240)=false:=by rw[decide_eq_false_iff_not];omega
 have i5:decide ((240:Int)<=Y2 a 0)=true:=by rw[decide_eq_true_eq];omega
 have n5:decide (240<=Y2 a 0)=true:=by rw[decide_eq_true_eq];omega
 have i6:decide ((Y2 a 0:Int)<245)=false:=by rw[decide_eq_false_iff_not];omega
 have n6:decide (Y2 a 0<245)=false:=by rw[decide_eq_false_iff_not];omega
 simp only[i1,i2,i3,i4,i5,i6,↓M1,M1,Mb,reduceIte];exact ⟨Below.refl _ _,by rw[hcm];simp only[n1,n2,n3,n4,n5,n6,Bool.and_true,Bool.true_and,Bool.false_and,Bool.and_false,Bool.false_eq_true,if_true,if_false,reduceIte]⟩)
theorem Q9l {s:Q9} (p:s.length<=V4) (u:X3 w σ) (h: ∀w',Below w.heap.size w w'->K (.bool (Lib.validD s)) w'):Q0 P F.aQ [S s] w K:=Q21 (by
 unfold Hl X2 J9;refine Q1b (fun f x w'=> ∃r,x=S r/\r.length<=f/\r.length<=V4/\Below w.heap.size w w'/\Lib.validD s=Lib.validGoD f r) s.length ⟨s,rfl,Nat.le_refl _,p,Below.refl _ _,rfl⟩ ?_;rintro j f x d w1 ⟨r,rfl,t,q,b,i⟩ m;refine Jb ?_
 by_cases a:r=[]
 .have e:decide (r=[])=true:=by simpa using a
  simp only[e,↓M1,M1,Mb,reduceIte];subst a;have:Lib.validGoD f []=true:=by cases f<;>simp[Lib.validGoD]
  rw[i,this] at h;exact h _ b
 .have e:decide (r=[])=false:=by simpa using a
  simp only[e,↓M1,M1,Mb,reduceIte];have o:0<r.length:=List.length_pos_iff.2 a;obtain ⟨f,rfl⟩: ∃g,f=g+1:=⟨f-1,by omega⟩
  rw[X4D a] at i;refine X7b a (u.below b) fun z n=>?_;have c:=b.trans (n.mono b.size);refine E7 ?_
  by_cases l:Wo r=0
  .have k:decide ((Wo r:Int)=0)=true:=by rw[decide_eq_true_eq];omega
   simp only[k,↓M1,M1,Mb,reduceIte];rw[i,if_pos l] at h;exact h _ c
  .have k:decide ((Wo r:Int)=0)=false:=by rw[decide_eq_false_iff_not];omega
   simp only[k,↓M1,M1,Mb,reduceIte];obtain ⟨v,y⟩:=X53 a l;rw[Nf Z5 Q5 Q5];rw[if_neg l] at i;refine m f _ _ Q5 ⟨r.drop (Wo r),by simp,by rw[List.length_drop];omega,by rw[List.length_drop];omega,c,i⟩)
theorem X0w {σ:Q2}: ∀(xs:List Q9),(∀x∈xs,x.length<=V4)->Q3C L1 σ (xs.map S) xs
 | [],_=>trivial
 | x::r,h=>⟨⟨rfl,h x V5⟩,X0w r fun y a=>h y (by simp[a])⟩
def Mz:List Q9:=Mg.map (·.name)
set_option maxRecDepth 100000 in
theorem X8W (d:X3 w σ) (h: ∀v w' a,Stp w σ w' a->Sl 1 L1 a v Mz->K v w'):Q0 P F.ck [] w K:=Q4H (by
 unfold Fg;exact C1 (R:=L1) (sz:=1) d (Mz.map S) Mz rfl rfl (by intro v b;obtain ⟨x,_,rfl⟩:=List.mem_map.1 b;rfl) rfl (X0w _ L7) fun v w' a c b=>h v w' a c b)
theorem X4s {a:Q9} (z:X3 w σ) (h: ∀w' C,Stp w σ w' C->K (I (E1 (Zr a))) w'):Q0 P F.bw [S a] w K:=Q0D (by
 unfold Dw J3 V1 X4 X1;refine X8W z fun v w1 σ1 l p=>?_
 have s:Zr a=Mz.findIdx? fun x=>decide (x=a):=by
  unfold Zr Mz;rw[List.findIdx?_map];rfl
 have q: ∀o,Zr a=o->K (I (E1 o)) w1:=fun o e=>by rw[<-e];exact h _ _ l
 rw[s] at q;have n:Mz.length=42:=rfl;generalize Mz=g at p q n;refine V7 g.length (fun k w'=>w'=w1/\ ∀j (i:j<g.length),j<k-> ¬g[j]=a) ⟨rfl,fun j _ h=>by omega⟩ fun k E d D t=>?_
 obtain ⟨A,f⟩:=t;subst A;refine Q6 p ?_;refine Y9 ?_;refine Q4 (fun r=>?_) (fun r=>?_)
 .have b:k<g.length:=by simpa using r
  refine Y7 p b ?_;obtain ⟨B,_⟩:=p.elS b;refine Y6 l.sat B rfl ?_;refine K2 ?_;refine Q4 (fun c=>?_) (fun c=>?_)
  .have c:g[k]=a:=by simpa using c
   exact q (some k) (by
    rw[List.findIdx?_eq_some_iff_getElem];exact ⟨b,by simpa using c,fun j i=>by simpa using f j Q5 i⟩)
  .have c: ¬g[k]=a:=by simpa using c
   (try simp only[↓M1,M1,Mb,reduceIte])
   refine Z4 p.max b ⟨rfl,fun j i u=>?_⟩
   by_cases e:j=k
   .subst e;exact c
   .exact f j i Q5
 .have b: ¬k<g.length:=by simpa using r
  exact q none (by
   rw[List.findIdx?_eq_none_iff];intro m y;obtain ⟨j,i,rfl⟩:=List.getElem_of_mem y
   simpa using f j i Q5))
theorem X8C {o:Option Nat}:decide (E1 o<0)= !o.isSome:=by
 cases o with
 | none=>rfl
 | some i=>
  have: ¬(i:Int)<0:=by omega
  exact decide_eq_false this
def Rm (a:Q9):Bool:=decide (a=[105,110,116])||decide (a=[108,111,97,100])||decide (a=[115,116,111,114,101])||decide (a=[106,117,109,112])||decide (a=[98,114,97,110,99,104])
def Db (a:Q9):Bool:=decide (a=[119,111,114,100])||decide (a=[110,101,119])||decide (a=[103,101,116])||decide (a=[112,117,116])||decide (a=[99,97,108,108])||decide (a=[97,114,114,97,121])||decide (a=[105,115])||decide (a=[99,97,115,116])
theorem X7i (a:Q9):K1 a=(Rm a,Db a,(Zr a).isSome):=by
 unfold K1;cases g:Zr a with
 | none=>
  have c:=List.findIdx?_eq_none_iff.1 g
  have d: ∀x∈Mz,¬x=a:=by
   intro x f;obtain ⟨o,q,rfl⟩:=List.mem_map.1 f;have:=c o q
   simpa using this
  have b: ∀x∈Mz,decide (a=x)=false:=fun x f=>by rw[decide_eq_false_iff_not];exact fun e=>d x f e.symm
  have j:Rm a=false:=by
   unfold Rm;rw[b _ L7,b _ L7,b _ L7,b _ L7,b _ L7];rfl
  have k:Db a=false:=by
   unfold Db;rw[b _ L7,b _ L7,b _ L7,b _ L7,b _ L7,b _ L7,b _ L7,b _ L7];rfl
  simp[j,k]
 | some i=>
  obtain ⟨h,r,_⟩:=List.findIdx?_eq_some_iff_getElem.1 g;have n:Mg[i].name=a:=by simpa using r
  have p:Mg.getD i ⟨[],false,false⟩=Mg[i]:=by rw[List.getD_eq_getElem?_getD,List.getElem?_eq_getElem h];rfl
  have c: ∀o∈Mg,o.number=Rm o.name/\o.text=Db o.name:=by decide
  obtain ⟨l,m⟩:=c _ (List.getElem_mem h);simp only[p,Option.isSome_some];rw[l,m,n]
def Gg (a:Q9):Int:=if Rm a then 1 else if Db a then 2 else if (Zr a).isSome then 0 else-1
theorem X5W {a:Q9} (f:X3 w σ) (h: ∀w' l,Stp w σ w' l->K (I (Gg a)) w'):Q0 P F.bN [S a] w K:=Q28 (by
 unfold Ht X2 J9;refine Qt (fun x w'=>w'=w/\x= .bool (Rm a)) ?_ (fun x d w' g=>?_)
 .unfold Rm
  simp only[↓M1,M1,Mb,reduceIte]
  repeat' (refine Q4 (fun hh=>?_) (fun hh=>?_))
  all_goals (refine ⟨by trivial,?_⟩;congr 1;simp_all)
 .obtain ⟨rfl,rfl⟩:=g
  cases e:Rm a with
  | true=>
   (try simp only[↓M1,M1,Mb,reduceIte])
   have:=h _ _ (Stp.refl f);unfold Gg at this
   simpa [e] using this
  | false=>
   (try simp only[↓M1,M1,Mb,reduceIte])
   refine Qt (fun x b=>b=w'/\x= .bool (Db a)) ?_ (fun x d b g=>?_)
   .unfold Db
    simp only[↓M1,M1,Mb,reduceIte]
    repeat' (refine Q4 (fun hh=>?_) (fun hh=>?_))
    all_goals (refine ⟨by trivial,?_⟩;congr 1;simp_all)
   .obtain ⟨rfl,rfl⟩:=g
    cases k:Db a with
    | true=>
     (try simp only[↓M1,M1,Mb,reduceIte])
     have:=h _ _ (Stp.refl f);unfold Gg at this
     simpa [e,k] using this
    | false=>
     (try simp only[↓M1,M1,Mb,reduceIte])
     refine X4s f fun w1 σ1 c=>?_;have:=h _ _ c;unfold Gg at this;simp only[e,k,Bool.false_eq_true,if_false] at this;simp only[X8C,↓M1,M1,Mb,reduceIte];cases j:Zr a with
     | none=>rw[j] at this;simp only[Option.isSome_none,↓M1,M1,Mb,reduceIte];simpa using this
     | some i=>rw[j] at this;simp only[Option.isSome_some,↓M1,M1,Mb,reduceIte];simpa using this)
theorem X1J (a:Q9):decide (Gg a<0)= !(K1 a).2.2/\decide (Gg a=1)=(K1 a).1/\decide (Gg a=2)=(K1 a).2.1:=by
 rw[X7i]
 have d:Rm a=true->Db a=false/\(Zr a).isSome=true:=by
  intro h;unfold Rm at h;simp only[Bool.or_eq_true,decide_eq_true_eq] at h
  rcases h with (((h | h) | h) | h) | h<;>(subst h;decide)
 have e:Db a=true->(Zr a).isSome=true:=by
  intro h;unfold Db at h;simp only[Bool.or_eq_true,decide_eq_true_eq] at h
  rcases h with ((((((h | h) | h) | h) | h) | h) | h) | h<;>(subst h;decide)
 unfold Gg;cases b:Rm a with
 | true=>obtain ⟨f,g⟩:=d b;rw[f,g];decide
 | false=>
  cases c:Db a with
  | true=>rw[e c];decide
  | false=>cases (Zr a).isSome<;>decide
theorem Y1t (s:Q9) (c:UInt8):decide (0<=Lib.indexByte s c)=s.any fun b=>decide (b=c):=by
 induction s with
 | nil=>rfl
 | cons b r g=>
  simp only[Lib.indexByte,List.any_cons,<-g]
  by_cases e:b=c
  .simp[e]
  .have a:(b==c)=false:=by simpa using e
   have f:=Lib.indexByte_ge r c;simp only[a,e,decide_false,Bool.false_or,Bool.false_eq_true,if_false]
   by_cases d:Lib.indexByte r c= -1
   .simp[d]
   .have:(Lib.indexByte r c== -1)=false:=by simpa using d
    simp only[this,Bool.false_eq_true,if_false];rw[Bool.eq_iff_iff,decide_eq_true_eq,decide_eq_true_eq];omega
def JB (w:World) (σ:Q2) (b:Bool) (x:Value) (w':World):Prop:= ∃a,Stp w σ w' a/\x= .bool b
theorem JB.mk {w w':World} {σ a:Q2} {b:Bool} (h:Stp w σ w' a):JB w σ b (.bool b) w':=⟨a,h,rfl⟩
theorem JB.of {w w':World} {σ a:Q2} {b c:Bool} (h:Stp w σ w' a) (e:c=b):JB w σ b (.bool c) w':=⟨a,h,by rw[e]⟩
theorem X9n {s:Q9} {n:Nat} (h:n<s.length):decide ((Y2 s n:Int)=10)=decide (s[n]=10):=by
 unfold Y2;rw[List.getD_eq_getElem?_getD,List.getElem?_eq_getElem h,Bool.eq_iff_iff,decide_eq_true_eq,decide_eq_true_eq];simp only[Option.getD_some];rw[<-UInt8.toNat_inj];constructor
 .intro e;have:s[n].toNat=10:=by omega
  rw[this];rfl
 .intro e;rw[e];rfl
theorem Mv {α:Type} {xs:List α} {p:α->Bool} {n:Nat} (h:n<xs.length):(xs.take (n+1)).all p=((xs.take n).all p&&p xs[n]):=by
 rw[List.take_add_one,List.getElem?_eq_getElem h,List.all_append];simp
set_option maxRecDepth 9999 in
set_option maxHeartbeats 2000000 in
theorem X4o {i:Ins} {cs:List Value} (hs:X3 w σ) (hi:Zn σ i cs) (h: ∀w' m,Stp w σ w' m->K (I (G1 i)) w'):Q0 P F.bM [.agg cs.toArray] w K:=Q27 (by
 obtain ⟨rfl,h1,h2,h3⟩:=hi;unfold Hs;simp only[D0];unfold J1 X6 X8 X4 X2 J9 X1;refine Z6 hs fun q w1 σ1 O hq=>?_;have U:=O.sat
 (try simp only[↓M1,M1,Mb,reduceIte])
 refine ld U hq rfl ?_;refine X5W U fun w2 σ2 Q=>?_;obtain ⟨t1,X,H⟩:=X1J i.op;have f:=O.trans Q;have g:=hq.up Q;have e:=f.sat;have p:i.s.length<=140737488355328:=by simp only[V4] at h3;omega
 simp only[t1,↓M1,M1,Mb,reduceIte];unfold G1 at h;cases e1:(K1 i.op).2.2 with
 | false=>
  simp only[e1,Bool.not_false,if_true] at h
  (try simp only[↓M1,M1,Mb,reduceIte])
  exact h _ _ f
 | true=>
 simp only[e1,Bool.not_true,Bool.false_eq_true,if_false] at h;simp only[X,H,↓M1,M1,Mb,reduceIte]
 have k: ∀(b:Bool) (w':World) (m:Q2),Stp w σ w' m->b=(!((!(K1 i.op).1&&decide (i.n≠0))||(!(K1 i.op).2.1&&decide (i.s≠[]))||((K1 i.op).2.1&& !txt i.op i.s)))->
  X0 (.bool (!b)) (K (.int .i64 41) w') (K (.int .i64 0) w'):=by
  intro b w' m u B;subst B;rw[Bool.not_not];cases B:((!(K1 i.op).1&&decide (i.n≠0))||(!(K1 i.op).2.1&&decide (i.s≠[]))||((K1 i.op).2.1&& !txt i.op i.s)) with
  | true=>simp only[B,if_true] at h;(try simp only[↓M1,M1,Mb,reduceIte]);exact h _ _ u
  | false=>simp only[B,Bool.false_eq_true,if_false] at h;(try simp only[↓M1,M1,Mb,reduceIte]);exact h _ _ u
 clear h
 have ae:(K1 i.op).2.1=true->(K1 i.op).1=false:=by
  intro W;rw[<-X,decide_eq_false_iff_not];rw[<-H,decide_eq_true_eq] at W;omega
 cases C:(K1 i.op).2.1 with
 | false=>
  rw[C] at k H;cases y:(K1 i.op).1 with
  | true=>
   rw[y] at k X
   (try simp only[↓M1,M1,Mb,reduceIte])
   simp only[H,↓M1,M1,Mb,reduceIte];refine ld e g rfl ?_
   (try simp only[↓M1,M1,Mb,reduceIte])
   refine M0 ?_;intro d;simp only[↓M1,M1,Mb,reduceIte];exact k _ _ _ f V5
  | false=>
   rw[y] at k X
   (try simp only[↓M1,M1,Mb,reduceIte])
   refine ld e g rfl ?_
   (try simp only[↓M1,M1,Mb,reduceIte])
   by_cases M:i.n=0
   .have d0:decide (i.n=0)=true:=by simpa using M
    simp only[d0,H,↓M1,M1,Mb,reduceIte];refine ld e g rfl ?_
    (try simp only[↓M1,M1,Mb,reduceIte])
    refine M0 ?_;intro d;simp only[↓M1,M1,Mb,reduceIte];exact k _ _ _ f (by simp[M])
   .have d0:decide (i.n=0)=false:=by simpa using M
    simp only[d0,↓M1,M1,Mb,reduceIte];refine M0 ?_;intro d;have E:=k false _ _ f (by simp[M])
    (try simp only[↓M1,M1,Mb,reduceIte] at E⊢)
    exact E
 | true=>
  have y:=ae C;rw[C,y] at k;rw[C] at H;rw[y] at X⊢
  (try simp only[↓M1,M1,Mb,reduceIte])
  refine ld e g rfl ?_
  (try simp only[↓M1,M1,Mb,reduceIte])
  have o: ∀(b c:Bool) (w':World) (m:Q2),decide (i.n=0)=b->Stp w σ w' m->c=(b&&txt i.op i.s)->X0 (.bool (!c)) (K (.int .i64 41) w') (K (.int .i64 0) w'):=by
   intro b c w' m B u t;refine k c w' m u ?_;rw[t,<-B]
   by_cases M:i.n=0<;>simp[M]
  clear k;cases B:decide (i.n=0) with
  | false=>
   have v:=fun w' m u=>o false false w' m B u rfl;clear o;simp only[H,↓M1,M1,Mb,reduceIte];refine Qt (JB w σ false) ?_ (fun x d w' W=>?_)
   .refine ld e g rfl ?_
    (try simp only[↓M1,M1,Mb,reduceIte])
    refine Q4 (fun hh=>?_) (fun hh=>?_)
    .refine O4 (a:=Value.bool false) i.s.length (fun n x w'=>w'=w2/\x=Value.bool false) ⟨rfl,rfl⟩ fun n x w3 d hn l=>?_
     obtain ⟨D,rfl⟩:=l;subst D
     (try simp only[↓M1,M1,Mb,reduceIte])
     refine ld e g rfl ?_
     (try simp only[↓M1,M1,Mb,reduceIte])
     refine Q4 (fun t=>?_) (fun t=>?_)
     .have j:n<i.s.length:=by simpa using t
      (try simp only[↓M1,M1,Mb,reduceIte])
      exact Z8 Q5 j ⟨rfl,rfl⟩
     .exact .mk f
    refine Q4 (fun hh=>?_) (fun hh=>?_)
    .exact .mk f
    refine Qt (fun x w'=>w'=w2/\ ∃b:Bool,x=Value.bool b) ?_ (fun z d w' hz=>?_)
    .refine Q4 (fun hh=>?_) (fun hh=>?_)
     .exact ⟨rfl,_,rfl⟩
     .exact ⟨rfl,_,rfl⟩
    obtain ⟨D,b,rfl⟩:=hz;subst D;refine Q4 (fun hh=>?_) (fun hh=>?_)
    .exact .mk f
    refine Q4 (fun hh=>?_) (fun hh=>?_)
    .exact .mk f
    refine ld e g rfl ?_;refine Q9i i.s p fun w4 r=>?_
    by_cases N:(Jk i.s).2.2=true
    .simp only[N,if_true,↓M1,M1,Mb,reduceIte]
     exact .mk (f.trans (Stp.of_below e r))
    .simp only[N,if_false,↓M1,M1,Mb,reduceIte]
     exact .mk (f.trans (Stp.of_below e r))
   .obtain ⟨m,u,rfl⟩:=W
    have E:=v w' m u
    (try simp only[↓M1,M1,Mb,reduceIte] at E⊢)
    exact E
  | true=>
   have v:=fun c w' m u t=>o true c w' m B u t;clear o;simp only[H,↓M1,M1,Mb,reduceIte];refine Qt (JB w σ (txt i.op i.s)) ?_ (fun x d w' W=>?_)
   .refine ld e g rfl ?_
    (try simp only[↓M1,M1,Mb,reduceIte])
    unfold txt
    by_cases o1:i.op=[119,111,114,100]
    .simp only[if_pos o1,decide_eq_true o1,↓M1,M1,Mb,reduceIte]
     refine ld e g rfl ?_
     (try simp only[↓M1,M1,Mb,reduceIte])
     have ad:decide ((i.s.length:Int)<=64)=decide (i.s.length<=64):=by rw[Bool.eq_iff_iff,decide_eq_true_eq,decide_eq_true_eq];omega
     rw[ad,Y1t,List.not_any_eq_all_not];cases ao:decide (i.s.length<=64) with
     | false=>
      (try simp only[↓M1,M1,Mb,reduceIte])
      refine O4 (a:=Value.bool false) i.s.length (fun n x w'=>w'=w2/\x=Value.bool false) ⟨rfl,rfl⟩ fun n x w3 d hn l=>?_;obtain ⟨D,rfl⟩:=l;subst D
      (try simp only[↓M1,M1,Mb,reduceIte])
      refine ld e g rfl ?_
      (try simp only[↓M1,M1,Mb,reduceIte])
      refine Q4 (fun t=>?_) (fun t=>?_)
      .have j:n<i.s.length:=by simpa using t
       (try simp only[↓M1,M1,Mb,reduceIte])
       exact Z8 Q5 j ⟨rfl,rfl⟩
      .exact .of f V5
     | true=>
      (try simp only[↓M1,M1,Mb,reduceIte])
      refine ld e g rfl ?_;refine Q9l h3 e fun w4 r=>?_;have J:=Stp.of_below e r;have R:=g.up J;have V:=J.sat;have A:=f.trans J
      (try simp only[↓M1,M1,Mb,reduceIte])
      refine O4 (a:=Value.bool (Lib.validD i.s)) i.s.length (fun n x w'=>w'=w4/\x=Value.bool (Lib.validD i.s&&(i.s.take n).all fun c=> !decide (c=10))) ⟨rfl,by simp⟩ fun n x w3 d hn l=>?_
      obtain ⟨D,rfl⟩:=l;subst D
      (try simp only[↓M1,M1,Mb,reduceIte])
      refine ld V R rfl ?_
      (try simp only[↓M1,M1,Mb,reduceIte])
      refine Q4 (fun t=>?_) (fun t=>?_)
      .have j:n<i.s.length:=by simpa using t
       have L:(Lib.validD i.s&&(i.s.take (n+1)).all fun c=> !decide (c=10))=((Lib.validD i.s&&(i.s.take n).all fun c=> !decide (c=10))&& !decide (i.s[n]=10)):=by rw[Mv j,Bool.and_assoc]
       generalize aj:(Lib.validD i.s&&(i.s.take n).all fun c=> !decide (c=10))=ab at L⊢;cases ab with
       | false=>(try simp only[↓M1,M1,Mb,reduceIte]);exact Z8 Q5 j ⟨rfl,by rw[L];rfl⟩
       | true=>
        (try simp only[↓M1,M1,Mb,reduceIte])
        refine ld V R rfl ?_;refine Sd j ?_;simp only[X9n j,↓M1,M1,Mb,reduceIte];exact Z8 Q5 j ⟨rfl,by rw[L];rfl⟩
      .have j: ¬n<i.s.length:=by simpa using t
       rw[List.take_of_length_le Q5];exact .of A V5
    .simp only[if_neg o1,decide_eq_false o1,↓M1,M1,Mb,reduceIte]
     by_cases o2:i.op=[110,101,119]
     .simp only[if_pos o2,decide_eq_true o2,↓M1,M1,Mb,reduceIte]
      refine ld e g rfl ?_;refine Ut i.s p ?_
      (try simp only[↓M1,M1,Mb,reduceIte])
      exact .mk f
     .simp only[if_neg o2,decide_eq_false o2,↓M1,M1,Mb,reduceIte]
      refine Qt (fun x w'=>w'=w2/\x=Value.bool (decide (i.op=[105,115]\/i.op=[99,97,115,116]))) ?_ (fun z d w' hz=>?_)
      .refine Q4 (fun hh=>?_) (fun hh=>?_)
       .exact ⟨rfl,by simp_all⟩
       .exact ⟨rfl,by simp_all⟩
      obtain ⟨D,rfl⟩:=hz;subst D
      by_cases Y:i.op=[105,115]\/i.op=[99,97,115,116]
      .simp only[if_pos Y,decide_eq_true Y,↓M1,M1,Mb,reduceIte]
       refine ld e g rfl ?_;refine Mq i.s p ?_;cases hr:right i.s with
       | false=>(try simp only[↓M1,M1,Mb,reduceIte]);exact .mk f
       | true=>
        (try simp only[↓M1,M1,Mb,reduceIte])
        refine ld e g rfl ?_;refine Gb i.s ?_
        (try simp only[↓M1,M1,Mb,reduceIte])
        exact .mk f
      .simp only[if_neg Y,decide_eq_false Y,↓M1,M1,Mb,reduceIte]
       by_cases Z:i.op=[97,114,114,97,121]
       .simp only[if_pos Z,decide_eq_true Z,↓M1,M1,Mb,reduceIte]
        refine ld e g rfl ?_;refine Mq i.s p ?_;cases hr:right i.s with
        | false=>(try simp only[↓M1,M1,Mb,reduceIte]);exact .mk f
        | true=>
         (try simp only[↓M1,M1,Mb,reduceIte])
         refine ld e g rfl ?_;refine Pt i.s p ?_
         (try simp only[↓M1,M1,Mb,reduceIte])
         have e3:decide (((base i.s).2:Int)<3)=decide (Jx i.s<3):=by
          unfold Jx;rw[if_pos hr,Bool.eq_iff_iff,decide_eq_true_eq,decide_eq_true_eq];omega
         rw[e3];exact .mk f
       .simp only[if_neg Z,decide_eq_false Z,↓M1,M1,Mb,reduceIte]
        refine ld e g rfl ?_;refine Q9i i.s p fun w4 r=>?_;have A:=f.trans (Stp.of_below e r)
        by_cases N:(Jk i.s).2.2=true
        .simp only[N,if_true,↓M1,M1,Mb,reduceIte]
         exact .mk A
        .have:Wa i.s=false:=by unfold Wa;rw[eq_false_of_ne_true N];rfl
         simp only[N,if_false,↓M1,M1,Mb,reduceIte];exact .of A this.symm
   .obtain ⟨m,u,rfl⟩:=W
    have E:=v _ w' m u rfl;simp only[Bool.true_and] at E
    (try simp only[↓M1,M1,Mb,reduceIte])
    exact E)
end Go.Proofs.Y
namespace Go.Emb
theorem X9c {w:World} {K:Value->World->Prop} {v:Value} (h:K v w):Q1 (.bool true) true w (fun w J=>J v w) K:=by rw[H0];exact h
theorem X9b {w:World} {K:Value->World->Prop} {v:Value} (h:K v w):Q1 (.bool false) false w (fun w J=>J v w) K:=by rw[C3];exact h
theorem Y0m {w:World} {K:Value->World->Prop} {b:Bool} {run:World->(Value->World->Prop)->Prop} (h:K undef w):Q1 undef b w run K:=by rw[G3];exact h
class Hd (p : Prop) (q : outParam Prop) : Prop where
  h : q -> p
variable {P : Program} {w : World} {K : Value -> World -> Prop} {run : World -> (Value -> World -> Prop) -> Prop} {v u : Value} {b : Bool}
instance:Hd (W2 P .not (.bool b) w K) (K (.bool (!b)) w):=⟨Nj⟩
instance:Hd (Q1 undef b w run K) (K undef w):=⟨Y0m⟩
instance {t:TypeId} {k off:Nat} {ft:TypeId} {sz by_:Nat} {z:Value} {a:Addr} [tf:TF P t k off ft] [tz:TZ P ft sz by_ z] [nz:NZ sz]:Hd (fieldAddr P t (.pointer (some a)) k w K) (K (.pointer (some (a.add off))) w):=⟨U7⟩
instance:Hd (pick P (.bool false) v u w K) (K u w):=⟨X9e⟩
instance:Hd (pick P (.bool true) v u w K) (K v w):=⟨X9f⟩
instance:Hd (Q1 (.bool false) false w run K) (run w K):=⟨Y0k⟩
instance:Hd (Q1 (.bool true) true w run K) (run w K):=⟨Y0l⟩
instance:Hd (Q1 (.bool false) true w run K) (K undef w):=⟨X9a⟩
instance:Hd (Q1 (.bool true) false w run K) (K undef w):=⟨X9d⟩
instance:Hd (Q1 (.bool false) false w (fun w J=>J v w) K) (K v w):=⟨X9b⟩
instance:Hd (Q1 (.bool true) true w (fun w J=>J v w) K) (K v w):=⟨X9c⟩
end Go.Emb
namespace Go.Proofs.Y
open Go.Emb Go.RowKit Go.Kd Go.Hm
variable {w : World} {K : Value -> World -> Prop} {σ : Q2}
theorem X8T {xs:List Ins} {v:Value} (p:X3 w σ) (o:Sl 3 Zn σ v xs) (h: ∀e w' m,Stp w σ w' m->decide (e=0)=xs.all (fun i=>decide (G1 i=0))->K (I e) w'):Q0 P F.bc [v] w K:=Q4G (by
 unfold Ff J3 V1 X4 X2 X1;refine V7 xs.length (fun n w'=> ∃m,Stp w σ w' m/\(xs.take n).all (fun i=>decide (G1 i=0))=true) ⟨σ,Stp.refl p,rfl⟩ fun n w1 d y j=>?_;obtain ⟨σ1,a,f⟩:=j;have g:=o.up a;refine Q6 g ?_;refine Y9 ?_;refine Q4 (fun l=>?_) (fun l=>?_)
 .have c:n<xs.length:=by simpa using l
  refine Y7 g c ?_;obtain ⟨r,s⟩:=g.elI c;refine Z3 a.sat r rfl ?_;refine X4o a.sat s fun z t k=>?_;refine Lb ?_
  by_cases e:G1 xs[n]=0
  .have:decide (G1 xs[n]=0)=true:=by simpa using e
   simp only[this,↓M1,M1,Mb,reduceIte];exact Z4 o.max c ⟨t,a.trans k,by rw[Mv c,f];simpa using e⟩
  .have:decide (G1 xs[n]=0)=false:=by simpa using e
   simp only[this,↓M1,M1,Mb,reduceIte];refine h _ _ _ (a.trans k) ?_;rw[this]
   symm
   rw[<-Bool.not_eq_true,List.all_eq_true];intro q;have:=q _ (List.getElem_mem c)
   simp at this
   exact e this
 .have c: ¬n<xs.length:=by simpa using l
  rw[List.take_of_length_le Q5] at f;exact h 0 _ _ a (by rw[f];rfl))
theorem X7c {c:Cla} {cs:List Value} (hs:X3 w σ) (hc:M8 σ c cs) (h: ∀w' σ',Stp w σ w' σ'->K (.bool (Wi c)) w'):Q0 P F.c4 [.agg cs.toArray] w K:=Q3n (by
 unfold Ca;simp only[L9];unfold J1 X6 J3 V1 X4 X2 X1;obtain ⟨lv,fv,mv,rfl,f1,f2,f3,f4,f5⟩:=hc;refine Z6 hs fun q w1 σ1 hk1 hq=>?_;have f1:=f1.up hk1;have f2:=f2.up hk1;have f3:=f3.up hk1;refine V7 c.methods.length (fun n w'=> ∃σ',Stp w1 σ1 w' σ'/\(c.methods.take n).any Dc=false) ⟨σ1,Stp.refl hk1.sat,rfl⟩ fun n w2 d hn hinv=>?_;obtain ⟨σ2,hk2,hno⟩:=hinv;have hq2:=hq.up hk2;have f32:=f3.up hk2;have f12:=f1.up hk2;have f22:=f2.up hk2;have hs2:=hk2.sat
 (try simp only[↓M1,M1,Mb,reduceIte])
 refine ld hs2 hq2 rfl ?_;refine Q6 f32 ?_;refine Y9 ?_;refine Q4 (fun hc=>?_) (fun hc=>?_)
 .have hn':n<c.methods.length:=by simpa using hc
  (try simp only[↓M1,M1,Mb,reduceIte])
  refine ld hs2 hq2 rfl ?_;refine Y7 f32 hn' ?_;obtain ⟨pv,cv,hv,p1,r1⟩:=f32.elM hn';refine Z3 hs2 p1 rfl ?_;refine Z9 hs2 (by rfl) rfl (Rep.one r1) fun q3 w3 σ3 hk3 hq3=>?_
  obtain ⟨g1,g2,g3,_,_,_⟩:=(RMe_lift r1 ⟨hk3.le⟩).parts;have hS3:=hk1.trans (hk2.trans hk3)
  have hyes:Dc c.methods[n]=true->K (.bool true) w3:=fun e=>by
   have:=h _ _ hS3;have hm:Wi c=true:=by unfold Wi;rw[P0 hn' e];rfl
   rwa [hm] at this
  have hk23:=hk2.trans hk3;clear h hk2 hk3 hS3;have hmax:=f3.max
  (repeat' (first | (with_reducible intro _) | (with_reducible refine M0 ?_) | (simp only[↓M2,M2,Mb,reduceIte]) | (with_reducible first | refine ld aS aL aR ?_ | refine Y6 aS aL aR ?_ | refine Z3 aS aL aR ?_ | refine Q6 aL ?_ | refine W3 aR ?_ | refine Z6 aS ?_ | refine H9 aS aL ?_ | refine L6 aS aR ?_ | refine Z9 aS aR aR (Rep.one Q8) ?_ | refine W8 aS aR aR aR ?_ | (refine V6 (fun hh=>?_) (fun hh=>?_)<;>(try simp only[hh,Bool.not_true,Bool.not_false,↓M2,M2,Mb,reduceIte])) | (refine Q4 (fun hh=>?_) (fun hh=>?_)<;>(try simp only[hh,Bool.not_true,Bool.not_false,↓M2,M2,Mb,reduceIte])))))
  all_goals clear hq hq2 f1 f2 f3 f32 f12 f22 hs hs2 p1 r1 g1 g2 g3 hk1 f4 f5 hq3
  all_goals first
   | (refine hyes ?_;clear hyes hk23;unfold Dc;simp only[Bool.not_false,Bool.not_true,Bool.or_eq_true,decide_eq_true_eq,decide_eq_false_iff_not] at*;omega)
   | (
    have hnx:(c.methods.take (n+1)).any Dc=false:=by
     rw[E8 hn',hno,Bool.false_or];clear hyes hk23;unfold Dc;simp only[Bool.or_eq_false_iff,decide_eq_false_iff_not] at*;omega
    exact Z4 hmax hn' ⟨_,hk23,hnx⟩)
 .have hn': ¬n<c.methods.length:=by simpa using hc
  rw[B7 hn'] at hno;have hS2:=hk1.trans hk2;have hm:Wi c=(decide (32<c.like.length)||decide (32<c.fields.length)||decide (32<c.methods.length)):=by unfold Wi;rw[hno];simp
  rw[hm] at h;have hK:=h _ _ hS2;clear h hk2
  (try simp only[↓M1,M1,Mb,reduceIte])
  refine ld hs2 hq2 rfl ?_;refine Q6 f12 ?_;have d32: ∀k:Nat,decide ((32:Int)<(k:Int))=decide (32<k):=fun k=>by rw[Bool.eq_iff_iff,decide_eq_true_eq,decide_eq_true_eq];omega
  simp only[d32,↓M1,M1,Mb,reduceIte];cases e1:decide (32<c.like.length) with
  | true=>rw[e1] at hK;(try simp only[↓M1,M1,Mb,reduceIte]);simpa using hK
  | false=>
   rw[e1] at hK
   (try simp only[↓M1,M1,Mb,reduceIte])
   refine ld hs2 hq2 rfl ?_;refine Q6 f22 ?_;simp only[d32,↓M1,M1,Mb,reduceIte];cases e2:decide (32<c.fields.length) with
   | true=>rw[e2] at hK;(try simp only[↓M1,M1,Mb,reduceIte]);simpa using hK
   | false=>
    rw[e2] at hK
    (try simp only[↓M1,M1,Mb,reduceIte])
    refine ld hs2 hq2 rfl ?_;refine Q6 f32 ?_;simp only[d32,↓M1,M1,Mb,reduceIte]
    simpa using hK)
theorem X2K {α:Type} {xs:List α} {p:α->Bool} {n:Nat} (h: ¬n<xs.length):(xs.take n).all p=xs.all p:=by rw[List.take_of_length_le Q5]
set_option maxHeartbeats 4000000 in
theorem Q4m {m:Hm.Met} {pv cv hv:Value} {w1:World} {σ1:Q2} {q:Addr} {z:Bool} (hs:X3 w σ) (ag:Stp w σ w1 σ1) (hq:U0 σ1 q [S m.name,pv,S m.result, .bool m.abs,I m.locals,cv,hv]) (g1:Sl 1 L1 σ1 pv m.params) (g2:Sl 3 Zn σ1 cv m.code) (g3:Sl 4 Ld σ1 hv m.catches)
 (h: ∀w' U,Stp w σ w' U->K (.bool ((z&&m.params.all right)&&if m.abs then decide (m.locals=0)&&decide (m.code=[])&&decide (m.catches=[])
  else decide (m.code≠[])&&decide ((m.params.length:Int)<m.locals)&&m.code.all (fun i=>decide (G1 i=0))&&m.catches.all (Xg m.code.length))) w'):
 lp (α:=Value×Value) (Value.bool z,(.int .i64 0)) w1 fun V C d_ w=>
  fieldAddr P T.d (.pointer (some q)) 1 w fun bp w=>
  Q7 P T.h bp w fun bq w=>
  U4 P .len [T.h] T.e [false] [bq] w fun br w=>
  Z2 P .lss T.e (.tmp 21) (.tmp 24) C.2 br w fun bs w=>
  X0 bs (
   Q1 C.1 true w (fieldAddr P T.d (.pointer (some q)) 1) fun bv w=>
   Q1 C.1 true w (Q7 P T.h bv) fun bw w=>
   Q1 C.1 true w (fun w J=>J C.2 w) fun bx w=>
   Q1 C.1 true w (indexAddr P T.h bw bx) fun bz w=>
   Q1 C.1 true w (Q7 P T.b bz) fun b0 w=>
   Q1 C.1 true w (Q0 P F.f [b0]) fun b1 w=>
   pick P C.1 b1 (.bool false) w fun b2 w=>
   Z2 P .add T.e (.tmp 26) (.const (.int .i64 1)) C.2 (.int .i64 1) w fun bu w=>
   V (b2,bu) w) (
   fieldAddr P T.d (.pointer (some q)) 3 w fun b3 w=>
   Q7 P T.s b3 w fun b4 w=>
   X0 b4 (
    Q1 C.1 true w (fieldAddr P T.d (.pointer (some q)) 4) fun b5 w=>
    Q1 C.1 true w (Q7 P T.e b5) fun b6 w=>
    Q1 C.1 true w (Z2 P .eql T.e (.tmp 42) (.const (.int .i64 0)) b6 (.int .i64 0)) fun b7 w=>
    pick P C.1 b7 (.bool false) w fun N w=>
    Q1 N true w (fieldAddr P T.d (.pointer (some q)) 5) fun b8 w=>
    Q1 N true w (Q7 P T.q b8) fun b9 w=>
    Q1 N true w (U4 P .len [T.q] T.e [false] [b9]) fun ca w=>
    Q1 N true w (Z2 P .eql T.e (.tmp 48) (.const (.int .i64 0)) ca (.int .i64 0)) fun cb w=>
    pick P N cb (.bool false) w fun O w=>
    Q1 O true w (fieldAddr P T.d (.pointer (some q)) 6) fun cc w=>
    Q1 O true w (Q7 P T.u cc) fun cd w=>
    Q1 O true w (U4 P .len [T.u] T.e [false] [cd]) fun ce w=>
    Q1 O true w (Z2 P .eql T.e (.tmp 54) (.const (.int .i64 0)) ce (.int .i64 0)) fun cf w=>
    pick P O cf (.bool false) w fun cg w=>
    K cg w) (
    fieldAddr P T.d (.pointer (some q)) 5 w fun ch w=>
    Q7 P T.q ch w fun ci w=>
    U4 P .len [T.q] T.e [false] [ci] w fun ah w=>
    lp (α:=Value×Value) (C.1,(.int .i64 0)) w fun L j d_ w=>
     fieldAddr P T.d (.pointer (some q)) 6 w fun cj w=>
     Q7 P T.u cj w fun ck w=>
     U4 P .len [T.u] T.e [false] [ck] w fun cl w=>
     Z2 P .lss T.e (.tmp 60) (.tmp 63) j.2 cl w fun cm w=>
     X0 cm (
      fieldAddr P T.d (.pointer (some q)) 6 w fun co w=>
      Q7 P T.u co w fun cp w=>
      indexAddr P T.u cp j.2 w fun cq w=>
      Q7 P T.v cq w fun cr w=>
      Qa P T.v w fun t7 w=>
      U8 P T.v t7 cr w fun _u w=>
      Q1 j.1 true w (fieldAddr P T.v t7 0) fun cs w=>
      Q1 j.1 true w (Q7 P T.e cs) fun ct w=>
      Q1 j.1 true w (Z2 P .geq T.e (.tmp 75) (.const (.int .i64 0)) ct (.int .i64 0)) fun cu w=>
      pick P j.1 cu (.bool false) w fun H w=>
      Q1 H true w (fieldAddr P T.v t7 0) fun cw w=>
      Q1 H true w (Q7 P T.e cw) fun cx w=>
      Q1 H true w (fieldAddr P T.v t7 1) fun cy w=>
      Q1 H true w (Q7 P T.e cy) fun cz w=>
      Q1 H true w (Z2 P .lss T.e (.tmp 80) (.tmp 82) cx cz) fun c3 w=>
      pick P H c3 (.bool false) w fun Q w=>
      Q1 Q true w (fieldAddr P T.v t7 1) fun c4 w=>
      Q1 Q true w (Q7 P T.e c4) fun c5 w=>
      Q1 Q true w (fun w J=>J ah w) fun c6 w=>
      Q1 Q true w (Z2 P .leq T.e (.tmp 87) (.tmp 88) c5 c6) fun c7 w=>
      pick P Q c7 (.bool false) w fun aa w=>
      Q1 aa true w (fieldAddr P T.v t7 2) fun c8 w=>
      Q1 aa true w (Q7 P T.e c8) fun c9 w=>
      Q1 aa true w (Z2 P .geq T.e (.tmp 93) (.const (.int .i64 0)) c9 (.int .i64 0)) fun da w=>
      pick P aa da (.bool false) w fun R w=>
      Q1 R true w (fieldAddr P T.v t7 2) fun db w=>
      Q1 R true w (Q7 P T.e db) fun dc w=>
      Q1 R true w (fun w J=>J ah w) fun dd w=>
      Q1 R true w (Z2 P .lss T.e (.tmp 98) (.tmp 99) dc dd) fun av w=>
      pick P R av (.bool false) w fun D w=>
      Q1 D true w (fieldAddr P T.v t7 3) fun aw w=>
      Q1 D true w (Q7 P T.b aw) fun ax w=>
      Q1 D true w (Q0 P F.d [ax]) fun ay w=>
      pick P D ay (.bool false) w fun az w=>
      Z2 P .add T.e (.tmp 65) (.const (.int .i64 1)) j.2 (.int .i64 1) w fun cn w=>
      L (az,cn) w) (
      Q1 j.1 true w (fun w J=>J ah w) fun a0 w=>
      Q1 j.1 true w (Z2 P .gtr T.e (.tmp 109) (.const (.int .i64 0)) a0 (.int .i64 0)) fun a1 w=>
      pick P j.1 a1 (.bool false) w fun g w=>
      Q1 g true w (fieldAddr P T.d (.pointer (some q)) 4) fun a2 w=>
      Q1 g true w (Q7 P T.e a2) fun a3 w=>
      Q1 g true w (fieldAddr P T.d (.pointer (some q)) 1) fun a4 w=>
      Q1 g true w (Q7 P T.h a4) fun a5 w=>
      Q1 g true w (U4 P .len [T.h] T.e [false] [a5]) fun a6 w=>
      Q1 g true w (Z2 P .gtr T.e (.tmp 114) (.tmp 117) a3 a6) fun a7 w=>
      pick P g a7 (.bool false) w fun A w=>
      Q1 A true w (fieldAddr P T.d (.pointer (some q)) 5) fun a8 w=>
      Q1 A true w (Q7 P T.q a8) fun a9 w=>
      Q1 A true w (Q0 P F.bc [a9]) fun ba w=>
      Q1 A true w (Z2 P .eql T.w (.tmp 123) (.const (.int .i64 0)) ba (.int .i64 0)) fun bb w=>
      pick P A bb (.bool false) w fun bc w=>
      K bc w))):=by
 have bn:=ag.sat;have c0:decide ((m.code.length:Int)=0)=decide (m.code=[]):=by cases m.code<;>simp;omega
 have c1:decide ((m.catches.length:Int)=0)=decide (m.catches=[]):=by cases m.catches<;>simp;omega
 have c2:decide ((0:Int)<m.code.length)=decide (m.code≠[]):=by cases m.code<;>simp
 refine O4 (a:=Value.bool z) m.params.length (fun n x w'=> ∃U,Stp w1 σ1 w' U/\x=Value.bool (z&&(m.params.take n).all right)) ⟨σ1,Stp.refl bn,by simp⟩ fun n x w2 d hn M=>?_
 obtain ⟨σ2,k,rfl⟩:=M;have l:=hq.up k;have W:=g1.up k;have o:=k.sat
 (try simp only[↓M1,M1,Mb,reduceIte])
 refine ld o l rfl ?_;refine Q6 W ?_;refine Y9 ?_;refine Q4 (fun hc=>?_) (fun hc=>?_)
 .have c:n<m.params.length:=by simpa using hc
  have s:(z&&(m.params.take (n+1)).all right)=((z&&(m.params.take n).all right)&&right m.params[n]):=by rw[Mv c,Bool.and_assoc]
  generalize (z&&(m.params.take n).all right)=f at s⊢;cases f with
  | false=>(try simp only[↓M1,M1,Mb,reduceIte]);exact Z8 g1.max c ⟨σ2,k,by rw[s];rfl⟩
  | true=>
   (try simp only[↓M1,M1,Mb,reduceIte])
   refine ld o l rfl ?_
   (try simp only[↓M1,M1,Mb,reduceIte])
   refine Y7 W c ?_;obtain ⟨p1,p2⟩:=W.elS c;refine Y6 o p1 rfl ?_;refine Mq _ (by simp only[V4] at p2;omega) ?_
   (try simp only[↓M1,M1,Mb,reduceIte])
   exact Z8 g1.max c ⟨σ2,k,by rw[s];rfl⟩
 .have c: ¬n<m.params.length:=by simpa using hc
  rw[X2K c];have ak:=ag.trans k;have af:=g2.up k;have X:=g3.up k;clear ag k hq g1 g2 g3 hn hc;generalize (z&&m.params.all right)=f at h⊢;refine ld o l rfl ?_;cases al:m.abs with
  | true=>
   simp only[al,if_true] at h;have hK:=h _ _ ak;clear h
   (try simp only[↓M1,M1,Mb,reduceIte])
   cases f with
   | false=>(try simp only[↓M1,M1,Mb,reduceIte]);simpa using hK
   | true=>
    (try simp only[↓M1,M1,Mb,reduceIte])
    refine ld o l rfl ?_
    (try simp only[↓M1,M1,Mb,reduceIte])
    cases aq:decide (m.locals=0) with
    | false=>rw[aq] at hK;(try simp only[↓M1,M1,Mb,reduceIte]);simpa using hK
    | true=>
     rw[aq] at hK
     (try simp only[↓M1,M1,Mb,reduceIte])
     refine ld o l rfl ?_;refine Q6 af ?_;simp only[c0,↓M1,M1,Mb,reduceIte];cases am:decide (m.code=[]) with
     | false=>rw[am] at hK;(try simp only[↓M1,M1,Mb,reduceIte]);simpa using hK
     | true=>
      rw[am] at hK
      (try simp only[↓M1,M1,Mb,reduceIte])
      refine ld o l rfl ?_;refine Q6 X ?_;simp only[c1,↓M1,M1,Mb,reduceIte]
      simpa using hK
  | false=>
   simp only[al,Bool.false_eq_true,if_false] at h
   (try simp only[↓M1,M1,Mb,reduceIte])
   refine ld o l rfl ?_;refine Q6 af ?_;refine O4 (a:=Value.bool f) m.catches.length (fun n x w'=> ∃U,Stp w2 σ2 w' U/\x=Value.bool (f&&(m.catches.take n).all (Xg m.code.length))) ⟨σ2,Stp.refl o,by simp⟩ fun n x w4 d hn M=>?_
   obtain ⟨σ4,r,rfl⟩:=M;have E:=l.up r;have Y:=X.up r;have y:=r.sat
   (try simp only[↓M1,M1,Mb,reduceIte])
   refine ld y E rfl ?_;refine Q6 Y ?_;refine Y9 ?_;refine Q4 (fun hc=>?_) (fun hc=>?_)
   .have c:n<m.catches.length:=by simpa using hc
    have s:(f&&(m.catches.take (n+1)).all (Xg m.code.length))=((f&&(m.catches.take n).all (Xg m.code.length))&&Xg m.code.length m.catches[n]):=by rw[Mv c,Bool.and_assoc]
    generalize (f&&(m.catches.take n).all (Xg m.code.length))=bh at s⊢
    (try simp only[↓M1,M1,Mb,reduceIte])
    refine ld y E rfl ?_;refine Y7 Y c ?_;obtain ⟨p1,r1⟩:=Y.elK c;have an:m.catches[n].cls.length<=140737488355328:=by have:=r1.2.2.2.2;simp only[V4] at this;omega
    refine Z3 y p1 rfl ?_;refine Z9 y (by rfl) rfl (Rep.one r1) fun q5 w5 σ5 ap t=>?_
    have B:=ap.sat;have ad:=r.trans ap;cases bh with
    | false=>(try simp only[↓M1,M1,Mb,reduceIte]);exact Z8 X.max c ⟨σ5,ad,by rw[s];rfl⟩
    | true=>
     have p: ∀b,Xg m.code.length m.catches[n]=b->Ai m.catches.length (fun n x w'=> ∃U,Stp w2 σ2 w' U/\x=Value.bool (f&&(m.catches.take n).all (Xg m.code.length))) (Value.bool b, .int .i64 (IntKind.i64.wrap (n+1))) w5/\Ej m.catches.length (Value.bool b, .int .i64 (IntKind.i64.wrap (n+1)))<Ej m.catches.length (Value.bool true,I n):=fun b e=>Z8 X.max c ⟨σ5,ad,by rw[s,e];rfl⟩
     unfold Xg at p;generalize m.catches[n]=x at t p an;clear s p1 r1 E l Y h
     (try simp only[↓M1,M1,Mb,reduceIte])
     refine ld B t rfl ?_
     (try simp only[↓M1,M1,Mb,reduceIte])
     cases d1:decide (0<=x.frm) with
     | false=>(try simp only[↓M1,M1,Mb,reduceIte]);exact p _ (by simp[d1])
     | true=>
     (try simp only[↓M1,M1,Mb,reduceIte])
     refine ld B t rfl ?_
     (try simp only[↓M1,M1,Mb,reduceIte])
     refine ld B t rfl ?_
     (try simp only[↓M1,M1,Mb,reduceIte])
     cases d2:decide (x.frm<x.to) with
     | false=>(try simp only[↓M1,M1,Mb,reduceIte]);exact p _ (by simp[d1,d2])
     | true=>
     (try simp only[↓M1,M1,Mb,reduceIte])
     refine ld B t rfl ?_
     (try simp only[↓M1,M1,Mb,reduceIte])
     cases d3:decide (x.to<=(m.code.length:Int)) with
     | false=>(try simp only[↓M1,M1,Mb,reduceIte]);exact p _ (by simp[d1,d2,d3])
     | true=>
     (try simp only[↓M1,M1,Mb,reduceIte])
     refine ld B t rfl ?_
     (try simp only[↓M1,M1,Mb,reduceIte])
     cases d4:decide (0<=x.at_) with
     | false=>(try simp only[↓M1,M1,Mb,reduceIte]);exact p _ (by simp[d1,d2,d3,d4])
     | true=>
     (try simp only[↓M1,M1,Mb,reduceIte])
     refine ld B t rfl ?_
     (try simp only[↓M1,M1,Mb,reduceIte])
     cases d5:decide (x.at_<(m.code.length:Int)) with
     | false=>(try simp only[↓M1,M1,Mb,reduceIte]);exact p _ (by simp[d1,d2,d3,d4,d5])
     | true=>
     (try simp only[↓M1,M1,Mb,reduceIte])
     refine ld B t rfl ?_;refine Ut x.cls an ?_
     (try simp only[↓M1,M1,Mb,reduceIte])
     exact p _ (by simp[d1,d2,d3,d4,d5])
   .have c: ¬n<m.catches.length:=by simpa using hc
    rw[X2K c];have Z:=ak.trans r;have bl:=af.up r;have bk:=W.up r
    have hh: ∀w' U,Stp w σ w' U->K (.bool ((f&&m.catches.all (Xg m.code.length))&&(decide (m.code≠[])&&decide ((m.params.length:Int)<m.locals)&&m.code.all (fun i=>decide (G1 i=0))))) w':=by
     intro w' U hk;have:=h w' U hk;refine Eq.subst (motive:=fun b=>K (.bool b) w') ?_ this;cases f<;>cases m.catches.all (Xg m.code.length)<;>simp
    clear h r;generalize (f&&m.catches.all (Xg m.code.length))=bi at hh⊢;cases bi with
    | false=>(try simp only[↓M1,M1,Mb,reduceIte]);simpa using hh _ _ Z
    | true=>
     (try simp only[↓M1,M1,Mb,reduceIte])
     simp only[c2,↓M1,M1,Mb,reduceIte];cases ao:decide (m.code≠[]) with
     | false=>rw[ao] at hh;(try simp only[↓M1,M1,Mb,reduceIte]);simpa using hh _ _ Z
     | true=>
      rw[ao] at hh
      (try simp only[↓M1,M1,Mb,reduceIte])
      refine ld y E rfl ?_
      (try simp only[↓M1,M1,Mb,reduceIte])
      refine ld y E rfl ?_;refine Q6 bk ?_
      (try simp only[↓M1,M1,Mb,reduceIte])
      cases ar:decide ((m.params.length:Int)<m.locals) with
      | false=>rw[ar] at hh;(try simp only[↓M1,M1,Mb,reduceIte]);simpa using hh _ _ Z
      | true=>
       rw[ar] at hh
       (try simp only[↓M1,M1,Mb,reduceIte])
       refine ld y E rfl ?_;refine X8T y bl fun e w6 σ6 bm he=>?_;simp only[he,↓M1,M1,Mb,reduceIte]
       simpa using hh _ _ (Z.trans bm)
set_option maxRecDepth 9999 in
set_option maxHeartbeats 2000000 in
theorem X4u {m:Hm.Met} {cs:List Value} (n:X3 w σ) (D:F9 σ m cs) (h: ∀w' E,Stp w σ w' E->K (.bool (Ye m)) w'):Q0 P F.a9 [.agg cs.toArray] w K:=Q0E (by
 unfold Dx;simp only[L9];unfold J1 zhi X6 J3 X8 X4 X2 J9 X1;obtain ⟨pv,H,L,rfl,y,z,A,B,C,J⟩:=D;have o:m.name.length<=140737488355328:=by simp only[V4] at B;omega
 have p:m.result.length<=140737488355328:=by simp only[V4] at C;omega
 refine Z6 n fun q w1 σ1 a g=>?_;have r:=y.up a;have s:=z.up a;have t:=A.up a;have f:=a.sat;obtain ⟨d,c⟩: ∃b,b=(B5 m.name&&(decide (m.result=[])||right m.result)):=⟨_,rfl⟩
 have k:Ye m=((d&&m.params.all right)&&if m.abs then decide (m.locals=0)&&decide (m.code=[])&&decide (m.catches=[])
  else decide (m.code≠[])&&decide ((m.params.length:Int)<m.locals)&&m.code.all (fun i=>decide (G1 i=0))&&m.catches.all (Xg m.code.length)):=by
  rw[c];unfold Ye;cases B5 m.name<;>cases m.params.all right<;>cases decide (m.result=[])<;>cases right m.result<;>rfl
 rw[k] at h;clear k
 (repeat refine Hd.h ?_)
 refine ld f g rfl ?_;refine Q2s m.name o ?_;cases e:B5 m.name with
 | false=>
  have j:d=false:=by rw[c,e];rfl
  (repeat refine Hd.h ?_)
  refine Eq.subst (motive:=fun b=>lp (α:=Value×Value) (Value.bool b, .int .i64 0) w1 _) j ?_;exact Q4m n a g r s t h
 | true=>
  (repeat refine Hd.h ?_)
  refine ld f g rfl ?_
  (repeat refine Hd.h ?_)
  refine K2 ?_;cases l:decide (m.result=[]) with
  | true=>
   have j:d=true:=by rw[c,e,l];rfl
   (repeat refine Hd.h ?_)
   refine Eq.subst (motive:=fun b=>lp (α:=Value×Value) (Value.bool b, .int .i64 0) w1 _) j ?_;exact Q4m n a g r s t h
  | false=>
   (repeat refine Hd.h ?_)
   refine ld f g rfl ?_
   (repeat refine Hd.h ?_)
   refine Mq m.result p ?_;have j:d=right m.result:=by rw[c,e,l];rfl
   (repeat refine Hd.h ?_)
   refine Eq.subst (motive:=fun b=>lp (α:=Value×Value) (Value.bool b, .int .i64 0) w1 _) j ?_;exact Q4m n a g r s t h)
end Go.Proofs.Y
namespace Go.Emb
theorem X3E {P:Program} {f:Value} {a:List Value} {w:World} {K b:Value->World->Prop} (h:J6 P f a w K) (c: ∀v w,K v w->b v w):J6 P f a w b:=Cz c h
end Go.Emb
namespace Go.Hm
open Go.Kd
variable {l : List Cla} {cs : List Cel} {r : Int}
def Jm (cs:List Cel) (r:Int):Nat:=(Um cs r).toNat
def D3 (l:List Cla) (cs:List Cel) (r:Int):List Nat:=(List.range (Jm cs r)).filter (P4 l (O8 cs r))
theorem X63:Um cs r=(Jm cs r:Int):=by
 unfold Jm Um
 split<;>simp
theorem Q9p {i:Nat} (h:i<cs.length):D3 l cs i=Q5j l (Xk cs i):=by
 have a:M4 cs (i:Int)=true:=W7.2 ⟨i,rfl,h⟩;have e:Xk cs i=cs[i]:=by unfold Xk;rw[List.getD_eq_getElem?_getD,List.getElem?_eq_getElem h];rfl
 unfold D3 Q5j Jm Um O8;rw[if_pos a,if_pos a,L5 h,e,Int.toNat_natCast]
def B4 (l:List Cla) (cs:List Cel) (r:Int):List Val:=(D3 l cs r).map fun (i:Nat)=>Lz cs r (i:Int)
theorem Q6w {i:Nat} (h:i<cs.length):B4 l cs i=N0 l cs i:=by
 unfold B4 N0;rw[Q9p h];refine List.map_congr_left fun j a=>?_;have e:Xk cs i=cs[i]:=by unfold Xk;rw[List.getD_eq_getElem?_getD,List.getElem?_eq_getElem h];rfl
 have b:j<cs[i].vals.length:=by
  rw[e] at a;unfold Q5j at a;exact List.mem_range.1 (List.mem_filter.1 a).1
 have hp:C9 cs (i:Int) (j:Int)=0:=by
  unfold C9;rw[if_pos (W7.2 ⟨i,rfl,h⟩),L5 h,if_pos (by omega)]
 unfold Lz;rw[if_pos hp,L5 h,e,Int.toNat_natCast]
theorem Q7H {ok:Q9->Bool} (a: ∀c∈cs,GoodC ok l cs c) {i:Nat} (b:i<Jm cs r) (e:elem (O8 cs r)=[]):i<(V0 l (O8 cs r)).length:=by
 unfold Jm Um at b
 split at b
 .rename_i f
  obtain ⟨j,rfl,d⟩:=W7.1 f;rw[L5 d] at b;rw[Qu d] at e⊢
  rcases (a _ (List.getElem_mem d)).is with h | h
  .exact absurd e h
  .rw[<-h.2];omega
 .simp at b
theorem Gy (p:Nat->Bool) (i:Nat):(List.range (i+1)).filter p=(List.range i).filter p++(if p i=true then [i] else []):=by
 rw[List.range_succ,List.filter_append]
 congr 1
 cases h:p i<;>simp[List.filter,h]
end Go.Hm
namespace Go.Proofs.Y
open Go.Emb Go.RowKit Go.Kd Go.Hm
variable {w w' : World} {K : Value -> World -> Prop} {σ σ' : Q2} {room : Int} {cs : List Cel} {hp tv : Value} {l : List Cla} {v u : Value}
theorem Q6t (hh:E2 σ hp tv room cs) {r:Int}:(O8 cs r).length<=V4:=by
 obtain ⟨a,f,rfl,e,d⟩:=hh;unfold O8
 split
 .rename_i c
  obtain ⟨i,rfl,b⟩:=W7.1 c;rw[L5 b];obtain ⟨_,_,_,h⟩:=Sl.elO d b;exact h
 .exact Nat.zero_le _
set_option maxHeartbeats 1000000 in
theorem X4T {r:Int} (D:X3 w σ) (hh:E2 σ hp tv room cs) (ht:Tab σ tv l) (ok:Ok l) (j: ∀c∈cs,GoodC V8 l cs c) (hN:Jm cs r<=1000000000000)
 (h: ∀V w' σ',Stp w σ w' σ'->Sl 1 O5 σ' V (ints (D3 l cs r))->K V w'):Q0 P F.cM [hp,I r] w K:=X1a (by
 unfold Q3Z J1 X8 X2 J9 X1;have C:=Q6t hh (r:=r);have E:=fun i (O:i<Jm cs r) f=>Q7H (ok:=V8) j O f;unfold D3 at h;refine Q0e D hh ?_;refine X0d D hh ?_;refine Q0X D ht ok.acy ok.len ok.sm fun fv w1 σ1 s hf=>?_;refine X2O s.sat (hh.lift ⟨s.le⟩) ?_;rw[X63];generalize Jm cs r=n at*;generalize O8 cs r=k at*;refine O4 n (fun i x w'=> ∃σ',Stp w1 σ1 w' σ'/\W4 w1.heap.size T.e 1 O5 σ' w' x (ints ((List.range i).filter (P4 l k)))) ⟨σ1,Stp.refl s.sat,W4.nil⟩ fun i x w2 d O o=>?_;obtain ⟨σ2,y,N⟩:=o;refine Y9 ?_;refine Q4 (fun B=>?_) (fun B=>?_)
 .have m:i<n:=by simpa using B
  have ac:((List.range i).filter (P4 l k)).length<=i:=Nat.le_trans (List.length_filter_le _ _) V5
  have Z:ints ((List.range (i+1)).filter (P4 l k))=ints ((List.range i).filter (P4 l k))++(if P4 l k i=true then [(i:Int)] else []):=by
   rw[Gy];unfold ints;rw[List.map_append]
   congr 1
   split<;>rfl
  refine Qt (fun z w'=> ∃σ',Stp w1 σ1 w' σ'/\W4 w1.heap.size T.e 1 O5 σ' w' z (ints ((List.range (i+1)).filter (P4 l k)))) ?_ (fun z dd t hz=>?_)
  .refine Q7c k (by unfold V4 at C;omega) fun t Y=>?_
   have Q:=Stp.of_below y.sat Y;have b:=y.trans Q;have p:=N.up Q;refine Jb (u:=[]) ?_
   have g: ∀q,P4 l k i=q->X0 (.bool q) (buildSlice P T.o 1 [(0,I i)] t fun L w=>U4 P .append [T.o,T.o] T.o [false,false] [x,L] w fun z w'=> ∃σ',Stp w1 σ1 w' σ'/\W4 w1.heap.size T.e 1 O5 σ' w' z (ints ((List.range (i+1)).filter (P4 l k)))) (∃σ',Stp w1 σ1 t σ'/\W4 w1.heap.size T.e 1 O5 σ' t x (ints ((List.range (i+1)).filter (P4 l k)))):=fun q A=>by
    rw[Z,A];cases q with
    | false=>exact Z0 ⟨σ2,b,by simpa using p⟩
    | true=>
     refine Z1 ?_;refine C1 (R:=O5) (sz:=1) b.sat [I i] [(i:Int)] rfl rfl (by simp;rfl) rfl ⟨⟨rfl,by omega,by omega⟩,trivial⟩ fun v4 w4 σ4 U J=>?_
     refine Vn (b.trans U) (p.up U) J (by rfl) (by simp[ints];omega) (by simp[ints];omega) fun v5 w5 _ X W _=>?_
     exact ⟨σ4,X,by simpa using W⟩
   by_cases f:elem k=[]
   .rw[decide_eq_true f,Bool.not_true]
    have e:=E i m f
    (repeat refine Hd.h ?_)
    refine Q4i (hf.up b) e fun a ha _=>?_
    (repeat refine Hd.h ?_)
    refine ld (i:=2) b.sat ha rfl ?_
    (repeat refine Hd.h ?_)
    have A:P4 l k i= !((V0 l k)[i].tr):=by
     unfold P4;rw[decide_eq_true f,Bool.not_true,Bool.false_or,List.getD_eq_getElem?_getD,List.getElem?_eq_getElem e];rfl
    exact g _ A
   .rw[decide_eq_false f,Bool.not_false]
    (repeat refine Hd.h ?_)
    exact g true (by unfold P4;rw[decide_eq_false f];rfl)
  .obtain ⟨M,b,p⟩:=hz
   (try simp only[↓M1,M1,Mb,reduceIte])
   exact Z8 Q5 m ⟨M,b,p⟩
 .have:i=n:=by simp at B;omega
  subst this;obtain ⟨M,b,H,_⟩:=N.keep y;exact h x w2 M (s.trans b) H)
theorem Y1o {v:Val} (k:X3 w σ) (hh:E2 σ hp tv room cs) (b: ∀c∈cs,GoodC V8 l cs c) (h: ∀w' σ',Stp w σ w' σ'->K (.bool (G4 cs v).isSome) w'):Q0 P F.dr [hp, .agg [I v.sort,I v.n,S v.s,I v.ref].toArray] w K:=X4g (by
 unfold Q70 J1 X6 X8 X2 J9;refine Z6 k fun q w1 σ1 a g=>?_;refine U7 ?_;refine ld (i:=0) a.sat g rfl ?_;refine E7 ?_;unfold G4 at h
 by_cases d:v.sort=4
 .rw[decide_eq_true d]
  (repeat refine Hd.h ?_)
  refine ld (i:=3) a.sat g rfl ?_
  (repeat refine Hd.h ?_)
  refine Q0e a.sat (hh.lift ⟨a.le⟩) ?_
  (repeat refine Hd.h ?_)
  refine Jb (u:=[]) ?_
  (repeat refine Hd.h ?_)
  have e:(!decide (O8 cs v.ref=[]))=(if v.sort=4/\M4 cs v.ref=true then some v.ref.toNat else none).isSome:=by
   cases j:M4 cs v.ref with
   | false=>
    rw[if_neg V5];unfold O8;rw[j];rfl
   | true=>
    rw[if_pos ⟨d,rfl⟩];obtain ⟨i,e,f⟩:=W7.1 j;rw[e,Qu f];have:=(b _ (List.getElem_mem f)).kd
    rw[decide_eq_false (by
     intro e;rw[e] at this;exact absurd this (by unfold H7;simp;exact ⟨by decide,fun h=>absurd h L7⟩))]
    rfl
  rw[e];exact h _ _ a
 .rw[decide_eq_false d]
  (repeat refine Hd.h ?_)
  rw[if_neg (fun e=>d e.1)] at h;exact h _ _ a)
theorem X6x {L:Value} {r:Int} (e:Nat->World->Q2->Prop) (f: ∀i w σ,e i w σ->X3 w σ) (k: ∀i w σ w' σ',e i w σ->Stp w σ w' σ'->e i w' σ')
 (hh:E2 σ hp tv room cs) (ht:Tab σ tv l) (ok:Ok l) (m: ∀c∈cs,GoodC V8 l cs c) (Z:Jm cs r<=1000000000000) (M:e 0 w σ)
 (j: ∀i (hi:i<(B4 l cs r).length) w1 σ1,SLe σ σ1->e i w1 σ1->J6 P L [.agg [I (B4 l cs r)[i].sort,I (B4 l cs r)[i].n,S (B4 l cs r)[i].s,I (B4 l cs r)[i].ref].toArray] w1 fun _ O=> ∃J,SLe σ1 J/\e (i+1) O J)
 (h: ∀w' σ',SLe σ σ'->e (B4 l cs r).length w' σ'->K (.tuple #[]) w'):Q0 P F.d0 [hp,I r,L] w K:=Q8r (by
 unfold Q0l;simp only[L9,D0];unfold J3 V1 X4 X1;refine X4T (f _ _ _ M) hh ht ok m Z fun sv w1 σ1 t C=>?_;refine Q6 C ?_;have V:(ints (D3 l cs r)).length=(B4 l cs r).length:=by simp[ints,B4]
 rw[V];have ac:=C.max;refine V7 (B4 l cs r).length (fun i w'=> ∃σ',SLe σ1 σ'/\e i w' σ') ⟨σ1,SLe.refl _,k _ _ _ _ _ M t⟩ fun i O d hi o=>?_;obtain ⟨J,b,y⟩:=o;have N:=f _ _ _ y;refine Y9 ?_;refine Q4 (fun z=>?_) (fun z=>?_)
 .have g:i<(B4 l cs r).length:=by simpa using z
  have B:i<(ints (D3 l cs r)).length:=by omega
  have ab:i<(D3 l cs r).length:=by simpa [B4] using g
  refine E4 (C.lift b) B fun a ds X _ Y=>?_;obtain ⟨rfl,_⟩:=Y;refine Y6 N X rfl ?_;have A:=hh.lift ((⟨t.le⟩:SLe σ σ1).more b);refine X0a N A fun w3 σ3 D=>?_;refine J5 (vs:=[_,_]) rfl ?_;refine J5 (vs:=[_,_]) rfl ?_;have W:Lz cs r (ints (D3 l cs r))[i]=(B4 l cs r)[i]:=by simp[B4,ints]
  rw[W];refine Z9 (sz:=4) D.sat rfl rfl (by simp;exact ⟨rfl,rfl,rfl,rfl⟩) fun q w4 Q E hq=>?_
  refine Z3 E.sat hq rfl ?_;have R:=k _ _ _ _ _ (k _ _ _ _ _ y D) E;have p:SLe σ1 Q:=(b.more ⟨D.le⟩).more ⟨E.le⟩;refine X3E (j i g w4 Q ((⟨t.le⟩:SLe σ σ1).more p) R) ?_;rintro _ w5 ⟨σ5,H,U⟩
  (try simp only[↓M1,M1,Mb,reduceIte])
  exact Z4 Q5 g ⟨σ5,p.more H,U⟩
 .have:i=(B4 l cs r).length:=by simp at z;omega
  subst this;exact h _ _ ((⟨t.le⟩:SLe σ σ1).more b) y)
end Go.Proofs.Y
namespace Go.Emb
variable {w w' : World} {σ : Q2} {r : Nat}
theorem K7.kp {D:Nat->Prop} {m:List (Int×Value)} (h:K7 σ w r m) (b:Kpt D w w') (a: ¬D r):K7 σ w' r m:=
 ⟨h.1,(b.block r h.lt a).symm▸h.2⟩
theorem K7.upd {b:Nat} {m:List (Int×Value)} (h:K7 σ w r m) (u:Upd w b w') (a:r≠b):K7 σ w' r m:=K7.kp (D:=fun j=>j=b) h (Kpt.of_upd u rfl) a
theorem J7.updG [Rep O5] {B b:Nat} {e:TypeId} {v:Value} {xs:List Int} (h:J7 B e 1 O5 σ w v xs) (u:Upd w b w') (a:v.ownBlock≠some b):J7 B e 1 O5 σ w' v xs:=
 h.kp (D:=fun j=>j=b) (Kpt.of_upd u rfl) fun k c e=>a (e▸c)
end Go.Emb
namespace Go.Proofs.Y
open Go.Emb Go.RowKit Go.Kd Go.Hm
variable {w w' w0 : World} {K : Value -> World -> Prop} {σ σ' σ0 : Q2} {room : Int} {cs : List Cel} {hp tv : Value} {l : List Cla} {v : Value} {bl r : Nat} {xs : List Nat}
structure RSt (w0 : World) (σ0 : Q2) (bl r : Nat) (w : World) (σ : Q2) (xs : List Nat) : Prop where
  stp : Stp w0 σ0 w σ
  gl : w0.heap.size <= bl
  gr : w0.heap.size <= r
  ne : bl ≠ r
  ex : ∃ lv m, Z7 σ w bl [lv] /\ J7 w0.heap.size T.e 1 O5 σ w lv (ints xs) /\ (∀ k, lv.ownBlock = some k -> k ≠ bl /\ k ≠ r) /\ K7 σ w r m /\ ∀ n : Int, (Qv m n).isSome = decide (n ∈ ints xs)
theorem RSt.up (R:RSt w0 σ0 bl r w σ xs) (k:Stp w σ w' σ'):RSt w0 σ0 bl r w' σ' xs:=by
 obtain ⟨f,m,a,b,c,d,e⟩:=R.ex;exact ⟨R.stp.trans k,R.gl,R.gr,R.ne,f,m,a.up k,b.up k,c,d.up k,e⟩
theorem Q7f {m:List (Int×Value)} {k n:Int} {v:Value}:Qv (Ph m k v) n=if k=n then some v else Qv m n:=by
 induction m with
 | nil=>simp[Ph,Qv]
 | cons p q d=>
  simp only[Ph]
  split
  .rename_i e
   simp only[Qv]
   split
   .rfl
   .rename_i b
    rw[if_neg (fun a:p.1=n=>b (e.symm.trans a))]
  .rename_i e
   simp only[Qv]
   split
   .rename_i a
    rw[if_neg (fun c=>e (a.trans c.symm))]
   .exact d
set_option maxHeartbeats 1000000 in
theorem X4X {qs qh:Addr} {v:Val} (R:RSt w0 σ0 bl r w σ xs) (ao:U0 σ qs [.map (some r)]) (an:U0 σ qh [hp]) (hh:E2 σ hp tv room cs) (D: ∀c∈cs,GoodC V8 l cs c) (hc:cs.length<=1048576) (hx:xs.length<=1048576)
 (h: ∀w' σ',SLe σ σ'->RSt w0 σ0 bl r w' σ' (Mi xs (G4 cs v))->K (.tuple #[]) w'):
 Q0 P F.cW [.agg [I v.sort,I v.n,S v.s,I v.ref].toArray, .pointer (some qs), .pointer (some qh), .pointer (some ⟨bl,0,none⟩)] w K:=Q7w (by
 unfold Ac;simp only[D0];unfold X6 X8;refine Z6 R.stp.sat fun q w1 σ1 d hq=>?_;have R1:=R.up d;have o:=ao.up d;have V:=an.up d;obtain ⟨Z,m,h1,h2,M,Y,h5⟩:=R1.ex;refine Y6 d.sat o rfl ?_;refine U7 ?_;refine ld (i:=3) d.sat hq rfl ?_;rw[Q96 (tz:=inferInstance) La Y.2 v.ref]
 have hb: ∃x0,(match Qv m v.ref with | some v=>Value.tuple #[v, .bool true] | none=> .tuple #[I 0, .bool false])= .tuple #[x0, .bool (decide (v.ref∈ints xs))]:=by
  have:=h5 v.ref;cases e:Qv m v.ref with
  | none=>rw[e] at this;exact ⟨I 0,by rw[<-this];rfl⟩
  | some x=>rw[e] at this;exact ⟨x,by rw[<-this];rfl⟩
 obtain ⟨x0,ex⟩:=hb;refine Eq.mpr (congrArg (fun z=>ext P z 0 w1 _) ex) ?_;refine J5 (vs:=[_,_]) rfl ?_;refine Eq.mpr (congrArg (fun z=>ext P z 1 w1 _) ex) ?_;refine J5 (vs:=[_,_]) rfl ?_;refine Y6 d.sat V rfl ?_;refine Z3 d.sat hq rfl ?_;refine Y1o d.sat (hh.lift ⟨d.le⟩) D fun w2 σ2 C=>?_;have B:=d.trans C;have b:=R1.up C;cases et:G4 cs v with
 | none=>
  rw[et] at h;simp only[Option.isSome_none]
  (repeat refine Hd.h ?_)
  refine Z0 ?_;exact h _ _ ⟨B.le⟩ b
 | some n=>
  rw[et] at h;obtain ⟨W,g,be⟩:=X1K et;simp only[Option.isSome_some]
  (repeat refine Hd.h ?_)
  by_cases f:n∈xs
  .rw[decide_eq_true (show v.ref∈ints xs by rw[g];exact List.mem_map.2 ⟨n,f,rfl⟩)]
   (repeat refine Hd.h ?_)
   refine Z0 ?_;rw[X3a f] at h;exact h _ _ ⟨B.le⟩ b
  .have al: ¬v.ref∈ints xs:=by
    rw[g];intro e;obtain ⟨y,hy,ey⟩:=List.mem_map.1 e;have:y=n:=by omega
    exact f (this▸hy)
   rw[decide_eq_false al]
   (repeat refine Hd.h ?_)
   refine Z1 ?_;rw[X12 f] at h;have U:=hq.up C;obtain ⟨Z,m,h1,h2,M,Y,h5⟩:=b.ex;refine Y6 C.sat (o.up C) rfl ?_;refine U7 ?_;refine ld (i:=3) C.sat U rfl ?_;refine Q67 La Y v.ref (I 1) fun w3 u3 ag=>?_;have S3:Stp w0 σ0 w3 σ2:=u3.stp b.stp b.gr Y.1;have E:=h1.upd u3 b.ne;have af:=h2.updG u3 fun e=>(M r e).2 rfl;refine Q4j E rfl ?_;refine U7 ?_;refine ld (i:=3) S3.sat U rfl ?_;rw[g];refine C1 (R:=O5) (sz:=1) S3.sat [I n] [(n:Int)] rfl rfl (by simp;rfl) rfl ⟨⟨rfl,by omega,by omega⟩,trivial⟩ fun v4 w4 σ4 X W=>?_
   have S4:=S3.trans X;have H:=E.up X;have L:=af.up X;have N:=ag.up X;refine Il S4.sat S4.bel.size L W (by rfl) (by simp;omega) (by simp;omega) fun v5 w5 ak ap A aj=>?_
   have t:Kpt (fun k=>Z.ownBlock=some k) w4 w5:=ak.mono fun k _ e=>e.1
   have O: ∀k,v5.ownBlock=some k->Z.ownBlock=some k\/w4.heap.size<=k:=fun k p=>by
    rcases aj with ⟨a,a9,ea,eb⟩ | ⟨_,Q⟩
    .left;rw[ea];rw[eb] at p;cases a<;>exact p
    .exact .inr (Q k p)
   have N5:Nxt (fun k=>Z.ownBlock=some k) w4 σ4 w5 σ4:=⟨t,SLe.refl _,fun _ _=>rfl,ap⟩;have S5:Stp w0 σ0 w5 σ4:=S4.nx N5 fun k p=>(L.mem p).1;have ae:=H.kp t fun e=>(M bl e).1 rfl;have ah:=K7.kp N t fun e=>(M r e).2 rfl;have a2:=H.lt;have a3:=N.lt;refine Vy (i:=0) ae V5 (by obtain ⟨a,c,rfl,_⟩:=A;rfl) (by obtain ⟨a,c,rfl,_⟩:=A;rfl) fun w6 u6 J=>?_
   have j: ∀k,v5.ownBlock=some k->k≠bl/\k≠r:=fun k p=>by
    rcases O k p with e | e
    .exact M k e
    .exact ⟨by omega,by omega⟩
   refine h w6 σ4 ((⟨B.le⟩:SLe σ σ2).more ⟨X.le⟩) ⟨u6.stp S5 b.gl J.1,b.gl,b.gr,b.ne,v5,Ph m v.ref (I 1),J,?_,j,ah.upd u6 fun e=>b.ne e.symm,fun z=>?_⟩
   .have:=A.updG u6 fun e=>(j bl e).1 rfl
    simpa using this
   .rw[Q7f,g]
    have:=h5 z
    by_cases e:(n:Int)=z
    .rw[if_pos e];simp[<-e]
    .rw[if_neg e,this]
     refine decide_eq_decide.2 ?_;simp only[List.map_append,List.map_cons,List.map_nil,List.mem_append,List.mem_singleton];exact ⟨.inl,fun h=>h.resolve_right fun e2=>e e2.symm⟩)
end Go.Proofs.Y
namespace Go.Emb
open Go.RowKit Go.Hm
variable {P : Program} {w w' : World} {K : Value -> World -> Prop} {σ : Q2}
def Ys (_:Q2) (x:UInt8) (cs:List Value):Prop:=cs=[.int .u8 (x.toNat:Int)]
instance:Rep Ys:=⟨fun _ h=>h,fun h u hu=>by rw[h] at hu;simp at hu;rw[hu];rfl⟩
def X6i (_:Q2) (x:Nat) (cs:List Value):Prop:=cs=[.int .u64 (x:Int)]/\x<18446744073709551616
instance:Rep X6i:=⟨fun _ h=>h,fun h u hu=>by rw[h.1] at hu;simp at hu;rw[hu];rfl⟩
def Bk (_:Q2) (x:Kd.Q9×Kd.Q9) (cs:List Value):Prop:=cs=[S x.1,S x.2]/\x.1.length<=V4/\x.2.length<=V4
instance:Rep Bk:=⟨fun _ h=>h,fun h u hu=>by rw[h.1] at hu;simp at hu;rcases hu with rfl | rfl<;>rfl⟩
theorem X3z (s:List UInt8):byteCells ⟨s.toArray⟩=s.map fun x=>Value.int .u8 (x.toNat:Int):=by
 simp[byteCells]
theorem Y0c {t g A:TypeId} {B:Nat} {e:TypeId} {v:Value} {xs s:List UInt8} {c:Nat} {z:Value} {cs:List Bool} [ts:TS P t e] [tz:TZ P e 1 c z] (p:P.underlying g=some .string) (o:X3 w σ) (hB:B<=w.heap.size) (i:J7 B e 1 Ys σ w v xs) (r:(z.cells.size==1&&decide (0<1))=true)
 (l:(xs.length+s.length)*c<=140737488355328) (n:xs.length+s.length<=1000000000000)
 (h: ∀f w',Kpt (fun k=>v.ownBlock=some k/\B<=k/\σ k=none) w w'->X3 w' σ->J7 B e 1 Ys σ w' f (xs++s)->((∃a d,v= .slice a xs.length d/\f= .slice a (xs.length+s.length) d)\/(Below w.heap.size w w'/\ ∀k,f.ownBlock=some k->w.heap.size<=k))->K f w'):U4 P .append [t,g] A cs [v,S s] w K:=by
 have b:=Src.ofString w p (⟨s.toArray⟩:ByteArray);rw[X3z,show (⟨s.toArray⟩:ByteArray).size=s.length by simp[ByteArray.size]] at b
 refine X5N o hB i (u:=S s) (ys:=s) (news:=s.map fun x=>Value.int .u8 (x.toNat:Int)) b (fun j y q=>?_) r l n h;obtain ⟨m,rfl⟩:=List.getElem?_eq_some_iff.1 q
 show _=_
 rw[Nat.mul_one,List.drop_eq_getElem_cons (by simpa using m)]
 simp
theorem Q9V {s d e:TypeId} {v:Value} {xs:List UInt8} [ts:TS P s e] (f:P.underlying e=some (.int .u8)) (c:P.underlying d=some .string) (o:X3 w σ) (p:Sl 1 Ys σ v xs) (h:K (S xs) w):conv P s d v w K:=by
 obtain ⟨a,b,rfl,r,t,l,m⟩:=p;unfold Emb.conv;cases a with
 | none=>
  have q:xs=[]:=List.eq_nil_of_length_eq_zero (by have:=l rfl;omega)
  subst q;rw[Y8 (run_convert_bytes_nil w s e ts.h f _ _ d c)];exact h
 | some a=>
  rw[Y8 (run_convert_bytes_back w s d e a b xs ts.h f c fun j n=>?_)]
  .exact h
  .obtain ⟨cs,g,_,k⟩:=(m a rfl).2 j xs[j] (by simp[n])
   have:=g.cell o (i:=0) (v:= .int .u8 (xs[j].toNat:Int)) (by rw[k];rfl)
   rwa [Nat.mul_one,add_zero] at this
end Go.Emb
namespace Go.Hm
set_option maxRecDepth 100000 in
theorem Y0W: ∀y:Nat,y<256->y ||| 128=y % 128+128:=by decide+kernel
theorem Q8V {α β:Type} {f:α->List β} {xs:List α} {i:Nat}:((xs.take i).flatMap f).length<=(xs.flatMap f).length:=by
 have e:xs.flatMap f=(xs.take i).flatMap f++(xs.drop i).flatMap f:=by rw[<-List.flatMap_append,List.take_append_drop]
 rw[e,List.length_append];exact Nat.le_add_right _ _
theorem X9g {a:Nat} (h:a<18446744073709551616):a ^^^ 18446744073709551615=18446744073709551615-a:=by
 have b:(BitVec.ofNat 64 a ^^^ BitVec.allOnes 64).toNat=a ^^^ 18446744073709551615:=by
  rw[BitVec.toNat_xor,BitVec.toNat_ofNat,BitVec.toNat_allOnes]
  congr 1
  exact Nat.mod_eq_of_lt h
 rw[BitVec.xor_allOnes,BitVec.toNat_not,BitVec.toNat_ofNat,Nat.mod_eq_of_lt (show a<2 ^ 64 from h)] at b
 omega
end Go.Hm
namespace Go.Proofs.Y
open Go.Emb Go.RowKit Go.Kd Go.Hm
variable {w w' w0 : World} {K : Value -> World -> Prop} {σ σ' σ0 : Q2}
theorem Q5p:P.underlying T.a8=some (.int .u64):=by kernel_rfl
theorem X1M:P.underlying T.a2=some (.int .u8):=by kernel_rfl
theorem Q9T:P.underlying T.a1=some (.int .i64):=by kernel_rfl
theorem Kb:P.underlying T.b=some .string:=by kernel_rfl
theorem Q7R {n:Nat} (h:K (.int .u8 ((n % 256:Nat):Int)) w):conv P T.a8 T.a2 (.int .u64 (n:Int)) w K:=by
 rw[Jc Q5p X1M,show IntKind.u8.wrap (n:Int)=((n % 256:Nat):Int) by simp[IntKind.wrap,IntKind.bits,IntKind.signed]]
 exact h
theorem Kg {n:Int} (h:K (.int .u64 ((Wl n:Nat):Int)) w):conv P T.e T.a8 (I n) w K:=by
 rw[Jc La Q5p,show IntKind.u64.wrap n=((Wl n:Nat):Int) by rw[IntKind.wrap_u64];unfold Wl;omega]
 exact h
theorem Y1h {t:TypeId} {b c:Operand} {y:Nat} (a:y<256) (h:K (.int .u8 ((y % 128+128:Nat):Int)) w):Z2 P .or t b c (.int .u8 (y:Int)) (.int .u8 128) w K:=by
 have e:bits .or .u8 (y:Int) 128=((y % 128+128:Nat):Int):=by
  have:=u8_or_nat y 128 a L7;rw[Y0W y a] at this;exact this
 unfold Z2;rw[Y8 (v:= .int .u8 ((y % 128+128:Nat):Int)) (w':=w) (by rw[<-e];simp[eqGuard,Go.binOp,Op.intBits,bits])]
 exact h
theorem Y0q {t:TypeId} {a b:Operand} {n:Nat} (h:K (.int .u64 ((n / 128:Nat):Int)) w):Z2 P .shr t a b (.int .u64 (n:Int)) (.int .u64 7) w K:=by
 unfold Z2;rw[Y8 (v:= .int .u64 ((n / 128:Nat):Int)) (w':=w) (by simp[eqGuard,Go.binOp,Op.shift,IntKind.bits];rw[Int.fdiv_eq_ediv_of_nonneg _ L7])]
 exact h
theorem Y0A {n:Int} (b:Qj n) (h:K (.int .u64 ((Ob n:Nat):Int)) w):Q0 P F.dv [I n] w K:=X4m (by
 obtain ⟨f,g⟩:=b;unfold Q76 X1;unfold Z2;rw[Y8 (v:=I (IntKind.i64.wrap (n*2))) (w':=w) (by simp[eqGuard,Go.binOp,Op.shift,IntKind.bits])]
 rw[Jc Q9T Q5p]
 rw[Y8 (v:=I (if 0<=n then 0 else-1)) (w':=w) (by
  simp[eqGuard,Go.binOp,Op.shift,IntKind.bits]
  rw[Int.fdiv_eq_ediv_of_nonneg _ L7]
  split<;>omega)]
 rw[Jc Q9T Q5p]
 have e: ∃a:Nat,IntKind.u64.wrap (IntKind.i64.wrap (n*2))=(a:Int)/\a<18446744073709551616/\(a:Int)=(n*2) % 18446744073709551616:=by
  refine ⟨((n*2) % 18446744073709551616).toNat,?_,by omega,by omega⟩
  rw[IntKind.wrap_u64,IntKind.wrap_i64];omega
 obtain ⟨a,d,c,i⟩:=e;rw[d]
 have key:(.int .u64 ((Ob n:Nat):Int):Value)= .int .u64 (bits .xor .u64 (a:Int) (IntKind.u64.wrap (if 0<=n then 0 else-1))):=by
  by_cases b:0<=n
  .rw[if_pos b,show IntKind.u64.wrap 0=((0:Nat):Int) from rfl,bits_xor_u64_nat a 0 c L7,Nat.xor_zero]
   unfold Ob;rw[if_pos b]
   congr 1;omega
  .rw[if_neg b,show IntKind.u64.wrap (-1)=((18446744073709551615:Nat):Int) from rfl,bits_xor_u64_nat a _ c L7,X9g c]
   unfold Ob;rw[if_neg b]
   congr 1;omega
 rw[Y8 (v:= .int .u64 ((Ob n:Nat):Int)) (w':=w) (by rw[key];simp[eqGuard,Go.binOp,Op.intBits,bits])]
 exact h)
theorem Y0z {n:Nat} (C:X3 w σ) (B:n<18446744073709551616) (h: ∀b w' σ',Stp w σ w' σ'->Sl 1 Ys σ' b (U6 n)->K b w'):Q0 P F.du [.int .u64 (n:Int)] w K:=X4l (by
 unfold Q75;refine Wv (fun x w'=> ∃(m:Nat) (p:Q9) (σ':Q2),x.1= .int .u64 (m:Int)/\m<18446744073709551616/\p.length<=20-(U6 m).length/\Stp w σ w' σ'/\W4 w.heap.size T.a2 1 Ys σ' w' x.2 p/\p++U6 m=U6 n) (fun x _=>match x.1 with | .int _ m=>m.toNat | _=>0) ⟨n,[],σ,rfl,B,by simp,Stp.refl C,W4.nil,rfl⟩ ?_
 rintro ⟨x,v⟩ d w1 ⟨m,p,σ1,q,A,l,j,c,e⟩;simp only at q c;subst q;refine T2 ?_;have k:=G6 A;have z:=X3o (v:=m);refine Q4 (fun i=>?_) (fun i=>?_)
 .have a:128<=m:=by have:=of_decide_eq_true i;omega
  refine Q7R ?_;refine Y1h Q5 ?_;rw[show m % 256 % 128=m % 128 by omega]
  rw[Q8B a] at e l k;simp only[List.length_cons] at l k;refine Un (x:=UInt8.ofNat (m % 128+128)) j c (by simp[Ys,Value.cells];omega) rfl (by rfl) (by rfl) Q5 Q5 fun s b r t u g f _=>?_
  refine Y0q ?_;exact ⟨⟨m / 128,_,t,rfl,by omega,by simp;omega,g,f,by simpa using e⟩,by simp;omega⟩
 .have a:m<128:=by have:=of_decide_eq_false i;omega
  refine Q7R ?_;rw[show m % 256=m by omega]
  rw[Q8C a] at e;refine Un (x:=UInt8.ofNat m) j c (by simp[Ys,Value.cells];omega) rfl (by rfl) (by rfl) Q5 Q5 fun s b r t u g f _=>?_
  obtain ⟨D,y,o,_⟩:=f.keep g;rw[e] at o;exact h b r D y o)
structure WrS (w0 : World) (σ0 : Q2) (bw : Nat) (w : World) (σ : Q2) (xs : Q9) : Prop where
  stp : Stp w0 σ0 w σ
  ge : w0.heap.size <= bw
  ex : ∃ lv, Z7 σ w bw [lv] /\ J7 w0.heap.size T.a2 1 Ys σ w lv xs /\ ∀ k, lv.ownBlock = some k -> k ≠ bw
variable {bw : Nat} {xs ys s : Q9} {v : Value}
theorem WrS.up (R:WrS w0 σ0 bw w σ xs) (k:Stp w σ w' σ'):WrS w0 σ0 bw w' σ' xs:=by
 obtain ⟨d,a,b,c⟩:=R.ex;exact ⟨R.stp.trans k,R.ge,d,a.up k,b.up k,c⟩
theorem WrS.end (R:WrS w0 σ0 bw w σ xs) {d n:Value} {ys:Q9} (C:Z7 σ w bw [d]) (O:J7 w0.heap.size T.a2 1 Ys σ w d xs) (E: ∀k,d.ownBlock=some k->k≠bw) {f:World} (y:Kpt (fun k=>d.ownBlock=some k/\w0.heap.size<=k/\σ k=none) w f) (z:X3 f σ) (m:J7 w0.heap.size T.a2 1 Ys σ f n (xs++ys)) (u:(∃a l,d= .slice a xs.length l/\n= .slice a (xs.length+ys.length) l)\/(Below w.heap.size w f/\ ∀k,n.ownBlock=some k->w.heap.size<=k)) {K:World->Prop}
 (h: ∀w',WrS w0 σ0 bw w' σ (xs++ys)->K w'):nilCheck P (.pointer (some ⟨bw,0,none⟩)) f fun A w=>fieldAddr P T.a9 A 0 w fun B w=>U8 P T.r B n w fun _u w=>K w:=by
 have q:Kpt (fun k=>d.ownBlock=some k) w f:=y.mono fun k _ e=>e.1
 have p: ∀k,n.ownBlock=some k->d.ownBlock=some k\/w.heap.size<=k:=fun k b=>by
  rcases u with ⟨a,l,M,N⟩ | ⟨_,r⟩
  .left;rw[M];rw[N] at b;cases a<;>exact b
  .exact .inr (r k b)
 have J:Nxt (fun k=>d.ownBlock=some k) w σ f σ:=⟨q,SLe.refl _,fun _ _=>rfl,z⟩;have L:Stp w0 σ0 f σ:=R.stp.nx J fun k b=>(O.mem b).1;have t:Z7 σ f bw [d]:=C.kp q fun e=>E bw e rfl;have Q:=C.lt;refine Q7P ?_;refine U7 ?_;refine Vy (i:=0) t V5 (by obtain ⟨a,c,rfl,_⟩:=m;rfl) (by obtain ⟨a,c,rfl,_⟩:=m;rfl) fun U H o=>?_
 have g: ∀k,n.ownBlock=some k->k≠bw:=fun k b=>by
  rcases p k b with e | e
  .exact E k e
  .omega
 exact h U ⟨H.stp L R.ge o.1,R.ge,n,o,m.kp (D:=fun j=>j=bw) (Kpt.of_upd H rfl) fun k b e=>g k b e,g⟩
theorem WrS.put (R:WrS w0 σ0 bw w σ xs) {a u:Value} (l:Z7 σ w bw [a]) (j:J7 w0.heap.size T.a2 1 Ys σ w a xs) (m: ∀k,a.ownBlock=some k->k≠bw) (o:Sl 1 Ys σ u ys) (n:(xs++ys).length<=1000000000) {K:World->Prop}
 (h: ∀w',WrS w0 σ0 bw w' σ (xs++ys)->K w'):U4 P .append [T.r,T.r] T.r [false,false] [a,u] w fun f w=>nilCheck P (.pointer (some ⟨bw,0,none⟩)) w fun g w=>fieldAddr P T.a9 g 0 w fun i w=>U8 P T.r i f w fun _u w=>K w:=by
 rw[List.length_append] at n;exact Il R.stp.sat R.stp.bel.size j o (by rfl) Q5 Q5 fun p q c e d b=>R.end l j m c e d b h
theorem WrS.putS (R:WrS w0 σ0 bw w σ xs) {a:Value} (l:Z7 σ w bw [a]) (j:J7 w0.heap.size T.a2 1 Ys σ w a xs) (m: ∀k,a.ownBlock=some k->k≠bw) (n:(xs++s).length<=1000000000) {K:World->Prop}
 (h: ∀w',WrS w0 σ0 bw w' σ (xs++s)->K w'):U4 P .append [T.r,T.b] T.r [false,false] [a,S s] w fun f w=>nilCheck P (.pointer (some ⟨bw,0,none⟩)) w fun g w=>fieldAddr P T.a9 g 0 w fun i w=>U8 P T.r i f w fun _u w=>K w:=by
 rw[List.length_append] at n;exact Y0c Kb R.stp.sat R.stp.bel.size j (by rfl) Q5 Q5 fun o p c e d b=>R.end l j m c e d b h
set_option maxHeartbeats 1000000 in
theorem Y0w {a:List Nat} (R:WrS w0 σ0 bw w σ xs) (o:Sl 1 X6i σ v a) (c:(xs++a.flatMap U6).length<=1000000000) (h: ∀w' σ',SLe σ σ'->WrS w0 σ0 bw w' σ' (xs++a.flatMap U6)->K (.tuple #[]) w'):Q0 P F.u [.pointer (some ⟨bw,0,none⟩),v] w K:=Q3d (by
 unfold Sq;simp only[Y5,X5];unfold J3 V1 X4 X1;refine Q6 o ?_;refine V7 a.length (fun i w'=> ∃σ',SLe σ σ'/\WrS w0 σ0 bw w' σ' (xs++(a.take i).flatMap U6)) ⟨σ,SLe.refl _,by simpa using R⟩ fun i w1 d Q j=>?_
 obtain ⟨σ1,f,g⟩:=j;refine Y9 ?_;refine Q4 (fun n=>?_) (fun n=>?_)
 .have b:i<a.length:=by simpa using n
  have k:=o.lift f;obtain ⟨O,J,U,L,M⟩:=k.el b;subst L;refine Y7 k b ?_;refine Y6 g.stp.sat J rfl ?_;obtain ⟨H,y,A,B⟩:=g.ex
  have r:xs++(a.take (i+1)).flatMap U6=(xs++(a.take i).flatMap U6)++U6 a[i]:=by
   rw[List.take_add_one,List.getElem?_eq_getElem b,Option.toList_some,List.flatMap_append]
   simp
  have m:((xs++(a.take i).flatMap U6)++U6 a[i]).length<=1000000000:=by
   rw[<-r];refine Nat.le_trans ?_ c;rw[List.length_append,List.length_append];exact Nat.add_le_add_left Q8V _
  refine V3 g.stp.sat ?_;refine Y3 (V:= .pointer (some ⟨bw,0,none⟩)) (fun w c=>Q7P (X9 rfl)) ?_;refine Y3 (V:= .pointer (some ((⟨bw,0,none⟩:Addr).add 0))) (fun t w c e=>by subst e;exact U7 (X9 rfl)) ?_
  refine Y3 (V:=H) (fun t w c e=>by subst e;exact Yj (i:=0) (y.up c.stp) rfl (X9 rfl)) ?_
  refine Zq (w:=w1) (σ:=σ1) (Φ:=fun σ' z=>Sl 1 Ys σ' z (U6 a[i])) (fun w c=>Y0z c.sat M fun z w' σ' D p=>Er c D p) ?_;rintro _ _ _ u W C rfl rfl rfl ⟨N,l,E⟩;refine (g.up l).put (y.up l) (A.up l) B E m fun X q=>?_;rw[<-r] at q
  (try simp only[↓M1,M1,Mb,reduceIte])
  exact Z4 o.max b ⟨N,f.more ⟨l.le⟩,q⟩
 .have e:i=a.length:=by simp at n;omega
  subst e;rw[List.take_length] at g;exact h _ _ f g)
end Go.Proofs.Y
namespace Go.Hm
open Go.Kd
theorem P2 {α:Type} {f:α->Q9} {xs:Q9} {a:List α} {i:Nat} (b:i<a.length):xs++(a.take (i+1)).flatMap f=(xs++(a.take i).flatMap f)++f a[i]:=by
 rw[List.take_add_one,List.getElem?_eq_getElem b,Option.toList_some,List.flatMap_append]
 simp
theorem Yv {α:Type} {f:α->Q9} {xs:Q9} {a:List α} {i:Nat} (c:i<a.length) {N:Nat} (b:(xs++a.flatMap f).length<=N):((xs++(a.take i).flatMap f)++f a[i]).length<=N:=by
 rw[<-P2 c];refine Nat.le_trans ?_ b;rw[List.length_append,List.length_append];exact Nat.add_le_add_left Q8V _
theorem Q5s {n:Int} (h: -9223372036854775808<=n/\n<=9223372036854775807):Ob n<18446744073709551616:=by
 unfold Ob
 split<;>omega
end Go.Hm
namespace Go.Proofs.Y
open Go.Emb Go.RowKit Go.Kd Go.Hm
variable {w w' w0 : World} {K : Value -> World -> Prop} {σ σ' σ0 : Q2} {bw : Nat} {xs ys s : Q9} {v : Value}
theorem Q3I {n:Nat} {A:Value->World->Prop} (R:WrS w0 σ0 bw w σ xs) (f:n<18446744073709551616) (e:(xs++U6 n).length<=1000000000) (h: ∀w' σ',SLe σ σ'->WrS w0 σ0 bw w' σ' (xs++U6 n)->A (.tuple #[]) w'):buildSlice P T.ak 1 [(0, .int .u64 (n:Int))] w fun g w=>Q0 P F.u [.pointer (some ⟨bw,0,none⟩),g] w fun i w=>A i w:=by
 refine C1 (R:=X6i) (sz:=1) R.stp.sat [.int .u64 (n:Int)] [n] rfl rfl (by simp;rfl) rfl ⟨⟨rfl,f⟩,trivial⟩ fun s w1 σ1 d a=>?_
 refine Y0w (R.up d) a (by simpa using e) fun j k b c=>?_
 rw[show xs++[n].flatMap U6=xs++U6 n by simp] at c
 exact h j k ((⟨d.le⟩:SLe σ σ1).more b) c
theorem X9q {c:List Int} (R:WrS w0 σ0 bw w σ xs) (m:Sl 1 O5 σ v c) (r:(xs++c.flatMap fun n=>U6 (Ob n)).length<=1000000000) (h: ∀w' σ',SLe σ σ'->WrS w0 σ0 bw w' σ' (xs++c.flatMap fun n=>U6 (Ob n))->K (.tuple #[]) w'):Q0 P F.c1 [.pointer (some ⟨bw,0,none⟩),v] w K:=Q3c (by
 unfold Sp J3 V1 X4 X1;refine Q6 m ?_;refine V7 c.length (fun i w'=> ∃σ',SLe σ σ'/\WrS w0 σ0 bw w' σ' (xs++(c.take i).flatMap fun n=>U6 (Ob n))) ⟨σ,SLe.refl _,by simpa using R⟩ fun i w1 d A g=>?_
 obtain ⟨σ1,b,k⟩:=g;refine Y9 ?_;refine Q4 (fun l=>?_) (fun l=>?_)
 .have a:i<c.length:=by simpa using l
  have j:=m.lift b;obtain ⟨z,t,B,u,q⟩:=j.el a;subst u;refine Y7 j a ?_;refine Y6 k.stp.sat t rfl ?_;refine Y0A q ?_;refine Q3I k (Q5s q) (Yv (f:=fun n=>U6 (Ob n)) a r) fun C y o p=>?_;rw[<-P2 (f:=fun n=>U6 (Ob n)) a] at p
  (try simp only[↓M1,M1,Mb,reduceIte])
  exact Z4 m.max a ⟨y,b.more o,p⟩
 .have e:i=c.length:=by simp at l;omega
  subst e;rw[List.take_length] at k;exact h _ _ b k)
theorem X81 {a:List Bool} (R:WrS w0 σ0 bw w σ xs) (o:Sl 1 Q0U σ v a) (A:(xs++a.flatMap Et).length<=1000000000) (h: ∀w' σ',SLe σ σ'->WrS w0 σ0 bw w' σ' (xs++a.flatMap Et)->K (.tuple #[]) w'):Q0 P F.bI [.pointer (some ⟨bw,0,none⟩),v] w K:=Q1U (by
 unfold He X6 J3 V1 X4 X1;refine Q6 o ?_;refine V7 a.length (fun i w'=> ∃σ',SLe σ σ'/\WrS w0 σ0 bw w' σ' (xs++(a.take i).flatMap Et)) ⟨σ,SLe.refl _,by simpa using R⟩ fun i w1 d L j=>?_
 obtain ⟨σ1,c,g⟩:=j;refine Y9 ?_;refine Q4 (fun m=>?_) (fun m=>?_)
 .have b:i<a.length:=by simpa using m
  have k:=o.lift c;obtain ⟨H,C,N,D⟩:=k.el b;subst D;refine Y7 k b ?_;refine Y6 g.stp.sat C rfl ?_;refine Qt (fun z w'=>z= .int .u8 (((if a[i] then 1 else 0:UInt8).toNat:Nat):Int)/\w'=w1) ?_ (fun z J O B=>?_)
  .cases a[i] with
   | true=>exact Z1 ⟨rfl,rfl⟩
   | false=>exact Z0 ⟨rfl,rfl⟩
  obtain ⟨rfl,rfl⟩:=B;obtain ⟨M,q,u,y⟩:=g.ex;refine Q7P ?_;refine U7 ?_;refine Yj (i:=0) q rfl ?_;refine C1 (R:=Ys) (sz:=1) g.stp.sat [.int .u8 (((if a[i] then 1 else 0:UInt8).toNat:Nat):Int)] [if a[i] then 1 else 0] rfl rfl (by simp;rfl) rfl ⟨rfl,trivial⟩ fun s Q r l n=>?_
  refine (g.up l).put (q.up l) (u.up l) y n (Yv (f:=Et) b A) fun E t=>?_;have p:WrS w0 σ0 bw E r ((xs++(a.take i).flatMap Et)++Et a[i]):=t;rw[<-P2 (f:=Et) b] at p
  (try simp only[↓M1,M1,Mb,reduceIte])
  exact Z4 o.max b ⟨r,c.more ⟨l.le⟩,p⟩
 .have e:i=a.length:=by simp at m;omega
  subst e;rw[List.take_length] at g;exact h _ _ c g)
theorem X2M {a:List Q9} (R:WrS w0 σ0 bw w σ xs) (p:Sl 1 L1 σ v a) (C:(xs++a.flatMap M3).length<=1000000000) (h: ∀w' σ',SLe σ σ'->WrS w0 σ0 bw w' σ' (xs++a.flatMap M3)->K (.tuple #[]) w'):Q0 P F.aM [.pointer (some ⟨bw,0,none⟩),v] w K:=Q1V (by
 unfold Hf X6 J3 V1 X4 X1;refine Q6 p ?_;refine V7 a.length (fun i w'=> ∃σ',SLe σ σ'/\WrS w0 σ0 bw w' σ' (xs++(a.take i).flatMap M3)) ⟨σ,SLe.refl _,by simpa using R⟩ fun i w1 d J k=>?_
 obtain ⟨σ1,j,n⟩:=k;refine Y9 ?_;refine Q4 (fun o=>?_) (fun o=>?_)
 .have b:i<a.length:=by simpa using o
  have m:=p.lift j;obtain ⟨D,E⟩:=m.elS b;refine Y7 m b ?_;refine Y6 n.stp.sat D rfl ?_;refine Oy Kb ?_;refine Kg ?_;have c:a[i].length<18446744073709551616:=by unfold V4 at E;omega
  rw[Q2u c];have l:=Yv (f:=M3) b C
  have g:(((xs++(a.take i).flatMap M3)++U6 a[i].length)++a[i]).length<=1000000000:=by
   unfold M3 at l⊢
   simpa [List.append_assoc] using l
  refine Q3I n c (by rw[List.length_append] at g;omega) fun M z q r=>?_
  obtain ⟨L,y,A,B⟩:=r.ex;refine Q7P ?_;refine U7 ?_;refine Yj (i:=0) y rfl ?_;refine r.putS y A B g fun H t=>?_
  have u:WrS w0 σ0 bw H z ((xs++(a.take i).flatMap M3)++M3 a[i]):=by
   unfold M3 at t⊢
   simpa [List.append_assoc] using t
  rw[<-P2 (f:=M3) b] at u
  (try simp only[↓M1,M1,Mb,reduceIte])
  exact Z4 p.max b ⟨z,j.more q,u⟩
 .have e:i=a.length:=by simp at o;omega
  subst e;rw[List.take_length] at n;exact h _ _ j n)
theorem X88 (e:X3 w σ) (h: ∀bw w' σ',Stp w σ w' σ'->WrS w σ bw w' σ' []->K (.pointer (some ⟨bw,0,none⟩)) w'):Q0 P F.dk [] w K:=X1j (by
 unfold Q48;refine M9 (cells:= #[.slice none 0 0]) X7 ?_;refine Sc (cs:=[.slice none 0 0]) e fun b w1 σ1 c a d=>?_;exact h b w1 σ1 a ⟨a,c,_,d,J7.of_acc W4.nil,nofun⟩)
theorem X6o (e:X3 w σ) (f:Sl 1 Ys σ v xs) (y:xs.length<=1000000000)
 (h: ∀g w',Stp w σ w' σ->J7 w.heap.size T.a2 1 Ys σ w' g xs->K g w'):Q0 P F.aN [v] w K:=Gl (by
 unfold Vt;have c:=f;obtain ⟨a,i,rfl,q,r,j,t⟩:=f;refine Q0g rfl ?_;refine Q4 (fun d=>?_) (fun d=>?_)
 .have:a=none:=by simpa using d
  have p:=j this;have n:xs=[]:=List.eq_nil_of_length_eq_zero Q5;subst n;exact h _ w (Stp.refl e) (J7.of_acc W4.nil)
 .refine Xu (R:=Ys) (sz:=1) (Stp.refl e) [] [] rfl rfl V5 (by rfl) trivial fun z w1 m l _=>?_
  refine app m l c (by rfl) (by simp only[List.length_nil];omega) (by simp only[List.length_nil];omega) fun A o u k b _=>?_
  exact h _ o k (J7.of_acc b))
theorem X7Z (R:WrS w0 σ0 bw w σ xs) (g:xs.length<=1000000000) (h: ∀d w' σ',Stp w0 σ0 w' σ'->J7 w0.heap.size T.a2 1 Ys σ' w' d xs->K d w'):Q0 P F.bv [.pointer (some ⟨bw,0,none⟩)] w K:=Q0A (by
 unfold Dt X6;obtain ⟨p,e,f,o⟩:=R.ex;refine Q7P ?_;refine U7 ?_;refine Yj (i:=0) e rfl ?_;obtain ⟨n,a,b,k,q⟩:=f.keep R.stp;refine X6o a.sat b g fun l m j c=>?_;exact h l m n (a.trans j) (c.mono a.bel.size))
theorem Y1b {r:Nat} {a:List (Int×Value)} {k n:Int} (b:K7 σ w r a) (e:(Qv a k).getD (I 0)=I n) (h:K (I n) w):lookup P T.ad (.map (some r)) (I k) false w K:=by
 rw[X5v (tz:=inferInstance) La b.2 k,e];exact h
set_option maxHeartbeats 1000000 in
theorem X2R {x:Val} {r:Nat} {D:List (Int×Value)} {num:Int->Int} (R:WrS w0 σ0 bw w σ xs) (M:K7 σ0 w0 r D) (o: ∀n,(Qv D n).getD (I 0)=I (num n)) (N:O6 σ x [I x.sort,I x.n,S x.s,I x.ref]) (b:(xs++H3 num x).length<=1000000000) (h: ∀w' σ',SLe σ σ'->WrS w0 σ0 bw w' σ' (xs++H3 num x)->K (.tuple #[]) w'):
 Q0 P F.cb [.pointer (some ⟨bw,0,none⟩), .agg [I x.sort,I x.n,S x.s,I x.ref].toArray, .map (some r)] w K:=X1l (by
 obtain ⟨_,U,J,L,V⟩:=N;unfold Q4a X6 X2;unfold H3 at b h;refine Z6 R.stp.sat fun q w1 σ1 C B=>?_;have A:=R.up C;refine U7 ?_;refine ld (i:=0) A.stp.sat B rfl ?_;refine Kg ?_;rw[<-List.append_assoc] at b;refine Q3I A (Ng _) (by rw[List.length_append] at b;omega) fun O Q p j=>?_
 have d:=B.lift p;have a:=(⟨C.le⟩:SLe σ σ1).more p;have g:=j.stp.sat;have W: ∀{ys:Q9},((xs++U6 (Wl x.sort))++ys).length<=1000000000->xs++(U6 (Wl x.sort)++ys)=(xs++U6 (Wl x.sort))++ys:=fun _=>(List.append_assoc ..).symm;refine U7 ?_;refine ld (i:=0) g d rfl ?_;refine E7 ?_
 by_cases t:x.sort=1
 .rw[decide_eq_true t]
  rw[if_pos t] at b h;refine Z1 ?_;refine U7 ?_;refine ld (i:=1) g d rfl ?_;refine C1 (R:=O5) (sz:=1) g [I x.n] [x.n] rfl rfl (by simp;rfl) rfl ⟨⟨rfl,J⟩,trivial⟩ fun s E H f e=>?_
  refine X9q (j.up f) e (by simpa using b) fun l m c k=>?_
  refine h l m ((a.more ⟨f.le⟩).more c) ?_
  simpa using k
 rw[decide_eq_false t];rw[if_neg t] at b h;refine Z0 ?_;refine E7 ?_
 by_cases u:x.sort=2
 .rw[decide_eq_true u]
  rw[if_pos u] at b h;refine Z1 ?_;refine U7 ?_;refine ld (i:=1) g d rfl ?_;refine E7 ?_;refine C1 (R:=Q0U) (sz:=1) g [.bool (decide (x.n=1))] [decide (x.n=1)] rfl rfl (by simp;rfl) rfl ⟨rfl,trivial⟩ fun s E H f e=>?_
  refine X81 (j.up f) e (by simpa using b) fun l m c k=>?_
  refine h l m ((a.more ⟨f.le⟩).more c) ?_
  simpa using k
 rw[decide_eq_false u];rw[if_neg u] at b h;refine Z0 ?_;refine E7 ?_
 by_cases y:x.sort=3
 .rw[decide_eq_true y]
  rw[if_pos y] at b h;refine Z1 ?_;refine U7 ?_;refine ld (i:=2) g d rfl ?_;refine C1 (R:=L1) (sz:=1) g [S x.s] [x.s] rfl rfl (by simp;rfl) rfl ⟨⟨rfl,L⟩,trivial⟩ fun s E H f e=>?_
  refine X2M (j.up f) e (by simpa using b) fun l m c k=>?_
  refine h l m ((a.more ⟨f.le⟩).more c) ?_
  simpa using k
 rw[decide_eq_false y];rw[if_neg y] at b h;refine Z0 ?_;refine E7 ?_
 by_cases z:x.sort=4
 .rw[decide_eq_true z]
  rw[if_pos z] at b h;refine Z1 ?_;refine U7 ?_;refine ld (i:=3) g d rfl ?_;refine Y1b (K7.up M j.stp) (o x.ref) ?_;refine Kg ?_;refine Q3I j (Ng _) b fun l m c k=>?_;refine h l m (a.more c) ?_
  simpa using k
 rw[decide_eq_false z];rw[if_neg z] at b h;refine Z0 ?_;exact h O Q a (by simpa using j))
theorem Q0L {β:Type} {xs:List (Q9×Q9)} {v f:Value} (b:β->(Q9×Q9)->Bool×β) (m:β) (a:β->World->Prop) (D:Nat->Prop) (l: ∀s w,a s w->X3 w σ) (y:a m w) (u:Sl 2 Bk σ v xs)
 (z: ∀s x cs (w1:World) (K:Value->World->Prop),x∈xs->Kpt D w w1->a s w1->Bk σ x cs->cs.length=2->(∀w',Kpt D w w'->a (b s x).2 w'->K (.bool (b s x).1) w')->J6 P f [.agg cs.toArray] w1 K)
 (h: ∀w',Kpt D w w'->a (W1 b m xs 0).2 w'->K (I (E1 (W1 b m xs 0).1)) w'):Q0 P F.l [v,f] w K:=Vx (by
 unfold Xa J3 V1 X4 X1
 ((try simp only[↓M1,M1,Mb,reduceIte]);repeat ((first | refine ld Q8 Q8 rfl ?_ | refine Y6 Q8 Q8 rfl ?_ | refine Q6 Q8 ?_);(try simp only[↓M1,M1,Mb,reduceIte])))
 refine V7 xs.length (fun n w'=>Kpt D w w'/\ ∃s,a s w'/\W1 b m xs 0=W1 b s (xs.drop n) n) ⟨Kpt.refl,m,y,rfl⟩ fun n w1 d E i=>?_;obtain ⟨t,s,i,e⟩:=i;have r:=l s w1 i
 ((try simp only[↓M1,M1,Mb,reduceIte]);repeat ((first | refine ld Q8 Q8 rfl ?_ | refine Y6 Q8 Q8 rfl ?_ | refine Q6 Q8 ?_);(try simp only[↓M1,M1,Mb,reduceIte])))
 refine Q4 (fun q=>?_) (fun q=>?_)
 .have c:n<xs.length:=by simpa using q
  refine E4 u c fun p cs A g B=>?_;refine Z3 r A g ?_;refine z s xs[n] cs w1 _ (List.getElem_mem c) t i B g fun C k j=>?_;rw[List.drop_eq_getElem_cons c] at e;simp only[W1] at e;refine Q4 (fun o=>?_) (fun o=>?_)
  .rw[o] at e
   have:=h C k;rw[e] at this;exact this j
  .rw[o] at e
   ((try simp only[↓M1,M1,Mb,reduceIte]);repeat ((first | refine ld Q8 Q8 rfl ?_ | refine Y6 Q8 Q8 rfl ?_ | refine Q6 Q8 ?_);(try simp only[↓M1,M1,Mb,reduceIte])))
   exact Z4 u.max c ⟨k,_,j,by simpa using e⟩
 .have c: ¬n<xs.length:=by simpa using q
  rw[List.drop_eq_nil_of_le Q5] at e;have:=h w1 t;rw[e] at this;exact this i)
theorem Q5N {β:Type} {xs:List (Q9×Q9)} {v f:Value} (b:β->(Q9×Q9)->Bool×β) (d:β) (a:β->World->Prop) (D:Nat->Prop) (c: ∀s w,a s w->X3 w σ) (e:a d w) (k:Sl 2 Bk σ v xs)
 (g: ∀s x cs (w1:World) (K:Value->World->Prop),x∈xs->Kpt D w w1->a s w1->Bk σ x cs->cs.length=2->(∀w',Kpt D w w'->a (b s x).2 w'->K (.bool (b s x).1) w')->J6 P f [.agg cs.toArray] w1 K)
 (h: ∀w',Kpt D w w'->a (W1 b d xs 0).2 w'->K (.bool (W1 b d xs 0).1.isSome) w'):Q0 P F.p [v,f] w K:=Ui (by
 unfold Qb X2;refine Q0L b d a D c e k g fun w1 j i=>?_
 (try simp only[↓M1,M1,Mb,reduceIte])
 rw[Be];exact h w1 j i)
theorem Q80 {xs:List (Q9×Q9)} {v f:Value} (p:(Q9×Q9)->Bool) (c:X3 w σ) (k:Sl 2 Bk σ v xs)
 (e: ∀x cs (w1:World) (K:Value->World->Prop),x∈xs->X3 w1 σ->Bk σ x cs->cs.length=2->(∀w',Below w1.heap.size w1 w'->K (.bool (p x)) w')->J6 P f [.agg cs.toArray] w1 K)
 (h: ∀w',Below w.heap.size w w'->K (I (E1 (xs.findIdx? p))) w'):Q0 P F.l [v,f] w K:=by
 refine Q0L (fun (_:Unit) x=>(p x,())) () (fun _ w'=>Below w.heap.size w w') (fun _=>False) (fun _ w' b=>c.below b) (Below.refl _ _) k (fun s x cs w1 K l g a j i d=>e x cs w1 K l (c.below a) j i fun w' b=>d w' (.of_below (bt a b)) (bt a b)) fun w' g a=>?_;rw[Xc]
 simpa using h w' a
theorem Q5t {xs:List (Q9×Q9)} {v f:Value} (p:(Q9×Q9)->Bool) (c:X3 w σ) (k:Sl 2 Bk σ v xs)
 (e: ∀x cs (w1:World) (K:Value->World->Prop),x∈xs->X3 w1 σ->Bk σ x cs->cs.length=2->(∀w',Below w1.heap.size w1 w'->K (.bool (p x)) w')->J6 P f [.agg cs.toArray] w1 K)
 (h: ∀w',Below w.heap.size w w'->K (.bool (xs.any p)) w'):Q0 P F.p [v,f] w K:=by
 refine Q5N (fun (_:Unit) x=>(p x,())) () (fun _ w'=>Below w.heap.size w w') (fun _=>False) (fun _ w' b=>c.below b) (Below.refl _ _) k (fun s x cs w1 K l g a j i d=>e x cs w1 K l (c.below a) j i fun w' b=>d w' (.of_below (bt a b)) (bt a b)) fun w' g a=>?_;rw[Xc]
 simpa using h w' a
end Go.Proofs.Y
namespace Go.Hm
open Go.Kd
variable {tq : Val -> Option Nat} {xs : List Nat} {vs : List Val}
theorem Q68 {j:Nat} (a:j<vs.length):Ym tq xs (vs.take (j+1))=Mi (Ym tq xs (vs.take j)) (tq vs[j]):=by
 unfold Ym;rw[List.take_add_one,List.getElem?_eq_getElem a,Option.toList_some,List.foldl_append];rfl
theorem Q7n {n:Nat} (c: ∀p x,tq p=some x->x<n) (a:xs.Nodup) (b: ∀x∈xs,x<n):(Ym tq xs vs).length<=n:=
 X0V (Pg vs a) fun x d=>by
  rcases (Ik vs).1 d with h | ⟨p,_,h⟩
  .exact b x h
  .exact c p x h
end Go.Hm
namespace Go.Proofs.Y
open Go.Emb Go.RowKit Go.Kd Go.Hm
variable {w w' : World} {K : Value -> World -> Prop} {σ σ' : Q2} {room : Int} {cs : List Cel} {hp tv : Value} {l : List Cla} {v : Value} {bl r : Nat}
set_option maxHeartbeats 2000000 in
theorem X86 {v:Val} (hs:X3 w σ) (hh:E2 σ hp tv room cs) (ht:Tab σ tv l) (ok:Ok l) (f: ∀c∈cs,GoodC V8 l cs c) (hc:cs.length<=1048576) (hN: ∀r,Jm cs r<=1000000000000)
 (h: ∀v' w' σ',Stp w σ w' σ'->Sl 1 O5 σ' v' (ints (I6 l cs v))->K v' w'):Q0 P F.d8 [hp, .agg [I v.sort,I v.n,S v.s,I v.ref].toArray] w K:=Q9D (by
 unfold Q2E;simp only[Y5,X5,L9];unfold V1 X4 X1;obtain ⟨ah,eh⟩: ∃a,hp= .pointer (some a):=by obtain ⟨a,_,e,_⟩:=hh;exact ⟨a,e⟩
 refine L6 hs (by rw[eh];rfl) fun qh w1 σ1 k1 O=>?_
 refine Z6 k1.sat fun qv w2 σ2 k2 W=>?_;refine E5 k2.sat fun bl w3 σ3 an Z A=>?_;refine X31 Z.sat fun r w4 hr E N=>?_;refine W8 E.sat rfl rfl rfl fun qs w5 σ5 C U=>?_;refine Q0S ?_;have B:=k1.trans k2;have S3:=B.trans Z;have S5:=(S3.trans E).trans C;refine Z3 C.sat (((W.up Z).up E).up C) rfl ?_;have br:=A.lt;have R0:RSt w σ bl r w5 σ5 []:=⟨S5,Nat.le_trans B.bel.size an,Nat.le_trans S3.bel.size hr,by omega,_,[],(A.up E).up C,J7.of_acc W4.nil,nofun,N.up C,fun n=>rfl⟩
 have g:=(((O.up k2).up Z).up E).up C;have y:=hh.lift ⟨S5.le⟩;have aw:=ht.lift ⟨S5.le⟩;clear k1 k2 Z E C B S3 W A N O;refine J8 (first:=[]) (caps:=[.pointer (some qs), .pointer (some qh), .pointer (some ⟨bl,0,none⟩)]) ?_
 refine X4X R0 U g y f hc V5 fun w6 σ6 a0 R6=>?_;refine V7 cs.length (fun i w'=> ∃σ',SLe σ6 σ'/\RSt w σ bl r w' σ' (L2 (N0 l cs) (G4 cs) v i)) ⟨σ6,SLe.refl _,R6⟩ fun i w7 d hi L=>?_;obtain ⟨σ7,aa,R7⟩:=L;have b:=a0.more aa;have s7:=R7.stp.sat;obtain ⟨lv,m,h1,h2,h3,h4,h5⟩:=R7.ex;refine Q4j h1 rfl ?_;refine Rw h2 ?_;refine Y9 ?_;have a4:=Iu (out:=N0 l cs) (tq:=G4 cs) (v:=v) Mt i;have M:=Ae (out:=N0 l cs) (tq:=G4 cs) (v:=v) Mt i;refine Q4 (fun q=>?_) (fun q=>?_)
 .have z:i<(L2 (N0 l cs) (G4 cs) v i).length:=by simpa [ints] using q
  have ay:=M _ (List.getElem_mem z)
  have av:L2 (N0 l cs) (G4 cs) v (i+1)=Ym (G4 cs) (L2 (N0 l cs) (G4 cs) v i) (N0 l cs (L2 (N0 l cs) (G4 cs) v i)[i]):=by
   rw[L2,List.getElem?_eq_getElem z]
  obtain ⟨σf,sf,a2,Y,ar⟩:=h2.freeze s7;have J:i<(ints (L2 (N0 l cs) (G4 cs) v i)).length:=by simpa [ints] using z
  obtain ⟨ds,e1,e2,e3⟩:=Y.el J;obtain ⟨rfl,_⟩:=e3;have ex:(ints (L2 (N0 l cs) (G4 cs) v i))[i]=(((L2 (N0 l cs) (G4 cs) v i)[i]:Nat):Int):=by simp[ints]
  rw[ex] at e1;have Q:=(g.lift b).lift a2;have ak:Z7 σf w7 bl [lv]:=⟨(ar bl fun e=>(h3 bl e.symm).1 rfl).trans h1.1,h1.2⟩;refine V3 sf ?_;refine Y3 (V:=hp) (fun w p=>Y6 p.sat (Q.up p.stp) rfl (X9 rfl)) ?_;refine Y3 (V:=lv) (fun w p=>Q4j (ak.up p.stp) rfl (X9 rfl)) ?_;refine Y3 (V:= .pointer (some (K4 1 lv i))) (fun t w p e=>by subst e;exact Y7 (Y.up p.stp) J (X9 rfl)) ?_
  refine Y3 (V:=I ((L2 (N0 l cs) (G4 cs) v i)[i]:Nat)) (fun t w p e=>by subst e;exact Y6 p.sat (e1.up p.stp) rfl (X9 rfl)) ?_
  rintro _ _ _ _ w8 am rfl rfl rfl rfl;have k8:=Stp.of_below s7 am.stp.bel;have R8:=R7.up k8;generalize hX:L2 (N0 l cs) (G4 cs) v i=X at*;have eo:B4 l cs ((X[i]:Nat):Int)=N0 l cs X[i]:=Q6w ay;have aq:X.Nodup:=by rw[<-hX];exact Mo i
  refine X6x (l:=l) (cs:=cs) (tv:=tv) (room:=room) (σ:=σ7) (fun j w' σ'=>SLe σ7 σ'/\RSt w σ bl r w' σ' (Ym (G4 cs) X ((N0 l cs X[i]).take j))) (fun _ _ _ R=>R.2.stp.sat) (fun _ _ _ _ _ R k=>⟨R.1.more ⟨k.le⟩,R.2.up k⟩) (y.lift b) (aw.lift b) ok f (hN _) ⟨SLe.refl _,R8⟩ (fun j hj w9 σ9 a1 D=>?_) (fun w9 σ9 a1 D=>?_)
  .have ap:j<(N0 l cs X[i]).length:=by rw[<-eo];exact hj
   have ev:(B4 l cs ((X[i]:Nat):Int))[j]=(N0 l cs X[i])[j]:=by simp only[eo]
   rw[ev];refine J8 (first:=[]) (caps:=[.pointer (some qs), .pointer (some qh), .pointer (some ⟨bl,0,none⟩)]) ?_
   have o:=b.more D.1;refine X4X D.2 (U.lift o) (g.lift o) (y.lift o) f hc (Nat.le_trans (Q7n Mt aq M) hc) fun wA σA ab RA=>⟨σA,ab,D.1.more ab,?_⟩;rw[Q68 ap];exact RA
  ·(try simp only[↓M1,M1,Mb,reduceIte])
   refine Z4 Q5 Q5 ⟨σ9,aa.more D.1,?_⟩;rw[av];have:=D.2
   rwa [eo,List.take_length] at this
 .have H:(L2 (N0 l cs) (G4 cs) v i).length<=i:=by simp[ints] at q;omega
  refine Q4j h1 rfl ?_;obtain ⟨σ8,S8,ax,_⟩:=h2.keep R7.stp;refine h lv w7 σ8 S8 ?_;unfold I6;rw[Q2p H hi];exact ax)
def VB (v:Val):Prop:=Qj v.sort/\Qj v.n/\v.s.length<=V4/\Qj v.ref
theorem Q8D:VB Val.zero:=⟨by decide,by decide,by decide,by decide⟩
theorem X7S (hh:E2 σ hp tv room cs) {c:Cel} (d:c∈cs) {x:Val} (g:x∈c.vals):VB x:=by
 obtain ⟨a,m,rfl,k,h⟩:=hh;obtain ⟨i,e,rfl⟩:=List.mem_iff_getElem.1 d;obtain ⟨n,_,b,_⟩:=Sl.elO h e;obtain ⟨j,f,rfl⟩:=List.mem_iff_getElem.1 g;exact (Sl.elV b f).2.2
theorem Y0g (hh:E2 σ hp tv room cs) {r:Int} {x:Val} (c:x∈B4 l cs r):VB x:=by
 unfold B4 at c;obtain ⟨i,_,rfl⟩:=List.mem_map.1 c;unfold Lz
 split
 .rename_i a
  unfold C9 at a
  split at a
  .rename_i d
   obtain ⟨j,rfl,b⟩:=W7.1 d;rw[L5 b] at a⊢;rw[List.getD_eq_getElem?_getD];cases e:cs[j].vals[((i:Nat):Int).toNat]? with
   | none=>exact Q8D
   | some y=>exact X7S hh (List.getElem_mem b) (List.mem_of_getElem? e)
  .exact absurd a L7
 .exact Q8D
theorem Q5d {x:Nat} (h:x<cs.length):O8 cs (x:Int)=Ed cs x:=by
 rw[Qu h];unfold Ed Xk;rw[List.getD_eq_getElem?_getD,List.getElem?_eq_getElem h];rfl
theorem X7T {t e:TypeId} {n sz b:Nat} {z:Value} [ta:TA P t n e] [tz:TZ P e sz b z] {a:Addr} {k:Nat} (c:k<n) (h:K (.pointer (some (a.add (k*sz)))) w):indexAddr P t (.pointer (some a)) (I k) w K:=by
 rw[X0H Q5 Q5]
 simpa using h
theorem Ky {xs:List Nat} {v:Value} {i:Nat} (j:X3 w σ) (h:Sl 1 O5 σ v (ints xs)) (f:i<xs.length) (g:K (I (xs[i]:Nat)) w):indexAddr P T.o v (I i) w fun t w=>Q7 P T.e t w K:=by
 have b:i<(ints xs).length:=by simpa using f
 refine E4 h b fun a k c _ d=>?_;obtain ⟨rfl,_⟩:=d;refine Y6 j c rfl ?_;have e:(ints xs)[i]=((xs[i]:Nat):Int):=by simp
 rw[e];exact g
theorem Q7b {v:Value} {xs:List Nat} {i:Nat} (h:Sl 1 O5 σ v (ints xs)) (b:i<xs.length):U0 σ (K4 1 v i) [I (xs[i]:Nat)]:=by
 obtain ⟨cs,a,_,rfl,_⟩:=h.el (show i<(ints xs).length by simpa using b)
 have e:(ints xs)[i]'(by simpa using b)=((xs[i]:Nat):Int):=by simp
 rw[e] at a;exact a
end Go.Proofs.Y
namespace Go.Hm
open Go.Kd
structure Alike (l m : List Cla) : Prop where
  lk : lk l = lk m
  len : l.length = m.length
  weigh : weigh l [] = weigh m []
section
variable {l m : List Cla} (h : Alike l m)
include h
end
theorem X8Q {l:List Cla} {frm:Nat}: ∀(f:Nat) (out:List Nat) (i:Nat),∀y∈Zc l frm f out i,y∈out\/frm<=y:=by
 intro f
 induction f with
 | zero=>intro out i y hy;exact .inl hy
 | succ f c=>
  intro out i y hy;simp only[Zc] at hy
  split at hy
  .exact .inl hy
  .split at hy
   .exact .inl hy
   .rename_i d _
    rcases List.mem_append.1 hy with hy | hy
    .exact Dp (p:=fun y=>frm<=y) _ _ (fun b x _ z a=>c b _ z a) y hy
    .simp at hy;omega
theorem X71 {a:List Cla} (g:Yr a): ∀j∈O9 a 8,8<=j/\j<a.length:=by
 intro j c;unfold O9 at c;have e:=Dp (p:=fun y=>8<=y) _ _ (fun b x _ z d=>X8Q _ b x z d) j c
 have f:=Dp (p:=fun y=>y<a.length) _ _ (fun b x i z d=>(X10 g (by omega) _ b x (by
  have:=List.mem_of_mem_drop i
  simpa using this) z d).imp id (·.1)) j c
 exact ⟨e.resolve_left (by simp),f.resolve_left (by simp)⟩
end Go.Hm
namespace Go.Proofs.Y
open Go.Emb Go.RowKit Go.Kd Go.Hm
end Go.Proofs.Y
namespace Go.Proofs.Y
open Go.Emb Go.RowKit Go.Kd Go.Hm
variable {w : World} {K : Value -> World -> Prop} {σ : Q2} {l : List Cla}
theorem X6q {v:Value} {n:Q9} (b:X3 w σ) (c:Tab σ v l) (ok:Ok l) (a:n.length<=V4) (h: ∀w' d,Stp w σ w' d->K (S (E3 l n)) w'):Q0 P F.ak [v,S n] w K:=
 X85 ok _ (.inr (Nat.lt_succ_self _)) a b c h
end Go.Proofs.Y
namespace Go.Hm
open Go.Kd Go.Emb
def Av (rs:List Nat) (n:Int):Option Value:=(rs.findIdx? fun (x:Nat)=>decide ((x:Int)=n)).map fun i=>I (i:Nat)
theorem X6V {rs:List Nat} {n:Int}:(Av rs n).getD (I 0)=I (Q1H rs n):=by
 unfold Av Q1H;cases rs.findIdx? fun (x:Nat)=>decide ((x:Int)=n)<;>rfl
theorem X6U {n:Int}:Av [] n=none:=rfl
theorem X5C {rs:List Nat} {n:Int}:(Av rs n).isSome=decide (n∈ints rs):=by
 unfold Av;rw[Option.isSome_map,List.findIdx?_isSome,Bool.eq_iff_iff]
 simp[List.any_eq_true]
theorem X5B {rs:List Nat} {x:Nat} {n:Int} (h:x∉rs):Av (rs++[x]) n=if (x:Int)=n then some (I (rs.length:Nat)) else Av rs n:=by
 unfold Av;rw[List.findIdx?_append]
 by_cases e:(x:Int)=n
 .have:(rs.findIdx? fun (y:Nat)=>decide ((y:Int)=n))=none:=by
   rw[List.findIdx?_eq_none_iff];intro y a
   simp
   intro b;have:y=x:=by omega
   exact h (this▸a)
  rw[this,if_pos e]
  simp[e]
 .rw[if_neg e]
  simp[e]
variable {l : List Cla} {cs : List Cel} {vs : List Val} {rs : List Nat}
theorem Q69 {i:Nat} (a:i<vs.length):L4 l cs (vs.take (i+1))=F0 (L4 l cs (vs.take i)) (I6 l cs vs[i]):=by
 unfold L4;rw[List.take_add_one,List.getElem?_eq_getElem a,Option.toList_some,List.foldl_append];rfl
theorem Q0R {xs:List Nat} (a:xs.Nodup) (h: ∀x∈xs,x<cs.length):xs.length<=cs.length:=I0 _ _ a h
theorem X36 {v:Val} {b:List Val} {j:Nat}:(F0 (L4 l cs b) ((I6 l cs v).take j)).length<=cs.length:=Q0R (Q3E Fz) fun x a=>by
 rcases Ib.1 a with h | h
 .exact Eg h
 .exact Q2r (List.mem_of_mem_take h)
theorem Q66 {i:Nat} (a:i<rs.length):U5 cs (rs.take (i+1))=Yb (U5 cs (rs.take i)) (Ed cs rs[i]):=by
 unfold U5;rw[List.map_take,List.map_take,Aj (by simpa using a)]
 simp
theorem Rn: ∀{rs:List Nat},(U5 cs rs).length<=rs.length:=by
 have: ∀(xs o:List Q9),(F0 o xs).length<=o.length+xs.length:=by
  intro xs
  induction xs with
  | nil=>intro o;simp[F0]
  | cons x xs a=>
   intro o;have:=a (Yb o x);have b:(Yb o x).length<=o.length+1:=by unfold Yb;split<;>simp
   show (F0 (Yb o x) xs).length<=_
   simp only[List.length_cons];omega
 intro rs;have:=this (rs.map (Ed cs)) []
 simpa [U5] using this
end Go.Hm
namespace Go.Proofs.Y
open Go.Emb Go.RowKit Go.Kd Go.Hm
variable {w w' w0 : World} {K : Value -> World -> Prop} {σ σ' σ0 : Q2} {room : Int} {cs : List Cel} {hp tv : Value} {l : List Cla} {r : Nat} {refs : List Nat}
theorem Y1a {b:List (Int×Value)} {k:Int} {A:Value->World->Prop} (d:K7 σ w r b) (h:A (.bool (Qv b k).isSome) w):lookup P T.ad (.map (some r)) (I k) true w fun a w=>ext P a 0 w fun _t33 w=>ext P a 1 w fun c w=>A c w:=by
 rw[Q96 (tz:=inferInstance) La d.2 k];cases e:Qv b k with
 | none=>
  rw[e] at h;refine J5 (vs:=[_,_]) rfl ?_;refine J5 (vs:=[_,_]) rfl ?_;exact h
 | some v=>
  rw[e] at h;refine J5 (vs:=[_,_]) rfl ?_;refine J5 (vs:=[_,_]) rfl ?_;exact h
structure QSt (w0 : World) (σ0 : Q2) (r : Nat) (w : World) (σ : Q2) (lv : Value) (xs : List Nat) : Prop where
  stp : Stp w0 σ0 w σ
  gr : w0.heap.size <= r
  acq : J7 w0.heap.size T.e 1 O5 σ w lv (ints xs)
  ne : ∀ k, lv.ownBlock = some k -> k ≠ r
  ex : ∃ m, K7 σ w r m /\ ∀ n : Int, Qv m n = Av xs n
theorem QSt.up {a:Value} (R:QSt w0 σ0 r w σ a refs) (k:Stp w σ w' σ'):QSt w0 σ0 r w' σ' a refs:=by
 obtain ⟨m,b,c⟩:=R.ex;exact ⟨R.stp.trans k,R.gr,R.acq.up k,R.ne,m,b.up k,c⟩
set_option maxHeartbeats 1000000 in
theorem X0g {vs:List Val} {v:Value} (hs:X3 w σ) (hh:E2 σ hp tv room cs) (ht:Tab σ tv l) (ok:Ok l) (H: ∀c∈cs,GoodC V8 l cs c) (hc:cs.length<=1048576) (hN: ∀r,Jm cs r<=1000000000000) (hv:Sl 4 O6 σ v vs)
 (h: ∀v' r mm w' σ',Stp w σ w' σ'->Sl 1 O5 σ' v' (ints (L4 l cs vs))->K7 σ' w' r mm->(∀n,Qv mm n=Av (L4 l cs vs) n)->K (.tuple #[v', .map (some r)]) w'):Q0 P F.cP [hp,v] w K:=X1k (by
 unfold Q49;simp only[L9,D0];unfold J3 X4 X2 X1;refine X31 hs fun r w1 hr k1 am=>?_;refine Q6 hv ?_;refine O4 vs.length (fun i U w'=> ∃σ',QSt w σ r w' σ' U (L4 l cs (vs.take i))) ⟨σ,k1,hr,J7.of_acc W4.nil,nofun,[],am,fun n=>by simp[L4,X6U,Qv]⟩ fun i U w2 d hi o=>?_
 obtain ⟨σ2,f⟩:=o;refine Y9 ?_;refine Q4 (fun A=>?_) (fun A=>?_)
 .have p:i<vs.length:=by simpa using A
  have C:=hv.up f.stp;obtain ⟨p1,p2⟩:=Sl.elV C p;refine Y7 C p ?_;refine Z3 f.stp.sat p1 rfl ?_;refine Z9 (sz:=4) f.stp.sat rfl rfl (Rep.one p2) fun qv w3 σ3 Q O=>?_;refine Z3 Q.sat O rfl ?_;have S3:=f.stp.trans Q;refine X86 Q.sat (hh.lift ⟨S3.le⟩) (ht.lift ⟨S3.le⟩) ok H hc hN fun rv w4 V k4 hX=>?_;have R4:=(f.up Q).up k4;have an: ∀j,(F0 (L4 l cs (vs.take i)) ((I6 l cs vs[i]).take j)).length<=cs.length:=fun j=>X36;have aj: ∀x∈I6 l cs vs[i],x<cs.length:=fun x hx=>Q2r hx;have bo:(I6 l cs vs[i]).length<=cs.length:=X1p;have et:=Q69 (l:=l) (cs:=cs) p;generalize I6 l cs vs[i]=X at*;have af:(ints X).length=X.length:=by simp
  clear f Q k4 O S3 p1 p2 C;refine Q6 hX ?_;rw[af];refine O4 X.length (fun j U w'=> ∃σ',SLe V σ'/\QSt w σ r w' σ' U (F0 (L4 l cs (vs.take i)) (X.take j))) ⟨V,SLe.refl _,by simpa [F0] using R4⟩ fun j s w5 d2 hj o=>?_
  obtain ⟨σ5,D,b⟩:=o;refine Y9 ?_;refine Q4 (fun u=>?_) (fun u=>?_)
  .have q:j<X.length:=by simpa using u
   refine Qt (fun ax w'=> ∃σ',SLe V σ'/\QSt w σ r w' σ' ax (F0 (L4 l cs (vs.take i)) (X.take (j+1)))) ?_ (fun z dd w6 hz=>?_)
   .have a6:=an j
    have bq:=aj _ (List.getElem_mem q);rw[Aj q];generalize F0 (L4 l cs (vs.take i)) (X.take j)=Y at*;have s5:=b.stp.sat;refine Ky s5 (hX.lift D) q ?_;obtain ⟨m,E,W⟩:=b.ex;refine Y1a E ?_;rw[W,X5C];refine Nj ?_
    have t:((X[j]:Nat):Int)∈ints Y↔X[j]∈Y:=⟨fun e=>by
     obtain ⟨y,hy,ey⟩:=List.mem_map.1 e;have ey:y=X[j]:=by omega
     exact ey▸hy,fun e=>List.mem_map.2 ⟨_,e,rfl⟩⟩
    by_cases g:X[j]∈Y
    .rw[decide_eq_true (t.2 g),Bool.not_true]
     refine Z0 ?_;rw[Yb,if_pos g];exact ⟨σ5,D,b⟩
    .rw[decide_eq_false (fun e=>g (t.1 e)),Bool.not_false]
     refine Z1 ?_;rw[Yb,if_neg g];have ag:(ints Y).length=Y.length:=by simp
     refine Rw b.acq ?_;rw[ag];refine Q67 La E _ _ fun w6 u6 ah=>?_;have S6:Stp w σ w6 σ5:=u6.stp b.stp b.gr E.1;have A6:=b.acq.updG u6 fun e=>b.ne r e rfl;refine C1 (R:=O5) (sz:=1) S6.sat [I (X[j]:Nat)] [((X[j]:Nat):Int)] rfl rfl (by simp;rfl) rfl ⟨⟨rfl,by omega,by omega⟩,trivial⟩ fun v7 w7 σ7 Z av=>?_
     have S7:=S6.trans Z;have J:=ah.up Z;have A7:=A6.up Z;refine Il S7.sat S7.bel.size A7 av (by rfl) (by simp;omega) (by simp;omega) fun v8 w8 al ap ao ak=>?_
     have M:Kpt (fun k=>s.ownBlock=some k) w7 w8:=al.mono fun k _ e=>e.1
     have L: ∀k,v8.ownBlock=some k->s.ownBlock=some k\/w7.heap.size<=k:=fun k B=>by
      rcases ak with ⟨a,ad,ea,eb⟩ | ⟨_,N⟩
      .left
       have ae:s= .slice a _ ad:=ea;rw[ae];rw[eb] at B;cases a<;>exact B
      .exact .inr (N k B)
     have N8:Nxt (fun k=>s.ownBlock=some k) w7 σ7 w8 σ7:=⟨M,SLe.refl _,fun _ _=>rfl,ap⟩;have S8:Stp w σ w8 σ7:=S7.nx N8 fun k B=>(A7.mem B).1;have ai:=K7.kp J M fun e=>b.ne r e rfl;have a5:=J.lt;refine ⟨σ7,D.more ⟨Z.le⟩,S8,b.gr,by simpa using ao,fun k B=>?_,_,ai,fun n=>?_⟩
     .rcases L k B with e | e
      .exact b.ne k e
      .omega
     .rw[Q7f,W,X5B g]
   .obtain ⟨σ6,aw,R6⟩:=hz
    (try simp only[↓M1,M1,Mb,reduceIte])
    exact Z8 Q5 q ⟨σ6,aw,R6⟩
  .have e:j=X.length:=by simp at u;omega
   subst e;rw[List.take_length,<-et] at b
   (try simp only[↓M1,M1,Mb,reduceIte])
   exact Z8 hv.max p ⟨σ5,b⟩
 .have e:i=vs.length:=by simp at A;omega
  subst e;rw[List.take_length] at f;obtain ⟨m,E,W⟩:=f.ex;obtain ⟨V,S4,ar,b0,o4⟩:=f.acq.keep f.stp;refine h U r m w2 V S4 ar ⟨(o4 r fun e=>f.ne r e.symm rfl).trans E.1,E.2⟩ W)
end Go.Proofs.Y
namespace Go.Hm
open Go.Kd Go.Emb
def Xb (l:List Cla) (a:List Q9):List (Q9×Q9):=a.map fun k=>(k,E3 l k)
end Go.Hm
namespace Go.Proofs.Y
open Go.Emb Go.RowKit Go.Kd Go.Hm
variable {w w' : World} {K : Value -> World -> Prop} {σ σ' : Q2} {room : Int} {cs : List Cel} {hp tv : Value} {l : List Cla} {refs : List Nat}
theorem X41 {x:Q9×Q9} {q:Addr} (b:X3 w σ) (a:U0 σ q [S x.1,S x.2]) (h:K (S x.1) w):indexAddr P T.aa (.pointer (some q)) (.int .i64 0) w fun t w=>Q7 P T.b t w K:=by
 refine X7T (k:=0) L7 ?_;refine ld (i:=0) b a rfl ?_;exact h
theorem X9X {x:Q9×Q9} {q:Addr} (b:X3 w σ) (a:U0 σ q [S x.1,S x.2]) (h:K (S x.2) w):indexAddr P T.aa (.pointer (some q)) (.int .i64 1) w fun t w=>Q7 P T.b t w K:=by
 refine X7T (k:=1) L7 ?_;refine ld (i:=1) b a rfl ?_;exact h
theorem Q6P {x:Q9×Q9} {k:Q9} {cs:List Value} {b:Addr} (e:X3 w σ) (f:Bk σ x cs) (c:U0 σ b [S k]) (h: ∀w',Below w.heap.size w w'->K (.bool (decide (x.1=k))) w'):Q0 P F.cX [.agg cs.toArray, .pointer (some b)] w K:=Q7x (by
 obtain ⟨rfl,_⟩:=f;unfold Ad J3 X1;refine Z6 e fun q w1 σ1 a d=>?_;refine X41 a.sat d ?_;refine Y6 a.sat (c.up a) rfl ?_;refine K2 ?_;exact h _ a.bel)
theorem Q82 {x:Q9×Q9} {k:Q9} {cs:List Value} {b:Addr} (e:X3 w σ) (f:Bk σ x cs) (c:U0 σ b [S k]) (h: ∀w',Below w.heap.size w w'->K (.bool (decide (x.1=k))) w'):Q0 P F.d5 [.agg cs.toArray, .pointer (some b)] w K:=Q8t (by
 obtain ⟨rfl,_⟩:=f;unfold Q0n J3 X1;refine Z6 e fun q w1 σ1 a d=>?_;refine X41 a.sat d ?_;refine Y6 a.sat (c.up a) rfl ?_;refine K2 ?_;exact h _ a.bel)
theorem X9m {a b:Q9}:P.built T.aa [(0,S a),(1,S b)]=some #[S a,S b]:=by kernel_rfl
set_option maxHeartbeats 1000000 in
theorem X0f {v:Value} (hs:X3 w σ) (hh:E2 σ hp tv room cs) (ht:Tab σ tv l) (ok:Ok l) (hc:cs.length<=1048576) (O: ∀k,(E3 l k).length<=V4) (hv:Sl 1 O5 σ v (ints refs)) (hr: ∀x∈refs,x<cs.length) (hn:refs.length<=cs.length)
 (h: ∀B w' σ',Stp w σ w' σ'->Sl 2 Bk σ' B (Xb l (U5 cs refs))->K B w'):Q0 P F.cD [hp,v] w K:=Q9J (by
 unfold Q2K;simp only[Y5,X5,N2,L9];unfold J3 X4 X2 X1;have J:(ints refs).length=refs.length:=by simp
 refine Q6 hv ?_;rw[J];refine O4 refs.length (fun i m w'=> ∃σ',Stp w σ w' σ'/\J7 w.heap.size T.aa 2 Bk σ' w' m (Xb l (U5 cs (refs.take i)))) ⟨σ,Stp.refl hs,J7.of_acc W4.nil⟩ fun i m w2 d hi o=>?_;obtain ⟨σ2,f,C⟩:=o;refine Y9 ?_;refine Q4 (fun j=>?_) (fun j=>?_)
 .have b:i<refs.length:=by simpa using j
  refine Qt (fun m w'=> ∃σ',Stp w σ w' σ'/\J7 w.heap.size T.aa 2 Bk σ' w' m (Xb l (U5 cs (refs.take (i+1))))) ?_ (fun z dd w6 hz=>?_)
  .have s:=hr _ (List.getElem_mem b)
   have aw:(U5 cs (refs.take i)).length<=refs.length:=Nat.le_trans Rn (by simp;omega)
   rw[Q66 b];generalize U5 cs (refs.take i)=ks at*;refine Ky f.sat (hv.up f) b ?_;refine Q0e f.sat (hh.lift ⟨f.le⟩) ?_
   have q:(Ed cs refs[i]).length<=V4:=by
    rw[<-Q5d s];exact Q6t hh
   rw[Q5d s];generalize Ed cs refs[i]=k at*;refine W8 f.sat rfl rfl rfl fun qk w3 σ3 k3 A=>?_;refine Q0S ?_;have D:=f.trans k3;have A3:=C.up k3;obtain ⟨σf,sf,ac,Z,_⟩:=A3.freeze D.sat;refine Q5t (fun x=>decide (x.1=k)) sf Z (fun x cs w4 K hx s4 hR hl hK=>?_) fun w4 L=>?_
   .refine J8 (first:=[]) (caps:=[.pointer (some qk)]) ?_
    exact Q6P s4 hR (A.lift ac) hK
   have k4:=Stp.of_below D.sat L;have g:=D.trans k4;have A4:=A3.up k4;refine Nj ?_
   have n:(Xb l ks).any (fun x=>decide (x.1=k))=decide (k∈ks):=by
    unfold Xb;rw[List.any_map,Bool.eq_iff_iff]
    simp[List.any_eq_true]
   rw[n]
   by_cases c:k∈ks
   .rw[decide_eq_true c,Bool.not_true]
    refine Z0 ?_;rw[Yb,if_pos c];exact ⟨σ3,g,A4⟩
   .rw[decide_eq_false c,Bool.not_false]
    refine Z1 ?_;rw[Yb,if_neg c];have M:=hh.lift ⟨g.le⟩;have W:=ht.lift ⟨g.le⟩;have y:=A.up k4;refine V3 g.sat ?_;refine Y3 (V:=S k) (fun w a=>Y6 a.sat (y.up a.stp) rfl (X9 rfl)) ?_;refine Y3 (V:=tv) (fun w a=>X0d a.sat (M.lift ⟨a.stp.le⟩) (X9 rfl)) ?_;refine Y3 (V:=S k) (fun w a=>Y6 a.sat (y.up a.stp) rfl (X9 rfl)) ?_;refine Y3 (V:=S (E3 l k)) (fun t t2 w a e H=>by subst e;subst H;exact X6q a.sat (W.lift ⟨a.stp.le⟩) ok q fun w' σ' p=>F7 p.bel rfl) ?_
    refine Y3 (V:= .agg #[S k,S (E3 l k)]) (fun t t2 w a e H=>by subst e;subst H;exact M9 X9m (X9 rfl)) ?_
    refine Zq (w:=w4) (σ:=σ3) (Φ:=fun σ' B=>Sl 2 Bk σ' B [(k,E3 l k)]) (fun t w a e=>by
     subst e;exact C1 (R:=Bk) (sz:=2) a.sat [.agg #[S k,S (E3 l k)]] [(k,E3 l k)] rfl rfl (by simp;rfl) rfl ⟨⟨rfl,q,O k⟩,trivial⟩ fun B w' σ' p X=>Er a p X) ?_
    rintro _ _ _ _ _ u w5 av rfl rfl rfl rfl rfl ⟨σ5,k5,hu⟩;have E:=g.trans k5;have A5:=A4.up k5;refine Il E.sat E.bel.size A5 hu (by rfl) (by simp[Xb];omega) (by simp[Xb];omega) fun v8 w8 N U Q ar=>?_
    have N8:Nxt (fun k=>m.ownBlock=some k) w5 σ5 w8 σ5:=⟨N.mono fun k _ e=>e.1,SLe.refl _,fun _ _=>rfl,U⟩;exact ⟨σ5,E.nx N8 fun k p=>(A5.mem p).1,by simpa [Xb] using Q⟩
  .obtain ⟨σ6,S6,A6⟩:=hz
   (try simp only[↓M1,M1,Mb,reduceIte])
   exact Z8 Q5 b ⟨σ6,S6,A6⟩
 .have e:i=refs.length:=by simp at j;omega
  subst e;rw[List.take_length] at C;obtain ⟨σ4,g,Y,_⟩:=C.keep f;exact h m w2 σ4 g Y)
variable {w0 : World} {σ0 : Q2} {r bw : Nat} {xs : Q9} {q : Addr} {num : Int -> Int} {mm : List (Int × Value)}
theorem Q3K {n:Int} (R:WrS w0 σ0 bw w σ xs) (b:U0 σ q [.pointer (some ⟨bw,0,none⟩)]) (a:(xs++U6 (Wl n)).length<=1000000000) (h: ∀w' σ',SLe σ σ'->WrS w0 σ0 bw w' σ' (xs++U6 (Wl n))->K (.tuple #[]) w'):
 J6 P (.func (.func F.d4) (List.toArray []) (List.toArray [.pointer (some q)])) [I n] w K:=
 J8 (first:=[]) (caps:=[.pointer (some q)]) (Q8s (by
  unfold Q0m;refine Y6 R.stp.sat b rfl ?_;refine Kg ?_;exact Q3I R (Ng n) a h))
theorem X9y {x:Nat} {v:Value} {A:World->Prop} (R:WrS w0 σ0 bw w σ xs) (hx:x<cs.length) (hh:E2 σ hp tv room cs) (hq:U0 σ q [.pointer (some ⟨bw,0,none⟩)]) (hm:K7 σ0 w0 r mm) (p: ∀n,(Qv mm n).getD (I 0)=I (num n)) (W:Sl 1 O5 σ v (ints (D3 l cs x))) (hb:(xs++(B4 l cs x).flatMap (H3 num)).length<=1000000000)
 (h: ∀w' σ',SLe σ σ'->WrS w0 σ0 bw w' σ' (xs++(B4 l cs x).flatMap (H3 num))->A w'):
 lp (α:=Value) (.int .i64 0) w fun a g d_ w=>
  Z2 P .lss T.e (.tmp 88) (.tmp 87) g (I (ints (D3 l cs x)).length) w fun M w=>
  X0 M (
   indexAddr P T.o v g w fun N w=>
   Q7 P T.e N w fun O w=>
   Q0 P F.aj [hp,I x,O] w fun C w=>
   ext P C 0 w fun Q w=>
   ext P C 1 w fun ae w=>
   Qa P T.f w fun B w=>
   U8 P T.f B Q w fun _u w=>
   Q7 P T.ag (.pointer (some q)) w fun U w=>
   Q7 P T.f B w fun y w=>
   Q0 P F.cb [U,y, .map (some r)] w fun X w=>
   Z2 P .add T.e (.tmp 88) (.const (.int .i64 1)) g (.int .i64 1) w fun z w=>
   a z w) (
   A w):=by
 have k:(ints (D3 l cs x)).length=(D3 l cs x).length:=by simp
 rw[k];have Y:(B4 l cs x).length=(D3 l cs x).length:=by unfold B4;simp
 refine V7 (D3 l cs x).length (fun j w'=> ∃σ',SLe σ σ'/\WrS w0 σ0 bw w' σ' (xs++((B4 l cs x).take j).flatMap (H3 num))) ⟨σ,SLe.refl _,by simpa using R⟩ fun j w1 d hj m=>?_
 obtain ⟨σ1,b,i⟩:=m;refine Y9 ?_;refine Q4 (fun H=>?_) (fun H=>?_)
 .have o:j<(D3 l cs x).length:=by simpa using H
  have c:j<(B4 l cs x).length:=by omega
  have ev:(B4 l cs x)[j]=Lz cs x ((D3 l cs x)[j]:Nat):=List.getElem_map _;have u:VB (B4 l cs x)[j]:=Y0g hh (List.getElem_mem c);refine Ky i.stp.sat (W.lift b) o ?_;refine X0a i.stp.sat (hh.lift b) fun w2 σ2 D=>?_;rw[<-ev];refine J5 (vs:=[_,_]) rfl ?_;refine J5 (vs:=[_,_]) rfl ?_;have Z:O6 σ2 (B4 l cs x)[j] [I (B4 l cs x)[j].sort,I (B4 l cs x)[j].n,S (B4 l cs x)[j].s,I (B4 l cs x)[j].ref]:=⟨rfl,u⟩;refine Z9 (sz:=4) D.sat rfl rfl (Rep.one Z) fun ad w3 σ3 J t=>?_;have E:=(i.up D).up J;refine Y6 E.stp.sat (((hq.lift b).up D).up J) rfl ?_;refine Z3 E.stp.sat t rfl ?_;refine X2R E hm p (x:=(B4 l cs x)[j]) ⟨rfl,u⟩ (Yv (f:=H3 num) c hb) fun w4 σ4 L V=>?_;rw[<-P2 (f:=H3 num) c] at V
  (try simp only[↓M1,M1,Mb,reduceIte])
  exact Z4 (by rw[<-k];exact W.max) o ⟨σ4,((b.more ⟨D.le⟩).more ⟨J.le⟩).more L,V⟩
 .have e:j=(D3 l cs x).length:=by simp at H;omega
  subst e;rw[<-Y,List.take_length] at i;exact h _ _ b i
set_option maxHeartbeats 4000000 in
theorem X8e {vs:List Val} {vl rl:Value} (hs:X3 w σ) (hh:E2 σ hp tv room cs) (ht:Tab σ tv l) (ok:Ok l) (ay: ∀c∈cs,GoodC V8 l cs c) (hc:cs.length<=1048576) (hN: ∀r,Jm cs r<=1000000000000) (b4: ∀k,(E3 l k).length<=V4) (W:Sl 4 O6 σ vl vs) (V:Sl 1 O5 σ rl (ints refs)) (hr: ∀x∈refs,x<cs.length) (hn:refs.length<=cs.length)
 (hm:K7 σ w r mm) (ab: ∀n,(Qv mm n).getD (I 0)=I (num n)) (hb:(Nc num l cs vs refs).length<=1000000000)
 (h: ∀v' w' σ',Stp w σ w' σ'->J7 w.heap.size T.a2 1 Ys σ' w' v' (Nc num l cs vs refs)->K v' w'):Q0 P F.dl [hp,vl,rl, .map (some r)] w K:=X1m (by
 unfold Q4b;simp only[L9,D0];unfold J3 V1 X4 J9 X1;have aj:(ints refs).length=refs.length:=by simp
 have c2:=Rn (cs:=cs) (rs:=refs);have c5:=W.max
 have eB:(U5 cs refs).flatMap (Zd l)=(Xb l (U5 cs refs)).flatMap (fun x=>M3 x.1++M3 x.2):=by
  unfold Xb;rw[List.flatMap_map];rfl
 have eD:refs.flatMap (fun (r:Nat)=>(N0 l cs r).flatMap (H3 num))=refs.flatMap (fun (r:Nat)=>(B4 l cs (r:Int)).flatMap (H3 num)):=by
  rw[List.flatMap_def,List.flatMap_def]
  congr 1
  exact List.map_congr_left fun x hx=>by rw[Q6w (hr x hx)]
 have eT:Nc num l cs vs refs=U6 (U5 cs refs).length++(Xb l (U5 cs refs)).flatMap (fun x=>M3 x.1++M3 x.2)++U6 refs.length++refs.flatMap (Yh cs (U5 cs refs))++refs.flatMap (fun (r:Nat)=>(B4 l cs (r:Int)).flatMap (H3 num))++U6 vs.length++vs.flatMap (H3 num):=by
  rw[<-eB,<-eD];rfl
 rw[eT] at hb h;have lk:(Xb l (U5 cs refs)).length=(U5 cs refs).length:=by unfold Xb;simp
 have a1:=hb;rw[List.length_append] at hb;have bv:(U6 (U5 cs refs).length++(Xb l (U5 cs refs)).flatMap (fun x=>M3 x.1++M3 x.2)++U6 refs.length++refs.flatMap (Yh cs (U5 cs refs))++refs.flatMap (fun (r:Nat)=>(B4 l cs (r:Int)).flatMap (H3 num))++U6 vs.length).length<=1000000000:=by omega
 rw[List.length_append] at hb;have bu:(U6 (U5 cs refs).length++(Xb l (U5 cs refs)).flatMap (fun x=>M3 x.1++M3 x.2)++U6 refs.length++refs.flatMap (Yh cs (U5 cs refs))++refs.flatMap (fun (r:Nat)=>(B4 l cs (r:Int)).flatMap (H3 num))).length<=1000000000:=by omega
 rw[List.length_append] at hb;have bs:(U6 (U5 cs refs).length++(Xb l (U5 cs refs)).flatMap (fun x=>M3 x.1++M3 x.2)++U6 refs.length++refs.flatMap (Yh cs (U5 cs refs))).length<=1000000000:=by omega
 rw[List.length_append] at hb;have br:(U6 (U5 cs refs).length++(Xb l (U5 cs refs)).flatMap (fun x=>M3 x.1++M3 x.2)++U6 refs.length).length<=1000000000:=by omega
 rw[List.length_append] at hb;have a0:(U6 (U5 cs refs).length++(Xb l (U5 cs refs)).flatMap (fun x=>M3 x.1++M3 x.2)).length<=1000000000:=by omega
 have bq:(U6 (U5 cs refs).length).length<=1000000000:=by rw[List.length_append] at a0;omega
 clear hb eB eD eT
 have b2: ∀x∈refs,(Ed cs x).length<=V4:=fun x hx=>by
  rw[<-Q5d (hr x hx)];exact Q6t hh
 refine X88 hs fun bw w1 σ1 k1 R1=>?_;refine W8 k1.sat rfl rfl rfl fun q9 w2 σ2 k2 o=>?_;have R2:=R1.up k2;refine Q0S ?_;refine Y6 k2.sat o rfl ?_;refine Q0S ?_;have S2:=R2.stp;refine X0f k2.sat (hh.lift ⟨S2.le⟩) (ht.lift ⟨S2.le⟩) ok hc b4 (V.lift ⟨S2.le⟩) hr hn fun kv w3 σ3 k3 ak=>?_;have R3:=R2.up k3;have al:=o.up k3;clear R1 R2 k1 k2 k3 o S2;generalize U5 cs refs=g at*;refine Q6 ak ?_;rw[lk];have t: ∀n:Nat,n<=9223372036854775807->Wl (n:Int)=n:=fun n hn=>Q2u Q5;refine Q3K R3 al (by rw[t _ Q5];simpa using bq) fun w4 σ4 bb R4=>?_
 rw[t _ Q5,List.nil_append] at R4;have J:=ak.lift bb;have a5:=al.lift bb;clear R3 ak al;refine Q6 J ?_;refine V7 (Xb l g).length (fun i w'=> ∃σ',SLe σ4 σ'/\WrS w σ bw w' σ' (U6 g.length++((Xb l g).take i).flatMap (fun x=>M3 x.1++M3 x.2))) ⟨σ4,SLe.refl _,by simpa using R4⟩ fun i w5 d hi m=>?_
 obtain ⟨σ5,Y,R5⟩:=m;refine Y9 ?_;refine Q4 (fun e=>?_) (fun e=>?_)
 .have a:i<(Xb l g).length:=by simpa using e
  have L:=J.lift Y;obtain ⟨c0,p1,p2,p3⟩:=L.el a;obtain ⟨rfl,g1,g2⟩:=p3;refine Y7 L a ?_;refine Z3 R5.stp.sat p1 rfl ?_;refine Z9 (sz:=2) R5.stp.sat rfl rfl (by intro u hu;simp at hu;rcases hu with rfl | rfl<;>rfl) fun c8 w6 σ6 k6 ac=>?_
  refine X41 k6.sat ac ?_;refine X9X k6.sat ac ?_;refine C1 (R:=L1) (sz:=1) k6.sat [S (Xb l g)[i].1,S (Xb l g)[i].2] [(Xb l g)[i].1,(Xb l g)[i].2] rfl rfl (by simp;exact ⟨rfl,rfl⟩) rfl ⟨⟨rfl,g1⟩,⟨rfl,g2⟩,trivial⟩ fun s w7 σ7 k7 b5=>?_
  have H:=(R5.up k6).up k7;refine J8 (first:=[.pointer (some ⟨bw,0,none⟩)]) (caps:=[]) ?_
  refine X2M H b5 (by simpa [List.append_assoc] using Yv (f:=fun x=>M3 x.1++M3 x.2) a a0) fun w8 σ8 A B=>?_
  have U:WrS w σ bw w8 σ8 ((U6 g.length++((Xb l g).take i).flatMap (fun x=>M3 x.1++M3 x.2))++(M3 (Xb l g)[i].1++M3 (Xb l g)[i].2)):=by simpa using B
  rw[<-P2 (f:=fun x=>M3 x.1++M3 x.2) a] at U
  (try simp only[↓M1,M1,Mb,reduceIte])
  exact Z4 J.max a ⟨σ8,((Y.more ⟨k6.le⟩).more ⟨k7.le⟩).more A,U⟩
 have ei:i=(Xb l g).length:=by simp at e;omega
 subst ei;rw[List.take_length] at R5;have L:=J.lift Y;have am:=a5.lift Y;clear J a5 R4;have ad:=V.lift ⟨R5.stp.le⟩;refine Q6 ad ?_;rw[aj];refine Q3K R5 am (by rw[t _ Q5];exact br) fun w6 σ6 bc R6=>?_
 rw[t _ Q5] at R6;have a3:=L.lift bc;have an:=am.lift bc;clear R5 L am ad;have M:=V.lift ⟨R6.stp.le⟩;refine Q6 M ?_;rw[aj];refine V7 refs.length (fun i w'=> ∃σ',SLe σ6 σ'/\WrS w σ bw w' σ' ((U6 g.length++(Xb l g).flatMap (fun x=>M3 x.1++M3 x.2)++U6 refs.length)++(refs.take i).flatMap (Yh cs g))) ⟨σ6,SLe.refl _,by simpa using R6⟩ fun i w7 d hi m=>?_
 obtain ⟨σ7,Q,H⟩:=m;refine Y9 ?_;refine Q4 (fun e=>?_) (fun e=>?_)
 .have a:i<refs.length:=by simpa using e
  refine Qt (fun _ w'=> ∃σ',SLe σ6 σ'/\WrS w σ bw w' σ' ((U6 g.length++(Xb l g).flatMap (fun x=>M3 x.1++M3 x.2)++U6 refs.length)++(refs.take (i+1)).flatMap (Yh cs g))) ?_ (fun z dd w8 hz=>?_)
  .have C:=Yv (f:=Yh cs g) a bs
   rw[P2 (f:=Yh cs g) a];have D:=hr _ (List.getElem_mem a);have b3:=b2 _ (List.getElem_mem a);generalize (U6 g.length++(Xb l g).flatMap (fun x=>M3 x.1++M3 x.2)++U6 refs.length)++(refs.take i).flatMap (Yh cs g)=aq at*;unfold Yh at C⊢;rw[<-List.append_assoc] at C⊢;refine Ky H.stp.sat (M.lift Q) a ?_;have bz:=hh.lift ⟨H.stp.le⟩;refine Q0e H.stp.sat bz ?_;rw[Q5d D]
   have ax:Um cs (refs[i]:Nat)=((Xk cs refs[i]).vals.length:Nat):=by
    unfold Um Xk;rw[if_pos (W7.2 ⟨refs[i],rfl,D⟩),L5 D,List.getD_eq_getElem?_getD,List.getElem?_eq_getElem D];rfl
   have c4:(Xk cs refs[i]).vals.length<=1000000000000:=by
    have:=hN (refs[i]:Nat);unfold Jm at this;rw[ax] at this
    simpa using this
   generalize Ed cs refs[i]=k at*;refine W8 H.stp.sat rfl rfl rfl fun qk w8 σ8 k8 a6=>?_;refine Q0S ?_;have B:=H.up k8;have b1:=(a3.lift Q).up k8;refine Q80 (fun x=>decide (x.1=k)) k8.sat b1 (fun x cs w9 K hx s9 hR hl hK=>?_) fun w9 bx=>?_
   .refine J8 (first:=[]) (caps:=[.pointer (some qk)]) ?_
    exact Q82 s9 hR a6 hK
   have X:=Stp.of_below k8.sat bx;have U:=B.up X;have a7:=a6.up X
   have bp:(Xb l g).findIdx? (fun x=>decide (x.1=k))=g.findIdx? (fun y=>decide (y=k)):=by
    unfold Xb;rw[List.findIdx?_map];rfl
   rw[bp];have o:=((an.lift Q).up k8).up X;refine Q3K U o (by rw[List.length_append] at C;omega) fun bf Z b j=>?_
   refine Y6 j.stp.sat (a7.lift b) rfl ?_;refine Q7c k (by unfold V4 at b3;omega) fun ca az=>?_
   have v:=Stp.of_below j.stp.sat az;have p:=j.up v;refine Jb ?_;have bd:=((Q.more ⟨k8.le⟩).more ⟨X.le⟩).more (b.more ⟨v.le⟩)
   by_cases ee:elem k=[]
   .rw[decide_eq_true ee,Bool.not_true]
    refine Z0 ?_;rw[if_pos ee,List.append_nil];exact ⟨Z,bd,p⟩
   .rw[decide_eq_false ee,Bool.not_false]
    refine Z1 ?_;rw[if_neg ee] at C⊢;refine X2O p.stp.sat (hh.lift ⟨p.stp.le⟩) ?_;rw[ax];refine Q3K p ((o.lift b).up v) (by rw[t _ Q5];exact C) fun cb ar O E=>?_
    rw[t _ Q5] at E;exact ⟨ar,bd.more O,E⟩
  .obtain ⟨σ8,A,B⟩:=hz
   (try simp only[↓M1,M1,Mb,reduceIte])
   exact Z4 Q5 a ⟨σ8,A,B⟩
 have ei:i=refs.length:=by simp at e;omega
 subst ei;rw[List.take_length] at H;have ao:=an.lift Q;clear R6 a3 an M;have N:=V.lift ⟨H.stp.le⟩;refine Q6 N ?_;rw[aj];generalize U6 g.length++(Xb l g).flatMap (fun x=>M3 x.1++M3 x.2)++U6 refs.length++refs.flatMap (Yh cs g)=aq at*;refine V7 refs.length (fun i w'=> ∃σ',SLe σ7 σ'/\WrS w σ bw w' σ' (aq++(refs.take i).flatMap (fun (r:Nat)=>(B4 l cs (r:Int)).flatMap (H3 num)))) ⟨σ7,SLe.refl _,by simpa using H⟩ fun i w8 d hi m=>?_
 obtain ⟨σ8,A,B⟩:=m;refine Y9 ?_;refine Q4 (fun e=>?_) (fun e=>?_)
 .have a:i<refs.length:=by simpa using e
  have C:=Yv (f:=fun (r:Nat)=>(B4 l cs (r:Int)).flatMap (H3 num)) a bu;have D:=hr _ (List.getElem_mem a);refine Ky B.stp.sat (N.lift A) a ?_;have a2:=hh.lift ⟨B.stp.le⟩;refine X4T B.stp.sat a2 (ht.lift ⟨B.stp.le⟩) ok ay (hN _) fun sv w9 σ9 X a9=>?_;have U:=B.up X;refine Q6 a9 ?_;refine X9y U D (a2.lift ⟨X.le⟩) ((ao.lift A).up X) hm ab a9 C fun bf Z b j=>?_;rw[<-P2 (f:=fun (r:Nat)=>(B4 l cs (r:Int)).flatMap (H3 num)) a] at j
  (try simp only[↓M1,M1,Mb,reduceIte])
  exact Z4 Q5 a ⟨Z,(A.more ⟨X.le⟩).more b,j⟩
 have ei:i=refs.length:=by simp at e;omega
 subst ei;rw[List.take_length] at B;have ap:=ao.lift A;clear H ao N;have af:=W.lift ⟨B.stp.le⟩;refine Q6 af ?_;refine Q3K B ap (by rw[t _ Q5];exact bv) fun w9 σ9 b7 U=>?_
 rw[t _ Q5] at U;have o:=ap.lift b7;have ag:=W.lift ⟨U.stp.le⟩;clear B ap af;refine Q6 ag ?_;generalize aq++refs.flatMap (fun (r:Nat)=>(B4 l cs (r:Int)).flatMap (H3 num))++U6 vs.length=be at*;refine V7 vs.length (fun i w'=> ∃σ',SLe σ9 σ'/\WrS w σ bw w' σ' (be++(vs.take i).flatMap (H3 num))) ⟨σ9,SLe.refl _,by simpa using U⟩ fun i bf d hi m=>?_
 obtain ⟨Z,b,j⟩:=m;refine Y9 ?_;refine Q4 (fun e=>?_) (fun e=>?_)
 .have a:i<vs.length:=by simpa using e
  have ae:=ag.lift b;obtain ⟨p1,p2⟩:=Sl.elV ae a;refine Y7 ae a ?_;refine Z3 j.stp.sat p1 rfl ?_;refine Z9 (sz:=4) j.stp.sat rfl rfl (Rep.one p2) fun c9 ca df v a4=>?_;have p:=j.up v;refine Y6 p.stp.sat ((o.lift b).up v) rfl ?_;refine Z3 p.stp.sat a4 rfl ?_;refine X2R p hm ab (x:=vs[i]) (Rep.up v.le p2) (Yv (f:=H3 num) a a1) fun cb ar O E=>?_;rw[<-P2 (f:=H3 num) a] at E
  (try simp only[↓M1,M1,Mb,reduceIte])
  exact Z4 W.max a ⟨ar,(b.more ⟨v.le⟩).more O,E⟩
 have ei:i=vs.length:=by simp at e;omega
 subst ei;rw[List.take_length] at j;refine Y6 j.stp.sat (o.lift b) rfl ?_;exact X7Z j a1 h)
end Go.Proofs.Y
namespace Go.Hm
open Go.Kd Go.Emb
def Nd (l:List Cla) (cs:List Cel) (vs:List Val):Q9:=Nc (Q1H (L4 l cs vs)) l cs vs (L4 l cs vs)
def El (ok:Q9->Bool) (cs:List Cel) (vs:List Val):Bool:=vs.any fun v=>decide (K5 ok cs v=[])
def Xe (ok:Q9->Bool) (l:List Cla) (cs:List Cel) (vs:List Val) (o b:Int):Int×Q9:=
 if 64<vs.length\/El ok cs vs=true then (120,[]) else if o<((L4 l cs vs).length:Int) then (121,[]) else if b<((Nd l cs vs).length:Int) then (122,[]) else (0,Nd l cs vs)
end Go.Hm
namespace Go.Proofs.Y
open Go.Emb Go.RowKit Go.Kd Go.Hm
variable {w w' : World} {K : Value -> World -> Prop} {σ σ' : Q2} {room : Int} {cs : List Cel} {hp tv : Value} {l : List Cla} {vs : List Val}
structure SendOk (l : List Cla) (cs : List Cel) : Prop where
  ok : Ok l
  good : ∀ c ∈ cs, GoodC V8 l cs c
  len : cs.length <= 1048576
  sz : ∀ r, Jm cs r <= 1000000000000
  pr : ∀ k, (E3 l k).length <= V4
  b : ∀ vs : List Val, vs.length <= 64 -> El V8 cs vs = false -> (∀ v ∈ vs, VB v) -> (Nd l cs vs).length <= 1000000000
theorem X6s {x:Val} {c:List Value} {d:Addr} (i:X3 w σ) (f:Glb σ) (hh:E2 σ hp tv room cs) (j:O6 σ x c) (g:U0 σ d [hp]) (h: ∀w',Below w.heap.size w w'->K (.bool (decide (K5 V8 cs x=[]))) w'):Q0 P F.db [.agg c.toArray, .pointer (some d)] w K:=Q9I (by
 obtain ⟨rfl,_,_,e,_⟩:=j;unfold Q2J J9;refine Z6 i fun q w1 σ1 a b=>?_;refine Y6 a.sat (g.up a) rfl ?_;refine Z3 a.sat b rfl ?_;refine X9r a.sat (f.lift ⟨a.le⟩) (hh.lift ⟨a.le⟩) e fun m n k=>?_;refine K2 (u:=[]) ?_;exact h _ (a.trans k).bel)
set_option maxHeartbeats 1000000 in
theorem X4V {vl:Value} {o b:Int} (hs:X3 w σ) (hg:Glb σ) (hh:E2 σ hp tv room cs) (Y:Tab σ tv l) (f:SendOk l cs) (Q:Sl 4 O6 σ vl vs)
 (h: ∀v' w' σ',Stp w σ w' σ'->J7 w.heap.size T.a2 1 Ys σ' w' v' (Xe V8 l cs vs o b).2->K (.tuple #[v',I (Xe V8 l cs vs o b).1]) w'):Q0 P F.cy [hp,vl, .agg [I o,I b].toArray] w K:=X2w (by
 unfold Q65;simp only[D0];unfold X6 X8 X4 X2 X1;obtain ⟨ah,eh⟩: ∃a,hp= .pointer (some a):=by obtain ⟨a,_,e,_⟩:=hh;exact ⟨a,e⟩
 refine L6 hs (by rw[eh];rfl) fun qh w1 σ1 k1 N=>?_
 refine Z6 k1.sat fun ql w2 σ2 H O=>?_;have t:=k1.trans H;have p:=Q.up t;unfold Xe at h;refine Q6 p ?_;refine Vo ?_
 by_cases u:64<vs.length
 .rw[decide_eq_true (by omega:(64:Int)<(vs.length:Nat))]
  rw[if_pos (.inl u)] at h
  (repeat refine Hd.h ?_)
  refine Z1 ?_;exact h _ _ _ t (J7.of_acc W4.nil)
 rw[decide_eq_false (by omega: ¬(64:Int)<(vs.length:Nat))]
 (repeat refine Hd.h ?_)
 refine Q0S ?_;have g:=N.up H
 (repeat refine Hd.h ?_)
 refine Li (fun x=>decide (K5 V8 cs x=[])) H.sat p (fun x c w3 K Z s3 hR hl hK=>?_) fun w3 J=>?_
 .refine J8 (first:=[]) (caps:=[.pointer (some qh)]) ?_
  exact X6s s3 (hg.lift ⟨t.le⟩) (hh.lift ⟨t.le⟩) hR g hK
 have V:=Stp.of_below H.sat J;have m:=t.trans V
 (repeat refine Hd.h ?_)
 cases d:El V8 cs vs with
 | true=>
  rw[d,if_pos (.inr rfl)] at h;unfold El at d;rw[d];refine Z1 ?_;exact h _ _ _ m (J7.of_acc W4.nil)
 | false=>
 rw[d,if_neg (by rintro (e | e);exact u e;cases e)] at h
 have y:=f.b vs Q5 d fun v U=>by
  obtain ⟨i,hi,rfl⟩:=List.mem_iff_getElem.1 U;exact (Sl.elV p hi).2.2
 unfold El at d;rw[d];refine Z0 ?_;have j:=g.up V;have k:=O.up V;have R:=Q.up m;refine Y6 m.sat j rfl ?_;refine X0g m.sat (hh.lift ⟨m.le⟩) (Y.lift ⟨m.le⟩) f.ok f.good f.len f.sz R fun rl r mm w4 σ4 q C hm M=>?_;have s:=m.trans q;have A: ∀x∈L4 l cs vs,x<cs.length:=fun x Z=>Eg Z;have L:(L4 l cs vs).length<=cs.length:=Q0R Fz A;unfold Nd at y h;generalize L4 l cs vs=refs at*;refine J5 (vs:=[_,_]) rfl ?_;refine J5 (vs:=[_,_]) rfl ?_;refine Q6 C ?_;rw[show (ints refs).length=refs.length by simp]
 refine U7 ?_;refine ld (i:=0) q.sat (k.up q) rfl ?_;refine Vo ?_
 by_cases E:o<(refs.length:Int)
 .rw[decide_eq_true E]
  rw[if_pos E] at h;refine Z1 ?_;exact h _ _ _ s (J7.of_acc W4.nil)
 rw[decide_eq_false E];rw[if_neg E] at h;refine Z0 ?_;refine Y6 q.sat (j.up q) rfl ?_;refine X8e q.sat (hh.lift ⟨s.le⟩) (Y.lift ⟨s.le⟩) f.ok f.good f.len f.sz f.pr (Q.up s) C A L hm (num:=Q1H refs) (fun n=>by rw[M,X6V]) y fun bv w5 σ5 W z=>?_
 have X:=s.trans W;refine Rw z ?_;refine U7 ?_;refine ld (i:=1) W.sat ((k.up q).up W) rfl ?_;refine Vo ?_;generalize Nc (Q1H refs) l cs vs refs=B at*
 by_cases D:b<(B.length:Int)
 .rw[decide_eq_true D]
  rw[if_pos D] at h;refine Z1 ?_;exact h _ _ _ X (J7.of_acc W4.nil)
 rw[decide_eq_false D];rw[if_neg D] at h;refine Z0 ?_;exact h _ _ _ X (z.mono s.bel.size))
theorem Y0x {x:Val} {o b:Int} (p:X3 w σ) (m:Glb σ) (hh:E2 σ hp tv room cs) (q:Tab σ tv l) (u:SendOk l cs) (r:VB x)
 (h: ∀k w' σ',Stp w σ w' σ'->J7 w.heap.size T.a2 1 Ys σ' w' k (Xe V8 l cs [x] o b).2->K (.tuple #[k,I (Xe V8 l cs [x] o b).1]) w'):Q0 P F.ch [hp, .agg [I x.sort,I x.n,S x.s,I x.ref].toArray, .agg [I o,I b].toArray] w K:=X4n (by
 unfold Q77;simp only[D0];refine Z6 p fun y w1 σ1 j f=>?_;refine Z6 j.sat fun v B E c e=>?_;refine Z3 c.sat (f.up c) rfl ?_;refine C1 (R:=O6) (sz:=4) c.sat [.agg [I x.sort,I x.n,S x.s,I x.ref].toArray] [x] rfl rfl (by simp;rfl) rfl ⟨⟨rfl,r⟩,trivial⟩ fun A C H d i=>?_
 refine Z3 d.sat (e.up d) rfl ?_;have a:=(j.trans c).trans d;refine X4V d.sat (m.lift ⟨a.le⟩) (hh.lift ⟨a.le⟩) (q.lift ⟨a.le⟩) u i fun z D J t g=>?_;refine J5 (vs:=[_,_]) rfl ?_;refine J5 (vs:=[_,_]) rfl ?_;exact h _ _ _ (a.trans t) (g.mono a.bel.size))
variable {v : Value}
theorem Q9e {c:Cla} {n:Q9} (h:Pf c n=none):Qg c n=none:=by
 unfold Qg Pf at*;rw[List.findIdx?_eq_none_iff] at h;rw[List.find?_eq_none];intro m a;have:=h m a
 simpa using this
theorem X35 {c:Cla} {n:Q9} {i:Nat} (h:Pf c n=some i): ∃a:i<c.methods.length,Qg c n=some c.methods[i]:=by
 unfold Qg Pf at*;obtain ⟨a,e,d⟩:=List.findIdx?_eq_some_iff_getElem.1 h;refine ⟨a,List.find?_eq_some_iff_getElem.2 ⟨e,i,a,rfl,fun j b=>?_⟩⟩;have:=d j b
 simpa using this
theorem Q3U {n:Q9} (h:lk l n=none):U2 l n=none:=by
 cases b:U2 l n with
 | none=>rfl
 | some i=>obtain ⟨c,a,_⟩:=Wc b;rw[h] at a;cases a
set_option maxHeartbeats 1000000 in
theorem X5Y {n:Q9} (ok:Ok l): ∀(k:Nat) {c:Cla} {cs:List Value} {w:World} {σ:Q2} {K:Value->World->Prop},A0 l c.name<k->lk l c.name=some c->X3 w σ->Sl 8 M8 σ v l->M8 σ c cs->
 (∀pv cv hv w' Z,Stp w σ w' Z->F9 Z (o2 (O3 l c n)) [S (o2 (O3 l c n)).name,pv,S (o2 (O3 l c n)).result, .bool (o2 (O3 l c n)).abs,I (o2 (O3 l c n)).locals,cv,hv]->
  K (.tuple #[S (o1 (O3 l c n)), .agg [S (o2 (O3 l c n)).name,pv,S (o2 (O3 l c n)).result, .bool (o2 (O3 l c n)).abs,I (o2 (O3 l c n)).locals,cv,hv].toArray, .bool (O3 l c n).isSome]) w')->
 Q0 P F.aR [v, .agg cs.toArray,S n] w K:=by
 intro k
 induction k with
 | zero=>
  intro c cs w σ K hk;omega
 | succ k ih=>
  intro c cs w σ K hk hc hs hv hr h;refine Q2e ?_;obtain ⟨lv,fv,mv,rfl,g1,g2,g3,g4,g5⟩:=hr;have D:=Q93 ok.acy hc n;generalize hf:(fun u=>match lk l u with | none=>none | some d=>match Qg d n with | some m=>some (u,m) | none=>O3 l d n)=f at D
  unfold Hz;simp only[Y5,X5,L9,D0];unfold X6 J3 V1 X4 X2 X1;refine Z6 hs fun a w1 σ1 E ap=>?_;refine E5 E.sat fun b w2 σ2 hb O ay=>?_;have M:w.heap.size<=b:=C7 hb E;have aq:=ap.up O;have g1:=(g1.up E).up O;refine V7 c.like.length (fun i w'=> ∃Z,Stp w σ w' Z/\SLe σ2 Z/\Z7 Z w' b [S [], .slice none 0 0,S [], .bool false,I 0, .slice none 0 0, .slice none 0 0]/\(c.like.take i).findSome? f=none) ⟨σ2,E.trans O,SLe.refl _,ay,rfl⟩ fun i w3 d hi ae=>?_;obtain ⟨σ3,e,Y,ah,B⟩:=ae;have X:=hv.up e;have L:=aq.lift Y;have C:=g1.lift Y
  (try simp only[↓M1,M1,Mb,reduceIte])
  refine ld e.sat L rfl ?_;refine Q6 C ?_;refine Y9 ?_;refine Q4 (fun hh=>?_) (fun hh=>?_)
  .have g:i<c.like.length:=by simpa using hh
   (try simp only[↓M1,M1,Mb,reduceIte])
   refine ld e.sat L rfl ?_;refine Y7 C g ?_;obtain ⟨p0,_⟩:=C.elS g;refine Y6 e.sat p0 rfl ?_;obtain ⟨d,hd⟩:=ok.full c (N1 hc).2.1 _ (List.getElem_mem g);obtain ⟨N,bl,_⟩:=N1 hd;have p:f c.like[i]=match Qg d n with | some m=>some (c.like[i],m) | none=>O3 l d n:=by rw[<-hf];simp only[hd]
   refine Ga e.sat X hd fun j hj bn=>?_;obtain ⟨af,aw⟩:=List.getElem?_eq_some_iff.1 hj;refine Y7 X af ?_;obtain ⟨bx,bj,bz,p1,r1⟩:=X.elC af;rw[aw] at p1 r1;refine Z3 e.sat p1 rfl ?_;refine Z9 e.sat (by rfl) rfl (Rep.one r1) fun q w4 σ4 o R=>?_
   refine Z3 o.sat R rfl ?_;refine X3e o.sat (RCl_lift r1 ⟨o.le⟩) fun w5 σ5 t=>?_;refine T2 ?_;rw[Yw];have z:=(e.trans o).trans t;have H:=(ah.step o).step t;have a2:=R.up t;have r5:=RCl_lift r1 ⟨(o.trans t).le⟩;have W:=t.sat;have a6:SLe σ2 σ5:=Y.more ⟨(o.trans t).le⟩;clear R p1 r1 p0 L C o t;cases ho:Pf d n with
   | some i2=>
    obtain ⟨av,a1⟩:=X35 ho;rw[a1] at p;simp only[Option.isSome_some,E1,↓M1,M1,Mb,reduceIte];obtain ⟨_,_,a0,_,_⟩:=r5.parts;obtain ⟨pv,cv,bu,p2,r2⟩:=a0.elM av;refine V3 W ?_
    (repeat refine Y3 Vq ?_)
    (intros;(repeat (rename_i hx;subst hx));(try simp only[↓M2,M2,Mb,reduceIte]))
    rename_i w6 ac;refine Qz (H.step ac.stp) (z.trans ac.stp) M rfl rfl (Rep.one r2) fun w8 ao az=>?_;refine M5 az rfl ?_;have Q:=D.trans (Jy g B p);rw[Q] at h;rw[N];exact h _ _ _ w8 σ5 ao.stp r2
   | none=>
    rw[Q9e ho] at p;simp only[Option.isSome_none,↓M1,M1,Mb,reduceIte];refine Z3 W a2 rfl ?_;have br:=Yf ok.acy hc (by simp[M6,List.getElem_mem g]:c.like[i]∈M6 c) hd
    refine ih (by rw[N];omega) (by rw[N];exact hd) W (hv.up z) r5 fun pv cv bv w8 σ8 A U=>?_
    refine J5 (vs:=[_,_,_]) rfl ?_;refine J5 (vs:=[_,_,_]) rfl ?_;refine J5 (vs:=[_,_,_]) rfl ?_;refine Z9 A.sat (by rfl) rfl (Rep.one U) fun q w9 σ9 y a3=>?_
    have ab:=(z.trans A).trans y;have ai:=(H.step A).step y;have V:=RMe_lift U ⟨y.le⟩;have a7:SLe σ2 σ9:=a6.more ⟨(A.trans y).le⟩;have a4:=y.sat;cases Q:O3 l d n with
    | some r=>
     obtain ⟨s,m⟩:=r;rw[Q] at p V a3;clear U A y;simp only[Q,Option.isSome_some,↓M1,M1,Mb,reduceIte];refine V3 a4 ?_
     (repeat refine Y3 Vq ?_)
     (intros;(repeat (rename_i hx;subst hx));(try simp only[↓M2,M2,Mb,reduceIte]))
     rename_i b0 J;refine Qz (ai.step J.stp) (ab.trans J.stp) M rfl rfl (Rep.one V) fun a9 aa ag=>?_;refine M5 ag rfl ?_;have ax:=D.trans (Jy g B p);rw[ax] at h;exact h _ _ _ a9 σ9 aa.stp V
    | none=>
     rw[Q] at p;simp only[Option.isSome_none,↓M1,M1,Mb,reduceIte];refine Z4 (by have:=g1.max;omega) g ⟨σ9,ab,a7,ai,?_⟩
     rw[Jz g B];exact p
  .have g: ¬i<c.like.length:=by simpa using hh
   rw[List.take_of_length_le Q5] at B;refine Q0a ?_;refine Qz ah e M rfl rfl (Rep.one (Jg (σ:=σ3))) fun w5 z H=>?_;refine M5 H rfl ?_;have Q:=D.trans B;rw[Q] at h;exact h _ _ _ w5 σ3 z.stp Jg
set_option maxHeartbeats 1000000 in
theorem X4r {k n:Q9} (hs:X3 w σ) (hv:Sl 8 M8 σ v l) (ok:Ok l)
 (h: ∀pv cv hv w' O,Stp w σ w' O->F9 O (o2 (N3 l k n)) [S (o2 (N3 l k n)).name,pv,S (o2 (N3 l k n)).result, .bool (o2 (N3 l k n)).abs,I (o2 (N3 l k n)).locals,cv,hv]->
  K (.tuple #[S (o1 (N3 l k n)), .agg [S (o2 (N3 l k n)).name,pv,S (o2 (N3 l k n)).result, .bool (o2 (N3 l k n)).abs,I (o2 (N3 l k n)).locals,cv,hv].toArray, .bool (N3 l k n).isSome]) w'):
 Q0 P F.bx [v,S k,S n] w K:=Q0F (by
 unfold Dy;simp only[Y5,X5,L9,D0];unfold X6 J3 X2;refine E5 hs fun b w1 σ1 hb V az=>?_;refine Xl V.sat (hv.up V) ?_;unfold N3 at h;generalize hF:(fun c:Cla=>(Qg c n).map (c.name,·))=F1 at h;have ae: ∀c,F1 c=(Qg c n).map (c.name,·):=fun c=>by rw[<-hF]
 refine Q1b (fun m x w'=> ∃s B O,m=(chain l s).length/\x=I (E1 (U2 l s))/\chain l k=B++chain l s/\Stp w σ w' O/\Z7 O w' b [S [], .slice none 0 0,S [], .bool false,I 0, .slice none 0 0, .slice none 0 0]/\B.findSome? F1=none)
  (chain l k).length ⟨k,[],σ1,rfl,rfl,rfl,V,az,rfl⟩ ?_
 rintro Q m x d w2 ⟨s,B,σ2,rfl,rfl,a,C,ak,f⟩ D;have J:=hv.up C;have ab:=C.sat;refine T2 ?_;rw[Yw];cases A:lk l s with
 | some c=>
  obtain ⟨ai,ax,i,R,X⟩:=N1 A;obtain ⟨o,U⟩:=List.getElem?_eq_some_iff.1 X;simp only[R,Option.isSome_some,E1,↓M1,M1,Mb,reduceIte];refine Y7 J o ?_;obtain ⟨lv,fv,mv,z,N⟩:=J.elC o;rw[U] at z N;refine Z3 ab z rfl ?_;refine X3e ab N fun w3 σ3 p=>?_;refine T2 ?_;rw[Yw];have g:=C.trans p;have t:=J.up p;have y:=ak.step p;have u:=p.sat;replace z:=z.up p;replace N:=RCl_lift N ⟨p.le⟩;have j:chain l s=c::chain l c.super:=by rw[Kn ok.acy s,A]
  cases Y:Pf c n with
  | some i2=>
   obtain ⟨ay,a3⟩:=X35 Y;simp only[Option.isSome_some,E1,↓M1,M1,Mb,reduceIte];obtain ⟨_,_,a2,_,_⟩:=N.parts;obtain ⟨pv,cv,bc,p2,r2⟩:=a2.elM ay;clear p;refine V3 u ?_
   (repeat refine Y3 Vq ?_)
   (intros;(repeat (rename_i hx;subst hx));(try simp only[↓M2,M2,Mb,reduceIte]))
   rename_i w4 ah;refine Qz (y.step ah.stp) (g.trans ah.stp) hb rfl rfl (Rep.one r2) fun w8 av a1=>?_;refine M5 a1 rfl ?_
   have E:(chain l k).findSome? F1=some (c.name,c.methods[i2]):=by
    rw[a,List.findSome?_append,f,j,List.findSome?_cons,ae,a3];rfl
   rw[E] at h;exact h _ _ _ w8 σ3 av.stp r2
  | none=>
   simp only[Option.isSome_none,↓M1,M1,Mb,reduceIte];refine Y7 t o ?_
   (try simp only[↓M1,M1,Mb,reduceIte])
   refine ld u z rfl ?_;refine Xl u t ?_;refine D (chain l c.super).length _ _ (by rw[j,List.length_cons];omega) ⟨c.super,B++[c],σ3,rfl,rfl,by rw[a,j];simp,g,y,?_⟩
   rw[List.findSome?_append,f]
   simp[ae,Q9e Y]
 | none=>
  rw[Q3U A];simp only[Option.isSome_none,↓M1,M1,Mb,reduceIte];have am:(chain l k).findSome? F1=none:=by rw[a,Em A,List.append_nil];exact f
  rw[am] at h;clear D f a;refine Xl ab J ?_
  refine Q1b (fun m x w'=> ∃s B O,m=(chain l s).length/\x=I (E1 (U2 l s))/\chain l k=B++chain l s/\Stp w σ w' O/\Z7 O w' b [S [], .slice none 0 0,S [], .bool false,I 0, .slice none 0 0, .slice none 0 0]/\B.findSome? (fun c=>O3 l c n)=none)
   (chain l k).length ⟨k,[],σ2,rfl,rfl,rfl,C,ak,rfl⟩ ?_
  rintro Q m x d w3 ⟨s,B,σ3,rfl,rfl,a,g,y,f⟩ D;have t:=hv.up g;have u:=g.sat;refine T2 ?_;rw[Yw];cases A:lk l s with
  | some c=>
   obtain ⟨ai,ax,i,R,X⟩:=N1 A;obtain ⟨o,U⟩:=List.getElem?_eq_some_iff.1 X;simp only[R,Option.isSome_some,E1,↓M1,M1,Mb,reduceIte];refine Y7 t o ?_;obtain ⟨lv,fv,mv,z,N⟩:=t.elC o;rw[U] at z N;refine Z3 u z rfl ?_;have j:chain l s=c::chain l c.super:=by rw[Kn ok.acy s,A]
   refine X5Y ok _ (Nat.lt_succ_self _) (by rw[ai];exact A) u t N fun pv cv bd w8 σ8 W Z=>?_
   refine J5 (vs:=[_,_,_]) rfl ?_;refine J5 (vs:=[_,_,_]) rfl ?_;refine J5 (vs:=[_,_,_]) rfl ?_;refine Z9 W.sat (by rfl) rfl (Rep.one Z) fun q w9 σ9 H a4=>?_
   have e:=W.trans H;have ag:=g.trans e;have al:=y.step e;have aa:=RMe_lift Z ⟨H.le⟩;have ac:=H.sat;have an:=t.up e;replace z:=z.up e;cases Y:O3 l c n with
   | some r=>
    obtain ⟨s,m⟩:=r;rw[Y] at aa a4;clear Z W H e;simp only[Y,Option.isSome_some,↓M1,M1,Mb,reduceIte];refine V3 ac ?_
    (repeat refine Y3 Vq ?_)
    (intros;(repeat (rename_i hx;subst hx));(try simp only[↓M2,M2,Mb,reduceIte]))
    rename_i bg L;refine Qz (al.step L.stp) (ag.trans L.stp) hb rfl rfl (Rep.one aa) fun a6 af aj=>?_;refine M5 aj rfl ?_
    have E:(chain l k).findSome? (fun c=>O3 l c n)=some (s,m):=by
     rw[a,List.findSome?_append,f,j,List.findSome?_cons,Y];rfl
    unfold O3 at E;rw[E] at h;exact h _ _ _ a6 σ9 af.stp aa
   | none=>
    simp only[Option.isSome_none,↓M1,M1,Mb,reduceIte];refine Y7 an o ?_
    (try simp only[↓M1,M1,Mb,reduceIte])
    refine ld ac z rfl ?_;refine Xl ac an ?_;refine D (chain l c.super).length _ _ (by rw[j,List.length_cons];omega) ⟨c.super,B++[c],σ9,rfl,rfl,by rw[a,j];simp,ag,al,?_⟩
    rw[List.findSome?_append,f]
    simp[Y]
  | none=>
   rw[Q3U A];simp only[Option.isSome_none,↓M1,M1,Mb,reduceIte];have M:(chain l k).findSome? (fun c=>O3 l c n)=none:=by rw[a,Em A,List.append_nil];exact f
   refine Q0a ?_;refine Qz y g hb rfl rfl (Rep.one (Jg (σ:=σ3))) fun w7 ar a0=>?_;refine M5 a0 rfl ?_;unfold O3 at M;rw[M] at h;exact h _ _ _ w7 σ3 ar.stp Jg)
end Go.Proofs.Y
namespace Go.Hm
open Go.Kd
theorem Q5S: ∀(xs:List Q9) (x:Q9),xs≠[]->G7 (xs++[x])=G7 xs++[44]++x
 | [],_,h=>absurd rfl h
 | [a],x,_=>by simp[G7]
 | a::b::r,x,_=>by
  have:=Q5S (b::r) x (by simp)
  simp only[List.cons_append] at this⊢;simp only[G7,this]
  simp
theorem Q5T {xs:List Q9} {n:Nat} (h:n<xs.length):G7 (xs.take (n+1))=G7 (xs.take n)++(if 0<n then [44] else [])++xs[n]:=by
 rw[List.take_add_one,List.getElem?_eq_getElem h];simp only[Option.toList_some];cases n with
 | zero=>simp[G7]
 | succ n=>
  rw[Q5S _ _ (by intro e;have:=congrArg List.length e;simp only[List.length_take,List.length_nil] at this;omega)]
  simp
end Go.Hm
namespace Go.Proofs.Y
open Go.Emb Go.RowKit Go.Kd Go.Hm
variable {w : World} {K : Value -> World -> Prop} {σ : Q2}
theorem X1t {m:Hm.Met} {cs:List Value} (C:X3 w σ) (A:F9 σ m cs) (s:SmM m) (r:NmM m) (h: ∀w' E,Stp w σ w' E->K (S (Jh m)) w'):Q0 P F.b3 [.agg cs.toArray] w K:=Q3m (by
 obtain ⟨pv,H,R,rfl,f,J,L,M,N,O⟩:=A;unfold Sz X6 J3 X4 X2 J9 X1;refine Z6 C fun q w1 σ1 g j=>?_;have f:=f.up g
 have z: ∀n,(G7 (m.params.take n)).length<=101000000:=fun n=>by
  have:=Ic (m.params.take n) fun x t=>r.2 x (List.mem_of_mem_take t);have y:(m.params.take n).length<=1000000:=by rw[List.length_take];have:=s.1;omega
  have Q:(m.params.take n).length*101<=1000000*101:=Nat.mul_le_mul_right _ y;omega
 have c:=g.sat;refine O4 m.params.length (fun n a w'=>w'=w1/\a=S ([40]++G7 (m.params.take n))) ⟨rfl,by simp[G7]⟩ fun n a U d B i=>?_
 obtain ⟨D,rfl⟩:=i;subst D;have o:=z n
 (try simp only[↓M1,M1,Mb,reduceIte])
 refine ld c j rfl ?_;refine Q6 f ?_;refine Y9 ?_;refine Q4 (fun p=>?_) (fun p=>?_)
 .have b:n<m.params.length:=by simpa using p
  have t:=r.2 _ (List.getElem_mem b);refine M0 ?_;obtain ⟨u,_⟩:=f.elS b;refine Q4 (fun k=>?_) (fun k=>?_)
  .have e:0<n:=by have:=of_decide_eq_true k;omega
   refine H4 (by simp only[List.length_append,List.length_cons,List.length_nil];omega) ?_
   intro d
   (try simp only[↓M1,M1,Mb,reduceIte])
   refine ld c j rfl ?_;refine Y7 f b ?_;refine Y6 c u rfl ?_;refine H4 (by simp only[List.length_append,List.length_cons,List.length_nil];omega) ?_
   (try simp only[↓M1,M1,Mb,reduceIte])
   refine Z8 f.max b ⟨rfl,?_⟩;rw[Q5T b,if_pos e];simp
  .have e: ¬0<n:=by have:=of_decide_eq_false k;omega
   intro d
   (try simp only[↓M1,M1,Mb,reduceIte])
   refine ld c j rfl ?_;refine Y7 f b ?_;refine Y6 c u rfl ?_;refine H4 (by simp only[List.length_append,List.length_cons,List.length_nil];omega) ?_
   (try simp only[↓M1,M1,Mb,reduceIte])
   refine Z8 f.max b ⟨rfl,?_⟩;rw[Q5T b,if_neg e];simp
 .have b: ¬n<m.params.length:=by simpa using p
  rw[List.take_of_length_le Q5] at o⊢;refine H4 (by simp only[List.length_append,List.length_cons,List.length_nil];omega) ?_
  (try simp only[↓M1,M1,Mb,reduceIte])
  refine ld c j rfl ?_;refine H4 (by simp only[List.length_append,List.length_cons,List.length_nil];have:=r.1;omega) ?_
  exact h _ _ g)
end Go.Proofs.Y
namespace Go.Hm
open Go.Kd
def Edge (l:List Cla) (i j:Nat):Prop:= ∃c,l[i]? =some c/\ ∃u∈M6 c,U2 l u=some j
inductive Thr (E : Nat -> Nat -> Prop) (n : Nat) : Nat -> Nat -> Prop
  | one {i j : Nat} : E i j -> Thr E n i j
  | more {i m j : Nat} : E i m -> m < n -> Thr E n m j -> Thr E n i j
theorem Thr.cut {E:Nat->Nat->Prop} {n i j:Nat} (h:Thr E (n+1) i j):Thr E n i j\/(Thr E n i n/\Thr E n n j):=by
 induction h with
 | one h=>exact .inl (.one h)
 | @more i m j d f _ c=>
  by_cases e:m<n
  .rcases c with c | ⟨a,b⟩
   .exact .inl (.more d e c)
   .exact .inr ⟨.more d e a,b⟩
  .obtain rfl:m=n:=by omega
   rcases c with c | ⟨a,b⟩
   .exact .inr ⟨.one d,c⟩
   .exact .inr ⟨.one d,b⟩
theorem Thr.join {E:Nat->Nat->Prop} {n i k j:Nat} (h:Thr E n i k) (a:k<n) (g:Thr E n k j):Thr E n i j:=by
 induction h with
 | one h=>exact .more h a g
 | more b c _ d=>exact .more b c (d a g)
theorem Q8S {l:List Cla} (f:Yr l) {i j:Nat} (e:i<l.length):Edge l i j↔j<l.length/\ ∃u∈M6 l[i],u=J0 l j/\U2 l u=some j:=by
 unfold Edge;rw[List.getElem?_eq_getElem e];constructor
 .rintro ⟨c,d,u,b,a⟩
  cases d;exact ⟨(K6 a).1,u,b,(K6 a).2.symm,a⟩
 .rintro ⟨_,u,b,_,a⟩
  exact ⟨_,rfl,u,b,a⟩
theorem X6T {l:List Cla} (b:Yr l) {i:Nat} (a:i<l.length):lk l (J0 l i)=some l[i]:=by
 have:=Us b a
 rwa [List.getD_eq_getElem?_getD,List.getElem?_eq_getElem a] at this
theorem X7j {l:List Cla} (b:Yr l) {i j:Nat} (a:i<l.length) (h:Thr (Edge l) l.length i j):j<l.length/\De (lk l) (J0 l i) (J0 l j):=by
 induction h with
 | one h=>
  obtain ⟨d,u,f,e,g⟩:=(Q8S b a).1 h;obtain ⟨c,m,_⟩:=Wc g;refine ⟨d,_,X6T b a,u,f,?_⟩;subst e;exact .refl m
 | more d k _ n=>
  obtain ⟨o,p⟩:=n k;obtain ⟨_,u,f,e,g⟩:=(Q8S b a).1 d;refine ⟨o,_,X6T b a,u,f,?_⟩;subst e;exact p.reach
theorem X5R {l:List Cla} (y:Yr l) {a b:Q9} (h:Hm.Reach (lk l) a b): ∀i j,U2 l a=some i->U2 l b=some j->i=j\/Thr (Edge l) l.length i j:=by
 induction h with
 | refl _=>
  intro i j g f;rw[g] at f;cases f;exact .inl rfl
 | step p t s v=>
  rename_i a u b c;intro i j g f;obtain ⟨d,q⟩:=s.left;obtain ⟨_,_,k,n,r⟩:=N1 q;obtain ⟨w,e,m,_⟩:=Wc g;rw[p] at e;cases e;have o:Edge l i k:=⟨c,m,u,t,n⟩
  rcases v k j n f with rfl | hT
  .exact .inr (.one o)
  .exact .inr (.more o (K6 n).1 hT)
theorem X73 {l:List Cla} (e:Yr l) {i j:Nat} (m:i<l.length) (n:j<l.length) (h:De (lk l) (J0 l i) (J0 l j)):Thr (Edge l) l.length i j:=by
 obtain ⟨c,f,u,r,o⟩:=h;rw[X6T e m] at f;cases f;obtain ⟨d,p⟩:=o.left;obtain ⟨_,_,k,b,q⟩:=N1 p;have g:Edge l i k:=⟨_,List.getElem?_eq_getElem m,u,r,b⟩
 have a:U2 l (J0 l j)=some j:=by
  have:=e.find (List.getElem?_eq_getElem n);unfold J0;rw[List.getD_eq_getElem?_getD,List.getElem?_eq_getElem n];exact this
 rcases X5R e o k j b a with rfl | hT
 .exact .one g
 .exact .more g (K6 b).1 hT
theorem X96 {l:List Cla} (b:Yr l) {i j:Nat} (a:i<l.length) (c:j<l.length):Thr (Edge l) l.length i j↔Jv l (J0 l i) (J0 l j)=true:=by
 rw[Mh];exact ⟨fun h=>(X7j b a h).2,X73 b a c⟩
def Xf (l:List Cla):List (List Bool):=(List.range l.length).map fun i=>(List.range l.length).map fun j=>Jv l (J0 l i) (J0 l j)
def Q06 (m:Nat->Nat->Bool) (i j:Nat) (b:Bool):Nat->Nat->Bool:=fun x y=>if x=i/\y=j then b else m x y
structure Clos (E : Nat -> Nat -> Prop) (n k i j : Nat) (m : Nat -> Nat -> Bool) : Prop where
  sound : ∀ a b, m a b = true -> Thr E n a b
  full : ∀ a b, a < n -> b < n -> Thr E k a b -> m a b = true
  done : ∀ a b, a < n -> b < n -> (a < i \/ (a = i /\ b < j)) -> Thr E (k + 1) a b -> m a b = true
theorem Clos.next {E:Nat->Nat->Prop} {n k i j:Nat} {m:Nat->Nat->Bool} (h:Clos E n k i j m) (q:k<n) (s:i<n) (t:j<n):Clos E n k i (j+1) (Q06 m i j (m i j||(m i k&&m k j))):=by
 have f: ∀a b,m a b=true->Q06 m i j (m i j||(m i k&&m k j)) a b=true:=by
  intro a b c;unfold Q06
  split
  .rename_i e;rw[<-e.1,<-e.2,c];rfl
  .exact c
 refine ⟨fun a b c=>?_,fun a b o p l=>f a b (h.full a b o p l),fun a b o p r l=>?_⟩
 .unfold Q06 at c
  split at c
  .rename_i e
   obtain ⟨rfl,rfl⟩:=e;simp only[Bool.or_eq_true,Bool.and_eq_true] at c
   rcases c with d | ⟨d,g⟩
   .exact h.sound _ _ d
   .exact (h.sound _ _ d).join q (h.sound _ _ g)
  .exact h.sound _ _ c
 .by_cases e:a=i/\b=j
  .obtain ⟨rfl,rfl⟩:=e
   unfold Q06;rw[if_pos ⟨rfl,rfl⟩]
   rcases l.cut with d | ⟨d,g⟩
   .rw[h.full _ _ s t d];rfl
   .rw[h.full _ _ s q d,h.full _ _ q t g];simp
  .refine f a b (h.done a b o p ?_ l)
   rcases r with d | ⟨d,g⟩
   .exact .inl d
   .right;refine ⟨d,?_⟩
    have:b≠j:=fun u=>e ⟨d,u⟩;omega
theorem Clos.row {E:Nat->Nat->Prop} {n k i:Nat} {m:Nat->Nat->Bool} (h:Clos E n k i n m):Clos E n k (i+1) 0 m:=
 ⟨h.sound,h.full,fun a b d e f c=>h.done a b d e (by omega) c⟩
theorem Clos.round {E:Nat->Nat->Prop} {n k:Nat} {m:Nat->Nat->Bool} (h:Clos E n k n 0 m):Clos E n (k+1) 0 0 m:=
 ⟨h.sound,fun a b c e d=>h.done a b c e (.inl c) d,fun a b c e f d=>by omega⟩
theorem Clos.start {E:Nat->Nat->Prop} {n:Nat} {m:Nat->Nat->Bool} (h: ∀a b,a<n->(m a b=true↔E a b)) (g: ∀a b,n<=a->m a b=false):Clos E n 0 0 0 m:=by
 refine ⟨fun a b c=>?_,fun a b d i f=>?_,fun a b d i j f=>by omega⟩
 .by_cases d:a<n
  .exact .one ((h a b d).1 c)
  .rw[g a b (by omega)] at c;cases c
 .cases f with
  | one e=>exact (h a b d).2 e
  | more _ k _=>omega
theorem Clos.all {l:List Cla} (c:Yr l) {m:Nat->Nat->Bool} (h:Clos (Edge l) l.length l.length 0 0 m) {i j:Nat} (a:i<l.length) (b:j<l.length):m i j=Jv l (J0 l i) (J0 l j):=by
 rw[Bool.eq_iff_iff,<-X96 c a b];exact ⟨h.sound i j,h.full i j a b⟩
end Go.Hm
namespace Go.Emb
open Go.RowKit Go.Hm
variable {P : Program} {w w0 w' : World} {K : Value -> World -> Prop} {σ σ0 σ1 σ' : Q2}
theorem Y01 {t e:TypeId} {a n:Nat} {z:Value} [ts:TS P t e] [tz:TZ P e 1 a z] (j:X3 w σ) (m:z.cells= #[z]) (p:n<=1000000) (o:a*n<=281474976710656)
 (h: ∀b w',w.heap.size<=b->Stp w σ w' σ->Z7 σ w' b (List.replicate n z)->K (.slice (some ⟨b,0,none⟩) n n) w'):Cx P t (I n) (I n) w K:=by
 obtain ⟨i,k,d,g,c⟩:=tz.info
 have f:(i.bytes:Int)*(n:Int)<=281474976710656:=by
  rw[g];have:((a*n:Nat):Int)<=281474976710656:=by omega
  rwa [Int.natCast_mul] at this
 have l:=run_makeSlice (P:=P) w t e i z ts.h k c .i64 .i64 (n:Int) (n:Int) Q5 (Int.le_refl _) (by rw[d];simp only[Int.toNat_natCast];omega) f Q5
 unfold Cx;rw[Y8 l];simp only[Int.toNat_natCast,d,Nat.mul_one];refine h _ _ (Nat.le_refl _) (Stp.own j _) ⟨j.none (Nat.le_refl _),e,?_⟩;rw[heap_alloc_new,m];have:madeCells #[z] n=(List.replicate n z).toArray:=by rw[<-toList_madeCells_one,Array.toArray_toList]
 rw[this]
def Q9Z (n:Nat) (_:Q2) (b:Nat) (cs:List Value):Prop:=cs=[.slice (some ⟨b,0,none⟩) n n]
instance (n:Nat):Rep (Q9Z n):=⟨fun _ h=>h,fun h u hu=>by rw[h] at hu;simp at hu;subst hu;rfl⟩
def Q9X (σ:Q2) (xs:List Bool) (cs:List Value):Prop:= ∃v,cs=[v]/\Sl 1 Q0U σ v xs
instance:Rep Q9X:=⟨fun k h=>by obtain ⟨v,h1,h2⟩:=h;exact ⟨v,h1,h2.le k⟩,fun h u hu=>by
 obtain ⟨v,rfl,a,cap,rfl,_⟩:=h
 simp at hu;subst hu;rfl⟩
def bools (n:Nat) (f:Nat->Bool):List Value:=(List.range n).map fun j=> .bool (f j)
theorem Q3G {n:Nat} {f:Nat->Bool}:(bools n f).length=n:=by simp[bools]
theorem Q8I {n j:Nat} {f:Nat->Bool} (h:j<n):(bools n f)[j]? =some (.bool (f j)):=by simp[bools,h]
theorem Q8J {n j:Nat} {f:Nat->Bool} {b:Bool}:(bools n f).set j (.bool b)=bools n (fun x=>if x=j then b else f x):=by
 apply List.ext_getElem?;intro k;rw[List.getElem?_set]
 by_cases a:k<n
 .by_cases e:j=k
  .subst e;simp[bools,a]
  .have c: ¬k=j:=fun h=>e h.symm
   simp[bools,a,e,c]
 .simp[bools,a]
  intro e;omega
theorem X1V {n:Nat}:List.replicate n (Value.bool false)=bools n fun _=>false:=by
 apply List.ext_getElem?;intro k
 by_cases a:k<n<;>simp[bools,a]
def Jj (σ:Q2) (w:World) (a:List Nat) (n:Nat) (m:Nat->Nat->Bool):Prop:=a.Nodup/\ ∀i (h:i<a.length),Z7 σ w a[i] (bools n (m i))
theorem Jj.up {a:List Nat} {n:Nat} {m:Nat->Nat->Bool} (h:Jj σ w a n m) (k:Stp w σ w' σ'):Jj σ' w' a n m:=⟨h.1,fun i b=>(h.2 i b).up k⟩
theorem Jj.kp {a:List Nat} {n:Nat} {m:Nat->Nat->Bool} {D:Nat->Prop} (h:Jj σ w a n m) (k:Kpt D w w') (d: ∀b∈a,¬D b):Jj σ w' a n m:=⟨h.1,fun i c=>(h.2 i c).kp k (d _ (List.getElem_mem c))⟩
theorem Jj.lt {a:List Nat} {n:Nat} {m:Nat->Nat->Bool} (h:Jj σ w a n m) {b:Nat} (d:b∈a):b<w.heap.size/\σ b=none:=by
 obtain ⟨i,c,rfl⟩:=List.getElem_of_mem d;exact ⟨(h.2 i c).lt,(h.2 i c).1⟩
theorem Jj.snoc {d:List Nat} {n b:Nat} {m:Nat->Nat->Bool} {f:Nat->Bool} (h:Jj σ w d n m) (l:b∉d) (p:Z7 σ w b (bools n f)):Jj σ w (d++[b]) n (fun x=>if x=d.length then f else m x):=by
 refine ⟨by rw[List.nodup_append];exact ⟨h.1,by simp,fun a k c g e=>by simp at g;subst g;subst e;exact l k⟩,fun i o=>?_⟩
 rw[List.length_append,List.length_singleton] at o
 by_cases j:i<d.length
 .rw[List.getElem_append_left j]
  simp only[if_neg (show¬i=d.length by omega)]
  exact h.2 i j
 .obtain rfl:i=d.length:=by omega
  simp only[List.getElem_concat_length,if_true];exact p
theorem Jj.congr {a:List Nat} {n:Nat} {m m':Nat->Nat->Bool} (h:Jj σ w a n m) (c: ∀i,i<a.length->m i=m' i):Jj σ w a n m':=⟨h.1,fun i b=>c i b▸h.2 i b⟩
theorem Jj.keep {a:List Nat} {n:Nat} {m:Nat->Nat->Bool} (U:0<n) (u:n<=1000000): ∀{σ:Q2},Jj σ w a n m->Stp w0 σ0 w σ->(∀b∈a,w0.heap.size<=b)-> ∃σ',Stp w0 σ0 w σ'/\SLe σ σ'/\ ∀i (h:i<a.length),Sl 1 Q0U σ' (.slice (some ⟨a[i],0,none⟩) n n) ((List.range n).map (m i)):=by
 intro σ h C D
 have key: ∀k,k<=a.length-> ∃σ',Stp w0 σ0 w σ'/\SLe σ σ'/\(∀i (h:i<a.length),i<k->U0 σ' ⟨a[i],0,none⟩ (bools n (m i)))/\ ∀i (h:i<a.length),k<=i->σ' a[i]=none:=by
  intro k
  induction k with
  | zero=>intro _;exact ⟨σ,C,SLe.refl _,fun i _ h=>by omega,fun i c _=>(h.2 i c).1⟩
  | succ k M=>
   intro R;obtain ⟨σ1,f,g,l,s⟩:=M Q5;have d:k<a.length:=by omega
   have L:Z7 σ1 w a[k] (bools n (m k)):=⟨s k d (Nat.le_refl _),(h.2 k d).2⟩;obtain ⟨Q,z,A,r,B⟩:=L.keep f (D _ (List.getElem_mem d));refine ⟨Q,z,g.more ⟨r⟩,fun i c H=>?_,fun i c J=>?_⟩
   .by_cases e:i=k
    .subst e;exact A
    .exact (l i c Q5).le r
   .rw[B]
    .exact s i c Q5
    .intro e
     have:=List.nodup_iff_pairwise_ne.1 h.1;rw[List.pairwise_iff_getElem] at this;exact this k i d c Q5 e.symm
 obtain ⟨σ1,f,g,l,_⟩:=key a.length (Nat.le_refl _);refine ⟨σ1,f,g,fun i c=>⟨some ⟨a[i],0,none⟩,n,by simp,by simp,by simp only[maxLen];omega,fun e=>(by cases e),?_⟩⟩
 intro b E;obtain rfl:=Option.some.inj E;refine ⟨fun _=>rfl,fun j x p=>?_⟩;have t:j<n:=by have:=(List.getElem?_eq_some_iff.1 p).1;simpa using this
 obtain ⟨q0,arr,e,y,N,O⟩:=l i c c;have q:x=m i j:=by simp[t] at p;exact p.symm
 refine ⟨[.bool x],⟨Xj rfl _,arr,e,y,by rw[K8];exact N,fun k v o=>?_⟩,rfl,rfl⟩
 obtain rfl:k=0:=by cases k with
  | zero=>rfl
  | succ k=>simp at o
 simp at o
 rw[Zi,<-o,q];have:=O j _ (Q8I t)
 simpa using this
theorem Q5r {t e:TypeId} {sz b:Nat} {z:Value} [ts:TS P t e] [tz:TZ P e sz b z] {a:Addr} {n c i:Nat} (f:i<n) (d:K (.pointer (some (a.add (i*sz)))) w):indexAddr P t (.slice (some a) n c) (I i) w K:=by
 rw[Kz Q5 Q5]
 simpa using d
theorem Jj.nx {D:Nat->Prop} {a:List Nat} {n:Nat} {m:Nat->Nat->Bool} (h:Jj σ w a n m) (k:Nxt D w σ w' σ') (d: ∀b∈a,¬D b):Jj σ' w' a n m:=
 ⟨h.1,fun i c=>(h.2 i c).nx k (d _ (List.getElem_mem c))⟩
theorem Jj.set {a:List Nat} {n i j:Nat} {b:Bool} {m:Nat->Nat->Bool} (h:Jj σ w a n m) (f:i<a.length) (o:Upd w a[i] w') (g:Z7 σ w' a[i] ((bools n (m i)).set j (.bool b))):Jj σ w' a n (Q06 m i j b):=by
 refine ⟨h.1,fun k c=>?_⟩
 by_cases e:k=i
 .subst e
  rw[Q8J] at g;have:Q06 m k j b k=fun x=>if x=j then b else m k x:=by funext x;simp[Q06]
  rw[this];exact g
 .have:Q06 m i j b k=m k:=by funext x;simp[Q06,e]
  rw[this];refine (h.2 k c).upd o fun d=>e ?_
  rcases Nat.lt_trichotomy k i with hlt | hlt | hlt
  .have:=List.nodup_iff_pairwise_ne.1 h.1
   rw[List.pairwise_iff_getElem] at this;exact absurd d (this k i c f hlt)
  .exact hlt
  .have:=List.nodup_iff_pairwise_ne.1 h.1
   rw[List.pairwise_iff_getElem] at this;exact absurd d.symm (this i k f c hlt)
end Go.Emb
namespace Go.Proofs.Y
open Go.Emb Go.RowKit Go.Kd Go.Hm
variable {w : World} {K : Value -> World -> Prop} {σ : Q2} {l : List Cla} {v : Value}
def Es (l:List Cla) (i j:Nat):Bool:=match l[i]? with
 | none=>false
 | some c=>(M6 c).any fun u=>decide (U2 l u=some j)
theorem X5b (l:List Cla) (i j:Nat):Es l i j=true↔Hm.Edge l i j:=by
 unfold Es Hm.Edge;cases h:l[i]? with
 | none=>simp
 | some c=>simp[List.any_eq_true]
theorem X5c {l:List Cla} {i j:Nat} (h:l.length<=i):Es l i j=false:=by
 unfold Es;rw[List.getElem?_eq_none h]
set_option maxRecDepth 9999 in
set_option maxHeartbeats 4000000 in
theorem Q4V (hs:X3 w σ) (hl:Sl 8 M8 σ v l) (ho:Yr l) (hpos:0<l.length) (hlen:l.length<=1000) (hsm: ∀c∈l,Yy c)
 (h: ∀v' w' σ',Stp w σ w' σ'->Sl 1 Q9X σ' v' (Xf l)->K v' w'):Q0 P F.an [v] w K:=Q2b (by
 unfold Hw;simp only[Y5,X5,N2,Jn];unfold J3 V1 W9 Se X4 X2 X1;refine Bm (R:=Q9Z l.length) (e:=T.ab) (Stp.refl hs) L7 fun x0 w1 hk1 ha1 _=>?_;refine O4 l.length (fun n x w'=> ∃σ' bs,Stp w σ w' σ'/\W4 w.heap.size T.ab 1 (Q9Z l.length) σ' w' x bs/\Jj σ' w' bs l.length (Es l)/\bs.length=n/\ ∀b∈bs,w.heap.size<=b/\x.ownBlock≠some b) ⟨σ,[],hk1,ha1,⟨List.nodup_nil,by simp⟩,rfl,by simp⟩ fun n x w2 d hn hinv=>?_
 obtain ⟨σ2,bs,hS2,ha2,hM2,hbl,hb2⟩:=hinv;refine Q6 (hl.up hS2) ?_;refine Y9 ?_;refine Q4 (fun hc=>?_) (fun hc=>?_)
 .have hn':n<l.length:=by simpa using hc
  have hl2:=hl.up hS2;refine Q6 hl2 ?_;refine Y01 hS2.sat rfl Q5 Q5 fun b w3 hb3 hk3 hm3=>?_;rw[X1V] at hm3;obtain ⟨lv,fv,mv,p1,r1⟩:=hl2.elC hn';obtain ⟨g1,_,_,g4,g5⟩:=r1.parts;have hsmc:=hsm _ (List.getElem_mem hn');have hs3:=hk3.sat;refine V3 hs3 ?_
  (repeat refine Y3 Vq ?_)
  refine Q0f (w:=w3) (σ:=σ2) (R:=L1) (sz:=1) (e:=T.b) [l[n].super] (fun t w hb e=>?_) ?_
  .subst e;exact Xu hb.stp [_] [l[n].super] rfl rfl (by simp;rfl) rfl ⟨⟨rfl,g5⟩,trivial⟩ fun v' w' hk ha _=>Q3O hb hk ha
  (repeat refine Y3 Vq ?_)
  rintro t24 t25 t30 t31 t26 t27 t32 w4 hb4 rfl rfl rfl rfl rfl ⟨f27,a27⟩ rfl;refine Vn f27 a27 g1 rfl (by simp;have:=hsmc.1;omega) (by simp;have:=hsmc.1;omega) fun v5 w5 hn5 hS5 ha5 hat5=>?_
  obtain ⟨σ6,hS6,hv6,le6,_⟩:=ha5.keep hS5;have hv6:Sl 1 L1 σ6 v5 (M6 l[n]):=hv6;have hb3w:w.heap.size<=b:=Nat.le_trans hS2.bel.size hb3;have hm6:=hm3.up hS6;have ha6:=(ha2.up hk3).up hS6;have hM6:=(hM2.up hk3).up hS6;have hS26:=(hS2.trans hk3).trans hS6;have hxb: ∀k,x.ownBlock=some k->k≠b:=fun k e=>by have:=(ha2.mem k e).2.1;omega
  have hbbs:b∉bs:=fun e=>by have:=(hM2.lt e).1;omega
  clear hm3 ha2 hM2 hS6 hS5 ha5 a27 f27 hn5 hat5
  refine V7 (M6 l[n]).length (fun k w'=>Stp w σ w' σ6/\W4 w.heap.size T.ab 1 (Q9Z l.length) σ6 w' x bs/\Jj σ6 w' bs l.length (Es l)/\Z7 σ6 w' b (bools l.length fun j=>((M6 l[n]).take k).any fun u=>decide (U2 l u=some j)))
   ⟨hS26,ha6,hM6,hm6⟩ fun k w7 d7 hk hinv=>?_
  obtain ⟨hS7,ha7,hM7,hm7⟩:=hinv;refine Q6 hv6 ?_;refine Y9 ?_;refine Q4 (fun hc=>?_) (fun hc=>?_)
  .have hk':k<(M6 l[n]).length:=by simpa using hc
   refine M0 ?_;refine Y7 hv6 hk' ?_;obtain ⟨p2,p3⟩:=hv6.elS hk';refine Y6 hS7.sat p2 rfl ?_;refine Xl hS7.sat (hl.up hS7) ?_;refine T2 ?_;rw[Yw]
   have hnx: ∀f:Nat->Bool,(∀j,f j=(((M6 l[n]).take k).any (fun u=>decide (U2 l u=some j))||decide (U2 l (M6 l[n])[k]=some j)))->f=fun j=>((M6 l[n]).take (k+1)).any fun u=>decide (U2 l u=some j):=by
    intro f hf;funext j;rw[hf,E8 hk']
   cases hfc:U2 l (M6 l[n])[k] with
   | none=>
    simp only[Option.isSome_none,↓M1,M1,Mb,reduceIte];intro d;refine Z4 hv6.max hk' ⟨hS7,ha7,hM7,?_⟩;rw[<-hnx (fun j=>((M6 l[n]).take k).any fun u=>decide (U2 l u=some j)) (fun j=>by rw[hfc];simp)]
    exact hm7
   | some j=>
    have hj:=(K6 hfc).1;simp only[Option.isSome_some,E1,↓M1,M1,Mb,reduceIte];refine Q5r hj ?_;rw[Nat.mul_one];refine Vy hm7 (by rw[Q3G];exact hj) (by rfl) (by rfl) fun w8 u8 hm8=>?_
    intro d;rw[Q8J] at hm8;refine Z4 hv6.max hk' ⟨u8.stp hS7 hb3w hm7.1,ha7.kp (D:=(· =b)) (.of_upd u8 rfl) hxb,hM7.kp (D:=(· =b)) (.of_upd u8 rfl) (fun c hc e=>hbbs (e▸hc)),?_⟩;rw[<-hnx (fun x=>if x=j then true else _) (fun i=>?_)]
    .exact hm8
    .rw[hfc]
     by_cases e:i=j
     .subst e;simp
     .have: ¬j=i:=fun e'=>e e'.symm
      simp[e,this]
  .have hk': ¬k<(M6 l[n]).length:=by simpa using hc
   have hk0:k=(M6 l[n]).length:=by omega
   subst hk0;rw[List.take_of_length_le (Nat.le_refl _)] at hm7
   have hef:(fun j=>(M6 l[n]).any fun u=>decide (U2 l u=some j))=Es l n:=by
    funext j;unfold Es;rw[List.getElem?_eq_getElem hn']
   rw[hef] at hm7
   have hM8:=(hM7.snoc hbbs hm7).congr (m':=Es l) (fun i _=>by
    by_cases e:i=bs.length
    .rw[if_pos e,e,hbl]
    .rw[if_neg e])
   refine Un (R:=Q9Z l.length) (x:=b) hS7 ha7 rfl rfl rfl rfl Q5 Q5 fun s v' w9 σ9 hnx hS9 ha9 hat=>?_
   have hdis: ∀c∈bs++[b],w.heap.size<=c/\x.ownBlock≠some c:=by
    intro c hc
    rcases List.mem_append.1 hc with hc | hc
    .exact hb2 c hc
    .simp at hc;subst hc;exact ⟨hb3w,fun e=>hxb _ e rfl⟩
   have hlt9: ∀c∈bs++[b],c<w7.heap.size:=fun c hc=>(hM8.lt hc).1;refine C2 ?_;refine Z8 Q5 hn' ⟨σ9,bs++[b],hS9,ha9,hM8.nx hnx (fun c hc=>(hdis c hc).2),by rw[List.length_append,hbl];rfl,fun c hc=>⟨(hdis c hc).1,fun e=>?_⟩⟩
   rcases hat with hat | hat
   .exact (hdis c hc).2 (hat▸e)
   .have:=hat c e;have:=hlt9 c hc;omega
 .have hn0:n=l.length:=by
   have: ¬n<l.length:=by simpa using hc
   omega
  obtain ⟨σ8,hS8,hv8,le8,old8⟩:=ha2.keep hS2;have hlb:bs.length=l.length:=by omega
  have hM8:Jj σ8 w2 bs l.length (Es l):=⟨hM2.1,fun i hi=>⟨(old8 _ (fun e=>(hb2 _ (List.getElem_mem hi)).2 e.symm)).trans (hM2.2 i hi).1,(hM2.2 i hi).2⟩⟩
  have hpx: ∀i (hi:i<bs.length),U0 σ8 (K4 1 x i) [.slice (some ⟨bs[i],0,none⟩) l.length l.length]:=fun i hi=>by
   obtain ⟨cs,h1,_,h2⟩:=hv8.el hi;have h2:cs=_:=h2;subst h2;exact h1
  clear ha2 hM2 hS2 le8 old8;refine V7 l.length (fun k w'=> ∃m,Stp w σ w' σ8/\Jj σ8 w' bs l.length m/\Clos (Hm.Edge l) l.length k 0 0 m) ⟨Es l,hS8,hM8,Clos.start (fun a b _=>X5b l a b) (fun a b h=>X5c h)⟩ fun k w3 d3 hk3 hinv=>?_;obtain ⟨m3,hS3,hM3,hC3⟩:=hinv;refine Q6 (hl.up hS3) ?_;refine Y9 ?_;refine Q4 (fun hc=>?_) (fun hc=>?_)
  .have hk':k<l.length:=by simpa using hc
   refine V7 l.length (fun i w'=> ∃m,Stp w σ w' σ8/\Jj σ8 w' bs l.length m/\Clos (Hm.Edge l) l.length k i 0 m) ⟨m3,hS3,hM3,hC3⟩ fun i w4 d4 hi4 hinv=>?_;obtain ⟨m4,hS4,hM4,hC4⟩:=hinv;refine Q6 (hl.up hS4) ?_;refine Y9 ?_;refine Q4 (fun hc=>?_) (fun hc=>?_)
   .have hi':i<l.length:=by simpa using hc
    refine V7 l.length (fun j w'=> ∃m,Stp w σ w' σ8/\Jj σ8 w' bs l.length m/\Clos (Hm.Edge l) l.length k i j m) ⟨m4,hS4,hM4,hC4⟩ fun j w5 d5 hj5 hinv=>?_;obtain ⟨m5,hS5,hM5,hC5⟩:=hinv;refine Q6 (hl.up hS5) ?_;refine Y9 ?_;refine Q4 (fun hc=>?_) (fun hc=>?_)
    .have hj':j<l.length:=by simpa using hc
     have hi6:i<bs.length:=by omega
     have hk6:k<bs.length:=by omega
     have px_i:=hpx i hi6;have px_k:=hpx k hk6
     have hrd: ∀{w':World} {K:Value->World->Prop} {a b:Nat} {ha:a<bs.length},Hst w5 σ8 w' σ8->b<l.length->K (.bool (m5 a b)) w'->Q7 P T.s (.pointer (some ((⟨bs[a],0,none⟩:Addr).add (b*1)))) w' K:=fun hst hb hK=>by
      rw[Nat.mul_one];exact Zk (((hM5.up hst.stp).2 _ _).cell (Q8I hb)) hK
     refine V3 hS5.sat ?_
     (repeat (apply Y3;(· intros;(repeat (rename_i hx;subst hx));(repeat' (first | (with_reducible exact X9 rfl) | (with_reducible exact F7 (Stp.bel (by (repeat (first | exact Stp.refl (by (first | assumption | exact Stp.sat Q8 | exact Hst.sat Q8)) | assumption | refine Stp.trans ?_ (by first | assumption | exact Hst.stp Q8))))) rfl) | (with_reducible intro _) | (simp only[↓M2,M2,Mb,reduceIte]) | (with_reducible refine Q5r au ?_) | (with_reducible refine hrd au au ?_) | (with_reducible show Q7 _ _ _ _ _;first | refine Y6 aS aL aR ?_ | refine Z3 aS aL aR ?_ | refine ld aS aL aR ?_) | (with_reducible show indexAddr _ _ _ _ _ _;refine Y7 aL au ?_) | (with_reducible show U4 _ _ _ _ _ _ _ _;refine Q6 aL ?_) | (with_reducible show Xv _ _ _ _ _ _;refine W3 aR ?_) | (with_reducible show pick _ _ _ _ _ _;refine F6 ?_) | (apply Zv;intro hh;(try simp only[hh,reduceIte,↓M2,M2,Mb,reduceIte]))));done)))
     cases h1:m5 i j
     .simp only[reduceIte]
      (repeat (apply Y3;(· intros;(repeat (rename_i hx;subst hx));(repeat' (first | (with_reducible exact X9 rfl) | (with_reducible exact F7 (Stp.bel (by (repeat (first | exact Stp.refl (by (first | assumption | exact Stp.sat Q8 | exact Hst.sat Q8)) | assumption | refine Stp.trans ?_ (by first | assumption | exact Hst.stp Q8))))) rfl) | (with_reducible intro _) | (simp only[↓M2,M2,Mb,reduceIte]) | (with_reducible refine Q5r au ?_) | (with_reducible refine hrd au au ?_) | (with_reducible show Q7 _ _ _ _ _;first | refine Y6 aS aL aR ?_ | refine Z3 aS aL aR ?_ | refine ld aS aL aR ?_) | (with_reducible show indexAddr _ _ _ _ _ _;refine Y7 aL au ?_) | (with_reducible show U4 _ _ _ _ _ _ _ _;refine Q6 aL ?_) | (with_reducible show Xv _ _ _ _ _ _;refine W3 aR ?_) | (with_reducible show pick _ _ _ _ _ _;refine F6 ?_) | (apply Zv;intro hh;(try simp only[hh,reduceIte,↓M2,M2,Mb,reduceIte]))));done)))
      (intros;(repeat (rename_i hx;subst hx));(try simp only[↓M2,M2,Mb,reduceIte]))
      rename_i w6 hb6;refine Q5r hj' ?_;rw[Nat.mul_one];refine Eq.subst (motive:=fun V=>U8 P T.s (.pointer (some ((⟨bs[i],0,none⟩:Addr).add j))) V w6 _) (show Value.bool (m5 i j||(m5 i k&&m5 k j))=_ from by cases h2:m5 i k<;>simp[h1,h2]) ?_
      refine Vy ((hM5.up hb6.stp).2 i hi6) (by rw[Q3G];exact hj') (by rfl) (by rfl) fun w7 u7 hm7=>?_
      (try simp only[↓M1,M1,Mb,reduceIte])
      exact Z4 Q5 hj' ⟨_,u7.stp (hS5.trans hb6.stp) (hb2 _ (List.getElem_mem hi6)).1 hm7.1,(hM5.up hb6.stp).set hi6 u7 hm7,hC5.next hk' hi' hj'⟩
     .simp only[Bool.true_eq_false,reduceIte]
      (repeat (apply Y3;(· intros;(repeat (rename_i hx;subst hx));(repeat' (first | (with_reducible exact X9 rfl) | (with_reducible exact F7 (Stp.bel (by (repeat (first | exact Stp.refl (by (first | assumption | exact Stp.sat Q8 | exact Hst.sat Q8)) | assumption | refine Stp.trans ?_ (by first | assumption | exact Hst.stp Q8))))) rfl) | (with_reducible intro _) | (simp only[↓M2,M2,Mb,reduceIte]) | (with_reducible refine Q5r au ?_) | (with_reducible refine hrd au au ?_) | (with_reducible show Q7 _ _ _ _ _;first | refine Y6 aS aL aR ?_ | refine Z3 aS aL aR ?_ | refine ld aS aL aR ?_) | (with_reducible show indexAddr _ _ _ _ _ _;refine Y7 aL au ?_) | (with_reducible show U4 _ _ _ _ _ _ _ _;refine Q6 aL ?_) | (with_reducible show Xv _ _ _ _ _ _;refine W3 aR ?_) | (with_reducible show pick _ _ _ _ _ _;refine F6 ?_) | (apply Zv;intro hh;(try simp only[hh,reduceIte,↓M2,M2,Mb,reduceIte]))));done)))
      (intros;(repeat (rename_i hx;subst hx));(try simp only[↓M2,M2,Mb,reduceIte]))
      rename_i w6 hb6;refine Q5r hj' ?_;rw[Nat.mul_one];refine Eq.subst (motive:=fun V=>U8 P T.s (.pointer (some ((⟨bs[i],0,none⟩:Addr).add j))) V w6 _) (show Value.bool (m5 i j||(m5 i k&&m5 k j))=_ from by simp[h1]) ?_
      refine Vy ((hM5.up hb6.stp).2 i hi6) (by rw[Q3G];exact hj') (by rfl) (by rfl) fun w7 u7 hm7=>?_
      (try simp only[↓M1,M1,Mb,reduceIte])
      exact Z4 Q5 hj' ⟨_,u7.stp (hS5.trans hb6.stp) (hb2 _ (List.getElem_mem hi6)).1 hm7.1,(hM5.up hb6.stp).set hi6 u7 hm7,hC5.next hk' hi' hj'⟩
    .have hj0:j=l.length:=by
      have: ¬j<l.length:=by simpa using hc
      omega
     subst hj0;refine C2 ?_;exact Z4 Q5 hi' ⟨m5,hS5,hM5,hC5.row⟩
   .have hi0:i=l.length:=by
     have: ¬i<l.length:=by simpa using hc
     omega
    subst hi0;refine C2 ?_;exact Z4 Q5 hk' ⟨m4,hS4,hM4,hC4.round⟩
  .have hk0:k=l.length:=by
    have: ¬k<l.length:=by simpa using hc
    omega
   subst hk0;obtain ⟨σ9,hS9,le9,hrows⟩:=hM3.keep hpos Q5 hS3 (fun b hb=>(hb2 b hb).1);refine h _ _ _ hS9 ((hv8.lift le9).conv (by simp[Xf,hlb]) fun i hi hj cs hcs=>?_)
   have hcs:cs=_:=hcs;subst hcs;refine ⟨_,rfl,?_⟩;have:=hrows i hi
   have he:(Xf l)[i]=(List.range l.length).map (m3 i):=by
    have hi':i<l.length:=by omega
    simp only[Xf,List.getElem_map,List.getElem_range];apply List.map_congr_left;intro j hj;exact (Clos.all ho hC3 hi' (by simpa using hj)).symm
   rw[he];exact this)
end Go.Proofs.Y
namespace Go.Emb
open Go.RowKit Go.Hm
structure FinT (B : Nat) (F : Option Obj -> Prop) (w w' : World) : Prop where
  os : w'.os = w.os
  tape : w'.tape = w.tape
  output : w'.output = w.output
  size : w.heap.size <= w'.heap.size
  old : ∀ k, k < w.heap.size -> k < B -> w'.heap[k]? = w.heap[k]?
  new : ∀ k, k < w.heap.size -> w'.heap[k]? = w.heap[k]? \/ F (w'.heap[k]?)
variable {B : Nat} {F : Option Obj -> Prop} {w w' w0 : World} {σ : Q2} {v V : Value}
theorem FinT.of_below (h:Below w.heap.size w w'):FinT B F w w':=⟨h.os,h.tape,h.output,h.size,fun k a _=>h.block k a,fun k a=> .inl (h.block k a)⟩
theorem FinT.of_upd {b:Nat} (h:Upd w b w') (c:B<=b) (hF:F (w'.heap[b]?)):FinT B F w w':=
 ⟨h.os,h.tape,h.output,by rw[h.size];exact Nat.le_refl _,fun k a hB=>h.block k Q5,fun k a=>by
  by_cases e:k=b
  .subst e;exact .inr hF
  .exact .inl (h.block k e)⟩
theorem FinT.hst (h:FinT w0.heap.size F w w') (c:X3 w0 σ) (a:Hst w0 σ w σ):Hst w0 σ w' σ:=
 ⟨Stp.of_below c ⟨h.os.trans a.stp.bel.os,h.tape.trans a.stp.bel.tape,h.output.trans a.stp.bel.output,Nat.le_trans a.stp.bel.size h.size,fun k b=>(h.old k (Nat.lt_of_lt_of_le b a.stp.bel.size) b).trans (a.stp.bel.block k b)⟩⟩
theorem X9G {A:(World->World->Prop)->(World->Prop)->Prop} (F:Option Obj->Prop) (a:X3 w σ) (h:A (FinT w.heap.size F) (fun w'=>Hst w σ w' σ)):dr w A:=
 Q13 _ _ ⟨Stp.of_below a (Below.refl _ _).drew⟩ (fun _ _ b c=>c.hst a b) h
theorem X0q (h:V=v):dk (FinT B F) (fun v _=>V=v) w v w:=⟨.of_below (Below.refl _ _),h⟩
theorem X8i (a:Below w.heap.size w w') (h:V=v):dk (FinT B F) (fun v _=>V=v) w v w':=⟨.of_below a,h⟩
def X9k (B n:Nat) (F:Option Obj->Prop) (v:Value) (w:World):Prop:= ∃g,v= .pointer (some ⟨g,0,none⟩)/\B<=g/\((∃cs:List Value,∃e,cs.length=n/\w.heap[g]? =some (.cells cs.toArray e (0,0)))\/F (w.heap[g]?))
def X9j (B:Nat) (F:Option Obj->Prop) (v:Value) (w:World):Prop:= ∃g,v= .pointer (some ⟨g,0,none⟩)/\B<=g/\F (w.heap[g]?)
theorem Q1c {w:World} {g:Nat} {o:Obj} (h:w.heap[g]? =some o):g<w.heap.size:=(Array.getElem?_eq_some_iff.1 h).1
theorem X4A {n:Nat} (hF: ¬F none):Oc (FinT B F) (X9k B n F):=by
 rintro v w w' ⟨g,rfl,hB,b⟩ d
 have a:g<w.heap.size:=by
  rcases b with ⟨cs,e,_,h⟩ | h
  .exact Q1c h
  .cases c:w.heap[g]? with
   | none=>rw[c] at h;exact absurd h hF
   | some o=>exact Q1c c
 rcases d.new g a with h | h
 .exact ⟨g,rfl,hB,by rw[h];exact b⟩
 .exact ⟨g,rfl,hB, .inr h⟩
theorem X4z (hF: ¬F none):Oc (FinT B F) (X9j B F):=by
 rintro v w w' ⟨g,rfl,hB,a⟩ d
 have b:g<w.heap.size:=by
  cases c:w.heap[g]? with
  | none=>rw[c] at a;exact absurd a hF
  | some o=>exact Q1c c
 rcases d.new g b with h | h
 .exact ⟨g,rfl,hB,by rw[h];exact a⟩
 .exact ⟨g,rfl,hB,h⟩
end Go.Emb
namespace Go.Hm
open Go.Kd
theorem X2m {a b:List Hm.Met} (h: ∀m,m∈a↔m∈b):Rt a=Rt b:=by
 rw[Bool.eq_iff_iff];simp only[Rt,List.any_eq_true];constructor
 .rintro ⟨x,d,y,e,c⟩;exact ⟨x,(h x).1 d,y,(h y).1 e,c⟩
 .rintro ⟨x,d,y,e,c⟩;exact ⟨x,(h x).2 d,y,(h y).2 e,c⟩
theorem X6k {α:Type} {a b:List α} {p:α->Bool} (h: ∀m,m∈a↔m∈b):a.any p=b.any p:=by
 rw[Bool.eq_iff_iff];simp only[List.any_eq_true];constructor
 .rintro ⟨x,c,y⟩;exact ⟨x,(h x).1 c,y⟩
 .rintro ⟨x,c,y⟩;exact ⟨x,(h x).2 c,y⟩
def Vv (m:Hm.Met):List Q9:=m.params++if m.result=[] then [] else [m.result]
def Md (c:Cla):List Q9:=c.fields.map (·.kind)++c.methods.flatMap Vv
theorem X5s {l:List Cla} {c:Cla}:(Md c).any (fun s=> !B2 l s)=Qd l c:=by
 unfold Md Qd Vv;rw[List.any_append,List.any_map,List.any_flatMap]
 congr 1
 congr 1
 funext m
 rw[List.any_append]
 by_cases e:m.result=[]
 .simp[e]
 .simp[e,Bool.or_comm]
def upB (l:List Cla) (i k:Nat):Bool:=decide (k=i)||Jv l (J0 l i) (J0 l k)
def Ju (l:List Cla) (i n:Nat):List Hm.Met:=(List.range n).flatMap fun k=>if upB l i k then (l.getD k Cla.zero).methods else []
theorem X44 {l:List Cla} {i n:Nat}:Ju l i (n+1)=Ju l i n++if upB l i n then (l.getD n Cla.zero).methods else []:=by
 unfold Ju;rw[List.range_succ,List.flatMap_append]
 simp
theorem Q9b {l:List Cla} (r:Yr l) {i:Nat} (h:i<l.length) (m:Hm.Met):m∈Ju l i l.length↔m∈Dl l (J0 l i):=by
 unfold Ju Dl;simp only[List.mem_flatMap,List.mem_range];have b: ∀k,k<l.length->lk l (J0 l k)=some (l.getD k Cla.zero):=fun k g=>Us r g;constructor
 .rintro ⟨k,g,d⟩
  split at d
  .rename_i hu
   refine ⟨J0 l k,?_,by rw[b k g];exact d⟩
   rw[Nh,Q4U];simp only[upB,Bool.or_eq_true,decide_eq_true_eq,Mh] at hu
   rcases hu with rfl | hu
   .exact .inl ⟨rfl,_,b _ g⟩
   .exact .inr hu
  .simp at d
 .rintro ⟨u,hu,d⟩
  rw[Nh] at hu;obtain ⟨c,p⟩:=hu.right;obtain ⟨A,q,j,y,a⟩:=N1 p;obtain ⟨n,z⟩:=List.getElem?_eq_some_iff.1 a
  have f:J0 l j=u:=by
   unfold J0;rw[List.getD_eq_getElem?_getD,a];exact A
  refine ⟨j,n,?_⟩;rw[p] at d
  have:upB l i j=true:=by
   simp only[upB,Bool.or_eq_true,decide_eq_true_eq,Mh];rw[Q4U] at hu
   rcases hu with ⟨e,_⟩ | hu
   .left
    have s:=b i h;rw[e,<-f] at s;have o:=Yr.find r (i:=i) (c:=l[i]) (List.getElem?_eq_getElem h);have t:l[i].name=J0 l i:=by unfold J0;rw[List.getD_eq_getElem?_getD,List.getElem?_eq_getElem h];rfl
    rw[t,e,y] at o
    simpa using o
   .right;rw[f];exact hu
  rw[if_pos this,List.getD_eq_getElem?_getD,a];exact d
theorem X5z {l:List Cla} {i n:Nat} {m:Hm.Met} (h:m∈Ju l i n) (e:n<=l.length): ∃c∈l,m∈c.methods:=by
 unfold Ju at h;simp only[List.mem_flatMap,List.mem_range] at h;obtain ⟨k,d,a⟩:=h
 split at a
 .have b:k<l.length:=by omega
  rw[List.getD_eq_getElem?_getD,List.getElem?_eq_getElem b] at a;exact ⟨l[k],List.getElem_mem _,a⟩
 .simp at a
def Zb (a:List Hm.Met) (x y:Nat):Bool:=decide ((a.getD x Hm.Met.zero).name=(a.getD y Hm.Met.zero).name)&& !decide (Jh (a.getD x Hm.Met.zero)=Jh (a.getD y Hm.Met.zero))
theorem Tw {α:Type} {l:List α} {d:α} {n:Nat} (h:n<l.length):l.getD n d=l[n]:=by rw[List.getD_eq_getElem?_getD,List.getElem?_eq_getElem h];rfl
theorem X5H {a:List Hm.Met} {x y:Nat} (b:x<a.length) (c:y<a.length) (h:Zb a x y=true):Rt a=true:=by
 unfold Rt;rw[List.any_eq_true];refine ⟨a[x],List.getElem_mem _,?_⟩;rw[List.any_eq_true];refine ⟨a[y],List.getElem_mem _,?_⟩;unfold Zb at h
 rwa [Tw b,Tw c] at h
theorem X74 {d:List Hm.Met} (h: ∀x y,x<d.length->y<x->Zb d x y=false):Rt d=false:=by
 unfold Rt;rw[List.any_eq_false];intro a j;rw[List.any_eq_true];rintro ⟨b,k,e⟩;obtain ⟨x,g,rfl⟩:=List.getElem_of_mem j;obtain ⟨y,i,rfl⟩:=List.getElem_of_mem k
 have f:Zb d y x=Zb d x y:=by
  unfold Zb
  congr 1
  .rw[Bool.eq_iff_iff];simp[eq_comm]
  .congr 1;rw[Bool.eq_iff_iff];simp[eq_comm]
 have c:Zb d x y=true:=by unfold Zb;rw[Tw g,Tw i];exact e
 rcases Nat.lt_trichotomy x y with hlt | heq | hlt
 .rw[<-f,h y x i hlt] at c;cases c
 .subst heq;simp[Zb] at c
 .rw[h x y g hlt] at c;cases c
end Go.Hm
namespace Go.Proofs.Y
open Go.Emb Go.RowKit Go.Kd Go.Hm
variable {w : World} {K : Value -> World -> Prop} {σ : Q2} {l : List Cla} {v : Value}
theorem Q1d {c:Cla} (h:Wi c=false):c.fields.length<=32/\c.methods.length<=32/\ ∀m∈c.methods,m.params.length<=32:=by
 simp only[Wi,Bool.or_eq_false_iff,decide_eq_false_iff_not,List.any_eq_false] at h;obtain ⟨⟨⟨a,d⟩,e⟩,f⟩:=h;refine ⟨by omega,by omega,fun m b=>?_⟩
 have:=a m b;simp only[Dc,Bool.or_eq_true,decide_eq_true_eq,not_or] at this;omega
set_option maxRecDepth 9999 in
set_option maxHeartbeats 8000000 in
theorem X2A {i:Nat} (hs:X3 w σ) (hv:Sl 8 M8 σ v l) (ok:Ok l) (own:Yr l) (hlen:l.length<=1000) (hmn: ∀c∈l,Wi c=false) (hi:i<l.length)
 (h: ∀w' σ',Stp w σ w' σ'->K (I (O7 l l[i])) w'):Q0 P F.bo [v,I i] w K:=Q04 (by
 unfold Oo;simp only[Y5,X5,N2,Jn,L9];unfold J1 zhi X6 J3 V1 X8 W9 X4 X2 J9 X1;obtain ⟨lv,fv,mv,p0,r0⟩:=hv.elC hi;refine Y7 hv hi ?_;refine Z3 hs p0 rfl ?_;refine Z9 hs (by rfl) rfl (Rep.one r0) fun q w1 σ1 hk1 hq1=>?_
 have r1:=RCl_lift r0 ⟨hk1.le⟩;obtain ⟨_,gf,gm,g4,_⟩:=r1.parts;have hv1:=hv.up hk1;have hnm:=ok.nm _ (List.getElem_mem hi);have hcm:=hmn _ (List.getElem_mem hi);have hname:J0 l i=l[i].name:=Q1G hi;generalize hcE:l[i]=c at*;obtain ⟨mf,mm,mp⟩:=Q1d hcm;have e64:Uz l c=true->O7 l c=64:=fun e=>by unfold O7;simp[e]
 have e65:Uz l c=false->Qd l c=true->O7 l c=65:=fun e e2=>by unfold O7;simp[e,e2]
 have e66:Uz l c=false->Qd l c=false->Wd l c=true->O7 l c=66:=fun e e2 e3=>by unfold O7;simp[e,e2,e3]
 have e67:Uz l c=false->Qd l c=false->Wd l c=false->Cw l c=true->O7 l c=67:=fun e e2 e3 e4=>by unfold O7;simp[e,e2,e3,e4]
 have e0:Uz l c=false->Qd l c=false->Wd l c=false->Cw l c=false->O7 l c=0:=fun e e2 e3 e4=>by unfold O7;simp[e,e2,e3,e4]
 generalize O7 l c=R at*;clear p0 r0 r1 hcm;refine V7 c.fields.length (fun n w'=> ∃σ',Stp w σ w' σ'/\SLe σ1 σ'/\(c.fields.take n).any (fun f=>(Rv l c.super f.name).isSome)=false) ⟨σ1,hk1,SLe.refl _,rfl⟩ fun n w2 d hn hinv=>?_;obtain ⟨σ2,hS2,le2,hno⟩:=hinv;have hq2:=hq1.lift le2;have gf2:=gf.lift le2
 (try simp only[↓M1,M1,Mb,reduceIte])
 refine ld hS2.sat hq2 rfl ?_;refine Q6 gf2 ?_;refine Y9 ?_;refine Q4 (fun hc=>?_) (fun hc=>?_)
 .have hn':n<c.fields.length:=by simpa using hc
  obtain ⟨pf,_⟩:=gf2.elF hn';have hs2:=hS2.sat;refine V3 hs2 ?_
  (repeat refine Y3 Vq ?_)
  (intros;(repeat (rename_i hx;subst hx));(try simp only[↓M2,M2,Mb,reduceIte]))
  rename_i w3 hb3;refine X5T hb3.sat (hv.up (hS2.trans hb3.stp)) ok.acy hlen ok.sm fun w4 σ4 hk4=>?_;refine T2 ?_;rw[Yw];have hnx:=E8 (p:=fun f:Fld=>(Rv l c.super f.name).isSome) hn';cases hp:(Rv l c.super c.fields[n].name).isSome with
  | true=>
   (try simp only[↓M1,M1,Mb,reduceIte])
   rw[hp,Bool.or_true] at hnx;have:R=64:=e64 (P0 hn' hp);subst this;exact h _ _ ((hS2.trans hb3.stp).trans hk4)
  | false=>
   (try simp only[↓M1,M1,Mb,reduceIte])
   exact Z4 gf.max hn' ⟨σ4,(hS2.trans hb3.stp).trans hk4,le2.more ⟨(hb3.stp.trans hk4).le⟩,by rw[hnx,hno,hp];rfl⟩
 have hA:Uz l c=false:=by
  have hn': ¬n<c.fields.length:=by simpa using hc
  rw[B7 hn'] at hno;exact hno
 clear hno hc hn e64;refine Bm (R:=L1) (e:=T.b) hS2 L7 fun x3 w3 hk3 ha3 _=>?_;have hS3:=hS2.trans hk3;refine O4 c.fields.length (fun n x w'=> ∃σ',Stp w σ w' σ'/\SLe σ1 σ'/\W4 w.heap.size T.b 1 L1 σ' w' x ((c.fields.take n).map (·.kind))) ⟨σ2,hS3,le2,ha3⟩ fun n x w4 d hn hinv=>?_;obtain ⟨σ4,hS4,le4,ha4⟩:=hinv;have hq4:=hq1.lift le4;have gf4:=gf.lift le4
 (try simp only[↓M1,M1,Mb,reduceIte])
 refine ld hS4.sat hq4 rfl ?_;refine Q6 gf4 ?_;refine Y9 ?_;refine Q4 (fun hc=>?_) (fun hc=>?_)
 .have hn':n<c.fields.length:=by simpa using hc
  obtain ⟨pf,rf⟩:=gf4.elF hn';have hkl:=(hnm.2.1 _ (List.getElem_mem hn')).2
  (try simp only[↓M1,M1,Mb,reduceIte])
  refine ld hS4.sat hq4 rfl ?_;refine Y7 gf4 hn' ?_
  (try simp only[↓M1,M1,Mb,reduceIte])
  refine ld hS4.sat pf rfl ?_;refine Un (R:=L1) (x:=c.fields[n].kind) hS4 ha4 ⟨rfl,Nat.le_trans hkl L7⟩ rfl rfl rfl (by rw[List.length_map,List.length_take];omega) (by rw[List.length_map,List.length_take];omega) fun s v' w5 σ5 hnx hS5 ha5 _=>?_
  (try simp only[↓M1,M1,Mb,reduceIte])
  refine Z8 gf.max hn' ⟨σ5,hS5,le4.more hnx.le,?_⟩;rw[List.take_add_one,List.getElem?_eq_getElem hn',List.map_append];exact ha5
 rw[List.take_of_length_le (by
  have: ¬n<c.fields.length:=by simpa using hc
  omega)] at ha4
 clear hc hn hk3 ha3 hS3 hS2 le2 hq2 gf2 hq4 gf4
 have hkl: ∀n,(c.fields.map (·.kind)++(c.methods.take n).flatMap Vv).length<=2000:=fun n=>by
  have h1:=Jd Vv 33 (c.methods.take n) fun m hm=>by
   have:=mp m (List.mem_of_mem_take hm);unfold Vv
   split<;>simp<;>omega
  have h2:(c.methods.take n).length<=32:=by rw[List.length_take];omega
  have h3:(c.methods.take n).length*33<=32*33:=Nat.mul_le_mul_right _ h2;rw[List.length_append,List.length_map];omega
 refine O4 c.methods.length (fun n x w'=> ∃σ',Stp w σ w' σ'/\SLe σ1 σ'/\W4 w.heap.size T.b 1 L1 σ' w' x (c.fields.map (·.kind)++(c.methods.take n).flatMap Vv)) ⟨σ4,hS4,le4,by simpa using ha4⟩ fun n x w5 d hn hinv=>?_
 clear ha4 hS4 le4;obtain ⟨σ5,hS5,le5,ha5⟩:=hinv;have hq5:=hq1.lift le5;have gm5:=gm.lift le5;have hkn:=hkl n
 (try simp only[↓M1,M1,Mb,reduceIte])
 refine ld hS5.sat hq5 rfl ?_;refine Q6 gm5 ?_;refine Y9 ?_;refine Q4 (fun hc=>?_) (fun hc=>?_)
 .have hn':n<c.methods.length:=by simpa using hc
  obtain ⟨pv,cv,hv',pm,rm⟩:=gm5.elM hn';obtain ⟨gp,_,_,_,gr,_⟩:=rm.parts;have hpn:=mp _ (List.getElem_mem hn');have hrl:=(hnm.2.2 _ (List.getElem_mem hn')).1
  have hnx:(c.methods.take (n+1)).flatMap Vv=(c.methods.take n).flatMap Vv++Vv c.methods[n]:=by
   rw[List.take_add_one,List.getElem?_eq_getElem hn',List.flatMap_append];simp
  refine M0 ?_
  (try simp only[↓M1,M1,Mb,reduceIte])
  refine ld hS5.sat hq5 rfl ?_;refine Y7 gm5 hn' ?_
  (try simp only[↓M1,M1,Mb,reduceIte])
  refine ld hS5.sat pm rfl ?_;refine Vn hS5 ha5 gp rfl Q5 Q5 fun v6 w6 hn6 hS6 ha6 _=>?_
  (try simp only[↓M1,M1,Mb,reduceIte])
  refine ld hS6.sat hq5 rfl ?_;refine Y7 gm5 hn' ?_
  (try simp only[↓M1,M1,Mb,reduceIte])
  refine ld hS6.sat pm rfl ?_;refine Jb ?_
  by_cases he:c.methods[n].result=[]
  .simp only[he,decide_true,Bool.not_true,↓M1,M1,Mb,reduceIte]
   intro d;refine Z8 gm.max hn' ⟨σ5,hS6,le5,?_⟩;rw[hnx];unfold Vv;rw[if_pos he,List.append_nil,<-List.append_assoc];exact ha6
  .simp only[he,decide_false,Bool.not_false,↓M1,M1,Mb,reduceIte]
   refine ld hS6.sat hq5 rfl ?_;refine Y7 gm5 hn' ?_
   (try simp only[↓M1,M1,Mb,reduceIte])
   refine ld hS6.sat pm rfl ?_;refine Un (R:=L1) (x:=c.methods[n].result) hS6 ha6 ⟨rfl,Nat.le_trans hrl L7⟩ rfl rfl rfl (by rw[List.length_append];omega) (by rw[List.length_append];omega) fun s v' w7 σ7 hn7 hS7 ha7 _=>?_
   intro d
   (try simp only[↓M1,M1,Mb,reduceIte])
   refine Z8 gm.max hn' ⟨σ7,hS7,le5.more hn7.le,?_⟩;rw[hnx];unfold Vv at ha7⊢;rw[if_neg he]
   simpa only[List.append_assoc] using ha7
 rw[List.take_of_length_le (by
  have: ¬n<c.methods.length:=by simpa using hc
  omega)] at ha5
 have hkn:=hkl c.methods.length;rw[List.take_of_length_le (Nat.le_refl _)] at hkn;have hkE:Qd l c=(Md c).any (fun s=> !B2 l s):=X5s.symm
 have hkb: ∀s∈Md c,s.length<=V4:=fun s hs=>by
  unfold Md at hs
  rcases List.mem_append.1 hs with hs | hs
  .obtain ⟨f,hf,rfl⟩:=List.mem_map.1 hs
   exact Nat.le_trans (hnm.2.1 f hf).2 L7
  .obtain ⟨m,hm,hs⟩:=List.mem_flatMap.1 hs
   unfold Vv at hs
   rcases List.mem_append.1 hs with hs | hs
   .exact Nat.le_trans ((hnm.2.2 m hm).2 s hs) L7
   .split at hs
    .simp at hs
    .simp at hs;subst hs;exact Nat.le_trans (hnm.2.2 m hm).1 L7
 obtain ⟨σ6,hS6,hv6,lee6,_⟩:=ha5.keep hS5;have le6:=le5.more ⟨lee6⟩;clear ha5 hq5 gm5 hc hn;change Sl 1 L1 σ6 x (Md c) at hv6;refine V7 (Md c).length (fun n w'=>Stp w σ w' σ6/\((Md c).take n).any (fun s=> !B2 l s)=false) ⟨hS6,rfl⟩ fun n w7 d hn hinv=>?_;obtain ⟨hS7,hno⟩:=hinv;refine Q6 hv6 ?_;refine Y9 ?_;refine Q4 (fun hc=>?_) (fun hc=>?_)
 .have hn':n<(Md c).length:=by simpa using hc
  refine Y7 hv6 hn' ?_;obtain ⟨pk,_⟩:=hv6.elS hn';refine Y6 hS7.sat pk rfl ?_;refine X60 hS7.sat (hv.up hS7) (hkb _ (List.getElem_mem hn')) ?_;have hnx:=E8 (p:=fun s=> !B2 l s) hn';cases hp:B2 l (Md c)[n] with
  | false=>
   (try simp only[↓M1,M1,Mb,reduceIte])
   have:R=65:=e65 hA (by rw[hkE];exact P0 hn' (by simp[hp]))
   subst this;exact h _ _ hS7
  | true=>
   (try simp only[↓M1,M1,Mb,reduceIte])
   exact Z4 hv6.max hn' ⟨hS7,by rw[hnx,hno,hp];rfl⟩
 have hB:Qd l c=false:=by
  have hn': ¬n<(Md c).length:=by simpa using hc
  rw[B7 hn'] at hno;rw[hkE];exact hno
 clear hno hc hn e65 hkE hkb hkn hkl hS5 le5 lee6 hv6;refine Q4V hS7.sat (hv.up hS7) own Q5 hlen ok.sm fun vb w8 σ8 hk8 hb8=>?_;have hS8:=hS7.trans hk8;refine Bm (R:=F9) (e:=T.d) hS8 L7 fun x9 w9 hk9 ha9 _=>?_
 have hml: ∀n,n<=l.length->(Ju l i n).length<=32000:=fun n hn=>by
  unfold Ju
  have h1:=Jd (fun k=>if upB l i k then (l.getD k Cla.zero).methods else []) 32 (List.range n) fun k hk=>by
   have hk':k<l.length:=by have:=List.mem_range.1 hk;omega
   split
   .rw[Tw hk'];exact (Q1d (hmn _ (List.getElem_mem _))).2.1
   .simp
  rw[List.length_range] at h1;have h3:n*32<=1000*32:=Nat.mul_le_mul_right _ Q5;omega
 have hbl:(Xf l).length=l.length:=by simp[Xf]
 refine O4 l.length (fun n x w'=> ∃σ',Stp w σ w' σ'/\SLe σ1 σ'/\SLe σ8 σ'/\W4 w.heap.size T.d 7 F9 σ' w' x (Ju l i n)) ⟨σ8,hS8.trans hk9,le6.more ⟨hk8.le⟩,SLe.refl _,ha9⟩ fun n x w10 d hn hinv=>?_;clear ha9 hk9 hS7 hS8 le6 hS6 hk8;obtain ⟨σ10,hS10,le10,leb,ha10⟩:=hinv;have hv10:=hv.up hS10;refine Q6 hv10 ?_;refine Y9 ?_;refine Q4 (fun hc=>?_) (fun hc=>?_)
 .have hn':n<l.length:=by simpa using hc
  have hmn1:=hml n hn;have hsuc:=X44 (l:=l) (i:=i) (n:=n);rw[Tw hn'] at hsuc;obtain ⟨lv2,fv2,mv2,p2,r2⟩:=hv10.elC hn';obtain ⟨_,_,g3,_,_⟩:=r2.parts;have hmn2:=(Q1d (hmn _ (List.getElem_mem hn'))).2.1;refine Qt (fun z w'=>Stp w σ w' σ10/\W4 w.heap.size T.d 7 F9 σ10 w' z (Ju l i (n+1))) ?_ (fun z d w' hz=>?_)
  .refine E7 ?_
   have happ: ∀{J:Value->World->Prop},upB l i n=true->(∀z w',Stp w σ w' σ10->W4 w.heap.size T.d 7 F9 σ10 w' z (Ju l i (n+1))->J z w')->
    U4 P .append [T.k,T.k] T.k [false,false] [x,mv2] w10 J:=fun hu hJ=>
    Vn hS10 ha10 g3 rfl Q5 Q5 fun v' w' _ hS' ha' _=>hJ v' w' hS' (by rw[hsuc,if_pos hu];exact ha')
   by_cases e:n=i
   .have e1:decide ((n:Int)=(i:Int))=true:=by simp[e]
    rw[e1]
    (try simp only[↓M1,M1,Mb,reduceIte])
    refine Y7 hv10 hn' ?_
    (try simp only[↓M1,M1,Mb,reduceIte])
    refine ld hS10.sat p2 rfl ?_;exact happ (by simp[upB,e]) fun z w' h1 h2=>⟨h1,h2⟩
   .have e1:decide ((n:Int)=(i:Int))=false:=by rw[decide_eq_false_iff_not];omega
    rw[e1];obtain ⟨cs1,pb,_,rv,rfl,rb⟩:=(hb8.lift leb).el (i:=i) (by rw[hbl];exact hi)
    have hrow:(Xf l)[i]'(by rw[hbl];exact hi)=(List.range l.length).map fun j=>Jv l (J0 l i) (J0 l j):=by simp[Xf]
    rw[hrow] at rb;obtain ⟨cs2,pb2,_,hcs2⟩:=rb.el (i:=n) (by simpa using hn')
    have hcs2:cs2=_:=hcs2;subst hcs2;simp only[List.getElem_map,List.getElem_range] at pb2
    (try simp only[↓M1,M1,Mb,reduceIte])
    refine Y7 (hb8.lift leb) (by rw[hbl];exact hi) ?_
    refine Y6 hS10.sat pb rfl ?_;refine Y7 rb (by simpa using hn') ?_
    refine Y6 hS10.sat pb2 rfl ?_
    (try simp only[↓M1,M1,Mb,reduceIte])
    cases ho:Jv l (J0 l i) (J0 l n) with
    | true=>
     (try simp only[↓M1,M1,Mb,reduceIte])
     refine Y7 hv10 hn' ?_
     (try simp only[↓M1,M1,Mb,reduceIte])
     refine ld hS10.sat p2 rfl ?_;exact happ (by simp[upB,ho]) fun z w' h1 h2=>⟨h1,h2⟩
    | false=>
     (try simp only[↓M1,M1,Mb,reduceIte])
     refine ⟨hS10,?_⟩;have:upB l i n=false:=by simp[upB,ho,e]
     rw[hsuc,this]
     simpa using ha10
  .obtain ⟨hS',ha'⟩:=hz
   (try simp only[↓M1,M1,Mb,reduceIte])
   exact Z8 Q5 hn' ⟨σ10,hS',le10,leb,ha'⟩
 have hn0:n=l.length:=by
  have: ¬n<l.length:=by simpa using hc
  omega
 subst hn0;obtain ⟨σ11,hS11,hv11,lee11,_⟩:=ha10.keep hS10;have le11:=le10.more ⟨lee11⟩;have hml2:=hml _ (Nat.le_refl l.length)
 have hov:Wd l c=Rt (Ju l i l.length):=by
  unfold Wd;refine (X2m fun m=>?_).symm;rw[Q9b own hi,hname]
 have hlk:Cw l c=(!c.abs&&(Ju l i l.length).any fun m=>Vu l c.name m.name):=by
  unfold Cw
  congr 1
  refine (X6k fun m=>?_).symm;rw[Q9b own hi,hname]
 have hsn: ∀m∈Ju l i l.length,SmM m/\NmM m:=fun m hm=>by
  obtain ⟨c2,hc2,hm2⟩:=X5z hm (Nat.le_refl _);exact ⟨(ok.sm c2 hc2).2.2.2 m hm2,(ok.nm c2 hc2).2.2 m hm2⟩
 generalize Ju l i l.length=ms at hov hlk hsn hml2 hv11;clear ha10 lee11 hS10 le10 leb hv10 hml hc hb8 hbl;refine V7 ms.length (fun n w'=> ∃σ',Stp w σ w' σ'/\SLe σ11 σ'/\ ∀a b,a<n->b<a->Zb ms a b=false) ⟨σ11,hS11,SLe.refl _,fun a b h=>by omega⟩ fun n w12 d hn hinv=>?_
 obtain ⟨σ12,hS12,le12,hno⟩:=hinv;have hv12:=hv11.lift le12;refine Q6 hv12 ?_;refine Y9 ?_;refine Q4 (fun hc=>?_) (fun hc=>?_)
 .have hn':n<ms.length:=by simpa using hc
  refine V7 n (fun m w'=> ∃σ',Stp w σ w' σ'/\SLe σ11 σ'/\ ∀b,b<m->Zb ms n b=false) ⟨σ12,hS12,le12,fun b h=>by omega⟩ fun m w13 d hm hinv=>?_
  obtain ⟨σ13,hS13,le13,hno2⟩:=hinv;have hv13:=hv11.lift le13;refine Y9 ?_;refine Q4 (fun hc=>?_) (fun hc=>?_)
  .have hm':m<n:=by simpa using hc
   have hm2:m<ms.length:=by omega
   obtain ⟨pv1,cv1,hv1',pn,rn⟩:=hv13.elM hn';obtain ⟨pv2,cv2,hv2',pm,rm⟩:=hv13.elM hm2;obtain ⟨sn1,sn2⟩:=hsn _ (List.getElem_mem hn');obtain ⟨sm1,sm2⟩:=hsn _ (List.getElem_mem hm2)
   have hat:Zb ms n m=(decide (ms[n].name=ms[m].name)&& !decide (Jh ms[n]=Jh ms[m])):=by
    unfold Zb;rw[Tw hn',Tw hm2]
   have hs13:=hS13.sat
   have hnx:Zb ms n m=false-> ∀b,b<m+1->Zb ms n b=false:=fun e b hb=>by
    by_cases e2:b=m
    .subst e2;exact e
    .exact hno2 b Q5
   refine V3 hs13 ?_
   (repeat refine Y3 Vq ?_)
   by_cases he:ms[n].name=ms[m].name
   .have hd:decide (ms[n].name=ms[m].name)=true:=by simp[he]
    simp only[hd,reduceIte]
    (repeat (apply Y3;(· intros;(repeat (rename_i hx;subst hx));(repeat' (first | (with_reducible exact X9 rfl) | (with_reducible exact F7 (Stp.bel (by (repeat (first | exact Stp.refl (by (first | assumption | exact Stp.sat Q8 | exact Hst.sat Q8)) | assumption | refine Stp.trans ?_ (by first | assumption | exact Hst.stp Q8))))) rfl) | (with_reducible intro _) | (simp only[↓M2,M2,Mb,reduceIte]) | (with_reducible show Q7 _ _ _ _ _;first | refine Y6 aS aL aR ?_ | refine Z3 aS aL aR ?_ | refine ld aS aL aR ?_) | (with_reducible show indexAddr _ _ _ _ _ _;refine Y7 aL au ?_) | (with_reducible show U4 _ _ _ _ _ _ _ _;refine Q6 aL ?_) | (with_reducible show Xv _ _ _ _ _ _;refine W3 aR ?_) | (with_reducible show pick _ _ _ _ _ _;refine F6 ?_) | (with_reducible show Q0 _ _ _ _ _;first | refine X1t au au au au ?_) | (apply Zv;intro hh;(try simp only[hh,reduceIte,↓M2,M2,Mb,reduceIte]))));done)))
    (intros;(repeat (rename_i hx;subst hx));(try simp only[↓M2,M2,Mb,reduceIte]))
    rename_i w14 hb14;refine X1t hb14.sat rm sm1 sm2 fun w15 σ15 hk15=>?_;refine Jb ?_
    (try simp only[↓M1,M1,Mb,reduceIte])
    have hS15:=(hS13.trans hb14.stp).trans hk15
    by_cases hsg:Jh ms[n]=Jh ms[m]
    .simp only[hsg,decide_true,Bool.not_true,↓M1,M1,Mb,reduceIte]
     refine Z4 Q5 hm' ⟨σ15,hS15,le13.more ⟨(hb14.stp.trans hk15).le⟩,hnx ?_⟩;rw[hat,hsg];simp
    .simp only[hsg,decide_false,Bool.not_false,↓M1,M1,Mb,reduceIte]
     have:R=66:=e66 hA hB (by rw[hov];exact X5H hn' hm2 (by rw[hat];simp[he,hsg]))
     subst this;exact h _ _ hS15
   .have hd:decide (ms[n].name=ms[m].name)=false:=by simp[he]
    simp only[hd,Bool.false_eq_true,reduceIte]
    (repeat refine Y3 Vq ?_)
    (intros;(repeat (rename_i hx;subst hx));(try simp only[↓M2,M2,Mb,reduceIte]))
    rename_i w14 hb14
    (try simp only[↓M1,M1,Mb,reduceIte])
    refine Z4 Q5 hm' ⟨σ13,hS13.trans hb14.stp,le13,hnx ?_⟩;rw[hat];simp[he]
  .have hm0:m=n:=by
    have: ¬m<n:=by simpa using hc
    omega
   subst hm0
   (try simp only[↓M1,M1,Mb,reduceIte])
   refine Z4 hv11.max hn' ⟨σ13,hS13,le13,fun a b ha hb=>?_⟩
   by_cases e:a=m
   .subst e;exact hno2 b hb
   .exact hno a b Q5 hb
 have hC:Wd l c=false:=by
  rw[hov];have: ¬n<ms.length:=by simpa using hc
  exact X74 fun x y hx hy=>hno x y Q5 hy
 clear hno hc hn hv12 hov e66;refine V7 ms.length (fun n w'=> ∃σ',Stp w σ w' σ'/\SLe σ11 σ'/\(c.abs=true->n=0)/\(ms.take n).any (fun m=>Vu l c.name m.name)=false) ⟨σ12,hS12,le12,fun _=>rfl,rfl⟩ fun n w13 d hn hinv=>?_;clear hS12 le12;obtain ⟨σ13,hS13,le13,hab,hno⟩:=hinv;have hv13:=hv11.lift le13;have hq13:=hq1.lift (le11.more le13);refine Q6 hv13 ?_;refine Y9 ?_
 by_cases hn':n<ms.length
 .have e1:decide ((n:Int)<(ms.length:Int))=true:=by simpa using hn'
  rw[e1]
  (try simp only[↓M1,M1,Mb,reduceIte])
  refine ld hS13.sat hq13 rfl ?_;refine Nj ?_
  (try simp only[↓M1,M1,Mb,reduceIte])
  cases hca:c.abs with
  | true=>
   (try simp only[↓M1,M1,Mb,reduceIte])
   have:R=0:=e0 hA hB hC (by rw[hlk,hca];rfl)
   subst this;exact h _ _ hS13
  | false=>
   (try simp only[↓M1,M1,Mb,reduceIte])
   obtain ⟨pvn,cvn,hvn,pn,rn⟩:=hv13.elM hn';have hs13:=hS13.sat;have hnx:=E8 (p:=fun m:Hm.Met=>Vu l c.name m.name) hn'
   have hla:Vu l c.name ms[n].name=(!(N3 l c.name ms[n].name).isSome||(o2 (N3 l c.name ms[n].name)).abs):=by
    unfold Vu;cases N3 l c.name ms[n].name<;>rfl
   generalize hF:(fun o:Option Obj=> ∃cs:List Value,∃e,o=some (.cells cs.toArray e (0,0))/\cs.length=7/\cs[3]? =some (.bool (o2 (N3 l c.name ms[n].name)).abs))=F;have hFn: ¬F none:=by rw[<-hF];rintro ⟨_,_,h,_⟩;cases h
   refine X9G F hs13 ?_
   (repeat (apply Y3;(· intros;(repeat (rename_i hx;subst hx));(repeat' (first | (with_reducible exact X0q rfl) | (with_reducible exact X8i (Stp.bel (by (repeat (first | exact Stp.refl (by (first | assumption | exact Stp.sat Q8 | exact Hst.sat Q8)) | assumption | refine Stp.trans ?_ (by first | assumption | exact Hst.stp Q8))))) rfl) | (with_reducible intro _) | (simp only[↓M2,M2,Mb,reduceIte]) | (with_reducible show Q7 _ _ _ _ _;first | refine Y6 aS aL aR ?_ | refine Z3 aS aL aR ?_ | refine ld aS aL aR ?_) | (with_reducible show indexAddr _ _ _ _ _ _;refine Y7 aL au ?_) | (with_reducible show U4 _ _ _ _ _ _ _ _;refine Q6 aL ?_) | (with_reducible show Xv _ _ _ _ _ _;refine W3 aR ?_) | (with_reducible show pick _ _ _ _ _ _;refine F6 ?_)));done)))
   refine F4 (fun v _=> ∃s,∃ds:List Value,v= .tuple #[s, .agg ds.toArray, .bool (N3 l c.name ms[n].name).isSome]/\ds.length=7/\ds[3]? =some (.bool (o2 (N3 l c.name ms[n].name)).abs)/\ ∀u∈ds,u.oneCell'=true) (fun _ _ _ h _=>h) (fun t180 t185 w hb e1 e2=>?_) ?_
   .subst e1;subst e2
    refine X4r hb.sat (hv.up (hS13.trans hb.stp)) ok fun pv cv hv w' σ' hk hr=>⟨.of_below hk.bel,_,_,rfl,rfl,rfl,Rep.one hr⟩
   refine F4 (fun _ _=>True) (fun _ _ _ _ _=>trivial) (fun t186 w hb e=>?_) ?_
   .obtain ⟨s,ds,rfl,_⟩:=e
    exact J5 (vs:=[_,_,_]) rfl ⟨.of_below (Below.refl _ _),trivial⟩
   refine F4 (fun v _=> ∃ds:List Value,v= .agg ds.toArray/\ds.length=7/\ds[3]? =some (.bool (o2 (N3 l c.name ms[n].name)).abs)/\ ∀u∈ds,u.oneCell'=true) (fun _ _ _ h _=>h) (fun t186 w hb e=>?_) ?_
   .obtain ⟨s,ds,rfl,h7⟩:=e
    exact J5 (vs:=[_,_,_]) rfl ⟨.of_below (Below.refl _ _),ds,rfl,h7⟩
   refine Y3 (V:= .bool (N3 l c.name ms[n].name).isSome) (fun t186 w hb e=>?_) ?_
   .obtain ⟨s,ds,rfl,h7⟩:=e
    exact J5 (vs:=[_,_,_]) rfl (X0q rfl)
   refine F4 (X9k w13.heap.size 7 F) (X4A hFn) (fun w hb=>?_) ?_
   .exact Kj hb.sat fun b w' hb2 hk hm=>⟨.of_below hk.bel,b,rfl,Nat.le_trans hb.stp.bel.size hb2, .inl ⟨_,hm.2.choose,rfl,hm.2.choose_spec⟩⟩
   refine Q8c (fun xs _ w=>X9j w13.heap.size F (xs.headD undef) w) (fun xs _ w w' h hT=>X4z hFn _ w w' h hT) (fun t18 t188 w hb e1 e2=>?_) ?_
   .obtain ⟨g,rfl,hg,hd⟩:=e1
    obtain ⟨ds,rfl,h7,h3,h1⟩:=e2
    obtain ⟨cs,e,hl7,hh⟩: ∃cs:List Value,∃e,cs.length=7/\w.heap[g]? =some (.cells cs.toArray e (0,0)):=by
     rcases hd with h | h
     .exact h
     .rw[<-hF] at h
      obtain ⟨cs,e,h4,h5,_⟩:=h;exact ⟨cs,e,h5,h4⟩
    refine Ms (σ:=fun _=>none) (cs:=cs) (ds:=ds) ⟨rfl,e,hh⟩ hl7 h7 (by rw[List.all_toArray];exact List.all_eq_true.2 h1) fun w' hu hm=>?_
    have hFg:F (w'.heap[g]?):=by
     obtain ⟨_,e',hm'⟩:=hm;rw[hm',<-hF];exact ⟨ds,e',rfl,h7,h3⟩
    exact ⟨FinT.of_upd hu hg hFg,g,rfl,hg,hFg⟩
   rintro t179 t183 t184 t180 t185 t186 t187 t188 t189 t18 u15 w14 hb14 rfl rfl rfl rfl rfl _ _ _ rfl _ ⟨g,e,hg,hd⟩;have e:t18=_:=e;subst e;rw[<-hF] at hd;obtain ⟨cs,ty,hh,hl7,h3⟩:=hd;have hS14:=hS13.trans hb14.stp;refine Nj ?_;cases hsm:(N3 l c.name ms[n].name).isSome with
   | false=>
    (try simp only[↓M1,M1,Mb,reduceIte])
    have:R=67:=e67 hA hB hC (by rw[hlk,hca];exact P0 hn' (by rw[hla,hsm];rfl))
    subst this;exact h _ _ hS14
   | true=>
    (try simp only[↓M1,M1,Mb,reduceIte])
    refine Yj (σ:=fun _=>none) ⟨rfl,ty,hh⟩ h3 ?_
    (try simp only[↓M1,M1,Mb,reduceIte])
    cases hma:(o2 (N3 l c.name ms[n].name)).abs with
    | true=>
     (try simp only[↓M1,M1,Mb,reduceIte])
     have:R=67:=e67 hA hB hC (by rw[hlk,hca];exact P0 hn' (by rw[hla,hma,Bool.or_true]))
     subst this;exact h _ _ hS14
    | false=>
     (try simp only[↓M1,M1,Mb,reduceIte])
     refine Z4 hv11.max hn' ⟨σ13,hS14,le13,fun e=>False.elim (by simpa using e),?_⟩
     rw[hnx,hno,hla,hsm,hma];rfl
 .have e1:decide ((n:Int)<(ms.length:Int))=false:=by simpa using hn'
  rw[e1]
  (try simp only[↓M1,M1,Mb,reduceIte])
  rw[B7 hn'] at hno;have:R=0:=e0 hA hB hC (by rw[hlk,hno,Bool.and_false])
  subst this;exact h _ _ hS13)
def Q6Y:List Cla:=[⟨L3,[],[],false,false,false,[],[]⟩,⟨B0,L3,[],false,false,false,[⟨Wx,B9,false⟩],[]⟩]
def gMk (n:Q9):Cla:=⟨n,B0,[],false,false,true,[],[]⟩
theorem X2c:Xr=Q6Y++M7.map gMk:=rfl
theorem X5S (O:X3 w σ) (h: ∀D w' g,Stp w σ w' g->W4 w.heap.size T.c 8 M8 g w' D Xr->K D w'):Q0 P F.bQ [] w K:=Q2c (by
 unfold Hx J3 X4 X2 X1;refine M9 (cells:= #[S L3,S [], .slice none 0 0, .bool false, .bool false, .bool false, .slice none 0 0, .slice none 0 0]) X7 ?_;refine M9 (cells:= #[S Wx,S B9, .bool false]) X7 ?_;refine C1 (R:=K3) (sz:=3) O [.agg #[S Wx,S B9, .bool false]] [⟨Wx,B9,false⟩] rfl rfl (by simp;rfl) rfl ⟨⟨rfl,by decide,by decide⟩,trivial⟩ fun X w1 σ1 j o=>?_
 have p:=o;obtain ⟨E,b,rfl,_⟩:=p;refine M9 (cells:= #[S B0,S L3, .slice none 0 0, .bool false, .bool false, .bool false, .slice E 1 b, .slice none 0 0]) X7 ?_
 refine Xu (R:=M8) (sz:=8) j [.agg #[S L3,S [], .slice none 0 0, .bool false, .bool false, .bool false, .slice none 0 0, .slice none 0 0], .agg #[S B0,S L3, .slice none 0 0, .bool false, .bool false, .bool false, .slice E 1 b, .slice none 0 0]]
  Q6Y rfl rfl (by simp;exact ⟨rfl,rfl⟩) rfl ⟨⟨_,_,_,rfl,Sl.nil,Sl.nil,Sl.nil,by decide,by decide⟩,⟨_,_,_,rfl,Sl.nil,o,Sl.nil,by decide,by decide⟩,trivial⟩ fun Y w2 k z _=>?_
 refine C1 (R:=L1) (sz:=1) k.sat (M7.map S) M7 rfl rfl L7 rfl ⟨⟨rfl,by decide⟩,⟨rfl,by decide⟩,⟨rfl,by decide⟩,⟨rfl,by decide⟩,⟨rfl,by decide⟩,⟨rfl,by decide⟩,trivial⟩ fun Z w3 J l q=>?_
 have u:=(j.trans k).trans l;have M:M7.length=6:=rfl;refine O4 M7.length (fun n x w'=> ∃g,Stp w σ w' g/\SLe J g/\W4 w.heap.size T.c 8 M8 g w' x (Q6Y++(M7.take n).map gMk)) ⟨J,u,SLe.refl _,z.up l⟩ fun n x w4 d W i=>?_;obtain ⟨U,c,f,e⟩:=i;refine Q6 (q.lift f) ?_;refine Y9 ?_;refine Q4 (fun B=>?_) (fun B=>?_)
 .have a:n<M7.length:=by simpa using B
  have r:=q.lift f;refine Y7 r a ?_;obtain ⟨Q,H⟩:=r.elS a;refine Y6 c.sat Q rfl ?_
  have L:(Q6Y++(M7.take n).map gMk).length<=8:=by
   rw[List.length_append,List.length_map,List.length_take,show Q6Y.length=2 from rfl];omega
  have m:(M7.take (n+1)).map gMk=(M7.take n).map gMk++[gMk M7[n]]:=by
   rw[List.take_add_one,List.getElem?_eq_getElem a,List.map_append];rfl
  generalize M7[n]=t at H m;refine M9 (cells:= #[S t,S B0, .slice none 0 0, .bool false, .bool false, .bool true, .slice none 0 0, .slice none 0 0]) X7 ?_;have N:M8 U (gMk t) [S t,S B0, .slice none 0 0, .bool false, .bool false, .bool true, .slice none 0 0, .slice none 0 0]:=⟨_,_,_,rfl,Sl.nil,Sl.nil,Sl.nil,H,(by decide:B0.length<=V4)⟩
  refine Un (x:=gMk t) c e N rfl rfl rfl Q5 Q5 fun s D w5 V C y A _=>?_;refine C2 ?_;refine Z8 Q5 a ⟨V,y,f.more C.le,?_⟩;rw[m,<-List.append_assoc];exact A
 .have a: ¬n<M7.length:=by simpa using B
  rw[List.take_of_length_le Q5,<-X2c] at e;exact h _ _ _ c e)
theorem X8Z {w0:World} {σ0:Q2} {frm:Nat} (Z:Uo l) (ho:Yr l) (hl:l.length<=1000) (av: ∀c∈l,Yy c) (hf:0<frm) (ax: ∀i (B:i<l.length),frm<=i-> ∀u∈M6 l[i],∃j,U2 l u=some j): ∀(k:Nat) {i:Nat} {out:List Nat} {x:Value} {w:World} {σ:Q2} {K:Value->World->Prop},i<l.length->A0 l (J0 l i)<k->Few l out->Stp w0 σ0 w σ->Sl 8 M8 σ v l->W4 w0.heap.size T.e 1 O5 σ w x (ints out)->
 (∀x' w' Q,Stp w0 σ0 w' Q->SLe σ Q->W4 w0.heap.size T.e 1 O5 Q w' x' (ints (Uh l frm out i))->K x' w')->Q0 P F.be [v,x,I frm,I i] w K:=by
 intro k
 induction k with
 | zero=>intro i out x w σ K B hk;omega
 | succ k ih=>
  intro i out x w σ K B hk A hS hv hx h;refine Q4L ?_;unfold Fk;simp only[Y5,X5];unfold J3 V1 X4 X2 X1;rw[X39 Z ho hf out B] at h;refine Y9 ?_;refine Q4 (fun H=>?_) (fun H=>?_)
  .have H:i<frm:=by have:=of_decide_eq_true H;omega
   rw[if_pos H] at h;exact h _ _ _ hS (SLe.refl _) hx
  have H: ¬i<frm:=by have:=of_decide_eq_false H;omega
  rw[if_neg H] at h;have bd:=A.len;refine V7 out.length (fun n w'=>w'=w/\ ∀m (hm:m<out.length),m<n->out[m]≠i) ⟨rfl,fun m _ h=>by omega⟩ fun n w2 d hn g=>?_
  obtain ⟨hw,L⟩:=g;subst hw;refine X3s hx ?_;rw[show (ints out).length=out.length from by simp]
  refine Y9 ?_;refine Q4 (fun z=>?_) (fun z=>?_)
  .have b:n<out.length:=by simpa using z
   refine X15 (J7.of_acc hx) (n:=n) (by simpa using b) fun a cs am ba hr=>?_
   obtain ⟨rfl,_⟩:=hr;refine Zk (by have:=am 0 _ rfl;rwa [add_zero] at this) ?_
   simp only[List.getElem_map];refine E7 ?_
   by_cases e:out[n]=i
   .have:decide ((out[n]:Int)=i)=true:=by simp[e]
    rw[this];refine Z1 ?_;rw[if_pos (e▸List.getElem_mem b)] at h;exact h _ _ _ hS (SLe.refl _) hx
   .have:decide ((out[n]:Int)=i)=false:=by rw[decide_eq_false_iff_not];omega
    rw[this];refine Z0 ?_;refine C2 ?_;refine Z4 Q5 b ⟨rfl,fun m hm bc=>?_⟩
    by_cases e2:m=n
    .subst e2;exact e
    .exact L m hm Q5
  .have b: ¬n<out.length:=by simpa using z
   have C:i∉out:=fun an=>by
    obtain ⟨m,hm,e⟩:=List.getElem_of_mem an;exact L m hm Q5 e
   rw[if_neg C] at h;have V:l.getD i Cla.zero=l[i]:=by rw[List.getD_eq_getElem?_getD,List.getElem?_eq_getElem B];rfl
   rw[V] at h;have aw:=ax i B Q5;obtain ⟨lv,fv,mv,p1,r1⟩:=hv.elC B;obtain ⟨g1,_,_,_,g5⟩:=r1.parts;have D:=av _ (List.getElem_mem B);clear L C z hn;refine V3 hS.sat ?_
   (repeat refine Y3 Vq ?_)
   refine Q0f (w:=w2) (σ:=σ) (R:=L1) (sz:=1) (e:=T.b) [l[i].super] (fun t w hb e=>?_) ?_
   .subst e;exact Xu hb.stp [_] [l[i].super] rfl rfl (by simp;rfl) rfl ⟨⟨rfl,g5⟩,trivial⟩ fun v' w' hk Z _=>Q3O hb hk Z
   (repeat refine Y3 Vq ?_)
   rintro bl bm bp bq bn bo br w4 al rfl rfl rfl rfl rfl ⟨W,U⟩ rfl;refine Vn W U g1 rfl (by simp;have:=D.1;omega) (by simp;have:=D.1;omega) fun v5 w5 ap Y aa ab=>?_
   obtain ⟨σ6,p,N,bi,_⟩:=aa.keep Y;have N:Sl 1 L1 σ6 v5 (M6 l[i]):=N;have ay:=hx.up p;have ad:=hv.up p;have X:=hS.trans p;have ag:SLe σ σ6:=⟨p.le⟩;clear ap ab aa U W al Y;refine O4 (M6 l[i]).length (fun n x w'=> ∃Q o,Stp w0 σ0 w' Q/\SLe σ6 Q/\W4 w0.heap.size T.e 1 O5 Q w' x (ints o)/\Few l o/\o=((M6 l[i]).take n).foldl (fun out n=>Uh l frm out ((U2 l n).getD 0)) out) ⟨σ6,out,X,SLe.refl _,ay,A,rfl⟩ fun n x7 w7 d hn g=>?_;obtain ⟨σ7,a4,q,y,af,f,M⟩:=g;have r:=N.lift y;refine Q6 r ?_;refine Y9 ?_;refine Q4 (fun z=>?_) (fun z=>?_)
   .have b:n<(M6 l[i]).length:=by simpa using z
    refine Y7 r b ?_;obtain ⟨p7,_⟩:=r.elS b;refine Y6 q.sat p7 rfl ?_;have E:=ad.lift y;refine Xl q.sat E ?_;obtain ⟨j,hj⟩:=aw _ (List.getElem_mem b);have bf:=Q5q Z ho B (by rw[V];exact List.getElem_mem b) hj
    have ac:=(K6 hj).1;simp only[hj,E1];refine ih ac Q5 f q E af fun x8 w8 σ8 J az O=>?_;refine C2 ?_;refine Z8 r.max b ⟨σ8,_,J,y.more az,O,Q1M Z ho hf _ _ _ ac f,?_⟩;rw[List.take_add_one,List.getElem?_eq_getElem b,List.foldl_append,<-M]
    simp[hj]
   .have b: ¬n<(M6 l[i]).length:=by simpa using z
    rw[List.take_of_length_le Q5] at M;have bb:=f.len;refine Un (R:=O5) (x:=(i:Int)) q af ⟨rfl,by omega,by omega⟩ rfl rfl rfl (by simp;omega) (by simp;omega) fun s x8 w8 σ8 aq J O _=>?_
    refine h _ _ _ J ((ag.more y).more aq.le) ?_;rw[<-M]
    simpa [ints] using O
end Go.Proofs.Y
