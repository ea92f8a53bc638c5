/- Parts of a proof about the given program: its functions as texts of their own, what each computes, plain laws of that. The conditions of each stand in its statement. -/
import Derived.Test.YtjdiakhipmggjaaGreatDoorB5
import Derived.Test.YtjdiakhipmggjaaGreatDoorB4
import Derived.Test.YtjdiakhipmggjaaGreatDoorB3
import Derived.Test.YtjdiakhipmggjaaGreatDoorRows
import Derived.WalkKit
import Derived.ProofKit
import Derived.OpenShut
import Derived.ShutString
import Derived.ChangeOld
import Derived.Below
import Derived.SizedLaws
import Derived.Lay
import Derived.Carry
import Derived.MakeChecks
import Derived.PinnedBridge
set_option linter.unnecessarySimpa false
set_option linter.defProp false
set_option linter.unusedSectionVars false
set_option linter.unusedVariables false
set_option linter.unusedSimpArgs false
namespace Go.Hm
open Go.Kd
structure Alike (l m : List Cla) : Prop where
  lk : lk l = lk m
  len : l.length = m.length
  weigh : weigh l [] = weigh m []
section
variable {l m : List Cla} (h : Alike l m)
include h
end
theorem X2c {l:List Cla} {frm:Nat}: ∀(f:Nat) (a:List Nat) (i:Nat),∀y∈T9 l frm f a i,y∈a∨frm≤y:=by
 intro f
 induction f with
 | zero=>intro a i y hy;exact .inl hy
 | succ f c=>
  intro a i y hy
  simp only[T9] at hy
  split at hy
  ·exact .inl hy
  ·split at hy
   ·exact .inl hy
   ·rename_i e _
    rcases List.mem_append.1 hy with hy | hy
    ·exact Wy (p:=fun y=>frm≤y) _ _ (fun b x _ z d=>c b _ z d) y hy
    ·simp at hy;omega
theorem X08 {a:List Cla} (f:T6 a): ∀j∈W1 a 8,8≤j∧j<a.length:=by
 intro j c
 unfold W1 at c
 have i:=Wy (p:=fun y=>8≤y) _ _ (fun b x _ z d=>X2c _ b x z d) j c
 have g:=Wy (p:=fun y=>y<a.length) _ _ (fun b x e z d=>(Q6a f (by omega) _ b x (by
  have:=List.mem_of_mem_drop e
  simpa using this) z d).imp id (·.1)) j c
 exact ⟨i.resolve_left (by simp),g.resolve_left (by simp)⟩
end Go.Hm
namespace Go.Proofs.YtjdiakhipmggjaaGreatDoor
open Go.Emb Go.RowKit Go.Kd Go.Hm
end Go.Proofs.YtjdiakhipmggjaaGreatDoor

namespace Go.Hm
open Go.Kd
theorem Q82 {a:List Cla} {m:Nat} (b:m<a.length):Z2 a (Y2 a m)=some m↔Z2 (a.take m) (Y2 a m)=none:=by
 have g:Y2 a m=a[m].name:=by unfold Y2;rw[List.getD_eq_getElem?_getD,List.getElem?_eq_getElem b];rfl
 unfold Z2
 rw[List.findIdx?_eq_some_iff_getElem,List.findIdx?_eq_none_iff]
 constructor
 ·rintro ⟨k,i,e⟩ c d
  obtain ⟨j,f,rfl⟩:=List.mem_take_iff_getElem.1 d
  simpa using e j (by omega)
 ·intro h
  refine ⟨b,by simp[g],fun j f=>?_⟩
  simpa using h a[j] (List.mem_take_iff_getElem.2 ⟨j,by omega,rfl⟩)
theorem Q7U {a:List Cla} (c:T6 a) {m:Nat} (b:m<a.length):Xe a (Y2 a m) (Y2 a m)=P7 a a[m]:=by
 have d:Y2 a m=a[m].name:=by unfold Y2;rw[List.getD_eq_getElem?_getD,List.getElem?_eq_getElem b];rfl
 unfold Xe P7
 rw[Xz c b,List.getD_eq_getElem?_getD,List.getElem?_eq_getElem b]
 simp only[Option.getD_some,d]
end Go.Hm
namespace Go.Proofs.YtjdiakhipmggjaaGreatDoor
open Go.Emb Go.RowKit Go.Kd Go.Hm
variable {w : World} {K : Value → World → Prop} {σ : Q5} {l : List Cla}
theorem Q8h: ∀c∈G5,Zo c=false:=by decide
theorem Q8g {c:Cla} (h:D6 c=0):Zo c=false:=by
 unfold D6 at h
 split at h
 ·cases h
 ·rename_i a;exact eq_false_of_ne_true a
set_option maxHeartbeats 4000000 in
theorem X1r {lv:Value} (hs:X2 w σ) (hl:Sl 8 V0 σ lv l) (cx:l.length≤900)
 (C: ∀i e w' B,Sy D6 l=some (i,e)→Stp w σ w' B→K (.tuple #[.slice none 0 0,I i,I e]) w')
 (h0: ∀v w' B,Sy D6 l=none→Stp w σ w' B→Sl 8 V0 B v (Q4 l)→Ok (Q4 l)→T6 (Q4 l)→K (.tuple #[v,I 0,I 0]) w'):Q1 P F.bN [lv] w K:=Q0T (by
 unfold Ez
 have z:G5.length=8:=rfl
 have de:(Q4 l).length=8+l.length:=by simp[Q4,z]
 refine Q9b hs fun x0 w1 σ1 b6 bh=>?_
 refine Q8x bh ?_
 rw[z]
 refine E3 l.length (fun n x w'=> ∃B,Stp w σ w' B∧V5 w.heap.size T.b 8 V0 B w' x (G5++l.take n)∧O9 D6 l 0=O9 D6 (l.drop n) n)
  ⟨σ1,b6,by simpa using bh,rfl⟩ fun n x w4 d E f=>?_
 obtain ⟨σ4,ad,az,L⟩:=f
 have Z:=hl.up ad
 refine Q8 Z ?_
 refine Z0 ?_
 refine Q7 (fun hh=>?_) (fun hh=>?_)
 ·have a:n<l.length:=by simpa using hh
  obtain ⟨ce,cd,cf,p1,r1⟩:=Z.elC a
  refine Y3 Z a ?_
  refine Y4 ad.sat p1 rfl ?_
  refine Q3X ad.sat r1 fun w6 σ6 aa=>?_
  have b8:=ad.trans aa
  have M:=Wh a L
  refine Jb ?_
  refine Q7 (fun m=>?_) (fun m=>?_)
  ·have y: ¬D6 l[n]=0:=by simpa using m
   rw[if_neg y] at M
   refine C _ _ _ _ ?_ b8
   unfold Sy
   rw[M]
  ·have hz:D6 l[n]=0:=by simpa using m
   rw[if_pos hz] at M
   refine Y3 (Z.up aa) a ?_
   refine Y4 aa.sat (p1.up aa) rfl ?_
   have cv:=az.up aa
   have r6:=RCl_lift r1 ⟨aa.le⟩
   refine Jv (R:=V0) (x:=l[n]) b8 cv (by simpa [Value.cells] using r6) rfl rfl rfl (by simp[z];omega) (by simp[z];omega) fun s v' w9 σ9 c9 o cl a5=>?_
   refine N1 ?_
   refine Z9 Z.max a ⟨σ9,o,?_,M⟩
   rw[List.take_add_one,List.getElem?_eq_getElem a,←List.append_assoc]
   exact cl
 have a: ¬n<l.length:=by simpa using hh
 rw[List.take_of_length_le (by omega)] at az
 rw[List.drop_eq_nil_of_le (by omega)] at L
 have L:O9 D6 l 0=none:=L
 have b7:=P5 L
 have bi: ∀c∈l,Qh c∧Nm c∧c.name≠[]:=fun c hc=>Bj (b7 c hc)
 have q: ∀c∈Q4 l,Qh c:=fun c hc=>by
  rcases List.mem_append.1 hc with hc | hc
  ·exact (Uf c hc).1
  ·exact (bi c hc).1
 have a0: ∀c∈Q4 l,Nm c:=fun c hc=>by
  rcases List.mem_append.1 hc with hc | hc
  ·exact (Uf c hc).2.1
  ·exact (bi c hc).2.1
 have ab: ∀c∈Q4 l,Zo c=false:=fun c hc=>by
  rcases List.mem_append.1 hc with hc | hc
  ·exact Q8h c hc
  ·exact Q8g (b7 c hc)
 have ax:(Q4 l).length≤100000:=by omega
 unfold Sy at C h0
 rw[L] at C h0
 simp only at C h0
 obtain ⟨σ5,p,H,dv,cw⟩:=az.keep ad
 change Sl 8 V0 σ5 x (Q4 l) at H
 clear az ad Z a hh E L bh b6
 have A: ∀{n:Nat} (E:n<l.length),∃(h:8+n<(Q4 l).length),(Q4 l)[8+n]=l[n]:=fun {n} E=>⟨by omega,by
  unfold Q4
  rw[List.getElem_append_right (by rw[z];omega)]
  congr 1
  rw[z];omega⟩
 have cc: ∀{n:Nat} (E:n<l.length),Y2 (Q4 l) (8+n)=l[n].name:=fun {n} E=>by
  obtain ⟨C,h2⟩:=A E
  rw[Ke C,h2]
 have bk: ∀j,j<8→(Z2 ((Q4 l).take j) (Y2 (Q4 l) j)).isSome=false:=by
  have hd: ∀j,j<8→(Z2 (G5.take j) (Y2 G5 j)).isSome=false:=by decide
  intro j hj
  have e1:(Q4 l).take j=G5.take j:=by unfold Q4;rw[List.take_append_of_le_length (by rw[z];omega)]
  have e2:Y2 (Q4 l) j=Y2 G5 j:=by
   unfold Y2 Q4;rw[List.getD_eq_getElem?_getD,List.getD_eq_getElem?_getD,List.getElem?_append_left (by rw[z];omega)]
  rw[e1,e2];exact hd j hj
 refine U1 l.length (fun n w'=>Stp w σ w' σ5∧ ∀j,j<8+n→(Z2 ((Q4 l).take j) (Y2 (Q4 l) j)).isSome=false) ⟨p,by simpa using bk⟩ fun n w5 d E f=>?_
 clear p
 obtain ⟨p,a3⟩:=f
 have an:=hl.up p
 refine Q8 an ?_
 refine Z0 ?_
 refine Q7 (fun hh=>?_) (fun hh=>?_)
 ·have a:n<l.length:=by simpa using hh
  obtain ⟨ce,cd,cf,p1,r1⟩:=an.elC a
  refine Y3 an a ?_
  (try simp only[↓M1,M1,Mb,reduceIte])
  refine ld p.sat p1 rfl ?_
  refine I4 p.sat H ?_
  rw[G3 (by omega) (by omega)]
  refine Jb ?_
  obtain ⟨U,e8⟩:=A a
  rw[←cc a]
  have bo:=Q82 U
  cases ap:Z2 ((Q4 l).take (8+n)) (Y2 (Q4 l) (8+n)) with
  | none=>
   rw[bo.2 ap]
   have e:decide (L5 (some (8+n))=(8:Nat)+(n:Int))=true:=by simp[L5]
   rw[e]
   (try simp only[↓M1,M1,Mb,reduceIte])
   refine Y5 an.max a ⟨p,fun j hj=>?_⟩
   by_cases ej:j=8+n
   ·rw[ej,ap];rfl
   ·exact a3 j (by omega)
  | some i=>
   have y:Z2 (Q4 l) (Y2 (Q4 l) (8+n))≠some (8+n):=fun e=>by rw[bo.1 e] at ap;cases ap
   have e:decide (L5 (Z2 (Q4 l) (Y2 (Q4 l) (8+n)))=(8:Nat)+(n:Int))=false:=by
    rw[decide_eq_false_iff_not]
    intro e
    cases hf:Z2 (Q4 l) (Y2 (Q4 l) (8+n)) with
    | none=>rw[hf] at e;simp only[L5] at e;omega
    | some k=>
     rw[hf] at e y
     simp only[L5] at e
     apply y
     congr 1;omega
   rw[e]
   (try simp only[↓M1,M1,Mb,reduceIte])
   have N:Cg (Q4 l)=some (8+n):=by
    unfold Cg
    rw[List.find?_range_eq_some]
    refine ⟨by rw[ap];rfl,by simpa using U,fun j hj=>by rw[a3 j hj];rfl⟩
   refine C _ _ _ _ ?_ p
   rw[N]
   have:((8+n:Nat):Int)-8=n:=by omega
   simp only[this]
 have a: ¬n<l.length:=by simpa using hh
 have N:Cg (Q4 l)=none:=by
  unfold Cg
  rw[List.find?_eq_none]
  intro j hj
  rw[a3 j (by have:=List.mem_range.1 hj;omega)];simp
 rw[N] at C h0
 simp only at C h0
 have g:=Ko N
 clear a3 hh a E an bk
 refine U1 l.length (fun n w'=> ∃B,Stp w σ w' B∧SLe σ5 B∧O9 (fun c=>(D2 (Q4 l) c:Int)) l 0=O9 (fun c=>(D2 (Q4 l) c:Int)) (l.drop n) n) ⟨σ5,p,SLe.refl _,rfl⟩ fun n w6 d E f=>?_
 obtain ⟨σ9,o,al,ac⟩:=f
 have ak:=hl.up o
 refine Q8 ak ?_
 refine Z0 ?_
 refine Q7 (fun hh=>?_) (fun hh=>?_)
 ·have a:n<l.length:=by simpa using hh
  obtain ⟨ce,cd,cf,p1,r1⟩:=ak.elC a
  refine Y3 ak a ?_
  refine Y4 o.sat p1 rfl ?_
  have W:=Wh a ac
  refine Q7V o.sat (H.lift al) r1 fun w8 cp ar=>?_
  refine Jb ?_
  refine Q7 (fun m=>?_) (fun m=>?_)
  ·have y: ¬(D2 (Q4 l) l[n]:Int)=0:=by simpa using m
   rw[if_neg y] at W
   refine C _ _ _ _ ?_ (o.trans ar)
   rw[W]
  ·have hz:(D2 (Q4 l) l[n]:Int)=0:=by simpa using m
   rw[if_pos hz] at W
   refine N1 ?_
   exact Y5 ak.max a ⟨cp,o.trans ar,al.more ⟨ar.le⟩,W⟩
 have a: ¬n<l.length:=by simpa using hh
 rw[List.drop_eq_nil_of_le (by omega)] at ac
 have ac:O9 (fun c=>(D2 (Q4 l) c:Int)) l 0=none:=ac
 rw[ac] at C h0
 simp only at C h0
 have bw:=P5 ac
 clear hh a E p ak
 refine Q0M o.sat (H.lift al) g (by omega) (by omega) q fun vb c4 cb ao aj=>?_
 have b:=o.trans ao
 have ba:=al.more ⟨ao.le⟩
 have a4:(G8 (Q4 l)).length=(Q4 l).length:=by simp[G8]
 refine U1 l.length (fun n w'=>Stp w σ w' cb∧ ∀j (hj:j<l.length),j<n→P7 (Q4 l) l[j]=false) ⟨b,fun j _ h=>by omega⟩ fun n dq d E f=>?_
 clear b
 obtain ⟨b,a1⟩:=f
 have ay:=hl.up b
 refine Q8 ay ?_
 refine Z0 ?_
 refine Q7 (fun hh=>?_) (fun hh=>?_)
 ·have a:n<l.length:=by simpa using hh
  obtain ⟨U,e8⟩:=A a
  refine Xo ⟨by omega,by omega⟩ ?_
  have ec:((8:Nat):Int)+(n:Int)=((8+n:Nat):Int):=by omega
  rw[ec]
  obtain ⟨dm,pb,_,rv,rfl,rb⟩:=aj.el (i:=8+n) (by rw[a4];exact U)
  have bs:(G8 (Q4 l))[8+n]'(by rw[a4];exact U)=(List.range (Q4 l).length).map fun j=>Xe (Q4 l) (Y2 (Q4 l) (8+n)) (Y2 (Q4 l) j):=by simp[G8]
  rw[bs] at rb
  obtain ⟨cn,bg,_,ah⟩:=rb.el (i:=8+n) (by simpa using U)
  have ah:cn=_:=ah
  subst ah
  simp only[List.getElem_map,List.getElem_range] at bg
  rw[Q7U g U,e8] at bg
  refine Y3 aj (by rw[a4];exact U) ?_
  refine X7 b.sat pb rfl ?_
  refine Xo ⟨by omega,by omega⟩ ?_
  rw[ec]
  refine Y3 rb (by simpa using U) ?_
  refine X7 b.sat bg rfl ?_
  cases b3:P7 (Q4 l) l[n] with
  | true=>
   (try simp only[↓M1,M1,Mb,reduceIte])
   have bf:l.findIdx? (P7 (Q4 l))=some n:=by
    rw[List.findIdx?_eq_some_iff_getElem]
    exact ⟨a,b3,fun j hj=>by simpa using a1 j (by omega) hj⟩
   refine C _ _ _ _ ?_ b
   rw[bf]
  | false=>
   (try simp only[↓M1,M1,Mb,reduceIte])
   refine Y5 ay.max a ⟨b,fun j hj dt=>?_⟩
   by_cases e:j=n
   ·subst e;exact b3
   ·exact a1 j hj (by omega)
 have a: ¬n<l.length:=by simpa using hh
 have be: ∀c∈l,P7 (Q4 l) c=false:=fun c hc=>by
  obtain ⟨j,hj,rfl⟩:=List.getElem_of_mem hc
  exact a1 j hj (by omega)
 have bf:l.findIdx? (P7 (Q4 l))=none:=by
  rw[List.findIdx?_eq_none_iff];exact be
 rw[bf] at C h0
 simp only at C h0
 clear a1 hh a E ay aj ao o a4
 have av:=Q57 g (fun c hc=>(bi c hc).2.2) be
 have ag:X0n (Q4 l):=fun c hc u hu=>by
  rcases List.mem_append.1 hc with hc | hc
  ·rw[(Uf c hc).2.2] at hu;simp at hu
  ·have:=bw c hc
   unfold D2 at this
   split at this
   ·simp at this
   ·split at this
    ·simp at this
    ·rename_i r
     have r:c.like.any (R2 (Q4 l))=false:=eq_false_of_ne_true r
     have:=List.any_eq_false.1 r u hu
     unfold R2 at this
     cases hd:lk (Q4 l) u with
     | none=>rw[hd] at this;simp at this
     | some d=>exact ⟨d,rfl⟩
 have bp:Ok (Q4 l):=⟨av,ax,q,ag,a0⟩
 have bu: ∀i (hi:i<(Q4 l).length),8≤i→ ∀u∈U3 (Q4 l)[i],∃j,Z2 (Q4 l) u=some j:=fun i hi U u hu=>by
  have aq:i-8<l.length:=by omega
  obtain ⟨dh,e8⟩:=A aq
  have cm:(Q4 l)[i]=l[i-8]:=by rw[←e8];congr 1;omega
  rw[cm] at hu
  have a8:=List.getElem_mem aq
  rcases List.mem_cons.1 hu with hu | hu
  ·have:=bw _ a8
   unfold D2 at this
   split at this
   ·simp at this
   ·rename_i r
    unfold Qt at r
    rw[←hu] at r
    cases hd:lk (Q4 l) u with
    | none=>rw[hd] at r;simp at r
    | some d=>obtain ⟨_,_,j,hj,_⟩:=V2 hd;exact ⟨j,hj⟩
  ·obtain ⟨d,hd⟩:=ag _ (List.mem_append_right _ a8) u hu
   obtain ⟨_,_,j,hj,_⟩:=V2 hd;exact ⟨j,hj⟩
 refine Ee (R:=Wk) (e:=T.e) b (by decide) fun dd dn a9 bb _=>?_
 refine E3 l.length (fun n x' w'=> ∃B D,Stp w σ w' B∧SLe σ5 B∧V5 w.heap.size T.e 1 Wk B w' x' (ints D)∧Few (Q4 l) D∧D=(((List.range (Q4 l).length).drop 8).take n).foldl (fun D i=>Xk (Q4 l) 8 D i) [])
  ⟨cb,[],b.trans a9,ba,bb,⟨List.nodup_nil,by simp⟩,rfl⟩ fun n x' dj d E f=>?_
 clear bb a9 b ba al
 obtain ⟨dp,D,V,Y,ae,af,am⟩:=f
 have aw:=hl.up V
 refine Q8 aw ?_
 refine Z0 ?_
 refine Q7 (fun hh=>?_) (fun hh=>?_)
 ·have a:n<l.length:=by simpa using hh
  obtain ⟨U,e8⟩:=A a
  refine Xo ⟨by omega,by omega⟩ ?_
  have ec:((8:Nat):Int)+(n:Int)=((8+n:Nat):Int):=by omega
  rw[ec]
  refine X28 av g (by omega) q (by omega) bu ((Q4 l).length+1) U (Nat.lt_succ_of_le (Q1F _ _)) af V (H.lift Y) ae fun c6 dc cu br bv bq=>?_
  refine N1 ?_
  refine Z9 aw.max a ⟨cu,_,br,Y.more bv,bq,Iy av g (by omega) _ _ _ U af,?_⟩
  rw[List.take_add_one,List.getElem?_drop,List.getElem?_range U,List.foldl_append,←am]
  rfl
 have a: ¬n<l.length:=by simpa using hh
 have cj:n=l.length:=by omega
 subst cj
 have b1:D=W1 (Q4 l) 8:=by
  rw[am,List.take_of_length_le (by rw[List.length_drop,List.length_range];omega)];rfl
 subst b1
 clear am hh a E
 have db:=af.len
 have ct:=X08 g
 obtain ⟨b4,b9,ca,bc,_⟩:=ae.keep V
 have bl:=Y.more ⟨bc⟩
 clear ae V bc Y aw
 have aq:(ints (W1 (Q4 l) 8)).length=(W1 (Q4 l) 8).length:=by simp
 refine U1 (W1 (Q4 l) 8).length (fun n w'=> ∃B,Stp w σ w' B∧SLe b4 B∧ ∀j∈(W1 (Q4 l) 8).take n,V7 (Q4 l) ((Q4 l).getD j Cla.zero)=0) ⟨b4,b9,SLe.refl _,by simp⟩ fun n dx d E f=>?_
 obtain ⟨dw,O,Q,a2⟩:=f
 have X:=ca.lift Q
 refine Q8 X ?_
 rw[aq]
 refine Z0 ?_
 refine Q7 (fun hh=>?_) (fun hh=>?_)
 ·have a:n<(W1 (Q4 l) 8).length:=by simpa using hh
  have bz:n<(ints (W1 (Q4 l) 8)).length:=by rw[aq];exact a
  refine Y3 X bz ?_
  obtain ⟨cs,pc,_,co⟩:=X.el bz
  obtain ⟨rfl,_⟩:=co
  simp only[List.getElem_map] at pc
  refine X7 O.sat pc rfl ?_
  have bx:=(ct _ (List.getElem_mem a)).2
  have a5:(Q4 l).getD (W1 (Q4 l) 8)[n] Cla.zero=(Q4 l)[(W1 (Q4 l) 8)[n]]:=by rw[List.getD_eq_getElem?_getD,List.getElem?_eq_getElem bx];rfl
  refine Q6v O.sat (H.lift (bl.more Q)) bp g (by omega) ab bx fun c5 bn t=>?_
  have bd:=O.trans t
  refine Jb ?_
  refine Q7 (fun m=>?_) (fun m=>?_)
  ·have y: ¬V7 (Q4 l) (Q4 l)[(W1 (Q4 l) 8)[n]]=0:=by simpa using m
   have c1:=X.up t
   have bm:=pc.up t
   refine U2 t.sat ?_
   (repeat refine J5 Qd ?_)
   (intros;(repeat (rename_i hx;subst hx));(try simp only[↓M2,M2,Mb,reduceIte]))
   rename_i cr a6
   refine X7 a6.sat bm rfl ?_
   refine Zi ⟨by omega,by omega⟩ ?_
   have J:(W1 (Q4 l) 8).find? (fun j=> !decide (V7 (Q4 l) ((Q4 l).getD j Cla.zero)=0))=some (W1 (Q4 l) 8)[n]:=by
    rw[List.find?_eq_some_iff_getElem]
    refine ⟨by rw[a5];simpa using y,n,a,rfl,fun j hj=>?_⟩
    have:=a2 _ (List.mem_take_iff_getElem.2 ⟨j,by omega,rfl⟩)
    rw[this];simp
   have:=C (((W1 (Q4 l) 8)[n]:Int)-8) (V7 (Q4 l) (Q4 l)[(W1 (Q4 l) 8)[n]]) cr bn (by rw[J];simp only[a5]) (bd.trans a6.stp)
   exact this
  ·have hz:V7 (Q4 l) (Q4 l)[(W1 (Q4 l) 8)[n]]=0:=by simpa using m
   refine N1 ?_
   refine Y5 (by omega) a ⟨bn,bd,Q.more ⟨t.le⟩,fun j hj=>?_⟩
   rw[List.take_add_one,List.getElem?_eq_getElem a] at hj
   rcases List.mem_append.1 hj with hj | hj
   ·exact a2 j hj
   ·simp at hj;subst hj;rw[a5];exact hz
 ·have a: ¬n<(W1 (Q4 l) 8).length:=by simpa using hh
  rw[List.take_of_length_le (by omega)] at a2
  have J:(W1 (Q4 l) 8).find? (fun j=> !decide (V7 (Q4 l) ((Q4 l).getD j Cla.zero)=0))=none:=by
   rw[List.find?_eq_none]
   intro j hj
   rw[a2 j hj];simp
  rw[J] at h0
  exact h0 _ _ _ rfl O (H.lift (bl.more Q)) bp g)
end Go.Proofs.YtjdiakhipmggjaaGreatDoor

namespace Go.Proofs.YtjdiakhipmggjaaGreatDoor
open Go.Emb Go.RowKit Go.Kd Go.Hm
variable {w : World} {K : Value → World → Prop} {σ : Q5} {l : List Cla} {v : Value}
theorem Q8D:(G8 l).length=l.length:=by simp[G8]
theorem Q9z {i:Nat} (a:i<(G8 l).length):(G8 l)[i]=(List.range l.length).map fun j=>Xe l (Y2 l i) (Y2 l j):=by simp[G8]
theorem Sl.elB {xs:List (List Bool)} {v:Value} (h:Sl 1 Q5Z σ v xs) {i:Nat} (a:i<xs.length): ∃u,Z4 σ (Vq 1 v i) [u]∧Sl 1 Q3p σ u xs[i]:=by
 obtain ⟨cs,c,d,u,rfl,b⟩:=h.el a;exact ⟨u,c,b⟩
theorem Sl.elb {xs:List Bool} {v:Value} (h:Sl 1 Q3p σ v xs) {i:Nat} (b:i<xs.length):Z4 σ (Vq 1 v i) [.bool xs[i]]:=by
 obtain ⟨cs,c,d,a⟩:=h.el b
 have a:cs=_:=a
 subst a;exact c
theorem X2i {a b:X0} (n:X2 w σ) (q:Sl 8 V0 σ v (Q4 l)) (z:Wf l) (ok:Ok (Q4 l)) (L:(Q4 l).length≤1000) (W:a.length≤U0) (hb:b.length≤U0) (h: ∀w' σ',Stp w σ w' σ'→K (.bool (Xx (Q4 l) a b)) w'):Q1 P F.bS [v,S a,S b] w K:=Q0S (by
 unfold Eh
 have y: ∀r,Xx (Q4 l) a b=r→K (.bool r) w:=fun r e=>by rw[←e];exact h _ _ (Stp.refl n)
 refine Dt n q W ?_
 cases g:N3 (Q4 l) a with
 | false=>
  have O:Xx (Q4 l) a b=false:=by unfold Xx;simp[g]
  (try simp only[↓M1,M1,Mb,reduceIte])
  by_cases e:a=b
  ·have f:decide (a=b)=true:=by simpa using e
   simp only[f,↓M1,M1,Mb,reduceIte]
   refine Dt n q W ?_
   rw[g]
   (try simp only[↓M1,M1,Mb,reduceIte])
   exact y _ O
  ·have f:decide (a=b)=false:=by simpa using e
   simp only[f,↓M1,M1,Mb,reduceIte]
   exact y _ O
 | true=>
 (try simp only[↓M1,M1,Mb,reduceIte])
 refine Dt n q hb ?_
 cases k:N3 (Q4 l) b with
 | false=>
  have O:Xx (Q4 l) a b=false:=by unfold Xx;simp[k]
  have f:decide (a=b)=false:=by
   rw[decide_eq_false_iff_not];rintro rfl;rw[g] at k;cases k
  simp only[f,↓M1,M1,Mb,reduceIte]
  exact y _ O
 | true=>
 (try simp only[↓M1,M1,Mb,reduceIte])
 by_cases e:a=b
 ·have f:decide (a=b)=true:=by simpa using e
  simp only[f,↓M1,M1,Mb,reduceIte]
  refine Dt n q W ?_
  rw[g]
  (try simp only[↓M1,M1,Mb,reduceIte])
  exact y _ (z.sub_iff.2 ⟨g,k, .inl e⟩)
 have f:decide (a=b)=false:=by simpa using e
 simp only[f,↓M1,M1,Mb,reduceIte]
 refine Ec _ ?_
 have c:(∀(_:plain a=false∧plain b=false∧(a=H8∨(elem a≠[]∧b=J9)∨(lk (Q4 l) a≠none∧Hm.Reach (lk (Q4 l)) a b))),False)→K (.bool false) w:=fun hx=>y _ (eq_false_of_ne_true fun ht=>by
  obtain ⟨_,_,h3⟩:=z.sub_iff.1 ht
  rcases h3 with h3 | h3
  ·exact e h3
  ·exact hx h3)
 cases p:plain a with
 | true=>(try simp only[↓M1,M1,Mb,reduceIte]);exact c fun hx=>by rw[p] at hx;cases hx.1
 | false=>
 (try simp only[↓M1,M1,Mb,reduceIte])
 refine Ec _ ?_
 cases J:plain b with
 | true=>(try simp only[↓M1,M1,Mb,reduceIte]);exact c fun hx=>by rw[J] at hx;cases hx.2.1
 | false=>
 (try simp only[↓M1,M1,Mb,reduceIte])
 by_cases E:b=H8
 ·have f:decide (b=[110,117,108,108])=true:=by rw[decide_eq_true_eq];exact E
  simp only[f,↓M1,M1,Mb,reduceIte]
  refine c fun ⟨_,_,hx⟩=>?_
  rcases hx with hx | ⟨_,hx⟩ | ⟨_,hx⟩
  ·exact e (hx.trans E.symm)
  ·rw[E] at hx;exact absurd hx (by decide)
  ·obtain ⟨d,A⟩:=hx.right
   rw[E,z.none_null] at A;cases A
 have Q:decide (b=[110,117,108,108])=false:=by rw[decide_eq_false_iff_not];exact E
 simp only[Q,↓M1,M1,Mb,reduceIte]
 by_cases m:a=H8
 ·have f:decide (a=[110,117,108,108])=true:=by rw[decide_eq_true_eq];exact m
  simp only[f,↓M1,M1,Mb,reduceIte]
  exact y _ (z.sub_iff.2 ⟨g,k, .inr ⟨p,J, .inl m⟩⟩)
 have B:decide (a=[110,117,108,108])=false:=by rw[decide_eq_false_iff_not];exact m
 simp only[B,↓M1,M1,Mb,reduceIte]
 by_cases H:b=J9
 ·have f:decide (b=[79,98,106,101,99,116])=true:=by rw[decide_eq_true_eq];exact H
  simp only[f,↓M1,M1,Mb,reduceIte]
  exact y _ (by rw[H];exact z.sub_root g p)
 have R:decide (b=[79,98,106,101,99,116])=false:=by rw[decide_eq_false_iff_not];exact H
 simp only[R,↓M1,M1,Mb,reduceIte]
 refine I4 n q ?_
 refine I4 n q ?_
 refine K8 ?_
 rw[T7]
 cases s:Z2 (Q4 l) a with
 | none=>
  simp only[Option.isSome_none,↓M1,M1,Mb,reduceIte]
  refine c fun ⟨_,_,hx⟩=>?_
  rcases hx with hx | ⟨_,hx⟩ | ⟨hx,_⟩
  ·exact m hx
  ·exact H hx
  ·exact hx (by unfold lk;rw[s];rfl)
 | some i=>
 simp only[Option.isSome_some,↓M1,M1,Mb,reduceIte]
 cases N:Z2 (Q4 l) b with
 | none=>
  simp only[T7,Option.isSome_none,↓M1,M1,Mb,reduceIte]
  refine c fun ⟨_,_,hx⟩=>?_
  rcases hx with hx | ⟨_,hx⟩ | ⟨_,hx⟩
  ·exact m hx
  ·exact H hx
  ·obtain ⟨d,A⟩:=hx.right
   unfold lk at A;rw[N] at A;cases A
 | some j=>
 obtain ⟨hi,X⟩:=S2 s
 obtain ⟨Z,U⟩:=S2 N
 simp only[T7,Option.isSome_some,↓M1,M1,Mb,reduceIte]
 simp only[L5]
 refine Q0M n q z.own (by omega) L ok.sm fun v1 w1 σ1 t C=>?_
 have o:i<(G8 (Q4 l)).length:=by rw[Q8D];exact hi
 refine Y3 C o ?_
 obtain ⟨u,p1,Y⟩:=Sl.elB C o
 refine X7 t.sat p1 rfl ?_
 rw[Q9z o] at Y
 have M:j<((List.range (Q4 l).length).map fun j=>Xe (Q4 l) (Y2 (Q4 l) i) (Y2 (Q4 l) j)).length:=by simpa using Z
 refine Y3 Y M ?_
 refine X7 t.sat (Sl.elb Y M) rfl ?_
 (try simp only[↓M1,M1,Mb,reduceIte])
 simp only[List.getElem_map,List.getElem_range,X,U]
 have D:Xx (Q4 l) a b=Xe (Q4 l) a b:=by
  obtain ⟨ca,V,_⟩:=Zg s
  rw[Bool.eq_iff_iff,z.sub_class V,Jr,Q0I]
  constructor
  ·rintro (⟨hx,_⟩ | hx)
   ·exact absurd hx e
   ·exact hx
  ·exact .inr
 rw[←D]
 exact h _ _ t)
end Go.Proofs.YtjdiakhipmggjaaGreatDoor

namespace Go.Proofs.YtjdiakhipmggjaaGreatDoor
open Go.Emb Go.RowKit Go.Kd Go.Hm
variable {w : World} {K : Value → World → Prop} {σ : Q5} {l : List Cla} {v : Value}
end Go.Proofs.YtjdiakhipmggjaaGreatDoor

namespace Go.Emb
open Go.RowKit Go.Hm
def O4 (σ:Q5) (x:List Cla×Int×List Cel) (ds:List Value):Prop:= ∃a b,ds=[a,I x.2.1,b]∧Sl 8 V0 σ a x.1∧Sl 2 R0 σ b x.2.2
instance:Rep O4:=⟨fun hk ⟨lv,cv,h1,h2,h3⟩=>⟨lv,cv,h1,h2.le hk,h3.le hk⟩,fun ⟨lv,cv,h1,h2,h3⟩ u hu=>by
 rw[h1] at hu;simp at hu;rcases hu with rfl | rfl | rfl
 ·exact A0 h2
 ·rfl
 ·exact A0 h3⟩
theorem V8 {σ σ':Q5} {x:List Cla×Int×List Cel} {cs:List Value} (h:O4 σ x cs) (k:SLe σ σ'):O4 σ' x cs:=Rep.up k.le h
theorem O4.out {σ:Q5} {l:List Cla} {room:Int} {cs:List Cel} {ds:List Value} (h:O4 σ (l,room,cs) ds): ∃a b,ds=[a,I room,b]∧Sl 8 V0 σ a l∧Sl 2 R0 σ b cs:=h
end Go.Emb
namespace Go.Proofs.YtjdiakhipmggjaaGreatDoor
open Go.Emb Go.RowKit Go.Kd Go.Hm
variable {w w' : World} {K : Value → World → Prop} {σ σ' : Q5} {ds : List Value} {room : Int} {cs : List Cel} {l : List Cla}
theorem Q8O {k:X0} (N:X2 w σ) (h: ∀w' σ',Stp w σ w' σ'→K (.agg [I (L8 k).sort,I (L8 k).n,S (L8 k).s,I (L8 k).ref].toArray) w'):Q1 P F.aQ [S k] w K:=Tt (by
 unfold Oq
 refine N0 N fun b w1 σ1 X r v=>?_
 have hB:=M8 X (Stp.refl N)
 refine W0 (cells:= #[I 0,I 0,S [],I 0]) (by kernel_rfl) ?_
 refine N0 r.sat fun M w2 E D y u=>?_
 have C:=r.trans y
 have j:=M8 D r
 have o:b≠M:=by have:=v.lt;omega
 refine Oc (ds:=[I 0,I 0,S [],I 0]) u rfl rfl (by rw[List.all_toArray];exact List.all_eq_true.2 Rq) fun Z O a=>?_
 have g:=O.stp C j u.1
 have c:=(v.up y).upd O o
 have m: ∀(n:Int) (e:World),Y1 E e M [I n,I 0,S [],I 0]→Y1 E e b [I 0,I 0,S [],I 0]→Stp w σ e E→(∀w' σ',Stp w σ w' σ'→K (.agg [I n,I 0,S [],I 0].toArray) w')→Q2 P T.g (.pointer (some ⟨M,0,none⟩)) e fun H w=>
  Y0 P T.g (.pointer (some ⟨b,0,none⟩)) H w fun _u w=>
  Y8 P T.g (.pointer (some ⟨b,0,none⟩)) w fun U=>K U w:=fun n e t p Y R=>
  Rr t rfl (F8 p Y hB rfl rfl Rq fun w5 L J=>V1 J rfl (R _ _ L.stp))
 have W:decide (k=[105,110,116])=decide (k=P6):=rfl
 have Q:decide (k=[98,111,111,108])=decide (k=Ja):=rfl
 have A:decide (k=[116,101,120,116])=decide (k=D0):=rfl
 unfold L8 at h
 refine U9 ?_
 refine K0 ?_
 rw[W]
 by_cases p:k=P6
 ·simp only[if_pos p] at h
  have V:decide (k=Ja)=false:=by subst p;decide
  have B:decide (k=D0)=false:=by subst p;decide
  rw[decide_eq_true p]
  refine J4 ?_
  refine W2 ?_
  refine Zu (i:=0) a (by simp) rfl rfl fun e q f=>?_
  intro d
  refine U9 ?_
  refine K0 ?_
  rw[Q,V]
  refine Z6 ?_
  intro d
  refine U9 ?_
  refine K0 ?_
  rw[A,B]
  refine Z6 ?_
  intro d
  exact m 1 e f (c.upd q o) (q.stp g j a.1) h
 simp only[if_neg p] at h
 rw[decide_eq_false p]
 refine Z6 ?_
 intro d
 refine U9 ?_
 refine K0 ?_
 rw[Q]
 by_cases t:k=Ja
 ·simp only[if_pos t] at h
  have B:decide (k=D0)=false:=by subst t;decide
  rw[decide_eq_true t]
  refine J4 ?_
  refine W2 ?_
  refine Zu (i:=0) a (by simp) rfl rfl fun e q f=>?_
  intro d
  refine U9 ?_
  refine K0 ?_
  rw[A,B]
  refine Z6 ?_
  intro d
  exact m 2 e f (c.upd q o) (q.stp g j a.1) h
 simp only[if_neg t] at h
 rw[decide_eq_false t]
 refine Z6 ?_
 intro d
 refine U9 ?_
 refine K0 ?_
 rw[A]
 by_cases z:k=D0
 ·simp only[if_pos z] at h
  rw[decide_eq_true z]
  refine J4 ?_
  refine W2 ?_
  refine Zu (i:=0) a (by simp) rfl rfl fun e q f=>?_
  intro d
  exact m 3 e f (c.upd q o) (q.stp g j a.1) h
 ·simp only[if_neg z] at h
  rw[decide_eq_false z]
  refine Z6 ?_
  intro d
  exact m 0 Z a c g h)
theorem Q9s (k:X2 w σ) (hh:O4 σ (l,room,cs) ds) (r:0≤W4 room cs) (v:room≤1048576) (h: ∀w' σ',Stp w σ w' σ'→K (I (W4 room cs)) w'):Q1 P F.aS [.agg ds.toArray] w K:=Q06 (by
 obtain ⟨D,u,rfl,J,p⟩:=O4.out hh
 unfold Dc
 refine Y9 k fun q w1 σ1 g j=>?_
 have b:=g.sat
 have c:=p.up g
 refine W2 ?_
 refine ld b j rfl ?_
 unfold W4 at h r
 refine E3 cs.length (fun n x w'=>w'=w1∧x=I (room-Z1 (cs.take n))) ⟨rfl,by simp[Z1]⟩ fun n x E d B i=>?_
 obtain ⟨rfl,rfl⟩:=i
 have e:Z1 cs=Z1 (cs.take n)+Z1 (cs.drop n):=by rw[←T3,List.take_append_drop]
 have s:=L9 (cs.take n)
 have A:=L9 (cs.drop n)
 refine W2 ?_
 refine ld b j rfl ?_
 refine Q8 c ?_
 refine Z0 ?_
 refine Q7 (fun f=>?_) (fun f=>?_)
 ·have a:n<cs.length:=by simpa using f
  obtain ⟨z,m,o,y⟩:=Sl.elO c a
  refine W2 ?_
  refine ld b j rfl ?_
  refine Y3 c a ?_
  refine W2 ?_
  refine ld b m rfl ?_
  refine Q8 o ?_
  have H:Z1 (cs.drop n)=(1+(cs[n].vals.length:Int))+Z1 (cs.drop (n+1)):=by
   rw[List.drop_eq_getElem_cons a];simp only[Z1,List.map_cons,List.sum_cons]
  have C:=L9 (cs.drop (n+1))
  have t:Z1 (cs.take (n+1))=Z1 (cs.take n)+(1+(cs[n].vals.length:Int)):=by
   rw[List.take_add_one,List.getElem?_eq_getElem a,T3];simp[Z1]
  refine Xo ⟨by omega,by omega⟩ ?_
  refine Zi ⟨by omega,by omega⟩ ?_
  refine N1 ?_
  refine Z9 c.max a ⟨rfl,?_⟩
  congr 1;omega
 ·have a: ¬n<cs.length:=by simpa using f
  rw[List.take_of_length_le (by omega)]
  exact h _ _ g)
theorem Q4a {n:X0} {j:Value} (g:X2 w σ) (f:Sl 8 V0 σ j l) (h:K (.bool (P3 l n)) w):Q1 P F.aD [j,S n] w K:=Bz (by
 unfold Vj
 refine I4 g f ?_
 refine K8 ?_
 rw[T7]
 unfold P3 at h
 cases b:lk l n with
 | none=>
  rw[b] at h
  rw[Q0N b]
  simp only[Option.isSome_none,↓M1,M1,Mb,reduceIte]
  exact h
 | some c=>
  rw[b] at h
  obtain ⟨_,_,i,o,d⟩:=V2 b
  obtain ⟨a,e⟩:=List.getElem?_eq_some_iff.1 d
  obtain ⟨q,m,p,k,_⟩:=f.elC a
  rw[e] at k
  rw[o]
  simp only[Option.isSome_some,L5,↓M1,M1,Mb,reduceIte]
  refine Y3 f a ?_
  (try simp only[↓M1,M1,Mb,reduceIte])
  refine ld g k rfl ?_
  (try simp only[↓M1,M1,Mb,reduceIte])
  exact h)
theorem Q7H {r i:Int} (t:X2 w σ) (hh:O4 σ (l,room,cs) ds) (h: ∀w' σ',Stp w σ w' σ'→K (I (E4 cs r i)) w'):Q1 P F.aL [.agg ds.toArray,I r,I i] w K:=Kr (by
 obtain ⟨A,y,rfl,B,d⟩:=O4.out hh
 unfold Nv
 refine Y9 t fun q w1 σ1 a s=>?_
 have c:=a.sat
 have k:=d.up a
 refine Z0 ?_
 unfold E4 at h
 have b:M0 cs r=false→K (I 92) w1:=fun e=>by
  have:=h _ _ a
  rw[e] at this
  exact this
 by_cases p:r<0
 ·rw[decide_eq_true p]
  (try simp only[↓M1,M1,Mb,reduceIte])
  exact b (by simp only[M0,Bool.and_eq_false_iff,decide_eq_false_iff_not];left;omega)
 rw[decide_eq_false p]
 (try simp only[↓M1,M1,Mb,reduceIte])
 refine ld c s rfl ?_
 refine Q8 k ?_
 refine K8 ?_
 (try simp only[↓M1,M1,Mb,reduceIte])
 by_cases n:(cs.length:Int)≤r
 ·rw[decide_eq_true n]
  refine J4 ?_
  exact b (by simp only[M0,Bool.and_eq_false_iff,decide_eq_false_iff_not];right;omega)
 rw[decide_eq_false n]
 refine Z6 ?_
 have m:M0 cs r=true:=by simp only[M0,Bool.and_eq_true,decide_eq_true_eq];omega
 obtain ⟨j,rfl,g⟩:=E0.1 m
 rw[m,L4 g] at h
 obtain ⟨z,u,v,_⟩:=Sl.elO k g
 by_cases o:i<0
 ·rw[decide_eq_true o]
  (try simp only[↓M1,M1,Mb,reduceIte])
  have:=h _ _ a
  rw[if_pos rfl,if_neg (by omega)] at this
  exact this
 ·rw[decide_eq_false o]
  (try simp only[↓M1,M1,Mb,reduceIte])
  refine ld c s rfl ?_
  refine Y3 k g ?_
  (try simp only[↓M1,M1,Mb,reduceIte])
  refine ld c u rfl ?_
  refine Q8 v ?_
  refine K8 ?_
  (try simp only[↓M1,M1,Mb,reduceIte])
  have f:=h _ _ a
  refine Q7 (fun d=>?_) (fun d=>?_)
  ·have d:(cs[j].vals.length:Int)≤i:=by simpa using d
   rw[if_pos rfl,if_neg (by omega)] at f
   exact f
  ·have d: ¬(cs[j].vals.length:Int)≤i:=by simpa using d
   rw[if_pos rfl,if_pos (by omega)] at f
   exact f)
theorem X3J {r i:Int} (J:X2 w σ) (hh:O4 σ (l,room,cs) ds) (h: ∀w' σ',Stp w σ w' σ'→K (.tuple #[.agg [I (Hg cs r i).sort,I (Hg cs r i).n,S (Hg cs r i).s,I (Hg cs r i).ref].toArray,I (E4 cs r i)]) w'):Q1 P F.bP [.agg ds.toArray,I r,I i] w K:=Q0t (by
 have D:=hh
 obtain ⟨X,U,rfl,Z,O⟩:=O4.out hh
 unfold Er
 refine Y9 J fun q w0 σ0 d A=>?_
 refine N0 d.sat fun b w1 σ1 Q a C=>?_
 have u:=d.trans a
 have hB:=M8 Q d
 have v:=A.up a
 refine Y4 a.sat v rfl ?_
 refine Q7H a.sat (V8 D ⟨u.le⟩) fun Y W c=>?_
 have g:=u.trans c
 have o:=c.sat
 have t:=C.up c
 have B:=v.up c
 refine Jb ?_
 unfold Hg at h
 by_cases p:E4 cs r i=0
 ·have e:decide (E4 cs r i=0)=true:=decide_eq_true p
  rw[if_pos p,p] at h
  simp only[e,Bool.not_true,↓M1,M1,Mb,reduceIte]
  obtain ⟨j,m,rfl,rfl,y,z⟩:=Lg p
  rw[L4 y,Int.toNat_natCast] at h
  have E:=O.up g
  obtain ⟨V,N,H,_⟩:=Sl.elO E y
  obtain ⟨L,M⟩:=Sl.elV H z
  refine ld o B rfl ?_
  refine Y3 E y ?_
  (try simp only[↓M1,M1,Mb,reduceIte])
  refine ld o N rfl ?_
  refine Y3 H z ?_
  refine Y4 o L rfl ?_
  refine F8 t g hB rfl rfl (Rep.one M) fun R f k=>?_
  refine V1 k rfl ?_
  have e:cs[j].vals.getD m Val.zero=cs[j].vals[m]:=by rw[List.getD_eq_getElem?_getD,List.getElem?_eq_getElem z];rfl
  rw[e] at h
  exact h _ _ f.stp
 ·have e:decide (E4 cs r i=0)=false:=by simpa using p
  rw[if_neg p] at h
  simp only[e,Bool.not_false,↓M1,M1,Mb,reduceIte]
  refine W0 (cells:= #[I 0,I 0,S [],I 0]) (by kernel_rfl) ?_
  refine F8 (ds:=[I 0,I 0,S [],I 0]) t g hB rfl rfl Rq fun R f k=>?_
  refine V1 k rfl ?_
  exact h _ _ f.stp)
theorem Q9D (o:X2 w σ) (hh:O4 σ (l,room,cs) ds) (ok:Ok l) (g:l.length≤1000) {k:X0} {r:Value} {i:Nat} (p:k.length≤U0) (j:elem k=[]→i<(Y6 l k).length)
 (h: ∀w' σ',Stp w σ w' σ'→K (S (Xd l k i)) w'):Q1 P F.ao [.agg ds.toArray, .agg [S k,r].toArray,I i] w K:=Ar (by
 obtain ⟨C,y,rfl,u,A⟩:=O4.out hh
 unfold Oh
 refine Y9 o fun D w0 σ0 c m=>?_
 refine Y9 c.sat fun q w1 σ1 a n=>?_
 have b:=c.trans a
 refine W2 ?_
 refine ld (i:=0) a.sat n rfl ?_
 refine Q6e k (Nat.le_trans p (by decide)) ?_
 refine Vz ?_
 unfold Xd at h
 by_cases e:elem k=[]
 ·simp only[if_pos e] at h
  rw[decide_eq_true e]
  (try simp only[↓M1,M1,Mb,reduceIte])
  refine ld (i:=0) a.sat (m.up a) rfl ?_
  refine ld (i:=0) a.sat n rfl ?_
  refine Ra a.sat (u.up b) ok.acy g ok.sm fun v B z d f=>?_
  refine Y3 f (j e) ?_
  obtain ⟨s,_⟩:=f.elF (j e)
  (try simp only[↓M1,M1,Mb,reduceIte])
  refine ld d.sat s rfl ?_
  have t:(Y6 l k).getD i Fld.zero=(Y6 l k)[i]'(j e):=by rw[List.getD_eq_getElem?_getD,List.getElem?_eq_getElem (j e)];rfl
  rw[t] at h
  exact h _ _ (b.trans d)
 ·simp only[if_neg e] at h
  rw[decide_eq_false e]
  (try simp only[↓M1,M1,Mb,reduceIte])
  exact h _ _ b)
theorem X3M {ok:X0→Bool} {b d:Int} {c:X0}:P1 ok cs ⟨0,b,c,d⟩=if b=0∧c=[]∧d=0 then H8 else []:=by
 simp[P1,Val.zero]
theorem X3o {ok:X0→Bool} {b d:Int} {c:X0}:P1 ok cs ⟨1,b,c,d⟩=if c=[]∧d=0 then P6 else []:=by
 simp[P1,Val.zero]
theorem X3D {ok:X0→Bool} {b d:Int} {c:X0}:P1 ok cs ⟨2,b,c,d⟩=if (c=[]∧d=0)∧(b=0∨b=1) then Ja else []:=by
 simp[P1,Val.zero]
theorem X3i {ok:X0→Bool} {b d:Int} {c:X0}:P1 ok cs ⟨3,b,c,d⟩=if (b=0∧d=0)∧ok c=true then D0 else []:=by
 simp[P1,Val.zero]
theorem X3L {ok:X0→Bool} {b d:Int} {c:X0}:P1 ok cs ⟨4,b,c,d⟩=if b=0∧c=[] then D9 cs d else []:=by
 simp[P1,Val.zero]
theorem X3u {ok:X0→Bool} {a b d:Int} {c:X0} (g:a≠0) (i:a≠1) (h:a≠2) (e:a≠3) (f:a≠4):P1 ok cs ⟨a,b,c,d⟩=[]:=by
 simp[P1,Val.zero,g,i,h,e,f]
set_option maxHeartbeats 2000000 in
theorem X42 {v:Val} (hs:X2 w σ) (hh:O4 σ (l,room,cs) ds) (hb:v.s.length≤U0) (h: ∀w' σ',Stp w σ w' σ'→K (S (P1 W6 cs v)) w'):Q1 P F.c3 [.agg ds.toArray, .agg [I v.sort,I v.n,S v.s,I v.ref].toArray] w K:=Q1O (by
 obtain ⟨lv,cv,rfl,hl,hc⟩:=O4.out hh
 unfold Hi
 refine Y9 hs fun q0 w0 σ0 H z=>?_
 refine Y9 H.sat fun q w1 σ1 D t=>?_
 have f:=H.trans D
 have g:=D.sat
 have z:=z.up D
 have Q:=hc.up f
 have k: ∀{X:World} {σ2:Q5} {x:X0},Stp w σ X σ2→P1 W6 cs v=x→K (S x) X:=fun hS e=>by
  have:=h _ _ hS
  rw[e] at this
  exact this
 obtain ⟨a,b,c,d⟩:=v
 simp only at hb t
 have L: ∀r,M0 cs r=false→D9 cs r=[]:=fun r e=>by unfold D9;rw[e];rfl
 refine W2 ?_
 refine ld g t rfl ?_
 refine P2 ?_
 have C: ∀{A:Value→World→Prop},(∀p:Bool,p=(decide (d=0)&&decide (c=[]))→A (.bool p) w1)→Q0 (.bool (decide (d=0))) true w1 (fieldAddr P T.g (.pointer (some q)) 2) (fun aa w=>
  Q0 (.bool (decide (d=0))) true w (Q2 P T.c aa) fun V w=>
  Q0 (.bool (decide (d=0))) true w (Q3 P .eql T.c (.tmp 11) (.const (.string ⟨#[]⟩)) V (.string ⟨#[]⟩)) fun Y w=>
  pick P (.bool (decide (d=0))) Y (.bool false) w A):=fun {A} hA=>by
  cases hd:decide (d=0) with
  | false=>(try simp only[↓M1,M1,Mb,reduceIte]);exact hA false (by simp[hd])
  | true=>
   (try simp only[↓M1,M1,Mb,reduceIte])
   refine ld g t rfl ?_
   (try simp only[↓M1,M1,Mb,reduceIte])
   exact hA _ (by simp[hd])
 refine C fun p hp=>?_
 refine Zv (fun _ w'=>Stp w σ w' σ1∧P1 W6 cs ⟨a,b,c,d⟩=[]) ?_ (fun _ d' w' hz=>k hz.1 hz.2)
 refine W2 ?_
 refine ld (i:=0) g t rfl ?_
 refine P2 ?_
 have u:(p=true)↔(c=[]∧d=0):=by rw[hp];simp[and_comm]
 have E:p=false→ ¬(c=[]∧d=0):=fun e h=>by rw[u.2 h] at e;cases e
 by_cases W:a=0
 ·subst W
  rw[X3M] at*
  rw[decide_eq_true rfl]
  refine J4 ?_
  cases o:p with
  | false=>
   (try simp only[↓M1,M1,Mb,reduceIte])
   exact ⟨f,if_neg fun e=>E o e.2⟩
  | true=>
   have B:=u.1 o
   (try simp only[↓M1,M1,Mb,reduceIte])
   refine ld g t rfl ?_
   (try simp only[↓M1,M1,Mb,reduceIte])
   by_cases m:b=0
   ·rw[decide_eq_true m]
    (try simp only[↓M1,M1,Mb,reduceIte])
    exact k f (if_pos ⟨m,B⟩)
   ·rw[decide_eq_false m]
    (try simp only[↓M1,M1,Mb,reduceIte])
    exact ⟨f,if_neg fun e=>m e.1⟩
 rw[decide_eq_false W]
 refine Z6 ?_
 refine P2 ?_
 by_cases a1:a=1
 ·subst a1
  rw[X3o] at*
  rw[decide_eq_true rfl]
  refine J4 ?_
  cases o:p with
  | false=>exact Z6 ⟨f,if_neg (E o)⟩
  | true=>exact J4 (k f (if_pos (u.1 o)))
 rw[decide_eq_false a1]
 refine Z6 ?_
 refine P2 ?_
 by_cases R:a=2
 ·subst R
  rw[X3D] at*
  rw[decide_eq_true rfl]
  refine J4 ?_
  cases o:p with
  | false=>
   (try simp only[↓M1,M1,Mb,reduceIte])
   exact ⟨f,if_neg fun e=>E o e.1⟩
  | true=>
   have B:=u.1 o
   (try simp only[↓M1,M1,Mb,reduceIte])
   refine ld g t rfl ?_
   (try simp only[↓M1,M1,Mb,reduceIte])
   by_cases m:b=0
   ·rw[decide_eq_true m]
    (try simp only[↓M1,M1,Mb,reduceIte])
    exact k f (if_pos ⟨B, .inl m⟩)
   ·rw[decide_eq_false m]
    (try simp only[↓M1,M1,Mb,reduceIte])
    refine ld g t rfl ?_
    (try simp only[↓M1,M1,Mb,reduceIte])
    by_cases N:b=1
    ·rw[decide_eq_true N]
     (try simp only[↓M1,M1,Mb,reduceIte])
     exact k f (if_pos ⟨B, .inr N⟩)
    ·rw[decide_eq_false N]
     (try simp only[↓M1,M1,Mb,reduceIte])
     exact ⟨f,if_neg fun e=>e.2.elim m N⟩
 rw[decide_eq_false R]
 refine Z6 ?_
 refine P2 ?_
 by_cases a3:a=3
 ·subst a3
  rw[X3i] at*
  rw[decide_eq_true rfl]
  refine J4 ?_
  refine W2 ?_
  refine ld g t rfl ?_
  refine P2 ?_
  by_cases m:b=0
  case neg=>
   rw[decide_eq_false m]
   (try simp only[↓M1,M1,Mb,reduceIte])
   exact ⟨f,if_neg fun e=>m e.1.1⟩
  rw[decide_eq_true m]
  (try simp only[↓M1,M1,Mb,reduceIte])
  refine ld g t rfl ?_
  (try simp only[↓M1,M1,Mb,reduceIte])
  by_cases y:d=0
  case neg=>
   rw[decide_eq_false y]
   (try simp only[↓M1,M1,Mb,reduceIte])
   exact ⟨f,if_neg fun e=>y e.1.2⟩
  rw[decide_eq_true y]
  (try simp only[↓M1,M1,Mb,reduceIte])
  refine ld g t rfl ?_
  refine Fh X8 ?_
  refine Q4Z ?_
  by_cases c0:c.length≤4096
  case neg=>
   rw[decide_eq_false (show¬(c.length:Int)≤4096 by omega)]
   (try simp only[↓M1,M1,Mb,reduceIte])
   exact ⟨f,if_neg fun e=>c0 (by have:=e.2;simp only[W6,Bool.and_eq_true,decide_eq_true_eq] at this;exact this.1)⟩
  rw[decide_eq_true (show (c.length:Int)≤4096 by omega)]
  (try simp only[↓M1,M1,Mb,reduceIte])
  refine ld g t rfl ?_
  refine Q45 hb g fun X U=>?_
  have J:=f.trans (Stp.of_below g U)
  cases hv:Lib.validD c with
  | true=>
   (try simp only[↓M1,M1,Mb,reduceIte])
   exact k J (if_pos ⟨⟨m,y⟩,by simp[W6,hv,c0]⟩)
  | false=>
   (try simp only[↓M1,M1,Mb,reduceIte])
   exact ⟨J,if_neg fun e=>by have:=e.2;simp[W6,hv] at this⟩
 rw[decide_eq_false a3]
 refine Z6 ?_
 refine P2 ?_
 by_cases Z:a=4
 case neg=>
  rw[decide_eq_false Z]
  exact Z6 ⟨f,X3u W a1 R a3 Z⟩
 subst Z
 rw[X3L] at*
 rw[decide_eq_true rfl]
 refine J4 ?_
 refine W2 ?_
 refine ld g t rfl ?_
 refine P2 ?_
 by_cases m:b=0
 case neg=>
  rw[decide_eq_false m]
  (try simp only[↓M1,M1,Mb,reduceIte])
  exact ⟨f,if_neg fun e=>m e.1⟩
 rw[decide_eq_true m]
 (try simp only[↓M1,M1,Mb,reduceIte])
 refine ld g t rfl ?_
 (try simp only[↓M1,M1,Mb,reduceIte])
 by_cases c0:c=[]
 case neg=>
  rw[decide_eq_false c0]
  (try simp only[↓M1,M1,Mb,reduceIte])
  exact ⟨f,if_neg fun e=>c0 e.2⟩
 rw[decide_eq_true c0]
 (try simp only[↓M1,M1,Mb,reduceIte])
 refine ld g t rfl ?_
 refine K8 ?_
 rw[if_pos ⟨m,c0⟩] at*
 by_cases y:0≤d
 case neg=>
  rw[decide_eq_false y]
  (try simp only[↓M1,M1,Mb,reduceIte])
  exact ⟨f,L d (by simp[M0,y])⟩
 rw[decide_eq_true y]
 (try simp only[↓M1,M1,Mb,reduceIte])
 refine ld g t rfl ?_
 refine ld g z rfl ?_
 refine Q8 Q ?_
 refine Z0 ?_
 (try simp only[↓M1,M1,Mb,reduceIte])
 by_cases M:d<(cs.length:Int)
 case neg=>
  rw[decide_eq_false M]
  exact Z6 ⟨f,L d (by simp[M0,M])⟩
 rw[decide_eq_true M]
 refine J4 ?_
 obtain ⟨j,rfl,O⟩:=E0.1 (show M0 cs d=true by simp[M0,y,M])
 obtain ⟨vv,p1,p2,_⟩:=Sl.elO Q O
 refine ld g z rfl ?_
 refine ld g t rfl ?_
 refine Y3 Q O ?_
 (try simp only[↓M1,M1,Mb,reduceIte])
 refine ld g p1 rfl ?_
 exact k f (Yl O))
end Go.Proofs.YtjdiakhipmggjaaGreatDoor

namespace Go.Emb
open Go.RowKit Go.Hm
section
variable {α : Type} {P : Program} {R R' : Q5 → α → List Value → Prop} {sz : Nat} {e : TypeId} {σ σ0 σ' : Q5} {v u : Value} {xs ys : List α} {w w0 w' : World} {K : Value → World → Prop}
theorem X05 {t A:TypeId} {q:Nat} {z:Value} {cs:List Bool} [ts:TS P t e] [tz:TZ P e sz q z] [hr:Rep R] [hr':Rep R'] (N:Stp w0 σ0 w σ) (ha:V5 w0.heap.size e sz R σ w v xs) (D:X2 w σ') (Y:Sl sz R' σ' u ys) (hR: ∀x cs,R' σ' x cs→R σ x cs) (O:(z.cells.size==sz&&decide (0<sz))=true)
 (hb:(xs.length+ys.length)*q≤140737488355328) (hm:xs.length+ys.length≤9223372036854775807)
 (h: ∀f w',w.grownBy w' v.ownBlock→Stp w0 σ0 w' σ→V5 w0.heap.size e sz R σ w' f (xs++ys)→(f.ownBlock=v.ownBlock∨ ∀k,f.ownBlock=some k→w.heap.size≤k)→K f w'):X3 P .append [t,t] A cs [v,u] w K:=by
 obtain ⟨cells,y,W,h3⟩:=ha
 obtain ⟨a,m,c,rfl,V,U,n3,n4,n5⟩:=Y.cells D
 obtain ⟨i,E,J,M,p⟩:=tz.info
 have r: ∀f w',(Builtin.append_ #[t,t] A #[v, .slice a ys.length m]).run P w= .ok f w'→w'.ownsRow w0.heap.size e sz f (xs.length+ys.length) (cells++c)→w.grownBy w' v.ownBlock→(f.ownBlock=v.ownBlock∨f.ownBlock=some w.heap.size)→X3 P .append [t,t] A cs [v, .slice a ys.length m] w K:=by
  intro f w' B d n hat
  have s:(builtin .append #[t,t] A cs.toArray #[v, .slice a ys.length m]).run P w= .ok (.value f) w':=by
   simp[builtin,B]
  unfold X3
  rw[P9];unfold K9
  rw[s]
  refine h f w' n (Stp.turn n N fun k o=>⟨(y.lt k o).1,W k o⟩) ⟨cells++c,by rw[List.length_append];exact d,?_,?_⟩ ?_
  ·intro k o
   rcases hat with hat | hat
   ·exact W k (hat▸o)
   ·rw[hat] at o;cases o;exact N.sat.none (Nat.le_refl _)
  ·intro j x C
   by_cases Q:j<xs.length
   ·rw[List.getElem?_append_left Q] at C
    rw[Wp cells c xs.length j y.1 Q]
    exact h3 j x C
   ·rw[List.getElem?_append_right (by omega)] at C
    have:=hR _ _ (n5 _ _ C)
    rw[show j*sz=cells.length+(j-xs.length)*sz by rw[y.1,←Nat.add_mul];congr 1;omega,List.drop_append]
    simpa [List.drop_eq_nil_of_le] using this
  ·rcases hat with hat | hat
   ·exact .inl hat
   ·right;intro k o;rw[hat] at o;cases o;exact Nat.le_refl _
 simp only[Bool.and_eq_true,beq_iff_eq,decide_eq_true_eq] at O
 cases a with
 | some b=>
  obtain ⟨f,w',g1,g2,g3,_,Z⟩:=run_append_own_at (P:=P) w w0.heap.size t A e i z sz q ts.h E p J M O.1 O.2 v xs.length cells y b ys.length m c U (n3 b rfl) n4 (by simp only[maxLen];omega) hb N.bel.size
  exact r f w' g1 g2 g3 Z
 | none=>
  have hy:ys=[]:=List.eq_nil_of_length_eq_zero (by obtain ⟨a',X,e',q1,_,q3,_⟩:=Y;injection e' with _ e2 e3;have:=V rfl;subst e3;omega)
  have H:=V rfl
  subst hy H
  have hn:c=[]:=List.eq_nil_of_length_eq_zero (by simpa using U)
  subst hn
  have d:=y
  rcases y.2 with ⟨rfl,h0⟩ | ⟨g,m,an,rfl,ap,hg,L,_⟩
  ·refine r (.slice none 0 0) w ?_ (by simpa using d) (World.grownBy.refl w _) (.inl rfl)
   simp[Builtin.append_,run_underlying ts.h,sizeOf,typeInfo,E,Builtin.lenOf,Builtin.firstCells]
  ·refine r _ w ?_ (by simpa using d) (World.grownBy.refl w _) (.inl rfl)
   simp[Builtin.append_,run_underlying ts.h,sizeOf,typeInfo,E,Builtin.lenOf,Builtin.firstCells,L,storeCells]
end
def Q5G {α:Type} (c:α) (ds:List Value) (_:Q5) (x:α) (cs:List Value):Prop:=x=c∧cs=ds∧ ∀u∈ds,u.oneCell'=true
instance {α:Type} (c:α) (ds:List Value):Rep (Q5G c ds):=⟨fun _ h=>h,fun h u hu=>h.2.2 u (h.2.1▸hu)⟩
end Go.Emb
namespace Go.Proofs.YtjdiakhipmggjaaGreatDoor
open Go.Emb Go.RowKit Go.Kd Go.Hm
variable {w w' : World} {K : Value → World → Prop} {σ σ' : Q5} {ds : List Value} {room : Int} {cs : List Cel} {l : List Cla}
theorem Q6Q {d:Value} (b:Sl 2 R0 σ d cs) (r:Int):(D9 cs r).length≤U0:=by
 unfold D9
 split
 ·rename_i c
  obtain ⟨i,rfl,a⟩:=E0.1 c
  rw[L4 a]
  exact (Sl.elO b a).choose_spec.2.2
 ·exact Nat.zero_le _
theorem X0R {a:Value} (b:Sl 2 R0 σ a cs) (v:Val):(P1 W6 cs v).length≤U0:=by
 unfold P1
 split
 ·decide
 split
 ·decide
 split
 ·decide
 split
 ·decide
 split
 ·exact Q6Q b _
 ·exact Nat.zero_le _
theorem Q9U {v:Val} {k:X0} (y:X2 w σ) (hh:O4 σ (Q4 l,room,cs) ds) (E:Wf l) (ok:Ok (Q4 l)) (j:(Q4 l).length≤1000) (D:v.s.length≤U0) (z:k.length≤U0) (h: ∀w' σ',Stp w σ w' σ'→K (.bool (B4 W6 (Q4 l) cs v k)) w'):Q1 P F.an [.agg ds.toArray, .agg [I v.sort,I v.n,S v.s,I v.ref].toArray,S k] w K:=Ag (by
 have t:=hh
 obtain ⟨N,J,rfl,H,B⟩:=O4.out hh
 unfold Od
 refine Y9 y fun Q w0 σ0 f o=>?_
 refine Y9 f.sat fun q w1 σ1 d C=>?_
 have g:=f.trans d
 have c:=d.sat
 have m:=o.up d
 refine Y4 c m rfl ?_
 refine Y4 c C rfl ?_
 refine X42 c (V8 t ⟨g.le⟩) D fun O L a=>?_
 have b:=g.trans a
 refine Vz ?_
 unfold B4 at h
 have r:=X0R B v
 generalize P1 W6 cs v=A at*
 by_cases e:A=[]
 ·rw[decide_eq_true e] at h⊢
  (try simp only[↓M1,M1,Mb,reduceIte])
  exact h _ _ b
 ·rw[decide_eq_false e] at h⊢
  (try simp only[↓M1,M1,Mb,reduceIte])
  refine ld (i:=0) a.sat (m.up a) rfl ?_
  refine X2i a.sat (H.up b) E ok j r z fun U M p=>?_
  (try simp only[↓M1,M1,Mb,reduceIte])
  exact h _ _ (b.trans p))
theorem Hy {m c:Nat} {b a:Value} {e:Int} {n:List Value} {w1:World} {σ1:Q5} (r:Stp w σ w1 σ1) (k:Y1 σ1 w1 m [b,I room,a]) (j:Y1 σ1 w1 c n) (s:n.length=3) (f:w.heap.size≤c) (o:O4 σ1 (l,room,cs) [b,I room,a]) (h: ∀w' σ',Stp w σ w' σ'→O4 σ' (l,room,cs) [b,I room,a]→K (.tuple #[.agg [b,I room,a].toArray,I e]) w'):
 Q2 P T.a (.pointer (some ⟨m,0,none⟩)) w1 fun i w=>
 Y0 P T.a (.pointer (some ⟨c,0,none⟩)) i w fun _u w=>
 Y8 P T.a (.pointer (some ⟨c,0,none⟩)) w fun p=>
 K (.tuple #[p,(.int .i64 e)]) w:=
 Rr k rfl (F8 j r f s rfl (Rep.one o) fun q g d=>V1 d rfl (h q σ1 g.stp o))
set_option maxHeartbeats 1000000 in
theorem X02 {p O b7:Nat} {Y cv x:Value} {k:X0} {vals:List Val} {zs:List Value} {w1:World} {σ1:Q5} (hS:Stp w σ w1 σ1) (Q:Y1 σ1 w1 p [Y,I room,cv]) (ai:Y1 σ1 w1 O zs) (aw:Y1 σ1 w1 b7 [S k,x]) (hz:zs.length=3) (a0:w.heap.size≤p) (a7:w.heap.size≤O) (aj:p≠O) (hl:Sl 8 V0 σ1 Y l) (hc:Sl 2 R0 σ1 cv cs) (hx:Sl 4 M5 σ1 x vals) (Z:k.length≤U0) (bi:cs.length≤10000000)
 (h: ∀ae w' σ',Stp w σ w' σ'→O4 σ' (l,room,cs++[⟨k,vals⟩]) [Y,I room,ae]→K (.tuple #[.agg [Y,I room,ae].toArray,I 0]) w'):
 dr w1 fun m W=>
 Q6 m (fun t=> ∀w,W w→fieldAddr P T.a (.pointer (some ⟨p,0,none⟩)) 2 w (dk m t w)) fun t=>
 Q6 m (fun r=> ∀w,W w→buildSlice P T.f 0 [] w (dk m r w)) fun r=>
 Q6 m (fun q=> ∀i w,W w→t i w→Q2 P T.f i w (dk m q w)) fun q=>
 Q6 m (fun E=> ∀g f w,W w→r g w→q f w→X3 P .append [T.f,T.f] T.f [false,false] [g,f] w (dk m E w)) fun E=>
 Q6 m (fun s=> ∀w,W w→Q2 P T.m (.pointer (some ⟨b7,0,none⟩)) w (dk m s w)) fun s=>
 Q6 m (fun J=> ∀d w,W w→s d w→buildSlice P T.f 1 [(0,d)] w (dk m J w)) fun J=>
 ∀i g f L d N w,W w→t i w→r g w→q f w→E L w→s d w→J N w→
 X3 P .append [T.f,T.f] T.f [false,false] [L,N] w fun aq w=>
 fieldAddr P T.a (.pointer (some ⟨p,0,none⟩)) 2 w fun bb w=>
 Y0 P T.f bb aq w fun _u w=>
 Q2 P T.a (.pointer (some ⟨p,0,none⟩)) w fun az w=>
 Y0 P T.a (.pointer (some ⟨O,0,none⟩)) az w fun _u w=>
 Y8 P T.a (.pointer (some ⟨O,0,none⟩)) w fun r0=>
 K (.tuple #[r0,(.int .i64 0)]) w:=by
 have a9:=hS.sat
 have ah:R0 σ1 ⟨k,vals⟩ [S k,x]:=⟨x,rfl,hx,Z⟩
 have bl:x.cells= #[x]:=by obtain ⟨a,c,rfl,_⟩:=hx;rfl
 have ar: ∀{w':World} {K:Value→World→Prop},Hst w1 σ1 w' σ1→K cv w'→Q2 P T.f (.pointer (some ((⟨p,0,none⟩:Addr).add 2))) w' K:=fun H hK=>Ya (Q.up H.stp) rfl hK
 have ap: ∀{w':World} {K:Value→World→Prop},Hst w1 σ1 w' σ1→K (.agg [S k,x].toArray) w'→Q2 P T.m (.pointer (some ⟨b7,0,none⟩)) w' K:=fun H hK=>Rr (aw.up H.stp) rfl hK
 refine U2 a9 ?_
 (repeat refine J5 Qd ?_)
 refine Q2W (R:=R0) (by decide) ?_
 refine J5 (V:=cv) (fun i w n e=>?_) ?_
 ·subst e;exact ar n (O8 rfl)
 refine Q1v (w:=w1) (σ:=σ1) (R:=R0) (sz:=2) (e:=T.m) cs (fun g f w n a5 bd=>?_) ?_
 ·obtain ⟨k1,a1,e1⟩:=a5
  subst bd
  exact X2C k1 a1 e1 (hc.up n.stp) rfl (by omega) (by omega) fun v' w' Z ha=>Q2I n Z ha
 refine J5 (V:= .agg [S k,x].toArray) (fun w n=>?_) ?_
 ·exact ap n (O8 rfl)
 refine Wb (w:=w1) (σ:=σ1) (Φ:=fun σ' v=>Sl 2 (Q5G (⟨k,vals⟩:Cel) [S k,x]) σ' v [⟨k,vals⟩]) (fun d w n e=>?_) ?_
 ·subst e
  refine T4 (R:=Q5G (⟨k,vals⟩:Cel) [S k,x]) (sz:=2) n.sat [.agg [S k,x].toArray] [⟨k,vals⟩] rfl rfl (by simp[Value.cells]) rfl ⟨⟨rfl,rfl,Rep.one (R:=R0) ah⟩,trivial⟩ fun v w2 σ2 a3 a8=>Sv n a3 a8
 rintro i g f L d N w2 bv rfl _ rfl ⟨ay,a2⟩ rfl ⟨σ3,k3,s3⟩
 refine X05 ay a2 k3.sat s3 (fun y ds hy=>by obtain ⟨rfl,rfl,_⟩:=hy;exact ah) rfl (by simp;omega) (by simp;omega) fun v3 w3 bu ao U _=>?_
 have hN:Stp w1 σ1 w3 σ1:=ao
 have B:=Q.up hN
 have ac:=ai.up hN
 have aa:=Jp U
 refine W2 ?_
 refine Zu B (by simp) aa.1 aa.2 fun X u4 C=>?_
 have ag:=Q.lt
 have ab:V5 w1.heap.size T.m 2 R0 σ1 X v3 (cs++[⟨k,vals⟩]):=U.kp (D:=fun j=>j=p) (.of_upd u4 rfl) fun j hj e=>by have:=(U.mem j hj).1;omega
 have A:=ac.upd u4 (fun e=>aj e.symm)
 have z:Stp w σ X σ1:=u4.stp (hS.trans hN) a0 B.1
 have af:X2 X σ1:=z.sat
 obtain ⟨σ5,s5,l5,f5,o5⟩:=(J8.of_acc ab).freeze af
 have M: ∀j,j<w1.heap.size→σ5 j=σ1 j:=fun j hj=>o5 j fun e=>by have:=(ab.mem j e.symm).1;omega
 have ad:Y1 σ5 X p [Y,I room,v3]:=⟨(M p ag).trans C.1,C.2⟩
 have ak:Y1 σ5 X O zs:=⟨(M O ai.lt).trans A.1,A.2⟩
 have ax:Stp w σ X σ5:=⟨z.bel,s5,fun b o e=>l5.le b o (z.le b o e),fun b n=>(M b (Nat.lt_of_lt_of_le n hS.bel.size)).trans (z.old b n)⟩
 exact Hy ax ad ak hz a7 ⟨Y,v3,rfl,hl.lift l5,f5⟩ fun w' σ' Z hr=>h v3 w' σ' Z hr
end Go.Proofs.YtjdiakhipmggjaaGreatDoor

namespace Go.Proofs.YtjdiakhipmggjaaGreatDoor
open Go.Emb Go.RowKit Go.Kd Go.Hm
variable {w w' : World} {K : Value → World → Prop} {σ σ' : Q5} {ds : List Value} {room : Int} {cs : List Cel} {l : List Cla}
set_option maxHeartbeats 1000000 in
theorem X0J {k:X0} (hs:X2 w σ) (hh:O4 σ (l,room,cs) ds) (ok:Ok l) (hlen:l.length≤1000) (hk:k.length≤U0) (h0:0≤W4 room cs) (h1:room≤1048576)
 (h: ∀ds' w' σ',Stp w σ w' σ'→O4 σ' (l,room,(Zn l room cs k).1) ds'→K (.tuple #[.agg ds'.toArray,I (Zn l room cs k).2]) w'):Q1 P F.be [.agg ds.toArray,S k] w K:=Gn (by
 have hcl:=T2 cs
 obtain ⟨lv,cv,rfl,hl,hc⟩:=O4.out hh
 unfold Lh
 refine Ev hs fun b0 w1 σ1 hb0 hk1 hm0=>?_
 refine N0 hk1.sat fun b4 w2 σ2 hb4 hk2 hm4=>?_
 have hS2:=hk1.trans hk2
 have hB4:=M8 hb4 hk1
 have hb04:b0≠b4:=by have:=hm0.lt;omega
 have hm02:=hm0.up hk2
 have hl2:=hl.up hS2
 have hh2:=V8 hh ⟨hS2.le⟩
 unfold W4 at h0
 refine W2 ?_
 refine Ya (i:=0) hm02 rfl ?_
 refine Q4a hk2.sat hl2 ?_
 refine Wa ?_
 unfold Zn at h
 cases ho:P3 l k with
 | false=>
  rw[ho] at h
  simp only[if_pos] at h
  refine J4 ?_
  exact Hy hS2 hm02 hm4 rfl hB4 hh2 fun w' σ' hk hr=>h _ w' σ' hk hr
 | true=>
  rw[ho] at h
  simp only[Bool.true_eq_false,if_false] at h
  refine Z6 ?_
  refine W2 ?_
  refine Ya (i:=0) hm02 rfl ?_
  refine Ra hk2.sat hl2 ok.acy hlen ok.sm fun fv w3 σ3 hk3 hf=>?_
  have hS3:=hS2.trans hk3
  have hfl:=hf.max
  have hfl2:=Q0o ok.sm ok.len k
  refine Q8 hf ?_
  refine Xo ⟨by omega,by omega⟩ ?_
  refine Rr (hm02.up hk3) rfl ?_
  refine Q9s hk3.sat (V8 hh2 ⟨hk3.le⟩) (by unfold W4;exact h0) h1 fun w4 σ4 hk4=>?_
  have hk34:=hk3.trans hk4
  have hS4:=hS3.trans hk4
  have hm04:=hm02.up hk34
  have hm44:=hm4.up hk34
  have hh4:=V8 hh2 ⟨hk34.le⟩
  have hf4:=hf.up hk4
  rw[Rj]
  by_cases hg:W4 room cs<1+((Y6 l k).length:Int)
  ·rw[if_pos hg] at h
   have e:decide (1+((Y6 l k).length:Int)>W4 room cs)=true:=decide_eq_true hg
   rw[e]
   refine J4 ?_
   exact Hy hS4 hm04 hm44 rfl hB4 hh4 fun w' σ' hk hr=>h _ w' σ' hk hr
  rw[if_neg hg] at h
  have e:decide (1+((Y6 l k).length:Int)>W4 room cs)=false:=decide_eq_false hg
  rw[e]
  refine Z6 ?_
  unfold W4 at hg
  refine W0 (cells:= #[S k, .slice none 0 0]) (by kernel_rfl) ?_
  refine N0 hk4.sat fun b7 w5 σ5 hb7 hk5 hm7=>?_
  have hS5:=hS4.trans hk5
  have hB7:=M8 hb7 hS4
  refine Oc (ds:=[S k, .slice none 0 0]) hm7 rfl rfl (by rw[List.all_toArray];rfl) fun w6 u6 hm76=>?_
  have hS6:=u6.stp hS5 hB7 hm7.1
  have hb07:b0≠b7:=by have:=hm04.lt;omega
  have hb47:b4≠b7:=by have:=hm44.lt;omega
  have hm06:=(hm04.up hk5).upd u6 hb07
  have hm46:=(hm44.up hk5).upd u6 hb47
  have hf6:=(hf4.up hk5)
  have hc6:Sl 2 R0 σ5 cv cs:=hc.up hS5
  have hl6:Sl 8 V0 σ5 lv l:=hl.up hS5
  refine U1 (Y6 l k).length (fun n w'=> ∃σ' x,Stp w σ w' σ'∧SLe σ5 σ'∧Y1 σ' w' b0 [lv,I room,cv]∧Y1 σ' w' b4 _∧Y1 σ' w' b7 [S k,x]∧V5 w.heap.size T.g 4 M5 σ' w' x (((Y6 l k).take n).map fun f=>L8 f.kind)∧x.ownBlock≠some b0∧x.ownBlock≠some b4∧x.ownBlock≠some b7)
   ⟨σ5, .slice none 0 0,hS6,SLe.refl _,hm06,hm46,hm76,V5.nil,by simp[Value.ownBlock],by simp[Value.ownBlock],by simp[Value.ownBlock]⟩ fun n w7 d hn hinv=>?_
  obtain ⟨σ7,x,hS7,le7,hm07,hm47,hm77,ha7,hx0,hx4,hx7⟩:=hinv
  have hf7:=hf6.lift le7
  have hs7:=hS7.sat
  refine Q8 hf7 ?_
  refine Z0 ?_
  refine Q7 (fun hcc=>?_) (fun hcc=>?_)
  ·have hn':n<(Y6 l k).length:=by simpa using hcc
   obtain ⟨p1,r1⟩:=hf7.elF hn'
   have hrd: ∀{w':World} {K:Value→World→Prop},Hst w7 σ7 w' σ7→K x w'→Q2 P T.l (.pointer (some ((⟨b7,0,none⟩:Addr).add 1))) w' K:=fun hst hK=>Ya (hm77.up hst.stp) rfl hK
   refine U2 hs7 ?_
   (repeat (apply J5;(· intros;(repeat (rename_i hx;subst hx));(repeat' (first | (with_reducible exact O8 rfl) | (with_reducible exact S7 (Stp.bel (by (repeat (first | exact Stp.refl (by (first | assumption | exact Stp.sat (by assumption) | exact Hst.sat (by assumption))) | assumption | refine Stp.trans ?_ (by first | assumption | exact Hst.stp (by assumption)))))) rfl) | (with_reducible intro _) | (simp only[↓M2,M2,Mb,reduceIte]) | (with_reducible refine hrd au ?_) | (with_reducible show Q2 _ _ _ _ _;first | refine X7 aS aL aR ?_ | refine Y4 aS aL aR ?_ | refine ld aS aL aR ?_) | (with_reducible show indexAddr _ _ _ _ _ _;refine Y3 aL au ?_) | (with_reducible show X3 _ _ _ _ _ _ _ _;refine Q8 aL ?_) | (with_reducible show F2 _ _ _ _ _ _;refine J0 aR ?_) | (with_reducible show pick _ _ _ _ _ _;refine M9 ?_) | (with_reducible show Q1 _ _ _ _ _;first | refine Q8O au ?_) | (apply I1;intro hh;(try simp only[hh,reduceIte,↓M2,M2,Mb,reduceIte]))));done)))
   refine Wb (w:=w7) (σ:=σ7) (Φ:=fun σ' v=>Sl 4 M5 σ' v [L8 (Y6 l k)[n].kind]) (fun t41 w hb e=>?_) ?_
   ·subst e
    exact T4 (R:=M5) (sz:=4) hb.sat [_] [L8 (Y6 l k)[n].kind] rfl rfl (by simp[Value.cells]) rfl ⟨Ft _,trivial⟩ fun v w2 σ2 hk2 hv2=>Sv hb hk2 hv2
   rintro t34 t38 t39 t35 t40 t41 t42 w8 hb8 rfl rfl rfl rfl rfl rfl ⟨σ8,hk8,s8⟩
   refine X05 (w0:=w) (hS7.trans hb8.stp) (ha7.up hb8.stp) hk8.sat s8 (fun y ds hy=>hy) rfl (by simp;omega) (by simp;omega) fun x9 w9 hg9 hS9 ha9 hat9=>?_
   have hm08:=(hm07.up hb8.stp).turn hg9 fun e=>hx0 e.symm
   have hm48:=(hm47.up hb8.stp).turn hg9 fun e=>hx4 e.symm
   have hm78:=(hm77.up hb8.stp).turn hg9 fun e=>hx7 e.symm
   have hsz:=hb8.stp.bel.size
   have hnew: ∀b,b<w7.heap.size→x.ownBlock≠some b→x9.ownBlock≠some b:=fun b hb hxb e=>by
    rcases hat9 with e2 | e2
    ·exact hxb (e2▸e)
    ·have:=e2 b e;omega
   have hsh:=Jp ha9
   refine W2 ?_
   refine Zu hm78 (by simp) hsh.1 hsh.2 fun w10 u10 hm710=>?_
   refine N1 ?_
   have hx97:=hnew b7 hm77.lt hx7
   refine Y5 hfl hn' ⟨σ7,x9,u10.stp hS9 hB7 hm78.1,le7,hm08.upd u10 hb07,hm48.upd u10 hb47,hm710,?_,hnew b0 hm07.lt hx0,hnew b4 hm47.lt hx4,hx97⟩
   have:=ha9.kp (D:=fun j=>j=b7) (.of_upd u10 rfl) fun j hj e=>hx97 (e▸hj)
   rw[List.take_add_one,List.getElem?_eq_getElem hn',List.map_append]
   exact this
  ·have hn': ¬n<(Y6 l k).length:=by simpa using hcc
   rw[List.take_of_length_le (by omega)] at ha7
   obtain ⟨σ9,hS9,hx9,le9,o9⟩:=ha7.keep hS7
   have mk: ∀{b:Nat} {zs:List Value},Y1 σ7 w7 b zs→x.ownBlock≠some b→Y1 σ9 w7 b zs:=fun hm hne=>⟨(o9 _ fun e=>hne e.symm).trans hm.1,hm.2⟩
   have le59:SLe σ5 σ9:=le7.more ⟨le9⟩
   refine X02 hS9 (mk hm07 hx0) (mk hm47 hx4) (mk hm77 hx7) rfl hb0 hB4 hb04 (hl6.lift le59) (hc6.lift le59) hx9 hk (by omega) fun cv' w' σ' hk' hr=>h _ w' σ' hk' hr)
set_option maxHeartbeats 1000000 in
theorem X29 {k:X0} {n:Int} (hs:X2 w σ) (hh:O4 σ (l,room,cs) ds) (hk:k.length≤U0) (h0:0≤W4 room cs) (h1:room≤1048576)
 (h: ∀ds' w' σ',Stp w σ w' σ'→O4 σ' (l,room,(Zs l room cs k n).1) ds'→K (.tuple #[.agg ds'.toArray,I (Zs l room cs k n).2]) w'):Q1 P F.bo [.agg ds.toArray,S k,I n] w K:=Kt (by
 have hcl:=T2 cs
 have htn:=L9 cs
 obtain ⟨lv,cv,rfl,hl,hc⟩:=O4.out hh
 unfold Lw
 refine Ev hs fun b0 w1 σ1 hb0 hk1 hm0=>?_
 refine N0 hk1.sat fun b4 w2 σ2 hb4 hk2 hm4=>?_
 have hS2:=hk1.trans hk2
 have hB4:=M8 hb4 hk1
 have hb04:b0≠b4:=by have:=hm0.lt;omega
 have hm02:=hm0.up hk2
 have hl2:=hl.up hS2
 have hh2:=V8 hh ⟨hS2.le⟩
 unfold W4 at h0
 unfold Zs at h
 have hbad:F6 l k=false→Q2 P T.a (.pointer (some ⟨b0,0,none⟩)) w2 fun t14 w=>
  Y0 P T.a (.pointer (some ⟨b4,0,none⟩)) t14 w fun _u w=>
  Y8 P T.a (.pointer (some ⟨b4,0,none⟩)) w fun r0=>
  K (.tuple #[r0,(.int .i64 91)]) w:=fun ho=>by
  rw[ho] at h
  simp only[if_pos] at h
  exact Hy hS2 hm02 hm4 rfl hB4 hh2 fun w' σ' hk hr=>h _ w' σ' hk hr
 refine K0 ?_
 by_cases hnull:k=H8
 ·rw[show decide (k=[110,117,108,108])=true from decide_eq_true hnull]
  (try simp only[O6,E1,S1,W5,W7,L1,M4,M3,H5,Bool.not_true,Bool.not_false])
  exact hbad (by simp[F6,hnull])
 rw[show decide (k=[110,117,108,108])=false from decide_eq_false hnull]
 (try simp only[O6,E1,S1,W5,W7,L1,M4,M3,H5,Bool.not_true,Bool.not_false])
 refine W2 ?_
 refine Ya (i:=0) hm02 rfl ?_
 refine Dt hk2.sat hl2 hk ?_
 refine Wa ?_
 cases hkm:N3 l k with
 | false=>
  (try simp only[O6,E1,S1,W5,W7,L1,M4,M3,H5,Bool.not_true,Bool.not_false])
  exact hbad (by simp[F6,hkm])
 | true=>
  (try simp only[O6,E1,S1,W5,W7,L1,M4,M3,H5,Bool.not_true,Bool.not_false])
  refine Rw k (Nat.le_trans hk (by decide)) ?_
  have hr:right k=true:=by
   have:=hkm
   simp only[N3,Bool.or_eq_true,Bool.and_eq_true,decide_eq_true_eq] at this
   rcases this with h1 | h1
   ·exact absurd h1 hnull
   ·exact h1.1
  have hdp:Xi k=(base k).2:=by unfold Xi;rw[if_pos hr]
  have hel:F6 l k=decide ((base k).2≤2):=by
   unfold F6;rw[hkm,decide_eq_false hnull,hdp];rfl
  refine Q1s ?_
  by_cases hd2:(2:Int)<((base k).2:Int)
  ·rw[decide_eq_true hd2]
   refine J4 ?_
   exact hbad (by rw[hel,decide_eq_false_iff_not];omega)
  rw[decide_eq_false hd2]
  refine Z6 ?_
  have ho:F6 l k=true:=by rw[hel,decide_eq_true_eq];omega
  rw[ho] at h
  simp only[Bool.true_eq_false,if_false] at h
  refine Z0 ?_
  by_cases hn0:n<0
  ·rw[if_pos hn0] at h
   rw[decide_eq_true hn0]
   refine J4 ?_
   exact Hy hS2 hm02 hm4 rfl hB4 hh2 fun w' σ' hk hr=>h _ w' σ' hk hr
  rw[if_neg hn0] at h
  rw[decide_eq_false hn0]
  refine Z6 ?_
  refine Q1s ?_
  have hbad2: ∀{w3 σ3},Stp w2 σ2 w3 σ3→W4 room cs≤n→Q2 P T.a (.pointer (some ⟨b0,0,none⟩)) w3 fun t14 w=>
   Y0 P T.a (.pointer (some ⟨b4,0,none⟩)) t14 w fun _u w=>
   Y8 P T.a (.pointer (some ⟨b4,0,none⟩)) w fun r0=>
   K (.tuple #[r0,(.int .i64 90)]) w:=fun {w3 σ3} hS hle=>by
   rw[if_pos hle] at h
   exact Hy (hS2.trans hS) (hm02.up hS) (hm4.up hS) rfl hB4 (V8 hh2 ⟨hS.le⟩) fun w' σ' hk hr=>h _ w' σ' hk hr
  by_cases hbig:(1048576:Int)<n
  ·rw[decide_eq_true hbig]
   (try simp only[O6,E1,S1,W5,W7,L1,M4,M3,H5,Bool.not_true,Bool.not_false])
   exact hbad2 (Stp.refl hk2.sat) (by unfold W4;omega)
  rw[decide_eq_false hbig]
  (try simp only[O6,E1,S1,W5,W7,L1,M4,M3,H5,Bool.not_true,Bool.not_false])
  refine Xo ⟨by omega,by omega⟩ ?_
  refine Rr hm02 rfl ?_
  refine Q9s hk2.sat hh2 (by unfold W4;exact h0) h1 fun w4 σ4 hk4=>?_
  rw[Rj]
  by_cases hg:W4 room cs≤n
  ·rw[show decide (1+n>W4 room cs)=true from decide_eq_true (by omega)]
   refine J4 ?_
   exact hbad2 hk4 hg
  rw[if_neg hg] at h
  rw[show decide (1+n>W4 room cs)=false from decide_eq_false (by omega)]
  refine Z6 ?_
  have hS4:=hS2.trans hk4
  have hm04:=hm02.up hk4
  have hm44:=hm4.up hk4
  obtain ⟨m,rfl⟩:=Int.eq_ofNat_of_zero_le (Int.not_lt.1 hn0)
  rw[Int.toNat_natCast] at h
  unfold W4 at hg
  have hr38:=Fv hr
  refine Rc (by simp only[List.length_cons,List.length_nil];omega) ?_
  refine W0 (cells:= #[S (k++[91,93]), .slice none 0 0]) (by kernel_rfl) ?_
  refine N0 hk4.sat fun b7 w5 σ5 hb7 hk5 hm7=>?_
  have hS5:=hS4.trans hk5
  have hB7:=M8 hb7 hS4
  refine Oc (ds:=[S (k++[91,93]), .slice none 0 0]) hm7 rfl rfl (by rw[List.all_toArray];rfl) fun w6 u6 hm76=>?_
  have hS6:=u6.stp hS5 hB7 hm7.1
  have hb07:b0≠b7:=by have:=hm04.lt;omega
  have hb47:b4≠b7:=by have:=hm44.lt;omega
  have hm06:=(hm04.up hk5).upd u6 hb07
  have hm46:=(hm44.up hk5).upd u6 hb47
  have hc6:Sl 2 R0 σ5 cv cs:=hc.up hS5
  have hl6:Sl 8 V0 σ5 lv l:=hl.up hS5
  refine U1 m (fun n w'=> ∃σ' x,Stp w σ w' σ'∧SLe σ5 σ'∧Y1 σ' w' b0 [lv,I room,cv]∧Y1 σ' w' b4 _∧Y1 σ' w' b7 [S (k++[91,93]),x]∧V5 w.heap.size T.g 4 M5 σ' w' x (List.replicate n (L8 k))∧x.ownBlock≠some b0∧x.ownBlock≠some b4∧x.ownBlock≠some b7)
   ⟨σ5, .slice none 0 0,hS6,SLe.refl _,hm06,hm46,hm76,V5.nil,by simp[Value.ownBlock],by simp[Value.ownBlock],by simp[Value.ownBlock]⟩ fun n w7 d hn hinv=>?_
  obtain ⟨σ7,x,hS7,le7,hm07,hm47,hm77,ha7,hx0,hx4,hx7⟩:=hinv
  have hs7:=hS7.sat
  refine Z0 ?_
  refine Q7 (fun hcc=>?_) (fun hcc=>?_)
  ·have hn':n<m:=by simpa using hcc
   have hrd: ∀{w':World} {K:Value→World→Prop},Hst w7 σ7 w' σ7→K x w'→Q2 P T.l (.pointer (some ((⟨b7,0,none⟩:Addr).add 1))) w' K:=fun hst hK=>Ya (hm77.up hst.stp) rfl hK
   refine U2 hs7 ?_
   (repeat (apply J5;(· intros;(repeat (rename_i hx;subst hx));(repeat' (first | (with_reducible exact O8 rfl) | (with_reducible exact S7 (Stp.bel (by (repeat (first | exact Stp.refl (by (first | assumption | exact Stp.sat (by assumption) | exact Hst.sat (by assumption))) | assumption | refine Stp.trans ?_ (by first | assumption | exact Hst.stp (by assumption)))))) rfl) | (with_reducible intro _) | (simp only[↓M2,M2,Mb,reduceIte]) | (with_reducible refine hrd au ?_) | (with_reducible show Q2 _ _ _ _ _;first | refine X7 aS aL aR ?_ | refine Y4 aS aL aR ?_ | refine ld aS aL aR ?_) | (with_reducible show indexAddr _ _ _ _ _ _;refine Y3 aL au ?_) | (with_reducible show X3 _ _ _ _ _ _ _ _;refine Q8 aL ?_) | (with_reducible show F2 _ _ _ _ _ _;refine J0 aR ?_) | (with_reducible show pick _ _ _ _ _ _;refine M9 ?_) | (with_reducible show Q1 _ _ _ _ _;first | refine Q8O au ?_) | (apply I1;intro hh;(try simp only[hh,reduceIte,↓M2,M2,Mb,reduceIte]))));done)))
   refine Wb (w:=w7) (σ:=σ7) (Φ:=fun σ' v=>Sl 4 M5 σ' v [L8 k]) (fun t41 w hb e=>?_) ?_
   ·subst e
    exact T4 (R:=M5) (sz:=4) hb.sat [_] [L8 k] rfl rfl (by simp[Value.cells]) rfl ⟨Ft _,trivial⟩ fun v w2 σ2 hk2 hv2=>Sv hb hk2 hv2
   rintro t46 t47 t49 t50 w8 hb8 rfl rfl rfl ⟨σ8,hk8,s8⟩
   refine X05 (w0:=w) (hS7.trans hb8.stp) (ha7.up hb8.stp) hk8.sat s8 (fun y ds hy=>hy) rfl (by simp;omega) (by simp;omega) fun x9 w9 hg9 hS9 ha9 hat9=>?_
   have hm08:=(hm07.up hb8.stp).turn hg9 fun e=>hx0 e.symm
   have hm48:=(hm47.up hb8.stp).turn hg9 fun e=>hx4 e.symm
   have hm78:=(hm77.up hb8.stp).turn hg9 fun e=>hx7 e.symm
   have hsz:=hb8.stp.bel.size
   have hnew: ∀b,b<w7.heap.size→x.ownBlock≠some b→x9.ownBlock≠some b:=fun b hb hxb e=>by
    rcases hat9 with e2 | e2
    ·exact hxb (e2▸e)
    ·have:=e2 b e;omega
   have hsh:=Jp ha9
   refine W2 ?_
   refine Zu hm78 (by simp) hsh.1 hsh.2 fun w10 u10 hm710=>?_
   refine N1 ?_
   have hx97:=hnew b7 hm77.lt hx7
   refine Y5 (by omega) hn' ⟨σ7,x9,u10.stp hS9 hB7 hm78.1,le7,hm08.upd u10 hb07,hm48.upd u10 hb47,hm710,?_,hnew b0 hm07.lt hx0,hnew b4 hm47.lt hx4,hx97⟩
   have:=ha9.kp (D:=fun j=>j=b7) (.of_upd u10 rfl) fun j hj e=>hx97 (e▸hj)
   rw[List.replicate_succ']
   exact this
  ·have hn': ¬n<m:=by simpa using hcc
   have hnm:n=m:=by omega
   subst hnm
   obtain ⟨σ9,hS9,hx9,le9,o9⟩:=ha7.keep hS7
   have mk: ∀{b:Nat} {zs:List Value},Y1 σ7 w7 b zs→x.ownBlock≠some b→Y1 σ9 w7 b zs:=fun hm hne=>⟨(o9 _ fun e=>hne e.symm).trans hm.1,hm.2⟩
   have le59:SLe σ5 σ9:=le7.more ⟨le9⟩
   refine X02 hS9 (mk hm07 hx0) (mk hm47 hx4) (mk hm77 hx7) rfl hb0 hB4 hb04 (hl6.lift le59) (hc6.lift le59) hx9 (Nat.le_trans (show (k++[91,93]).length≤40 by simp only[List.length_append,List.length_cons,List.length_nil];omega) (by decide)) (by omega) fun cv' w' σ' hk' hr=>h _ w' σ' hk' hr)
end Go.Proofs.YtjdiakhipmggjaaGreatDoor

namespace Go.Emb
open Go.RowKit Go.Hm
section
variable {α : Type} {P : Program} {R : Q5 → α → List Value → Prop} {B sz : Nat} {e : TypeId} {σ σ0 : Q5} {v u : Value} {xs : List α} {w w0 w' : World} {K : Value → World → Prop}
theorem X1b {t:TypeId} {b:Nat} {z:Value} [TS P t e] [TZ P e sz b z] (h:J8 B e sz R σ w v xs) {n:Nat} (o:n<xs.length) (i:K (.pointer (some (Vq sz v n))) w):indexAddr P t v (I n) w K:=by
 obtain ⟨a,j,rfl,m,p,f,c⟩:=h
 obtain ⟨g,d,k,rfl,q⟩:=c (by omega)
 rw[Si (by omega) (by omega)]
 simpa [Vq] using i
theorem J8.elQ (h:J8 B e sz R σ w v xs) {n:Nat} (o:n<xs.length): ∃cs,cs.length=sz∧R σ xs[n] cs∧ ∀j u,cs[j]? =some u→w.cell? ((Vq sz v n).add j)=some u:=by
 obtain ⟨a,c,rfl,q,s,p,i⟩:=h
 obtain ⟨g,b,f,rfl,y,t,m,r,k⟩:=i (by omega)
 have hh:n*sz+sz≤c*sz:=by rw[←Nat.succ_mul];exact Nat.mul_le_mul_right _ (by omega)
 refine ⟨(f.toList.drop (b+n*sz)).take sz,by rw[List.length_take,List.length_drop,Array.length_toList];omega,k n _ (by simp[o]),fun j u d=>?_⟩
 rw[List.getElem?_take] at d
 split at d
 ·rw[List.getElem?_drop] at d
  have e:Vq sz (.slice (some ⟨g,b,none⟩) xs.length c) n=(⟨g,b,none⟩:Addr).add (n*sz):=rfl
  rw[e]
  unfold World.cell?
  rw[S4,S4,A9,A9,I6 (I6 rfl _)]
  simp only[m]
  simpa using d
 ·cases d
theorem X48 {t:TypeId} {c:Nat} {z:Value} [tz:TZ P t 1 c z] {b i:Nat} {cs:List Value} {v:Value} (d:w.heap[b]? =some (.cells cs.toArray e (0,0))) (g:i<cs.length) (f:v.cells= #[v]) (m:v.oneCell'=true)
 (h: ∀w',Upd w b w'→w'.heap[b]? =some (.cells (cs.set i v).toArray e (0,0))→K undef w'):Y0 P t (.pointer (some ((⟨b,0,none⟩:Addr).add i))) v w K:=by
 unfold Y0
 have a:(⟨b,0,none⟩:Addr).add i=⟨b,i,none⟩:=by unfold Addr.add;split<;>simp_all
 have:=run_storeCells_at P b i e [v] 0 cs.toArray w d (by simp;omega) (by simpa using m)
 simp only[Nat.add_zero] at this
 obtain ⟨j,hh⟩:=Un (cs:=(cs.set i v).toArray) d
 have k:(List.take i cs.toArray.toList++[v]++List.drop (i+[v].length) cs.toArray.toList).toArray=(cs.set i v).toArray:=by
  rw[←Q7e g];simp
 rw[k] at this
 rw[Li (w':=w.setRow b (cs.set i v).toArray) (by simp[Instr.storeAt,Instr.sureAddr,a,storeVar,L3 tz,f,this])]
 exact h _ j hh
theorem X2P {t:TypeId} {A n c:Nat} {z:Value} {x:α} [tz:TZ P t 1 A z] (hS:Stp w0 σ0 w σ) (Y:J8 w0.heap.size e sz R σ w v xs) (hn:n<xs.length) (hc:c<sz) (hu:u.cells= #[u]) (U:u.oneCell'=true) (M: ∀cs,cs.length=sz→R σ xs[n] cs→R σ x (cs.set c u))
 (h: ∀w',Kpt (fun k=>v.ownBlock=some k) w w'→Stp w0 σ0 w' σ→J8 w0.heap.size e sz R σ w' v (xs.set n x)→K undef w'):Y0 P t (.pointer (some ((Vq sz v n).add c))) u w K:=by
 obtain ⟨a,f,rfl,W,Z,i,X⟩:=Y
 obtain ⟨g,d,p,rfl,L,D,H,q4,E⟩:=X (by omega)
 have hh:n*sz+sz≤f*sz:=by rw[←Nat.succ_mul];exact Nat.mul_le_mul_right _ (by omega)
 have hm:Y1 σ w g p.toList:=⟨D,e,by simpa using H⟩
 have Q:=Array.length_toList (xs:=p)
 have V:(Vq sz (.slice (some ⟨g,d,none⟩) xs.length f) n).add c=(⟨g,0,none⟩:Addr).add (d+n*sz+c):=by
  simp only[Vq,Q3w]
  unfold Addr.add
  split<;>split<;>simp_all<;>omega
 rw[V]
 refine X48 (e:=e) (by simpa using H) (by omega) hu U fun w' C O=>?_
 refine h w' (Kpt.of_upd C rfl) (C.stp hS L D) ⟨_,f,by rw[List.length_set],by rw[List.length_set];exact W,Z,fun b q=>⟨(i b q).1,(i b q).2.1,by rw[C.size];exact (i b q).2.2.1,(i b q).2.2.2⟩,fun _=>⟨g,d,_,rfl,L,D,O,by simp;omega,fun j y m=>?_⟩⟩
 rw[List.toList_toArray]
 have o:j<xs.length:=by have:=(List.getElem?_eq_some_iff.1 m).1;simpa using this
 have N:j*sz+sz≤f*sz:=by rw[←Nat.succ_mul];exact Nat.mul_le_mul_right _ (by omega)
 rw[List.drop_set]
 by_cases J:j=n
 ·subst J
  rw[List.getElem?_set_self o] at m
  cases m
  rw[if_neg (by omega),List.take_set,show d+j*sz+c-(d+j*sz)=c by omega]
  exact M _ (by rw[List.length_take,List.length_drop];omega) (E j _ (by simp[o]))
 ·rw[List.getElem?_set_ne (by omega)] at m
  have:=E j y m
  rcases Nat.lt_or_gt_of_ne J with s | hgt
  ·have r:j*sz+sz≤n*sz:=by rw[←Nat.succ_mul];exact Nat.mul_le_mul_right _ s
   rw[if_neg (by omega),List.take_set,List.set_eq_of_length_le (by rw[List.length_take];omega)]
   exact this
  ·have r:n*sz+sz≤j*sz:=by rw[←Nat.succ_mul];exact Nat.mul_le_mul_right _ hgt
   rw[if_pos (by omega)]
   exact this
end
end Go.Emb
namespace Go.Proofs.YtjdiakhipmggjaaGreatDoor
open Go.Emb Go.RowKit Go.Kd Go.Hm
variable {w w' : World} {K : Value → World → Prop} {σ σ' : Q5} {ds : List Value} {room : Int} {cs : List Cel} {l : List Cla}
theorem Q6j (f:Z1 cs≤1048576) {j:Nat} (a:j<cs.length):(cs[j].vals.length:Int)≤1048576:=by
 have e:Z1 cs=Z1 (cs.take j)+Z1 (cs.drop j):=by rw[←T3,List.take_append_drop]
 have d:Z1 (cs.drop j)=(1+(cs[j].vals.length:Int))+Z1 (cs.drop (j+1)):=by
  rw[List.drop_eq_getElem_cons a];simp only[Z1,List.map_cons,List.sum_cons]
 have b:=L9 (cs.take j)
 have c:=L9 (cs.drop (j+1))
 omega
theorem X3v {d k:Nat} {p cv x:Value} {n:List Cel} {O:List Value} {w0 w1:World} {σ0 σ1:Q5} (hS:Stp w σ w0 σ0) (J:Stp w0 σ0 w1 σ1) (A:Y1 σ1 w1 d [p,I room,cv]) (V:Y1 σ1 w1 k O) (hz:O.length=3) (M:d<w0.heap.size) (L:k<w0.heap.size) (X:w.heap.size≤d) (N:w.heap.size≤k) (z:d≠k) (hl:Sl 8 V0 σ1 p l) (H:J8 w0.heap.size T.m 2 R0 σ1 w1 x n)
 (h: ∀C w' σ',Stp w σ w' σ'→O4 σ' (l,room,n) [p,I room,C]→K (.tuple #[.agg [p,I room,C].toArray,I 0]) w'):
 Y0 P T.f (.pointer (some ((⟨d,0,none⟩:Addr).add 2))) x w1 fun _u w=>
 Q2 P T.a (.pointer (some ⟨d,0,none⟩)) w fun Q w=>
 Y0 P T.a (.pointer (some ⟨k,0,none⟩)) Q w fun _u w=>
 Y8 P T.a (.pointer (some ⟨k,0,none⟩)) w fun r0=>
 K (.tuple #[r0,(.int .i64 0)]) w:=by
 have r:x.cells= #[x]∧x.oneCell'=true:=by obtain ⟨a,c,rfl,_⟩:=H;exact ⟨rfl,rfl⟩
 refine Zu A (by simp) r.1 r.2 fun t W g=>?_
 have s:J8 w0.heap.size T.m 2 R0 σ1 t x n:=H.kp (D:=fun j=>j=d) (.of_upd W rfl) fun j Y e=>by have:=(H.mem Y).1;omega
 have i:=V.upd W (fun e=>z e.symm)
 have f:Stp w σ t σ1:=W.stp (hS.trans J) X A.1
 obtain ⟨E,s5,Z,f5,o5⟩:=s.freeze f.sat
 have m: ∀j,j<w0.heap.size→E j=σ1 j:=fun j Y=>o5 j fun e=>by have:=(s.mem e.symm).1;omega
 have y:Y1 E t d [p,I room,x]:=⟨(m d M).trans g.1,g.2⟩
 have q:Y1 E t k O:=⟨(m k L).trans i.1,i.2⟩
 have U:Stp w σ t E:=⟨f.bel,s5,fun b o e=>Z.le b o (f.le b o e),fun b hb=>(m b (Nat.lt_of_lt_of_le hb hS.bel.size)).trans (f.old b hb)⟩
 exact Hy U y q hz N ⟨p,x,rfl,hl.lift Z,f5⟩ fun w' σ' J hr=>h x w' σ' J hr
set_option maxHeartbeats 2000000 in
theorem X3T {r i:Int} {v:Val} (hs:X2 w σ) (hh:O4 σ (Q4 l,room,cs) ds) (wf:Wf l) (ok:Ok (Q4 l)) (hlen:(Q4 l).length≤1000) (good: ∀c∈cs,GoodC W6 (Q4 l) cs c) (hl1:Z1 cs≤1048576) (hv:M5 σ v [I v.sort,I v.n,S v.s,I v.ref])
 (h: ∀ds' w' σ',Stp w σ w' σ'→O4 σ' (Q4 l,room,(H6 W6 (Q4 l) cs r i v).1) ds'→K (.tuple #[.agg ds'.toArray,I (H6 W6 (Q4 l) cs r i v).2]) w'):Q1 P F.bO [.agg ds.toArray,I r,I i, .agg [I v.sort,I v.n,S v.s,I v.ref].toArray] w K:=Q0r (by
 have hcl:=T2 cs
 obtain ⟨lv,cv,rfl,hl,hc⟩:=O4.out hh
 unfold Eg
 refine Ev hs fun b0 w1 σ1 hb0 hk1 hm0=>?_
 refine Y9 hk1.sat fun q w2 σ2 hk2 hq=>?_
 have hS2:=hk1.trans hk2
 refine N0 hk2.sat fun b4 w3 σ3 hb4 hk3 hm4=>?_
 have hS3:=hS2.trans hk3
 have hB4:=M8 hb4 hS2
 have hm02:=hm0.up hk2
 have hb04:b0≠b4:=by have:=hm02.lt;omega
 have hm03:=hm02.up hk3
 have hh3:=V8 hh ⟨hS3.le⟩
 have hq3:=hq.up hk3
 refine Rr hm03 rfl ?_
 refine Q7H hk3.sat hh3 fun w4 σ4 hk4=>?_
 have hS4:=hS3.trans hk4
 have hm04:=hm03.up hk4
 have hm44:=hm4.up hk4
 have hh4:=V8 hh3 ⟨hk4.le⟩
 have hq4:=hq3.up hk4
 unfold H6 at h
 refine Jb ?_
 by_cases h0:E4 cs r i=0
 case neg=>
  rw[decide_eq_false h0]
  rw[if_pos h0] at h
  refine J4 ?_
  exact Hy hS4 hm04 hm44 rfl hB4 hh4 fun w' σ' hk hr=>h _ w' σ' hk hr
 rw[decide_eq_true h0]
 rw[if_neg (fun hn=>hn h0)] at h
 refine Z6 ?_
 obtain ⟨j,m,rfl,rfl,hj,hm⟩:=Lg h0
 rw[L4 hj,Int.toNat_natCast] at h
 have hc4:=hc.up hS4
 obtain ⟨vv,p1,p2,p3⟩:=Sl.elO hc4 hj
 have hgc:=good cs[j] (List.getElem_mem hj)
 have hif:elem cs[j].kind=[]→m<(Y6 (Q4 l) cs[j].kind).length:=fun e=>by
  rcases hgc.is with h | h
  ·exact absurd e h
  ·rw[←h.2];exact hm
 have hs4:=hk4.sat
 have hr0: ∀{w':World} {K:Value→World→Prop},Hst w4 σ4 w' σ4→K (.agg [lv,I room,cv].toArray) w'→Q2 P T.a (.pointer (some ⟨b0,0,none⟩)) w' K:=fun hst hK=>Rr (hm04.up hst.stp) rfl hK
 have hr1: ∀{w':World} {K:Value→World→Prop},Hst w4 σ4 w' σ4→K cv w'→Q2 P T.f (.pointer (some ((⟨b0,0,none⟩:Addr).add 2))) w' K:=fun hst hK=>Ya (hm04.up hst.stp) rfl hK
 refine U2 hs4 ?_
 (repeat (apply J5;(· intros;(repeat (rename_i hx;subst hx));(repeat' (first | (with_reducible exact O8 rfl) | (with_reducible exact S7 (Stp.bel (by (repeat (first | exact Stp.refl (by (first | assumption | exact Stp.sat (by assumption) | exact Hst.sat (by assumption))) | assumption | refine Stp.trans ?_ (by first | assumption | exact Hst.stp (by assumption)))))) rfl) | (with_reducible intro _) | (simp only[↓M2,M2,Mb,reduceIte]) | (with_reducible refine hr0 au ?_) | (with_reducible refine hr1 au ?_) | (with_reducible show Q2 _ _ _ _ _;first | refine X7 aS aL aR ?_ | refine Y4 aS aL aR ?_ | refine ld aS aL aR ?_) | (with_reducible show indexAddr _ _ _ _ _ _;refine Y3 aL au ?_) | (with_reducible show X3 _ _ _ _ _ _ _ _;refine Q8 aL ?_) | (with_reducible show F2 _ _ _ _ _ _;refine J0 aR ?_) | (with_reducible show pick _ _ _ _ _ _;refine M9 ?_) | (with_reducible show Q1 _ _ _ _ _;first | refine Q9D au au au au au au ?_) | (apply I1;intro hh;(try simp only[hh,reduceIte,↓M2,M2,Mb,reduceIte]))));done)))
 (intros;(repeat (rename_i hx;subst hx)))
 rename_i w5 hb5
 have hS5:=hS4.trans hb5.stp
 refine Q9U hb5.sat hh4 wf ok hlen hv.2.2.2.1 (Ia ok p3 m) fun wA σA hkA=>?_
 have hk4A:=hb5.stp.trans hkA
 have hSA:=hS4.trans hk4A
 have hm0A:=hm04.up hk4A
 have hm4A:=hm44.up hk4A
 have hhA:=V8 hh4 ⟨hk4A.le⟩
 have hqA:=hq4.up hk4A
 have hsA:=hkA.sat
 refine Wa ?_
 cases hf:B4 W6 (Q4 l) cs v (Xd (Q4 l) cs[j].kind m) with
 | false=>
  rw[hf] at h
  simp only[Bool.false_eq_true,if_false] at h
  refine J4 ?_
  exact Hy hSA hm0A hm4A rfl hB4 hhA fun w' σ' hk hr=>h _ w' σ' hk hr
 | true=>
  rw[hf] at h
  simp only[if_true] at h
  refine Z6 ?_
  have hcA:=hc.up hSA
  have hlA:=hl.up hSA
  have hvl:=Q6j hl1 hj
  refine Ee (R:=R0) (e:=T.m) (Stp.refl hsA) (by decide) fun x1 wA1 hkA1 ha1 _=>?_
  refine W2 ?_
  refine Ya (hm0A.up hkA1) rfl ?_
  refine Wi hkA1 ha1 (hcA.up hkA1) rfl (by simp;omega) (by simp;omega) fun x2 wB _ hkB ha2 _=>?_
  rw[List.nil_append] at ha2
  have hsB:=hkB.sat
  refine Ee (R:=M5) (e:=T.g) (Stp.refl hsB) (by decide) fun y1 wB1 hkB1 hy1 _=>?_
  have hq2:=J8.of_acc (ha2.up hkB1)
  refine X1b hq2 hj ?_
  obtain ⟨cs5,hl5,⟨vv5,rfl,p5,_⟩,hcell⟩:=hq2.elQ hj
  refine W2 ?_
  refine Qc (hcell 1 vv5 rfl) ?_
  refine Wi hkB1 hy1 p5 rfl (by simp;omega) (by simp;omega) fun y2 wB2 _ hkB2 hy2 _=>?_
  rw[List.nil_append] at hy2
  refine Y4 hkB2.sat ((hqA.up hkB).up hkB2) rfl ?_
  refine Q3o (x:=v) hkB2 (J8.of_acc hy2) hm rfl (show M5 σA v _ from hv) (Rep.one (R:=M5) (σ:=σA) hv) fun p u w6 _ hb6 hy6=>?_
  obtain ⟨σ7,hk7,hs7,le7,_⟩:=hy6.keep hb6.stp
  have hkA7:=hkB.trans hk7
  have hq7:=J8.of_acc (ha2.up hk7)
  refine X1b hq7 hj ?_
  refine W2 ?_
  have hysh:y2.cells= #[y2]∧y2.oneCell'=true:=Jp hy2
  refine X2P (x:=(⟨cs[j].kind,cs[j].vals.set m v⟩:Cel)) hkA7 hq7 hj (by decide) hysh.1 hysh.2 (fun es _ hes=>by
   obtain ⟨v0,rfl,_,hkl⟩:=hes
   exact ⟨y2,rfl,hs7,hkl⟩) fun w8 _ hk8 hq8=>?_
  refine W2 ?_
  have hsv:B6 cs j m v=cs.set j ⟨cs[j].kind,cs[j].vals.set m v⟩:=by unfold B6;rw[L4 hj,Int.toNat_natCast,Int.toNat_natCast]
  rw[hsv] at h
  exact X3v hSA hk8 (hm0A.up hk8) (hm4A.up hk8) rfl hm0A.lt hm4A.lt hb0 hB4 hb04 (hlA.up hk8) hq8 fun cv' w' σ' hk hr=>h _ w' σ' hk hr)
end Go.Proofs.YtjdiakhipmggjaaGreatDoor

namespace Go.Proofs.YtjdiakhipmggjaaGreatDoor
open Go.Emb Go.RowKit Go.Kd Go.Hm
variable {w w' : World} {K : Value → World → Prop} {σ σ' : Q5} {ds : List Value} {room : Int} {cs : List Cel} {l : List Cla}
theorem Q5q {k c:Nat} {b a:Value} {m:List Value} {w1:World} {σ1:Q5} (q:Stp w σ w1 σ1) (j:Y1 σ1 w1 k [b,I room,a]) (i:Y1 σ1 w1 c m) (r:m.length=3) (e:w.heap.size≤c) (n:O4 σ1 (l,room,cs) [b,I room,a]) (h: ∀w' σ',Stp w σ w' σ'→O4 σ' (l,room,cs) [b,I room,a]→K (.agg [b,I room,a].toArray) w'):
 Q2 P T.a (.pointer (some ⟨k,0,none⟩)) w1 fun g w=>
 Y0 P T.a (.pointer (some ⟨c,0,none⟩)) g w fun _u w=>
 Y8 P T.a (.pointer (some ⟨c,0,none⟩)) w fun o=>
 K o w:=
 Rr j rfl (F8 i q e r rfl (Rep.one n) fun p f d=>V1 d rfl (h p σ1 f.stp n))
set_option maxHeartbeats 2000000 in
theorem X3j {n:Int} (hs:X2 w σ) (hh:O4 σ (l,room,cs) ds) (bf:Z1 cs≤1048576) (hn:Yu n)
 (h: ∀af w' σ',Stp w σ w' σ'→O4 σ' (l,room,Kb cs n) af→K (.agg af.toArray) w'):Q1 P F.bQ [.agg ds.toArray,I n] w K:=Q0a (by
 have b8:=T2 cs
 obtain ⟨lv,cv,rfl,hl,hc⟩:=O4.out hh
 unfold Ek
 refine Ev hs fun M w1 σ1 a5 Z av=>?_
 refine N0 Z.sat fun b4 w2 σ2 be ab J=>?_
 have bh:=Z.trans ab
 have ac:=M8 be Z
 have ai:M≠b4:=by have:=av.lt;omega
 have ah:=av.up ab
 have bo:=ab.sat
 refine Zv (fun z w'=>z=I (max n 0)∧w'=w2) ?_ ?_
 ·refine Z0 ?_
  by_cases e:n<0
  ·rw[decide_eq_true e]
   exact J4 ⟨by rw[show max n 0=0 by omega],rfl⟩
  ·rw[decide_eq_false e]
   exact Z6 ⟨by rw[show max n 0=n by omega],rfl⟩
 rintro z d0 w3 ⟨rfl,rfl⟩
 unfold Kb at h
 obtain ⟨m,ag⟩:=Int.eq_ofNat_of_zero_le (show 0≤max n 0 by omega)
 rw[ag,Int.toNat_natCast] at h
 rw[ag]
 have cd:(m:Int)≤9223372036854775807:=by have:=hn.2;omega
 refine U1 (min m cs.length) (fun i w'=> ∃σ',Stp w3 σ2 w' σ'∧(cs.take i).any (fun c=>c.vals.any (F5 m))=false) ⟨σ2,Stp.refl bo,rfl⟩ fun i w4 d hi u=>?_
 obtain ⟨σ4,q,W⟩:=u
 have a:=ah.up q
 have s:=bh.trans q
 have L:=hc.up s
 refine Z0 ?_
 have V: ¬i<min m cs.length→(cs.take m).any (fun c=>c.vals.any (F5 m))=false∧(m<cs.length→i=m):=fun aj=>by
  by_cases bb:m≤cs.length
  ·have:i=m:=by omega
   subst this;exact ⟨W,fun _=>rfl⟩
  ·have e:cs.take m=cs.take i:=by rw[List.take_of_length_le (by omega),List.take_of_length_le (by omega)]
   rw[e];exact ⟨W,fun h=>by omega⟩
 have Q: ¬i<min m cs.length→jn (α:=Unit) w4 (fun ar w=>
  fieldAddr P T.a (.pointer (some ⟨M,0,none⟩)) 2 w fun a7 w=>
  Q2 P T.f a7 w fun bg w=>
  X3 P .len [T.f] T.e [false] [bg] w fun a0 w=>
  Q3 P .lss T.e (.tmp 52) (.tmp 55) (I (m:Int)) a0 w fun bd w=>
  X1 bd (
   buildSlice P T.f 0 [] w fun a2 w=>
   fieldAddr P T.a (.pointer (some ⟨M,0,none⟩)) 2 w fun a9 w=>
   Q2 P T.f a9 w fun a1 w=>
   R6 P T.f a1 none (some (I (m:Int))) none w fun bi w=>
   X3 P .append [T.f,T.f] T.f [false,false] [a2,bi] w fun bp w=>
   fieldAddr P T.a (.pointer (some ⟨M,0,none⟩)) 2 w fun bk w=>
   Y0 P T.f bk bp w fun _u w=>
   ar () w) (
   ar () w)) fun cf d_ w=>
  Q2 P T.a (.pointer (some ⟨M,0,none⟩)) w fun bc w=>
  Y0 P T.a (.pointer (some ⟨b4,0,none⟩)) bc w fun _u w=>
  Y8 P T.a (.pointer (some ⟨b4,0,none⟩)) w fun r0=>
  K r0 w:=fun aj=>by
  obtain ⟨v,_⟩:=V aj
  rw[if_neg (by rw[v];simp)] at h
  refine U9 ?_
  refine W2 ?_
  refine Ya a rfl ?_
  refine Q8 L ?_
  refine Z0 ?_
  by_cases bb:m<cs.length
  ·rw[decide_eq_true (show (m:Int)<(cs.length:Int) by omega)]
   refine J4 ?_
   have bl:=q.sat
   refine Ee (R:=R0) (e:=T.m) (Stp.refl bl) (by decide) fun x1 w5 f bn _=>?_
   refine W2 ?_
   refine Ya (a.up f) rfl ?_
   refine Es (L.up f) none (some (I m)) 0 m (.inl ⟨rfl,rfl⟩) (.inr rfl) (Nat.zero_le _) (by omega) fun v3 ak=>?_
   rw[List.drop_zero,Nat.sub_zero] at ak
   refine Wi f bn ak rfl (by simp;omega) (by simp;omega) fun x2 w6 _ g C _=>?_
   rw[List.nil_append] at C
   have am:=Jp C
   have U:=a.up g
   refine W2 ?_
   refine Zu U (by simp) am.1 am.2 fun w7 u7 N=>?_
   intro d
   have an:J8 w4.heap.size T.m 2 R0 σ4 w7 x2 (cs.take m):=(J8.of_acc C).kp (D:=fun j=>j=M) (.of_upd u7 rfl) fun j hj e=>by have:=(C.mem j hj).1;have:=a.lt;omega
   have O:=((J.up q).up g).upd u7 (fun e=>ai e.symm)
   have H:Stp w σ w7 σ4:=u7.stp (s.trans g) a5 U.1
   obtain ⟨σ8,s8,l8,f8,o8⟩:=an.freeze H.sat
   have X: ∀j,j<w4.heap.size→σ8 j=σ4 j:=fun j hj=>o8 j fun e=>by have:=(an.mem e.symm).1;omega
   have ba:Stp w σ w7 σ8:=⟨H.bel,s8,fun b o e=>l8.le b o (H.le b o e),fun b hb=>(X b (Nat.lt_of_lt_of_le hb s.bel.size)).trans (H.old b hb)⟩
   exact Q5q ba (cs:=cs.take m) (l:=l) (show Y1 σ8 w7 M [lv,I room,x2] from ⟨(X M a.lt).trans N.1,N.2⟩) ⟨(X b4 (J.up q).lt).trans O.1,O.2⟩ rfl ac ⟨lv,x2,rfl,(hl.up s).lift l8,f8⟩ fun w' σ' hk hr=>h _ w' σ' hk hr
  ·rw[decide_eq_false (show¬(m:Int)<(cs.length:Int) by omega)]
   refine Z6 ?_
   intro d
   rw[List.take_of_length_le (by omega)] at h
   exact Q5q s a (J.up q) rfl ac (V8 hh ⟨s.le⟩) fun w' σ' hk hr=>h _ w' σ' hk hr
 by_cases cg:i<m
 case neg=>
  rw[decide_eq_false (show¬(i:Int)<(m:Int) by omega)]
  (try simp only[O6,E1,S1,W5,W7,L1,M4,M3,H5,Bool.not_true,Bool.not_false])
  exact Q (by omega)
 rw[decide_eq_true (show (i:Int)<(m:Int) by omega)]
 (try simp only[O6,E1,S1,W5,W7,L1,M4,M3,H5,Bool.not_true,Bool.not_false])
 refine W2 ?_
 refine Ya a rfl ?_
 refine Q8 L ?_
 refine Z0 ?_
 by_cases B:i<cs.length
 case neg=>
  rw[decide_eq_false (show¬(i:Int)<(cs.length:Int) by omega)]
  refine Z6 ?_
  exact Q (by omega)
 rw[decide_eq_true (show (i:Int)<(cs.length:Int) by omega)]
 refine J4 ?_
 have b1:=Q6j bf B
 refine U1 cs[i].vals.length (fun k w'=> ∃σ',Stp w4 σ4 w' σ'∧(cs[i].vals.take k).any (F5 m)=false) ⟨σ4,Stp.refl q.sat,rfl⟩ fun k w5 d hk u=>?_
 obtain ⟨σ5,f,A⟩:=u
 have t:=a.up f
 have aa:=L.up f
 have bm:=s.trans f
 have E:=f.sat
 obtain ⟨vv,p1,p2,p3⟩:=Sl.elO aa B
 refine W2 ?_
 refine Ya t rfl ?_
 refine Y3 aa B ?_
 refine W2 ?_
 refine ld E p1 rfl ?_
 refine Q8 p2 ?_
 refine Z0 ?_
 refine Q7 (fun Y=>?_) (fun Y=>?_)
 ·have r:k<cs[i].vals.length:=by simpa using Y
  obtain ⟨p4,r4⟩:=Sl.elV p2 r
  refine W2 ?_
  refine Ya t rfl ?_
  refine Y3 aa B ?_
  refine W2 ?_
  refine ld E p1 rfl ?_
  refine Y3 p2 r ?_
  refine Y4 E p4 rfl ?_
  refine Y7 E (by rfl) rfl (Rep.one r4) fun q6 w6 σ6 g al=>?_
  have aq:=bm.trans g
  have a4:=L2 (p:=F5 m) r
  refine W2 ?_
  refine ld (i:=0) g.sat al rfl ?_
  refine P2 ?_
  have y:F5 m cs[i].vals[k]=false→ ∃σ',Stp w4 σ4 w6 σ'∧(cs[i].vals.take (k+1)).any (F5 m)=false:=fun e=>⟨σ6,f.trans g,by rw[a4,A,e];rfl⟩
  by_cases e4:cs[i].vals[k].sort=4
  ·rw[decide_eq_true e4]
   (try simp only[O6,E1,S1,W5,W7,L1,M4,M3,H5,Bool.not_true,Bool.not_false])
   refine W2 ?_
   refine ld g.sat al rfl ?_
   refine K8 ?_
   by_cases eg:(m:Int)≤cs[i].vals[k].ref
   ·rw[decide_eq_true eg]
    refine J4 ?_
    have v:(cs.take m).any (fun c=>c.vals.any (F5 m))=true:=by
     refine List.any_eq_true.2 ⟨cs[i],List.mem_take_iff_getElem.2 ⟨i,by omega,rfl⟩,S5 r (by simp[F5,e4,eg])⟩
    rw[if_pos v] at h
    exact Q5q aq (t.up g) ((J.up q).up (f.trans g)) rfl ac (V8 hh ⟨aq.le⟩) fun w' σ' hk hr=>h _ w' σ' hk hr
   ·rw[decide_eq_false eg]
    refine Z6 ?_
    refine N1 ?_
    exact Y5 (by omega) r (y (by simp[F5,eg]))
  ·rw[decide_eq_false e4]
   (try simp only[O6,E1,S1,W5,W7,L1,M4,M3,H5,Bool.not_true,Bool.not_false])
   refine N1 ?_
   exact Y5 (by omega) r (y (by simp[F5,e4]))
 ·have r: ¬k<cs[i].vals.length:=by simpa using Y
  rw[E2 r] at A
  refine N1 ?_
  refine Y5 (by omega) (by omega) ⟨σ5,q.trans f,?_⟩
  rw[L2 B,W,A];rfl)
end Go.Proofs.YtjdiakhipmggjaaGreatDoor

namespace Go.Hm
open Go.Kd
def Q8C:Ins:=⟨[105,110,116],1,[]⟩
def Q13:Ins:=⟨[114,101,116,117,114,110],0,[]⟩
def kA:X0:=[65]
def fX:Fld:=⟨[120],P6,false⟩
def Q1w:Fld:=⟨[110,101,120,116],kA,false⟩
def fL:Fld:=⟨[108],[65,91,93],false⟩
def mF:Hm.Met:=⟨[102],[P6,kA],P6,false,3,[Q8C,Q13],[]⟩
def mG:Hm.Met:=⟨[103],[],[],false,1,[Q13],[]⟩
def cA:Cla:=⟨kA,J9,[],false,false,false,[fX,Q1w],[mF,mG]⟩
def cB:Cla:=⟨[66],kA,[[73]],false,false,false,[fL],[]⟩
def cI:Cla:=⟨[73],J9,[],true,true,false,[],[]⟩
def cD:Cla:=⟨[68],J9,[],false,true,false,[],[]⟩
def P4:List Cla:=[cA,cB,cI,cD]
end Go.Hm
namespace Go.Proofs.YtjdiakhipmggjaaGreatDoor
open Go.Emb Go.RowKit Go.Kd Go.Hm
variable {w w' : World} {K : Value → World → Prop} {σ σ' : Q5} {ds : List Value} {room : Int} {cs : List Cel} {l : List Cla} {hp tv : Value}
set_option maxRecDepth 100000 in
theorem Q2z:Sy D6 P4=none:=by decide+kernel
set_option maxHeartbeats 1000000 in
theorem Q4e (Y:X2 w σ) (h: ∀v w' σ',Stp w σ w' σ'→Sl 8 V0 σ' v P4→K v w'):Q1 P F.ay [] w K:=Bn (by
 unfold Vs
 refine W0 (cells:= #[S Q8C.op,I 1,S []]) (by kernel_rfl) ?_
 refine W0 (cells:= #[S Q13.op,I 0,S []]) (by kernel_rfl) ?_
 refine T4 (R:=Qp) (sz:=3) Y [.agg #[S Q8C.op,I 1,S []], .agg #[S Q13.op,I 0,S []]] [Q8C,Q13] rfl rfl (by simp;exact ⟨rfl,rfl⟩) rfl ⟨⟨rfl,by decide,by decide,by decide⟩,⟨rfl,by decide,by decide,by decide⟩,trivial⟩ fun v1 w1 σ1 p d=>?_
 refine W0 (cells:= #[S fX.name,S fX.kind, .bool false]) (by kernel_rfl) ?_
 refine W0 (cells:= #[S Q1w.name,S Q1w.kind, .bool false]) (by kernel_rfl) ?_
 refine T4 (R:=R7) (sz:=3) p.sat [.agg #[S fX.name,S fX.kind, .bool false], .agg #[S Q1w.name,S Q1w.kind, .bool false]] [fX,Q1w] rfl rfl (by simp;exact ⟨rfl,rfl⟩) rfl ⟨⟨rfl,by decide,by decide⟩,⟨rfl,by decide,by decide⟩,trivial⟩ fun v2 w2 σ2 i c=>?_
 refine T4 (R:=U7) (sz:=1) i.sat [S P6,S kA] [P6,kA] rfl rfl (by simp;exact ⟨rfl,rfl⟩) rfl ⟨⟨rfl,by decide⟩,⟨rfl,by decide⟩,trivial⟩ fun v3 w3 σ3 e n=>?_
 have y:=d;have u:=c;have t:=n
 obtain ⟨X,J,rfl,_⟩:=y
 obtain ⟨E,N,rfl,_⟩:=u
 obtain ⟨V,D,rfl,_⟩:=t
 have d:=(d.up i).up e
 have c:=c.up e
 refine W0 (cells:= #[S mF.name, .slice V 2 D,S P6, .bool false,I 3, .slice X 2 J, .slice none 0 0]) (by kernel_rfl) ?_
 refine W0 (cells:= #[S Q13.op,I 0,S []]) (by kernel_rfl) ?_
 refine T4 (R:=Qp) (sz:=3) e.sat [.agg #[S Q13.op,I 0,S []]] [Q13] rfl rfl (by simp;rfl) rfl ⟨⟨rfl,by decide,by decide,by decide⟩,trivial⟩ fun v4 w4 σ4 a q=>?_
 have r:=q
 obtain ⟨Q,M,rfl,_⟩:=r
 refine W0 (cells:= #[S mG.name, .slice none 0 0,S [], .bool false,I 1, .slice Q 1 M, .slice none 0 0]) (by kernel_rfl) ?_
 refine T4 (R:=E7) (sz:=7) a.sat [.agg #[S mF.name, .slice V 2 D,S P6, .bool false,I 3, .slice X 2 J, .slice none 0 0], .agg #[S mG.name, .slice none 0 0,S [], .bool false,I 1, .slice Q 1 M, .slice none 0 0]] [mF,mG] rfl rfl (by simp;exact ⟨rfl,rfl⟩) rfl
  ⟨⟨_,_,_,rfl,n.up a,d.up a,Sl.nil,by decide,by decide,by decide⟩,⟨_,_,_,rfl,Sl.nil,q,Sl.nil,by decide,by decide,by decide⟩,trivial⟩ fun v5 w5 σ5 g o=>?_
 have m:=o
 obtain ⟨W,C,rfl,_⟩:=m
 refine W0 (cells:= #[S kA,S J9, .slice none 0 0, .bool false, .bool false, .bool false, .slice E 2 N, .slice W 2 C]) (by kernel_rfl) ?_
 refine T4 (R:=U7) (sz:=1) g.sat [S [73]] [[73]] rfl rfl (by simp;rfl) rfl ⟨⟨rfl,by decide⟩,trivial⟩ fun v6 w6 Z f s=>?_
 have j:=s
 obtain ⟨U,H,rfl,_⟩:=j
 refine W0 (cells:= #[S fL.name,S fL.kind, .bool false]) (by kernel_rfl) ?_
 refine T4 (R:=R7) (sz:=3) f.sat [.agg #[S fL.name,S fL.kind, .bool false]] [fL] rfl rfl (by simp;rfl) rfl ⟨⟨rfl,by decide,by decide⟩,trivial⟩ fun v7 w7 σ7 b k=>?_
 have z:=k
 obtain ⟨L,O,rfl,_⟩:=z
 refine W0 (cells:= #[S cB.name,S kA, .slice U 1 H, .bool false, .bool false, .bool false, .slice L 1 O, .slice none 0 0]) (by kernel_rfl) ?_
 refine W0 (cells:= #[S cI.name,S J9, .slice none 0 0, .bool true, .bool true, .bool false, .slice none 0 0, .slice none 0 0]) (by kernel_rfl) ?_
 refine W0 (cells:= #[S cD.name,S J9, .slice none 0 0, .bool false, .bool true, .bool false, .slice none 0 0, .slice none 0 0]) (by kernel_rfl) ?_
 refine T4 (R:=V0) (sz:=8) b.sat [.agg #[S kA,S J9, .slice none 0 0, .bool false, .bool false, .bool false, .slice E 2 N, .slice W 2 C], .agg #[S cB.name,S kA, .slice U 1 H, .bool false, .bool false, .bool false, .slice L 1 O, .slice none 0 0], .agg #[S cI.name,S J9, .slice none 0 0, .bool true, .bool true, .bool false, .slice none 0 0, .slice none 0 0], .agg #[S cD.name,S J9, .slice none 0 0, .bool false, .bool true, .bool false, .slice none 0 0, .slice none 0 0]] P4 rfl rfl (by simp;exact ⟨rfl,rfl,rfl,rfl⟩) rfl
  ⟨⟨_,_,_,rfl,Sl.nil,(((c.up a).up g).up f).up b,(o.up f).up b,by decide,by decide⟩,⟨_,_,_,rfl,s.up b,k,Sl.nil,by decide,by decide⟩,⟨_,_,_,rfl,Sl.nil,Sl.nil,Sl.nil,by decide,by decide⟩,⟨_,_,_,rfl,Sl.nil,Sl.nil,Sl.nil,by decide,by decide⟩,trivial⟩ fun v8 w8 σ8 A B=>?_
 exact h _ _ _ ((((((((p.trans i).trans e).trans a).trans g).trans f).trans b)).trans A) B)
end Go.Proofs.YtjdiakhipmggjaaGreatDoor

namespace Go.Emb
open Go.RowKit
end Go.Emb
namespace Go.Proofs.YtjdiakhipmggjaaGreatDoor
open Go.Emb Go.RowKit Go.Kd Go.Hm
variable {w : World} {K : Value → World → Prop} {σ : Q5} {l : List Cla}
end Go.Proofs.YtjdiakhipmggjaaGreatDoor

namespace Go.Proofs.YtjdiakhipmggjaaGreatDoor
open Go.Emb Go.RowKit Go.Kd Go.Hm
variable {w w' : World} {K : Value → World → Prop} {σ σ' : Q5} {ds : List Value} {room : Int} {cs : List Cel} {l : List Cla} {hp tv : Value}
theorem HeapIs.mono {B B':Nat} {D:Nat→Prop} (h:HeapIs B D σ w hp tv room cs) (hB:B'≤B):HeapIs B' D σ w hp tv room cs:=by
 obtain ⟨b,g,E,d,m,e,⟨vs,n,c,k,hD⟩,hE,a⟩:=h.ex
 exact ⟨b,g,E,d,Nat.le_trans hB m,e,⟨vs,n.mono hB,⟨c.1,fun i f j=>(c.2 i f j).mono hB⟩,k,hD⟩,hE,a⟩
theorem X30 {a:Addr} {n:Int} (i:X2 w σ)
 (g:(n<0∨1048576<n)→K (.tuple #[.pointer none,I 90]) w)
 (j:0≤n→n≤1048576→ ∀b w' σ' D,Stp w σ w' σ'→HeapIs w.heap.size D σ' w' (.pointer (some ⟨b,0,none⟩)) (.pointer (some a)) n []→K (.tuple #[.pointer (some ⟨b,0,none⟩),I 0]) w'):Q1 P F.cO [.pointer (some a),I n] w K:=Q8n (by
 unfold Q36
 refine Z0 ?_
 by_cases e:n<0
 ·rw[decide_eq_true e]
  (try simp only[O6,E1,S1,W5,W7,L1,M4,M3,H5,Bool.not_true,Bool.not_false])
  exact g (.inl e)
 rw[decide_eq_false e]
 (try simp only[O6,E1,S1,W5,W7,L1,M4,M3,H5,Bool.not_true,Bool.not_false])
 refine Q1s ?_
 by_cases f:(1048576:Int)<n
 ·rw[decide_eq_true f]
  exact J4 (g (.inr f))
 rw[decide_eq_false f]
 refine Z6 ?_
 refine W0 (cells:= #[.pointer (some a),I n,I 0, .slice none 0 0]) (by kernel_rfl) ?_
 refine Ev (cs:=[.pointer (some a),I n,I 0, .slice none 0 0]) i fun b w1 σ1 h d c=>?_
 exact j (by omega) (by omega) b w1 σ1 _ d ⟨b,_,_,rfl,h,c,RowsIs.nil,id,fun k=>Iff.rfl⟩)
theorem X0V:P.underlying T.aq=some (.int .u16):=by kernel_rfl
theorem X1t: ∀c∈P4,Qh c:=X2M (by decide)
theorem Ga:Wf P4:=X3n Q2z
set_option maxHeartbeats 1000000 in
theorem Q7l {r:Int} (hs:X2 w σ) (hg:Glb σ) (hr:0≤r)
 (h: ∀b a D ds w' σ',Stp w σ w' σ'→HeapIs w.heap.size D σ' w' (.pointer (some ⟨b,0,none⟩)) (.pointer (some a)) (r % 301) []→O4 σ' (Q4 P4,r % 301,[]) ds→Tab σ' (.pointer (some a)) (Q4 P4)→Ok (Q4 P4)→K (.tuple #[.pointer (some ⟨b,0,none⟩), .agg ds.toArray]) w'):Q1 P F.ag [.int .u16 r] w K:=Kz (by
 have hr0:=Int.emod_nonneg r (show (301:Int)≠0 by decide)
 have hr1:=Int.emod_lt_of_pos r (show (0:Int)<301 by decide)
 unfold Nw
 refine N0 hs fun b3 w1 σ1 hb3 hk1 hm1=>?_
 refine Q4e hk1.sat fun v w2 σ2 hk2 hv2=>?_
 refine X3p hk2.sat (hg.lift ⟨(hk1.trans hk2).le⟩) hv2 (by decide) X1t (fun i e _ _ hn=>by rw[Q2z] at hn;cases hn) fun tv w3 σ3 _ hk3 ht ok _=>?_
 obtain ⟨a,_,_,_,rfl,_⟩:=ht.ex
 have hS3:=(hk1.trans hk2).trans hk3
 refine J7 (vs:=[_,_,_]) rfl ?_
 refine J7 (vs:=[_,_,_]) rfl ?_
 refine J7 (vs:=[_,_,_]) rfl ?_
 refine Q4e hk3.sat fun v4 w4 σ4 hk4 hv4=>?_
 refine X1r hk4.sat hv4 (by decide) (fun i e _ _ hn=>by rw[Q2z] at hn;cases hn) fun lv w5 σ5 _ hk5 hlv ok5 _=>?_
 have hk35:=hk4.trans hk5
 have hS5:=hS3.trans hk35
 refine J7 (vs:=[_,_,_]) rfl ?_
 refine J7 (vs:=[_,_,_]) rfl ?_
 refine J7 (vs:=[_,_,_]) rfl ?_
 refine Q5I ⟨by decide,hr⟩ ?_
 rw[Gx X0V Q1I]
 have ew:IntKind.i64.wrap (r % 301)=r % 301:=G3 (n:=r % 301) (by omega) (by omega)
 rw[ew]
 simp only[decide_true,Bool.not_true,Bool.false_eq_true,reduceIte,↓M1,M1,Mb,reduceIte]
 refine X2N ?_
 simp only[decide_true,Bool.not_true,Bool.false_eq_true,reduceIte,↓M1,M1,Mb,reduceIte]
 refine X30 (n:=r % 301) hk5.sat (fun hx=>absurd hx (by omega)) fun _ _ b6 w6 σ6 D hk6 h6=>?_
 refine J7 (vs:=[_,_]) rfl ?_
 refine J7 (vs:=[_,_]) rfl ?_
 simp only[decide_true,Bool.not_true,↓M1,M1,Mb,reduceIte]
 refine W0 (cells:= #[lv,I (r % 301), .slice none 0 0]) (by obtain ⟨a5,c5,hle,_⟩:=id hlv;generalize (Q4 P4).length=n5 at hle;subst hle;kernel_rfl) ?_
 have hm6:=hm1.up ((hk2.trans hk3).trans (hk35.trans hk6))
 have hrh:O4 σ6 (Q4 P4,r % 301,[]) [lv,I (r % 301), .slice none 0 0]:=⟨_,_,rfl,hlv.up hk6,Sl.nil⟩
 refine Oc (ds:=[lv,I (r % 301), .slice none 0 0]) hm6 rfl rfl (by rw[List.all_toArray];exact List.all_eq_true.2 (Rep.one hrh)) fun w7 u7 hm7=>?_
 refine V1 hm7 rfl ?_
 have hS6:=hS5.trans hk6
 have hB3:=M8 hb3 (Stp.refl hs)
 have hS7:=u7.stp hS6 hB3 hm6.1
 have hb35:b3<w5.heap.size:=by
  have:=(hm1.up ((hk2.trans hk3).trans hk35)).lt
  exact this
 exact h b6 a D _ w7 σ6 hS7 ((h6.nx (Nxt.of_upd hk6.sat u7 hm6.1) fun k hk e=>by have:=(h6.mem hk).1;omega).mono hS5.bel.size) hrh (ht.lift ⟨(hk35.trans hk6).le⟩) ok)
theorem X3r {x:ActH} {ds:List Value} (j:X2 w σ) (c:Q0k σ x ds) (h: ∀w',Below w.heap.size w w'→K (.bool (decide (x.s.length≤100)&&decide (x.v.s.length≤5000))) w'):Q1 P F.bM [.agg ds.toArray] w K:=Q0l (by
 have g:=c
 obtain ⟨rfl,m,k⟩:=c
 unfold Dx
 refine Y9 j fun q w1 σ1 a d=>?_
 refine W2 ?_
 refine ld (i:=1) a.sat d rfl ?_
 refine Fh (by kernel_rfl) ?_
 refine Q4Z ?_
 cases e:decide ((x.s.length:Int)≤100) with
 | false=>
  have b:decide (x.s.length≤100)=false:=by rw[←e];congr 1;simp only[eq_iff_iff];omega
  rw[b] at h
  (try simp only[↓M1,M1,Mb,reduceIte])
  exact h _ a.bel
 | true=>
  have b:decide (x.s.length≤100)=true:=by rw[←e];congr 1;simp only[eq_iff_iff];omega
  rw[b] at h
  (try simp only[O6,E1,S1,W5,W7,L1,M4,M3,H5,Bool.not_true,Bool.not_false])
  (repeat refine Hd.h ?_)
  refine ld (i:=6) a.sat d rfl ?_
  (repeat refine Hd.h ?_)
  refine Fh (by kernel_rfl) ?_
  (repeat refine Hd.h ?_)
  refine Q4Z ?_
  (repeat refine Hd.h ?_)
  have f:decide ((x.v.s.length:Int)≤5000)=decide (x.v.s.length≤5000):=by congr 1;simp only[eq_iff_iff];omega
  rw[f]
  exact h _ a.bel)
end Go.Proofs.YtjdiakhipmggjaaGreatDoor

namespace Go.Proofs.YtjdiakhipmggjaaGreatDoor
open Go.Emb Go.RowKit Go.Kd Go.Hm
variable {w w' : World} {K : Value → World → Prop} {σ σ' : Q5} {ds : List Value} {room : Int} {cs : List Cel} {l : List Cla} {hp tv : Value}
def zfK:X0:=[90,101,114,111,70,97,117,108,116]
def zf1:List Cel:=[⟨zfK,[⟨3,0,[],0⟩]⟩]
def zf2:List Cel:=zf1++[⟨P6++[91,93],List.replicate 3 ⟨1,0,[],0⟩⟩]
theorem X06:Zn (Q4 P4) 10 [] zfK=(zf1,0):=by decide
theorem X0g:Zs (Q4 P4) 10 zf1 P6 3=(zf2,0):=by decide
theorem Q3x:W6 []=true:=by decide+kernel
theorem Q7p:GoodH W6 (Q4 P4) 10 zf2:=by
 have b:=GoodH.obj Ga Q3x (GoodH.empty (ok:=W6) (l:=Q4 P4) (show (0:Int)≤10 by decide)) zfK
 rw[X06] at b
 have a:=GoodH.arr Ga Q3x b P6 3
 rw[X0g] at a
 exact a
theorem X3Y:P.underlying T.a5=some (.pointer T.p):=by kernel_rfl
theorem X0p (d:Nat) (o:Option Addr):(Op.equalIn (d+1) T.a5 (.pointer o) (.pointer none)).run P w= .ok o.isNone w:=by
 cases o<;>simp[Op.equalIn,run_underlying X3Y]
theorem Q9G {a:Addr} {b c:Operand} (h:K (.bool false) w):Q3 P .eql T.a5 b c (.pointer (some a)) (.pointer none) w K:=by
 have e:(Op.equal T.a5 (.pointer (some a)) (.pointer none)).run P w= .ok false w:=X0p 9999 _
 unfold Q3
 rw[X9 (v:= .bool false) (w':=w) (by simp[eqGuard,Go.binOp,e])]
 exact h
theorem X37 {a:Addr} {b c:Operand} (h:K (.bool true) w):Q3 P .neq T.r b c (.pointer (some a)) (.pointer none) w K:=by
 have e:(Op.equal T.r (.pointer (some a)) (.pointer none)).run P w= .ok false w:=Q5B 9999 _
 unfold Q3
 rw[X9 (v:= .bool true) (w':=w) (by simp[eqGuard,Go.binOp,e])]
 exact h
set_option maxHeartbeats 1000000 in
theorem X2d (X:X2 w σ) (N:Glb σ) (h: ∀w' σ',Stp w σ w' σ'→K (.bool true) w'):Q1 P F.aH [] w K:=Ib (by
 unfold Mu
 refine Q7l X N (by decide) fun b a D ds w1 σ1 g E z ht ok=>?_
 refine J7 (vs:=[_,_]) rfl ?_
 refine J7 (vs:=[_,_]) rfl ?_
 refine N0 g.sat fun b2 w2 σ2 t o q=>?_
 have Y:=M8 t g
 refine Oc q rfl (by obtain ⟨lv,cv,rfl,_⟩:=O4.out z;rfl) (by rw[List.all_toArray];exact List.all_eq_true.2 (Rep.one z)) fun w3 Z aa=>?_
 have U:=g.trans o
 have h2:=E.up o
 have d:Stp w1 σ1 w3 σ2:=Z.stp o t q.1
 have M:=E.up d
 have p:=g.trans d
 rw[show (10 % 301:Int)=10 from rfl] at M
 refine Q9G ?_
 (try simp only[O6,E1,S1,W5,W7,L1,M4,M3,H5,Bool.not_true,Bool.not_false])
 have r:=ht.lift ⟨d.le⟩
 refine Q51 d.sat p.bel.size M r ok (k:=zfK) (by decide) (by decide) (by decide) fun w4 σ4 D4 B J W=>?_
 simp only[X06] at J
 have y:=r.lift B.le
 refine J7 (vs:=[_,_]) rfl ?_
 refine J7 (vs:=[_,_]) rfl ?_
 have A: ∀{k},D k→w.heap.size≤k:=fun s=>(E.mem s).1
 have v:=B.stp' p fun k s=>A s
 refine Q7F B.sat v.bel.size J y (e:=P6) (n:=3) (by decide) (by decide) (by decide) fun w5 V D5 O Q ae=>?_
 simp only[X0g] at Q
 have C:=y.lift O.le
 have j:=O.stp' v fun k s=>(J.mem s).1
 refine J7 (vs:=[_,_]) rfl ?_
 refine J7 (vs:=[_,_]) rfl ?_
 obtain ⟨σf,R,m,u,_⟩:=Q.freeze j.sat
 simp only[X06,X0g,show atM [] 0=0 from rfl,show atM zf1 0=1 from rfl,decide_true,↓M1,M1,Mb,reduceIte]
 refine Q3R R u Q7p.left (by decide) fun w6 H=>?_
 have f:=Stp.of_below R H
 simp only[show W4 10 zf2=4 from by decide,decide_true,↓M1,M1,Mb,reduceIte]
 have c:=u
 refine X31 f.sat c ?_
 simp only[show ((zf2.length:Nat):Int)=2 from by decide,decide_true,↓M1,M1,Mb,reduceIte]
 refine Q7d f.sat c ?_
 refine K0 ?_
 simp only[show D9 zf2 0=zfK from by decide,show decide (zfK=[90,101,114,111,70,97,117,108,116])=true from by decide,↓M1,M1,Mb,reduceIte]
 refine X21 f.sat c ?_
 simp only[show Q5W zf2 1=3 from by decide,decide_true,↓M1,M1,Mb,reduceIte]
 have L:=(N.lift ⟨j.le⟩).lift m
 refine Q7A f.sat L c (C.lift m) ok Q7p.cells fun w7 σ7 i=>?_
 simp only[↓M1,M1,Mb,reduceIte]
 refine X0v i.sat (c.lift ⟨i.le⟩) ?_
 refine X37 ?_
 (try simp only[↓M1,M1,Mb,reduceIte])
 exact h w7 V (j.trans ((f.trans i).weak m.le)))
end Go.Proofs.YtjdiakhipmggjaaGreatDoor

namespace Go.Emb
open Go.RowKit Go.Hm
variable {P : Program} {w w0 w1 w' w'' : World} {K : Value → World → Prop} {σ σ0 σ1 σ' : Q5} {b n : Nat} {ds : List Value} {v V : Value}
structure VarT (b : Nat) (ds : List Value) (w w' : World) : Prop where
  kp : Kpt (fun j => j = b) w w'
  var : (b < w.heap.size → w'.heap[b]? = w.heap[b]?) ∨ ∃ e, w'.heap[b]? = some (.cells ds.toArray e (0, 0))
structure VarB (w0 : World) (σ0 : Q5) (w1 : World) (σ : Q5) (b n : Nat) (w' : World) : Prop where
  hst : Hst w0 σ0 w' σ
  kp : Kpt (fun j => j = b) w1 w'
  var : ∃ cs, cs.length = n ∧ Y1 σ w' b cs
theorem VarT.of_below (h:Below w.heap.size w w'):VarT b ds w w':=⟨.of_below h, .inl fun a=>h.block b a⟩
theorem VarT.of_upd (h:Upd w b w') (a:Y1 σ w' b ds):VarT b ds w w':=⟨.of_upd h rfl, .inr a.2⟩
theorem VarB.step (c:w0.heap.size≤b) (f:ds.length=n) (h:VarB w0 σ0 w1 σ b n w) (k:VarT b ds w w'):VarB w0 σ0 w1 σ b n w':=by
 obtain ⟨cs,g,a⟩:=h.var
 refine ⟨⟨h.hst.stp.kp k.kp fun j d=>by subst d;exact ⟨c,a.1⟩⟩,h.kp.trans k.kp,?_⟩
 rcases k.var with e | e
 ·exact ⟨cs,g,a.1,by rw[e a.lt];exact a.2⟩
 ·exact ⟨ds,f,a.1,e⟩
theorem Q5M {A:(World→World→Prop)→(World→Prop)→Prop} (ds:List Value) {cs:List Value} (a:Stp w0 σ0 w σ) (c:w0.heap.size≤b) (d:Y1 σ w b cs) (e:cs.length=n) (g:ds.length=n)
 (h:A (VarT b ds) (VarB w0 σ0 w σ b n)):dr w A:=
 Kf _ _ ⟨⟨a.trans (Stp.of_below a.sat (Below.refl _ _).drew)⟩, .of_below (Below.refl _ _).drew,cs,e,d⟩ (fun _ _ i f=>i.step c g f) h
theorem G2 (h:V=v):dk (VarT b ds) (fun v _=>V=v) w v w:=⟨.of_below (Below.refl _ _),h⟩
theorem Ze (a:Below w.heap.size w w') (h:V=v):dk (VarT b ds) (fun v _=>V=v) w v w':=⟨.of_below a,h⟩
theorem Uj {t:TypeId} {c:Nat} {z:Value} [tz:TZ P t n c z] {a:(List Value→Value→World→Prop)→Prop} {φ:Value→World→Prop} (j:ds.length=n) (m: ∀u∈ds,u.oneCell'=true) (p: ∀v w,φ v w→ .agg ds.toArray=v)
 (o:a (fun _ _ w=>Y1 σ w b ds)) (f:σ b=none):Ry (VarT b ds) (fun F=> ∀x w,VarB w0 σ0 w1 σ b n w→φ x w→Y0 P t (.pointer (some ⟨b,0,none⟩)) x w (dk (VarT b ds) (F [x]) w)) a:=by
 refine Q3U _ (fun xs v w w' h k=>?_) (fun x w r g=>?_) o
 ·rcases k.var with e | e
  ·exact ⟨f,by rw[e h.lt];exact h.2⟩
  ·exact ⟨f,e⟩
 ·have:=p x w g
  subst this
  obtain ⟨cs,q,i⟩:=r.var
  exact Oc i q j (by rw[List.all_toArray];exact List.all_eq_true.2 m) fun w' s d=>⟨.of_upd s d,d⟩
theorem Vx {c d:Bool} {V:Value} {a:World→(Value→World→Prop)→Prop} (h:c=d→a w (dk (VarT b ds) (fun v _=>V=v) w)):Q0 (.bool c) d w a (dk (VarT b ds) (fun v _=>(if c=d then V else undef)=v) w):=by
 by_cases e:c=d
 ·simp only[e,if_true]
  subst e
  have:=h rfl
  cases c
  ·rw[W7];exact this
  ·rw[W5];exact this
 ·simp only[e,if_false]
  cases c<;>cases d<;>first | exact absurd rfl e | (rw[S1];exact G2 rfl) | (rw[E1];exact G2 rfl)
theorem VarB.hs (h:VarB w0 σ0 w1 σ b n w):Hst w0 σ0 w σ:=h.hst
end Go.Emb
namespace Go.Proofs.YtjdiakhipmggjaaGreatDoor
open Go.Emb Go.RowKit Go.Kd Go.Hm
variable {w w' : World} {K : Value → World → Prop} {σ σ' : Q5} {ds : List Value} {room : Int} {cs : List Cel} {l : List Cla} {hp tv : Value}
theorem Q3v {a:Nat} {g h:World} {d:Q5} {x:List Cla×Int×List Cel} {e p:List Value} (j:Stp w σ g d) (hB:w.heap.size≤a) (m:Y1 d g a p) (u:Upd g a h) (f:Y1 d h a e):
 ∃c,Stp w σ h c∧Z4 c ⟨a,0,none⟩ e∧SLe d c∧ ∀k,k≠a→c k=d k:=by
 obtain ⟨c,r,q,i,o⟩:=f.keep (u.stp j hB m.1) hB
 exact ⟨c,r,q,⟨i⟩,o⟩
end Go.Proofs.YtjdiakhipmggjaaGreatDoor

namespace Go.Emb
open Go.RowKit Go.Hm
variable {P : Program} {w w0 w1 w' w'' : World} {K : Value → World → Prop} {σ σ0 σ1 σ' : Q5} {b n : Nat} {ds : List Value} {v V : Value}
theorem Z4.tail {q:Addr} {xs ys:List Value} (h:Z4 σ q (xs++ys)):Z4 σ (q.add xs.length) ys:=by
 obtain ⟨g,a,e,z,f,d⟩:=h
 cases xs with
 | nil=>exact ⟨by simp[Addr.add,g],a,e,z,by simpa [Addr.add] using f,fun i u c=>by simpa [Addr.add] using d i u c⟩
 | cons x xs=>
  refine ⟨by simp[Addr.add,g],a,e,z,by simpa [Addr.add] using f,fun i u c=>?_⟩
  have:=d ((x::xs).length+i) u (by rw[List.getElem?_append_right (by omega)];simpa using c)
  simpa [Addr.add,Nat.add_assoc] using this
theorem J8.down {α:Type} {R:Q5→α→List Value→Prop} {B sz:Nat} {e:TypeId} {v:Value} {xs:List α} (h:J8 B e sz R σ' w v xs) (y:SLe σ σ') (E: ∀x cs,R σ' x cs→R σ x cs):J8 B e sz R σ w v xs:=by
 obtain ⟨a,f,rfl,z,H,c,r⟩:=h
 have p: ∀k,σ' k=none→σ k=none:=fun k u=>by
  cases e:σ k with
  | none=>rfl
  | some o=>have:=y.le k o e;rw[u] at this;cases this
 refine ⟨a,f,rfl,z,H,fun b d=>⟨(c b d).1,(c b d).2.1,(c b d).2.2.1,p _ (c b d).2.2.2⟩,fun C=>?_⟩
 obtain ⟨g,m,j,rfl,L,J,t,A,s⟩:=r C
 exact ⟨g,m,j,rfl,L,p _ J,t,A,fun i x q=>E _ _ (s i x q)⟩
end Go.Emb
namespace Go.Proofs.YtjdiakhipmggjaaGreatDoor
open Go.Emb Go.RowKit Go.Kd Go.Hm
variable {w w' w0 w1 : World} {K : Value → World → Prop} {σ σ' σ0 : Q5} {ds : List Value} {room : Int} {cs cs' : List Cel} {l : List Cla} {hp tv : Value} {B b : Nat} {D : Nat → Prop} {V v : Value}
theorem X04 {ok:X0→Bool} {r i:Int} {v:Val}:H6 ok l (H6 ok l cs r i v).1 r i v=H6 ok l cs r i v:=by
 by_cases k:E4 cs r i=0
 case neg=>
  have e:H6 ok l cs r i v=(cs,E4 cs r i):=by unfold H6;rw[if_pos k]
  rw[e];exact e
 cases f:B4 ok l cs v (Xd l (Wd cs r).kind i.toNat) with
 | false=>
  have e:H6 ok l cs r i v=(cs,91):=by unfold H6;rw[if_neg (fun h=>h k),f];rfl
  rw[e];exact e
 | true=>
  have e:H6 ok l cs r i v=(B6 cs r i v,0):=by unfold H6;rw[if_neg (fun h=>h k),f];rfl
  rw[e]
  obtain ⟨j,m,rfl,rfl,c,y⟩:=Lg k
  have s:M0 cs (j:Int)=true:=E0.2 ⟨j,rfl,c⟩
  have d:B6 cs j m v=cs.set j ⟨cs[j].kind,cs[j].vals.set m v⟩:=by unfold B6;rw[L4 c,Int.toNat_natCast,Int.toNat_natCast]
  have u:(B6 cs j m v).length=cs.length:=by rw[d];simp
  have a:j<(B6 cs j m v).length:=by rw[u];exact c
  have g:Wd (B6 cs j m v) j=⟨cs[j].kind,cs[j].vals.set m v⟩:=by
   rw[L4 a];simp only[d,List.getElem_set_self]
  have o:M0 (B6 cs j m v) (j:Int)=true:=E0.2 ⟨j,rfl,a⟩
  have t:E4 (B6 cs j m v) j m=0:=by
   unfold E4
   rw[o,g]
   simp only[if_true,List.length_set]
   rw[if_pos ⟨by omega,by omega⟩]
  have p:B4 ok l (B6 cs j m v) v (Xd l (Wd (B6 cs j m v) j).kind (m:Int).toNat)=true:=by
   rw[g]
   rw[L4 c] at f
   exact Hs (fun _ _=>Q3j s) f
  have q:B6 (B6 cs j m v) j m v=B6 cs j m v:=by
   unfold B6 at g⊢
   rw[g]
   simp only[Int.toNat_natCast,List.set_set]
   rw[L4 c]
  unfold H6
  rw[if_neg (fun h=>h t),p,q];rfl
theorem RowsIs.down {c:Value} (h:RowsIs B D σ' w c cs) (d:SLe σ σ'):RowsIs B D σ w c cs:=by
 obtain ⟨vs,e,a,g,hD⟩:=h.ex
 exact ⟨vs,e.down d fun _ _ h=>h,⟨a.1,fun i j f=>(a.2 i j f).down d fun _ _ h=>h⟩,g,hD⟩
theorem HeapIs.down (h:HeapIs B D σ' w hp tv room cs) (c:SLe σ σ'):HeapIs B D σ w hp tv room cs:=by
 obtain ⟨b,f,E,rfl,hB,a,d,hE,hD⟩:=h.ex
 refine ⟨b,f,E,rfl,hB,⟨?_,a.2⟩,d.down c,hE,hD⟩
 cases e:σ b with
 | none=>rfl
 | some o=>have:=c.le b o e;rw[a.1] at this;cases this
structure SetT (B : Nat) (D : Nat → Prop) (σ : Q5) (hp tv : Value) (room : Int) (cs' : List Cel) (b : Nat) (ds : List Value) (w w' : World) : Prop where
  kp : Kpt (fun j => j = b ∨ D j) w w'
  var : (b < w.heap.size → w'.heap[b]? = w.heap[b]?) ∨ ∃ e, w'.heap[b]? = some (.cells ds.toArray e (0, 0))
  hp : (∀ j, D j → j < w.heap.size → w'.heap[j]? = w.heap[j]?) ∨ HeapIs B D σ w' hp tv room cs'
structure SetB (B : Nat) (D : Nat → Prop) (hp tv : Value) (room : Int) (cs cs' : List Cel) (w0 : World) (σ0 : Q5) (w1 : World) (σ : Q5) (b n : Nat) (w' : World) : Prop where
  hst : Hst w0 σ0 w' σ
  kp : Kpt (fun j => j = b ∨ D j) w1 w'
  var : ∃ zs, zs.length = n ∧ Y1 σ w' b zs
  hp : HeapIs B D σ w' hp tv room cs ∨ HeapIs B D σ w' hp tv room cs'
theorem SetB.hs {n:Nat} (h:SetB B D hp tv room cs cs' w0 σ0 w1 σ b n w):Hst w0 σ0 w σ:=h.hst
theorem SetT.of_below (h:Below w.heap.size w w'):SetT B D σ hp tv room cs' b ds w w':=⟨.of_below h, .inl fun a=>h.block b a, .inl fun j _ c=>h.block j c⟩
theorem HeapIs.same (h:HeapIs B D σ w hp tv room cs) (k:Kpt (fun j=>j=b∨D j) w w') (d:X2 w' σ) (c: ¬D b) (g: ∀j,D j→j<w.heap.size→w'.heap[j]? =w.heap[j]?):HeapIs B D σ w' hp tv room cs:=
 h.nx (F:=fun j=>j=b) ⟨⟨k.os,k.tape,k.output,k.size,fun j a f=>by
  by_cases e:D j
  ·exact g j e a
  ·exact k.block j a fun h=>h.elim f e⟩,SLe.refl _,fun _ _=>rfl,d⟩ fun j a e=>c (e▸a)
theorem SetB.step {n:Nat} (g:w0.heap.size≤b) (hB:w0.heap.size≤B) (c: ¬D b) (m:ds.length=n) (h:SetB B D hp tv room cs cs' w0 σ0 w1 σ b n w) (k:SetT B D σ hp tv room cs' b ds w w'):SetB B D hp tv room cs cs' w0 σ0 w1 σ b n w':=by
 obtain ⟨i,o,f⟩:=h.var
 have d: ∀j,D j→w0.heap.size≤j∧σ j=none:=fun j hj=>by
  rcases h.hp with h | h
  ·exact ⟨Nat.le_trans hB (h.mem hj).1,(h.mem hj).2.2⟩
  ·exact ⟨Nat.le_trans hB (h.mem hj).1,(h.mem hj).2.2⟩
 have a:Stp w0 σ0 w' σ:=h.hst.stp.kp k.kp fun j hj=>by
  rcases hj with rfl | hj
  ·exact ⟨g,f.1⟩
  ·exact d j hj
 refine ⟨⟨a⟩,h.kp.trans k.kp,?_,?_⟩
 ·rcases k.var with e | e
  ·exact ⟨i,o,f.1,by rw[e f.lt];exact f.2⟩
  ·exact ⟨ds,m,f.1,e⟩
 ·rcases k.hp with e | e
  ·rcases h.hp with h3 | h3
   ·exact .inl (h3.same k.kp a.sat c e)
   ·exact .inr (h3.same k.kp a.sat c e)
  ·exact .inr e
theorem X2x {n:Nat} {A:(World→World→Prop)→(World→Prop)→Prop} (cs':List Cel) (ds:List Value) {d:List Value} (c:Stp w0 σ0 w σ) (e:w0.heap.size≤b) (hB:w0.heap.size≤B) (a: ¬D b) (f:Y1 σ w b d) (g:d.length=n) (j:ds.length=n) (hh:HeapIs B D σ w hp tv room cs)
 (h:A (SetT B D σ hp tv room cs' b ds) (SetB B D hp tv room cs cs' w0 σ0 w σ b n)):dr w A:=
 Kf _ _ ⟨⟨c.trans (Stp.of_below c.sat (Below.refl _ _).drew)⟩, .of_below (Below.refl _ _).drew,⟨d,g,f⟩, .inl (hh.up (Stp.of_below c.sat (Below.refl _ _).drew))⟩ (fun _ _ k i=>k.step e hB a j i) h
theorem Q59 (h:V=v):dk (SetT B D σ hp tv room cs' b ds) (fun v _=>V=v) w v w:=⟨.of_below (Below.refl _ _),h⟩
theorem X1R (a:Below w.heap.size w w') (h:V=v):dk (SetT B D σ hp tv room cs' b ds) (fun v _=>V=v) w v w':=⟨.of_below a,h⟩
theorem X0P {n:Nat} {t:TypeId} {d:Nat} {z:Value} [tz:TZ P t n d z] {a:(List Value→Value→World→Prop)→Prop} {φ:Value→World→Prop} (q:ds.length=n) (r: ∀u∈ds,u.oneCell'=true) (A: ∀v w,φ v w→ .agg ds.toArray=v)
 (y:a (fun _ _ w=>Y1 σ w b ds)) (g:σ b=none) (c: ¬D b):Ry (SetT B D σ hp tv room cs' b ds) (fun G=> ∀x w,SetB B D hp tv room cs cs' w0 σ0 w1 σ b n w→φ x w→Y0 P t (.pointer (some ⟨b,0,none⟩)) x w (dk (SetT B D σ hp tv room cs' b ds) (G [x]) w)) a:=by
 refine Q3U _ (fun xs v w w' h k=>?_) (fun x w E m=>?_) y
 ·rcases k.var with e | e
  ·exact ⟨g,by rw[e h.lt];exact h.2⟩
  ·exact ⟨g,e⟩
 ·have:=A x w m
  subst this
  obtain ⟨H,C,o⟩:=E.var
  exact Oc o C q (by rw[List.all_toArray];exact List.all_eq_true.2 r) fun w' i f=>⟨⟨.of_upd i (.inl rfl), .inr f.2, .inl fun j p s=>i.block j fun e=>c (e▸p)⟩,f⟩
theorem X20 {n:Nat} {x:Val} {r i:Int} {d:(Value→World→Prop)→Prop} {R J Q:Value→World→Prop} (L:Glb σ) (O:Tab σ tv l) (ok:Ok l) (z: ∀c∈cs,GoodC W6 l cs c) (g: ∀c∈(H6 W6 l cs r i x).1,GoodC W6 l (H6 W6 l cs r i x).1 c) (M:M5 σ x [I x.sort,I x.n,S x.s,I x.ref]) (t: ¬D b) (hσ:σ b=none)
 (Z: ∀v w,R v w→I r=v) (h2: ∀v w,J v w→I i=v) (U: ∀v w,Q v w→Value.agg [I x.sort,I x.n,S x.s,I x.ref].toArray=v)
 (hr:d (fun v w=>I (H6 W6 l cs r i x).2=v∧X2 w σ∧HeapIs B D σ w hp tv room (H6 W6 l cs r i x).1)):
 Q6 (SetT B D σ hp tv room (H6 W6 l cs r i x).1 b ds) (fun G=> ∀E C H w,SetB B D hp tv room cs (H6 W6 l cs r i x).1 w0 σ0 w1 σ b n w→R E w→J C w→Q H w→Q1 P F.b6 [hp,E,C,H] w (dk (SetT B D σ hp tv room (H6 W6 l cs r i x).1 b ds) G w)) d:=by
 refine H0 _ (fun v w w' h k=>?_) (fun E C H w A e1 e2 W=>?_) hr
 ·obtain ⟨e,Y,h4⟩:=h
  have f:X2 w' σ:=Kpt.sat Y k.kp fun j p=>p.elim (fun e=>e▸hσ) fun p=>(h4.mem p).2.2
  rcases k.hp with e2 | e2
  ·exact ⟨e,f,h4.same k.kp f t e2⟩
  ·exact ⟨e,f,e2⟩
 ·have:=Z _ _ e1
  have:=h2 _ _ e2
  have:=U _ _ W
  subst_vars
  have y: ∀{a u},Nxt D w σ a u→HeapIs B D u a hp tv room (H6 W6 l cs r i x).1→SetT B D σ hp tv room (H6 W6 l cs r i x).1 b ds w a∧I (H6 W6 l cs r i x).2=I (H6 W6 l cs r i x).2∧X2 a σ∧HeapIs B D σ a hp tv room (H6 W6 l cs r i x).1:=fun {a u} N h4=>by
   have m:=h4.down N.le
   have q:b<w.heap.size:=by obtain ⟨zs,_,X⟩:=A.var;exact X.lt
   exact ⟨⟨N.kp.mono fun _ _ p=> .inr p, .inl fun _=>N.kp.block b q t, .inr m⟩,rfl,fun k o e=>N.sat k o (N.le.le k o e),m⟩
  rcases A.hp with h4 | h4
  ·exact X1h A.hst.sat L h4 O ok z M fun a u N m=>y N m
  ·have hi:=X04 (ok:=W6) (l:=l) (cs:=cs) (r:=r) (i:=i) (v:=x)
   refine X1h A.hst.sat L h4 O ok g M fun a u N m=>?_
   rw[hi] at m⊢
   exact y N m
end Go.Proofs.YtjdiakhipmggjaaGreatDoor

namespace Go.Proofs.YtjdiakhipmggjaaGreatDoor
open Go.Emb Go.RowKit Go.Kd Go.Hm
variable {w w' : World} {K : Value → World → Prop} {σ σ' : Q5} {ds : List Value} {room : Int} {cs : List Cel} {l : List Cla} {hp tv : Value}
theorem Vl {B d:Nat} {D i:Nat→Prop} {m c:World} {b:Q5} {h g:List Cel} {a:List Value} {G:Bool→Prop} {f:Bool} (hG:G f) (N:Nxt D w σ m b) (u:HeapIs B i b m hp tv room h) (n: ∀j,i j→D j∨w.heap.size≤j) (q: ¬i d) (z:w.heap.size≤d)
 (v:Kpt (fun j=>j=d) m c) (o:X2 c b) (s:Y1 b c d a) (p:a.length=3) (A:O4 b (Q4 l,room,g) a)
 (hh: ∀a f w' σ' D',G f→Nxt D w σ w' σ'→HeapIs B D' σ' w' hp tv room h→(∀j,D' j→D j∨w.heap.size≤j)→O4 σ' (Q4 l,room,g) a→K (.tuple #[.agg a.toArray, .bool f]) w'):
 Y8 P T.a (.pointer (some ⟨d,0,none⟩)) c fun y=>K (.tuple #[y, .bool f]) c:=by
 refine V1 s p ?_
 have r:Nxt (fun j=>j=d) m b c b:=⟨v,SLe.refl _,fun _ _=>rfl,o⟩
 exact hh a f c b i hG (N.chain r fun j C e=>by omega) (u.nx r fun k t e=>q (e▸t)) n A
set_option maxHeartbeats 2000000 in
theorem X41 {B:Nat} {D:Nat→Prop} {x:ActH} {xs:List Value} {cr:List Cel} (hs:X2 w σ) (hg:Glb σ) (hB:B≤w.heap.size) (h:HeapIs B D σ w hp tv room cs) (hr:O4 σ (Q4 l,room,cr) ds) (ht:Tab σ tv (Q4 l)) (wf:Wf l) (ok:Ok (Q4 l)) (hlen:(Q4 l).length≤1000)
 (good:GoodH W6 (Q4 l) room cs) (goodr:GoodH W6 (Q4 l) room cr) (h1:room≤1048576) (hx:Q0k σ x xs) (hD0: ∀k,D k→B≤k)
 (hh: ∀ds' bb w' σ' D',(cr=cs→bb=true)→Nxt D w σ w' σ'→HeapIs B D' σ' w' hp tv room (B8 W6 (Q4 l) room cs x)→(∀j,D' j→D j∨w.heap.size≤j)→O4 σ' (Q4 l,room,B8 W6 (Q4 l) room cr x) ds'→K (.tuple #[.agg ds'.toArray, .bool bb]) w'):Q1 P F.b7 [hp, .agg ds.toArray, .agg xs.toArray] w K:=Q1S (by
 have hx0:=hx
 have hr0:=hr
 obtain ⟨lv,cv,rfl,hl,hc⟩:=O4.out hr
 obtain ⟨rfl,⟨b1,b2,b3,b4⟩,hv⟩:=hx
 have hcl:=T2 cs
 have hlf:=good.left
 unfold W4 at hlf
 have hclr:=T2 cr
 have hlr:=goodr.left
 unfold W4 at hlr
 unfold Hl
 refine Y9 hs fun q4 w1 σ1 hk1 hq4=>?_
 refine Y9 hk1.sat fun q5 w2 σ2 hk2 hq5=>?_
 have hS2:=hk1.trans hk2
 refine N0 hk2.sat fun b6 w3 σ3 hb6 hk3 hm6=>?_
 have hS3:=hS2.trans hk3
 have hB6:=M8 hb6 hS2
 have hq43:=(hq4.up hk2).up hk3
 have hq53:=hq5.up hk3
 have h3:=h.up hS3
 have hr3:=V8 hr0 ⟨hS3.le⟩
 have ht3:=ht.lift ⟨hS3.le⟩
 have hg3:=hg.lift ⟨hS3.le⟩
 refine W2 ?_
 refine ld (i:=0) hk3.sat hq53 rfl ?_
 refine P2 ?_
 have hDl: ∀k,D k→k<w.heap.size:=fun k hk=>(h.mem hk).2.1
 have htk:Z1 cs≤1048576:=by omega
 have htr:Z1 cr≤1048576:=by omega
 by_cases e0:x.kind=0
 ·rw[decide_eq_true e0]
  have ea:B8 W6 (Q4 l) room cs x=(Zn (Q4 l) room cs x.s).1:=by unfold B8;rw[if_pos e0]
  have er:B8 W6 (Q4 l) room cr x=(Zn (Q4 l) room cr x.s).1:=by unfold B8;rw[if_pos e0]
  rw[ea,er] at hh
  refine J4 ?_
  refine Y4 hk3.sat hq43 rfl ?_
  refine W2 ?_
  refine ld (i:=1) hk3.sat hq53 rfl ?_
  refine X0J hk3.sat hr3 ok hlen b2 goodr.left h1 fun ds' w4 σ4 hk4 hr4=>?_
  refine J7 (vs:=[_,_]) rfl ?_
  refine J7 (vs:=[_,_]) rfl ?_
  have hS4:=hS3.trans hk4
  refine N0 hk4.sat fun b8 w5 σ5 hb8 hk5 hm8=>?_
  have hS5:=hS4.trans hk5
  have hB8:=M8 hb8 hS4
  have hr5:=V8 hr4 ⟨hk5.le⟩
  obtain ⟨lv',cv',hde,_,_⟩:=O4.out hr4
  subst hde
  refine Oc (ds:=[lv',I room,cv']) hm8 rfl rfl (by rw[List.all_toArray];exact List.all_eq_true.2 (Rep.one hr5)) fun w6 u6 hm86=>?_
  obtain ⟨σ7,hS7,hq8,l57,o7⟩:=Q3v (x:=(Q4 l,room,(Zn (Q4 l) room cr x.s).1)) hS5 hB8 hm8 u6 hm86
  have l37:SLe σ3 σ7:=(SLe.more ⟨hk4.le⟩ ⟨hk5.le⟩).more l57
  have hb68:b6≠b8:=by have:=(hm6.up hk4).lt;omega
  have hm66:=((hm6.up hk4).up hk5).upd u6 hb68
  have hm67:Y1 σ7 w6 b6 _:=⟨(o7 b6 hb68).trans hm66.1,hm66.2⟩
  have hq57:=hq53.lift l37
  have hq47:=hq43.lift l37
  refine W2 ?_
  refine ld (i:=1) hS7.sat hq57 rfl ?_
  refine Q51 hS7.sat (Nat.le_trans hB hS7.bel.size) (h.up hS7) (ht.lift ⟨hS7.le⟩) ok b2 good.left h1 fun w8 σ8 D8 N8 h8 hD8=>?_
  refine J7 (vs:=[_,_]) rfl ?_
  refine J7 (vs:=[_,_]) rfl ?_
  have N:=(Nxt.of_stp (D:=D) hS7).chain N8 fun k _ e=>e
  have hm68:=hm67.nx N8 fun e=>by have:=hDl _ e;omega
  have hne8: ¬D8 b6:=fun e=>by
   have:=hm67.lt
   rcases hD8 _ e with e | e
   ·have:=hDl _ e;omega
   ·omega
  have hD8': ∀j,D8 j→D j∨w.heap.size≤j:=fun j hj=>(hD8 j hj).imp id fun e=>Nat.le_trans hS7.bel.size e
  have hq48:=hq47.lift N8.le
  have hq88:=hq8.lift N8.le
  have hc8:Sl 2 R0 σ8 cv cr:=hc.lift N.le
  have hr8:=V8 hr5 (l57.more N8.le)
  have hsame:cr=cs→(Zn (Q4 l) room cr x.s).2=(Zn (Q4 l) room cs x.s).2:=fun h=>by rw[h]
  generalize (Zn (Q4 l) room cs x.s).2=e at*
  generalize (Zn (Q4 l) room cr x.s).2=f at*
  refine Q5M (w0:=Kn w8) (σ0:=fun _=>none) (n:=3) [lv',I room,cv'] (Yh N8.sat) (Nat.zero_le _) hm68 rfl rfl ?_
  unfold atM
  by_cases hfe:f=e
  case neg=>
   have hz0:decide (f=e)=false:=decide_eq_false hfe
   (repeat (apply J5;(· intros;(have hzz:=VarB.hs (by assumption));(repeat (rename_i hx;subst hx));(try simp only[hz0,decide_true,Bool.not_true,Bool.not_false,Bool.false_eq_true,Bool.true_eq_false,reduceIte,↓M2,M2,Mb,reduceIte]);(repeat' (first | (with_reducible exact G2 rfl) | (with_reducible exact Ze (Stp.bel (by (repeat (first | exact Stp.refl (by (first | assumption | exact Stp.sat (by assumption) | exact Hst.sat (by assumption))) | assumption | refine Stp.trans ?_ (by first | assumption | exact Hst.stp (by assumption)))))) rfl) | (with_reducible intro _) | (simp only[↓M2,M2,Mb,reduceIte]) | (with_reducible show Q2 _ _ _ _ _;first | refine X7 aS aL aR ?_ | refine Y4 aS aL aR ?_ | refine ld aS aL aR ?_) | (with_reducible show indexAddr _ _ _ _ _ _;refine Y3 aL au ?_) | (with_reducible show X3 _ _ _ _ _ _ _ _;refine Q8 aL ?_) | (with_reducible show F2 _ _ _ _ _ _;refine J0 aR ?_) | (with_reducible show pick _ _ _ _ _ _;refine M9 ?_) | (apply Vx;intro hh;(try simp only[hh,reduceIte,↓M2,M2,Mb,reduceIte]))));done)))
   refine Uj (φ:=fun v _=>Value.agg [lv',I room,cv'].toArray=v) rfl (Rep.one hr5) (fun v w h=>h) ?_ hm68.1
   intros
   rename_i hm9
   (repeat (rename_i hx;subst hx))
   rename_i w9 hb9
   exact Vl (G:=fun b=>cr=cs→b=true) (fun h=>absurd (hsame h) hfe) N h8 hD8' hne8 hB6 hb9.kp hb9.hst.sat hm9 rfl hr8 hh
  subst hfe
  by_cases e1:f=0
  ·subst e1
   simp only[reduceIte]
   have hz0:decide True=true:=decide_true _
   (repeat (apply J5;(· intros;(have hzz:=VarB.hs (by assumption));(repeat (rename_i hx;subst hx));(try simp only[hz0,decide_true,Bool.not_true,Bool.not_false,Bool.false_eq_true,Bool.true_eq_false,reduceIte,↓M2,M2,Mb,reduceIte]);(repeat' (first | (with_reducible exact G2 rfl) | (with_reducible exact Ze (Stp.bel (by (repeat (first | exact Stp.refl (by (first | assumption | exact Stp.sat (by assumption) | exact Hst.sat (by assumption))) | assumption | refine Stp.trans ?_ (by first | assumption | exact Hst.stp (by assumption)))))) rfl) | (with_reducible intro _) | (simp only[↓M2,M2,Mb,reduceIte]) | (with_reducible show Q2 _ _ _ _ _;first | refine X7 aS aL aR ?_ | refine Y4 aS aL aR ?_ | refine ld aS aL aR ?_) | (with_reducible show indexAddr _ _ _ _ _ _;refine Y3 aL au ?_) | (with_reducible show X3 _ _ _ _ _ _ _ _;refine Q8 aL ?_) | (with_reducible show F2 _ _ _ _ _ _;refine J0 aR ?_) | (with_reducible show pick _ _ _ _ _ _;refine M9 ?_) | (apply Vx;intro hh;(try simp only[hh,reduceIte,↓M2,M2,Mb,reduceIte]))));done)))
   refine Uj (φ:=fun v _=>Value.agg [lv',I room,cv'].toArray=v) rfl (Rep.one hr5) (fun v w h=>h) ?_ hm68.1
   intros
   rename_i hm9
   (repeat (rename_i hx;subst hx))
   rename_i w9 hb9
   exact Vl (G:=fun b=>cr=cs→b=true) (fun h=>by rw[h];exact decide_eq_true rfl) N h8 hD8' hne8 hB6 hb9.kp hb9.hst.sat hm9 rfl hr8 hh
  ·simp only[if_neg e1]
   have hz0:decide (f=0)=false:=decide_eq_false e1
   (repeat (apply J5;(· intros;(have hzz:=VarB.hs (by assumption));(repeat (rename_i hx;subst hx));(try simp only[hz0,decide_true,Bool.not_true,Bool.not_false,Bool.false_eq_true,Bool.true_eq_false,reduceIte,↓M2,M2,Mb,reduceIte]);(repeat' (first | (with_reducible exact G2 rfl) | (with_reducible exact Ze (Stp.bel (by (repeat (first | exact Stp.refl (by (first | assumption | exact Stp.sat (by assumption) | exact Hst.sat (by assumption))) | assumption | refine Stp.trans ?_ (by first | assumption | exact Hst.stp (by assumption)))))) rfl) | (with_reducible intro _) | (simp only[↓M2,M2,Mb,reduceIte]) | (with_reducible show Q2 _ _ _ _ _;first | refine X7 aS aL aR ?_ | refine Y4 aS aL aR ?_ | refine ld aS aL aR ?_) | (with_reducible show indexAddr _ _ _ _ _ _;refine Y3 aL au ?_) | (with_reducible show X3 _ _ _ _ _ _ _ _;refine Q8 aL ?_) | (with_reducible show F2 _ _ _ _ _ _;refine J0 aR ?_) | (with_reducible show pick _ _ _ _ _ _;refine M9 ?_) | (apply Vx;intro hh;(try simp only[hh,reduceIte,↓M2,M2,Mb,reduceIte]))));done)))
   refine Uj (φ:=fun v _=>Value.agg [lv',I room,cv'].toArray=v) rfl (Rep.one hr5) (fun v w h=>h) ?_ hm68.1
   intros
   rename_i hm9
   (repeat (rename_i hx;subst hx))
   rename_i w9 hb9
   exact Vl (G:=fun b=>cr=cs→b=true) (fun _=>rfl) N h8 hD8' hne8 hB6 hb9.kp hb9.hst.sat hm9 rfl hr8 hh
 rw[decide_eq_false e0]
 refine Z6 ?_
 refine P2 ?_
 by_cases e1k:x.kind=1
 ·rw[decide_eq_true e1k]
  have ea:B8 W6 (Q4 l) room cs x=(Zs (Q4 l) room cs x.s x.n).1:=by unfold B8;rw[if_neg e0,if_pos e1k]
  have er:B8 W6 (Q4 l) room cr x=(Zs (Q4 l) room cr x.s x.n).1:=by unfold B8;rw[if_neg e0,if_pos e1k]
  rw[ea,er] at hh
  refine J4 ?_
  refine Y4 hk3.sat hq43 rfl ?_
  refine W2 ?_
  refine ld (i:=1) hk3.sat hq53 rfl ?_
  refine W2 ?_
  refine ld (i:=2) hk3.sat hq53 rfl ?_
  refine X29 hk3.sat hr3 b2 goodr.left h1 fun ds' w4 σ4 hk4 hr4=>?_
  refine J7 (vs:=[_,_]) rfl ?_
  refine J7 (vs:=[_,_]) rfl ?_
  have hS4:=hS3.trans hk4
  refine N0 hk4.sat fun b8 w5 σ5 hb8 hk5 hm8=>?_
  have hS5:=hS4.trans hk5
  have hB8:=M8 hb8 hS4
  have hr5:=V8 hr4 ⟨hk5.le⟩
  obtain ⟨lv',cv',hde,_,_⟩:=O4.out hr4
  subst hde
  refine Oc (ds:=[lv',I room,cv']) hm8 rfl rfl (by rw[List.all_toArray];exact List.all_eq_true.2 (Rep.one hr5)) fun w6 u6 hm86=>?_
  obtain ⟨σ7,hS7,hq8,l57,o7⟩:=Q3v (x:=(Q4 l,room,(Zs (Q4 l) room cr x.s x.n).1)) hS5 hB8 hm8 u6 hm86
  have l37:SLe σ3 σ7:=(SLe.more ⟨hk4.le⟩ ⟨hk5.le⟩).more l57
  have hb68:b6≠b8:=by have:=(hm6.up hk4).lt;omega
  have hm66:=((hm6.up hk4).up hk5).upd u6 hb68
  have hm67:Y1 σ7 w6 b6 _:=⟨(o7 b6 hb68).trans hm66.1,hm66.2⟩
  have hq57:=hq53.lift l37
  have hq47:=hq43.lift l37
  refine W2 ?_
  refine ld (i:=1) hS7.sat hq57 rfl ?_
  refine W2 ?_
  refine ld (i:=2) hS7.sat hq57 rfl ?_
  refine Q7F hS7.sat (Nat.le_trans hB hS7.bel.size) (h.up hS7) (ht.lift ⟨hS7.le⟩) b2 good.left h1 fun w8 σ8 D8 N8 h8 hD8=>?_
  refine J7 (vs:=[_,_]) rfl ?_
  refine J7 (vs:=[_,_]) rfl ?_
  have N:=(Nxt.of_stp (D:=D) hS7).chain N8 fun k _ e=>e
  have hm68:=hm67.nx N8 fun e=>by have:=hDl _ e;omega
  have hne8: ¬D8 b6:=fun e=>by
   have:=hm67.lt
   rcases hD8 _ e with e | e
   ·have:=hDl _ e;omega
   ·omega
  have hD8': ∀j,D8 j→D j∨w.heap.size≤j:=fun j hj=>(hD8 j hj).imp id fun e=>Nat.le_trans hS7.bel.size e
  have hq48:=hq47.lift N8.le
  have hq88:=hq8.lift N8.le
  have hc8:Sl 2 R0 σ8 cv cr:=hc.lift N.le
  have hr8:=V8 hr5 (l57.more N8.le)
  have hsame:cr=cs→(Zs (Q4 l) room cr x.s x.n).2=(Zs (Q4 l) room cs x.s x.n).2:=fun h=>by rw[h]
  generalize (Zs (Q4 l) room cs x.s x.n).2=e at*
  generalize (Zs (Q4 l) room cr x.s x.n).2=f at*
  refine Q5M (w0:=Kn w8) (σ0:=fun _=>none) (n:=3) [lv',I room,cv'] (Yh N8.sat) (Nat.zero_le _) hm68 rfl rfl ?_
  unfold atM
  by_cases hfe:f=e
  case neg=>
   have hz0:decide (f=e)=false:=decide_eq_false hfe
   (repeat (apply J5;(· intros;(have hzz:=VarB.hs (by assumption));(repeat (rename_i hx;subst hx));(try simp only[hz0,decide_true,Bool.not_true,Bool.not_false,Bool.false_eq_true,Bool.true_eq_false,reduceIte,↓M2,M2,Mb,reduceIte]);(repeat' (first | (with_reducible exact G2 rfl) | (with_reducible exact Ze (Stp.bel (by (repeat (first | exact Stp.refl (by (first | assumption | exact Stp.sat (by assumption) | exact Hst.sat (by assumption))) | assumption | refine Stp.trans ?_ (by first | assumption | exact Hst.stp (by assumption)))))) rfl) | (with_reducible intro _) | (simp only[↓M2,M2,Mb,reduceIte]) | (with_reducible show Q2 _ _ _ _ _;first | refine X7 aS aL aR ?_ | refine Y4 aS aL aR ?_ | refine ld aS aL aR ?_) | (with_reducible show indexAddr _ _ _ _ _ _;refine Y3 aL au ?_) | (with_reducible show X3 _ _ _ _ _ _ _ _;refine Q8 aL ?_) | (with_reducible show F2 _ _ _ _ _ _;refine J0 aR ?_) | (with_reducible show pick _ _ _ _ _ _;refine M9 ?_) | (apply Vx;intro hh;(try simp only[hh,reduceIte,↓M2,M2,Mb,reduceIte]))));done)))
   refine Uj (φ:=fun v _=>Value.agg [lv',I room,cv'].toArray=v) rfl (Rep.one hr5) (fun v w h=>h) ?_ hm68.1
   intros
   rename_i hm9
   (repeat (rename_i hx;subst hx))
   rename_i w9 hb9
   exact Vl (G:=fun b=>cr=cs→b=true) (fun h=>absurd (hsame h) hfe) N h8 hD8' hne8 hB6 hb9.kp hb9.hst.sat hm9 rfl hr8 hh
  subst hfe
  by_cases e1:f=0
  ·subst e1
   simp only[reduceIte]
   have hz0:decide True=true:=decide_true _
   (repeat (apply J5;(· intros;(have hzz:=VarB.hs (by assumption));(repeat (rename_i hx;subst hx));(try simp only[hz0,decide_true,Bool.not_true,Bool.not_false,Bool.false_eq_true,Bool.true_eq_false,reduceIte,↓M2,M2,Mb,reduceIte]);(repeat' (first | (with_reducible exact G2 rfl) | (with_reducible exact Ze (Stp.bel (by (repeat (first | exact Stp.refl (by (first | assumption | exact Stp.sat (by assumption) | exact Hst.sat (by assumption))) | assumption | refine Stp.trans ?_ (by first | assumption | exact Hst.stp (by assumption)))))) rfl) | (with_reducible intro _) | (simp only[↓M2,M2,Mb,reduceIte]) | (with_reducible show Q2 _ _ _ _ _;first | refine X7 aS aL aR ?_ | refine Y4 aS aL aR ?_ | refine ld aS aL aR ?_) | (with_reducible show indexAddr _ _ _ _ _ _;refine Y3 aL au ?_) | (with_reducible show X3 _ _ _ _ _ _ _ _;refine Q8 aL ?_) | (with_reducible show F2 _ _ _ _ _ _;refine J0 aR ?_) | (with_reducible show pick _ _ _ _ _ _;refine M9 ?_) | (apply Vx;intro hh;(try simp only[hh,reduceIte,↓M2,M2,Mb,reduceIte]))));done)))
   refine Uj (φ:=fun v _=>Value.agg [lv',I room,cv'].toArray=v) rfl (Rep.one hr5) (fun v w h=>h) ?_ hm68.1
   intros
   rename_i hm9
   (repeat (rename_i hx;subst hx))
   rename_i w9 hb9
   exact Vl (G:=fun b=>cr=cs→b=true) (fun h=>by rw[h];exact decide_eq_true rfl) N h8 hD8' hne8 hB6 hb9.kp hb9.hst.sat hm9 rfl hr8 hh
  ·simp only[if_neg e1]
   have hz0:decide (f=0)=false:=decide_eq_false e1
   (repeat (apply J5;(· intros;(have hzz:=VarB.hs (by assumption));(repeat (rename_i hx;subst hx));(try simp only[hz0,decide_true,Bool.not_true,Bool.not_false,Bool.false_eq_true,Bool.true_eq_false,reduceIte,↓M2,M2,Mb,reduceIte]);(repeat' (first | (with_reducible exact G2 rfl) | (with_reducible exact Ze (Stp.bel (by (repeat (first | exact Stp.refl (by (first | assumption | exact Stp.sat (by assumption) | exact Hst.sat (by assumption))) | assumption | refine Stp.trans ?_ (by first | assumption | exact Hst.stp (by assumption)))))) rfl) | (with_reducible intro _) | (simp only[↓M2,M2,Mb,reduceIte]) | (with_reducible show Q2 _ _ _ _ _;first | refine X7 aS aL aR ?_ | refine Y4 aS aL aR ?_ | refine ld aS aL aR ?_) | (with_reducible show indexAddr _ _ _ _ _ _;refine Y3 aL au ?_) | (with_reducible show X3 _ _ _ _ _ _ _ _;refine Q8 aL ?_) | (with_reducible show F2 _ _ _ _ _ _;refine J0 aR ?_) | (with_reducible show pick _ _ _ _ _ _;refine M9 ?_) | (apply Vx;intro hh;(try simp only[hh,reduceIte,↓M2,M2,Mb,reduceIte]))));done)))
   refine Uj (φ:=fun v _=>Value.agg [lv',I room,cv'].toArray=v) rfl (Rep.one hr5) (fun v w h=>h) ?_ hm68.1
   intros
   rename_i hm9
   (repeat (rename_i hx;subst hx))
   rename_i w9 hb9
   exact Vl (G:=fun b=>cr=cs→b=true) (fun _=>rfl) N h8 hD8' hne8 hB6 hb9.kp hb9.hst.sat hm9 rfl hr8 hh
 rw[decide_eq_false e1k]
 refine Z6 ?_
 refine P2 ?_
 have hv43:Z4 σ3 (q5.add 4) [I x.v.sort,I x.v.n,S x.v.s,I x.v.ref]:=hq53.tail (xs:=[_,_,_,_])
 have hvr:M5 σ x.v [I x.v.sort,I x.v.n,S x.v.s,I x.v.ref]:=⟨rfl,hv⟩
 by_cases e2k:x.kind=2
 ·rw[decide_eq_true e2k]
  have ea:B8 W6 (Q4 l) room cs x=(H6 W6 (Q4 l) cs x.ref x.n x.v).1:=by unfold B8;rw[if_neg e0,if_neg e1k,if_pos e2k]
  have er:B8 W6 (Q4 l) room cr x=(H6 W6 (Q4 l) cr x.ref x.n x.v).1:=by unfold B8;rw[if_neg e0,if_neg e1k,if_pos e2k]
  rw[ea,er] at hh
  have good':=(GoodH.set good x.ref x.n x.v).cells
  refine J4 ?_
  refine Y4 hk3.sat hq43 rfl ?_
  refine W2 ?_
  refine ld (i:=3) hk3.sat hq53 rfl ?_
  refine W2 ?_
  refine ld (i:=2) hk3.sat hq53 rfl ?_
  refine W2 ?_
  refine Y4 hk3.sat hv43 rfl ?_
  refine X3T hk3.sat hr3 wf ok hlen goodr.cells htr ⟨rfl,hv⟩ fun ds' w4 σ4 hk4 hr4=>?_
  refine J7 (vs:=[_,_]) rfl ?_
  refine J7 (vs:=[_,_]) rfl ?_
  have hS4:=hS3.trans hk4
  refine N0 hk4.sat fun b8 w5 σ5 hb8 hk5 hm8=>?_
  have hS5:=hS4.trans hk5
  have hB8:=M8 hb8 hS4
  have hr5:=V8 hr4 ⟨hk5.le⟩
  obtain ⟨lv',cv',hde,_,_⟩:=O4.out hr4
  subst hde
  refine Oc (ds:=[lv',I room,cv']) hm8 rfl rfl (by rw[List.all_toArray];exact List.all_eq_true.2 (Rep.one hr5)) fun w6 u6 hm86=>?_
  obtain ⟨σ7,hS7,hq8,l57,o7⟩:=Q3v (x:=(Q4 l,room,(H6 W6 (Q4 l) cr x.ref x.n x.v).1)) hS5 hB8 hm8 u6 hm86
  have l37:SLe σ3 σ7:=(SLe.more ⟨hk4.le⟩ ⟨hk5.le⟩).more l57
  have hb68:b6≠b8:=by have:=(hm6.up hk4).lt;omega
  have hm66:=((hm6.up hk4).up hk5).upd u6 hb68
  have hm67:Y1 σ7 w6 b6 _:=⟨(o7 b6 hb68).trans hm66.1,hm66.2⟩
  have hq57:=hq53.lift l37
  have hv47:=hv43.lift l37
  have hr7:=V8 hr5 l57
  have hbD: ¬D b6:=fun e=>by have:=hDl _ e;omega
  refine X2x (w0:=Kn w6) (σ0:=fun _=>none) (n:=3) (H6 W6 (Q4 l) cs x.ref x.n x.v).1 [lv',I room,cv'] (Yh hS7.sat) (Nat.zero_le _) (Nat.zero_le _) hbD hm67 rfl rfl (h.up hS7) ?_
  (repeat (apply J5;(· intros;(have hzz:=SetB.hs (by assumption));(repeat (rename_i hx;subst hx));(repeat' (first | (with_reducible exact Q59 rfl) | (with_reducible exact X1R (Stp.bel (by (repeat (first | exact Stp.refl (by (first | assumption | exact Stp.sat (by assumption) | exact Hst.sat (by assumption))) | assumption | refine Stp.trans ?_ (by first | assumption | exact Hst.stp (by assumption)))))) rfl) | (with_reducible intro _) | (simp only[↓M2,M2,Mb,reduceIte]) | (with_reducible show Q2 _ _ _ _ _;first | refine X7 aS aL aR ?_ | refine Y4 aS aL aR ?_ | refine ld aS aL aR ?_) | (with_reducible show indexAddr _ _ _ _ _ _;refine Y3 aL au ?_) | (with_reducible show X3 _ _ _ _ _ _ _ _;refine Q8 aL ?_) | (with_reducible show F2 _ _ _ _ _ _;refine J0 aR ?_) | (with_reducible show pick _ _ _ _ _ _;refine M9 ?_)));done)))
  refine X20 (hg.lift ⟨hS7.le⟩) (ht.lift ⟨hS7.le⟩) ok good.cells good' ⟨rfl,hv⟩ hbD hm67.1 (fun _ _ h=>h) (fun _ _ h=>h) (fun _ _ h=>h) ?_
  refine J5 (V:= .bool (decide ((H6 W6 (Q4 l) cs x.ref x.n x.v).2=(H6 W6 (Q4 l) cr x.ref x.n x.v).2))) (fun t w hb ht=>?_) ?_
  ·obtain ⟨rfl,_,_⟩:=ht
   refine P2 ?_
   exact Q59 rfl
  refine X0P (φ:=fun v _=>Value.agg [lv',I room,cv'].toArray=v) rfl (Rep.one hr5) (fun v w h=>h) ?_ hm67.1 hbD
  intros
  rename_i hm9
  (repeat (rename_i hx;subst hx))
  rename_i hset
  (repeat (rename_i hx;subst hx))
  rename_i w9 hb9
  obtain ⟨_,hs9,h9⟩:=hset
  refine V1 hm9 rfl ?_
  have Nb:Nxt (fun j=>j=b6∨D j) w6 σ7 w9 σ7:=⟨hb9.kp,SLe.refl _,fun _ _=>rfl,hs9⟩
  exact hh _ _ w9 σ7 D (fun h=>by rw[h];exact decide_eq_true rfl) ((Nxt.of_stp (D:=D) hS7).chain Nb fun j hj e=>e.elim (fun e=>by omega) id) h9 (fun j hj=> .inl hj) hr7
 rw[decide_eq_false e2k]
 refine Z6 ?_
 refine P2 ?_
 by_cases e3k:x.kind=3
 ·rw[decide_eq_true e3k]
  have ea:B8 W6 (Q4 l) room cs x=cs:=by unfold B8;rw[if_neg e0,if_neg e1k,if_neg e2k,if_neg (by omega)]
  have er:B8 W6 (Q4 l) room cr x=cr:=by unfold B8;rw[if_neg e0,if_neg e1k,if_neg e2k,if_neg (by omega)]
  rw[ea,er] at hh
  refine J4 ?_
  refine Y4 hk3.sat hq43 rfl ?_
  refine W2 ?_
  refine ld (i:=3) hk3.sat hq53 rfl ?_
  refine W2 ?_
  refine ld (i:=2) hk3.sat hq53 rfl ?_
  refine X3J hk3.sat hr3 fun w4 σ4 hk4=>?_
  refine J7 (vs:=[_,_]) rfl ?_
  refine J7 (vs:=[_,_]) rfl ?_
  refine Y7 (sz:=4) hk4.sat aR aR Rq fun q8 w5 σ5 hk5 hq8=>?_
  have hk35:=hk4.trans hk5
  have hS5:=hS3.trans hk35
  have h5:=h.up hS5
  have hq55:=hq53.lift ⟨hk35.le⟩
  refine W2 ?_
  refine ld (i:=3) hk35.sat hq55 rfl ?_
  refine W2 ?_
  refine ld (i:=2) hk35.sat hq55 rfl ?_
  obtain ⟨σf,sf,lef,hsl,of⟩:=h5.freeze hk35.sat
  refine X2W sf hsl fun w6 σ6 hk6=>?_
  refine J7 (vs:=[_,_]) rfl ?_
  refine J7 (vs:=[_,_]) rfl ?_
  refine Y7 (sz:=4) hk6.sat aR aR Rq fun q9 w7 σ7 hk7 hq9=>?_
  have hk57:=hk6.trans hk7
  have hS57:=hk57.weak lef.le
  have hS7:=hS5.trans hS57
  have l57:SLe σ5 σ7:=lef.more ⟨hk57.le⟩
  have hbD: ¬D b6:=fun e=>by have:=hDl _ e;omega
  have hm65:=hm6.up hk35
  have hm6f:Y1 σf w5 b6 _:=⟨(of b6 hbD).trans hm65.1,hm65.2⟩
  have hm67:=hm6f.up hk57
  have hq47:=(hq43.lift ⟨hk35.le⟩).lift l57
  have hq87:=hq8.lift l57
  refine Q5M (w0:=Kn w7) (σ0:=fun _=>none) (n:=3) [lv,I room,cv] (Yh hk57.sat) (Nat.zero_le _) hm67 rfl rfl ?_
  have n5:σ5 b6=none:=hm65.1
  have hq97:=hq9
  by_cases hge:Hg cr x.ref x.n=Hg cs x.ref x.n
  ·have hz0:decide True=true:=decide_true _
   (repeat (apply J5;(· intros;(have hzz:=VarB.hs (by assumption));(repeat (rename_i hx;subst hx));(try simp only[hz0,decide_true,Bool.not_true,Bool.not_false,Bool.false_eq_true,Bool.true_eq_false,reduceIte,↓M2,M2,Mb,reduceIte]);(repeat' (first | (with_reducible exact G2 rfl) | (with_reducible exact Ze (Stp.bel (by (repeat (first | exact Stp.refl (by (first | assumption | exact Stp.sat (by assumption) | exact Hst.sat (by assumption))) | assumption | refine Stp.trans ?_ (by first | assumption | exact Hst.stp (by assumption)))))) rfl) | (with_reducible intro _) | (simp only[↓M2,M2,Mb,reduceIte]) | (with_reducible show Q2 _ _ _ _ _;first | refine X7 aS aL aR ?_ | refine Y4 aS aL aR ?_ | refine ld aS aL aR ?_) | (with_reducible show indexAddr _ _ _ _ _ _;refine Y3 aL au ?_) | (with_reducible show X3 _ _ _ _ _ _ _ _;refine Q8 aL ?_) | (with_reducible show F2 _ _ _ _ _ _;refine J0 aR ?_) | (with_reducible show pick _ _ _ _ _ _;refine M9 ?_) | (apply Vx;intro hh;(try simp only[hh,reduceIte,↓M2,M2,Mb,reduceIte]))));done)))
   refine J5 (V:= .bool true) (by
    intros
    (repeat (rename_i hx;subst hx))
    refine Dr ?_
    exact G2 (by rw[hge,decide_eq_true rfl])) ?_
   (repeat (apply J5;(· intros;(have hzz:=VarB.hs (by assumption));(repeat (rename_i hx;subst hx));(try simp only[hz0,decide_true,Bool.not_true,Bool.not_false,Bool.false_eq_true,Bool.true_eq_false,reduceIte,↓M2,M2,Mb,reduceIte]);(repeat' (first | (with_reducible exact G2 rfl) | (with_reducible exact Ze (Stp.bel (by (repeat (first | exact Stp.refl (by (first | assumption | exact Stp.sat (by assumption) | exact Hst.sat (by assumption))) | assumption | refine Stp.trans ?_ (by first | assumption | exact Hst.stp (by assumption)))))) rfl) | (with_reducible intro _) | (simp only[↓M2,M2,Mb,reduceIte]) | (with_reducible show Q2 _ _ _ _ _;first | refine X7 aS aL aR ?_ | refine Y4 aS aL aR ?_ | refine ld aS aL aR ?_) | (with_reducible show indexAddr _ _ _ _ _ _;refine Y3 aL au ?_) | (with_reducible show X3 _ _ _ _ _ _ _ _;refine Q8 aL ?_) | (with_reducible show F2 _ _ _ _ _ _;refine J0 aR ?_) | (with_reducible show pick _ _ _ _ _ _;refine M9 ?_) | (apply Vx;intro hh;(try simp only[hh,reduceIte,↓M2,M2,Mb,reduceIte]))));done)))
   refine Uj (φ:=fun v _=>Value.agg [lv,I room,cv].toArray=v) rfl (Rep.one hr3) (fun v w h=>h) ?_ hm67.1
   intros
   rename_i hm9
   (repeat (rename_i hx;subst hx))
   rename_i w9 hb9
   exact Vl (G:=fun b=>cr=cs→b=true) (fun h=>by rw[h];exact decide_eq_true rfl) (Nxt.of_stp (D:=D) hS7) (h5.up hS57) (fun j hj=> .inl hj) hbD hB6 hb9.kp (fun k o e=>hb9.hst.sat k o (l57.le k o e)) ⟨n5,hm9.2⟩ rfl (V8 hr0 ⟨hS7.le⟩) hh
  ·have hz0:decide True=true:=decide_true _
   (repeat (apply J5;(· intros;(have hzz:=VarB.hs (by assumption));(repeat (rename_i hx;subst hx));(try simp only[hz0,decide_true,Bool.not_true,Bool.not_false,Bool.false_eq_true,Bool.true_eq_false,reduceIte,↓M2,M2,Mb,reduceIte]);(repeat' (first | (with_reducible exact G2 rfl) | (with_reducible exact Ze (Stp.bel (by (repeat (first | exact Stp.refl (by (first | assumption | exact Stp.sat (by assumption) | exact Hst.sat (by assumption))) | assumption | refine Stp.trans ?_ (by first | assumption | exact Hst.stp (by assumption)))))) rfl) | (with_reducible intro _) | (simp only[↓M2,M2,Mb,reduceIte]) | (with_reducible show Q2 _ _ _ _ _;first | refine X7 aS aL aR ?_ | refine Y4 aS aL aR ?_ | refine ld aS aL aR ?_) | (with_reducible show indexAddr _ _ _ _ _ _;refine Y3 aL au ?_) | (with_reducible show X3 _ _ _ _ _ _ _ _;refine Q8 aL ?_) | (with_reducible show F2 _ _ _ _ _ _;refine J0 aR ?_) | (with_reducible show pick _ _ _ _ _ _;refine M9 ?_) | (apply Vx;intro hh;(try simp only[hh,reduceIte,↓M2,M2,Mb,reduceIte]))));done)))
   refine J5 (V:= .bool false) (by
    intros
    (repeat (rename_i hx;subst hx))
    refine Dr ?_
    exact G2 (by rw[decide_eq_false hge])) ?_
   (repeat (apply J5;(· intros;(have hzz:=VarB.hs (by assumption));(repeat (rename_i hx;subst hx));(try simp only[hz0,decide_true,Bool.not_true,Bool.not_false,Bool.false_eq_true,Bool.true_eq_false,reduceIte,↓M2,M2,Mb,reduceIte]);(repeat' (first | (with_reducible exact G2 rfl) | (with_reducible exact Ze (Stp.bel (by (repeat (first | exact Stp.refl (by (first | assumption | exact Stp.sat (by assumption) | exact Hst.sat (by assumption))) | assumption | refine Stp.trans ?_ (by first | assumption | exact Hst.stp (by assumption)))))) rfl) | (with_reducible intro _) | (simp only[↓M2,M2,Mb,reduceIte]) | (with_reducible show Q2 _ _ _ _ _;first | refine X7 aS aL aR ?_ | refine Y4 aS aL aR ?_ | refine ld aS aL aR ?_) | (with_reducible show indexAddr _ _ _ _ _ _;refine Y3 aL au ?_) | (with_reducible show X3 _ _ _ _ _ _ _ _;refine Q8 aL ?_) | (with_reducible show F2 _ _ _ _ _ _;refine J0 aR ?_) | (with_reducible show pick _ _ _ _ _ _;refine M9 ?_) | (apply Vx;intro hh;(try simp only[hh,reduceIte,↓M2,M2,Mb,reduceIte]))));done)))
   refine Uj (φ:=fun v _=>Value.agg [lv,I room,cv].toArray=v) rfl (Rep.one hr3) (fun v w h=>h) ?_ hm67.1
   intros
   rename_i hm9
   (repeat (rename_i hx;subst hx))
   rename_i w9 hb9
   exact Vl (G:=fun b=>cr=cs→b=true) (fun h=>absurd (by rw[h]) hge) (Nxt.of_stp (D:=D) hS7) (h5.up hS57) (fun j hj=> .inl hj) hbD hB6 hb9.kp (fun k o e=>hb9.hst.sat k o (l57.le k o e)) ⟨n5,hm9.2⟩ rfl (V8 hr0 ⟨hS7.le⟩) hh
 rw[decide_eq_false e3k]
 refine Z6 ?_
 refine P2 ?_
 by_cases e4k:x.kind=4
 ·rw[decide_eq_true e4k]
  have ea:B8 W6 (Q4 l) room cs x=Kb cs x.ref:=by unfold B8;rw[if_neg e0,if_neg e1k,if_neg e2k,if_pos e4k]
  have er:B8 W6 (Q4 l) room cr x=Kb cr x.ref:=by unfold B8;rw[if_neg e0,if_neg e1k,if_neg e2k,if_pos e4k]
  rw[ea,er] at hh
  refine J4 ?_
  refine W2 ?_
  refine ld (i:=3) hk3.sat hq53 rfl ?_
  refine X3l hk3.sat h3 htk b4 fun w4 σ4 D4 N4 h4 hD4=>?_
  have hq54:=hq53.lift N4.le
  have hq44:=hq43.lift N4.le
  refine Y4 N4.sat hq44 rfl ?_
  refine W2 ?_
  refine ld (i:=3) N4.sat hq54 rfl ?_
  refine X3j N4.sat (V8 hr3 N4.le) htr b4 fun ds' w5 σ5 hk5 hr5=>?_
  have hbD: ¬D b6:=fun e=>by have:=hDl _ e;omega
  have hm65:=(hm6.nx N4 hbD).up hk5
  obtain ⟨lv',cv',hde,_,_⟩:=O4.out hr5
  subst hde
  refine Oc (ds:=[lv',I room,cv']) hm65 rfl rfl (by rw[List.all_toArray];exact List.all_eq_true.2 (Rep.one hr5)) fun w6 u6 hm66=>?_
  have N:=(Nxt.of_stp (D:=D) hS3).chain (N4.trans (Nxt.of_stp hk5)) fun j _ e=>e
  exact Vl (G:=fun b=>cr=cs→b=true) (fun _=>rfl) N (h4.up hk5) (fun j hj=> .inl (hD4 j hj)) (fun e=>hbD (hD4 _ e)) hB6 (Kpt.of_upd u6 rfl) (u6.stp (Yh hk5.sat) (Nat.zero_le _) hm65.1).sat hm66 rfl hr5 hh
 rw[decide_eq_false e4k]
 refine Z6 ?_
 have ea:B8 W6 (Q4 l) room cs x=cs:=by unfold B8;rw[if_neg e0,if_neg e1k,if_neg e2k,if_neg e4k]
 have er:B8 W6 (Q4 l) room cr x=cr:=by unfold B8;rw[if_neg e0,if_neg e1k,if_neg e2k,if_neg e4k]
 rw[ea,er] at hh
 refine Y4 hk3.sat hq43 rfl ?_
 refine Oc (ds:=[lv,I room,cv]) hm6 rfl rfl (by rw[List.all_toArray];exact List.all_eq_true.2 (Rep.one hr3)) fun w6 u6 hm66=>?_
 have hbD: ¬D b6:=fun e=>by have:=hDl _ e;omega
 exact Vl (G:=fun b=>cr=cs→b=true) (fun _=>rfl) (Nxt.of_stp (D:=D) hS3) h3 (fun j hj=> .inl hj) hbD hB6 (Kpt.of_upd u6 rfl) (u6.stp (Yh hk3.sat) (Nat.zero_le _) hm6.1).sat hm66 rfl hr3 hh)
end Go.Proofs.YtjdiakhipmggjaaGreatDoor

namespace Go.Emb
end Go.Emb
namespace Go.Proofs.YtjdiakhipmggjaaGreatDoor
open Go.Emb Go.RowKit Go.Kd Go.Hm
variable {w w' w0 : World} {K : Value → World → Prop} {σ σ' σ0 : Q5} {room : Int} {cs cr : List Cel} {hp tv : Value} {b6 : Nat}
structure RunG (w0 : World) (σ0 : Q5) (w : World) (σ : Q5) (hp tv : Value) (b6 : Nat) (room : Int) (cs cr : List Cel) : Prop where
  stp : Stp w0 σ0 w σ
  ex : ∃ D ds, HeapIs w0.heap.size D σ w hp tv room cs ∧ ¬ D b6 ∧ Y1 σ w b6 ds ∧ O4 σ (Q4 P4, room, cr) ds
  bge : w0.heap.size ≤ b6
  tab : Tab σ tv (Q4 P4)
  ok : Ok (Q4 P4)
  good : GoodH W6 (Q4 P4) room cs
  goodr : GoodH W6 (Q4 P4) room cr
  rm : room ≤ 1048576
abbrev Run (w0:World) (σ0:Q5) (w:World) (σ:Q5) (hp tv:Value) (b6:Nat) (room:Int) (cs:List Cel):Prop:=RunG w0 σ0 w σ hp tv b6 room cs cs
theorem RunG.up (R:RunG w0 σ0 w σ hp tv b6 room cs cr) (k:Stp w σ w' σ'):RunG w0 σ0 w' σ' hp tv b6 room cs cr:=by
 obtain ⟨D,ds,d,c,a,b⟩:=R.ex
 exact ⟨R.stp.trans k,⟨D,ds,d.up k,c,a.up k,V8 b ⟨k.le⟩⟩,R.bge,R.tab.lift ⟨k.le⟩,R.ok,R.good,R.goodr,R.rm⟩
theorem RunG.below (R:RunG w0 σ0 w σ hp tv b6 room cs cr) (k:Below w.heap.size w w'):RunG w0 σ0 w' σ hp tv b6 room cs cr:=R.up (Stp.of_below R.stp.sat k)
theorem RunG.takes (R:RunG w0 σ0 w σ hp tv b6 room cs cr):Z1 cs≤1048576:=by
 have a:=R.good.left
 have b:=R.rm
 unfold W4 at a
 omega
theorem RunG.freeze (R:RunG w0 σ0 w σ hp tv b6 room cs cr): ∃a ds,X2 w a∧SLe σ a∧R9 a hp tv room cs∧Y1 a w b6 ds∧O4 a (Q4 P4,room,cr) ds∧Tab a tv (Q4 P4):=by
 obtain ⟨D,ds,f,h,d,e⟩:=R.ex
 obtain ⟨a,g,b,c,of⟩:=f.freeze R.stp.sat
 exact ⟨a,ds,g,b,c,⟨(of b6 h).trans d.1,d.2⟩,V8 e b,R.tab.lift b⟩
theorem RunG.thaw {a:Q5} (R:RunG w0 σ0 w σ hp tv b6 room cs cr) (b:SLe σ a) (k:Stp w a w' σ'):RunG w0 σ0 w' σ hp tv b6 room cs cr:=R.up (k.weak b.le)
theorem RunG.act {x:ActH} {c0 ds:List Value} {D:Nat→Prop} (R:RunG w0 σ0 w σ hp tv b6 room cs cr) (o:Glb σ0) (f:HeapIs w0.heap.size D σ w hp tv room cs) (m: ¬D b6) (l:Y1 σ w b6 ds) (q:O4 σ (Q4 P4,room,cr) ds) (n:Q0k σ x c0)
 (h: ∀a b w' σ' D',HeapIs w0.heap.size D' σ' w' hp tv room (B8 W6 (Q4 P4) room cs x)→ ¬D' b6→Y1 σ' w' b6 ds→O4 σ' (Q4 P4,room,B8 W6 (Q4 P4) room cr x) a→Stp w0 σ0 w' σ'→SLe σ σ'→(cr=cs→b=true)→K (.tuple #[.agg a.toArray, .bool b]) w'):Q1 P F.b7 [hp, .agg ds.toArray, .agg c0.toArray] w K:=by
 refine X41 R.stp.sat (o.lift ⟨R.stp.le⟩) R.stp.bel.size f q R.tab Ga R.ok (by decide) R.good R.goodr R.rm n (fun k c=>(f.mem c).1) fun a b u s t g i r d j=>?_
 have p:=l.lt
 exact h a b u s t r (fun e=>(d _ e).elim m fun e=>by omega) (l.nx i m) j (i.stp' R.stp fun k c=>(f.mem c).1) i.le g
theorem X35 {r:Int} (h:(Lit.int .u16 r).wf=true):0≤r:=by
 simp[Lit.wf,IntKind.min,IntKind.max,IntKind.signed,IntKind.bits] at h
 omega
theorem X1T {o:Operand} {r:Int} {A:Value→Value→Value→World→Prop} (N:X2 w σ) (C:Glb σ) (V:0≤r)
 (h: ∀a b b6 w' σ',Run w σ w' σ' (.pointer (some a)) (.pointer (some b)) b6 (r % 301) []→A (.pointer (some a)) (.pointer (some ⟨b6,0,none⟩)) (.bool false) w'):
 Q1 P F.ag [.int .u16 r] w fun m w=>ext P m 0 w fun n w=>ext P m 1 w fun v w=>V9 P T.a w fun E w=>Y0 P T.a E v w fun _u w=>Q1 P F.aH [] w fun u w=>J6 P .not u w fun d w=>Q0 d false w (fun w J=>J n w) fun z w=>Q0 d false w (Q3 P .eql T.a5 o (.const (.pointer none)) z (.pointer none)) fun y w=>pick P d (.bool true) y w fun p w=>A n E p w:=by
 have k:=Int.emod_nonneg r (show (301:Int)≠0 by decide)
 have R:=Int.emod_lt_of_pos r (show (0:Int)<301 by decide)
 refine Q7l N C V fun b a D ds w1 σ1 g H f U ok=>?_
 refine J7 (vs:=[_,_]) rfl ?_
 refine J7 (vs:=[_,_]) rfl ?_
 refine N0 g.sat fun W w2 L l B j=>?_
 have q:=M8 l g
 refine Oc j rfl (by obtain ⟨lv,X,rfl,_⟩:=O4.out f;rfl) (by rw[List.all_toArray];exact List.all_eq_true.2 (Rep.one f)) fun M O t=>?_
 have c:Stp w1 σ1 M L:=O.stp B l j.1
 have i:=g.trans c
 have Q:Run w σ M L (.pointer (some ⟨b,0,none⟩)) (.pointer (some a)) W (r % 301) []:=⟨i,⟨D,ds,H.up c,fun e=>by have:=(H.mem e).2.1;omega,t,V8 f ⟨c.le⟩⟩,q,U.lift ⟨c.le⟩,ok,GoodH.empty k,GoodH.empty k,by omega⟩
 refine X2d c.sat (C.lift ⟨i.le⟩) fun Z Y s=>?_
 simp only[Bool.not_true,↓M1,M1,Mb,reduceIte]
 refine Q9G ?_
 exact h _ _ _ _ _ (Q.up s)
end Go.Proofs.YtjdiakhipmggjaaGreatDoor

namespace Go.Proofs.YtjdiakhipmggjaaGreatDoor
open Go.Emb Go.RowKit Go.Kd Go.Hm
variable {w w' w0 : World} {K : Value → World → Prop} {σ σ' σ0 : Q5} {room : Int} {cs : List Cel} {hp tv : Value} {b6 : Nat}
end Go.Proofs.YtjdiakhipmggjaaGreatDoor

namespace Go.Proofs.YtjdiakhipmggjaaGreatDoor
open Go.Emb Go.RowKit Go.Kd Go.Hm
variable {w w' w0 : World} {K : Value → World → Prop} {σ σ' σ0 : Q5} {room : Int} {cs : List Cel} {hp tv : Value} {b6 : Nat}
end Go.Proofs.YtjdiakhipmggjaaGreatDoor

namespace Go.Hm
open Go.Kd
variable {ok : X0 → Bool} {l : List Cla} {room : Int} {cs pre more : List Cel} {c : Cel} {k : X0} {n : Int}
end Go.Hm
namespace Go.Proofs.YtjdiakhipmggjaaGreatDoor
open Go.Emb Go.RowKit Go.Kd Go.Hm
variable {w w' w0 : World} {K : Value → World → Prop} {σ σ' σ0 : Q5} {room : Int} {cs : List Cel} {hp tv : Value} {b6 : Nat}
end Go.Proofs.YtjdiakhipmggjaaGreatDoor

namespace Go.Proofs.YtjdiakhipmggjaaGreatDoor
open Go.Emb Go.RowKit Go.Kd Go.Hm
variable {w w' w0 : World} {K : Value → World → Prop} {σ σ' σ0 σ1 : Q5} {room : Int} {cs cr : List Cel} {hp tv : Value} {b6 : Nat} {l : List Cla} {ds : List Value}
set_option maxHeartbeats 1000000 in
theorem Q5z {o1 o2 o3 o4:Operand} {w1:World} {q qc:Addr} {c:Cel} {vv:Value} {F1 E:World→Prop} (hs1:X2 w1 σ1) (hh:O4 σ1 (Q4 l,room,cs) ds) (hq:Z4 σ1 q ds) (hqc:Z4 σ1 qc [S c.kind,vv]) (hv:Sl 4 M5 σ1 vv c.vals) (hk:c.kind.length≤U0) (wf:Wf l) (ok:Ok (Q4 l)) (hlen:(Q4 l).length≤1000) (good:GoodC W6 (Q4 l) cs c)
 (h: ∀w',Stp w1 σ1 w' σ1→E w'):
 lp (α:=Value) (.int .i64 0) w1 fun again13 x13 d_ w=>
  Q3 P .lss T.e o1 o2 x13 (I c.vals.length) w fun t46 w=>
  X1 t46 (
   dr w fun Tr Br=>
   Q6 Tr (fun φ50=> ∀w,Br w→fieldAddr P T.m (.pointer (some qc)) 1 w (dk Tr φ50 w)) fun φ50=>
   Q6 Tr (fun φ49=> ∀w,Br w→Q2 P T.a (.pointer (some q)) w (dk Tr φ49 w)) fun φ49=>
   Q6 Tr (fun φ51=> ∀t50 w,Br w→φ50 t50 w→Q2 P T.l t50 w (dk Tr φ51 w)) fun φ51=>
   Q6 Tr (fun φ53=> ∀t51 w,Br w→φ51 t51 w→indexAddr P T.l t51 x13 w (dk Tr φ53 w)) fun φ53=>
   Q6 Tr (fun φ54=> ∀t53 w,Br w→φ53 t53 w→Q2 P T.g t53 w (dk Tr φ54 w)) fun φ54=>
   Q6 Tr (fun φ55=> ∀w,Br w→Q2 P T.a (.pointer (some q)) w (dk Tr φ55 w)) fun φ55=>
   Q6 Tr (fun φ56=> ∀w,Br w→Q2 P T.m (.pointer (some qc)) w (dk Tr φ56 w)) fun φ56=>
   Q6 Tr (fun φ58=> ∀t55 t56 w,Br w→φ55 t55 w→φ56 t56 w→Q1 P F.ao [t55,t56,x13] w (dk Tr φ58 w)) fun φ58=>
   ∀t50 t49 t51 t53 t54 t55 t56 t58 w,Br w→φ50 t50 w→φ49 t49 w→φ51 t51 w→φ53 t53 w→φ54 t54 w→φ55 t55 w→φ56 t56 w→φ58 t58 w→
   Q1 P F.an [t49,t54,t58] w fun t59 w=>
   J6 P .not t59 w fun t60 w=>
   X1 t60 (F1 w) (
    Q3 P .add T.e o3 o4 x13 (.int .i64 1) w fun t48 w=>
    again13 t48 w)) (E w):=by
 have hmx:=hv.max
 refine U1 c.vals.length (fun n w'=>Stp w1 σ1 w' σ1) (Stp.refl hs1) fun i w2 d hi hk2=>?_
 refine Z0 ?_
 refine Q7 (fun hcc=>?_) (fun hcc=>h _ hk2)
 have hi':i<c.vals.length:=by simpa using hcc
 obtain ⟨e1,e2⟩:=Sl.elV hv hi'
 have hfi:elem c.kind=[]→i<(Y6 (Q4 l) c.kind).length:=fun e=>by
  rcases good.is with g | g
  ·exact absurd e g
  ·omega
 obtain ⟨lv,cv,rfl,_,_⟩:=O4.out hh
 refine U2 hk2.sat ?_
 (repeat (apply J5;(· intros;(repeat (rename_i hx;subst hx));(repeat' (first | (with_reducible exact O8 rfl) | (with_reducible exact S7 (Stp.bel (by (repeat (first | exact Stp.refl (by (first | assumption | exact Stp.sat (by assumption) | exact Hst.sat (by assumption))) | assumption | refine Stp.trans ?_ (by first | assumption | exact Hst.stp (by assumption)))))) rfl) | (with_reducible intro _) | (simp only[↓M2,M2,Mb,reduceIte]) | (with_reducible show Q2 _ _ _ _ _;first | refine X7 aS aL aR ?_ | refine Y4 aS aL aR ?_ | refine ld aS aL aR ?_) | (with_reducible show indexAddr _ _ _ _ _ _;refine Y3 aL au ?_) | (with_reducible show X3 _ _ _ _ _ _ _ _;refine Q8 aL ?_) | (with_reducible show F2 _ _ _ _ _ _;refine J0 aR ?_) | (with_reducible show pick _ _ _ _ _ _;refine M9 ?_) | (with_reducible show Q1 _ _ _ _ _;first | refine Q9D au au au au au au ?_) | (apply I1;intro hh;(try simp only[hh,reduceIte,↓M2,M2,Mb,reduceIte]))));done)))
 (intros;(repeat (rename_i hx;subst hx));(try simp only[↓M2,M2,Mb,reduceIte]))
 rename_i w3 hb3
 refine Q9U hb3.sat hh wf ok hlen e2.2.2.2.1 (Ia ok hk i) fun w4 σ4 hk4=>?_
 rw[good.fits i hi']
 (try simp only[↓M1,M1,Mb,reduceIte])
 exact Y5 hmx hi' (hk2.trans (hb3.stp.trans (hk4.weak fun _ _ h=>h)))
set_option maxHeartbeats 1000000 in
theorem X26 (Z:X2 w σ) (hh:O4 σ (Q4 l,room,cs) ds) (Y:Wf l) (ok:Ok (Q4 l)) (p:(Q4 l).length≤1000) (D: ∀c∈cs,GoodC W6 (Q4 l) cs c) (h: ∀w' σ',Stp w σ w' σ'→K (.bool true) w'):Q1 P F.bl [.agg ds.toArray] w K:=Ta (by
 have R:=hh
 obtain ⟨lv,cv,rfl,hl,V⟩:=O4.out hh
 unfold Nc
 refine Y9 Z fun q w1 σ1 m O=>?_
 have N:=V.max
 refine U1 cs.length (fun n w'=>Stp w1 σ1 w' σ1) (Stp.refl m.sat) fun i w2 d hi f=>?_
 have z:=V.up m
 refine W2 ?_
 refine ld (i:=2) f.sat O rfl ?_
 refine Q8 z ?_
 refine Z0 ?_
 refine Q7 (fun C=>?_) (fun C=>h _ _ (m.trans f))
 have s:i<cs.length:=by simpa using C
 obtain ⟨vv,p1,U,L⟩:=Sl.elO z s
 have Q:=D _ (List.getElem_mem s)
 refine W2 ?_
 refine ld (i:=2) f.sat O rfl ?_
 refine Y3 z s ?_
 refine Y4 f.sat p1 rfl ?_
 have B: ∀u∈[S cs[i].kind,vv],u.oneCell'=true:=by
  obtain ⟨a,c,rfl,_⟩:=U
  intro u X
  simp at X
  rcases X with rfl | rfl<;>rfl
 refine Y7 (sz:=2) f.sat aR aR B fun qc w3 W b j=>?_
 have r:=f.trans b
 have t:=O.up r
 have y:=U.up r
 have E:=(hl.up m).up r
 have A:=V8 (V8 R ⟨m.le⟩) ⟨r.le⟩
 refine W2 ?_
 refine ld (i:=1) b.sat j rfl ?_
 refine Q8 y ?_
 refine W2 ?_
 refine ld (i:=0) b.sat j rfl ?_
 refine Q6e _ (Nat.le_trans L (by decide)) ?_
 refine K0 ?_
 have W3: ∀w',Stp w3 W w' W→UpI cs.length (fun n w'=>Stp w1 σ1 w' σ1) (.int .i64 (IntKind.i64.wrap (i+1))) w'∧Ti cs.length (.int .i64 (IntKind.i64.wrap (i+1)))<Ti cs.length (I i):=
  fun w' k=>Y5 N s (f.trans ((b.trans k).weak fun _ _ h=>h))
 by_cases e:elem cs[i].kind=[]
 ·obtain ⟨H,o⟩:P3 (Q4 l) cs[i].kind=true∧cs[i].vals.length=(Y6 (Q4 l) cs[i].kind).length:=by
   rcases Q.is with g | g
   ·exact absurd e g
   ·exact g
  rw[decide_eq_true e]
  (repeat refine Hd.h ?_)
  refine ld (i:=0) b.sat t rfl ?_
  (repeat refine Hd.h ?_)
  refine ld (i:=0) b.sat j rfl ?_
  (repeat refine Hd.h ?_)
  refine Q4a b.sat E ?_
  rw[H]
  (repeat refine Hd.h ?_)
  simp only[Bool.not_true]
  (repeat refine Hd.h ?_)
  refine ld (i:=0) b.sat t rfl ?_
  (repeat refine Hd.h ?_)
  refine ld (i:=0) b.sat j rfl ?_
  (repeat refine Hd.h ?_)
  refine Ra b.sat E ok.acy p ok.sm fun v4 w4 σ4 v M=>?_
  (repeat refine Hd.h ?_)
  refine Q8 M ?_
  (repeat refine Hd.h ?_)
  refine Jb ?_
  simp only[o,decide_true,Bool.not_true]
  (repeat refine Hd.h ?_)
  refine Z6 ?_
  have J:=v.le
  rw[←o]
  exact Q5z v.sat (V8 A ⟨J⟩) (t.lift ⟨J⟩) (j.lift ⟨J⟩) (y.lift ⟨J⟩) L Y ok p Q fun w' k=>by
   (try simp only[↓M1,M1,Mb,reduceIte])
   exact W3 w' ((v.trans k).weak fun _ _ h=>h)
 ·rw[decide_eq_false e]
  (repeat refine Hd.h ?_)
  refine Z6 ?_
  exact Q5z b.sat A t j y L Y ok p Q fun w' k=>by
   (try simp only[↓M1,M1,Mb,reduceIte])
   exact W3 w' k)
theorem X1q (R:RunG w0 σ0 w σ hp tv b6 room cs cr) (h: ∀v w' σ',Stp w σ w' σ'→Sl 2 R0 σ' v cs→K v w'):Q1 P F.aO [hp] w K:=by
 obtain ⟨t,ds,r,a,c,_⟩:=R.freeze
 refine X1o r c R.takes fun v n u s b j=>?_
 have d:=b.weak a.le
 have f:=j.down (a.more ⟨b.le⟩)
 obtain ⟨m,o,i,p,q⟩:=f.freeze d.sat
 exact h v n m ⟨d.bel,o,i.le,fun k g=>q k fun e=>by have:=(f.mem e).1;omega⟩ p
set_option maxHeartbeats 1000000 in
theorem Q6X {r:Int} {v:Value} {xs:List ActH} (hs:X2 w σ) (hg:Glb σ) (hr:(Lit.int .u16 r).wf=true) (hv:Sl 8 Q0k σ v xs)
 (h: ∀w' σ',Stp w σ w' σ'→K (.bool true) w'):Q1 P F.c7 [.int .u16 r,v] w K:=St (by
 have ah:0≤r:=X35 hr
 unfold Uc
 refine X1T hs hg ah fun a b b6 w1 σ1 R1=>?_
 refine Z6 ?_
 refine U1 xs.length (fun i w'=> ∃σ' s,Run w σ w' σ' (.pointer (some a)) (.pointer (some b)) b6 (r % 301) s) ⟨σ1,[],R1⟩ fun i w2 d hi N=>?_
 obtain ⟨σ2,Y,u⟩:=N
 have g:=hv.up u.stp
 have X:=g.max
 refine Q8 g ?_
 refine Z0 ?_
 cases hd:decide ((i:Int)<(xs.length:Nat)) with
 | false=>
  (try simp only[↓M1,M1,Mb,reduceIte])
  exact h _ _ u.stp
 | true=>
  (try simp only[↓M1,M1,Mb,reduceIte])
  have q:i<xs.length:=by simpa using hd
  refine Q7 (fun _=>?_) (fun _=>h _ _ u.stp)
  refine Zv (fun _ w'=> ∃σ' s cr,RunG w σ w' σ' (.pointer (some a)) (.pointer (some b)) b6 (r % 301) s cr) ?_ (fun _ d w5 al=>?_)
  ·obtain ⟨c0,p1,p2,O⟩:=g.el q
   refine Y3 g q ?_
   refine Y4 u.stp.sat p1 p2 ?_
   refine X3r u.stp.sat O fun w3 ad=>?_
   have J:=u.below ad
   refine Q7 (fun _=>?_) (fun _=>⟨_,_,_,J⟩)
   obtain ⟨D,ds,h1,L,t,C⟩:=J.ex
   obtain ⟨σk,sk,lk,fk,bj⟩:=t.freeze J.stp.sat
   have az:=g.lift lk
   have bi:=p1.lift lk
   obtain ⟨lv,cv,rfl,_⟩:=O4.out C
   have p4:=O
   obtain ⟨rfl,_⟩:=p4
   refine U2 sk ?_
   (repeat refine J5 Qd ?_)
   (intros;(repeat (rename_i hx;subst hx));(try simp only[↓M2,M2,Mb,reduceIte]))
   rename_i w4 ak
   have k4:=ak.stp.weak lk.le
   have p:=J.up k4
   refine p.act hg (h1.up k4) L (t.up k4) C O fun ar bb w3 σ3 D3 h5 aj ag a5 M B _=>?_
   exact ⟨σ3,_,Y,M,⟨D3,_,h5,aj,ag,V8 C B⟩,p.bge,p.tab.lift B,p.ok,GoodH.act Ga Q3x p.good xs[i],p.goodr,p.rm⟩
  ·obtain ⟨σ5,E,a1,R5⟩:=al
   refine X1q R5 fun cv w6 σ6 R o=>?_
   have j:=R5.up R
   obtain ⟨D,ds,h1,L,t,C⟩:=j.ex
   obtain ⟨lv,aw,rfl,Q,_⟩:=O4.out C
   refine Zu (i:=2) t (by simp) (by obtain ⟨a,c,rfl,_⟩:=o;rfl) (by obtain ⟨a,c,rfl,_⟩:=o;rfl) fun w7 u7 U=>?_
   have m:Run w σ w7 σ6 (.pointer (some a)) (.pointer (some b)) b6 (r % 301) E:=⟨u7.stp j.stp j.bge t.1,⟨D,_,h1.nx (Nxt.of_upd j.stp.sat u7 t.1) fun k N e=>L (e▸N),L,U,⟨lv,cv,rfl,Q,o⟩⟩,j.bge,j.tab,j.ok,j.good,j.good,j.rm⟩
   obtain ⟨σf,V,sf,H,z,W,y,ab⟩:=m.freeze
   have Z:=(hg.lift ⟨m.stp.le⟩).lift H
   refine Q7A sf Z z ab m.ok m.good.cells fun w8 σ8 n=>?_
   simp only[Bool.not_true,↓M1,M1,Mb,reduceIte]
   have af:V.length=3:=by obtain ⟨_,_,rfl,_⟩:=O4.out y;rfl
   refine Rr (W.up n) af ?_
   (repeat refine Hd.h ?_)
   refine X26 n.sat (V8 y ⟨n.le⟩) Ga m.ok (by decide) m.good.cells fun w9 σ9 aa=>?_
   simp only[Bool.not_true,↓M1,M1,Mb,reduceIte]
   have f:=n.trans aa
   refine Q3R f.sat (z.lift ⟨f.le⟩) m.good.left m.rm fun a0 A=>?_
   have ay:=m.good.left
   have e9:decide (W4 (r % 301) E<0)=false:=decide_eq_false (by omega)
   simp only[e9,↓M1,M1,Mb,reduceIte]
   exact Y5 X q ⟨_,_,m.thaw H (f.trans (Stp.of_below f.sat A))⟩)
end Go.Proofs.YtjdiakhipmggjaaGreatDoor

namespace Go.Proofs.YtjdiakhipmggjaaGreatDoor.heapRight
open Go.ChangeShapes Go.WideShapes Go.ChangeAt Go.RowKit
open Go.Emb
theorem own : ownKnob Tryz.prog.godebug = none := by kernel_rfl
theorem lay : laidOutB Tryz.prog = true := by kernel_rfl
set_option maxRecDepth 100000 in
theorem X2t (os : Os) (started : os.Started) (H : Type) (enc : TypeId × Value → H) :
    ReturnsInHanded {} Tryz.checked os 8 .any (fun w args => (Rows.heapRightSpec.pre enc Tryz.prog Tryz.f8 [] false w args ∧ laidMetH Tryz.prog laidAll w) ∧ sizedMet enc Tryz.prog Tryz.f8 (OpenSpec.ofChange Rows.heapRightSpec) false w args) (Rows.heapRightSpec.post enc Tryz.prog Tryz.f8 false true false false) := by
  refine returnsInHanded_of_change_and (C := Tryz.checked) (X := fun w _ => laidMetH Tryz.prog laidAll w) (fun _ _ _ hh h => h.of_heap hh) own started (by kernel_rfl) Tryz.func8
    (ChangeSpec.witness_shaped (enc := enc) (C := Tryz.checked) (os := os) (X := fun w _ => laidMetH Tryz.prog laidAll w) false (World.laidAll Tryz.prog os laidAll) #[.int .u16 0, .slice none 0 0] 8 (World.laidAll_os _ _ _)
      (World.shaped_of_ZipB (by kernel_rfl) (by kernel_rfl)) (by kernel_rfl) (by kernel_rfl) (by kernel_rfl) (by rw [MakeChecks.laidMetH_plain _ _ _ (by kernel_rfl)]; exact laidMet_laidAll _ (by kernel_rfl) (by kernel_rfl))) ?_
  intro W base args ds gs before hval0 hW _ hsz0 hL _
  have hsz : (DataW.weightsEach Tryz.prog (Tryz.f8.params.toList ++ Rows.heapRightSpec.plain.varTypes Tryz.prog) (ds ++ gs)).all (· ≤ reachBytes) = true := hsz0
  have hval : ∀ (j : Nat) t v, Tryz.f8.params[j]? = some t → args[j]? = some v → Value.okWide Tryz.prog W .any base t v := hval0
  have hW' := hW
  obtain ⟨p, q, hA0, hV, rfl, hfz, hnd⟩ := hW
  have hA : DataW.TrodAll enc Tryz.prog W 0 (fun _ => true) true Tryz.f8.params.toList args.toList ds p := hA0
  have hlt := DataW.TrodAll.lt hA
  rw [Tryz.params8] at hA hval hsz
  obtain ⟨v0, vs0, d0, ds0, p0, q0, hargs, rfl, rfl, h0, r0⟩ := trodAll_cons hA
  obtain ⟨v1, vs1, d1, ds1, p1, q1, rfl, rfl, rfl, h1, r1⟩ := trodAll_cons r0
  obtain ⟨rfl, rfl, rfl⟩ := trodAll_nil r1
  obtain rfl : args = #[v0, v1] := by cases args; simp_all
  obtain ⟨rfl, rfl⟩ := trodVars_none hV
  have g0 : ∀ x ∈ p0, x.block < W.heap.size := fun x hx => hlt x (by simp [hx])
  have k0 := fun (W' : World) (bel : Below W.heap.size W W') => Below.trod lay (by kernel_rfl) (of_decide_eq_true (by kernel_rfl)) h0 bel g0
  obtain ⟨a0, rfl, _, _, w0⟩ := open_int Tryz.underlying43 (hval 0 43 v0 rfl rfl) h0
  have g1 : ∀ x ∈ p1, x.block < W.heap.size := fun x hx => hlt x (by simp [hx])
  have k1 := fun (W' : World) (bel : Below W.heap.size W W') => Below.trod lay (by kernel_rfl) (of_decide_eq_true (by kernel_rfl)) h1 bel g1
  obtain ⟨l1, e1⟩ := X1C (hval 1 44 v1 rfl rfl) h1 (X3b hsz (j := 1) (t := 44) rfl rfl)
  have hc : Q1 Tryz.prog 8 [.int .u16 a0, v1] W (fun e w' => e = .bool true ∧ Below W.heap.size W w') := Q6X Q8S (X33 hL) w0 e1 (fun w' σ' hb => ⟨rfl, hb.bel⟩)
  refine (Q3J Tryz.func8 (by kernel_rfl) (by kernel_rfl) hc).mono fun e W' he => ?_
  obtain ⟨v, rfl⟩ : ∃ v, e = .returned v := by cases e <;> first | exact ⟨_, rfl⟩ | exact he.elim
  obtain ⟨rfl, bel⟩ := he
  exact ⟨_, rfl, _, _, _, [], _, [], hW', trodAll_mk1 (shut_bool Tryz.underlying4 _), (trodAll_cons_mk (k0 W' bel) (trodAll_cons_mk (k1 W' bel) trodAll_mk0)), rfl, bel.frame _, fun h => by cases h⟩
theorem over : Rows.heapRightRow.holds Tryz.pinned (OpenSpec.ofChange Rows.heapRightSpec) :=
  OpenClaim.holds_of_wide 8 Tryz.f8 rfl rfl rfl rfl rfl rfl rfl ⟨rfl, rfl, rfl, rfl, rfl⟩ rfl rfl rfl rfl rfl (by kernel_rfl) Tryz.func8 (by kernel_rfl)
    (of_decide_eq_true (by kernel_rfl)) (by unfold Func.isWrapper; first | (rw [if_pos (by decide +kernel)]; kernel_rfl) | (rw [if_neg (by decide +kernel)]; exact ⟨rfl, rfl⟩))
    (fun os started H enc _ => X2t os started H enc)
end Go.Proofs.YtjdiakhipmggjaaGreatDoor.heapRight
namespace Go.Proofs.YtjdiakhipmggjaaGreatDoor
theorem Q3c : Rows.HeapRightSaid := heapRight.over
end Go.Proofs.YtjdiakhipmggjaaGreatDoor
