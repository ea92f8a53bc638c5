/- Parts of a proof about the given program: its functions as texts of their own, what each computes, plain laws of that. The conditions of each stand in its statement. -/
import Derived.Test.YtjdiakhipmggjaaGreatDoorB5
import Derived.Test.YtjdiakhipmggjaaGreatDoorB4
import Derived.Test.YtjdiakhipmggjaaGreatDoorB3
import Derived.Test.YtjdiakhipmggjaaGreatDoorRows
import Derived.WalkKit
import Derived.ProofKit
import Derived.OpenShut
import Derived.ShutString
import Derived.ChangeOld
import Derived.Below
import Derived.SizedLaws
import Derived.Lay
import Derived.Carry
import Derived.MakeChecks
import Derived.PinnedBridge
set_option linter.unnecessarySimpa false
set_option linter.defProp false
set_option linter.unusedSectionVars false
set_option linter.unusedVariables false
set_option linter.unusedSimpArgs false
namespace Go.Hm
open Go.Kd
structure Alike (l m : List Cla) : Prop where
  lk : lk l = lk m
  len : l.length = m.length
  weigh : weigh l [] = weigh m []
section
variable {l m : List Cla} (h : Alike l m)
include h
end
theorem X2o {l:List Cla} {frm:Nat}: ∀(f:Nat) (a:List Nat) (i:Nat),∀y∈A5 l frm f a i,y∈a∨frm≤y:=by
 intro f
 induction f with
 | zero=>intro a i y hy;exact .inl hy
 | succ f d=>
  intro a i y hy
  simp only[A5] at hy
  split at hy
  ·exact .inl hy
  ·split at hy
   ·exact .inl hy
   ·rename_i e _
    rcases List.mem_append.1 hy with hy | hy
    ·exact Lj (p:=fun y=>frm≤y) _ _ (fun b x _ z c=>d b _ z c) y hy
    ·simp at hy;omega
theorem X0o {a:List Cla} (e:T9 a): ∀j∈V9 a 8,8≤j∧j<a.length:=by
 intro j c
 unfold V9 at c
 have i:=Lj (p:=fun y=>8≤y) _ _ (fun b x _ z d=>X2o _ b x z d) j c
 have f:=Lj (p:=fun y=>y<a.length) _ _ (fun b x g z d=>(Q58 e (by omega) _ b x (by
  have:=List.mem_of_mem_drop g
  simpa using this) z d).imp id (·.1)) j c
 exact ⟨i.resolve_left (by simp),f.resolve_left (by simp)⟩
end Go.Hm
namespace Go.Proofs.YtjdiakhipmggjaaGreatDoor
open Go.Emb Go.RowKit Go.Kd Go.Hm
end Go.Proofs.YtjdiakhipmggjaaGreatDoor

namespace Go.Hm
open Go.Kd
theorem Q8C {a:List Cla} {m:Nat} (b:m<a.length):Z2 a (Y3 a m)=some m↔Z2 (a.take m) (Y3 a m)=none:=by
 have g:Y3 a m=a[m].name:=by unfold Y3;rw[List.getD_eq_getElem?_getD,List.getElem?_eq_getElem b];rfl
 unfold Z2
 rw[List.findIdx?_eq_some_iff_getElem,List.findIdx?_eq_none_iff]
 constructor
 ·rintro ⟨k,i,f⟩ c d
  obtain ⟨j,e,rfl⟩:=List.mem_take_iff_getElem.1 d
  simpa using f j (by omega)
 ·intro h
  refine ⟨b,by simp[g],fun j e=>?_⟩
  simpa using h a[j] (List.mem_take_iff_getElem.2 ⟨j,by omega,rfl⟩)
theorem Q7R {a:List Cla} (c:T9 a) {m:Nat} (b:m<a.length):Xj a (Y3 a m) (Y3 a m)=T1 a a[m]:=by
 have d:Y3 a m=a[m].name:=by unfold Y3;rw[List.getD_eq_getElem?_getD,List.getElem?_eq_getElem b];rfl
 unfold Xj T1
 rw[Yh c b,List.getD_eq_getElem?_getD,List.getElem?_eq_getElem b]
 simp only[Option.getD_some,d]
end Go.Hm
namespace Go.Proofs.YtjdiakhipmggjaaGreatDoor
open Go.Emb Go.RowKit Go.Kd Go.Hm
variable {w : World} {K : Value → World → Prop} {σ : Q6} {l : List Cla}
theorem Q8B: ∀c∈I0,Zv c=false:=by decide
theorem Q8d {c:Cla} (h:D7 c=0):Zv c=false:=by
 unfold D7 at h
 split at h
 ·cases h
 ·rename_i a;exact eq_false_of_ne_true a
set_option maxHeartbeats 4000000 in
theorem X1I {lv:Value} (hs:X3 w σ) (hl:Sl 8 V0 σ lv l) (cy:l.length≤900)
 (C: ∀i e w' B,Sw D7 l=some (i,e)→Stp w σ w' B→K (.tuple #[.slice none 0 0,I i,I e]) w')
 (h0: ∀v w' B,Sw D7 l=none→Stp w σ w' B→Sl 8 V0 B v (Q4 l)→Ok (Q4 l)→T9 (Q4 l)→K (.tuple #[v,I 0,I 0]) w'):Q1 P F.bP [lv] w K:=Q11 (by
 unfold Ev
 have A:I0.length=8:=rfl
 have dx:(Q4 l).length=8+l.length:=by simp[Q4,A]
 refine Q9N hs fun x0 w1 σ1 b5 bg=>?_
 refine Q8u bg ?_
 rw[A]
 refine E5 l.length (fun n x w'=> ∃B,Stp w σ w' B∧V6 w.heap.size T.b 8 V0 B w' x (I0++l.take n)∧O9 D7 l 0=O9 D7 (l.drop n) n)
  ⟨σ1,b5,by simpa using bg,rfl⟩ fun n x w4 d L b=>?_
 obtain ⟨σ4,Z,a2,E⟩:=b
 have aa:=hl.up Z
 refine Q8 aa ?_
 refine Y9 ?_
 refine Q7 (fun hh=>?_) (fun hh=>?_)
 ·have a:n<l.length:=by simpa using hh
  obtain ⟨cf,cg,b9,p1,r1⟩:=aa.elC a
  refine Y0 aa a ?_
  refine Y4 Z.sat p1 rfl ?_
  refine Q3X Z.sat r1 fun w6 σ6 ab=>?_
  have b3:=Z.trans ab
  have W:=We a E
  refine Xh ?_
  refine Q7 (fun m=>?_) (fun m=>?_)
  ·have z: ¬D7 l[n]=0:=by simpa using m
   rw[if_neg z] at W
   refine C _ _ _ _ ?_ b3
   unfold Sw
   rw[W]
  ·have hz:D7 l[n]=0:=by simpa using m
   rw[if_pos hz] at W
   refine Y0 (aa.up ab) a ?_
   refine Y4 ab.sat (p1.up ab) rfl ?_
   have cl:=a2.up ab
   have r6:=RCl_lift r1 ⟨ab.le⟩
   refine Ug (R:=V0) (x:=l[n]) b3 cl (by simpa [Value.cells] using r6) rfl rfl rfl (by simp[A];omega) (by simp[A];omega) fun s v' w9 σ9 de p cr a4=>?_
   refine N0 ?_
   refine J3 aa.max a ⟨σ9,p,?_,W⟩
   rw[List.take_add_one,List.getElem?_eq_getElem a,←List.append_assoc]
   exact cr
 have a: ¬n<l.length:=by simpa using hh
 rw[List.take_of_length_le (by omega)] at a2
 rw[List.drop_eq_nil_of_le (by omega)] at E
 have E:O9 D7 l 0=none:=E
 have bl:=P9 E
 have bh: ∀c∈l,Qj c∧Nm c∧c.name≠[]:=fun c hc=>Bu (bl c hc)
 have q: ∀c∈Q4 l,Qj c:=fun c hc=>by
  rcases List.mem_append.1 hc with hc | hc
  ·exact (Jo c hc).1
  ·exact (bh c hc).1
 have a0: ∀c∈Q4 l,Nm c:=fun c hc=>by
  rcases List.mem_append.1 hc with hc | hc
  ·exact (Jo c hc).2.1
  ·exact (bh c hc).2.1
 have ac: ∀c∈Q4 l,Zv c=false:=fun c hc=>by
  rcases List.mem_append.1 hc with hc | hc
  ·exact Q8B c hc
  ·exact Q8d (bl c hc)
 have aw:(Q4 l).length≤100000:=by omega
 unfold Sw at C h0
 rw[E] at C h0
 simp only at C h0
 obtain ⟨σ5,o,J,c7,c2⟩:=a2.keep Z
 change Sl 8 V0 σ5 x (Q4 l) at J
 clear a2 Z aa a hh L E bg b5
 have r: ∀{n:Nat} (L:n<l.length),∃(h:8+n<(Q4 l).length),(Q4 l)[8+n]=l[n]:=fun {n} L=>⟨by omega,by
  unfold Q4
  rw[List.getElem_append_right (by rw[A];omega)]
  congr 1
  rw[A];omega⟩
 have b4: ∀{n:Nat} (L:n<l.length),Y3 (Q4 l) (8+n)=l[n].name:=fun {n} L=>by
  obtain ⟨C,h2⟩:=r L
  rw[Pk C,h2]
 have bp: ∀j,j<8→(Z2 ((Q4 l).take j) (Y3 (Q4 l) j)).isSome=false:=by
  have hd: ∀j,j<8→(Z2 (I0.take j) (Y3 I0 j)).isSome=false:=by decide
  intro j hj
  have e1:(Q4 l).take j=I0.take j:=by unfold Q4;rw[List.take_append_of_le_length (by rw[A];omega)]
  have e2:Y3 (Q4 l) j=Y3 I0 j:=by
   unfold Y3 Q4;rw[List.getD_eq_getElem?_getD,List.getD_eq_getElem?_getD,List.getElem?_append_left (by rw[A];omega)]
  rw[e1,e2];exact hd j hj
 refine U2 l.length (fun n w'=>Stp w σ w' σ5∧ ∀j,j<8+n→(Z2 ((Q4 l).take j) (Y3 (Q4 l) j)).isSome=false) ⟨o,by simpa using bp⟩ fun n w5 d L b=>?_
 clear o
 obtain ⟨o,a3⟩:=b
 have aj:=hl.up o
 refine Q8 aj ?_
 refine Y9 ?_
 refine Q7 (fun hh=>?_) (fun hh=>?_)
 ·have a:n<l.length:=by simpa using hh
  obtain ⟨cf,cg,b9,p1,r1⟩:=aj.elC a
  refine Y0 aj a ?_
  (try simp only[↓M1,M1,Mb,reduceIte])
  refine ld o.sat p1 rfl ?_
  refine I8 o.sat J ?_
  rw[G1 (by omega) (by omega)]
  refine Xh ?_
  obtain ⟨V,e8⟩:=r a
  rw[←b4 a]
  have bn:=Q8C V
  cases an:Z2 ((Q4 l).take (8+n)) (Y3 (Q4 l) (8+n)) with
  | none=>
   rw[bn.2 an]
   have e:decide (L5 (some (8+n))=(8:Nat)+(n:Int))=true:=by simp[L5]
   rw[e]
   (try simp only[↓M1,M1,Mb,reduceIte])
   refine Y5 aj.max a ⟨o,fun j hj=>?_⟩
   by_cases ej:j=8+n
   ·rw[ej,an];rfl
   ·exact a3 j (by omega)
  | some i=>
   have z:Z2 (Q4 l) (Y3 (Q4 l) (8+n))≠some (8+n):=fun e=>by rw[bn.1 e] at an;cases an
   have e:decide (L5 (Z2 (Q4 l) (Y3 (Q4 l) (8+n)))=(8:Nat)+(n:Int))=false:=by
    rw[decide_eq_false_iff_not]
    intro e
    cases hf:Z2 (Q4 l) (Y3 (Q4 l) (8+n)) with
    | none=>rw[hf] at e;simp only[L5] at e;omega
    | some k=>
     rw[hf] at e z
     simp only[L5] at e
     apply z
     congr 1;omega
   rw[e]
   (try simp only[↓M1,M1,Mb,reduceIte])
   have N:Ry (Q4 l)=some (8+n):=by
    unfold Ry
    rw[List.find?_range_eq_some]
    refine ⟨by rw[an];rfl,by simpa using V,fun j hj=>by rw[a3 j hj];rfl⟩
   refine C _ _ _ _ ?_ o
   rw[N]
   have:((8+n:Nat):Int)-8=n:=by omega
   simp only[this]
 have a: ¬n<l.length:=by simpa using hh
 have N:Ry (Q4 l)=none:=by
  unfold Ry
  rw[List.find?_eq_none]
  intro j hj
  rw[a3 j (by have:=List.mem_range.1 hj;omega)];simp
 rw[N] at C h0
 simp only at C h0
 have g:=Kl N
 clear a3 hh a L aj bp
 refine U2 l.length (fun n w'=> ∃B,Stp w σ w' B∧SLe σ5 B∧O9 (fun c=>(D0 (Q4 l) c:Int)) l 0=O9 (fun c=>(D0 (Q4 l) c:Int)) (l.drop n) n) ⟨σ5,o,SLe.refl _,rfl⟩ fun n w6 d L b=>?_
 obtain ⟨σ9,p,ar,ad⟩:=b
 have ah:=hl.up p
 refine Q8 ah ?_
 refine Y9 ?_
 refine Q7 (fun hh=>?_) (fun hh=>?_)
 ·have a:n<l.length:=by simpa using hh
  obtain ⟨cf,cg,b9,p1,r1⟩:=ah.elC a
  refine Y0 ah a ?_
  refine Y4 p.sat p1 rfl ?_
  have Q:=We a ad
  refine Q8N p.sat (J.lift ar) r1 fun w8 ct ao=>?_
  refine Xh ?_
  refine Q7 (fun m=>?_) (fun m=>?_)
  ·have z: ¬(D0 (Q4 l) l[n]:Int)=0:=by simpa using m
   rw[if_neg z] at Q
   refine C _ _ _ _ ?_ (p.trans ao)
   rw[Q]
  ·have hz:(D0 (Q4 l) l[n]:Int)=0:=by simpa using m
   rw[if_pos hz] at Q
   refine N0 ?_
   exact Y5 ah.max a ⟨ct,p.trans ao,ar.more ⟨ao.le⟩,Q⟩
 have a: ¬n<l.length:=by simpa using hh
 rw[List.drop_eq_nil_of_le (by omega)] at ad
 have ad:O9 (fun c=>(D0 (Q4 l) c:Int)) l 0=none:=ad
 rw[ad] at C h0
 simp only at C h0
 have ch:=P9 ad
 clear hh a L o ah
 refine Q0D p.sat (J.lift ar) g (by omega) (by omega) q fun vb dm br af ay=>?_
 have f:=p.trans af
 have bd:=ar.more ⟨af.le⟩
 have a1:(I3 (Q4 l)).length=(Q4 l).length:=by simp[I3]
 refine U2 l.length (fun n w'=>Stp w σ w' br∧ ∀j (hj:j<l.length),j<n→T1 (Q4 l) l[j]=false) ⟨f,fun j _ h=>by omega⟩ fun n dd d L b=>?_
 clear f
 obtain ⟨f,az⟩:=b
 have al:=hl.up f
 refine Q8 al ?_
 refine Y9 ?_
 refine Q7 (fun hh=>?_) (fun hh=>?_)
 ·have a:n<l.length:=by simpa using hh
  obtain ⟨V,e8⟩:=r a
  refine Xu ⟨by omega,by omega⟩ ?_
  have ec:((8:Nat):Int)+(n:Int)=((8+n:Nat):Int):=by omega
  rw[ec]
  obtain ⟨dn,pb,_,rv,rfl,rb⟩:=ay.el (i:=8+n) (by rw[a1];exact V)
  have b7:(I3 (Q4 l))[8+n]'(by rw[a1];exact V)=(List.range (Q4 l).length).map fun j=>Xj (Q4 l) (Y3 (Q4 l) (8+n)) (Y3 (Q4 l) j):=by simp[I3]
  rw[b7] at rb
  obtain ⟨cp,bi,_,ag⟩:=rb.el (i:=8+n) (by simpa using V)
  have ag:cp=_:=ag
  subst ag
  simp only[List.getElem_map,List.getElem_range] at bi
  rw[Q7R g V,e8] at bi
  refine Y0 ay (by rw[a1];exact V) ?_
  refine X7 f.sat pb rfl ?_
  refine Xu ⟨by omega,by omega⟩ ?_
  rw[ec]
  refine Y0 rb (by simpa using V) ?_
  refine X7 f.sat bi rfl ?_
  cases bo:T1 (Q4 l) l[n] with
  | true=>
   (try simp only[↓M1,M1,Mb,reduceIte])
   have bf:l.findIdx? (T1 (Q4 l))=some n:=by
    rw[List.findIdx?_eq_some_iff_getElem]
    exact ⟨a,bo,fun j hj=>by simpa using az j (by omega) hj⟩
   refine C _ _ _ _ ?_ f
   rw[bf]
  | false=>
   (try simp only[↓M1,M1,Mb,reduceIte])
   refine Y5 al.max a ⟨f,fun j hj c9=>?_⟩
   by_cases e:j=n
   ·subst e;exact bo
   ·exact az j hj (by omega)
 have a: ¬n<l.length:=by simpa using hh
 have a6: ∀c∈l,T1 (Q4 l) c=false:=fun c hc=>by
  obtain ⟨j,hj,rfl⟩:=List.getElem_of_mem hc
  exact az j hj (by omega)
 have bf:l.findIdx? (T1 (Q4 l))=none:=by
  rw[List.findIdx?_eq_none_iff];exact a6
 rw[bf] at C h0
 simp only at C h0
 clear az hh a L al ay af p a1
 have ap:=Q5s g (fun c hc=>(bh c hc).2.2) a6
 have aq:X0Q (Q4 l):=fun c hc u hu=>by
  rcases List.mem_append.1 hc with hc | hc
  ·rw[(Jo c hc).2.2] at hu;simp at hu
  ·have:=ch c hc
   unfold D0 at this
   split at this
   ·simp at this
   ·split at this
    ·simp at this
    ·rename_i y
     have y:c.like.any (R6 (Q4 l))=false:=eq_false_of_ne_true y
     have:=List.any_eq_false.1 y u hu
     unfold R6 at this
     cases hd:lk (Q4 l) u with
     | none=>rw[hd] at this;simp at this
     | some d=>exact ⟨d,rfl⟩
 have b8:Ok (Q4 l):=⟨ap,aw,q,aq,a0⟩
 have ca: ∀i (hi:i<(Q4 l).length),8≤i→ ∀u∈U3 (Q4 l)[i],∃j,Z2 (Q4 l) u=some j:=fun i hi V u hu=>by
  have ae:i-8<l.length:=by omega
  obtain ⟨du,e8⟩:=r ae
  have cn:(Q4 l)[i]=l[i-8]:=by rw[←e8];congr 1;omega
  rw[cn] at hu
  have a9:=List.getElem_mem ae
  rcases List.mem_cons.1 hu with hu | hu
  ·have:=ch _ a9
   unfold D0 at this
   split at this
   ·simp at this
   ·rename_i y
    unfold Qx at y
    rw[←hu] at y
    cases hd:lk (Q4 l) u with
    | none=>rw[hd] at y;simp at y
    | some d=>obtain ⟨_,_,j,hj,_⟩:=V3 hd;exact ⟨j,hj⟩
  ·obtain ⟨d,hd⟩:=aq _ (List.mem_append_right _ a9) u hu
   obtain ⟨_,_,j,hj,_⟩:=V3 hd;exact ⟨j,hj⟩
 refine Ej (R:=Wr) (e:=T.e) f (by decide) fun dq dj bc ba _=>?_
 refine E5 l.length (fun n x' w'=> ∃B H,Stp w σ w' B∧SLe σ5 B∧V6 w.heap.size T.e 1 Wr B w' x' (ints H)∧Few (Q4 l) H∧H=(((List.range (Q4 l).length).drop 8).take n).foldl (fun H i=>Xx (Q4 l) 8 H i) [])
  ⟨br,[],f.trans bc,bd,ba,⟨List.nodup_nil,by simp⟩,rfl⟩ fun n x' da d L b=>?_
 clear ba bc f bd ar
 obtain ⟨ds,H,O,Y,ai,ak,am⟩:=b
 have ax:=hl.up O
 refine Q8 ax ?_
 refine Y9 ?_
 refine Q7 (fun hh=>?_) (fun hh=>?_)
 ·have a:n<l.length:=by simpa using hh
  obtain ⟨V,e8⟩:=r a
  refine Xu ⟨by omega,by omega⟩ ?_
  have ec:((8:Nat):Int)+(n:Int)=((8+n:Nat):Int):=by omega
  rw[ec]
  refine X2p ap g (by omega) q (by omega) ca ((Q4 l).length+1) V (Nat.lt_succ_of_le (Q1J _ _)) ak O (J.lift Y) ai fun dv dc ck b6 bs ce=>?_
  refine N0 ?_
  refine J3 ax.max a ⟨ck,_,b6,Y.more bs,ce,Pr ap g (by omega) _ _ _ V ak,?_⟩
  rw[List.take_add_one,List.getElem?_drop,List.getElem?_range V,List.foldl_append,←am]
  rfl
 have a: ¬n<l.length:=by simpa using hh
 have cv:n=l.length:=by omega
 subst cv
 have b1:H=V9 (Q4 l) 8:=by
  rw[am,List.take_of_length_le (by rw[List.length_drop,List.length_range];omega)];rfl
 subst b1
 clear am hh a L
 have c6:=ak.len
 have cm:=X0o g
 obtain ⟨cb,bq,cd,a8,_⟩:=ai.keep O
 have bv:=Y.more ⟨a8⟩
 clear ai O a8 Y ax
 have ae:(ints (V9 (Q4 l) 8)).length=(V9 (Q4 l) 8).length:=by simp
 refine U2 (V9 (Q4 l) 8).length (fun n w'=> ∃B,Stp w σ w' B∧SLe cb B∧ ∀j∈(V9 (Q4 l) 8).take n,V7 (Q4 l) ((Q4 l).getD j Cla.zero)=0) ⟨cb,bq,SLe.refl _,by simp⟩ fun n c3 d L b=>?_
 obtain ⟨dl,M,U,a5⟩:=b
 have X:=cd.lift U
 refine Q8 X ?_
 rw[ae]
 refine Y9 ?_
 refine Q7 (fun hh=>?_) (fun hh=>?_)
 ·have a:n<(V9 (Q4 l) 8).length:=by simpa using hh
  have b0:n<(ints (V9 (Q4 l) 8)).length:=by rw[ae];exact a
  refine Y0 X b0 ?_
  obtain ⟨cs,pc,_,co⟩:=X.el b0
  obtain ⟨rfl,_⟩:=co
  simp only[List.getElem_map] at pc
  refine X7 M.sat pc rfl ?_
  have bz:=(cm _ (List.getElem_mem a)).2
  have a4:(Q4 l).getD (V9 (Q4 l) 8)[n] Cla.zero=(Q4 l)[(V9 (Q4 l) 8)[n]]:=by rw[List.getD_eq_getElem?_getD,List.getElem?_eq_getElem bz];rfl
  refine Q6U M.sat (J.lift (bv.more U)) b8 g (by omega) ac bz fun dw bx t=>?_
  have be:=M.trans t
  refine Xh ?_
  refine Q7 (fun m=>?_) (fun m=>?_)
  ·have z: ¬V7 (Q4 l) (Q4 l)[(V9 (Q4 l) 8)[n]]=0:=by simpa using m
   have c1:=X.up t
   have bw:=pc.up t
   refine U0 t.sat ?_
   (repeat refine J4 Qc ?_)
   (intros;(repeat (rename_i hx;subst hx));(try simp only[↓M2,M2,Mb,reduceIte]))
   rename_i cq a7
   refine X7 a7.sat bw rfl ?_
   refine Zp ⟨by omega,by omega⟩ ?_
   have D:(V9 (Q4 l) 8).find? (fun j=> !decide (V7 (Q4 l) ((Q4 l).getD j Cla.zero)=0))=some (V9 (Q4 l) 8)[n]:=by
    rw[List.find?_eq_some_iff_getElem]
    refine ⟨by rw[a4];simpa using z,n,a,rfl,fun j hj=>?_⟩
    have:=a5 _ (List.mem_take_iff_getElem.2 ⟨j,by omega,rfl⟩)
    rw[this];simp
   have:=C (((V9 (Q4 l) 8)[n]:Int)-8) (V7 (Q4 l) (Q4 l)[(V9 (Q4 l) 8)[n]]) cq bx (by rw[D];simp only[a4]) (be.trans a7.stp)
   exact this
  ·have hz:V7 (Q4 l) (Q4 l)[(V9 (Q4 l) 8)[n]]=0:=by simpa using m
   refine N0 ?_
   refine Y5 (by omega) a ⟨bx,be,U.more ⟨t.le⟩,fun j hj=>?_⟩
   rw[List.take_add_one,List.getElem?_eq_getElem a] at hj
   rcases List.mem_append.1 hj with hj | hj
   ·exact a5 j hj
   ·simp at hj;subst hj;rw[a4];exact hz
 ·have a: ¬n<(V9 (Q4 l) 8).length:=by simpa using hh
  rw[List.take_of_length_le (by omega)] at a5
  have D:(V9 (Q4 l) 8).find? (fun j=> !decide (V7 (Q4 l) ((Q4 l).getD j Cla.zero)=0))=none:=by
   rw[List.find?_eq_none]
   intro j hj
   rw[a5 j hj];simp
  rw[D] at h0
  exact h0 _ _ _ rfl M (J.lift (bv.more U)) b8 g)
end Go.Proofs.YtjdiakhipmggjaaGreatDoor

namespace Go.Proofs.YtjdiakhipmggjaaGreatDoor
open Go.Emb Go.RowKit Go.Kd Go.Hm
variable {w : World} {K : Value → World → Prop} {σ : Q6} {l : List Cla} {v : Value}
theorem Q8j:(I3 l).length=l.length:=by simp[I3]
theorem Q9v {i:Nat} (a:i<(I3 l).length):(I3 l)[i]=(List.range l.length).map fun j=>Xj l (Y3 l i) (Y3 l j):=by simp[I3]
theorem Sl.elB {xs:List (List Bool)} {v:Value} (h:Sl 1 Q5x σ v xs) {i:Nat} (c:i<xs.length): ∃u,Z5 σ (Vs 1 v i) [u]∧Sl 1 Q3a σ u xs[i]:=by
 obtain ⟨cs,a,d,u,rfl,b⟩:=h.el c;exact ⟨u,a,b⟩
theorem Sl.elb {xs:List Bool} {v:Value} (h:Sl 1 Q3a σ v xs) {i:Nat} (c:i<xs.length):Z5 σ (Vs 1 v i) [.bool xs[i]]:=by
 obtain ⟨cs,b,d,a⟩:=h.el c
 have a:cs=_:=a
 subst a;exact b
theorem X1Y {a b:X0} (n:X3 w σ) (t:Sl 8 V0 σ v (Q4 l)) (o:Wf l) (ok:Ok (Q4 l)) (B:(Q4 l).length≤1000) (Q:a.length≤U1) (Z:b.length≤U1) (h: ∀w' σ',Stp w σ w' σ'→K (.bool (Xr (Q4 l) a b)) w'):Q1 P F.bU [v,S a,S b] w K:=Q1b (by
 unfold Ee
 have p: ∀r,Xr (Q4 l) a b=r→K (.bool r) w:=fun r e=>by rw[←e];exact h _ _ (Stp.refl n)
 refine Dv n t Q ?_
 cases f:N1 (Q4 l) a with
 | false=>
  have O:Xr (Q4 l) a b=false:=by unfold Xr;simp[f]
  (try simp only[↓M1,M1,Mb,reduceIte])
  by_cases e:a=b
  ·have g:decide (a=b)=true:=by simpa using e
   simp only[g,↓M1,M1,Mb,reduceIte]
   refine Dv n t Q ?_
   rw[f]
   (try simp only[↓M1,M1,Mb,reduceIte])
   exact p _ O
  ·have g:decide (a=b)=false:=by simpa using e
   simp only[g,↓M1,M1,Mb,reduceIte]
   exact p _ O
 | true=>
 (try simp only[↓M1,M1,Mb,reduceIte])
 refine Dv n t Z ?_
 cases m:N1 (Q4 l) b with
 | false=>
  have O:Xr (Q4 l) a b=false:=by unfold Xr;simp[m]
  have g:decide (a=b)=false:=by
   rw[decide_eq_false_iff_not];rintro rfl;rw[f] at m;cases m
  simp only[g,↓M1,M1,Mb,reduceIte]
  exact p _ O
 | true=>
 (try simp only[↓M1,M1,Mb,reduceIte])
 by_cases e:a=b
 ·have g:decide (a=b)=true:=by simpa using e
  simp only[g,↓M1,M1,Mb,reduceIte]
  refine Dv n t Q ?_
  rw[f]
  (try simp only[↓M1,M1,Mb,reduceIte])
  exact p _ (o.sub_iff.2 ⟨f,m, .inl e⟩)
 have g:decide (a=b)=false:=by simpa using e
 simp only[g,↓M1,M1,Mb,reduceIte]
 refine Hb _ ?_
 have c:(∀(_:plain a=false∧plain b=false∧(a=H9∨(elem a≠[]∧b=J9)∨(lk (Q4 l) a≠none∧Hm.Reach (lk (Q4 l)) a b))),False)→K (.bool false) w:=fun hx=>p _ (eq_false_of_ne_true fun ht=>by
  obtain ⟨_,_,h3⟩:=o.sub_iff.1 ht
  rcases h3 with h3 | h3
  ·exact e h3
  ·exact hx h3)
 cases y:plain a with
 | true=>(try simp only[↓M1,M1,Mb,reduceIte]);exact c fun hx=>by rw[y] at hx;cases hx.1
 | false=>
 (try simp only[↓M1,M1,Mb,reduceIte])
 refine Hb _ ?_
 cases C:plain b with
 | true=>(try simp only[↓M1,M1,Mb,reduceIte]);exact c fun hx=>by rw[C] at hx;cases hx.2.1
 | false=>
 (try simp only[↓M1,M1,Mb,reduceIte])
 by_cases M:b=H9
 ·have g:decide (b=[110,117,108,108])=true:=by rw[decide_eq_true_eq];exact M
  simp only[g,↓M1,M1,Mb,reduceIte]
  refine c fun ⟨_,_,hx⟩=>?_
  rcases hx with hx | ⟨_,hx⟩ | ⟨_,hx⟩
  ·exact e (hx.trans M.symm)
  ·rw[M] at hx;exact absurd hx (by decide)
  ·obtain ⟨d,A⟩:=hx.right
   rw[M,o.none_null] at A;cases A
 have W:decide (b=[110,117,108,108])=false:=by rw[decide_eq_false_iff_not];exact M
 simp only[W,↓M1,M1,Mb,reduceIte]
 by_cases k:a=H9
 ·have g:decide (a=[110,117,108,108])=true:=by rw[decide_eq_true_eq];exact k
  simp only[g,↓M1,M1,Mb,reduceIte]
  exact p _ (o.sub_iff.2 ⟨f,m, .inr ⟨y,C, .inl k⟩⟩)
 have E:decide (a=[110,117,108,108])=false:=by rw[decide_eq_false_iff_not];exact k
 simp only[E,↓M1,M1,Mb,reduceIte]
 by_cases D:b=J9
 ·have g:decide (b=[79,98,106,101,99,116])=true:=by rw[decide_eq_true_eq];exact D
  simp only[g,↓M1,M1,Mb,reduceIte]
  exact p _ (by rw[D];exact o.sub_root f y)
 have U:decide (b=[79,98,106,101,99,116])=false:=by rw[decide_eq_false_iff_not];exact D
 simp only[U,↓M1,M1,Mb,reduceIte]
 refine I8 n t ?_
 refine I8 n t ?_
 refine K9 ?_
 rw[A0]
 cases z:Z2 (Q4 l) a with
 | none=>
  simp only[Option.isSome_none,↓M1,M1,Mb,reduceIte]
  refine c fun ⟨_,_,hx⟩=>?_
  rcases hx with hx | ⟨_,hx⟩ | ⟨hx,_⟩
  ·exact k hx
  ·exact D hx
  ·exact hx (by unfold lk;rw[z];rfl)
 | some i=>
 simp only[Option.isSome_some,↓M1,M1,Mb,reduceIte]
 cases L:Z2 (Q4 l) b with
 | none=>
  simp only[A0,Option.isSome_none,↓M1,M1,Mb,reduceIte]
  refine c fun ⟨_,_,hx⟩=>?_
  rcases hx with hx | ⟨_,hx⟩ | ⟨_,hx⟩
  ·exact k hx
  ·exact D hx
  ·obtain ⟨d,A⟩:=hx.right
   unfold lk at A;rw[L] at A;cases A
 | some j=>
 obtain ⟨hi,Y⟩:=S7 z
 obtain ⟨hj,V⟩:=S7 L
 simp only[A0,Option.isSome_some,↓M1,M1,Mb,reduceIte]
 simp only[L5]
 refine Q0D n t o.own (by omega) B ok.sm fun v1 w1 σ1 q J=>?_
 have s:i<(I3 (Q4 l)).length:=by rw[Q8j];exact hi
 refine Y0 J s ?_
 obtain ⟨u,p1,R⟩:=Sl.elB J s
 refine X7 q.sat p1 rfl ?_
 rw[Q9v s] at R
 have H:j<((List.range (Q4 l).length).map fun j=>Xj (Q4 l) (Y3 (Q4 l) i) (Y3 (Q4 l) j)).length:=by simpa using hj
 refine Y0 R H ?_
 refine X7 q.sat (Sl.elb R H) rfl ?_
 (try simp only[↓M1,M1,Mb,reduceIte])
 simp only[List.getElem_map,List.getElem_range,Y,V]
 have N:Xr (Q4 l) a b=Xj (Q4 l) a b:=by
  obtain ⟨ca,X,_⟩:=Zm z
  rw[Bool.eq_iff_iff,o.sub_class X,Jq,Q0G]
  constructor
  ·rintro (⟨hx,_⟩ | hx)
   ·exact absurd hx e
   ·exact hx
  ·exact .inr
 rw[←N]
 exact h _ _ q)
end Go.Proofs.YtjdiakhipmggjaaGreatDoor

namespace Go.Proofs.YtjdiakhipmggjaaGreatDoor
open Go.Emb Go.RowKit Go.Kd Go.Hm
variable {w : World} {K : Value → World → Prop} {σ : Q6} {l : List Cla} {v : Value}
end Go.Proofs.YtjdiakhipmggjaaGreatDoor

namespace Go.Emb
open Go.RowKit Go.Hm
def E0 (σ:Q6) (x:List Cla×Int×List Cel) (ds:List Value):Prop:= ∃b a,ds=[b,I x.2.1,a]∧Sl 8 V0 σ b x.1∧Sl 2 H0 σ a x.2.2
instance:Rep E0:=⟨fun hk ⟨lv,cv,h1,h2,h3⟩=>⟨lv,cv,h1,h2.le hk,h3.le hk⟩,fun ⟨lv,cv,h1,h2,h3⟩ u hu=>by
 rw[h1] at hu;simp at hu;rcases hu with rfl | rfl | rfl
 ·exact A7 h2
 ·rfl
 ·exact A7 h3⟩
theorem W5 {σ σ':Q6} {x:List Cla×Int×List Cel} {cs:List Value} (h:E0 σ x cs) (k:SLe σ σ'):E0 σ' x cs:=Rep.up k.le h
theorem E0.out {σ:Q6} {l:List Cla} {room:Int} {cs:List Cel} {ds:List Value} (h:E0 σ (l,room,cs) ds): ∃b a,ds=[b,I room,a]∧Sl 8 V0 σ b l∧Sl 2 H0 σ a cs:=h
end Go.Emb
namespace Go.Proofs.YtjdiakhipmggjaaGreatDoor
open Go.Emb Go.RowKit Go.Kd Go.Hm
variable {w w' : World} {K : Value → World → Prop} {σ σ' : Q6} {ds : List Value} {room : Int} {cs : List Cel} {l : List Cla}
theorem Q9L {k:X0} (Q:X3 w σ) (h: ∀w' σ',Stp w σ w' σ'→K (.agg [I (L9 k).sort,I (L9 k).n,S (L9 k).s,I (L9 k).ref].toArray) w'):Q1 P F.aQ [S k] w K:=Q00 (by
 unfold Oh
 refine M9 Q fun b w1 σ1 U r v=>?_
 have hB:=M8 U (Stp.refl Q)
 refine V8 (cells:= #[I 0,I 0,S [],I 0]) (by kernel_rfl) ?_
 refine M9 r.sat fun H w2 L B y u=>?_
 have A:=r.trans y
 have g:=M8 B r
 have m:b≠H:=by have:=v.lt;omega
 refine Nt (ds:=[I 0,I 0,S [],I 0]) u rfl rfl (by rw[List.all_toArray];exact List.all_eq_true.2 Sq) fun V N a=>?_
 have o:=N.stp A g u.1
 have c:=(v.up y).upd N m
 have j: ∀(n:Int) (e:World),Y2 L e H [I n,I 0,S [],I 0]→Y2 L e b [I 0,I 0,S [],I 0]→Stp w σ e L→(∀w' σ',Stp w σ w' σ'→K (.agg [I n,I 0,S [],I 0].toArray) w')→Q2 P T.g (.pointer (some ⟨H,0,none⟩)) e fun M w=>
  Y1 P T.g (.pointer (some ⟨b,0,none⟩)) M w fun _u w=>
  Y7 P T.g (.pointer (some ⟨b,0,none⟩)) w fun R=>K R w:=fun n e t q Y W=>
  Cb t rfl (G7 q Y hB rfl rfl Sq fun w5 C E=>V1 E rfl (W _ _ C.stp))
 have Z:decide (k=[105,110,116])=decide (k=T0):=rfl
 have O:decide (k=[98,111,111,108])=decide (k=Zz):=rfl
 have J:decide (k=[116,101,120,116])=decide (k=D2):=rfl
 unfold L9 at h
 refine U6 ?_
 refine P7 ?_
 rw[Z]
 by_cases q:k=T0
 ·simp only[if_pos q] at h
  have X:decide (k=Zz)=false:=by subst q;decide
  have D:decide (k=D2)=false:=by subst q;decide
  rw[decide_eq_true q]
  refine Z9 ?_
  refine W2 ?_
  refine Jv (i:=0) a (by simp) rfl rfl fun e p f=>?_
  intro d
  refine U6 ?_
  refine P7 ?_
  rw[O,X]
  refine Z4 ?_
  intro d
  refine U6 ?_
  refine P7 ?_
  rw[J,D]
  refine Z4 ?_
  intro d
  exact j 1 e f (c.upd p m) (p.stp o g a.1) h
 simp only[if_neg q] at h
 rw[decide_eq_false q]
 refine Z4 ?_
 intro d
 refine U6 ?_
 refine P7 ?_
 rw[O]
 by_cases t:k=Zz
 ·simp only[if_pos t] at h
  have D:decide (k=D2)=false:=by subst t;decide
  rw[decide_eq_true t]
  refine Z9 ?_
  refine W2 ?_
  refine Jv (i:=0) a (by simp) rfl rfl fun e p f=>?_
  intro d
  refine U6 ?_
  refine P7 ?_
  rw[J,D]
  refine Z4 ?_
  intro d
  exact j 2 e f (c.upd p m) (p.stp o g a.1) h
 simp only[if_neg t] at h
 rw[decide_eq_false t]
 refine Z4 ?_
 intro d
 refine U6 ?_
 refine P7 ?_
 rw[J]
 by_cases z:k=D2
 ·simp only[if_pos z] at h
  rw[decide_eq_true z]
  refine Z9 ?_
  refine W2 ?_
  refine Jv (i:=0) a (by simp) rfl rfl fun e p f=>?_
  intro d
  exact j 3 e f (c.upd p m) (p.stp o g a.1) h
 ·simp only[if_neg z] at h
  rw[decide_eq_false z]
  refine Z4 ?_
  intro d
  exact j 0 V a c o h)
theorem Q92 (p:X3 w σ) (hh:E0 σ (l,room,cs) ds) (k:0≤W1 room cs) (H:room≤1048576) (h: ∀w' σ',Stp w σ w' σ'→K (I (W1 room cs)) w'):Q1 P F.aS [.agg ds.toArray] w K:=As (by
 obtain ⟨A,E,rfl,z,m⟩:=E0.out hh
 unfold Ow
 refine Z0 p fun q w1 σ1 f j=>?_
 have c:=f.sat
 have b:=m.up f
 refine W2 ?_
 refine ld c j rfl ?_
 unfold W1 at h k
 refine E5 cs.length (fun n x w'=>w'=w1∧x=I (room-Z1 (cs.take n))) ⟨rfl,by simp[Z1]⟩ fun n x y d J i=>?_
 obtain ⟨rfl,rfl⟩:=i
 have e:Z1 cs=Z1 (cs.take n)+Z1 (cs.drop n):=by rw[←T4,List.take_append_drop]
 have s:=M0 (cs.take n)
 have t:=M0 (cs.drop n)
 refine W2 ?_
 refine ld c j rfl ?_
 refine Q8 b ?_
 refine Y9 ?_
 refine Q7 (fun g=>?_) (fun g=>?_)
 ·have a:n<cs.length:=by simpa using g
  obtain ⟨B,r,o,u⟩:=Sl.elO b a
  refine W2 ?_
  refine ld c j rfl ?_
  refine Y0 b a ?_
  refine W2 ?_
  refine ld c r rfl ?_
  refine Q8 o ?_
  have v:Z1 (cs.drop n)=(1+(cs[n].vals.length:Int))+Z1 (cs.drop (n+1)):=by
   rw[List.drop_eq_getElem_cons a];simp only[Z1,List.map_cons,List.sum_cons]
  have D:=M0 (cs.drop (n+1))
  have C:Z1 (cs.take (n+1))=Z1 (cs.take n)+(1+(cs[n].vals.length:Int)):=by
   rw[List.take_add_one,List.getElem?_eq_getElem a,T4];simp[Z1]
  refine Xu ⟨by omega,by omega⟩ ?_
  refine Zp ⟨by omega,by omega⟩ ?_
  refine N0 ?_
  refine J3 b.max a ⟨rfl,?_⟩
  congr 1;omega
 ·have a: ¬n<cs.length:=by simpa using g
  rw[List.take_of_length_le (by omega)]
  exact h _ _ f)
theorem X03 {n:X0} {g:Value} (k:X3 w σ) (d:Sl 8 V0 σ g l) (h:K (.bool (A9 l n)) w):Q1 P F.b9 [g,S n] w K:=Bs (by
 unfold Vx
 refine I8 k d ?_
 refine K9 ?_
 rw[A0]
 unfold A9 at h
 cases b:lk l n with
 | none=>
  rw[b] at h
  rw[Q0d b]
  simp only[Option.isSome_none,↓M1,M1,Mb,reduceIte]
  exact h
 | some c=>
  rw[b] at h
  obtain ⟨_,_,i,m,e⟩:=V3 b
  obtain ⟨a,f⟩:=List.getElem?_eq_some_iff.1 e
  obtain ⟨o,p,q,j,_⟩:=d.elC a
  rw[f] at j
  rw[m]
  simp only[Option.isSome_some,L5,↓M1,M1,Mb,reduceIte]
  refine Y0 d a ?_
  (try simp only[↓M1,M1,Mb,reduceIte])
  refine ld k j rfl ?_
  (try simp only[↓M1,M1,Mb,reduceIte])
  exact h)
theorem Q7t {r i:Int} (u:X3 w σ) (hh:E0 σ (l,room,cs) ds) (h: ∀w' σ',Stp w σ w' σ'→K (I (E4 cs r i)) w'):Q1 P F.aN [.agg ds.toArray,I r,I i] w K:=Pp (by
 obtain ⟨z,B,rfl,y,c⟩:=E0.out hh
 unfold Na
 refine Z0 u fun q w1 σ1 a m=>?_
 have d:=a.sat
 have g:=c.up a
 refine Y9 ?_
 unfold E4 at h
 have b:L7 cs r=false→K (I 92) w1:=fun e=>by
  have:=h _ _ a
  rw[e] at this
  exact this
 by_cases o:r<0
 ·rw[decide_eq_true o]
  (try simp only[↓M1,M1,Mb,reduceIte])
  exact b (by simp only[L7,Bool.and_eq_false_iff,decide_eq_false_iff_not];left;omega)
 rw[decide_eq_false o]
 (try simp only[↓M1,M1,Mb,reduceIte])
 refine ld d m rfl ?_
 refine Q8 g ?_
 refine K9 ?_
 (try simp only[↓M1,M1,Mb,reduceIte])
 by_cases s:(cs.length:Int)≤r
 ·rw[decide_eq_true s]
  refine Z9 ?_
  exact b (by simp only[L7,Bool.and_eq_false_iff,decide_eq_false_iff_not];right;omega)
 rw[decide_eq_false s]
 refine Z4 ?_
 have p:L7 cs r=true:=by simp only[L7,Bool.and_eq_true,decide_eq_true_eq];omega
 obtain ⟨j,rfl,k⟩:=E1.1 p
 rw[p,L4 k] at h
 obtain ⟨A,v,t,_⟩:=Sl.elO g k
 by_cases n:i<0
 ·rw[decide_eq_true n]
  (try simp only[↓M1,M1,Mb,reduceIte])
  have:=h _ _ a
  rw[if_pos rfl,if_neg (by omega)] at this
  exact this
 ·rw[decide_eq_false n]
  (try simp only[↓M1,M1,Mb,reduceIte])
  refine ld d m rfl ?_
  refine Y0 g k ?_
  (try simp only[↓M1,M1,Mb,reduceIte])
  refine ld d v rfl ?_
  refine Q8 t ?_
  refine K9 ?_
  (try simp only[↓M1,M1,Mb,reduceIte])
  have f:=h _ _ a
  refine Q7 (fun c=>?_) (fun c=>?_)
  ·have c:(cs[j].vals.length:Int)≤i:=by simpa using c
   rw[if_pos rfl,if_neg (by omega)] at f
   exact f
  ·have c: ¬(cs[j].vals.length:Int)≤i:=by simpa using c
   rw[if_pos rfl,if_pos (by omega)] at f
   exact f)
theorem X44 {r i:Int} (Q:X3 w σ) (hh:E0 σ (l,room,cs) ds) (h: ∀w' σ',Stp w σ w' σ'→K (.tuple #[.agg [I (Hj cs r i).sort,I (Hj cs r i).n,S (Hj cs r i).s,I (Hj cs r i).ref].toArray,I (E4 cs r i)]) w'):Q1 P F.bR [.agg ds.toArray,I r,I i] w K:=Q0R (by
 have z:=hh
 obtain ⟨W,Y,rfl,V,N⟩:=E0.out hh
 unfold Et
 refine Z0 Q fun q w0 σ0 k A=>?_
 refine M9 k.sat fun b w1 σ1 L a B=>?_
 have v:=k.trans a
 have hB:=M8 L k
 have t:=A.up a
 refine Y4 a.sat t rfl ?_
 refine Q7t a.sat (W5 z ⟨v.le⟩) fun U Z c=>?_
 have d:=v.trans c
 have o:=c.sat
 have u:=B.up c
 have y:=t.up c
 refine Xh ?_
 unfold Hj at h
 by_cases p:E4 cs r i=0
 ·have e:decide (E4 cs r i=0)=true:=decide_eq_true p
  rw[if_pos p,p] at h
  simp only[e,Bool.not_true,↓M1,M1,Mb,reduceIte]
  obtain ⟨j,m,rfl,rfl,D,C⟩:=Lp p
  rw[L4 D,Int.toNat_natCast] at h
  have E:=N.up d
  obtain ⟨X,R,H,_⟩:=Sl.elO E D
  obtain ⟨M,J⟩:=Sl.elV H C
  refine ld o y rfl ?_
  refine Y0 E D ?_
  (try simp only[↓M1,M1,Mb,reduceIte])
  refine ld o R rfl ?_
  refine Y0 H C ?_
  refine Y4 o M rfl ?_
  refine G7 u d hB rfl rfl (Rep.one J) fun O f g=>?_
  refine V1 g rfl ?_
  have e:cs[j].vals.getD m Val.zero=cs[j].vals[m]:=by rw[List.getD_eq_getElem?_getD,List.getElem?_eq_getElem C];rfl
  rw[e] at h
  exact h _ _ f.stp
 ·have e:decide (E4 cs r i=0)=false:=by simpa using p
  rw[if_neg p] at h
  simp only[e,Bool.not_false,↓M1,M1,Mb,reduceIte]
  refine V8 (cells:= #[I 0,I 0,S [],I 0]) (by kernel_rfl) ?_
  refine G7 (ds:=[I 0,I 0,S [],I 0]) u d hB rfl rfl Sq fun O f g=>?_
  refine V1 g rfl ?_
  exact h _ _ f.stp)
theorem X3i (u:X3 w σ) (hh:E0 σ (l,room,cs) ds) (ok:Ok l) (c:l.length≤1000) {k:X0} {r:Value} {i:Nat} (t:k.length≤U1) (j:elem k=[]→i<(Y6 l k).length)
 (h: ∀w' σ',Stp w σ w' σ'→K (S (Xl l k i)) w'):Q1 P F.bG [.agg ds.toArray, .agg [S k,r].toArray,I i] w K:=Tw (by
 obtain ⟨z,D,rfl,p,v⟩:=E0.out hh
 unfold Od
 refine Z0 u fun A w0 σ0 f m=>?_
 refine Z0 f.sat fun q w1 σ1 a n=>?_
 have b:=f.trans a
 refine W2 ?_
 refine ld (i:=0) a.sat n rfl ?_
 refine X0d k (Nat.le_trans t (by decide)) ?_
 refine Jf ?_
 unfold Xl at h
 by_cases e:elem k=[]
 ·simp only[if_pos e] at h
  rw[decide_eq_true e]
  (try simp only[↓M1,M1,Mb,reduceIte])
  refine ld (i:=0) a.sat (m.up a) rfl ?_
  refine ld (i:=0) a.sat n rfl ?_
  refine Kj a.sat (p.up b) ok.acy c ok.sm fun C y B d g=>?_
  refine Y0 g (j e) ?_
  obtain ⟨s,_⟩:=g.elF (j e)
  (try simp only[↓M1,M1,Mb,reduceIte])
  refine ld d.sat s rfl ?_
  have o:(Y6 l k).getD i Fld.zero=(Y6 l k)[i]'(j e):=by rw[List.getD_eq_getElem?_getD,List.getElem?_eq_getElem (j e)];rfl
  rw[o] at h
  exact h _ _ (b.trans d)
 ·simp only[if_neg e] at h
  rw[decide_eq_false e]
  (try simp only[↓M1,M1,Mb,reduceIte])
  exact h _ _ b)
theorem X3G {ok:X0→Bool} {b d:Int} {c:X0}:K3 ok cs ⟨0,b,c,d⟩=if b=0∧c=[]∧d=0 then H9 else []:=by
 simp[K3,Val.zero]
theorem X3L {ok:X0→Bool} {b d:Int} {c:X0}:K3 ok cs ⟨1,b,c,d⟩=if c=[]∧d=0 then T0 else []:=by
 simp[K3,Val.zero]
theorem X3s {ok:X0→Bool} {b d:Int} {c:X0}:K3 ok cs ⟨2,b,c,d⟩=if (c=[]∧d=0)∧(b=0∨b=1) then Zz else []:=by
 simp[K3,Val.zero]
theorem X43 {ok:X0→Bool} {b d:Int} {c:X0}:K3 ok cs ⟨3,b,c,d⟩=if (b=0∧d=0)∧ok c=true then D2 else []:=by
 simp[K3,Val.zero]
theorem X3v {ok:X0→Bool} {b d:Int} {c:X0}:K3 ok cs ⟨4,b,c,d⟩=if b=0∧c=[] then O6 cs d else []:=by
 simp[K3,Val.zero]
theorem X3K {ok:X0→Bool} {a b d:Int} {c:X0} (e:a≠0) (f:a≠1) (g:a≠2) (h:a≠3) (i:a≠4):K3 ok cs ⟨a,b,c,d⟩=[]:=by
 simp[K3,Val.zero,e,f,g,h,i]
set_option maxHeartbeats 2000000 in
theorem X4f {v:Val} (hs:X3 w σ) (hh:E0 σ (l,room,cs) ds) (hb:v.s.length≤U1) (h: ∀w' σ',Stp w σ w' σ'→K (S (K3 W6 cs v)) w'):Q1 P F.c4 [.agg ds.toArray, .agg [I v.sort,I v.n,S v.s,I v.ref].toArray] w K:=Q1S (by
 obtain ⟨lv,cv,rfl,hl,hc⟩:=E0.out hh
 unfold Hu
 refine Z0 hs fun q0 w0 σ0 J u=>?_
 refine Z0 J.sat fun q w1 σ1 D t=>?_
 have f:=J.trans D
 have g:=D.sat
 have u:=u.up D
 have Q:=hc.up f
 have k: ∀{W:World} {σ2:Q6} {x:X0},Stp w σ W σ2→K3 W6 cs v=x→K (S x) W:=fun hS e=>by
  have:=h _ _ hS
  rw[e] at this
  exact this
 obtain ⟨a,b,c,d⟩:=v
 simp only at hb t
 have L: ∀r,L7 cs r=false→O6 cs r=[]:=fun r e=>by unfold O6;rw[e];rfl
 refine W2 ?_
 refine ld g t rfl ?_
 refine I1 ?_
 have B: ∀{A:Value→World→Prop},(∀p:Bool,p=(decide (d=0)&&decide (c=[]))→A (.bool p) w1)→Q0 (.bool (decide (d=0))) true w1 (fieldAddr P T.g (.pointer (some q)) 2) (fun ab w=>
  Q0 (.bool (decide (d=0))) true w (Q2 P T.c ab) fun U w=>
  Q0 (.bool (decide (d=0))) true w (Q3 P .eql T.c (.tmp 11) (.const (.string ⟨#[]⟩)) U (.string ⟨#[]⟩)) fun Y w=>
  pick P (.bool (decide (d=0))) Y (.bool false) w A):=fun {A} hA=>by
  cases hd:decide (d=0) with
  | false=>(try simp only[↓M1,M1,Mb,reduceIte]);exact hA false (by simp[hd])
  | true=>
   (try simp only[↓M1,M1,Mb,reduceIte])
   refine ld g t rfl ?_
   (try simp only[↓M1,M1,Mb,reduceIte])
   exact hA _ (by simp[hd])
 refine B fun p hp=>?_
 refine Zy (fun _ w'=>Stp w σ w' σ1∧K3 W6 cs ⟨a,b,c,d⟩=[]) ?_ (fun _ d' w' hz=>k hz.1 hz.2)
 refine W2 ?_
 refine ld (i:=0) g t rfl ?_
 refine I1 ?_
 have z:(p=true)↔(c=[]∧d=0):=by rw[hp];simp[and_comm]
 have E:p=false→ ¬(c=[]∧d=0):=fun e h=>by rw[z.2 h] at e;cases e
 by_cases Z:a=0
 ·subst Z
  rw[X3G] at*
  rw[decide_eq_true rfl]
  refine Z9 ?_
  cases o:p with
  | false=>
   (try simp only[↓M1,M1,Mb,reduceIte])
   exact ⟨f,if_neg fun e=>E o e.2⟩
  | true=>
   have y:=z.1 o
   (try simp only[↓M1,M1,Mb,reduceIte])
   refine ld g t rfl ?_
   (try simp only[↓M1,M1,Mb,reduceIte])
   by_cases m:b=0
   ·rw[decide_eq_true m]
    (try simp only[↓M1,M1,Mb,reduceIte])
    exact k f (if_pos ⟨m,y⟩)
   ·rw[decide_eq_false m]
    (try simp only[↓M1,M1,Mb,reduceIte])
    exact ⟨f,if_neg fun e=>m e.1⟩
 rw[decide_eq_false Z]
 refine Z4 ?_
 refine I1 ?_
 by_cases a1:a=1
 ·subst a1
  rw[X3L] at*
  rw[decide_eq_true rfl]
  refine Z9 ?_
  cases o:p with
  | false=>exact Z4 ⟨f,if_neg (E o)⟩
  | true=>exact Z9 (k f (if_pos (z.1 o)))
 rw[decide_eq_false a1]
 refine Z4 ?_
 refine I1 ?_
 by_cases V:a=2
 ·subst V
  rw[X3s] at*
  rw[decide_eq_true rfl]
  refine Z9 ?_
  cases o:p with
  | false=>
   (try simp only[↓M1,M1,Mb,reduceIte])
   exact ⟨f,if_neg fun e=>E o e.1⟩
  | true=>
   have y:=z.1 o
   (try simp only[↓M1,M1,Mb,reduceIte])
   refine ld g t rfl ?_
   (try simp only[↓M1,M1,Mb,reduceIte])
   by_cases m:b=0
   ·rw[decide_eq_true m]
    (try simp only[↓M1,M1,Mb,reduceIte])
    exact k f (if_pos ⟨y, .inl m⟩)
   ·rw[decide_eq_false m]
    (try simp only[↓M1,M1,Mb,reduceIte])
    refine ld g t rfl ?_
    (try simp only[↓M1,M1,Mb,reduceIte])
    by_cases M:b=1
    ·rw[decide_eq_true M]
     (try simp only[↓M1,M1,Mb,reduceIte])
     exact k f (if_pos ⟨y, .inr M⟩)
    ·rw[decide_eq_false M]
     (try simp only[↓M1,M1,Mb,reduceIte])
     exact ⟨f,if_neg fun e=>e.2.elim m M⟩
 rw[decide_eq_false V]
 refine Z4 ?_
 refine I1 ?_
 by_cases X:a=3
 ·subst X
  rw[X43] at*
  rw[decide_eq_true rfl]
  refine Z9 ?_
  refine W2 ?_
  refine ld g t rfl ?_
  refine I1 ?_
  by_cases m:b=0
  case neg=>
   rw[decide_eq_false m]
   (try simp only[↓M1,M1,Mb,reduceIte])
   exact ⟨f,if_neg fun e=>m e.1.1⟩
  rw[decide_eq_true m]
  (try simp only[↓M1,M1,Mb,reduceIte])
  refine ld g t rfl ?_
  (try simp only[↓M1,M1,Mb,reduceIte])
  by_cases C:d=0
  case neg=>
   rw[decide_eq_false C]
   (try simp only[↓M1,M1,Mb,reduceIte])
   exact ⟨f,if_neg fun e=>C e.1.2⟩
  rw[decide_eq_true C]
  (try simp only[↓M1,M1,Mb,reduceIte])
  refine ld g t rfl ?_
  refine Gb X8 ?_
  refine Q52 ?_
  by_cases c0:c.length≤4096
  case neg=>
   rw[decide_eq_false (show¬(c.length:Int)≤4096 by omega)]
   (try simp only[↓M1,M1,Mb,reduceIte])
   exact ⟨f,if_neg fun e=>c0 (by have:=e.2;simp only[W6,Bool.and_eq_true,decide_eq_true_eq] at this;exact this.1)⟩
  rw[decide_eq_true (show (c.length:Int)≤4096 by omega)]
  (try simp only[↓M1,M1,Mb,reduceIte])
  refine ld g t rfl ?_
  refine Q4E hb g fun W R=>?_
  have H:=f.trans (Stp.of_below g R)
  cases hv:Lib.validD c with
  | true=>
   (try simp only[↓M1,M1,Mb,reduceIte])
   exact k H (if_pos ⟨⟨m,C⟩,by simp[W6,hv,c0]⟩)
  | false=>
   (try simp only[↓M1,M1,Mb,reduceIte])
   exact ⟨H,if_neg fun e=>by have:=e.2;simp[W6,hv] at this⟩
 rw[decide_eq_false X]
 refine Z4 ?_
 refine I1 ?_
 by_cases O:a=4
 case neg=>
  rw[decide_eq_false O]
  exact Z4 ⟨f,X3K Z a1 V X O⟩
 subst O
 rw[X3v] at*
 rw[decide_eq_true rfl]
 refine Z9 ?_
 refine W2 ?_
 refine ld g t rfl ?_
 refine I1 ?_
 by_cases m:b=0
 case neg=>
  rw[decide_eq_false m]
  (try simp only[↓M1,M1,Mb,reduceIte])
  exact ⟨f,if_neg fun e=>m e.1⟩
 rw[decide_eq_true m]
 (try simp only[↓M1,M1,Mb,reduceIte])
 refine ld g t rfl ?_
 (try simp only[↓M1,M1,Mb,reduceIte])
 by_cases c0:c=[]
 case neg=>
  rw[decide_eq_false c0]
  (try simp only[↓M1,M1,Mb,reduceIte])
  exact ⟨f,if_neg fun e=>c0 e.2⟩
 rw[decide_eq_true c0]
 (try simp only[↓M1,M1,Mb,reduceIte])
 refine ld g t rfl ?_
 refine K9 ?_
 rw[if_pos ⟨m,c0⟩] at*
 by_cases C:0≤d
 case neg=>
  rw[decide_eq_false C]
  (try simp only[↓M1,M1,Mb,reduceIte])
  exact ⟨f,L d (by simp[L7,C])⟩
 rw[decide_eq_true C]
 (try simp only[↓M1,M1,Mb,reduceIte])
 refine ld g t rfl ?_
 refine ld g u rfl ?_
 refine Q8 Q ?_
 refine Y9 ?_
 (try simp only[↓M1,M1,Mb,reduceIte])
 by_cases N:d<(cs.length:Int)
 case neg=>
  rw[decide_eq_false N]
  exact Z4 ⟨f,L d (by simp[L7,N])⟩
 rw[decide_eq_true N]
 refine Z9 ?_
 obtain ⟨j,rfl,hj⟩:=E1.1 (show L7 cs d=true by simp[L7,C,N])
 obtain ⟨vv,p1,p2,_⟩:=Sl.elO Q hj
 refine ld g u rfl ?_
 refine ld g t rfl ?_
 refine Y0 Q hj ?_
 (try simp only[↓M1,M1,Mb,reduceIte])
 refine ld g p1 rfl ?_
 exact k f (Yv hj))
end Go.Proofs.YtjdiakhipmggjaaGreatDoor

namespace Go.Emb
open Go.RowKit Go.Hm
section
variable {α : Type} {P : Program} {R R' : Q6 → α → List Value → Prop} {sz : Nat} {e : TypeId} {σ σ0 σ' : Q6} {v u : Value} {xs ys : List α} {w w0 w' : World} {K : Value → World → Prop}
theorem X0t {t B:TypeId} {s:Nat} {z:Value} {cs:List Bool} [ts:TS P t e] [tz:TZ P e sz s z] [hr:Rep R] [hr':Rep R'] (L:Stp w0 σ0 w σ) (ha:V6 w0.heap.size e sz R σ w v xs) (J:X3 w σ') (Q:Sl sz R' σ' u ys) (hR: ∀x cs,R' σ' x cs→R σ x cs) (M:(z.cells.size==sz&&decide (0<sz))=true)
 (hb:(xs.length+ys.length)*s≤140737488355328) (hm:xs.length+ys.length≤9223372036854775807)
 (h: ∀d w',w.grownBy w' v.ownBlock→Stp w0 σ0 w' σ→V6 w0.heap.size e sz R σ w' d (xs++ys)→(d.ownBlock=v.ownBlock∨ ∀k,d.ownBlock=some k→w.heap.size≤k)→K d w'):X2 P .append [t,t] B cs [v,u] w K:=by
 obtain ⟨cells,y,U,h3⟩:=ha
 obtain ⟨a,m,c,rfl,Y,V,n3,n4,n5⟩:=Q.cells J
 obtain ⟨i,O,E,D,r⟩:=tz.info
 have p: ∀d w',(Builtin.append_ #[t,t] B #[v, .slice a ys.length m]).run P w= .ok d w'→w'.ownsRow w0.heap.size e sz d (xs.length+ys.length) (cells++c)→w.grownBy w' v.ownBlock→(d.ownBlock=v.ownBlock∨d.ownBlock=some w.heap.size)→X2 P .append [t,t] B cs [v, .slice a ys.length m] w K:=by
  intro d w' A f n hat
  have q:(builtin .append #[t,t] B cs.toArray #[v, .slice a ys.length m]).run P w= .ok (.value d) w':=by
   simp[builtin,A]
  unfold X2
  rw[T7];unfold P8
  rw[q]
  refine h d w' n (Stp.turn n L fun k o=>⟨(y.lt k o).1,U k o⟩) ⟨cells++c,by rw[List.length_append];exact f,?_,?_⟩ ?_
  ·intro k o
   rcases hat with hat | hat
   ·exact U k (hat▸o)
   ·rw[hat] at o;cases o;exact L.sat.none (Nat.le_refl _)
  ·intro j x C
   by_cases X:j<xs.length
   ·rw[List.getElem?_append_left X] at C
    rw[Wv cells c xs.length j y.1 X]
    exact h3 j x C
   ·rw[List.getElem?_append_right (by omega)] at C
    have:=hR _ _ (n5 _ _ C)
    rw[show j*sz=cells.length+(j-xs.length)*sz by rw[y.1,←Nat.add_mul];congr 1;omega,List.drop_append]
    simpa [List.drop_eq_nil_of_le] using this
  ·rcases hat with hat | hat
   ·exact .inl hat
   ·right;intro k o;rw[hat] at o;cases o;exact Nat.le_refl _
 simp only[Bool.and_eq_true,beq_iff_eq,decide_eq_true_eq] at M
 cases a with
 | some b=>
  obtain ⟨d,w',g1,g2,g3,_,g5⟩:=run_append_own_at (P:=P) w w0.heap.size t B e i z sz s ts.h O r E D M.1 M.2 v xs.length cells y b ys.length m c V (n3 b rfl) n4 (by simp only[maxLen];omega) hb L.bel.size
  exact p d w' g1 g2 g3 g5
 | none=>
  have hy:ys=[]:=List.eq_nil_of_length_eq_zero (by obtain ⟨a',W,e',q1,_,q3,_⟩:=Q;injection e' with _ e2 e3;have:=Y rfl;subst e3;omega)
  have N:=Y rfl
  subst hy N
  have hn:c=[]:=List.eq_nil_of_length_eq_zero (by simpa using V)
  subst hn
  have f:=y
  rcases y.2 with ⟨rfl,h0⟩ | ⟨g,m,aa,rfl,Z,hg,H,_⟩
  ·refine p (.slice none 0 0) w ?_ (by simpa using f) (World.grownBy.refl w _) (.inl rfl)
   simp[Builtin.append_,run_underlying ts.h,sizeOf,typeInfo,O,Builtin.lenOf,Builtin.firstCells]
  ·refine p _ w ?_ (by simpa using f) (World.grownBy.refl w _) (.inl rfl)
   simp[Builtin.append_,run_underlying ts.h,sizeOf,typeInfo,O,Builtin.lenOf,Builtin.firstCells,H,storeCells]
end
def Q5V {α:Type} (c:α) (ds:List Value) (_:Q6) (x:α) (cs:List Value):Prop:=x=c∧cs=ds∧ ∀u∈ds,u.oneCell'=true
instance {α:Type} (c:α) (ds:List Value):Rep (Q5V c ds):=⟨fun _ h=>h,fun h u hu=>h.2.2 u (h.2.1▸hu)⟩
end Go.Emb
namespace Go.Proofs.YtjdiakhipmggjaaGreatDoor
open Go.Emb Go.RowKit Go.Kd Go.Hm
variable {w w' : World} {K : Value → World → Prop} {σ σ' : Q6} {ds : List Value} {room : Int} {cs : List Cel} {l : List Cla}
theorem Q74 {c:Value} (d:Sl 2 H0 σ c cs) (r:Int):(O6 cs r).length≤U1:=by
 unfold O6
 split
 ·rename_i b
  obtain ⟨i,rfl,a⟩:=E1.1 b
  rw[L4 a]
  exact (Sl.elO d a).choose_spec.2.2
 ·exact Nat.zero_le _
theorem X0G {a:Value} (b:Sl 2 H0 σ a cs) (v:Val):(K3 W6 cs v).length≤U1:=by
 unfold K3
 split
 ·decide
 split
 ·decide
 split
 ·decide
 split
 ·decide
 split
 ·exact Q74 b _
 ·exact Nat.zero_le _
theorem X2M {v:Val} {k:X0} (H:X3 w σ) (hh:E0 σ (Q4 l,room,cs) ds) (y:Wf l) (ok:Ok (Q4 l)) (f:(Q4 l).length≤1000) (A:v.s.length≤U1) (D:k.length≤U1) (h: ∀w' σ',Stp w σ w' σ'→K (.bool (C7 W6 (Q4 l) cs v k)) w'):Q1 P F.bC [.agg ds.toArray, .agg [I v.sort,I v.n,S v.s,I v.ref].toArray,S k] w K:=Ae (by
 have p:=hh
 obtain ⟨L,N,rfl,C,B⟩:=E0.out hh
 unfold Oe
 refine Z0 H fun U w0 σ0 j t=>?_
 refine Z0 j.sat fun q w1 σ1 c z=>?_
 have m:=j.trans c
 have d:=c.sat
 have g:=t.up c
 refine Y4 d g rfl ?_
 refine Y4 d z rfl ?_
 refine X4f d (W5 p ⟨m.le⟩) A fun J Q a=>?_
 have b:=m.trans a
 refine Jf ?_
 unfold C7 at h
 have o:=X0G B v
 generalize K3 W6 cs v=E at*
 by_cases e:E=[]
 ·rw[decide_eq_true e] at h⊢
  (try simp only[↓M1,M1,Mb,reduceIte])
  exact h _ _ b
 ·rw[decide_eq_false e] at h⊢
  (try simp only[↓M1,M1,Mb,reduceIte])
  refine ld (i:=0) a.sat (g.up a) rfl ?_
  refine X1Y a.sat (C.up b) y ok f o D fun M O r=>?_
  (try simp only[↓M1,M1,Mb,reduceIte])
  exact h _ _ (b.trans r))
theorem Rh {n a:Nat} {b c:Value} {e:Int} {o:List Value} {w1:World} {σ1:Q6} (r:Stp w σ w1 σ1) (g:Y2 σ1 w1 n [b,I room,c]) (f:Y2 σ1 w1 a o) (s:o.length=3) (j:w.heap.size≤a) (m:E0 σ1 (l,room,cs) [b,I room,c]) (h: ∀w' σ',Stp w σ w' σ'→E0 σ' (l,room,cs) [b,I room,c]→K (.tuple #[.agg [b,I room,c].toArray,I e]) w'):
 Q2 P T.a (.pointer (some ⟨n,0,none⟩)) w1 fun k w=>
 Y1 P T.a (.pointer (some ⟨a,0,none⟩)) k w fun _u w=>
 Y7 P T.a (.pointer (some ⟨a,0,none⟩)) w fun p=>
 K (.tuple #[p,(.int .i64 e)]) w:=
 Cb g rfl (G7 f r j s rfl (Rep.one m) fun q d i=>V1 i rfl (h q σ1 d.stp m))
set_option maxHeartbeats 1000000 in
theorem Q9a {p J b7:Nat} {Y cv x:Value} {k:X0} {vals:List Val} {zs:List Value} {w1:World} {σ1:Q6} (hS:Stp w σ w1 σ1) (N:Y2 σ1 w1 p [Y,I room,cv]) (ag:Y2 σ1 w1 J zs) (ay:Y2 σ1 w1 b7 [S k,x]) (hz:zs.length=3) (ar:w.heap.size≤p) (aw:w.heap.size≤J) (ab:p≠J) (hl:Sl 8 V0 σ1 Y l) (hc:Sl 2 H0 σ1 cv cs) (hx:Sl 4 N3 σ1 x vals) (hk:k.length≤U1) (b1:cs.length≤10000000)
 (h: ∀ae w' σ',Stp w σ w' σ'→E0 σ' (l,room,cs++[⟨k,vals⟩]) [Y,I room,ae]→K (.tuple #[.agg [Y,I room,ae].toArray,I 0]) w'):
 dr w1 fun m W=>
 Q5 m (fun z=> ∀w,W w→fieldAddr P T.a (.pointer (some ⟨p,0,none⟩)) 2 w (dk m z w)) fun z=>
 Q5 m (fun r=> ∀w,W w→buildSlice P T.f 0 [] w (dk m r w)) fun r=>
 Q5 m (fun t=> ∀g w,W w→z g w→Q2 P T.f g w (dk m t w)) fun t=>
 Q5 m (fun L=> ∀d f w,W w→r d w→t f w→X2 P .append [T.f,T.f] T.f [false,false] [d,f] w (dk m L w)) fun L=>
 Q5 m (fun s=> ∀w,W w→Q2 P T.n (.pointer (some ⟨b7,0,none⟩)) w (dk m s w)) fun s=>
 Q5 m (fun U=> ∀i w,W w→s i w→buildSlice P T.f 1 [(0,i)] w (dk m U w)) fun U=>
 ∀g d f H i Q w,W w→z g w→r d w→t f w→L H w→s i w→U Q w→
 X2 P .append [T.f,T.f] T.f [false,false] [H,Q] w fun a5 w=>
 fieldAddr P T.a (.pointer (some ⟨p,0,none⟩)) 2 w fun bc w=>
 Y1 P T.f bc a5 w fun _u w=>
 Q2 P T.a (.pointer (some ⟨p,0,none⟩)) w fun a2 w=>
 Y1 P T.a (.pointer (some ⟨J,0,none⟩)) a2 w fun _u w=>
 Y7 P T.a (.pointer (some ⟨J,0,none⟩)) w fun r0=>
 K (.tuple #[r0,(.int .i64 0)]) w:=by
 have ax:=hS.sat
 have aj:H0 σ1 ⟨k,vals⟩ [S k,x]:=⟨x,rfl,hx,hk⟩
 have bx:x.cells= #[x]:=by obtain ⟨a,c,rfl,_⟩:=hx;rfl
 have aq: ∀{w':World} {K:Value→World→Prop},Hst w1 σ1 w' σ1→K cv w'→Q2 P T.f (.pointer (some ((⟨p,0,none⟩:Addr).add 2))) w' K:=fun M hK=>Yg (N.up M.stp) rfl hK
 have a0: ∀{w':World} {K:Value→World→Prop},Hst w1 σ1 w' σ1→K (.agg [S k,x].toArray) w'→Q2 P T.n (.pointer (some ⟨b7,0,none⟩)) w' K:=fun M hK=>Cb (ay.up M.stp) rfl hK
 refine U0 ax ?_
 (repeat refine J4 Qc ?_)
 refine Q30 (R:=H0) (by decide) ?_
 refine J4 (V:=cv) (fun g w n e=>?_) ?_
 ·subst e;exact aq n (O3 rfl)
 refine Q1C (w:=w1) (σ:=σ1) (R:=H0) (sz:=2) (e:=T.n) cs (fun d f w n a7 ao=>?_) ?_
 ·obtain ⟨k1,a1,e1⟩:=a7
  subst ao
  exact X2F k1 a1 e1 (hc.up n.stp) rfl (by omega) (by omega) fun v' w' hk ha=>Q3t n hk ha
 refine J4 (V:= .agg [S k,x].toArray) (fun w n=>?_) ?_
 ·exact a0 n (O3 rfl)
 refine Wm (w:=w1) (σ:=σ1) (Φ:=fun σ' v=>Sl 2 (Q5V (⟨k,vals⟩:Cel) [S k,x]) σ' v [⟨k,vals⟩]) (fun i w n e=>?_) ?_
 ·subst e
  refine T5 (R:=Q5V (⟨k,vals⟩:Cel) [S k,x]) (sz:=2) n.sat [.agg [S k,x].toArray] [⟨k,vals⟩] rfl rfl (by simp[Value.cells]) rfl ⟨⟨rfl,rfl,Rep.one (R:=H0) aj⟩,trivial⟩ fun v w2 σ2 ba av=>Sf n ba av
 rintro g d f H i Q w2 bs rfl _ rfl ⟨a8,az⟩ rfl ⟨σ3,k3,s3⟩
 refine X0t a8 az k3.sat s3 (fun y ds hy=>by obtain ⟨rfl,rfl,_⟩:=hy;exact aj) rfl (by simp;omega) (by simp;omega) fun v3 w3 bw be O _=>?_
 have hN:Stp w1 σ1 w3 σ1:=be
 have B:=N.up hN
 have aa:=ag.up hN
 have Z:=Jl O
 refine W2 ?_
 refine Jv B (by simp) Z.1 Z.2 fun X u4 A=>?_
 have ak:=N.lt
 have ai:V6 w1.heap.size T.n 2 H0 σ1 X v3 (cs++[⟨k,vals⟩]):=O.kp (D:=fun j=>j=p) (.of_upd u4 rfl) fun j hj e=>by have:=(O.mem j hj).1;omega
 have C:=aa.upd u4 (fun e=>ab e.symm)
 have q:Stp w σ X σ1:=u4.stp (hS.trans hN) ar B.1
 have ad:X3 X σ1:=q.sat
 obtain ⟨σ5,s5,l5,f5,o5⟩:=(J7.of_acc ai).freeze ad
 have E: ∀j,j<w1.heap.size→σ5 j=σ1 j:=fun j hj=>o5 j fun e=>by have:=(ai.mem j e.symm).1;omega
 have af:Y2 σ5 X p [Y,I room,v3]:=⟨(E p ak).trans A.1,A.2⟩
 have ac:Y2 σ5 X J zs:=⟨(E J ag.lt).trans C.1,C.2⟩
 have ap:Stp w σ X σ5:=⟨q.bel,s5,fun b o e=>l5.le b o (q.le b o e),fun b n=>(E b (Nat.lt_of_lt_of_le n hS.bel.size)).trans (q.old b n)⟩
 exact Rh ap af ac hz aw ⟨Y,v3,rfl,hl.lift l5,f5⟩ fun w' σ' hk hr=>h v3 w' σ' hk hr
end Go.Proofs.YtjdiakhipmggjaaGreatDoor

namespace Go.Proofs.YtjdiakhipmggjaaGreatDoor
open Go.Emb Go.RowKit Go.Kd Go.Hm
variable {w w' : World} {K : Value → World → Prop} {σ σ' : Q6} {ds : List Value} {room : Int} {cs : List Cel} {l : List Cla}
set_option maxHeartbeats 1000000 in
theorem X0q {k:X0} (hs:X3 w σ) (hh:E0 σ (l,room,cs) ds) (ok:Ok l) (hlen:l.length≤1000) (hk:k.length≤U1) (h0:0≤W1 room cs) (h1:room≤1048576)
 (h: ∀ds' w' σ',Stp w σ w' σ'→E0 σ' (l,room,(Yq l room cs k).1) ds'→K (.tuple #[.agg ds'.toArray,I (Yq l room cs k).2]) w'):Q1 P F.be [.agg ds.toArray,S k] w K:=Ga (by
 have hcl:=K5 cs
 obtain ⟨lv,cv,rfl,hl,hc⟩:=E0.out hh
 unfold Ln
 refine Eh hs fun b0 w1 σ1 hb0 hk1 hm0=>?_
 refine M9 hk1.sat fun b4 w2 σ2 hb4 hk2 hm4=>?_
 have hS2:=hk1.trans hk2
 have hB4:=M8 hb4 hk1
 have hb04:b0≠b4:=by have:=hm0.lt;omega
 have hm02:=hm0.up hk2
 have hl2:=hl.up hS2
 have hh2:=W5 hh ⟨hS2.le⟩
 unfold W1 at h0
 refine W2 ?_
 refine Yg (i:=0) hm02 rfl ?_
 refine X03 hk2.sat hl2 ?_
 refine Wj ?_
 unfold Yq at h
 cases ho:A9 l k with
 | false=>
  rw[ho] at h
  simp only[if_pos] at h
  refine Z9 ?_
  exact Rh hS2 hm02 hm4 rfl hB4 hh2 fun w' σ' hk hr=>h _ w' σ' hk hr
 | true=>
  rw[ho] at h
  simp only[Bool.true_eq_false,if_false] at h
  refine Z4 ?_
  refine W2 ?_
  refine Yg (i:=0) hm02 rfl ?_
  refine Kj hk2.sat hl2 ok.acy hlen ok.sm fun fv w3 σ3 hk3 hf=>?_
  have hS3:=hS2.trans hk3
  have hfl:=hf.max
  have hfl2:=Q0u ok.sm ok.len k
  refine Q8 hf ?_
  refine Xu ⟨by omega,by omega⟩ ?_
  refine Cb (hm02.up hk3) rfl ?_
  refine Q92 hk3.sat (W5 hh2 ⟨hk3.le⟩) (by unfold W1;exact h0) h1 fun w4 σ4 hk4=>?_
  have hk34:=hk3.trans hk4
  have hS4:=hS3.trans hk4
  have hm04:=hm02.up hk34
  have hm44:=hm4.up hk34
  have hh4:=W5 hh2 ⟨hk34.le⟩
  have hf4:=hf.up hk4
  rw[Rm]
  by_cases hg:W1 room cs<1+((Y6 l k).length:Int)
  ·rw[if_pos hg] at h
   have e:decide (1+((Y6 l k).length:Int)>W1 room cs)=true:=decide_eq_true hg
   rw[e]
   refine Z9 ?_
   exact Rh hS4 hm04 hm44 rfl hB4 hh4 fun w' σ' hk hr=>h _ w' σ' hk hr
  rw[if_neg hg] at h
  have e:decide (1+((Y6 l k).length:Int)>W1 room cs)=false:=decide_eq_false hg
  rw[e]
  refine Z4 ?_
  unfold W1 at hg
  refine V8 (cells:= #[S k, .slice none 0 0]) (by kernel_rfl) ?_
  refine M9 hk4.sat fun b7 w5 σ5 hb7 hk5 hm7=>?_
  have hS5:=hS4.trans hk5
  have hB7:=M8 hb7 hS4
  refine Nt (ds:=[S k, .slice none 0 0]) hm7 rfl rfl (by rw[List.all_toArray];rfl) fun w6 u6 hm76=>?_
  have hS6:=u6.stp hS5 hB7 hm7.1
  have hb07:b0≠b7:=by have:=hm04.lt;omega
  have hb47:b4≠b7:=by have:=hm44.lt;omega
  have hm06:=(hm04.up hk5).upd u6 hb07
  have hm46:=(hm44.up hk5).upd u6 hb47
  have hf6:=(hf4.up hk5)
  have hc6:Sl 2 H0 σ5 cv cs:=hc.up hS5
  have hl6:Sl 8 V0 σ5 lv l:=hl.up hS5
  refine U2 (Y6 l k).length (fun n w'=> ∃σ' x,Stp w σ w' σ'∧SLe σ5 σ'∧Y2 σ' w' b0 [lv,I room,cv]∧Y2 σ' w' b4 _∧Y2 σ' w' b7 [S k,x]∧V6 w.heap.size T.g 4 N3 σ' w' x (((Y6 l k).take n).map fun f=>L9 f.kind)∧x.ownBlock≠some b0∧x.ownBlock≠some b4∧x.ownBlock≠some b7)
   ⟨σ5, .slice none 0 0,hS6,SLe.refl _,hm06,hm46,hm76,V6.nil,by simp[Value.ownBlock],by simp[Value.ownBlock],by simp[Value.ownBlock]⟩ fun n w7 d hn hinv=>?_
  obtain ⟨σ7,x,hS7,le7,hm07,hm47,hm77,ha7,hx0,hx4,hx7⟩:=hinv
  have hf7:=hf6.lift le7
  have hs7:=hS7.sat
  refine Q8 hf7 ?_
  refine Y9 ?_
  refine Q7 (fun hcc=>?_) (fun hcc=>?_)
  ·have hn':n<(Y6 l k).length:=by simpa using hcc
   obtain ⟨p1,r1⟩:=hf7.elF hn'
   have hrd: ∀{w':World} {K:Value→World→Prop},Hst w7 σ7 w' σ7→K x w'→Q2 P T.l (.pointer (some ((⟨b7,0,none⟩:Addr).add 1))) w' K:=fun hst hK=>Yg (hm77.up hst.stp) rfl hK
   refine U0 hs7 ?_
   (repeat (apply J4;(· intros;(repeat (rename_i hx;subst hx));(repeat' (first | (with_reducible exact O3 rfl) | (with_reducible exact S4 (Stp.bel (by (repeat (first | exact Stp.refl (by (first | assumption | exact Stp.sat (by assumption) | exact Hst.sat (by assumption))) | assumption | refine Stp.trans ?_ (by first | assumption | exact Hst.stp (by assumption)))))) rfl) | (with_reducible intro _) | (simp only[↓M2,M2,Mb,reduceIte]) | (with_reducible refine hrd au ?_) | (with_reducible show Q2 _ _ _ _ _;first | refine X7 aS aL aR ?_ | refine Y4 aS aL aR ?_ | refine ld aS aL aR ?_) | (with_reducible show indexAddr _ _ _ _ _ _;refine Y0 aL au ?_) | (with_reducible show X2 _ _ _ _ _ _ _ _;refine Q8 aL ?_) | (with_reducible show F5 _ _ _ _ _ _;refine J0 aR ?_) | (with_reducible show pick _ _ _ _ _ _;refine M3 ?_) | (with_reducible show Q1 _ _ _ _ _;first | refine Q9L au ?_) | (apply G8;intro hh;(try simp only[hh,reduceIte,↓M2,M2,Mb,reduceIte]))));done)))
   refine Wm (w:=w7) (σ:=σ7) (Φ:=fun σ' v=>Sl 4 N3 σ' v [L9 (Y6 l k)[n].kind]) (fun t41 w hb e=>?_) ?_
   ·subst e
    exact T5 (R:=N3) (sz:=4) hb.sat [_] [L9 (Y6 l k)[n].kind] rfl rfl (by simp[Value.cells]) rfl ⟨Fo _,trivial⟩ fun v w2 σ2 hk2 hv2=>Sf hb hk2 hv2
   rintro t34 t38 t39 t35 t40 t41 t42 w8 hb8 rfl rfl rfl rfl rfl rfl ⟨σ8,hk8,s8⟩
   refine X0t (w0:=w) (hS7.trans hb8.stp) (ha7.up hb8.stp) hk8.sat s8 (fun y ds hy=>hy) rfl (by simp;omega) (by simp;omega) fun x9 w9 hg9 hS9 ha9 hat9=>?_
   have hm08:=(hm07.up hb8.stp).turn hg9 fun e=>hx0 e.symm
   have hm48:=(hm47.up hb8.stp).turn hg9 fun e=>hx4 e.symm
   have hm78:=(hm77.up hb8.stp).turn hg9 fun e=>hx7 e.symm
   have hsz:=hb8.stp.bel.size
   have hnew: ∀b,b<w7.heap.size→x.ownBlock≠some b→x9.ownBlock≠some b:=fun b hb hxb e=>by
    rcases hat9 with e2 | e2
    ·exact hxb (e2▸e)
    ·have:=e2 b e;omega
   have hsh:=Jl ha9
   refine W2 ?_
   refine Jv hm78 (by simp) hsh.1 hsh.2 fun w10 u10 hm710=>?_
   refine N0 ?_
   have hx97:=hnew b7 hm77.lt hx7
   refine Y5 hfl hn' ⟨σ7,x9,u10.stp hS9 hB7 hm78.1,le7,hm08.upd u10 hb07,hm48.upd u10 hb47,hm710,?_,hnew b0 hm07.lt hx0,hnew b4 hm47.lt hx4,hx97⟩
   have:=ha9.kp (D:=fun j=>j=b7) (.of_upd u10 rfl) fun j hj e=>hx97 (e▸hj)
   rw[List.take_add_one,List.getElem?_eq_getElem hn',List.map_append]
   exact this
  ·have hn': ¬n<(Y6 l k).length:=by simpa using hcc
   rw[List.take_of_length_le (by omega)] at ha7
   obtain ⟨σ9,hS9,hx9,le9,o9⟩:=ha7.keep hS7
   have mk: ∀{b:Nat} {zs:List Value},Y2 σ7 w7 b zs→x.ownBlock≠some b→Y2 σ9 w7 b zs:=fun hm hne=>⟨(o9 _ fun e=>hne e.symm).trans hm.1,hm.2⟩
   have le59:SLe σ5 σ9:=le7.more ⟨le9⟩
   refine Q9a hS9 (mk hm07 hx0) (mk hm47 hx4) (mk hm77 hx7) rfl hb0 hB4 hb04 (hl6.lift le59) (hc6.lift le59) hx9 hk (by omega) fun cv' w' σ' hk' hr=>h _ w' σ' hk' hr)
set_option maxHeartbeats 1000000 in
theorem X1Z {k:X0} {n:Int} (hs:X3 w σ) (hh:E0 σ (l,room,cs) ds) (hk:k.length≤U1) (h0:0≤W1 room cs) (h1:room≤1048576)
 (h: ∀ds' w' σ',Stp w σ w' σ'→E0 σ' (l,room,(Zc l room cs k n).1) ds'→K (.tuple #[.agg ds'.toArray,I (Zc l room cs k n).2]) w'):Q1 P F.bn [.agg ds.toArray,S k,I n] w K:=Ky (by
 have hcl:=K5 cs
 have htn:=M0 cs
 obtain ⟨lv,cv,rfl,hl,hc⟩:=E0.out hh
 unfold Md
 refine Eh hs fun b0 w1 σ1 hb0 hk1 hm0=>?_
 refine M9 hk1.sat fun b4 w2 σ2 hb4 hk2 hm4=>?_
 have hS2:=hk1.trans hk2
 have hB4:=M8 hb4 hk1
 have hb04:b0≠b4:=by have:=hm0.lt;omega
 have hm02:=hm0.up hk2
 have hl2:=hl.up hS2
 have hh2:=W5 hh ⟨hS2.le⟩
 unfold W1 at h0
 unfold Zc at h
 have hbad:G0 l k=false→Q2 P T.a (.pointer (some ⟨b0,0,none⟩)) w2 fun t14 w=>
  Y1 P T.a (.pointer (some ⟨b4,0,none⟩)) t14 w fun _u w=>
  Y7 P T.a (.pointer (some ⟨b4,0,none⟩)) w fun r0=>
  K (.tuple #[r0,(.int .i64 91)]) w:=fun ho=>by
  rw[ho] at h
  simp only[if_pos] at h
  exact Rh hS2 hm02 hm4 rfl hB4 hh2 fun w' σ' hk hr=>h _ w' σ' hk hr
 refine P7 ?_
 by_cases hnull:k=H9
 ·rw[show decide (k=[110,117,108,108])=true from decide_eq_true hnull]
  (try simp only[O7,E2,S6,W3,W7,W9,M4,M5,H8,Bool.not_true,Bool.not_false])
  exact hbad (by simp[G0,hnull])
 rw[show decide (k=[110,117,108,108])=false from decide_eq_false hnull]
 (try simp only[O7,E2,S6,W3,W7,W9,M4,M5,H8,Bool.not_true,Bool.not_false])
 refine W2 ?_
 refine Yg (i:=0) hm02 rfl ?_
 refine Dv hk2.sat hl2 hk ?_
 refine Wj ?_
 cases hkm:N1 l k with
 | false=>
  (try simp only[O7,E2,S6,W3,W7,W9,M4,M5,H8,Bool.not_true,Bool.not_false])
  exact hbad (by simp[G0,hkm])
 | true=>
  (try simp only[O7,E2,S6,W3,W7,W9,M4,M5,H8,Bool.not_true,Bool.not_false])
  refine Rt k (Nat.le_trans hk (by decide)) ?_
  have hr:right k=true:=by
   have:=hkm
   simp only[N1,Bool.or_eq_true,Bool.and_eq_true,decide_eq_true_eq] at this
   rcases this with h1 | h1
   ·exact absurd h1 hnull
   ·exact h1.1
  have hdp:Yc k=(base k).2:=by unfold Yc;rw[if_pos hr]
  have hel:G0 l k=decide ((base k).2≤2):=by
   unfold G0;rw[hkm,decide_eq_false hnull,hdp];rfl
  refine Q1z ?_
  by_cases hd2:(2:Int)<((base k).2:Int)
  ·rw[decide_eq_true hd2]
   refine Z9 ?_
   exact hbad (by rw[hel,decide_eq_false_iff_not];omega)
  rw[decide_eq_false hd2]
  refine Z4 ?_
  have ho:G0 l k=true:=by rw[hel,decide_eq_true_eq];omega
  rw[ho] at h
  simp only[Bool.true_eq_false,if_false] at h
  refine Y9 ?_
  by_cases hn0:n<0
  ·rw[if_pos hn0] at h
   rw[decide_eq_true hn0]
   refine Z9 ?_
   exact Rh hS2 hm02 hm4 rfl hB4 hh2 fun w' σ' hk hr=>h _ w' σ' hk hr
  rw[if_neg hn0] at h
  rw[decide_eq_false hn0]
  refine Z4 ?_
  refine Q1z ?_
  have hbad2: ∀{w3 σ3},Stp w2 σ2 w3 σ3→W1 room cs≤n→Q2 P T.a (.pointer (some ⟨b0,0,none⟩)) w3 fun t14 w=>
   Y1 P T.a (.pointer (some ⟨b4,0,none⟩)) t14 w fun _u w=>
   Y7 P T.a (.pointer (some ⟨b4,0,none⟩)) w fun r0=>
   K (.tuple #[r0,(.int .i64 90)]) w:=fun {w3 σ3} hS hle=>by
   rw[if_pos hle] at h
   exact Rh (hS2.trans hS) (hm02.up hS) (hm4.up hS) rfl hB4 (W5 hh2 ⟨hS.le⟩) fun w' σ' hk hr=>h _ w' σ' hk hr
  by_cases hbig:(1048576:Int)<n
  ·rw[decide_eq_true hbig]
   (try simp only[O7,E2,S6,W3,W7,W9,M4,M5,H8,Bool.not_true,Bool.not_false])
   exact hbad2 (Stp.refl hk2.sat) (by unfold W1;omega)
  rw[decide_eq_false hbig]
  (try simp only[O7,E2,S6,W3,W7,W9,M4,M5,H8,Bool.not_true,Bool.not_false])
  refine Xu ⟨by omega,by omega⟩ ?_
  refine Cb hm02 rfl ?_
  refine Q92 hk2.sat hh2 (by unfold W1;exact h0) h1 fun w4 σ4 hk4=>?_
  rw[Rm]
  by_cases hg:W1 room cs≤n
  ·rw[show decide (1+n>W1 room cs)=true from decide_eq_true (by omega)]
   refine Z9 ?_
   exact hbad2 hk4 hg
  rw[if_neg hg] at h
  rw[show decide (1+n>W1 room cs)=false from decide_eq_false (by omega)]
  refine Z4 ?_
  have hS4:=hS2.trans hk4
  have hm04:=hm02.up hk4
  have hm44:=hm4.up hk4
  obtain ⟨m,rfl⟩:=Int.eq_ofNat_of_zero_le (Int.not_lt.1 hn0)
  rw[Int.toNat_natCast] at h
  unfold W1 at hg
  have hr38:=Gs hr
  refine Hy (by simp only[List.length_cons,List.length_nil];omega) ?_
  refine V8 (cells:= #[S (k++[91,93]), .slice none 0 0]) (by kernel_rfl) ?_
  refine M9 hk4.sat fun b7 w5 σ5 hb7 hk5 hm7=>?_
  have hS5:=hS4.trans hk5
  have hB7:=M8 hb7 hS4
  refine Nt (ds:=[S (k++[91,93]), .slice none 0 0]) hm7 rfl rfl (by rw[List.all_toArray];rfl) fun w6 u6 hm76=>?_
  have hS6:=u6.stp hS5 hB7 hm7.1
  have hb07:b0≠b7:=by have:=hm04.lt;omega
  have hb47:b4≠b7:=by have:=hm44.lt;omega
  have hm06:=(hm04.up hk5).upd u6 hb07
  have hm46:=(hm44.up hk5).upd u6 hb47
  have hc6:Sl 2 H0 σ5 cv cs:=hc.up hS5
  have hl6:Sl 8 V0 σ5 lv l:=hl.up hS5
  refine U2 m (fun n w'=> ∃σ' x,Stp w σ w' σ'∧SLe σ5 σ'∧Y2 σ' w' b0 [lv,I room,cv]∧Y2 σ' w' b4 _∧Y2 σ' w' b7 [S (k++[91,93]),x]∧V6 w.heap.size T.g 4 N3 σ' w' x (List.replicate n (L9 k))∧x.ownBlock≠some b0∧x.ownBlock≠some b4∧x.ownBlock≠some b7)
   ⟨σ5, .slice none 0 0,hS6,SLe.refl _,hm06,hm46,hm76,V6.nil,by simp[Value.ownBlock],by simp[Value.ownBlock],by simp[Value.ownBlock]⟩ fun n w7 d hn hinv=>?_
  obtain ⟨σ7,x,hS7,le7,hm07,hm47,hm77,ha7,hx0,hx4,hx7⟩:=hinv
  have hs7:=hS7.sat
  refine Y9 ?_
  refine Q7 (fun hcc=>?_) (fun hcc=>?_)
  ·have hn':n<m:=by simpa using hcc
   have hrd: ∀{w':World} {K:Value→World→Prop},Hst w7 σ7 w' σ7→K x w'→Q2 P T.l (.pointer (some ((⟨b7,0,none⟩:Addr).add 1))) w' K:=fun hst hK=>Yg (hm77.up hst.stp) rfl hK
   refine U0 hs7 ?_
   (repeat (apply J4;(· intros;(repeat (rename_i hx;subst hx));(repeat' (first | (with_reducible exact O3 rfl) | (with_reducible exact S4 (Stp.bel (by (repeat (first | exact Stp.refl (by (first | assumption | exact Stp.sat (by assumption) | exact Hst.sat (by assumption))) | assumption | refine Stp.trans ?_ (by first | assumption | exact Hst.stp (by assumption)))))) rfl) | (with_reducible intro _) | (simp only[↓M2,M2,Mb,reduceIte]) | (with_reducible refine hrd au ?_) | (with_reducible show Q2 _ _ _ _ _;first | refine X7 aS aL aR ?_ | refine Y4 aS aL aR ?_ | refine ld aS aL aR ?_) | (with_reducible show indexAddr _ _ _ _ _ _;refine Y0 aL au ?_) | (with_reducible show X2 _ _ _ _ _ _ _ _;refine Q8 aL ?_) | (with_reducible show F5 _ _ _ _ _ _;refine J0 aR ?_) | (with_reducible show pick _ _ _ _ _ _;refine M3 ?_) | (with_reducible show Q1 _ _ _ _ _;first | refine Q9L au ?_) | (apply G8;intro hh;(try simp only[hh,reduceIte,↓M2,M2,Mb,reduceIte]))));done)))
   refine Wm (w:=w7) (σ:=σ7) (Φ:=fun σ' v=>Sl 4 N3 σ' v [L9 k]) (fun t41 w hb e=>?_) ?_
   ·subst e
    exact T5 (R:=N3) (sz:=4) hb.sat [_] [L9 k] rfl rfl (by simp[Value.cells]) rfl ⟨Fo _,trivial⟩ fun v w2 σ2 hk2 hv2=>Sf hb hk2 hv2
   rintro t46 t47 t49 t50 w8 hb8 rfl rfl rfl ⟨σ8,hk8,s8⟩
   refine X0t (w0:=w) (hS7.trans hb8.stp) (ha7.up hb8.stp) hk8.sat s8 (fun y ds hy=>hy) rfl (by simp;omega) (by simp;omega) fun x9 w9 hg9 hS9 ha9 hat9=>?_
   have hm08:=(hm07.up hb8.stp).turn hg9 fun e=>hx0 e.symm
   have hm48:=(hm47.up hb8.stp).turn hg9 fun e=>hx4 e.symm
   have hm78:=(hm77.up hb8.stp).turn hg9 fun e=>hx7 e.symm
   have hsz:=hb8.stp.bel.size
   have hnew: ∀b,b<w7.heap.size→x.ownBlock≠some b→x9.ownBlock≠some b:=fun b hb hxb e=>by
    rcases hat9 with e2 | e2
    ·exact hxb (e2▸e)
    ·have:=e2 b e;omega
   have hsh:=Jl ha9
   refine W2 ?_
   refine Jv hm78 (by simp) hsh.1 hsh.2 fun w10 u10 hm710=>?_
   refine N0 ?_
   have hx97:=hnew b7 hm77.lt hx7
   refine Y5 (by omega) hn' ⟨σ7,x9,u10.stp hS9 hB7 hm78.1,le7,hm08.upd u10 hb07,hm48.upd u10 hb47,hm710,?_,hnew b0 hm07.lt hx0,hnew b4 hm47.lt hx4,hx97⟩
   have:=ha9.kp (D:=fun j=>j=b7) (.of_upd u10 rfl) fun j hj e=>hx97 (e▸hj)
   rw[List.replicate_succ']
   exact this
  ·have hn': ¬n<m:=by simpa using hcc
   have hnm:n=m:=by omega
   subst hnm
   obtain ⟨σ9,hS9,hx9,le9,o9⟩:=ha7.keep hS7
   have mk: ∀{b:Nat} {zs:List Value},Y2 σ7 w7 b zs→x.ownBlock≠some b→Y2 σ9 w7 b zs:=fun hm hne=>⟨(o9 _ fun e=>hne e.symm).trans hm.1,hm.2⟩
   have le59:SLe σ5 σ9:=le7.more ⟨le9⟩
   refine Q9a hS9 (mk hm07 hx0) (mk hm47 hx4) (mk hm77 hx7) rfl hb0 hB4 hb04 (hl6.lift le59) (hc6.lift le59) hx9 (Nat.le_trans (show (k++[91,93]).length≤40 by simp only[List.length_append,List.length_cons,List.length_nil];omega) (by decide)) (by omega) fun cv' w' σ' hk' hr=>h _ w' σ' hk' hr)
end Go.Proofs.YtjdiakhipmggjaaGreatDoor

namespace Go.Emb
open Go.RowKit Go.Hm
section
variable {α : Type} {P : Program} {R : Q6 → α → List Value → Prop} {B sz : Nat} {e : TypeId} {σ σ0 : Q6} {v u : Value} {xs : List α} {w w0 w' : World} {K : Value → World → Prop}
theorem X1k {t:TypeId} {b:Nat} {z:Value} [TS P t e] [TZ P e sz b z] (h:J7 B e sz R σ w v xs) {n:Nat} (p:n<xs.length) (f:K (.pointer (some (Vs sz v n))) w):indexAddr P t v (I n) w K:=by
 obtain ⟨a,d,rfl,m,o,c,k⟩:=h
 obtain ⟨g,j,i,rfl,q⟩:=k (by omega)
 rw[Ss (by omega) (by omega)]
 simpa [Vs] using f
theorem J7.elQ (h:J7 B e sz R σ w v xs) {n:Nat} (o:n<xs.length): ∃cs,cs.length=sz∧R σ xs[n] cs∧ ∀j u,cs[j]? =some u→w.cell? ((Vs sz v n).add j)=some u:=by
 obtain ⟨a,d,rfl,s,r,p,i⟩:=h
 obtain ⟨g,b,f,rfl,q,t,k,y,m⟩:=i (by omega)
 have hh:n*sz+sz≤d*sz:=by rw[←Nat.succ_mul];exact Nat.mul_le_mul_right _ (by omega)
 refine ⟨(f.toList.drop (b+n*sz)).take sz,by rw[List.length_take,List.length_drop,Array.length_toList];omega,m n _ (by simp[o]),fun j u c=>?_⟩
 rw[List.getElem?_take] at c
 split at c
 ·rw[List.getElem?_drop] at c
  have e:Vs sz (.slice (some ⟨g,b,none⟩) xs.length d) n=(⟨g,b,none⟩:Addr).add (n*sz):=rfl
  rw[e]
  unfold World.cell?
  rw[S9,S9,Qe,Qe,K1 (K1 rfl _)]
  simp only[k]
  simpa using c
 ·cases c
theorem X4a {t:TypeId} {c:Nat} {z:Value} [tz:TZ P t 1 c z] {b i:Nat} {cs:List Value} {v:Value} (d:w.heap[b]? =some (.cells cs.toArray e (0,0))) (k:i<cs.length) (f:v.cells= #[v]) (j:v.oneCell'=true)
 (h: ∀w',Upd w b w'→w'.heap[b]? =some (.cells (cs.set i v).toArray e (0,0))→K undef w'):Y1 P t (.pointer (some ((⟨b,0,none⟩:Addr).add i))) v w K:=by
 unfold Y1
 have a:(⟨b,0,none⟩:Addr).add i=⟨b,i,none⟩:=by unfold Addr.add;split<;>simp_all
 have:=run_storeCells_at P b i e [v] 0 cs.toArray w d (by simp;omega) (by simpa using j)
 simp only[Nat.add_zero] at this
 obtain ⟨g,hh⟩:=Uv (cs:=(cs.set i v).toArray) d
 have m:(List.take i cs.toArray.toList++[v]++List.drop (i+[v].length) cs.toArray.toList).toArray=(cs.set i v).toArray:=by
  rw[←Q7K k];simp
 rw[m] at this
 rw[Lc (w':=w.setRow b (cs.set i v).toArray) (by simp[Instr.storeAt,Instr.sureAddr,a,storeVar,L3 tz,f,this])]
 exact h _ g hh
theorem X3c {t:TypeId} {C n c:Nat} {z:Value} {x:α} [tz:TZ P t 1 C z] (W:Stp w0 σ0 w σ) (M:J7 w0.heap.size e sz R σ w v xs) (hn:n<xs.length) (hc:c<sz) (N:u.cells= #[u]) (Z:u.oneCell'=true) (O: ∀cs,cs.length=sz→R σ xs[n] cs→R σ x (cs.set c u))
 (h: ∀w',Kpt (fun k=>v.ownBlock=some k) w w'→Stp w0 σ0 w' σ→J7 w0.heap.size e sz R σ w' v (xs.set n x)→K undef w'):Y1 P t (.pointer (some ((Vs sz v n).add c))) u w K:=by
 obtain ⟨a,f,rfl,c1,c2,i,X⟩:=M
 obtain ⟨g,d,m,rfl,E,D,H,q4,J⟩:=X (by omega)
 have hh:n*sz+sz≤f*sz:=by rw[←Nat.succ_mul];exact Nat.mul_le_mul_right _ (by omega)
 have hm:Y2 σ w g m.toList:=⟨D,e,by simpa using H⟩
 have V:=Array.length_toList (xs:=m)
 have U:(Vs sz (.slice (some ⟨g,d,none⟩) xs.length f) n).add c=(⟨g,0,none⟩:Addr).add (d+n*sz+c):=by
  simp only[Vs,Q3L]
  unfold Addr.add
  split<;>split<;>simp_all<;>omega
 rw[U]
 refine X4a (e:=e) (by simpa using H) (by omega) N Z fun w' A Y=>?_
 refine h w' (Kpt.of_upd A rfl) (A.stp W E D) ⟨_,f,by rw[List.length_set],by rw[List.length_set];exact c1,c2,fun b q=>⟨(i b q).1,(i b q).2.1,by rw[A.size];exact (i b q).2.2.1,(i b q).2.2.2⟩,fun _=>⟨g,d,_,rfl,E,D,Y,by simp;omega,fun j y p=>?_⟩⟩
 rw[List.toList_toArray]
 have o:j<xs.length:=by have:=(List.getElem?_eq_some_iff.1 p).1;simpa using this
 have Q:j*sz+sz≤f*sz:=by rw[←Nat.succ_mul];exact Nat.mul_le_mul_right _ (by omega)
 rw[List.drop_set]
 by_cases L:j=n
 ·subst L
  rw[List.getElem?_set_self o] at p
  cases p
  rw[if_neg (by omega),List.take_set,show d+j*sz+c-(d+j*sz)=c by omega]
  exact O _ (by rw[List.length_take,List.length_drop];omega) (J j _ (by simp[o]))
 ·rw[List.getElem?_set_ne (by omega)] at p
  have:=J j y p
  rcases Nat.lt_or_gt_of_ne L with r | hgt
  ·have s:j*sz+sz≤n*sz:=by rw[←Nat.succ_mul];exact Nat.mul_le_mul_right _ r
   rw[if_neg (by omega),List.take_set,List.set_eq_of_length_le (by rw[List.length_take];omega)]
   exact this
  ·have s:n*sz+sz≤j*sz:=by rw[←Nat.succ_mul];exact Nat.mul_le_mul_right _ hgt
   rw[if_pos (by omega)]
   exact this
end
end Go.Emb
namespace Go.Proofs.YtjdiakhipmggjaaGreatDoor
open Go.Emb Go.RowKit Go.Kd Go.Hm
variable {w w' : World} {K : Value → World → Prop} {σ σ' : Q6} {ds : List Value} {room : Int} {cs : List Cel} {l : List Cla}
theorem Q5h (b:Z1 cs≤1048576) {j:Nat} (a:j<cs.length):(cs[j].vals.length:Int)≤1048576:=by
 have e:Z1 cs=Z1 (cs.take j)+Z1 (cs.drop j):=by rw[←T4,List.take_append_drop]
 have f:Z1 (cs.drop j)=(1+(cs[j].vals.length:Int))+Z1 (cs.drop (j+1)):=by
  rw[List.drop_eq_getElem_cons a];simp only[Z1,List.map_cons,List.sum_cons]
 have c:=M0 (cs.take j)
 have d:=M0 (cs.drop (j+1))
 omega
theorem X3X {f i:Nat} {p cv x:Value} {n:List Cel} {X:List Value} {w0 w1:World} {σ0 σ1:Q6} (hS:Stp w σ w0 σ0) (Q:Stp w0 σ0 w1 σ1) (y:Y2 σ1 w1 f [p,I room,cv]) (O:Y2 σ1 w1 i X) (hz:X.length=3) (N:f<w0.heap.size) (J:i<w0.heap.size) (L:w.heap.size≤f) (V:w.heap.size≤i) (r:f≠i) (hl:Sl 8 V0 σ1 p l) (M:J7 w0.heap.size T.n 2 H0 σ1 w1 x n)
 (h: ∀z w' σ',Stp w σ w' σ'→E0 σ' (l,room,n) [p,I room,z]→K (.tuple #[.agg [p,I room,z].toArray,I 0]) w'):
 Y1 P T.f (.pointer (some ((⟨f,0,none⟩:Addr).add 2))) x w1 fun _u w=>
 Q2 P T.a (.pointer (some ⟨f,0,none⟩)) w fun W w=>
 Y1 P T.a (.pointer (some ⟨i,0,none⟩)) W w fun _u w=>
 Y7 P T.a (.pointer (some ⟨i,0,none⟩)) w fun r0=>
 K (.tuple #[r0,(.int .i64 0)]) w:=by
 have q:x.cells= #[x]∧x.oneCell'=true:=by obtain ⟨a,c,rfl,_⟩:=M;exact ⟨rfl,rfl⟩
 refine Jv y (by simp) q.1 q.2 fun t U g=>?_
 have C:J7 w0.heap.size T.n 2 H0 σ1 t x n:=M.kp (D:=fun j=>j=f) (.of_upd U rfl) fun j hj e=>by have:=(M.mem hj).1;omega
 have k:=O.upd U (fun e=>r e.symm)
 have d:Stp w σ t σ1:=U.stp (hS.trans Q) L y.1
 obtain ⟨E,s5,Y,f5,o5⟩:=C.freeze d.sat
 have m: ∀j,j<w0.heap.size→E j=σ1 j:=fun j hj=>o5 j fun e=>by have:=(C.mem e.symm).1;omega
 have A:Y2 E t f [p,I room,x]:=⟨(m f N).trans g.1,g.2⟩
 have s:Y2 E t i X:=⟨(m i J).trans k.1,k.2⟩
 have H:Stp w σ t E:=⟨d.bel,s5,fun b o e=>Y.le b o (d.le b o e),fun b Z=>(m b (Nat.lt_of_lt_of_le Z hS.bel.size)).trans (d.old b Z)⟩
 exact Rh H A s hz V ⟨p,x,rfl,hl.lift Y,f5⟩ fun w' σ' Q hr=>h x w' σ' Q hr
set_option maxHeartbeats 2000000 in
theorem X3x {r i:Int} {v:Val} (hs:X3 w σ) (hh:E0 σ (Q4 l,room,cs) ds) (wf:Wf l) (ok:Ok (Q4 l)) (hlen:(Q4 l).length≤1000) (good: ∀c∈cs,GoodC W6 (Q4 l) cs c) (hl1:Z1 cs≤1048576) (hv:N3 σ v [I v.sort,I v.n,S v.s,I v.ref])
 (h: ∀ds' w' σ',Stp w σ w' σ'→E0 σ' (Q4 l,room,(H2 W6 (Q4 l) cs r i v).1) ds'→K (.tuple #[.agg ds'.toArray,I (H2 W6 (Q4 l) cs r i v).2]) w'):Q1 P F.bQ [.agg ds.toArray,I r,I i, .agg [I v.sort,I v.n,S v.s,I v.ref].toArray] w K:=Q0e (by
 have hcl:=K5 cs
 obtain ⟨lv,cv,rfl,hl,hc⟩:=E0.out hh
 unfold Ep
 refine Eh hs fun b0 w1 σ1 hb0 hk1 hm0=>?_
 refine Z0 hk1.sat fun q w2 σ2 hk2 hq=>?_
 have hS2:=hk1.trans hk2
 refine M9 hk2.sat fun b4 w3 σ3 hb4 hk3 hm4=>?_
 have hS3:=hS2.trans hk3
 have hB4:=M8 hb4 hS2
 have hm02:=hm0.up hk2
 have hb04:b0≠b4:=by have:=hm02.lt;omega
 have hm03:=hm02.up hk3
 have hh3:=W5 hh ⟨hS3.le⟩
 have hq3:=hq.up hk3
 refine Cb hm03 rfl ?_
 refine Q7t hk3.sat hh3 fun w4 σ4 hk4=>?_
 have hS4:=hS3.trans hk4
 have hm04:=hm03.up hk4
 have hm44:=hm4.up hk4
 have hh4:=W5 hh3 ⟨hk4.le⟩
 have hq4:=hq3.up hk4
 unfold H2 at h
 refine Xh ?_
 by_cases h0:E4 cs r i=0
 case neg=>
  rw[decide_eq_false h0]
  rw[if_pos h0] at h
  refine Z9 ?_
  exact Rh hS4 hm04 hm44 rfl hB4 hh4 fun w' σ' hk hr=>h _ w' σ' hk hr
 rw[decide_eq_true h0]
 rw[if_neg (fun hn=>hn h0)] at h
 refine Z4 ?_
 obtain ⟨j,m,rfl,rfl,hj,hm⟩:=Lp h0
 rw[L4 hj,Int.toNat_natCast] at h
 have hc4:=hc.up hS4
 obtain ⟨vv,p1,p2,p3⟩:=Sl.elO hc4 hj
 have hgc:=good cs[j] (List.getElem_mem hj)
 have hif:elem cs[j].kind=[]→m<(Y6 (Q4 l) cs[j].kind).length:=fun e=>by
  rcases hgc.is with h | h
  ·exact absurd e h
  ·rw[←h.2];exact hm
 have hs4:=hk4.sat
 have hr0: ∀{w':World} {K:Value→World→Prop},Hst w4 σ4 w' σ4→K (.agg [lv,I room,cv].toArray) w'→Q2 P T.a (.pointer (some ⟨b0,0,none⟩)) w' K:=fun hst hK=>Cb (hm04.up hst.stp) rfl hK
 have hr1: ∀{w':World} {K:Value→World→Prop},Hst w4 σ4 w' σ4→K cv w'→Q2 P T.f (.pointer (some ((⟨b0,0,none⟩:Addr).add 2))) w' K:=fun hst hK=>Yg (hm04.up hst.stp) rfl hK
 refine U0 hs4 ?_
 (repeat (apply J4;(· intros;(repeat (rename_i hx;subst hx));(repeat' (first | (with_reducible exact O3 rfl) | (with_reducible exact S4 (Stp.bel (by (repeat (first | exact Stp.refl (by (first | assumption | exact Stp.sat (by assumption) | exact Hst.sat (by assumption))) | assumption | refine Stp.trans ?_ (by first | assumption | exact Hst.stp (by assumption)))))) rfl) | (with_reducible intro _) | (simp only[↓M2,M2,Mb,reduceIte]) | (with_reducible refine hr0 au ?_) | (with_reducible refine hr1 au ?_) | (with_reducible show Q2 _ _ _ _ _;first | refine X7 aS aL aR ?_ | refine Y4 aS aL aR ?_ | refine ld aS aL aR ?_) | (with_reducible show indexAddr _ _ _ _ _ _;refine Y0 aL au ?_) | (with_reducible show X2 _ _ _ _ _ _ _ _;refine Q8 aL ?_) | (with_reducible show F5 _ _ _ _ _ _;refine J0 aR ?_) | (with_reducible show pick _ _ _ _ _ _;refine M3 ?_) | (with_reducible show Q1 _ _ _ _ _;first | refine X3i au au au au au au ?_) | (apply G8;intro hh;(try simp only[hh,reduceIte,↓M2,M2,Mb,reduceIte]))));done)))
 (intros;(repeat (rename_i hx;subst hx)))
 rename_i w5 hb5
 have hS5:=hS4.trans hb5.stp
 refine X2M hb5.sat hh4 wf ok hlen hv.2.2.2.1 (Q2F ok p3 m) fun wA σA hkA=>?_
 have hk4A:=hb5.stp.trans hkA
 have hSA:=hS4.trans hk4A
 have hm0A:=hm04.up hk4A
 have hm4A:=hm44.up hk4A
 have hhA:=W5 hh4 ⟨hk4A.le⟩
 have hqA:=hq4.up hk4A
 have hsA:=hkA.sat
 refine Wj ?_
 cases hf:C7 W6 (Q4 l) cs v (Xl (Q4 l) cs[j].kind m) with
 | false=>
  rw[hf] at h
  simp only[Bool.false_eq_true,if_false] at h
  refine Z9 ?_
  exact Rh hSA hm0A hm4A rfl hB4 hhA fun w' σ' hk hr=>h _ w' σ' hk hr
 | true=>
  rw[hf] at h
  simp only[if_true] at h
  refine Z4 ?_
  have hcA:=hc.up hSA
  have hlA:=hl.up hSA
  have hvl:=Q5h hl1 hj
  refine Ej (R:=H0) (e:=T.n) (Stp.refl hsA) (by decide) fun x1 wA1 hkA1 ha1 _=>?_
  refine W2 ?_
  refine Yg (hm0A.up hkA1) rfl ?_
  refine Wh hkA1 ha1 (hcA.up hkA1) rfl (by simp;omega) (by simp;omega) fun x2 wB _ hkB ha2 _=>?_
  rw[List.nil_append] at ha2
  have hsB:=hkB.sat
  refine Ej (R:=N3) (e:=T.g) (Stp.refl hsB) (by decide) fun y1 wB1 hkB1 hy1 _=>?_
  have hq2:=J7.of_acc (ha2.up hkB1)
  refine X1k hq2 hj ?_
  obtain ⟨cs5,hl5,⟨vv5,rfl,p5,_⟩,hcell⟩:=hq2.elQ hj
  refine W2 ?_
  refine Qf (hcell 1 vv5 rfl) ?_
  refine Wh hkB1 hy1 p5 rfl (by simp;omega) (by simp;omega) fun y2 wB2 _ hkB2 hy2 _=>?_
  rw[List.nil_append] at hy2
  refine Y4 hkB2.sat ((hqA.up hkB).up hkB2) rfl ?_
  refine Q3o (x:=v) hkB2 (J7.of_acc hy2) hm rfl (show N3 σA v _ from hv) (Rep.one (R:=N3) (σ:=σA) hv) fun p u w6 _ hb6 hy6=>?_
  obtain ⟨σ7,hk7,hs7,le7,_⟩:=hy6.keep hb6.stp
  have hkA7:=hkB.trans hk7
  have hq7:=J7.of_acc (ha2.up hk7)
  refine X1k hq7 hj ?_
  refine W2 ?_
  have hysh:y2.cells= #[y2]∧y2.oneCell'=true:=Jl hy2
  refine X3c (x:=(⟨cs[j].kind,cs[j].vals.set m v⟩:Cel)) hkA7 hq7 hj (by decide) hysh.1 hysh.2 (fun es _ hes=>by
   obtain ⟨v0,rfl,_,hkl⟩:=hes
   exact ⟨y2,rfl,hs7,hkl⟩) fun w8 _ hk8 hq8=>?_
  refine W2 ?_
  have hsv:B8 cs j m v=cs.set j ⟨cs[j].kind,cs[j].vals.set m v⟩:=by unfold B8;rw[L4 hj,Int.toNat_natCast,Int.toNat_natCast]
  rw[hsv] at h
  exact X3X hSA hk8 (hm0A.up hk8) (hm4A.up hk8) rfl hm0A.lt hm4A.lt hb0 hB4 hb04 (hlA.up hk8) hq8 fun cv' w' σ' hk hr=>h _ w' σ' hk hr)
end Go.Proofs.YtjdiakhipmggjaaGreatDoor

namespace Go.Proofs.YtjdiakhipmggjaaGreatDoor
open Go.Emb Go.RowKit Go.Kd Go.Hm
variable {w w' : World} {K : Value → World → Prop} {σ σ' : Q6} {ds : List Value} {room : Int} {cs : List Cel} {l : List Cla}
theorem Q6b {m a:Nat} {b c:Value} {n:List Value} {w1:World} {σ1:Q6} (q:Stp w σ w1 σ1) (f:Y2 σ1 w1 m [b,I room,c]) (e:Y2 σ1 w1 a n) (r:n.length=3) (i:w.heap.size≤a) (k:E0 σ1 (l,room,cs) [b,I room,c]) (h: ∀w' σ',Stp w σ w' σ'→E0 σ' (l,room,cs) [b,I room,c]→K (.agg [b,I room,c].toArray) w'):
 Q2 P T.a (.pointer (some ⟨m,0,none⟩)) w1 fun j w=>
 Y1 P T.a (.pointer (some ⟨a,0,none⟩)) j w fun _u w=>
 Y7 P T.a (.pointer (some ⟨a,0,none⟩)) w fun o=>
 K o w:=
 Cb f rfl (G7 e q i r rfl (Rep.one k) fun p d g=>V1 g rfl (h p σ1 d.stp k))
set_option maxHeartbeats 2000000 in
theorem X45 {n:Int} (hs:X3 w σ) (hh:E0 σ (l,room,cs) ds) (bh:Z1 cs≤1048576) (hn:Yw n)
 (h: ∀am w' σ',Stp w σ w' σ'→E0 σ' (l,room,Sr cs n) am→K (.agg am.toArray) w'):Q1 P F.bS [.agg ds.toArray,I n] w K:=Q0q (by
 have ca:=K5 cs
 obtain ⟨lv,cv,rfl,hl,hc⟩:=E0.out hh
 unfold Eb
 refine Eh hs fun O w1 σ1 bo Z an=>?_
 refine M9 Z.sat fun b4 w2 σ2 bm X L=>?_
 have be:=Z.trans X
 have V:=M8 bm Z
 have ak:O≠b4:=by have:=an.lt;omega
 have aq:=an.up X
 have bn:=X.sat
 refine Zy (fun z w'=>z=I (max n 0)∧w'=w2) ?_ ?_
 ·refine Y9 ?_
  by_cases e:n<0
  ·rw[decide_eq_true e]
   exact Z9 ⟨by rw[show max n 0=0 by omega],rfl⟩
  ·rw[decide_eq_false e]
   exact Z4 ⟨by rw[show max n 0=n by omega],rfl⟩
 rintro z d0 w3 ⟨rfl,rfl⟩
 unfold Sr at h
 obtain ⟨m,ag⟩:=Int.eq_ofNat_of_zero_le (show 0≤max n 0 by omega)
 rw[ag,Int.toNat_natCast] at h
 rw[ag]
 have cc:(m:Int)≤9223372036854775807:=by have:=hn.2;omega
 refine U2 (min m cs.length) (fun i w'=> ∃σ',Stp w3 σ2 w' σ'∧(cs.take i).any (fun c=>c.vals.any (C6 m))=false) ⟨σ2,Stp.refl bn,rfl⟩ fun i w4 d hi u=>?_
 obtain ⟨σ4,q,ac⟩:=u
 have a:=aq.up q
 have s:=be.trans q
 have C:=hc.up s
 refine Y9 ?_
 have ab: ¬i<min m cs.length→(cs.take m).any (fun c=>c.vals.any (C6 m))=false∧(m<cs.length→i=m):=fun aj=>by
  by_cases a8:m≤cs.length
  ·have:i=m:=by omega
   subst this;exact ⟨ac,fun _=>rfl⟩
  ·have e:cs.take m=cs.take i:=by rw[List.take_of_length_le (by omega),List.take_of_length_le (by omega)]
   rw[e];exact ⟨ac,fun h=>by omega⟩
 have M: ¬i<min m cs.length→jn (α:=Unit) w4 (fun ar w=>
  fieldAddr P T.a (.pointer (some ⟨O,0,none⟩)) 2 w fun a6 w=>
  Q2 P T.f a6 w fun bp w=>
  X2 P .len [T.f] T.e [false] [bp] w fun bl w=>
  Q3 P .lss T.e (.tmp 52) (.tmp 55) (I (m:Int)) bl w fun a9 w=>
  X1 a9 (
   buildSlice P T.f 0 [] w fun a5 w=>
   fieldAddr P T.a (.pointer (some ⟨O,0,none⟩)) 2 w fun a2 w=>
   Q2 P T.f a2 w fun bj w=>
   S1 P T.f bj none (some (I (m:Int))) none w fun bi w=>
   X2 P .append [T.f,T.f] T.f [false,false] [a5,bi] w fun bb w=>
   fieldAddr P T.a (.pointer (some ⟨O,0,none⟩)) 2 w fun bg w=>
   Y1 P T.f bg bb w fun _u w=>
   ar () w) (
   ar () w)) fun ce d_ w=>
  Q2 P T.a (.pointer (some ⟨O,0,none⟩)) w fun a4 w=>
  Y1 P T.a (.pointer (some ⟨b4,0,none⟩)) a4 w fun _u w=>
  Y7 P T.a (.pointer (some ⟨b4,0,none⟩)) w fun r0=>
  K r0 w:=fun aj=>by
  obtain ⟨v,_⟩:=ab aj
  rw[if_neg (by rw[v];simp)] at h
  refine U6 ?_
  refine W2 ?_
  refine Yg a rfl ?_
  refine Q8 C ?_
  refine Y9 ?_
  by_cases a8:m<cs.length
  ·rw[decide_eq_true (show (m:Int)<(cs.length:Int) by omega)]
   refine Z9 ?_
   have a1:=q.sat
   refine Ej (R:=H0) (e:=T.n) (Stp.refl a1) (by decide) fun x1 w5 f ba _=>?_
   refine W2 ?_
   refine Yg (a.up f) rfl ?_
   refine Ec (C.up f) none (some (I m)) 0 m (.inl ⟨rfl,rfl⟩) (.inr rfl) (Nat.zero_le _) (by omega) fun v3 ah=>?_
   rw[List.drop_zero,Nat.sub_zero] at ah
   refine Wh f ba ah rfl (by simp;omega) (by simp;omega) fun x2 w6 _ g E _=>?_
   rw[List.nil_append] at E
   have af:=Jl E
   have U:=a.up g
   refine W2 ?_
   refine Jv U (by simp) af.1 af.2 fun w7 u7 Q=>?_
   intro d
   have ao:J7 w4.heap.size T.n 2 H0 σ4 w7 x2 (cs.take m):=(J7.of_acc E).kp (D:=fun j=>j=O) (.of_upd u7 rfl) fun j hj e=>by have:=(E.mem j hj).1;have:=a.lt;omega
   have N:=((L.up q).up g).upd u7 (fun e=>ak e.symm)
   have J:Stp w σ w7 σ4:=u7.stp (s.trans g) bo U.1
   obtain ⟨σ8,s8,l8,f8,o8⟩:=ao.freeze J.sat
   have Y: ∀j,j<w4.heap.size→σ8 j=σ4 j:=fun j hj=>o8 j fun e=>by have:=(ao.mem e.symm).1;omega
   have bd:Stp w σ w7 σ8:=⟨J.bel,s8,fun b o e=>l8.le b o (J.le b o e),fun b hb=>(Y b (Nat.lt_of_lt_of_le hb s.bel.size)).trans (J.old b hb)⟩
   exact Q6b bd (cs:=cs.take m) (l:=l) (show Y2 σ8 w7 O [lv,I room,x2] from ⟨(Y O a.lt).trans Q.1,Q.2⟩) ⟨(Y b4 (L.up q).lt).trans N.1,N.2⟩ rfl V ⟨lv,x2,rfl,(hl.up s).lift l8,f8⟩ fun w' σ' hk hr=>h _ w' σ' hk hr
  ·rw[decide_eq_false (show¬(m:Int)<(cs.length:Int) by omega)]
   refine Z4 ?_
   intro d
   rw[List.take_of_length_le (by omega)] at h
   exact Q6b s a (L.up q) rfl V (W5 hh ⟨s.le⟩) fun w' σ' hk hr=>h _ w' σ' hk hr
 by_cases bz:i<m
 case neg=>
  rw[decide_eq_false (show¬(i:Int)<(m:Int) by omega)]
  (try simp only[O7,E2,S6,W3,W7,W9,M4,M5,H8,Bool.not_true,Bool.not_false])
  exact M (by omega)
 rw[decide_eq_true (show (i:Int)<(m:Int) by omega)]
 (try simp only[O7,E2,S6,W3,W7,W9,M4,M5,H8,Bool.not_true,Bool.not_false])
 refine W2 ?_
 refine Yg a rfl ?_
 refine Q8 C ?_
 refine Y9 ?_
 by_cases t:i<cs.length
 case neg=>
  rw[decide_eq_false (show¬(i:Int)<(cs.length:Int) by omega)]
  refine Z4 ?_
  exact M (by omega)
 rw[decide_eq_true (show (i:Int)<(cs.length:Int) by omega)]
 refine Z9 ?_
 have ci:=Q5h bh t
 refine U2 cs[i].vals.length (fun k w'=> ∃σ',Stp w4 σ4 w' σ'∧(cs[i].vals.take k).any (C6 m)=false) ⟨σ4,Stp.refl q.sat,rfl⟩ fun k w5 d hk u=>?_
 obtain ⟨σ5,f,A⟩:=u
 have B:=a.up f
 have aa:=C.up f
 have bf:=s.trans f
 have H:=f.sat
 obtain ⟨vv,p1,p2,p3⟩:=Sl.elO aa t
 refine W2 ?_
 refine Yg B rfl ?_
 refine Y0 aa t ?_
 refine W2 ?_
 refine ld H p1 rfl ?_
 refine Q8 p2 ?_
 refine Y9 ?_
 refine Q7 (fun W=>?_) (fun W=>?_)
 ·have r:k<cs[i].vals.length:=by simpa using W
  obtain ⟨p4,r4⟩:=Sl.elV p2 r
  refine W2 ?_
  refine Yg B rfl ?_
  refine Y0 aa t ?_
  refine W2 ?_
  refine ld H p1 rfl ?_
  refine Y0 p2 r ?_
  refine Y4 H p4 rfl ?_
  refine Y8 H (by rfl) rfl (Rep.one r4) fun q6 w6 σ6 g av=>?_
  have al:=bf.trans g
  have bc:=L2 (p:=C6 m) r
  refine W2 ?_
  refine ld (i:=0) g.sat av rfl ?_
  refine I1 ?_
  have y:C6 m cs[i].vals[k]=false→ ∃σ',Stp w4 σ4 w6 σ'∧(cs[i].vals.take (k+1)).any (C6 m)=false:=fun e=>⟨σ6,f.trans g,by rw[bc,A,e];rfl⟩
  by_cases e4:cs[i].vals[k].sort=4
  ·rw[decide_eq_true e4]
   (try simp only[O7,E2,S6,W3,W7,W9,M4,M5,H8,Bool.not_true,Bool.not_false])
   refine W2 ?_
   refine ld g.sat av rfl ?_
   refine K9 ?_
   by_cases eg:(m:Int)≤cs[i].vals[k].ref
   ·rw[decide_eq_true eg]
    refine Z9 ?_
    have v:(cs.take m).any (fun c=>c.vals.any (C6 m))=true:=by
     refine List.any_eq_true.2 ⟨cs[i],List.mem_take_iff_getElem.2 ⟨i,by omega,rfl⟩,C2 r (by simp[C6,e4,eg])⟩
    rw[if_pos v] at h
    exact Q6b al (B.up g) ((L.up q).up (f.trans g)) rfl V (W5 hh ⟨al.le⟩) fun w' σ' hk hr=>h _ w' σ' hk hr
   ·rw[decide_eq_false eg]
    refine Z4 ?_
    refine N0 ?_
    exact Y5 (by omega) r (y (by simp[C6,eg]))
  ·rw[decide_eq_false e4]
   (try simp only[O7,E2,S6,W3,W7,W9,M4,M5,H8,Bool.not_true,Bool.not_false])
   refine N0 ?_
   exact Y5 (by omega) r (y (by simp[C6,e4]))
 ·have r: ¬k<cs[i].vals.length:=by simpa using W
  rw[E3 r] at A
  refine N0 ?_
  refine Y5 (by omega) (by omega) ⟨σ5,q.trans f,?_⟩
  rw[L2 t,ac,A];rfl)
end Go.Proofs.YtjdiakhipmggjaaGreatDoor

namespace Go.Hm
open Go.Kd
def Q8o:Ins:=⟨[105,110,116],1,[]⟩
def Q0I:Ins:=⟨[114,101,116,117,114,110],0,[]⟩
def kA:X0:=[65]
def fX:Fld:=⟨[120],T0,false⟩
def Q1n:Fld:=⟨[110,101,120,116],kA,false⟩
def fL:Fld:=⟨[108],[65,91,93],false⟩
def mF:Hm.Met:=⟨[102],[T0,kA],T0,false,3,[Q8o,Q0I],[]⟩
def mG:Hm.Met:=⟨[103],[],[],false,1,[Q0I],[]⟩
def cA:Cla:=⟨kA,J9,[],false,false,false,[fX,Q1n],[mF,mG]⟩
def cB:Cla:=⟨[66],kA,[[73]],false,false,false,[fL],[]⟩
def cI:Cla:=⟨[73],J9,[],true,true,false,[],[]⟩
def cD:Cla:=⟨[68],J9,[],false,true,false,[],[]⟩
def K0:List Cla:=[cA,cB,cI,cD]
end Go.Hm
namespace Go.Proofs.YtjdiakhipmggjaaGreatDoor
open Go.Emb Go.RowKit Go.Kd Go.Hm
variable {w w' : World} {K : Value → World → Prop} {σ σ' : Q6} {ds : List Value} {room : Int} {cs : List Cel} {l : List Cla} {hp tv : Value}
set_option maxRecDepth 100000 in
theorem Q2L:Sw D7 K0=none:=by decide+kernel
set_option maxHeartbeats 1000000 in
theorem Q4z (Y:X3 w σ) (h: ∀v w' σ',Stp w σ w' σ'→Sl 8 V0 σ' v K0→K v w'):Q1 P F.aA [] w K:=Fb (by
 unfold Vu
 refine V8 (cells:= #[S Q8o.op,I 1,S []]) (by kernel_rfl) ?_
 refine V8 (cells:= #[S Q0I.op,I 0,S []]) (by kernel_rfl) ?_
 refine T5 (R:=Qo) (sz:=3) Y [.agg #[S Q8o.op,I 1,S []], .agg #[S Q0I.op,I 0,S []]] [Q8o,Q0I] rfl rfl (by simp;exact ⟨rfl,rfl⟩) rfl ⟨⟨rfl,by decide,by decide,by decide⟩,⟨rfl,by decide,by decide,by decide⟩,trivial⟩ fun Z w1 σ1 o f=>?_
 refine V8 (cells:= #[S fX.name,S fX.kind, .bool false]) (by kernel_rfl) ?_
 refine V8 (cells:= #[S Q1n.name,S Q1n.kind, .bool false]) (by kernel_rfl) ?_
 refine T5 (R:=S2) (sz:=3) o.sat [.agg #[S fX.name,S fX.kind, .bool false], .agg #[S Q1n.name,S Q1n.kind, .bool false]] [fX,Q1n] rfl rfl (by simp;exact ⟨rfl,rfl⟩) rfl ⟨⟨rfl,by decide,by decide⟩,⟨rfl,by decide,by decide⟩,trivial⟩ fun v2 w2 σ2 g c=>?_
 refine T5 (R:=U8) (sz:=1) g.sat [S T0,S kA] [T0,kA] rfl rfl (by simp;exact ⟨rfl,rfl⟩) rfl ⟨⟨rfl,by decide⟩,⟨rfl,by decide⟩,trivial⟩ fun v3 w3 σ3 e m=>?_
 have q:=f;have r:=c;have p:=m
 obtain ⟨Q,W,rfl,_⟩:=q
 obtain ⟨J,N,rfl,_⟩:=r
 obtain ⟨L,H,rfl,_⟩:=p
 have f:=(f.up g).up e
 have c:=c.up e
 refine V8 (cells:= #[S mF.name, .slice L 2 H,S T0, .bool false,I 3, .slice Q 2 W, .slice none 0 0]) (by kernel_rfl) ?_
 refine V8 (cells:= #[S Q0I.op,I 0,S []]) (by kernel_rfl) ?_
 refine T5 (R:=Qo) (sz:=3) e.sat [.agg #[S Q0I.op,I 0,S []]] [Q0I] rfl rfl (by simp;rfl) rfl ⟨⟨rfl,by decide,by decide,by decide⟩,trivial⟩ fun v4 w4 σ4 a u=>?_
 have j:=u
 obtain ⟨C,O,rfl,_⟩:=j
 refine V8 (cells:= #[S mG.name, .slice none 0 0,S [], .bool false,I 1, .slice C 1 O, .slice none 0 0]) (by kernel_rfl) ?_
 refine T5 (R:=E8) (sz:=7) a.sat [.agg #[S mF.name, .slice L 2 H,S T0, .bool false,I 3, .slice Q 2 W, .slice none 0 0], .agg #[S mG.name, .slice none 0 0,S [], .bool false,I 1, .slice C 1 O, .slice none 0 0]] [mF,mG] rfl rfl (by simp;exact ⟨rfl,rfl⟩) rfl
  ⟨⟨_,_,_,rfl,m.up a,f.up a,Sl.nil,by decide,by decide,by decide⟩,⟨_,_,_,rfl,Sl.nil,u,Sl.nil,by decide,by decide,by decide⟩,trivial⟩ fun v5 w5 σ5 i y=>?_
 have t:=y
 obtain ⟨V,U,rfl,_⟩:=t
 refine V8 (cells:= #[S kA,S J9, .slice none 0 0, .bool false, .bool false, .bool false, .slice J 2 N, .slice V 2 U]) (by kernel_rfl) ?_
 refine T5 (R:=U8) (sz:=1) i.sat [S [73]] [[73]] rfl rfl (by simp;rfl) rfl ⟨⟨rfl,by decide⟩,trivial⟩ fun v6 w6 σ6 d k=>?_
 have s:=k
 obtain ⟨X,M,rfl,_⟩:=s
 refine V8 (cells:= #[S fL.name,S fL.kind, .bool false]) (by kernel_rfl) ?_
 refine T5 (R:=S2) (sz:=3) d.sat [.agg #[S fL.name,S fL.kind, .bool false]] [fL] rfl rfl (by simp;rfl) rfl ⟨⟨rfl,by decide,by decide⟩,trivial⟩ fun v7 w7 σ7 b z=>?_
 have n:=z
 obtain ⟨D,E,rfl,_⟩:=n
 refine V8 (cells:= #[S cB.name,S kA, .slice X 1 M, .bool false, .bool false, .bool false, .slice D 1 E, .slice none 0 0]) (by kernel_rfl) ?_
 refine V8 (cells:= #[S cI.name,S J9, .slice none 0 0, .bool true, .bool true, .bool false, .slice none 0 0, .slice none 0 0]) (by kernel_rfl) ?_
 refine V8 (cells:= #[S cD.name,S J9, .slice none 0 0, .bool false, .bool true, .bool false, .slice none 0 0, .slice none 0 0]) (by kernel_rfl) ?_
 refine T5 (R:=V0) (sz:=8) b.sat [.agg #[S kA,S J9, .slice none 0 0, .bool false, .bool false, .bool false, .slice J 2 N, .slice V 2 U], .agg #[S cB.name,S kA, .slice X 1 M, .bool false, .bool false, .bool false, .slice D 1 E, .slice none 0 0], .agg #[S cI.name,S J9, .slice none 0 0, .bool true, .bool true, .bool false, .slice none 0 0, .slice none 0 0], .agg #[S cD.name,S J9, .slice none 0 0, .bool false, .bool true, .bool false, .slice none 0 0, .slice none 0 0]] K0 rfl rfl (by simp;exact ⟨rfl,rfl,rfl,rfl⟩) rfl
  ⟨⟨_,_,_,rfl,Sl.nil,(((c.up a).up i).up d).up b,(y.up d).up b,by decide,by decide⟩,⟨_,_,_,rfl,k.up b,z,Sl.nil,by decide,by decide⟩,⟨_,_,_,rfl,Sl.nil,Sl.nil,Sl.nil,by decide,by decide⟩,⟨_,_,_,rfl,Sl.nil,Sl.nil,Sl.nil,by decide,by decide⟩,trivial⟩ fun v8 w8 σ8 B A=>?_
 exact h _ _ _ ((((((((o.trans g).trans e).trans a).trans i).trans d).trans b)).trans B) A)
end Go.Proofs.YtjdiakhipmggjaaGreatDoor

namespace Go.Emb
open Go.RowKit
end Go.Emb
namespace Go.Proofs.YtjdiakhipmggjaaGreatDoor
open Go.Emb Go.RowKit Go.Kd Go.Hm
variable {w : World} {K : Value → World → Prop} {σ : Q6} {l : List Cla}
end Go.Proofs.YtjdiakhipmggjaaGreatDoor

namespace Go.Proofs.YtjdiakhipmggjaaGreatDoor
open Go.Emb Go.RowKit Go.Kd Go.Hm
variable {w w' : World} {K : Value → World → Prop} {σ σ' : Q6} {ds : List Value} {room : Int} {cs : List Cel} {l : List Cla} {hp tv : Value}
theorem HeapIs.mono {B B':Nat} {D:Nat→Prop} (h:HeapIs B D σ w hp tv room cs) (hB:B'≤B):HeapIs B' D σ w hp tv room cs:=by
 obtain ⟨b,j,E,m,e,n,⟨vs,f,c,d,hD⟩,hE,a⟩:=h.ex
 exact ⟨b,j,E,m,Nat.le_trans hB e,n,⟨vs,f.mono hB,⟨c.1,fun i k g=>(c.2 i k g).mono hB⟩,d,hD⟩,hE,a⟩
theorem X35 {a:Addr} {n:Int} (i:X3 w σ)
 (g:(n<0∨1048576<n)→K (.tuple #[.pointer none,I 90]) w)
 (h:0≤n→n≤1048576→ ∀b w' σ' D,Stp w σ w' σ'→HeapIs w.heap.size D σ' w' (.pointer (some ⟨b,0,none⟩)) (.pointer (some a)) n []→K (.tuple #[.pointer (some ⟨b,0,none⟩),I 0]) w'):Q1 P F.cO [.pointer (some a),I n] w K:=Q82 (by
 unfold Q3e
 refine Y9 ?_
 by_cases e:n<0
 ·rw[decide_eq_true e]
  (try simp only[O7,E2,S6,W3,W7,W9,M4,M5,H8,Bool.not_true,Bool.not_false])
  exact g (.inl e)
 rw[decide_eq_false e]
 (try simp only[O7,E2,S6,W3,W7,W9,M4,M5,H8,Bool.not_true,Bool.not_false])
 refine Q1z ?_
 by_cases c:(1048576:Int)<n
 ·rw[decide_eq_true c]
  exact Z9 (g (.inr c))
 rw[decide_eq_false c]
 refine Z4 ?_
 refine V8 (cells:= #[.pointer (some a),I n,I 0, .slice none 0 0]) (by kernel_rfl) ?_
 refine Eh (cs:=[.pointer (some a),I n,I 0, .slice none 0 0]) i fun b w1 σ1 j d f=>?_
 exact h (by omega) (by omega) b w1 σ1 _ d ⟨b,_,_,rfl,j,f,RowsIs.nil,id,fun k=>Iff.rfl⟩)
theorem X09:P.underlying T.aq=some (.int .u16):=by kernel_rfl
theorem X2m: ∀c∈K0,Qj c:=X3a (by decide)
theorem Fu:Wf K0:=X3F Q2L
set_option maxHeartbeats 1000000 in
theorem Q7E {r:Int} (hs:X3 w σ) (hg:Glb σ) (hr:0≤r)
 (h: ∀b a D ds w' σ',Stp w σ w' σ'→HeapIs w.heap.size D σ' w' (.pointer (some ⟨b,0,none⟩)) (.pointer (some a)) (r % 301) []→E0 σ' (Q4 K0,r % 301,[]) ds→Tab σ' (.pointer (some a)) (Q4 K0)→Ok (Q4 K0)→K (.tuple #[.pointer (some ⟨b,0,none⟩), .agg ds.toArray]) w'):Q1 P F.ak [.int .u16 r] w K:=Ks (by
 have hr0:=Int.emod_nonneg r (show (301:Int)≠0 by decide)
 have hr1:=Int.emod_lt_of_pos r (show (0:Int)<301 by decide)
 unfold Ny
 refine M9 hs fun b3 w1 σ1 hb3 hk1 hm1=>?_
 refine Q4z hk1.sat fun v w2 σ2 hk2 hv2=>?_
 refine X3T hk2.sat (hg.lift ⟨(hk1.trans hk2).le⟩) hv2 (by decide) X2m (fun i e _ _ hn=>by rw[Q2L] at hn;cases hn) fun tv w3 σ3 _ hk3 ht ok _=>?_
 obtain ⟨a,_,_,_,rfl,_⟩:=ht.ex
 have hS3:=(hk1.trans hk2).trans hk3
 refine J6 (vs:=[_,_,_]) rfl ?_
 refine J6 (vs:=[_,_,_]) rfl ?_
 refine J6 (vs:=[_,_,_]) rfl ?_
 refine Q4z hk3.sat fun v4 w4 σ4 hk4 hv4=>?_
 refine X1I hk4.sat hv4 (by decide) (fun i e _ _ hn=>by rw[Q2L] at hn;cases hn) fun lv w5 σ5 _ hk5 hlv ok5 _=>?_
 have hk35:=hk4.trans hk5
 have hS5:=hS3.trans hk35
 refine J6 (vs:=[_,_,_]) rfl ?_
 refine J6 (vs:=[_,_,_]) rfl ?_
 refine J6 (vs:=[_,_,_]) rfl ?_
 refine Q6m ⟨by decide,hr⟩ ?_
 rw[Td X09 Q1L]
 have ew:IntKind.i64.wrap (r % 301)=r % 301:=G1 (n:=r % 301) (by omega) (by omega)
 rw[ew]
 simp only[decide_true,Bool.not_true,Bool.false_eq_true,reduceIte,↓M1,M1,Mb,reduceIte]
 refine X3q ?_
 simp only[decide_true,Bool.not_true,Bool.false_eq_true,reduceIte,↓M1,M1,Mb,reduceIte]
 refine X35 (n:=r % 301) hk5.sat (fun hx=>absurd hx (by omega)) fun _ _ b6 w6 σ6 D hk6 h6=>?_
 refine J6 (vs:=[_,_]) rfl ?_
 refine J6 (vs:=[_,_]) rfl ?_
 simp only[decide_true,Bool.not_true,↓M1,M1,Mb,reduceIte]
 refine V8 (cells:= #[lv,I (r % 301), .slice none 0 0]) (by obtain ⟨a5,c5,hle,_⟩:=id hlv;generalize (Q4 K0).length=n5 at hle;subst hle;kernel_rfl) ?_
 have hm6:=hm1.up ((hk2.trans hk3).trans (hk35.trans hk6))
 have hrh:E0 σ6 (Q4 K0,r % 301,[]) [lv,I (r % 301), .slice none 0 0]:=⟨_,_,rfl,hlv.up hk6,Sl.nil⟩
 refine Nt (ds:=[lv,I (r % 301), .slice none 0 0]) hm6 rfl rfl (by rw[List.all_toArray];exact List.all_eq_true.2 (Rep.one hrh)) fun w7 u7 hm7=>?_
 refine V1 hm7 rfl ?_
 have hS6:=hS5.trans hk6
 have hB3:=M8 hb3 (Stp.refl hs)
 have hS7:=u7.stp hS6 hB3 hm6.1
 have hb35:b3<w5.heap.size:=by
  have:=(hm1.up ((hk2.trans hk3).trans hk35)).lt
  exact this
 exact h b6 a D _ w7 σ6 hS7 ((h6.nx (Nxt.of_upd hk6.sat u7 hm6.1) fun k hk e=>by have:=(h6.mem hk).1;omega).mono hS5.bel.size) hrh (ht.lift ⟨(hk35.trans hk6).le⟩) ok)
theorem X13 {x:ActH} {ds:List Value} (j:X3 w σ) (d:Sb σ x ds) (h: ∀w',Below w.heap.size w w'→K (.bool (decide (x.s.length≤100)&&decide (x.v.s.length≤5000))) w'):Q1 P F.ah [.agg ds.toArray] w K:=Q0Z (by
 have g:=d
 obtain ⟨rfl,m,k⟩:=d
 unfold Eo
 refine Z0 j fun q w1 σ1 a c=>?_
 refine W2 ?_
 refine ld (i:=1) a.sat c rfl ?_
 refine Gb (by kernel_rfl) ?_
 refine Q52 ?_
 cases e:decide ((x.s.length:Int)≤100) with
 | false=>
  have b:decide (x.s.length≤100)=false:=by rw[←e];congr 1;simp only[eq_iff_iff];omega
  rw[b] at h
  (try simp only[↓M1,M1,Mb,reduceIte])
  exact h _ a.bel
 | true=>
  have b:decide (x.s.length≤100)=true:=by rw[←e];congr 1;simp only[eq_iff_iff];omega
  rw[b] at h
  (try simp only[O7,E2,S6,W3,W7,W9,M4,M5,H8,Bool.not_true,Bool.not_false])
  (repeat refine Hd.h ?_)
  refine ld (i:=6) a.sat c rfl ?_
  (repeat refine Hd.h ?_)
  refine Gb (by kernel_rfl) ?_
  (repeat refine Hd.h ?_)
  refine Q52 ?_
  (repeat refine Hd.h ?_)
  have f:decide ((x.v.s.length:Int)≤5000)=decide (x.v.s.length≤5000):=by congr 1;simp only[eq_iff_iff];omega
  rw[f]
  exact h _ a.bel)
theorem X2N {v u:Value} (hs:X3 w σ) (hv:Sl 2 H0 σ v cs) (hu:Sl 2 H0 σ u cs) (h: ∀w',Below w.heap.size w w'→K (.bool true) w'):Q1 P F.aT [v,u] w K:=Ab (by
 have hcl:=hv.max
 unfold Dh
 refine Q8 hv ?_
 refine Q8 hu ?_
 refine Xh ?_
 simp only[decide_true,Bool.not_true,↓M1,M1,Mb,reduceIte]
 refine U2 cs.length (fun i w'=>Stp w σ w' σ) (Stp.refl hs) fun i w1 d hi hk1=>?_
 have hv1:=hv.up hk1
 have hu1:=hu.up hk1
 refine Q8 hv1 ?_
 refine Y9 ?_
 refine Q7 (fun hc=>?_) (fun hc=>?_)
 ·have hi':i<cs.length:=by simpa using hc
  obtain ⟨vv,p1,p2,b2⟩:=Sl.elO hv1 hi'
  obtain ⟨uu,q1,q2,_⟩:=Sl.elO hu1 hi'
  have hmx:=p2.max
  refine U0 hk1.sat ?_
  (repeat (apply J4;(· intros;(repeat (rename_i hx;subst hx));(repeat' (first | (with_reducible exact O3 rfl) | (with_reducible exact S4 (Stp.bel (by (repeat (first | exact Stp.refl (by (first | assumption | exact Stp.sat (by assumption) | exact Hst.sat (by assumption))) | assumption | refine Stp.trans ?_ (by first | assumption | exact Hst.stp (by assumption)))))) rfl) | (with_reducible intro _) | (simp only[↓M2,M2,Mb,reduceIte]) | (with_reducible refine Jf ?_) | (with_reducible show Q2 _ _ _ _ _;first | refine X7 aS aL aR ?_ | refine Y4 aS aL aR ?_ | refine ld aS aL aR ?_) | (with_reducible show indexAddr _ _ _ _ _ _;refine Y0 aL au ?_) | (with_reducible show X2 _ _ _ _ _ _ _ _;refine Q8 aL ?_) | (with_reducible show F5 _ _ _ _ _ _;refine J0 aR ?_) | (with_reducible show pick _ _ _ _ _ _;refine M3 ?_) | (apply G8;intro hh;(try simp only[hh,reduceIte,↓M2,M2,Mb,reduceIte]))));done)))
  simp only[decide_true,Bool.not_true,Bool.false_eq_true,reduceIte]
  (repeat (apply J4;(· intros;(repeat (rename_i hx;subst hx));(repeat' (first | (with_reducible exact O3 rfl) | (with_reducible exact S4 (Stp.bel (by (repeat (first | exact Stp.refl (by (first | assumption | exact Stp.sat (by assumption) | exact Hst.sat (by assumption))) | assumption | refine Stp.trans ?_ (by first | assumption | exact Hst.stp (by assumption)))))) rfl) | (with_reducible intro _) | (simp only[↓M2,M2,Mb,reduceIte]) | (with_reducible refine Jf ?_) | (with_reducible show Q2 _ _ _ _ _;first | refine X7 aS aL aR ?_ | refine Y4 aS aL aR ?_ | refine ld aS aL aR ?_) | (with_reducible show indexAddr _ _ _ _ _ _;refine Y0 aL au ?_) | (with_reducible show X2 _ _ _ _ _ _ _ _;refine Q8 aL ?_) | (with_reducible show F5 _ _ _ _ _ _;refine J0 aR ?_) | (with_reducible show pick _ _ _ _ _ _;refine M3 ?_) | (apply G8;intro hh;(try simp only[hh,reduceIte,↓M2,M2,Mb,reduceIte]))));done)))
  (intros;(repeat (rename_i hx;subst hx));(try simp only[↓M2,M2,Mb,reduceIte]))
  rename_i w2 hb2
  (repeat refine Hd.h ?_)
  simp only[decide_true,Bool.not_true,↓M1,M1,Mb,reduceIte]
  refine U2 cs[i].vals.length (fun j w'=>Stp w1 σ w' σ) hb2.stp fun j w3 d hj hk3=>?_
  have hv3:=hv1.up hk3
  have hu3:=hu1.up hk3
  refine Y0 hv3 hi' ?_
  refine W2 ?_
  refine ld hk3.sat (p1.up hk3) rfl ?_
  refine Q8 (p2.up hk3) ?_
  refine Y9 ?_
  refine Q7 (fun hc=>?_) (fun hc=>?_)
  ·have hj':j<cs[i].vals.length:=by simpa using hc
   obtain ⟨p3,r3⟩:=Sl.elV (p2.up hk3) hj'
   obtain ⟨q3,t3⟩:=Sl.elV (q2.up hk3) hj'
   have p13:=p1.up hk3
   have q13:=q1.up hk3
   have p23:=p2.up hk3
   have q23:=q2.up hk3
   refine U0 hk3.sat ?_
   (repeat refine J4 Qc ?_)
   (intros;(repeat (rename_i hx;subst hx));(try simp only[↓M2,M2,Mb,reduceIte]))
   rename_i w4 hb4
   refine X1W ?_
   simp only[decide_true,Bool.not_true,↓M1,M1,Mb,reduceIte]
   exact Y5 (by omega) hj' (hk3.trans hb4.stp)
  ·exact Y5 hcl hi' (hk1.trans hk3)
 ·exact h _ hk1.bel)
end Go.Proofs.YtjdiakhipmggjaaGreatDoor

namespace Go.Proofs.YtjdiakhipmggjaaGreatDoor
open Go.Emb Go.RowKit Go.Kd Go.Hm
variable {w w' : World} {K : Value → World → Prop} {σ σ' : Q6} {ds : List Value} {room : Int} {cs : List Cel} {l : List Cla} {hp tv : Value}
def zfK:X0:=[90,101,114,111,70,97,117,108,116]
def zf1:List Cel:=[⟨zfK,[⟨3,0,[],0⟩]⟩]
def zf2:List Cel:=zf1++[⟨T0++[91,93],List.replicate 3 ⟨1,0,[],0⟩⟩]
theorem X0D:Yq (Q4 K0) 10 [] zfK=(zf1,0):=by decide
theorem X0H:Zc (Q4 K0) 10 zf1 T0 3=(zf2,0):=by decide
theorem Q1r:W6 []=true:=by decide+kernel
theorem Q7G:GoodH W6 (Q4 K0) 10 zf2:=by
 have a:=GoodH.obj Fu Q1r (GoodH.empty (ok:=W6) (l:=Q4 K0) (show (0:Int)≤10 by decide)) zfK
 rw[X0D] at a
 have b:=GoodH.arr Fu Q1r a T0 3
 rw[X0H] at b
 exact b
theorem X49:P.underlying T.a5=some (.pointer T.p):=by kernel_rfl
theorem X0A (d:Nat) (o:Option Addr):(Op.equalIn (d+1) T.a5 (.pointer o) (.pointer none)).run P w= .ok o.isNone w:=by
 cases o<;>simp[Op.equalIn,run_underlying X49]
theorem Q9W {a:Addr} {c b:Operand} (h:K (.bool false) w):Q3 P .eql T.a5 c b (.pointer (some a)) (.pointer none) w K:=by
 have e:(Op.equal T.a5 (.pointer (some a)) (.pointer none)).run P w= .ok false w:=X0A 9999 _
 unfold Q3
 rw[X9 (v:= .bool false) (w':=w) (by simp[eqGuard,Go.binOp,e])]
 exact h
theorem X2Q {a:Addr} {c b:Operand} (h:K (.bool true) w):Q3 P .neq T.s c b (.pointer (some a)) (.pointer none) w K:=by
 have e:(Op.equal T.s (.pointer (some a)) (.pointer none)).run P w= .ok false w:=Q5r 9999 _
 unfold Q3
 rw[X9 (v:= .bool true) (w':=w) (by simp[eqGuard,Go.binOp,e])]
 exact h
set_option maxHeartbeats 1000000 in
theorem X1x (hs:X3 w σ) (U:Glb σ) (h: ∀w' σ',Stp w σ w' σ'→K (.bool true) w'):Q1 P F.aJ [] w K:=Kr (by
 unfold Nr
 refine Q7E hs U (by decide) fun b a D ds w1 σ1 g E s ht ok=>?_
 refine J6 (vs:=[_,_]) rfl ?_
 refine J6 (vs:=[_,_]) rfl ?_
 refine M9 g.sat fun b2 w2 σ2 q o u=>?_
 have V:=M8 q g
 refine Nt u rfl (by obtain ⟨lv,cv,rfl,_⟩:=E0.out s;rfl) (by rw[List.all_toArray];exact List.all_eq_true.2 (Rep.one s)) fun w3 W Z=>?_
 have O:=g.trans o
 have h2:=E.up o
 have d:Stp w1 σ1 w3 σ2:=W.stp o q u.1
 have M:=E.up d
 have z:=g.trans d
 rw[show (10 % 301:Int)=10 from rfl] at M
 refine Q9W ?_
 (try simp only[O7,E2,S6,W3,W7,W9,M4,M5,H8,Bool.not_true,Bool.not_false])
 have t:=ht.lift ⟨d.le⟩
 refine Q5I d.sat z.bel.size M t ok (k:=zfK) (by decide) (by decide) (by decide) fun w4 σ4 D4 C B aa=>?_
 simp only[X0D] at B
 have y:=t.lift C.le
 refine J6 (vs:=[_,_]) rfl ?_
 refine J6 (vs:=[_,_]) rfl ?_
 have A: ∀{k},D k→w.heap.size≤k:=fun v=>(E.mem v).1
 have p:=C.stp' z fun k v=>A v
 refine Q7l C.sat p.bel.size B y (e:=T0) (n:=3) (by decide) (by decide) (by decide) fun w5 σ5 D5 N Q Y=>?_
 simp only[X0H] at Q
 have J:=y.lift N.le
 have i:=N.stp' p fun k v=>(B.mem v).1
 refine J6 (vs:=[_,_]) rfl ?_
 refine J6 (vs:=[_,_]) rfl ?_
 obtain ⟨σf,R,j,r,_⟩:=Q.freeze i.sat
 simp only[X0D,X0H,show atM [] 0=0 from rfl,show atM zf1 0=1 from rfl,decide_true,↓M1,M1,Mb,reduceIte]
 refine Q1o R r Q7G.left (by decide) fun w6 L=>?_
 have f:=Stp.of_below R L
 simp only[show W1 10 zf2=4 from by decide,decide_true,↓M1,M1,Mb,reduceIte]
 have c:=r
 refine Q5C f.sat c ?_
 simp only[show ((zf2.length:Nat):Int)=2 from by decide,decide_true,↓M1,M1,Mb,reduceIte]
 refine Q7h f.sat c ?_
 refine P7 ?_
 simp only[show O6 zf2 0=zfK from by decide,show decide (zfK=[90,101,114,111,70,97,117,108,116])=true from by decide,↓M1,M1,Mb,reduceIte]
 refine X1B f.sat c ?_
 simp only[show Q5O zf2 1=3 from by decide,decide_true,↓M1,M1,Mb,reduceIte]
 have H:=(U.lift ⟨i.le⟩).lift j
 refine X2l f.sat H c (J.lift j) ok Q7G.cells fun X σ7 m=>?_
 simp only[↓M1,M1,Mb,reduceIte]
 refine X0n m.sat (c.lift ⟨m.le⟩) ?_
 refine X2Q ?_
 (try simp only[↓M1,M1,Mb,reduceIte])
 exact h X σ5 (i.trans ((f.trans m).weak j.le)))
end Go.Proofs.YtjdiakhipmggjaaGreatDoor

namespace Go.Emb
open Go.RowKit Go.Hm
variable {P : Program} {w w0 w1 w' w'' : World} {K : Value → World → Prop} {σ σ0 σ1 σ' : Q6} {b n : Nat} {ds : List Value} {v V : Value}
structure VarT (b : Nat) (ds : List Value) (w w' : World) : Prop where
  kp : Kpt (fun j => j = b) w w'
  var : (b < w.heap.size → w'.heap[b]? = w.heap[b]?) ∨ ∃ e, w'.heap[b]? = some (.cells ds.toArray e (0, 0))
structure VarB (w0 : World) (σ0 : Q6) (w1 : World) (σ : Q6) (b n : Nat) (w' : World) : Prop where
  hst : Hst w0 σ0 w' σ
  kp : Kpt (fun j => j = b) w1 w'
  var : ∃ cs, cs.length = n ∧ Y2 σ w' b cs
theorem VarT.of_below (h:Below w.heap.size w w'):VarT b ds w w':=⟨.of_below h, .inl fun a=>h.block b a⟩
theorem VarT.of_upd (h:Upd w b w') (a:Y2 σ w' b ds):VarT b ds w w':=⟨.of_upd h rfl, .inr a.2⟩
theorem VarB.step (f:w0.heap.size≤b) (d:ds.length=n) (h:VarB w0 σ0 w1 σ b n w) (k:VarT b ds w w'):VarB w0 σ0 w1 σ b n w':=by
 obtain ⟨cs,g,a⟩:=h.var
 refine ⟨⟨h.hst.stp.kp k.kp fun j c=>by subst c;exact ⟨f,a.1⟩⟩,h.kp.trans k.kp,?_⟩
 rcases k.var with e | e
 ·exact ⟨cs,g,a.1,by rw[e a.lt];exact a.2⟩
 ·exact ⟨ds,d,a.1,e⟩
theorem Q5H {A:(World→World→Prop)→(World→Prop)→Prop} (ds:List Value) {cs:List Value} (a:Stp w0 σ0 w σ) (i:w0.heap.size≤b) (c:Y2 σ w b cs) (d:cs.length=n) (f:ds.length=n)
 (h:A (VarT b ds) (VarB w0 σ0 w σ b n)):dr w A:=
 Kf _ _ ⟨⟨a.trans (Stp.of_below a.sat (Below.refl _ _).drew)⟩, .of_below (Below.refl _ _).drew,cs,d,c⟩ (fun _ _ g e=>g.step i f e) h
theorem F7 (h:V=v):dk (VarT b ds) (fun v _=>V=v) w v w:=⟨.of_below (Below.refl _ _),h⟩
theorem Zs (a:Below w.heap.size w w') (h:V=v):dk (VarT b ds) (fun v _=>V=v) w v w':=⟨.of_below a,h⟩
theorem Js {t:TypeId} {c:Nat} {z:Value} [tz:TZ P t n c z] {a:(List Value→Value→World→Prop)→Prop} {φ:Value→World→Prop} (r:ds.length=n) (s: ∀u∈ds,u.oneCell'=true) (i: ∀v w,φ v w→ .agg ds.toArray=v)
 (o:a (fun _ _ w=>Y2 σ w b ds)) (d:σ b=none):Ci (VarT b ds) (fun F=> ∀x w,VarB w0 σ0 w1 σ b n w→φ x w→Y1 P t (.pointer (some ⟨b,0,none⟩)) x w (dk (VarT b ds) (F [x]) w)) a:=by
 refine Q3U _ (fun xs v w w' h k=>?_) (fun x w j q=>?_) o
 ·rcases k.var with e | e
  ·exact ⟨d,by rw[e h.lt];exact h.2⟩
  ·exact ⟨d,e⟩
 ·have:=i x w q
  subst this
  obtain ⟨cs,p,m⟩:=j.var
  exact Nt m p r (by rw[List.all_toArray];exact List.all_eq_true.2 s) fun w' g f=>⟨.of_upd g f,f⟩
theorem Wd {c a:Bool} {V:Value} {d:World→(Value→World→Prop)→Prop} (h:c=a→d w (dk (VarT b ds) (fun v _=>V=v) w)):Q0 (.bool c) a w d (dk (VarT b ds) (fun v _=>(if c=a then V else undef)=v) w):=by
 by_cases e:c=a
 ·simp only[e,if_true]
  subst e
  have:=h rfl
  cases c
  ·rw[W7];exact this
  ·rw[W3];exact this
 ·simp only[e,if_false]
  cases c<;>cases a<;>first | exact absurd rfl e | (rw[S6];exact F7 rfl) | (rw[E2];exact F7 rfl)
theorem VarB.hs (h:VarB w0 σ0 w1 σ b n w):Hst w0 σ0 w σ:=h.hst
end Go.Emb
namespace Go.Proofs.YtjdiakhipmggjaaGreatDoor
open Go.Emb Go.RowKit Go.Kd Go.Hm
variable {w w' : World} {K : Value → World → Prop} {σ σ' : Q6} {ds : List Value} {room : Int} {cs : List Cel} {l : List Cla} {hp tv : Value}
theorem Q44 {a:Nat} {f h:World} {d:Q6} {x:List Cla×Int×List Cel} {e p:List Value} (m:Stp w σ f d) (hB:w.heap.size≤a) (i:Y2 d f a p) (u:Upd f a h) (g:Y2 d h a e):
 ∃c,Stp w σ h c∧Z5 c ⟨a,0,none⟩ e∧SLe d c∧ ∀k,k≠a→c k=d k:=by
 obtain ⟨c,o,q,r,j⟩:=g.keep (u.stp m hB i.1) hB
 exact ⟨c,o,q,⟨r⟩,j⟩
end Go.Proofs.YtjdiakhipmggjaaGreatDoor

namespace Go.Emb
open Go.RowKit Go.Hm
variable {P : Program} {w w0 w1 w' w'' : World} {K : Value → World → Prop} {σ σ0 σ1 σ' : Q6} {b n : Nat} {ds : List Value} {v V : Value}
theorem Z5.tail {q:Addr} {xs ys:List Value} (h:Z5 σ q (xs++ys)):Z5 σ (q.add xs.length) ys:=by
 obtain ⟨d,a,e,z,f,g⟩:=h
 cases xs with
 | nil=>exact ⟨by simp[Addr.add,d],a,e,z,by simpa [Addr.add] using f,fun i u c=>by simpa [Addr.add] using g i u c⟩
 | cons x xs=>
  refine ⟨by simp[Addr.add,d],a,e,z,by simpa [Addr.add] using f,fun i u c=>?_⟩
  have:=g ((x::xs).length+i) u (by rw[List.getElem?_append_right (by omega)];simpa using c)
  simpa [Addr.add,Nat.add_assoc] using this
theorem J7.down {α:Type} {R:Q6→α→List Value→Prop} {B sz:Nat} {e:TypeId} {v:Value} {xs:List α} (h:J7 B e sz R σ' w v xs) (r:SLe σ σ') (t: ∀x cs,R σ' x cs→R σ x cs):J7 B e sz R σ w v xs:=by
 obtain ⟨a,m,rfl,H,y,c,s⟩:=h
 have p: ∀k,σ' k=none→σ k=none:=fun k E=>by
  cases e:σ k with
  | none=>rfl
  | some o=>have:=r.le k o e;rw[E] at this;cases this
 refine ⟨a,m,rfl,H,y,fun b d=>⟨(c b d).1,(c b d).2.1,(c b d).2.2.1,p _ (c b d).2.2.2⟩,fun u=>?_⟩
 obtain ⟨g,j,f,rfl,q,J,z,L,C⟩:=s u
 exact ⟨g,j,f,rfl,q,p _ J,z,L,fun i x A=>t _ _ (C i x A)⟩
end Go.Emb
namespace Go.Proofs.YtjdiakhipmggjaaGreatDoor
open Go.Emb Go.RowKit Go.Kd Go.Hm
variable {w w' w0 w1 : World} {K : Value → World → Prop} {σ σ' σ0 : Q6} {ds : List Value} {room : Int} {cs cs' : List Cel} {l : List Cla} {hp tv : Value} {B b : Nat} {D : Nat → Prop} {V v : Value}
theorem X0I {ok:X0→Bool} {r i:Int} {v:Val}:H2 ok l (H2 ok l cs r i v).1 r i v=H2 ok l cs r i v:=by
 by_cases g:E4 cs r i=0
 case neg=>
  have e:H2 ok l cs r i v=(cs,E4 cs r i):=by unfold H2;rw[if_pos g]
  rw[e];exact e
 cases f:C7 ok l cs v (Xl l (Wn cs r).kind i.toNat) with
 | false=>
  have e:H2 ok l cs r i v=(cs,91):=by unfold H2;rw[if_neg (fun h=>h g),f];rfl
  rw[e];exact e
 | true=>
  have e:H2 ok l cs r i v=(B8 cs r i v,0):=by unfold H2;rw[if_neg (fun h=>h g),f];rfl
  rw[e]
  obtain ⟨j,m,rfl,rfl,d,y⟩:=Lp g
  have s:L7 cs (j:Int)=true:=E1.2 ⟨j,rfl,d⟩
  have a:B8 cs j m v=cs.set j ⟨cs[j].kind,cs[j].vals.set m v⟩:=by unfold B8;rw[L4 d,Int.toNat_natCast,Int.toNat_natCast]
  have t:(B8 cs j m v).length=cs.length:=by rw[a];simp
  have c:j<(B8 cs j m v).length:=by rw[t];exact d
  have k:Wn (B8 cs j m v) j=⟨cs[j].kind,cs[j].vals.set m v⟩:=by
   rw[L4 c];simp only[a,List.getElem_set_self]
  have p:L7 (B8 cs j m v) (j:Int)=true:=E1.2 ⟨j,rfl,c⟩
  have u:E4 (B8 cs j m v) j m=0:=by
   unfold E4
   rw[p,k]
   simp only[if_true,List.length_set]
   rw[if_pos ⟨by omega,by omega⟩]
  have o:C7 ok l (B8 cs j m v) v (Xl l (Wn (B8 cs j m v) j).kind (m:Int).toNat)=true:=by
   rw[k]
   rw[L4 d] at f
   exact Hw (fun _ _=>Q3y s) f
  have q:B8 (B8 cs j m v) j m v=B8 cs j m v:=by
   unfold B8 at k⊢
   rw[k]
   simp only[Int.toNat_natCast,List.set_set]
   rw[L4 d]
  unfold H2
  rw[if_neg (fun h=>h u),o,q];rfl
theorem RowsIs.down {d:Value} (h:RowsIs B D σ' w d cs) (c:SLe σ σ'):RowsIs B D σ w d cs:=by
 obtain ⟨vs,e,a,g,hD⟩:=h.ex
 exact ⟨vs,e.down c fun _ _ h=>h,⟨a.1,fun i j f=>(a.2 i j f).down c fun _ _ h=>h⟩,g,hD⟩
theorem HeapIs.down (h:HeapIs B D σ' w hp tv room cs) (c:SLe σ σ'):HeapIs B D σ w hp tv room cs:=by
 obtain ⟨b,f,E,rfl,hB,a,d,hE,hD⟩:=h.ex
 refine ⟨b,f,E,rfl,hB,⟨?_,a.2⟩,d.down c,hE,hD⟩
 cases e:σ b with
 | none=>rfl
 | some o=>have:=c.le b o e;rw[a.1] at this;cases this
structure SetT (B : Nat) (D : Nat → Prop) (σ : Q6) (hp tv : Value) (room : Int) (cs' : List Cel) (b : Nat) (ds : List Value) (w w' : World) : Prop where
  kp : Kpt (fun j => j = b ∨ D j) w w'
  var : (b < w.heap.size → w'.heap[b]? = w.heap[b]?) ∨ ∃ e, w'.heap[b]? = some (.cells ds.toArray e (0, 0))
  hp : (∀ j, D j → j < w.heap.size → w'.heap[j]? = w.heap[j]?) ∨ HeapIs B D σ w' hp tv room cs'
structure SetB (B : Nat) (D : Nat → Prop) (hp tv : Value) (room : Int) (cs cs' : List Cel) (w0 : World) (σ0 : Q6) (w1 : World) (σ : Q6) (b n : Nat) (w' : World) : Prop where
  hst : Hst w0 σ0 w' σ
  kp : Kpt (fun j => j = b ∨ D j) w1 w'
  var : ∃ zs, zs.length = n ∧ Y2 σ w' b zs
  hp : HeapIs B D σ w' hp tv room cs ∨ HeapIs B D σ w' hp tv room cs'
theorem SetB.hs {n:Nat} (h:SetB B D hp tv room cs cs' w0 σ0 w1 σ b n w):Hst w0 σ0 w σ:=h.hst
theorem SetT.of_below (h:Below w.heap.size w w'):SetT B D σ hp tv room cs' b ds w w':=⟨.of_below h, .inl fun c=>h.block b c, .inl fun j _ a=>h.block j a⟩
theorem HeapIs.same (h:HeapIs B D σ w hp tv room cs) (k:Kpt (fun j=>j=b∨D j) w w') (f:X3 w' σ) (d: ¬D b) (c: ∀j,D j→j<w.heap.size→w'.heap[j]? =w.heap[j]?):HeapIs B D σ w' hp tv room cs:=
 h.nx (F:=fun j=>j=b) ⟨⟨k.os,k.tape,k.output,k.size,fun j a g=>by
  by_cases e:D j
  ·exact c j e a
  ·exact k.block j a fun h=>h.elim g e⟩,SLe.refl _,fun _ _=>rfl,f⟩ fun j a e=>d (e▸a)
theorem SetB.step {n:Nat} (m:w0.heap.size≤b) (hB:w0.heap.size≤B) (c: ¬D b) (g:ds.length=n) (h:SetB B D hp tv room cs cs' w0 σ0 w1 σ b n w) (k:SetT B D σ hp tv room cs' b ds w w'):SetB B D hp tv room cs cs' w0 σ0 w1 σ b n w':=by
 obtain ⟨i,o,f⟩:=h.var
 have d: ∀j,D j→w0.heap.size≤j∧σ j=none:=fun j hj=>by
  rcases h.hp with h | h
  ·exact ⟨Nat.le_trans hB (h.mem hj).1,(h.mem hj).2.2⟩
  ·exact ⟨Nat.le_trans hB (h.mem hj).1,(h.mem hj).2.2⟩
 have a:Stp w0 σ0 w' σ:=h.hst.stp.kp k.kp fun j hj=>by
  rcases hj with rfl | hj
  ·exact ⟨m,f.1⟩
  ·exact d j hj
 refine ⟨⟨a⟩,h.kp.trans k.kp,?_,?_⟩
 ·rcases k.var with e | e
  ·exact ⟨i,o,f.1,by rw[e f.lt];exact f.2⟩
  ·exact ⟨ds,g,f.1,e⟩
 ·rcases k.hp with e | e
  ·rcases h.hp with h3 | h3
   ·exact .inl (h3.same k.kp a.sat c e)
   ·exact .inr (h3.same k.kp a.sat c e)
  ·exact .inr e
theorem X3d {n:Nat} {A:(World→World→Prop)→(World→Prop)→Prop} (cs':List Cel) (ds:List Value) {d:List Value} (c:Stp w0 σ0 w σ) (k:w0.heap.size≤b) (hB:w0.heap.size≤B) (a: ¬D b) (e:Y2 σ w b d) (f:d.length=n) (i:ds.length=n) (hh:HeapIs B D σ w hp tv room cs)
 (h:A (SetT B D σ hp tv room cs' b ds) (SetB B D hp tv room cs cs' w0 σ0 w σ b n)):dr w A:=
 Kf _ _ ⟨⟨c.trans (Stp.of_below c.sat (Below.refl _ _).drew)⟩, .of_below (Below.refl _ _).drew,⟨d,f,e⟩, .inl (hh.up (Stp.of_below c.sat (Below.refl _ _).drew))⟩ (fun _ _ j g=>j.step k hB a i g) h
theorem Q56 (h:V=v):dk (SetT B D σ hp tv room cs' b ds) (fun v _=>V=v) w v w:=⟨.of_below (Below.refl _ _),h⟩
theorem X2r (a:Below w.heap.size w w') (h:V=v):dk (SetT B D σ hp tv room cs' b ds) (fun v _=>V=v) w v w':=⟨.of_below a,h⟩
theorem X08 {n:Nat} {t:TypeId} {d:Nat} {z:Value} [tz:TZ P t n d z] {a:(List Value→Value→World→Prop)→Prop} {φ:Value→World→Prop} (A:ds.length=n) (C: ∀u∈ds,u.oneCell'=true) (o: ∀v w,φ v w→ .agg ds.toArray=v)
 (r:a (fun _ _ w=>Y2 σ w b ds)) (g:σ b=none) (c: ¬D b):Ci (SetT B D σ hp tv room cs' b ds) (fun G=> ∀x w,SetB B D hp tv room cs cs' w0 σ0 w1 σ b n w→φ x w→Y1 P t (.pointer (some ⟨b,0,none⟩)) x w (dk (SetT B D σ hp tv room cs' b ds) (G [x]) w)) a:=by
 refine Q3U _ (fun xs v w w' h k=>?_) (fun x w p y=>?_) r
 ·rcases k.var with e | e
  ·exact ⟨g,by rw[e h.lt];exact h.2⟩
  ·exact ⟨g,e⟩
 ·have:=o x w y
  subst this
  obtain ⟨H,s,q⟩:=p.var
  exact Nt q s A (by rw[List.all_toArray];exact List.all_eq_true.2 C) fun w' f i=>⟨⟨.of_upd f (.inl rfl), .inr i.2, .inl fun j E m=>f.block j fun e=>c (e▸E)⟩,i⟩
theorem X2k {n:Nat} {x:Val} {r i:Int} {a:(Value→World→Prop)→Prop} {J L M:Value→World→Prop} (R:Glb σ) (Q:Tab σ tv l) (ok:Ok l) (q: ∀c∈cs,GoodC W6 l cs c) (m: ∀c∈(H2 W6 l cs r i x).1,GoodC W6 l (H2 W6 l cs r i x).1 c) (O:N3 σ x [I x.sort,I x.n,S x.s,I x.ref]) (t: ¬D b) (Z:σ b=none)
 (h1: ∀v w,J v w→I r=v) (Y: ∀v w,L v w→I i=v) (W: ∀v w,M v w→Value.agg [I x.sort,I x.n,S x.s,I x.ref].toArray=v)
 (X:a (fun v w=>I (H2 W6 l cs r i x).2=v∧X3 w σ∧HeapIs B D σ w hp tv room (H2 W6 l cs r i x).1)):
 Q5 (SetT B D σ hp tv room (H2 W6 l cs r i x).1 b ds) (fun G=> ∀C E H w,SetB B D hp tv room cs (H2 W6 l cs r i x).1 w0 σ0 w1 σ b n w→J C w→L E w→M H w→Q1 P F.b6 [hp,C,E,H] w (dk (SetT B D σ hp tv room (H2 W6 l cs r i x).1 b ds) G w)) a:=by
 refine H4 _ (fun v w w' h k=>?_) (fun C E H w A U e2 e3=>?_) X
 ·obtain ⟨e,hs,h4⟩:=h
  have g:X3 w' σ:=Kpt.sat hs k.kp fun j y=>y.elim (fun e=>e▸Z) fun y=>(h4.mem y).2.2
  rcases k.hp with e2 | e2
  ·exact ⟨e,g,h4.same k.kp g t e2⟩
  ·exact ⟨e,g,e2⟩
 ·have:=h1 _ _ U
  have:=Y _ _ e2
  have:=W _ _ e3
  subst_vars
  have p: ∀{d u},Nxt D w σ d u→HeapIs B D u d hp tv room (H2 W6 l cs r i x).1→SetT B D σ hp tv room (H2 W6 l cs r i x).1 b ds w d∧I (H2 W6 l cs r i x).2=I (H2 W6 l cs r i x).2∧X3 d σ∧HeapIs B D σ d hp tv room (H2 W6 l cs r i x).1:=fun {d u} N h4=>by
   have f:=h4.down N.le
   have z:b<w.heap.size:=by obtain ⟨zs,_,hm⟩:=A.var;exact hm.lt
   exact ⟨⟨N.kp.mono fun _ _ y=> .inr y, .inl fun _=>N.kp.block b z t, .inr f⟩,rfl,fun k o e=>N.sat k o (N.le.le k o e),f⟩
  rcases A.hp with h4 | h4
  ·exact X1u A.hst.sat R h4 Q ok q O fun d u N f=>p N f
  ·have hi:=X0I (ok:=W6) (l:=l) (cs:=cs) (r:=r) (i:=i) (v:=x)
   refine X1u A.hst.sat R h4 Q ok m O fun d u N f=>?_
   rw[hi] at f⊢
   exact p N f
end Go.Proofs.YtjdiakhipmggjaaGreatDoor

namespace Go.Proofs.YtjdiakhipmggjaaGreatDoor
open Go.Emb Go.RowKit Go.Kd Go.Hm
variable {w w' : World} {K : Value → World → Prop} {σ σ' : Q6} {ds : List Value} {room : Int} {cs : List Cel} {l : List Cla} {hp tv : Value}
theorem Wb {B d:Nat} {D m:Nat→Prop} {i c:World} {b:Q6} {g h:List Cel} {a:List Value} {G:Bool→Prop} {f:Bool} (hG:G f) (N:Nxt D w σ i b) (y:HeapIs B m b i hp tv room g) (p: ∀j,m j→D j∨w.heap.size≤j) (o: ¬m d) (A:w.heap.size≤d)
 (t:Kpt (fun j=>j=d) i c) (n:X3 c b) (z:Y2 b c d a) (q:a.length=3) (u:E0 b (Q4 l,room,h) a)
 (hh: ∀a f w' σ' D',G f→Nxt D w σ w' σ'→HeapIs B D' σ' w' hp tv room g→(∀j,D' j→D j∨w.heap.size≤j)→E0 σ' (Q4 l,room,h) a→K (.tuple #[.agg a.toArray, .bool f]) w'):
 Y7 P T.a (.pointer (some ⟨d,0,none⟩)) c fun s=>K (.tuple #[s, .bool f]) c:=by
 refine V1 z q ?_
 have r:Nxt (fun j=>j=d) i b c b:=⟨t,SLe.refl _,fun _ _=>rfl,n⟩
 exact hh a f c b m hG (N.chain r fun j C e=>by omega) (y.nx r fun k v e=>o (e▸v)) p u
set_option maxHeartbeats 2000000 in
theorem X4b {B:Nat} {D:Nat→Prop} {x:ActH} {xs:List Value} {cr:List Cel} (hs:X3 w σ) (hg:Glb σ) (hB:B≤w.heap.size) (h:HeapIs B D σ w hp tv room cs) (hr:E0 σ (Q4 l,room,cr) ds) (ht:Tab σ tv (Q4 l)) (wf:Wf l) (ok:Ok (Q4 l)) (hlen:(Q4 l).length≤1000)
 (good:GoodH W6 (Q4 l) room cs) (goodr:GoodH W6 (Q4 l) room cr) (h1:room≤1048576) (hx:Sb σ x xs) (hD0: ∀k,D k→B≤k)
 (hh: ∀ds' bb w' σ' D',(cr=cs→bb=true)→Nxt D w σ w' σ'→HeapIs B D' σ' w' hp tv room (S8 W6 (Q4 l) room cs x)→(∀j,D' j→D j∨w.heap.size≤j)→E0 σ' (Q4 l,room,S8 W6 (Q4 l) room cr x) ds'→K (.tuple #[.agg ds'.toArray, .bool bb]) w'):Q1 P F.z [hp, .agg ds.toArray, .agg xs.toArray] w K:=Q1V (by
 have hx0:=hx
 have hr0:=hr
 obtain ⟨lv,cv,rfl,hl,hc⟩:=E0.out hr
 obtain ⟨rfl,⟨b1,b2,b3,b4⟩,hv⟩:=hx
 have hcl:=K5 cs
 have hlf:=good.left
 unfold W1 at hlf
 have hclr:=K5 cr
 have hlr:=goodr.left
 unfold W1 at hlr
 unfold Hv
 refine Z0 hs fun q4 w1 σ1 hk1 hq4=>?_
 refine Z0 hk1.sat fun q5 w2 σ2 hk2 hq5=>?_
 have hS2:=hk1.trans hk2
 refine M9 hk2.sat fun b6 w3 σ3 hb6 hk3 hm6=>?_
 have hS3:=hS2.trans hk3
 have hB6:=M8 hb6 hS2
 have hq43:=(hq4.up hk2).up hk3
 have hq53:=hq5.up hk3
 have h3:=h.up hS3
 have hr3:=W5 hr0 ⟨hS3.le⟩
 have ht3:=ht.lift ⟨hS3.le⟩
 have hg3:=hg.lift ⟨hS3.le⟩
 refine W2 ?_
 refine ld (i:=0) hk3.sat hq53 rfl ?_
 refine I1 ?_
 have hDl: ∀k,D k→k<w.heap.size:=fun k hk=>(h.mem hk).2.1
 have htk:Z1 cs≤1048576:=by omega
 have htr:Z1 cr≤1048576:=by omega
 by_cases e0:x.kind=0
 ·rw[decide_eq_true e0]
  have ea:S8 W6 (Q4 l) room cs x=(Yq (Q4 l) room cs x.s).1:=by unfold S8;rw[if_pos e0]
  have er:S8 W6 (Q4 l) room cr x=(Yq (Q4 l) room cr x.s).1:=by unfold S8;rw[if_pos e0]
  rw[ea,er] at hh
  refine Z9 ?_
  refine Y4 hk3.sat hq43 rfl ?_
  refine W2 ?_
  refine ld (i:=1) hk3.sat hq53 rfl ?_
  refine X0q hk3.sat hr3 ok hlen b2 goodr.left h1 fun ds' w4 σ4 hk4 hr4=>?_
  refine J6 (vs:=[_,_]) rfl ?_
  refine J6 (vs:=[_,_]) rfl ?_
  have hS4:=hS3.trans hk4
  refine M9 hk4.sat fun b8 w5 σ5 hb8 hk5 hm8=>?_
  have hS5:=hS4.trans hk5
  have hB8:=M8 hb8 hS4
  have hr5:=W5 hr4 ⟨hk5.le⟩
  obtain ⟨lv',cv',hde,_,_⟩:=E0.out hr4
  subst hde
  refine Nt (ds:=[lv',I room,cv']) hm8 rfl rfl (by rw[List.all_toArray];exact List.all_eq_true.2 (Rep.one hr5)) fun w6 u6 hm86=>?_
  obtain ⟨σ7,hS7,hq8,l57,o7⟩:=Q44 (x:=(Q4 l,room,(Yq (Q4 l) room cr x.s).1)) hS5 hB8 hm8 u6 hm86
  have l37:SLe σ3 σ7:=(SLe.more ⟨hk4.le⟩ ⟨hk5.le⟩).more l57
  have hb68:b6≠b8:=by have:=(hm6.up hk4).lt;omega
  have hm66:=((hm6.up hk4).up hk5).upd u6 hb68
  have hm67:Y2 σ7 w6 b6 _:=⟨(o7 b6 hb68).trans hm66.1,hm66.2⟩
  have hq57:=hq53.lift l37
  have hq47:=hq43.lift l37
  refine W2 ?_
  refine ld (i:=1) hS7.sat hq57 rfl ?_
  refine Q5I hS7.sat (Nat.le_trans hB hS7.bel.size) (h.up hS7) (ht.lift ⟨hS7.le⟩) ok b2 good.left h1 fun w8 σ8 D8 N8 h8 hD8=>?_
  refine J6 (vs:=[_,_]) rfl ?_
  refine J6 (vs:=[_,_]) rfl ?_
  have N:=(Nxt.of_stp (D:=D) hS7).chain N8 fun k _ e=>e
  have hm68:=hm67.nx N8 fun e=>by have:=hDl _ e;omega
  have hne8: ¬D8 b6:=fun e=>by
   have:=hm67.lt
   rcases hD8 _ e with e | e
   ·have:=hDl _ e;omega
   ·omega
  have hD8': ∀j,D8 j→D j∨w.heap.size≤j:=fun j hj=>(hD8 j hj).imp id fun e=>Nat.le_trans hS7.bel.size e
  have hq48:=hq47.lift N8.le
  have hq88:=hq8.lift N8.le
  have hc8:Sl 2 H0 σ8 cv cr:=hc.lift N.le
  have hr8:=W5 hr5 (l57.more N8.le)
  have hsame:cr=cs→(Yq (Q4 l) room cr x.s).2=(Yq (Q4 l) room cs x.s).2:=fun h=>by rw[h]
  generalize (Yq (Q4 l) room cs x.s).2=e at*
  generalize (Yq (Q4 l) room cr x.s).2=f at*
  refine Q5H (w0:=Ku w8) (σ0:=fun _=>none) (n:=3) [lv',I room,cv'] (Yu N8.sat) (Nat.zero_le _) hm68 rfl rfl ?_
  unfold atM
  by_cases hfe:f=e
  case neg=>
   have hz0:decide (f=e)=false:=decide_eq_false hfe
   (repeat (apply J4;(· intros;(have hzz:=VarB.hs (by assumption));(repeat (rename_i hx;subst hx));(try simp only[hz0,decide_true,Bool.not_true,Bool.not_false,Bool.false_eq_true,Bool.true_eq_false,reduceIte,↓M2,M2,Mb,reduceIte]);(repeat' (first | (with_reducible exact F7 rfl) | (with_reducible exact Zs (Stp.bel (by (repeat (first | exact Stp.refl (by (first | assumption | exact Stp.sat (by assumption) | exact Hst.sat (by assumption))) | assumption | refine Stp.trans ?_ (by first | assumption | exact Hst.stp (by assumption)))))) rfl) | (with_reducible intro _) | (simp only[↓M2,M2,Mb,reduceIte]) | (with_reducible show Q2 _ _ _ _ _;first | refine X7 aS aL aR ?_ | refine Y4 aS aL aR ?_ | refine ld aS aL aR ?_) | (with_reducible show indexAddr _ _ _ _ _ _;refine Y0 aL au ?_) | (with_reducible show X2 _ _ _ _ _ _ _ _;refine Q8 aL ?_) | (with_reducible show F5 _ _ _ _ _ _;refine J0 aR ?_) | (with_reducible show pick _ _ _ _ _ _;refine M3 ?_) | (apply Wd;intro hh;(try simp only[hh,reduceIte,↓M2,M2,Mb,reduceIte]))));done)))
   refine Js (φ:=fun v _=>Value.agg [lv',I room,cv'].toArray=v) rfl (Rep.one hr5) (fun v w h=>h) ?_ hm68.1
   intros
   rename_i hm9
   (repeat (rename_i hx;subst hx))
   rename_i w9 hb9
   exact Wb (G:=fun b=>cr=cs→b=true) (fun h=>absurd (hsame h) hfe) N h8 hD8' hne8 hB6 hb9.kp hb9.hst.sat hm9 rfl hr8 hh
  subst hfe
  by_cases e1:f=0
  ·subst e1
   simp only[reduceIte]
   have hz0:decide True=true:=decide_true _
   (repeat (apply J4;(· intros;(have hzz:=VarB.hs (by assumption));(repeat (rename_i hx;subst hx));(try simp only[hz0,decide_true,Bool.not_true,Bool.not_false,Bool.false_eq_true,Bool.true_eq_false,reduceIte,↓M2,M2,Mb,reduceIte]);(repeat' (first | (with_reducible exact F7 rfl) | (with_reducible exact Zs (Stp.bel (by (repeat (first | exact Stp.refl (by (first | assumption | exact Stp.sat (by assumption) | exact Hst.sat (by assumption))) | assumption | refine Stp.trans ?_ (by first | assumption | exact Hst.stp (by assumption)))))) rfl) | (with_reducible intro _) | (simp only[↓M2,M2,Mb,reduceIte]) | (with_reducible show Q2 _ _ _ _ _;first | refine X7 aS aL aR ?_ | refine Y4 aS aL aR ?_ | refine ld aS aL aR ?_) | (with_reducible show indexAddr _ _ _ _ _ _;refine Y0 aL au ?_) | (with_reducible show X2 _ _ _ _ _ _ _ _;refine Q8 aL ?_) | (with_reducible show F5 _ _ _ _ _ _;refine J0 aR ?_) | (with_reducible show pick _ _ _ _ _ _;refine M3 ?_) | (apply Wd;intro hh;(try simp only[hh,reduceIte,↓M2,M2,Mb,reduceIte]))));done)))
   refine Js (φ:=fun v _=>Value.agg [lv',I room,cv'].toArray=v) rfl (Rep.one hr5) (fun v w h=>h) ?_ hm68.1
   intros
   rename_i hm9
   (repeat (rename_i hx;subst hx))
   rename_i w9 hb9
   exact Wb (G:=fun b=>cr=cs→b=true) (fun h=>by rw[h];exact decide_eq_true rfl) N h8 hD8' hne8 hB6 hb9.kp hb9.hst.sat hm9 rfl hr8 hh
  ·simp only[if_neg e1]
   have hz0:decide (f=0)=false:=decide_eq_false e1
   (repeat (apply J4;(· intros;(have hzz:=VarB.hs (by assumption));(repeat (rename_i hx;subst hx));(try simp only[hz0,decide_true,Bool.not_true,Bool.not_false,Bool.false_eq_true,Bool.true_eq_false,reduceIte,↓M2,M2,Mb,reduceIte]);(repeat' (first | (with_reducible exact F7 rfl) | (with_reducible exact Zs (Stp.bel (by (repeat (first | exact Stp.refl (by (first | assumption | exact Stp.sat (by assumption) | exact Hst.sat (by assumption))) | assumption | refine Stp.trans ?_ (by first | assumption | exact Hst.stp (by assumption)))))) rfl) | (with_reducible intro _) | (simp only[↓M2,M2,Mb,reduceIte]) | (with_reducible show Q2 _ _ _ _ _;first | refine X7 aS aL aR ?_ | refine Y4 aS aL aR ?_ | refine ld aS aL aR ?_) | (with_reducible show indexAddr _ _ _ _ _ _;refine Y0 aL au ?_) | (with_reducible show X2 _ _ _ _ _ _ _ _;refine Q8 aL ?_) | (with_reducible show F5 _ _ _ _ _ _;refine J0 aR ?_) | (with_reducible show pick _ _ _ _ _ _;refine M3 ?_) | (apply Wd;intro hh;(try simp only[hh,reduceIte,↓M2,M2,Mb,reduceIte]))));done)))
   refine Js (φ:=fun v _=>Value.agg [lv',I room,cv'].toArray=v) rfl (Rep.one hr5) (fun v w h=>h) ?_ hm68.1
   intros
   rename_i hm9
   (repeat (rename_i hx;subst hx))
   rename_i w9 hb9
   exact Wb (G:=fun b=>cr=cs→b=true) (fun _=>rfl) N h8 hD8' hne8 hB6 hb9.kp hb9.hst.sat hm9 rfl hr8 hh
 rw[decide_eq_false e0]
 refine Z4 ?_
 refine I1 ?_
 by_cases e1k:x.kind=1
 ·rw[decide_eq_true e1k]
  have ea:S8 W6 (Q4 l) room cs x=(Zc (Q4 l) room cs x.s x.n).1:=by unfold S8;rw[if_neg e0,if_pos e1k]
  have er:S8 W6 (Q4 l) room cr x=(Zc (Q4 l) room cr x.s x.n).1:=by unfold S8;rw[if_neg e0,if_pos e1k]
  rw[ea,er] at hh
  refine Z9 ?_
  refine Y4 hk3.sat hq43 rfl ?_
  refine W2 ?_
  refine ld (i:=1) hk3.sat hq53 rfl ?_
  refine W2 ?_
  refine ld (i:=2) hk3.sat hq53 rfl ?_
  refine X1Z hk3.sat hr3 b2 goodr.left h1 fun ds' w4 σ4 hk4 hr4=>?_
  refine J6 (vs:=[_,_]) rfl ?_
  refine J6 (vs:=[_,_]) rfl ?_
  have hS4:=hS3.trans hk4
  refine M9 hk4.sat fun b8 w5 σ5 hb8 hk5 hm8=>?_
  have hS5:=hS4.trans hk5
  have hB8:=M8 hb8 hS4
  have hr5:=W5 hr4 ⟨hk5.le⟩
  obtain ⟨lv',cv',hde,_,_⟩:=E0.out hr4
  subst hde
  refine Nt (ds:=[lv',I room,cv']) hm8 rfl rfl (by rw[List.all_toArray];exact List.all_eq_true.2 (Rep.one hr5)) fun w6 u6 hm86=>?_
  obtain ⟨σ7,hS7,hq8,l57,o7⟩:=Q44 (x:=(Q4 l,room,(Zc (Q4 l) room cr x.s x.n).1)) hS5 hB8 hm8 u6 hm86
  have l37:SLe σ3 σ7:=(SLe.more ⟨hk4.le⟩ ⟨hk5.le⟩).more l57
  have hb68:b6≠b8:=by have:=(hm6.up hk4).lt;omega
  have hm66:=((hm6.up hk4).up hk5).upd u6 hb68
  have hm67:Y2 σ7 w6 b6 _:=⟨(o7 b6 hb68).trans hm66.1,hm66.2⟩
  have hq57:=hq53.lift l37
  have hq47:=hq43.lift l37
  refine W2 ?_
  refine ld (i:=1) hS7.sat hq57 rfl ?_
  refine W2 ?_
  refine ld (i:=2) hS7.sat hq57 rfl ?_
  refine Q7l hS7.sat (Nat.le_trans hB hS7.bel.size) (h.up hS7) (ht.lift ⟨hS7.le⟩) b2 good.left h1 fun w8 σ8 D8 N8 h8 hD8=>?_
  refine J6 (vs:=[_,_]) rfl ?_
  refine J6 (vs:=[_,_]) rfl ?_
  have N:=(Nxt.of_stp (D:=D) hS7).chain N8 fun k _ e=>e
  have hm68:=hm67.nx N8 fun e=>by have:=hDl _ e;omega
  have hne8: ¬D8 b6:=fun e=>by
   have:=hm67.lt
   rcases hD8 _ e with e | e
   ·have:=hDl _ e;omega
   ·omega
  have hD8': ∀j,D8 j→D j∨w.heap.size≤j:=fun j hj=>(hD8 j hj).imp id fun e=>Nat.le_trans hS7.bel.size e
  have hq48:=hq47.lift N8.le
  have hq88:=hq8.lift N8.le
  have hc8:Sl 2 H0 σ8 cv cr:=hc.lift N.le
  have hr8:=W5 hr5 (l57.more N8.le)
  have hsame:cr=cs→(Zc (Q4 l) room cr x.s x.n).2=(Zc (Q4 l) room cs x.s x.n).2:=fun h=>by rw[h]
  generalize (Zc (Q4 l) room cs x.s x.n).2=e at*
  generalize (Zc (Q4 l) room cr x.s x.n).2=f at*
  refine Q5H (w0:=Ku w8) (σ0:=fun _=>none) (n:=3) [lv',I room,cv'] (Yu N8.sat) (Nat.zero_le _) hm68 rfl rfl ?_
  unfold atM
  by_cases hfe:f=e
  case neg=>
   have hz0:decide (f=e)=false:=decide_eq_false hfe
   (repeat (apply J4;(· intros;(have hzz:=VarB.hs (by assumption));(repeat (rename_i hx;subst hx));(try simp only[hz0,decide_true,Bool.not_true,Bool.not_false,Bool.false_eq_true,Bool.true_eq_false,reduceIte,↓M2,M2,Mb,reduceIte]);(repeat' (first | (with_reducible exact F7 rfl) | (with_reducible exact Zs (Stp.bel (by (repeat (first | exact Stp.refl (by (first | assumption | exact Stp.sat (by assumption) | exact Hst.sat (by assumption))) | assumption | refine Stp.trans ?_ (by first | assumption | exact Hst.stp (by assumption)))))) rfl) | (with_reducible intro _) | (simp only[↓M2,M2,Mb,reduceIte]) | (with_reducible show Q2 _ _ _ _ _;first | refine X7 aS aL aR ?_ | refine Y4 aS aL aR ?_ | refine ld aS aL aR ?_) | (with_reducible show indexAddr _ _ _ _ _ _;refine Y0 aL au ?_) | (with_reducible show X2 _ _ _ _ _ _ _ _;refine Q8 aL ?_) | (with_reducible show F5 _ _ _ _ _ _;refine J0 aR ?_) | (with_reducible show pick _ _ _ _ _ _;refine M3 ?_) | (apply Wd;intro hh;(try simp only[hh,reduceIte,↓M2,M2,Mb,reduceIte]))));done)))
   refine Js (φ:=fun v _=>Value.agg [lv',I room,cv'].toArray=v) rfl (Rep.one hr5) (fun v w h=>h) ?_ hm68.1
   intros
   rename_i hm9
   (repeat (rename_i hx;subst hx))
   rename_i w9 hb9
   exact Wb (G:=fun b=>cr=cs→b=true) (fun h=>absurd (hsame h) hfe) N h8 hD8' hne8 hB6 hb9.kp hb9.hst.sat hm9 rfl hr8 hh
  subst hfe
  by_cases e1:f=0
  ·subst e1
   simp only[reduceIte]
   have hz0:decide True=true:=decide_true _
   (repeat (apply J4;(· intros;(have hzz:=VarB.hs (by assumption));(repeat (rename_i hx;subst hx));(try simp only[hz0,decide_true,Bool.not_true,Bool.not_false,Bool.false_eq_true,Bool.true_eq_false,reduceIte,↓M2,M2,Mb,reduceIte]);(repeat' (first | (with_reducible exact F7 rfl) | (with_reducible exact Zs (Stp.bel (by (repeat (first | exact Stp.refl (by (first | assumption | exact Stp.sat (by assumption) | exact Hst.sat (by assumption))) | assumption | refine Stp.trans ?_ (by first | assumption | exact Hst.stp (by assumption)))))) rfl) | (with_reducible intro _) | (simp only[↓M2,M2,Mb,reduceIte]) | (with_reducible show Q2 _ _ _ _ _;first | refine X7 aS aL aR ?_ | refine Y4 aS aL aR ?_ | refine ld aS aL aR ?_) | (with_reducible show indexAddr _ _ _ _ _ _;refine Y0 aL au ?_) | (with_reducible show X2 _ _ _ _ _ _ _ _;refine Q8 aL ?_) | (with_reducible show F5 _ _ _ _ _ _;refine J0 aR ?_) | (with_reducible show pick _ _ _ _ _ _;refine M3 ?_) | (apply Wd;intro hh;(try simp only[hh,reduceIte,↓M2,M2,Mb,reduceIte]))));done)))
   refine Js (φ:=fun v _=>Value.agg [lv',I room,cv'].toArray=v) rfl (Rep.one hr5) (fun v w h=>h) ?_ hm68.1
   intros
   rename_i hm9
   (repeat (rename_i hx;subst hx))
   rename_i w9 hb9
   exact Wb (G:=fun b=>cr=cs→b=true) (fun h=>by rw[h];exact decide_eq_true rfl) N h8 hD8' hne8 hB6 hb9.kp hb9.hst.sat hm9 rfl hr8 hh
  ·simp only[if_neg e1]
   have hz0:decide (f=0)=false:=decide_eq_false e1
   (repeat (apply J4;(· intros;(have hzz:=VarB.hs (by assumption));(repeat (rename_i hx;subst hx));(try simp only[hz0,decide_true,Bool.not_true,Bool.not_false,Bool.false_eq_true,Bool.true_eq_false,reduceIte,↓M2,M2,Mb,reduceIte]);(repeat' (first | (with_reducible exact F7 rfl) | (with_reducible exact Zs (Stp.bel (by (repeat (first | exact Stp.refl (by (first | assumption | exact Stp.sat (by assumption) | exact Hst.sat (by assumption))) | assumption | refine Stp.trans ?_ (by first | assumption | exact Hst.stp (by assumption)))))) rfl) | (with_reducible intro _) | (simp only[↓M2,M2,Mb,reduceIte]) | (with_reducible show Q2 _ _ _ _ _;first | refine X7 aS aL aR ?_ | refine Y4 aS aL aR ?_ | refine ld aS aL aR ?_) | (with_reducible show indexAddr _ _ _ _ _ _;refine Y0 aL au ?_) | (with_reducible show X2 _ _ _ _ _ _ _ _;refine Q8 aL ?_) | (with_reducible show F5 _ _ _ _ _ _;refine J0 aR ?_) | (with_reducible show pick _ _ _ _ _ _;refine M3 ?_) | (apply Wd;intro hh;(try simp only[hh,reduceIte,↓M2,M2,Mb,reduceIte]))));done)))
   refine Js (φ:=fun v _=>Value.agg [lv',I room,cv'].toArray=v) rfl (Rep.one hr5) (fun v w h=>h) ?_ hm68.1
   intros
   rename_i hm9
   (repeat (rename_i hx;subst hx))
   rename_i w9 hb9
   exact Wb (G:=fun b=>cr=cs→b=true) (fun _=>rfl) N h8 hD8' hne8 hB6 hb9.kp hb9.hst.sat hm9 rfl hr8 hh
 rw[decide_eq_false e1k]
 refine Z4 ?_
 refine I1 ?_
 have hv43:Z5 σ3 (q5.add 4) [I x.v.sort,I x.v.n,S x.v.s,I x.v.ref]:=hq53.tail (xs:=[_,_,_,_])
 have hvr:N3 σ x.v [I x.v.sort,I x.v.n,S x.v.s,I x.v.ref]:=⟨rfl,hv⟩
 by_cases e2k:x.kind=2
 ·rw[decide_eq_true e2k]
  have ea:S8 W6 (Q4 l) room cs x=(H2 W6 (Q4 l) cs x.ref x.n x.v).1:=by unfold S8;rw[if_neg e0,if_neg e1k,if_pos e2k]
  have er:S8 W6 (Q4 l) room cr x=(H2 W6 (Q4 l) cr x.ref x.n x.v).1:=by unfold S8;rw[if_neg e0,if_neg e1k,if_pos e2k]
  rw[ea,er] at hh
  have good':=(GoodH.set good x.ref x.n x.v).cells
  refine Z9 ?_
  refine Y4 hk3.sat hq43 rfl ?_
  refine W2 ?_
  refine ld (i:=3) hk3.sat hq53 rfl ?_
  refine W2 ?_
  refine ld (i:=2) hk3.sat hq53 rfl ?_
  refine W2 ?_
  refine Y4 hk3.sat hv43 rfl ?_
  refine X3x hk3.sat hr3 wf ok hlen goodr.cells htr ⟨rfl,hv⟩ fun ds' w4 σ4 hk4 hr4=>?_
  refine J6 (vs:=[_,_]) rfl ?_
  refine J6 (vs:=[_,_]) rfl ?_
  have hS4:=hS3.trans hk4
  refine M9 hk4.sat fun b8 w5 σ5 hb8 hk5 hm8=>?_
  have hS5:=hS4.trans hk5
  have hB8:=M8 hb8 hS4
  have hr5:=W5 hr4 ⟨hk5.le⟩
  obtain ⟨lv',cv',hde,_,_⟩:=E0.out hr4
  subst hde
  refine Nt (ds:=[lv',I room,cv']) hm8 rfl rfl (by rw[List.all_toArray];exact List.all_eq_true.2 (Rep.one hr5)) fun w6 u6 hm86=>?_
  obtain ⟨σ7,hS7,hq8,l57,o7⟩:=Q44 (x:=(Q4 l,room,(H2 W6 (Q4 l) cr x.ref x.n x.v).1)) hS5 hB8 hm8 u6 hm86
  have l37:SLe σ3 σ7:=(SLe.more ⟨hk4.le⟩ ⟨hk5.le⟩).more l57
  have hb68:b6≠b8:=by have:=(hm6.up hk4).lt;omega
  have hm66:=((hm6.up hk4).up hk5).upd u6 hb68
  have hm67:Y2 σ7 w6 b6 _:=⟨(o7 b6 hb68).trans hm66.1,hm66.2⟩
  have hq57:=hq53.lift l37
  have hv47:=hv43.lift l37
  have hr7:=W5 hr5 l57
  have hbD: ¬D b6:=fun e=>by have:=hDl _ e;omega
  refine X3d (w0:=Ku w6) (σ0:=fun _=>none) (n:=3) (H2 W6 (Q4 l) cs x.ref x.n x.v).1 [lv',I room,cv'] (Yu hS7.sat) (Nat.zero_le _) (Nat.zero_le _) hbD hm67 rfl rfl (h.up hS7) ?_
  (repeat (apply J4;(· intros;(have hzz:=SetB.hs (by assumption));(repeat (rename_i hx;subst hx));(repeat' (first | (with_reducible exact Q56 rfl) | (with_reducible exact X2r (Stp.bel (by (repeat (first | exact Stp.refl (by (first | assumption | exact Stp.sat (by assumption) | exact Hst.sat (by assumption))) | assumption | refine Stp.trans ?_ (by first | assumption | exact Hst.stp (by assumption)))))) rfl) | (with_reducible intro _) | (simp only[↓M2,M2,Mb,reduceIte]) | (with_reducible show Q2 _ _ _ _ _;first | refine X7 aS aL aR ?_ | refine Y4 aS aL aR ?_ | refine ld aS aL aR ?_) | (with_reducible show indexAddr _ _ _ _ _ _;refine Y0 aL au ?_) | (with_reducible show X2 _ _ _ _ _ _ _ _;refine Q8 aL ?_) | (with_reducible show F5 _ _ _ _ _ _;refine J0 aR ?_) | (with_reducible show pick _ _ _ _ _ _;refine M3 ?_)));done)))
  refine X2k (hg.lift ⟨hS7.le⟩) (ht.lift ⟨hS7.le⟩) ok good.cells good' ⟨rfl,hv⟩ hbD hm67.1 (fun _ _ h=>h) (fun _ _ h=>h) (fun _ _ h=>h) ?_
  refine J4 (V:= .bool (decide ((H2 W6 (Q4 l) cs x.ref x.n x.v).2=(H2 W6 (Q4 l) cr x.ref x.n x.v).2))) (fun t w hb ht=>?_) ?_
  ·obtain ⟨rfl,_,_⟩:=ht
   refine I1 ?_
   exact Q56 rfl
  refine X08 (φ:=fun v _=>Value.agg [lv',I room,cv'].toArray=v) rfl (Rep.one hr5) (fun v w h=>h) ?_ hm67.1 hbD
  intros
  rename_i hm9
  (repeat (rename_i hx;subst hx))
  rename_i hset
  (repeat (rename_i hx;subst hx))
  rename_i w9 hb9
  obtain ⟨_,hs9,h9⟩:=hset
  refine V1 hm9 rfl ?_
  have Nb:Nxt (fun j=>j=b6∨D j) w6 σ7 w9 σ7:=⟨hb9.kp,SLe.refl _,fun _ _=>rfl,hs9⟩
  exact hh _ _ w9 σ7 D (fun h=>by rw[h];exact decide_eq_true rfl) ((Nxt.of_stp (D:=D) hS7).chain Nb fun j hj e=>e.elim (fun e=>by omega) id) h9 (fun j hj=> .inl hj) hr7
 rw[decide_eq_false e2k]
 refine Z4 ?_
 refine I1 ?_
 by_cases e3k:x.kind=3
 ·rw[decide_eq_true e3k]
  have ea:S8 W6 (Q4 l) room cs x=cs:=by unfold S8;rw[if_neg e0,if_neg e1k,if_neg e2k,if_neg (by omega)]
  have er:S8 W6 (Q4 l) room cr x=cr:=by unfold S8;rw[if_neg e0,if_neg e1k,if_neg e2k,if_neg (by omega)]
  rw[ea,er] at hh
  refine Z9 ?_
  refine Y4 hk3.sat hq43 rfl ?_
  refine W2 ?_
  refine ld (i:=3) hk3.sat hq53 rfl ?_
  refine W2 ?_
  refine ld (i:=2) hk3.sat hq53 rfl ?_
  refine X44 hk3.sat hr3 fun w4 σ4 hk4=>?_
  refine J6 (vs:=[_,_]) rfl ?_
  refine J6 (vs:=[_,_]) rfl ?_
  refine Y8 (sz:=4) hk4.sat aR aR Sq fun q8 w5 σ5 hk5 hq8=>?_
  have hk35:=hk4.trans hk5
  have hS5:=hS3.trans hk35
  have h5:=h.up hS5
  have hq55:=hq53.lift ⟨hk35.le⟩
  refine W2 ?_
  refine ld (i:=3) hk35.sat hq55 rfl ?_
  refine W2 ?_
  refine ld (i:=2) hk35.sat hq55 rfl ?_
  obtain ⟨σf,sf,lef,hsl,of⟩:=h5.freeze hk35.sat
  refine X2P sf hsl fun w6 σ6 hk6=>?_
  refine J6 (vs:=[_,_]) rfl ?_
  refine J6 (vs:=[_,_]) rfl ?_
  refine Y8 (sz:=4) hk6.sat aR aR Sq fun q9 w7 σ7 hk7 hq9=>?_
  have hk57:=hk6.trans hk7
  have hS57:=hk57.weak lef.le
  have hS7:=hS5.trans hS57
  have l57:SLe σ5 σ7:=lef.more ⟨hk57.le⟩
  have hbD: ¬D b6:=fun e=>by have:=hDl _ e;omega
  have hm65:=hm6.up hk35
  have hm6f:Y2 σf w5 b6 _:=⟨(of b6 hbD).trans hm65.1,hm65.2⟩
  have hm67:=hm6f.up hk57
  have hq47:=(hq43.lift ⟨hk35.le⟩).lift l57
  have hq87:=hq8.lift l57
  refine Q5H (w0:=Ku w7) (σ0:=fun _=>none) (n:=3) [lv,I room,cv] (Yu hk57.sat) (Nat.zero_le _) hm67 rfl rfl ?_
  have n5:σ5 b6=none:=hm65.1
  have hq97:=hq9
  by_cases hge:Hj cr x.ref x.n=Hj cs x.ref x.n
  ·have hz0:decide True=true:=decide_true _
   (repeat (apply J4;(· intros;(have hzz:=VarB.hs (by assumption));(repeat (rename_i hx;subst hx));(try simp only[hz0,decide_true,Bool.not_true,Bool.not_false,Bool.false_eq_true,Bool.true_eq_false,reduceIte,↓M2,M2,Mb,reduceIte]);(repeat' (first | (with_reducible exact F7 rfl) | (with_reducible exact Zs (Stp.bel (by (repeat (first | exact Stp.refl (by (first | assumption | exact Stp.sat (by assumption) | exact Hst.sat (by assumption))) | assumption | refine Stp.trans ?_ (by first | assumption | exact Hst.stp (by assumption)))))) rfl) | (with_reducible intro _) | (simp only[↓M2,M2,Mb,reduceIte]) | (with_reducible show Q2 _ _ _ _ _;first | refine X7 aS aL aR ?_ | refine Y4 aS aL aR ?_ | refine ld aS aL aR ?_) | (with_reducible show indexAddr _ _ _ _ _ _;refine Y0 aL au ?_) | (with_reducible show X2 _ _ _ _ _ _ _ _;refine Q8 aL ?_) | (with_reducible show F5 _ _ _ _ _ _;refine J0 aR ?_) | (with_reducible show pick _ _ _ _ _ _;refine M3 ?_) | (apply Wd;intro hh;(try simp only[hh,reduceIte,↓M2,M2,Mb,reduceIte]))));done)))
   refine J4 (V:= .bool true) (by
    intros
    (repeat (rename_i hx;subst hx))
    refine Ds ?_
    exact F7 (by rw[hge,decide_eq_true rfl])) ?_
   (repeat (apply J4;(· intros;(have hzz:=VarB.hs (by assumption));(repeat (rename_i hx;subst hx));(try simp only[hz0,decide_true,Bool.not_true,Bool.not_false,Bool.false_eq_true,Bool.true_eq_false,reduceIte,↓M2,M2,Mb,reduceIte]);(repeat' (first | (with_reducible exact F7 rfl) | (with_reducible exact Zs (Stp.bel (by (repeat (first | exact Stp.refl (by (first | assumption | exact Stp.sat (by assumption) | exact Hst.sat (by assumption))) | assumption | refine Stp.trans ?_ (by first | assumption | exact Hst.stp (by assumption)))))) rfl) | (with_reducible intro _) | (simp only[↓M2,M2,Mb,reduceIte]) | (with_reducible show Q2 _ _ _ _ _;first | refine X7 aS aL aR ?_ | refine Y4 aS aL aR ?_ | refine ld aS aL aR ?_) | (with_reducible show indexAddr _ _ _ _ _ _;refine Y0 aL au ?_) | (with_reducible show X2 _ _ _ _ _ _ _ _;refine Q8 aL ?_) | (with_reducible show F5 _ _ _ _ _ _;refine J0 aR ?_) | (with_reducible show pick _ _ _ _ _ _;refine M3 ?_) | (apply Wd;intro hh;(try simp only[hh,reduceIte,↓M2,M2,Mb,reduceIte]))));done)))
   refine Js (φ:=fun v _=>Value.agg [lv,I room,cv].toArray=v) rfl (Rep.one hr3) (fun v w h=>h) ?_ hm67.1
   intros
   rename_i hm9
   (repeat (rename_i hx;subst hx))
   rename_i w9 hb9
   exact Wb (G:=fun b=>cr=cs→b=true) (fun h=>by rw[h];exact decide_eq_true rfl) (Nxt.of_stp (D:=D) hS7) (h5.up hS57) (fun j hj=> .inl hj) hbD hB6 hb9.kp (fun k o e=>hb9.hst.sat k o (l57.le k o e)) ⟨n5,hm9.2⟩ rfl (W5 hr0 ⟨hS7.le⟩) hh
  ·have hz0:decide True=true:=decide_true _
   (repeat (apply J4;(· intros;(have hzz:=VarB.hs (by assumption));(repeat (rename_i hx;subst hx));(try simp only[hz0,decide_true,Bool.not_true,Bool.not_false,Bool.false_eq_true,Bool.true_eq_false,reduceIte,↓M2,M2,Mb,reduceIte]);(repeat' (first | (with_reducible exact F7 rfl) | (with_reducible exact Zs (Stp.bel (by (repeat (first | exact Stp.refl (by (first | assumption | exact Stp.sat (by assumption) | exact Hst.sat (by assumption))) | assumption | refine Stp.trans ?_ (by first | assumption | exact Hst.stp (by assumption)))))) rfl) | (with_reducible intro _) | (simp only[↓M2,M2,Mb,reduceIte]) | (with_reducible show Q2 _ _ _ _ _;first | refine X7 aS aL aR ?_ | refine Y4 aS aL aR ?_ | refine ld aS aL aR ?_) | (with_reducible show indexAddr _ _ _ _ _ _;refine Y0 aL au ?_) | (with_reducible show X2 _ _ _ _ _ _ _ _;refine Q8 aL ?_) | (with_reducible show F5 _ _ _ _ _ _;refine J0 aR ?_) | (with_reducible show pick _ _ _ _ _ _;refine M3 ?_) | (apply Wd;intro hh;(try simp only[hh,reduceIte,↓M2,M2,Mb,reduceIte]))));done)))
   refine J4 (V:= .bool false) (by
    intros
    (repeat (rename_i hx;subst hx))
    refine Ds ?_
    exact F7 (by rw[decide_eq_false hge])) ?_
   (repeat (apply J4;(· intros;(have hzz:=VarB.hs (by assumption));(repeat (rename_i hx;subst hx));(try simp only[hz0,decide_true,Bool.not_true,Bool.not_false,Bool.false_eq_true,Bool.true_eq_false,reduceIte,↓M2,M2,Mb,reduceIte]);(repeat' (first | (with_reducible exact F7 rfl) | (with_reducible exact Zs (Stp.bel (by (repeat (first | exact Stp.refl (by (first | assumption | exact Stp.sat (by assumption) | exact Hst.sat (by assumption))) | assumption | refine Stp.trans ?_ (by first | assumption | exact Hst.stp (by assumption)))))) rfl) | (with_reducible intro _) | (simp only[↓M2,M2,Mb,reduceIte]) | (with_reducible show Q2 _ _ _ _ _;first | refine X7 aS aL aR ?_ | refine Y4 aS aL aR ?_ | refine ld aS aL aR ?_) | (with_reducible show indexAddr _ _ _ _ _ _;refine Y0 aL au ?_) | (with_reducible show X2 _ _ _ _ _ _ _ _;refine Q8 aL ?_) | (with_reducible show F5 _ _ _ _ _ _;refine J0 aR ?_) | (with_reducible show pick _ _ _ _ _ _;refine M3 ?_) | (apply Wd;intro hh;(try simp only[hh,reduceIte,↓M2,M2,Mb,reduceIte]))));done)))
   refine Js (φ:=fun v _=>Value.agg [lv,I room,cv].toArray=v) rfl (Rep.one hr3) (fun v w h=>h) ?_ hm67.1
   intros
   rename_i hm9
   (repeat (rename_i hx;subst hx))
   rename_i w9 hb9
   exact Wb (G:=fun b=>cr=cs→b=true) (fun h=>absurd (by rw[h]) hge) (Nxt.of_stp (D:=D) hS7) (h5.up hS57) (fun j hj=> .inl hj) hbD hB6 hb9.kp (fun k o e=>hb9.hst.sat k o (l57.le k o e)) ⟨n5,hm9.2⟩ rfl (W5 hr0 ⟨hS7.le⟩) hh
 rw[decide_eq_false e3k]
 refine Z4 ?_
 refine I1 ?_
 by_cases e4k:x.kind=4
 ·rw[decide_eq_true e4k]
  have ea:S8 W6 (Q4 l) room cs x=Sr cs x.ref:=by unfold S8;rw[if_neg e0,if_neg e1k,if_neg e2k,if_pos e4k]
  have er:S8 W6 (Q4 l) room cr x=Sr cr x.ref:=by unfold S8;rw[if_neg e0,if_neg e1k,if_neg e2k,if_pos e4k]
  rw[ea,er] at hh
  refine Z9 ?_
  refine W2 ?_
  refine ld (i:=3) hk3.sat hq53 rfl ?_
  refine X11 hk3.sat h3 htk b4 fun w4 σ4 D4 N4 h4 hD4=>?_
  have hq54:=hq53.lift N4.le
  have hq44:=hq43.lift N4.le
  refine Y4 N4.sat hq44 rfl ?_
  refine W2 ?_
  refine ld (i:=3) N4.sat hq54 rfl ?_
  refine X45 N4.sat (W5 hr3 N4.le) htr b4 fun ds' w5 σ5 hk5 hr5=>?_
  have hbD: ¬D b6:=fun e=>by have:=hDl _ e;omega
  have hm65:=(hm6.nx N4 hbD).up hk5
  obtain ⟨lv',cv',hde,_,_⟩:=E0.out hr5
  subst hde
  refine Nt (ds:=[lv',I room,cv']) hm65 rfl rfl (by rw[List.all_toArray];exact List.all_eq_true.2 (Rep.one hr5)) fun w6 u6 hm66=>?_
  have N:=(Nxt.of_stp (D:=D) hS3).chain (N4.trans (Nxt.of_stp hk5)) fun j _ e=>e
  exact Wb (G:=fun b=>cr=cs→b=true) (fun _=>rfl) N (h4.up hk5) (fun j hj=> .inl (hD4 j hj)) (fun e=>hbD (hD4 _ e)) hB6 (Kpt.of_upd u6 rfl) (u6.stp (Yu hk5.sat) (Nat.zero_le _) hm65.1).sat hm66 rfl hr5 hh
 rw[decide_eq_false e4k]
 refine Z4 ?_
 have ea:S8 W6 (Q4 l) room cs x=cs:=by unfold S8;rw[if_neg e0,if_neg e1k,if_neg e2k,if_neg e4k]
 have er:S8 W6 (Q4 l) room cr x=cr:=by unfold S8;rw[if_neg e0,if_neg e1k,if_neg e2k,if_neg e4k]
 rw[ea,er] at hh
 refine Y4 hk3.sat hq43 rfl ?_
 refine Nt (ds:=[lv,I room,cv]) hm6 rfl rfl (by rw[List.all_toArray];exact List.all_eq_true.2 (Rep.one hr3)) fun w6 u6 hm66=>?_
 have hbD: ¬D b6:=fun e=>by have:=hDl _ e;omega
 exact Wb (G:=fun b=>cr=cs→b=true) (fun _=>rfl) (Nxt.of_stp (D:=D) hS3) h3 (fun j hj=> .inl hj) hbD hB6 (Kpt.of_upd u6 rfl) (u6.stp (Yu hk3.sat) (Nat.zero_le _) hm6.1).sat hm66 rfl hr3 hh)
end Go.Proofs.YtjdiakhipmggjaaGreatDoor

namespace Go.Emb
theorem X4j {w:World} {A:World→Prop} (h:A w.drew):sq w A:=by rw[X1m];exact h
end Go.Emb
namespace Go.Proofs.YtjdiakhipmggjaaGreatDoor
open Go.Emb Go.RowKit Go.Kd Go.Hm
variable {w w' w0 : World} {K : Value → World → Prop} {σ σ' σ0 : Q6} {room : Int} {cs cr : List Cel} {hp tv : Value} {b6 : Nat}
structure RunG (w0 : World) (σ0 : Q6) (w : World) (σ : Q6) (hp tv : Value) (b6 : Nat) (room : Int) (cs cr : List Cel) : Prop where
  stp : Stp w0 σ0 w σ
  ex : ∃ D ds, HeapIs w0.heap.size D σ w hp tv room cs ∧ ¬ D b6 ∧ Y2 σ w b6 ds ∧ E0 σ (Q4 K0, room, cr) ds
  bge : w0.heap.size ≤ b6
  tab : Tab σ tv (Q4 K0)
  ok : Ok (Q4 K0)
  good : GoodH W6 (Q4 K0) room cs
  goodr : GoodH W6 (Q4 K0) room cr
  rm : room ≤ 1048576
abbrev Run (w0:World) (σ0:Q6) (w:World) (σ:Q6) (hp tv:Value) (b6:Nat) (room:Int) (cs:List Cel):Prop:=RunG w0 σ0 w σ hp tv b6 room cs cs
theorem RunG.up (R:RunG w0 σ0 w σ hp tv b6 room cs cr) (k:Stp w σ w' σ'):RunG w0 σ0 w' σ' hp tv b6 room cs cr:=by
 obtain ⟨D,ds,a,b,c,d⟩:=R.ex
 exact ⟨R.stp.trans k,⟨D,ds,a.up k,b,c.up k,W5 d ⟨k.le⟩⟩,R.bge,R.tab.lift ⟨k.le⟩,R.ok,R.good,R.goodr,R.rm⟩
theorem RunG.below (R:RunG w0 σ0 w σ hp tv b6 room cs cr) (k:Below w.heap.size w w'):RunG w0 σ0 w' σ hp tv b6 room cs cr:=R.up (Stp.of_below R.stp.sat k)
theorem RunG.takes (R:RunG w0 σ0 w σ hp tv b6 room cs cr):Z1 cs≤1048576:=by
 have a:=R.good.left
 have b:=R.rm
 unfold W1 at a
 omega
theorem RunG.freeze (R:RunG w0 σ0 w σ hp tv b6 room cs cr): ∃a ds,X3 w a∧SLe σ a∧S5 a hp tv room cs∧Y2 a w b6 ds∧E0 a (Q4 K0,room,cr) ds∧Tab a tv (Q4 K0):=by
 obtain ⟨D,ds,f,g,d,h⟩:=R.ex
 obtain ⟨a,e,b,c,of⟩:=f.freeze R.stp.sat
 exact ⟨a,ds,e,b,c,⟨(of b6 g).trans d.1,d.2⟩,W5 h b,R.tab.lift b⟩
theorem RunG.act {x:ActH} {c0 ds:List Value} {D:Nat→Prop} (R:RunG w0 σ0 w σ hp tv b6 room cs cr) (s:Glb σ0) (j:HeapIs w0.heap.size D σ w hp tv room cs) (m: ¬D b6) (l:Y2 σ w b6 ds) (o:E0 σ (Q4 K0,room,cr) ds) (p:Sb σ x c0)
 (h: ∀a b w' σ' D',HeapIs w0.heap.size D' σ' w' hp tv room (S8 W6 (Q4 K0) room cs x)→ ¬D' b6→Y2 σ' w' b6 ds→E0 σ' (Q4 K0,room,S8 W6 (Q4 K0) room cr x) a→Stp w0 σ0 w' σ'→SLe σ σ'→(cr=cs→b=true)→K (.tuple #[.agg a.toArray, .bool b]) w'):Q1 P F.z [hp, .agg ds.toArray, .agg c0.toArray] w K:=by
 refine X4b R.stp.sat (s.lift ⟨R.stp.le⟩) R.stp.bel.size j o R.tab Fu R.ok (by decide) R.good R.goodr R.rm p (fun k f=>(j.mem f).1) fun a b q t u d i r c g=>?_
 have n:=l.lt
 exact h a b q t u r (fun e=>(c _ e).elim m fun e=>by omega) (l.nx i m) g (i.stp' R.stp fun k f=>(j.mem f).1) i.le d
theorem X2S {r:Int} (h:(Lit.int .u16 r).wf=true):0≤r:=by
 simp[Lit.wf,IntKind.min,IntKind.max,IntKind.signed,IntKind.bits] at h
 omega
theorem X1E {o:Operand} {r:Int} {A:Value→Value→Value→World→Prop} (W:X3 w σ) (L:Glb σ) (Q:0≤r)
 (h: ∀a b b6 w' σ',Run w σ w' σ' (.pointer (some a)) (.pointer (some b)) b6 (r % 301) []→A (.pointer (some a)) (.pointer (some ⟨b6,0,none⟩)) (.bool false) w'):
 Q1 P F.ak [.int .u16 r] w fun k w=>ext P k 0 w fun i w=>ext P k 1 w fun B w=>W0 P T.a w fun C w=>Y1 P T.a C B w fun _u w=>Q1 P F.aJ [] w fun y w=>J8 P .not y w fun g w=>Q0 g false w (fun w J=>J i w) fun v w=>Q0 g false w (Q3 P .eql T.a5 o (.const (.pointer none)) v (.pointer none)) fun u w=>pick P g (.bool true) u w fun p w=>A i C p w:=by
 have m:=Int.emod_nonneg r (show (301:Int)≠0 by decide)
 have N:=Int.emod_lt_of_pos r (show (0:Int)<301 by decide)
 refine Q7E W L Q fun b a D ds w1 σ1 d H f U ok=>?_
 refine J6 (vs:=[_,_]) rfl ?_
 refine J6 (vs:=[_,_]) rfl ?_
 refine M9 d.sat fun R X M j z l=>?_
 have q:=M8 j d
 refine Nt l rfl (by obtain ⟨Z,cv,rfl,_⟩:=E0.out f;rfl) (by rw[List.all_toArray];exact List.all_eq_true.2 (Rep.one f)) fun E O t=>?_
 have c:Stp w1 σ1 E M:=O.stp z j l.1
 have n:=d.trans c
 have V:Run w σ E M (.pointer (some ⟨b,0,none⟩)) (.pointer (some a)) R (r % 301) []:=⟨n,⟨D,ds,H.up c,fun e=>by have:=(H.mem e).2.1;omega,t,W5 f ⟨c.le⟩⟩,q,U.lift ⟨c.le⟩,ok,GoodH.empty m,GoodH.empty m,by omega⟩
 refine X1x c.sat (L.lift ⟨n.le⟩) fun Y σ4 s=>?_
 simp only[Bool.not_true,↓M1,M1,Mb,reduceIte]
 refine Q9W ?_
 exact h _ _ _ _ _ (V.up s)
theorem X3S {J:World→Prop} {i:Nat} {xs:List ActH} {v:Value} (hg:Glb σ0) (W:Sl 8 Sb σ0 v xs) (B:i<xs.length) (R:Run w0 σ0 w σ hp tv b6 room cs)
 (h: ∀w' σ' f,Run w0 σ0 w' σ' hp tv b6 room f→f=cs∨f=S8 W6 (Q4 K0) room cs xs[i]→J w'):
 indexAddr P T.q v (I i) w fun y w=>Q2 P T.m y w fun A w=>Q1 P F.ah [A] w fun z w=>X1 z (sq w fun w=>indexAddr P T.q v (I i) w fun t w=>Q2 P T.a (.pointer (some ⟨b6,0,none⟩)) w fun p w=>Q2 P T.m t w fun q w=>Q1 P F.z [hp,p,q] w fun j w=>ext P j 0 w fun s w=>ext P j 1 w fun V w=>Y1 P T.a (.pointer (some ⟨b6,0,none⟩)) s w fun _u w=>J w) (J w):=by
 have c:=W.up R.stp
 obtain ⟨c0,Q,L,H⟩:=c.el B
 refine Y0 c B ?_
 refine Y4 R.stp.sat Q L ?_
 refine X13 R.stp.sat H fun w1 m=>?_
 have C:=R.below m
 refine Q7 (fun _=>?_) (fun _=>h _ _ _ C (.inl rfl))
 refine X4j ?_
 have a:=C.below (Below.refl _ _).drew
 obtain ⟨D,ds,Z,U,E,o⟩:=a.ex
 refine Y0 c B ?_
 refine Cb E (by obtain ⟨M,N,rfl,_⟩:=E0.out o;rfl) ?_
 refine Y4 a.stp.sat Q L ?_
 refine a.act hg Z U E o H fun n bb w3 σ3 D3 X g b d l u _=>?_
 refine J6 (vs:=[_,_]) rfl ?_
 refine J6 (vs:=[_,_]) rfl ?_
 refine Nt b (by obtain ⟨M,N,rfl,_⟩:=E0.out o;rfl) (by obtain ⟨M,N,rfl,_⟩:=E0.out d;rfl) (by rw[List.all_toArray];exact List.all_eq_true.2 (Rep.one d)) fun w4 O r=>?_
 have G:=GoodH.act Fu Q1r a.good xs[i]
 exact h _ _ _ ⟨O.stp l a.bge b.1,⟨D3,n,X.nx (Nxt.of_upd l.sat O b.1) fun k Y e=>g (e▸Y),g,r,d⟩,a.bge,a.tab.lift u,a.ok,G,G,a.rm⟩ (.inr rfl)
theorem X2G {o1 o2 D X L N:Operand} {p:Int} {E:World→Prop} {xs:List ActH} {v:Value} (W:Glb σ0) (C:Sl 8 Sb σ0 v xs) (R:Run w0 σ0 w σ hp tv b6 room cs)
 (h: ∀w' σ' b,Run w0 σ0 w' σ' hp tv b6 room b→E w'):
 lp (α:=Value) (.int .i64 0) w fun c x Y w=>X2 P .len [T.q] T.e [false] [v] w fun k w=>Q3 P .lss T.e o1 o2 x k w fun a w=>Q0 a true w (fun w J=>J x w) fun B w=>Q0 a true w (Q3 P .lss T.e D X B (.int .i64 p)) fun o w=>pick P a o (.bool false) w fun n w=>X1 n (jn (α:=Unit) w (fun J w=>
  indexAddr P T.q v x w fun s w=>Q2 P T.m s w fun y w=>Q1 P F.ah [y] w fun t w=>X1 t (sq w fun w=>indexAddr P T.q v x w fun r w=>Q2 P T.a (.pointer (some ⟨b6,0,none⟩)) w fun l w=>Q2 P T.m r w fun m w=>Q1 P F.z [hp,l,m] w fun e w=>ext P e 0 w fun q w=>ext P e 1 w fun O w=>Y1 P T.a (.pointer (some ⟨b6,0,none⟩)) q w fun _u w=>J () w) (J () w))
  fun z Y w=>Q3 P .add T.e L N x (.int .i64 1) w fun u w=>c u w) (E w):=by
 refine U2 xs.length (fun i w'=> ∃σ' b,Run w0 σ0 w' σ' hp tv b6 room b) ⟨σ,cs,R⟩ fun i w1 d hi U=>?_
 obtain ⟨σ1,H,j⟩:=U
 have f:=C.up j.stp
 have A:=f.max
 refine Q8 f ?_
 refine Y9 ?_
 cases V:decide ((i:Int)<(xs.length:Nat)) with
 | false=>
  (try simp only[↓M1,M1,Mb,reduceIte])
  exact h _ _ _ j
 | true=>
  (try simp only[↓M1,M1,Mb,reduceIte])
  have g:i<xs.length:=by simpa using V
  refine Q7 (fun _=>?_) (fun _=>h _ _ _ j)
  refine U6 ?_
  refine X3S W C g j fun Z σ2 M Q _=>fun d2=>?_
  (try simp only[↓M1,M1,Mb,reduceIte])
  exact Y5 A g ⟨_,_,Q⟩
end Go.Proofs.YtjdiakhipmggjaaGreatDoor

namespace Go.Proofs.YtjdiakhipmggjaaGreatDoor
open Go.Emb Go.RowKit Go.Kd Go.Hm
variable {w w' w0 : World} {K : Value → World → Prop} {σ σ' σ0 : Q6} {room : Int} {cs : List Cel} {hp tv : Value} {b6 : Nat}
end Go.Proofs.YtjdiakhipmggjaaGreatDoor

namespace Go.Proofs.YtjdiakhipmggjaaGreatDoor
open Go.Emb Go.RowKit Go.Kd Go.Hm
variable {w w' w0 : World} {K : Value → World → Prop} {σ σ' σ0 : Q6} {room : Int} {cs : List Cel} {hp tv : Value} {b6 : Nat}
end Go.Proofs.YtjdiakhipmggjaaGreatDoor

namespace Go.Hm
open Go.Kd
variable {ok : X0 → Bool} {l : List Cla} {room : Int} {cs pre more : List Cel} {c : Cel} {k : X0} {n : Int}
end Go.Hm
namespace Go.Proofs.YtjdiakhipmggjaaGreatDoor
open Go.Emb Go.RowKit Go.Kd Go.Hm
variable {w w' w0 : World} {K : Value → World → Prop} {σ σ' σ0 : Q6} {room : Int} {cs : List Cel} {hp tv : Value} {b6 : Nat}
end Go.Proofs.YtjdiakhipmggjaaGreatDoor

namespace Go.Proofs.YtjdiakhipmggjaaGreatDoor
open Go.Emb Go.RowKit Go.Kd Go.Hm
variable {w w' w0 : World} {K : Value → World → Prop} {σ σ' σ0 σ1 : Q6} {room : Int} {cs cr : List Cel} {hp tv : Value} {b6 : Nat} {l : List Cla} {ds : List Value}
theorem Q7y (R:RunG w0 σ0 w σ hp tv b6 room cs cr) (h: ∀v w' σ',Stp w σ w' σ'→Sl 2 H0 σ' v cs→K v w'):Q1 P F.ad [hp] w K:=by
 obtain ⟨s,ds,q,a,c,_⟩:=R.freeze
 refine X21 q c R.takes fun v n u t b m=>?_
 have d:=b.weak a.le
 have f:=m.down (a.more ⟨b.le⟩)
 obtain ⟨r,o,j,p,g⟩:=f.freeze d.sat
 exact h v n r ⟨d.bel,o,j.le,fun k i=>g k fun e=>by have:=(f.mem e).1;omega⟩ p
end Go.Proofs.YtjdiakhipmggjaaGreatDoor

namespace Go.Hm
open Go.Kd
variable {ok : X0 → Bool} {l : List Cla} {room : Int} {cs more : List Cel}
theorem X2a {x:ActH} (d:x.kind≠4) (b:x.kind≠2∨(cs.length:Int)≤x.ref): ∃a,S8 ok l room (cs++more) x=cs++a:=by
 unfold S8
 split
 ·unfold Yq
  split
  ·exact ⟨more,rfl⟩
  split
  ·exact ⟨more,rfl⟩
  ·exact ⟨_,List.append_assoc _ _ _⟩
 split
 ·unfold Zc
  split
  ·exact ⟨more,rfl⟩
  split
  ·exact ⟨more,rfl⟩
  split
  ·exact ⟨more,rfl⟩
  ·exact ⟨_,List.append_assoc _ _ _⟩
 split
 ·rename_i c
  unfold H2
  split
  ·exact ⟨more,rfl⟩
  split
  ·unfold B8
   have:cs.length≤x.ref.toNat:=by rcases b with h | h<;>omega
   simp only
   rw[List.set_append_right _ _ this]
   exact ⟨_,rfl⟩
  ·exact ⟨more,rfl⟩
 ·exact ⟨more,rfl⟩
theorem GoodH.refs (h:GoodH ok l room cs):cs.any (fun c=>c.vals.any (C6 (cs.length:Int)))=false:=by
 rw[List.any_eq_false]
 intro c m
 rw[List.any_eq_true]
 rintro ⟨v,o,d⟩
 obtain ⟨i,r,rfl⟩:=List.getElem_of_mem o
 have b:=(h.cells c m).fits i r
 generalize c.vals[i]=v at*
 simp only[C6,Bool.and_eq_true,decide_eq_true_eq] at d
 obtain ⟨a,g⟩:=d
 unfold C7 at b
 have q:K3 ok cs v≠[]:=by
  intro e;rw[e] at b;simp at b
 apply q
 unfold K3
 have k: ¬v=Val.zero:=by rintro rfl;simp[Val.zero] at a
 have f: ¬v=⟨1,v.n,[],0⟩:=by intro e;rw[e] at a;simp at a
 have j: ¬(v=⟨2,v.n,[],0⟩∧(v.n=0∨v.n=1)):=by rintro ⟨e,_⟩;rw[e] at a;simp at a
 have p: ¬(v=⟨3,0,v.s,0⟩∧ok v.s=true):=by rintro ⟨e,_⟩;rw[e] at a;simp at a
 rw[if_neg k,if_neg f,if_neg j,if_neg p]
 split
 ·unfold O6
  have:L7 cs v.ref=false:=by simp only[L7,Bool.and_eq_false_iff,decide_eq_false_iff_not];right;omega
  rw[this];rfl
 ·rfl
theorem X2h (h:GoodH ok l room cs):Sr (cs++more) cs.length=cs:=by
 unfold Sr
 have e:(max (cs.length:Int) 0).toNat=cs.length:=by omega
 have a:max (cs.length:Int) 0=cs.length:=by omega
 rw[e,a]
 simp only[List.take_left,h.refs,Bool.false_eq_true,if_false]
end Go.Hm

namespace Go.Proofs.YtjdiakhipmggjaaGreatDoor
open Go.Emb Go.RowKit Go.Kd Go.Hm
variable {w w' w0 : World} {K : Value → World → Prop} {σ σ' σ0 σ1 : Q6} {room : Int} {cs cr : List Cel} {hp tv lv : Value} {b6 B : Nat} {D : Nat → Prop}
set_option maxHeartbeats 1000000 in
theorem Q8G {r:Int} {v v':Value} {xs ys:List ActH} (hs:X3 w σ) (hg:Glb σ) (hr:(Lit.int .u16 r).wf=true) (hv:Sl 8 Sb σ v xs) (af:Sl 8 Sb σ v' ys)
 (h: ∀w' σ',Stp w σ w' σ'→K (.bool true) w'):Q1 P F.cd [.int .u16 r,v,v'] w K:=Cs (by
 have bl:0≤r:=X2S hr
 unfold Vg
 refine X1E hs hg bl fun a b b6 w1 σ1 R1=>?_
 refine Z4 ?_
 refine X2G hg hv R1 fun w2 σ2 c R2=>?_
 obtain ⟨σf,bg,sf,bk,t,_⟩:=R2.freeze
 refine Q5C sf t ?_
 refine Q1o sf t R2.good.left R2.rm fun w3 a8=>?_
 have R3:=R2.below a8
 refine Q7y R3 fun cv w4 M ay ba=>?_
 have R4:=R3.up ay
 have b5:=K5 c
 have b2:=R2.takes
 have cn:=af.up R4.stp
 refine U2 ys.length (fun i w'=> ∃σ' more,RunG w σ w' σ' (.pointer (some a)) (.pointer (some b)) b6 (r % 301) (c++more) c∧SLe M σ') ⟨M,[],by rw[List.append_nil];exact R4,SLe.refl _⟩ fun i w5 d hi hk=>?_
 obtain ⟨σ5,more,N,l5⟩:=hk
 have g:=af.up N.stp
 have a5:=g.max
 have done: ∀{w':World},(∃σ' more,RunG w σ w' σ' (.pointer (some a)) (.pointer (some b)) b6 (r % 301) (c++more) c∧SLe M σ')→Q1 P F.aG [.pointer (some a),I c.length] w' fun bs w=>
  Q1 P F.aj [.pointer (some a)] w fun ab w=>
  Q3 P .eql T.e (.tmp 107) (.tmp 108) ab (I c.length) w fun f w=>
  Q0 f true w (fun w J=>J (.pointer (some a)) w) fun ak w=>
  Q0 f true w (Q1 P F.q [ak]) fun Z w=>
  Q0 f true w (fun w J=>J (I (W1 (r % 301) c)) w) fun X w=>
  Q0 f true w (Q3 P .eql T.e (.tmp 112) (.tmp 113) Z X) fun ap w=>
  pick P f ap (.bool false) w fun j w=>
  Q0 j true w (fun w J=>J (.pointer (some a)) w) fun al w=>
  Q0 j true w (Q1 P F.ad [al]) fun V w=>
  Q0 j true w (fun w J=>J cv w) fun U w=>
  Q0 j true w (Q1 P F.aT [V,U]) fun O w=>
  pick P j O (.bool false) w fun Y w=>
  K Y w:=by
  rintro w' ⟨σ',more,R,le⟩
  obtain ⟨D,ds,h1,h2,h3,Q⟩:=R.ex
  refine X11 R.stp.sat h1 R.takes ⟨by omega,by omega⟩ fun w6 σ6 D6 N6 h6 bd=>?_
  rw[X2h R4.good] at h6
  have n:RunG w σ w6 σ6 (.pointer (some a)) (.pointer (some b)) b6 (r % 301) c c:=⟨N6.stp' R.stp fun k hk=>(h1.mem hk).1,⟨D6,ds,h6,fun e=>h2 (bd _ e),h3.nx N6 h2,W5 Q N6.le⟩,R.bge,R.tab.lift N6.le,R.ok,R4.good,R4.good,R.rm⟩
  obtain ⟨σf,bg,sf,bk,t,_⟩:=n.freeze
  refine Q5C sf t ?_
  refine I1 ?_
  rw[decide_eq_true rfl]
  (repeat refine Hd.h ?_)
  refine Q1o sf t n.good.left n.rm fun w7 E=>?_
  (repeat refine Hd.h ?_)
  refine I1 ?_
  rw[decide_eq_true rfl]
  (repeat refine Hd.h ?_)
  have y:=n.below E
  refine Q7y y fun cd w8 σ8 ao W=>?_
  (repeat refine Hd.h ?_)
  have R8:=y.up ao
  refine X2N R8.stp.sat W (ba.lift (le.more (N6.le.more ⟨ao.le⟩))) fun w9 bf=>?_
  (repeat refine Hd.h ?_)
  exact h _ _ (R8.below bf).stp
 refine Q8 g ?_
 refine Y9 ?_
 cases hd:decide ((i:Int)<(ys.length:Nat)) with
 | false=>
  (repeat refine Hd.h ?_)
  refine Z4 ?_
  exact done ⟨_,_,N,l5⟩
 | true=>
  (repeat refine Hd.h ?_)
  refine Y9 ?_
  (repeat refine Hd.h ?_)
  have p:i<ys.length:=by simpa using hd
  refine Q7 (fun _=>?_) (fun _=>done ⟨_,_,N,l5⟩)
  refine Zy (fun _ w'=> ∃σ' more,RunG w σ w' σ' (.pointer (some a)) (.pointer (some b)) b6 (r % 301) (c++more) c∧SLe M σ') ?_ (fun _ d w6 bc=>?_)
  ·obtain ⟨c0,p1,p2,p3⟩:=g.el p
   have p4:=p3
   obtain ⟨rfl,_⟩:=p4
   refine Y0 g p ?_
   refine Y4 N.stp.sat p1 rfl ?_
   refine X13 N.stp.sat p3 fun w6 a6=>?_
   have n:=N.below a6
   have u: ∃σ' more,RunG w σ w6 σ' (.pointer (some a)) (.pointer (some b)) b6 (r % 301) (c++more) c∧SLe M σ':=⟨_,_,n,l5⟩
   cases (decide (ys[i].s.length≤100)&&decide (ys[i].v.s.length≤5000)) with
   | false=>
    (repeat refine Hd.h ?_)
    refine Z4 ?_
    exact u
   | true=>
    (repeat refine Hd.h ?_)
    refine Y0 g p ?_
    (repeat refine Hd.h ?_)
    refine ld (i:=0) n.stp.sat p1 rfl ?_
    (repeat refine Hd.h ?_)
    refine Xh ?_
    by_cases k4:ys[i].kind=4
    ·simp only[decide_eq_true k4,Bool.not_true]
     (repeat refine Hd.h ?_)
     refine Z4 ?_
     exact u
    simp only[decide_eq_false k4,Bool.not_false]
    (repeat refine Hd.h ?_)
    refine Y0 g p ?_
    (repeat refine Hd.h ?_)
    refine ld (i:=0) n.stp.sat p1 rfl ?_
    (repeat refine Hd.h ?_)
    refine Xh ?_
    have ah:(ys[i].kind≠2∨(c.length:Int)≤ys[i].ref)→(dr w6 fun L Br=>
     Q5 L (fun o=> ∀w,Br w→indexAddr P T.q v' (I i) w (dk L o w)) fun o=>
     Q5 L (fun A=> ∀w,Br w→Q2 P T.a (.pointer (some ⟨b6,0,none⟩)) w (dk L A w)) fun A=>
     Q5 L (fun q=> ∀m w,Br w→o m w→Q2 P T.m m w (dk L q w)) fun q=>
     ∀m aj z wy,Br wy→o m wy→A aj wy→q z wy→
     Q1 P F.z [.pointer (some a),aj,z] wy fun bp wx=> ∃σ' more,RunG w σ wx σ' (.pointer (some a)) (.pointer (some b)) b6 (r % 301) (c++more) c∧SLe M σ'):=by
     intro hk
     obtain ⟨D,ds,h1,h2,h3,Q⟩:=n.ex
     obtain ⟨σk,sk,lk,fk,bx⟩:=h3.freeze n.stp.sat
     have cf:=g.lift lk
     have cg:=p1.lift lk
     obtain ⟨lv,bv,rfl,_⟩:=E0.out Q
     refine U0 sk ?_
     (repeat refine J4 Qc ?_)
     (intros;(repeat (rename_i hx;subst hx));(try simp only[↓M2,M2,Mb,reduceIte]))
     rename_i w7 E
     have k7:=E.stp.weak lk.le
     have y:=n.up k7
     refine y.act hg (h1.up k7) h2 (h3.up k7) Q p3 fun b9 bb w8 σ8 D8 h5 a9 be ci a7 H _=>?_
     obtain ⟨C,a2⟩:=X2a (ok:=W6) (l:=Q4 K0) (room:=r % 301) (cs:=c) (more:=more) (x:=ys[i]) k4 hk
     have G:=GoodH.act Fu Q1r y.good ys[i]
     rw[a2] at h5 G
     exact ⟨σ8,C,⟨a7,⟨D8,_,h5,a9,be,W5 Q H⟩,y.bge,y.tab.lift H,y.ok,G,y.goodr,y.rm⟩,l5.more H⟩
    by_cases k2:ys[i].kind=2
    ·simp only[decide_eq_true k2,Bool.not_true]
     (repeat refine Hd.h ?_)
     refine Y0 g p ?_
     (repeat refine Hd.h ?_)
     refine ld (i:=3) n.stp.sat p1 rfl ?_
     (repeat refine Hd.h ?_)
     refine K9 ?_
     by_cases kr:(c.length:Int)≤ys[i].ref
     ·rw[decide_eq_true kr]
      (repeat refine Hd.h ?_)
      refine Z9 ?_
      exact ah (.inr kr)
     ·rw[decide_eq_false kr]
      (repeat refine Hd.h ?_)
      refine Z4 ?_
      exact u
    ·simp only[decide_eq_false k2,Bool.not_false]
     (repeat refine Hd.h ?_)
     refine Z9 ?_
     exact ah (.inl k2)
  ·obtain ⟨σ6,a0,n,l6⟩:=bc
   (try simp only[↓M1,M1,Mb,reduceIte])
   exact Y5 a5 p ⟨_,_,n,l6⟩)
end Go.Proofs.YtjdiakhipmggjaaGreatDoor

namespace Go.Proofs.YtjdiakhipmggjaaGreatDoor.heapCuts
open Go.ChangeShapes Go.WideShapes Go.ChangeAt Go.RowKit
open Go.Emb
theorem own : ownKnob Tryz.prog.godebug = none := by kernel_rfl
theorem lay : laidOutB Tryz.prog = true := by kernel_rfl
set_option maxRecDepth 100000 in
theorem X3b (os : Os) (started : os.Started) (H : Type) (enc : TypeId × Value → H) :
    ReturnsInHanded {} Tryz.checked os 9 .any (fun w args => (Rows.heapCutsSpec.pre enc Tryz.prog Tryz.f9 [] false w args ∧ laidMetH Tryz.prog laidAll w) ∧ sizedMet enc Tryz.prog Tryz.f9 (OpenSpec.ofChange Rows.heapCutsSpec) false w args) (Rows.heapCutsSpec.post enc Tryz.prog Tryz.f9 false true false false) := by
  refine returnsInHanded_of_change_and (C := Tryz.checked) (X := fun w _ => laidMetH Tryz.prog laidAll w) (fun _ _ _ hh h => h.of_heap hh) own started (by kernel_rfl) Tryz.func9
    (ChangeSpec.witness_shaped (enc := enc) (C := Tryz.checked) (os := os) (X := fun w _ => laidMetH Tryz.prog laidAll w) false (World.laidAll Tryz.prog os laidAll) #[.int .u16 0, .slice none 0 0, .slice none 0 0] 8 (World.laidAll_os _ _ _)
      (World.shaped_of_ZipB (by kernel_rfl) (by kernel_rfl)) (by kernel_rfl) (by kernel_rfl) (by kernel_rfl) (by rw [MakeChecks.laidMetH_plain _ _ _ (by kernel_rfl)]; exact laidMet_laidAll _ (by kernel_rfl) (by kernel_rfl))) ?_
  intro W base args ds gs before hval0 hW _ hsz0 hL _
  have hsz : (DataW.weightsEach Tryz.prog (Tryz.f9.params.toList ++ Rows.heapCutsSpec.plain.varTypes Tryz.prog) (ds ++ gs)).all (· ≤ reachBytes) = true := hsz0
  have hval : ∀ (j : Nat) t v, Tryz.f9.params[j]? = some t → args[j]? = some v → Value.okWide Tryz.prog W .any base t v := hval0
  have hW' := hW
  obtain ⟨p, q, hA0, hV, rfl, hfz, hnd⟩ := hW
  have hA : DataW.TrodAll enc Tryz.prog W 0 (fun _ => true) true Tryz.f9.params.toList args.toList ds p := hA0
  have hlt := DataW.TrodAll.lt hA
  rw [Tryz.params9] at hA hval hsz
  obtain ⟨v0, vs0, d0, ds0, p0, q0, hargs, rfl, rfl, h0, r0⟩ := trodAll_cons hA
  obtain ⟨v1, vs1, d1, ds1, p1, q1, rfl, rfl, rfl, h1, r1⟩ := trodAll_cons r0
  obtain ⟨v2, vs2, d2, ds2, p2, q2, rfl, rfl, rfl, h2, r2⟩ := trodAll_cons r1
  obtain ⟨rfl, rfl, rfl⟩ := trodAll_nil r2
  obtain rfl : args = #[v0, v1, v2] := by cases args; simp_all
  obtain ⟨rfl, rfl⟩ := trodVars_none hV
  have g0 : ∀ x ∈ p0, x.block < W.heap.size := fun x hx => hlt x (by simp [hx])
  have k0 := fun (W' : World) (bel : Below W.heap.size W W') => Below.trod lay (by kernel_rfl) (of_decide_eq_true (by kernel_rfl)) h0 bel g0
  obtain ⟨a0, rfl, _, _, w0⟩ := open_int Tryz.underlying43 (hval 0 43 v0 rfl rfl) h0
  have g1 : ∀ x ∈ p1, x.block < W.heap.size := fun x hx => hlt x (by simp [hx])
  have k1 := fun (W' : World) (bel : Below W.heap.size W W') => Below.trod lay (by kernel_rfl) (of_decide_eq_true (by kernel_rfl)) h1 bel g1
  obtain ⟨l1, e1⟩ := Q7z (hval 1 44 v1 rfl rfl) h1 (Q9m hsz (j := 1) (t := 44) rfl rfl)
  have g2 : ∀ x ∈ p2, x.block < W.heap.size := fun x hx => hlt x (by simp [hx])
  have k2 := fun (W' : World) (bel : Below W.heap.size W W') => Below.trod lay (by kernel_rfl) (of_decide_eq_true (by kernel_rfl)) h2 bel g2
  obtain ⟨l2, e2⟩ := Q7z (hval 2 44 v2 rfl rfl) h2 (Q9m hsz (j := 2) (t := 44) rfl rfl)
  have hc : Q1 Tryz.prog 9 [.int .u16 a0, v1, v2] W (fun e w' => e = .bool true ∧ Below W.heap.size W w') := Q8G X07 (X38 hL) w0 e1 e2 (fun w' σ' hb => ⟨rfl, hb.bel⟩)
  refine (Q3B Tryz.func9 (by kernel_rfl) (by kernel_rfl) hc).mono fun e W' he => ?_
  obtain ⟨v, rfl⟩ : ∃ v, e = .returned v := by cases e <;> first | exact ⟨_, rfl⟩ | exact he.elim
  obtain ⟨rfl, bel⟩ := he
  exact ⟨_, rfl, _, _, _, [], _, [], hW', trodAll_mk1 (shut_bool Tryz.underlying4 _), (trodAll_cons_mk (k0 W' bel) (trodAll_cons_mk (k1 W' bel) (trodAll_cons_mk (k2 W' bel) trodAll_mk0))), rfl, bel.frame _, fun h => by cases h⟩
theorem over : Rows.heapCutsRow.holds Tryz.pinned (OpenSpec.ofChange Rows.heapCutsSpec) :=
  OpenClaim.holds_of_wide 9 Tryz.f9 rfl rfl rfl rfl rfl rfl rfl ⟨rfl, rfl, rfl, rfl, rfl⟩ rfl rfl rfl rfl rfl (by kernel_rfl) Tryz.func9 (by kernel_rfl)
    (of_decide_eq_true (by kernel_rfl)) (by unfold Func.isWrapper; first | (rw [if_pos (by decide +kernel)]; kernel_rfl) | (rw [if_neg (by decide +kernel)]; exact ⟨rfl, rfl⟩))
    (fun os started H enc _ => X3b os started H enc)
end Go.Proofs.YtjdiakhipmggjaaGreatDoor.heapCuts
namespace Go.Proofs.YtjdiakhipmggjaaGreatDoor
theorem Q3O : Rows.HeapCutsSaid := heapCuts.over
end Go.Proofs.YtjdiakhipmggjaaGreatDoor
