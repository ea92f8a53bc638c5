/- Parts of a proof about the given program: its functions as texts of their own, what each computes, plain laws of that. The conditions of each stand in its statement. -/
import Derived.Test.YtjdiakhipmggjaaGreatDoorB5
import Derived.Test.YtjdiakhipmggjaaGreatDoorB4
import Derived.Test.YtjdiakhipmggjaaGreatDoorB3
import Derived.Test.YtjdiakhipmggjaaGreatDoorRows
import Derived.WalkKit
import Derived.ProofKit
import Derived.OpenShut
import Derived.ShutString
import Derived.ChangeOld
import Derived.Below
import Derived.SizedLaws
import Derived.Lay
import Derived.Carry
import Derived.MakeChecks
import Derived.PinnedBridge
set_option linter.unnecessarySimpa false
set_option linter.defProp false
set_option linter.unusedSectionVars false
set_option linter.unusedVariables false
set_option linter.unusedSimpArgs false
namespace Go.Hm
open Go.Kd
structure Alike (l m : List Cla) : Prop where
  lk : lk l = lk m
  len : l.length = m.length
  weigh : weigh l [] = weigh m []
section
variable {l m : List Cla} (h : Alike l m)
include h
end
theorem X1E {l:List Cla} {frm:Nat}: ∀(f:Nat) (a:List Nat) (i:Nat),∀y∈A7 l frm f a i,y∈a∨frm≤y:=by
 intro f
 induction f with
 | zero=>intro a i y hy;exact .inl hy
 | succ f d=>
  intro a i y hy
  simp only[A7] at hy
  split at hy
  ·exact .inl hy
  ·split at hy
   ·exact .inl hy
   ·rename_i e _
    rcases List.mem_append.1 hy with hy | hy
    ·exact Lw (p:=fun y=>frm≤y) _ _ (fun b x _ z c=>d b _ z c) y hy
    ·simp at hy;omega
theorem X0t {a:List Cla} (i:A4 a): ∀j∈W2 a 8,8≤j∧j<a.length:=by
 intro j c
 unfold W2 at c
 have e:=Lw (p:=fun y=>8≤y) _ _ (fun b x _ z d=>X1E _ b x z d) j c
 have g:=Lw (p:=fun y=>y<a.length) _ _ (fun b x f z d=>(Q5l i (by omega) _ b x (by
  have:=List.mem_of_mem_drop f
  simpa using this) z d).imp id (·.1)) j c
 exact ⟨e.resolve_left (by simp),g.resolve_left (by simp)⟩
end Go.Hm
namespace Go.Proofs.YtjdiakhipmggjaaGreatDoor
open Go.Emb Go.RowKit Go.Kd Go.Hm
end Go.Proofs.YtjdiakhipmggjaaGreatDoor

namespace Go.Hm
open Go.Kd
theorem Q7Q {a:List Cla} {m:Nat} (b:m<a.length):Z2 a (Y4 a m)=some m↔Z2 (a.take m) (Y4 a m)=none:=by
 have g:Y4 a m=a[m].name:=by unfold Y4;rw[List.getD_eq_getElem?_getD,List.getElem?_eq_getElem b];rfl
 unfold Z2
 rw[List.findIdx?_eq_some_iff_getElem,List.findIdx?_eq_none_iff]
 constructor
 ·rintro ⟨i,k,e⟩ c f
  obtain ⟨j,d,rfl⟩:=List.mem_take_iff_getElem.1 f
  simpa using e j (by omega)
 ·intro h
  refine ⟨b,by simp[g],fun j d=>?_⟩
  simpa using h a[j] (List.mem_take_iff_getElem.2 ⟨j,by omega,rfl⟩)
theorem Q8S {a:List Cla} (d:A4 a) {m:Nat} (b:m<a.length):Xn a (Y4 a m) (Y4 a m)=T1 a a[m]:=by
 have c:Y4 a m=a[m].name:=by unfold Y4;rw[List.getD_eq_getElem?_getD,List.getElem?_eq_getElem b];rfl
 unfold Xn T1
 rw[Yh d b,List.getD_eq_getElem?_getD,List.getElem?_eq_getElem b]
 simp only[Option.getD_some,c]
end Go.Hm
namespace Go.Proofs.YtjdiakhipmggjaaGreatDoor
open Go.Emb Go.RowKit Go.Kd Go.Hm
variable {w : World} {K : Value → World → Prop} {σ : Q6} {l : List Cla}
theorem Q8B: ∀c∈I3,Zy c=false:=by decide
theorem Q8l {c:Cla} (h:E0 c=0):Zy c=false:=by
 unfold E0 at h
 split at h
 ·cases h
 ·rename_i a;exact eq_false_of_ne_true a
set_option maxHeartbeats 4000000 in
theorem X1F {lv:Value} (hs:X3 w σ) (hl:Sl 8 V0 σ lv l) (c0:l.length≤900)
 (C: ∀i e w' z,Sy E0 l=some (i,e)→Stp w σ w' z→K (.tuple #[.slice none 0 0,I i,I e]) w')
 (h0: ∀v w' z,Sy E0 l=none→Stp w σ w' z→Sl 8 V0 z v (Q5 l)→Ok (Q5 l)→A4 (Q5 l)→K (.tuple #[v,I 0,I 0]) w'):Q1 P F.bO [lv] w K:=Q1a (by
 unfold Hg
 have B:I3.length=8:=rfl
 have dg:(Q5 l).length=8+l.length:=by simp[Q5,B]
 refine Q9P hs fun x0 w1 σ1 bk bg=>?_
 refine Q8g bg ?_
 rw[B]
 refine E7 l.length (fun n x w'=> ∃z,Stp w σ w' z∧V6 w.heap.size T.b 8 V0 z w' x (I3++l.take n)∧D6 E0 l 0=D6 E0 (l.drop n) n)
  ⟨σ1,bk,by simpa using bg,rfl⟩ fun n x w4 d D b=>?_
 obtain ⟨σ4,ad,az,L⟩:=b
 have Z:=hl.up ad
 refine Q8 Z ?_
 refine Z1 ?_
 refine Q7 (fun hh=>?_) (fun hh=>?_)
 ·have a:n<l.length:=by simpa using hh
  obtain ⟨b3,bu,bq,p1,r1⟩:=Z.elC a
  refine Y1 Z a ?_
  refine Y2 ad.sat p1 rfl ?_
  refine Q40 ad.sat r1 fun w6 σ6 aa=>?_
  have b6:=ad.trans aa
  have W:=Wj a L
  refine Zb ?_
  refine Q7 (fun m=>?_) (fun m=>?_)
  ·have A: ¬E0 l[n]=0:=by simpa using m
   rw[if_neg A] at W
   refine C _ _ _ _ ?_ b6
   unfold Sy
   rw[W]
  ·have hz:E0 l[n]=0:=by simpa using m
   rw[if_pos hz] at W
   refine Y1 (Z.up aa) a ?_
   refine Y2 aa.sat (p1.up aa) rfl ?_
   have cu:=az.up aa
   have r6:=RCl_lift r1 ⟨aa.le⟩
   refine Un (R:=V0) (x:=l[n]) b6 cu (by simpa [Value.cells] using r6) rfl rfl rfl (by simp[B];omega) (by simp[B];omega) fun s v' w9 σ9 c8 p cr a3=>?_
   refine O5 ?_
   refine J4 Z.max a ⟨σ9,p,?_,W⟩
   rw[List.take_add_one,List.getElem?_eq_getElem a,←List.append_assoc]
   exact cr
 have a: ¬n<l.length:=by simpa using hh
 rw[List.take_of_length_le (by omega)] at az
 rw[List.drop_eq_nil_of_le (by omega)] at L
 have L:D6 E0 l 0=none:=L
 have cb:=T0 L
 have bi: ∀c∈l,Qo c∧Nm c∧c.name≠[]:=fun c hc=>Fe (cb c hc)
 have q: ∀c∈Q5 l,Qo c:=fun c hc=>by
  rcases List.mem_append.1 hc with hc | hc
  ·exact (Ui c hc).1
  ·exact (bi c hc).1
 have a0: ∀c∈Q5 l,Nm c:=fun c hc=>by
  rcases List.mem_append.1 hc with hc | hc
  ·exact (Ui c hc).2.1
  ·exact (bi c hc).2.1
 have ac: ∀c∈Q5 l,Zy c=false:=fun c hc=>by
  rcases List.mem_append.1 hc with hc | hc
  ·exact Q8B c hc
  ·exact Q8l (cb c hc)
 have av:(Q5 l).length≤100000:=by omega
 unfold Sy at C h0
 rw[L] at C h0
 simp only at C h0
 obtain ⟨σ5,o,E,dw,cw⟩:=az.keep ad
 change Sl 8 V0 σ5 x (Q5 l) at E
 clear az ad Z a hh D L bg bk
 have t: ∀{n:Nat} (D:n<l.length),∃(h:8+n<(Q5 l).length),(Q5 l)[8+n]=l[n]:=fun {n} D=>⟨by omega,by
  unfold Q5
  rw[List.getElem_append_right (by rw[B];omega)]
  congr 1
  rw[B];omega⟩
 have br: ∀{n:Nat} (D:n<l.length),Y4 (Q5 l) (8+n)=l[n].name:=fun {n} D=>by
  obtain ⟨C,h2⟩:=t D
  rw[Pi C,h2]
 have cg: ∀j,j<8→(Z2 ((Q5 l).take j) (Y4 (Q5 l) j)).isSome=false:=by
  have hd: ∀j,j<8→(Z2 (I3.take j) (Y4 I3 j)).isSome=false:=by decide
  intro j hj
  have e1:(Q5 l).take j=I3.take j:=by unfold Q5;rw[List.take_append_of_le_length (by rw[B];omega)]
  have e2:Y4 (Q5 l) j=Y4 I3 j:=by
   unfold Y4 Q5;rw[List.getD_eq_getElem?_getD,List.getD_eq_getElem?_getD,List.getElem?_append_left (by rw[B];omega)]
  rw[e1,e2];exact hd j hj
 refine U2 l.length (fun n w'=>Stp w σ w' σ5∧ ∀j,j<8+n→(Z2 ((Q5 l).take j) (Y4 (Q5 l) j)).isSome=false) ⟨o,by simpa using cg⟩ fun n w5 d D b=>?_
 clear o
 obtain ⟨o,a2⟩:=b
 have ag:=hl.up o
 refine Q8 ag ?_
 refine Z1 ?_
 refine Q7 (fun hh=>?_) (fun hh=>?_)
 ·have a:n<l.length:=by simpa using hh
  obtain ⟨b3,bu,bq,p1,r1⟩:=ag.elC a
  refine Y1 ag a ?_
  (try simp only[↓M1,M1,Mb,reduceIte])
  refine ld o.sat p1 rfl ?_
  refine K0 o.sat E ?_
  rw[G8 (by omega) (by omega)]
  refine Zb ?_
  obtain ⟨X,e8⟩:=t a
  rw[←br a]
  have cc:=Q7Q X
  cases aq:Z2 ((Q5 l).take (8+n)) (Y4 (Q5 l) (8+n)) with
  | none=>
   rw[cc.2 aq]
   have e:decide (L6 (some (8+n))=(8:Nat)+(n:Int))=true:=by simp[L6]
   rw[e]
   (try simp only[↓M1,M1,Mb,reduceIte])
   refine Y5 ag.max a ⟨o,fun j hj=>?_⟩
   by_cases ej:j=8+n
   ·rw[ej,aq];rfl
   ·exact a2 j (by omega)
  | some i=>
   have A:Z2 (Q5 l) (Y4 (Q5 l) (8+n))≠some (8+n):=fun e=>by rw[cc.1 e] at aq;cases aq
   have e:decide (L6 (Z2 (Q5 l) (Y4 (Q5 l) (8+n)))=(8:Nat)+(n:Int))=false:=by
    rw[decide_eq_false_iff_not]
    intro e
    cases hf:Z2 (Q5 l) (Y4 (Q5 l) (8+n)) with
    | none=>rw[hf] at e;simp only[L6] at e;omega
    | some k=>
     rw[hf] at e A
     simp only[L6] at e
     apply A
     congr 1;omega
   rw[e]
   (try simp only[↓M1,M1,Mb,reduceIte])
   have Y:Ci (Q5 l)=some (8+n):=by
    unfold Ci
    rw[List.find?_range_eq_some]
    refine ⟨by rw[aq];rfl,by simpa using X,fun j hj=>by rw[a2 j hj];rfl⟩
   refine C _ _ _ _ ?_ o
   rw[Y]
   have:((8+n:Nat):Int)-8=n:=by omega
   simp only[this]
 have a: ¬n<l.length:=by simpa using hh
 have Y:Ci (Q5 l)=none:=by
  unfold Ci
  rw[List.find?_eq_none]
  intro j hj
  rw[a2 j (by have:=List.mem_range.1 hj;omega)];simp
 rw[Y] at C h0
 simp only at C h0
 have g:=Pw Y
 clear a2 hh a D ag cg
 refine U2 l.length (fun n w'=> ∃z,Stp w σ w' z∧SLe σ5 z∧D6 (fun c=>(D9 (Q5 l) c:Int)) l 0=D6 (fun c=>(D9 (Q5 l) c:Int)) (l.drop n) n) ⟨σ5,o,SLe.refl _,rfl⟩ fun n w6 d D b=>?_
 obtain ⟨σ9,p,ai,ab⟩:=b
 have aw:=hl.up p
 refine Q8 aw ?_
 refine Z1 ?_
 refine Q7 (fun hh=>?_) (fun hh=>?_)
 ·have a:n<l.length:=by simpa using hh
  obtain ⟨b3,bu,bq,p1,r1⟩:=aw.elC a
  refine Y1 aw a ?_
  refine Y2 p.sat p1 rfl ?_
  have M:=Wj a ab
  refine Q8M p.sat (E.lift ai) r1 fun w8 ck ar=>?_
  refine Zb ?_
  refine Q7 (fun m=>?_) (fun m=>?_)
  ·have A: ¬(D9 (Q5 l) l[n]:Int)=0:=by simpa using m
   rw[if_neg A] at M
   refine C _ _ _ _ ?_ (p.trans ar)
   rw[M]
  ·have hz:(D9 (Q5 l) l[n]:Int)=0:=by simpa using m
   rw[if_pos hz] at M
   refine O5 ?_
   exact Y5 aw.max a ⟨ck,p.trans ar,ai.more ⟨ar.le⟩,M⟩
 have a: ¬n<l.length:=by simpa using hh
 rw[List.drop_eq_nil_of_le (by omega)] at ab
 have ab:D6 (fun c=>(D9 (Q5 l) c:Int)) l 0=none:=ab
 rw[ab] at C h0
 simp only at C h0
 have b7:=T0 ab
 clear hh a D o aw
 refine Q0K p.sat (E.lift ai) g (by omega) (by omega) q fun vb dx bz ah ax=>?_
 have f:=p.trans ah
 have a6:=ai.more ⟨ah.le⟩
 have a1:(I8 (Q5 l)).length=(Q5 l).length:=by simp[I8]
 refine U2 l.length (fun n w'=>Stp w σ w' bz∧ ∀j (hj:j<l.length),j<n→T1 (Q5 l) l[j]=false) ⟨f,fun j _ h=>by omega⟩ fun n dm d D b=>?_
 clear f
 obtain ⟨f,a5⟩:=b
 have ay:=hl.up f
 refine Q8 ay ?_
 refine Z1 ?_
 refine Q7 (fun hh=>?_) (fun hh=>?_)
 ·have a:n<l.length:=by simpa using hh
  obtain ⟨X,e8⟩:=t a
  refine Xz ⟨by omega,by omega⟩ ?_
  have ec:((8:Nat):Int)+(n:Int)=((8+n:Nat):Int):=by omega
  rw[ec]
  obtain ⟨di,pb,_,rv,rfl,rb⟩:=ax.el (i:=8+n) (by rw[a1];exact X)
  have b4:(I8 (Q5 l))[8+n]'(by rw[a1];exact X)=(List.range (Q5 l).length).map fun j=>Xn (Q5 l) (Y4 (Q5 l) (8+n)) (Y4 (Q5 l) j):=by simp[I8]
  rw[b4] at rb
  obtain ⟨cm,bf,_,aj⟩:=rb.el (i:=8+n) (by simpa using X)
  have aj:cm=_:=aj
  subst aj
  simp only[List.getElem_map,List.getElem_range] at bf
  rw[Q8S g X,e8] at bf
  refine Y1 ax (by rw[a1];exact X) ?_
  refine X7 f.sat pb rfl ?_
  refine Xz ⟨by omega,by omega⟩ ?_
  rw[ec]
  refine Y1 rb (by simpa using X) ?_
  refine X7 f.sat bf rfl ?_
  cases b8:T1 (Q5 l) l[n] with
  | true=>
   (try simp only[↓M1,M1,Mb,reduceIte])
   have bh:l.findIdx? (T1 (Q5 l))=some n:=by
    rw[List.findIdx?_eq_some_iff_getElem]
    exact ⟨a,b8,fun j hj=>by simpa using a5 j (by omega) hj⟩
   refine C _ _ _ _ ?_ f
   rw[bh]
  | false=>
   (try simp only[↓M1,M1,Mb,reduceIte])
   refine Y5 ay.max a ⟨f,fun j hj c4=>?_⟩
   by_cases e:j=n
   ·subst e;exact b8
   ·exact a5 j hj (by omega)
 have a: ¬n<l.length:=by simpa using hh
 have be: ∀c∈l,T1 (Q5 l) c=false:=fun c hc=>by
  obtain ⟨j,hj,rfl⟩:=List.getElem_of_mem hc
  exact a5 j hj (by omega)
 have bh:l.findIdx? (T1 (Q5 l))=none:=by
  rw[List.findIdx?_eq_none_iff];exact be
 rw[bh] at C h0
 simp only at C h0
 clear a5 hh a D ay ax ah p a1
 have ap:=Q64 g (fun c hc=>(bi c hc).2.2) be
 have ak:X0A (Q5 l):=fun c hc u hu=>by
  rcases List.mem_append.1 hc with hc | hc
  ·rw[(Ui c hc).2.2] at hu;simp at hu
  ·have:=b7 c hc
   unfold D9 at this
   split at this
   ·simp at this
   ·split at this
    ·simp at this
    ·rename_i y
     have y:c.like.any (R7 (Q5 l))=false:=eq_false_of_ne_true y
     have:=List.any_eq_false.1 y u hu
     unfold R7 at this
     cases hd:lk (Q5 l) u with
     | none=>rw[hd] at this;simp at this
     | some d=>exact ⟨d,rfl⟩
 have bw:Ok (Q5 l):=⟨ap,av,q,ak,a0⟩
 have b9: ∀i (hi:i<(Q5 l).length),8≤i→ ∀u∈U3 (Q5 l)[i],∃j,Z2 (Q5 l) u=some j:=fun i hi X u hu=>by
  have al:i-8<l.length:=by omega
  obtain ⟨df,e8⟩:=t al
  have cj:(Q5 l)[i]=l[i-8]:=by rw[←e8];congr 1;omega
  rw[cj] at hu
  have a9:=List.getElem_mem al
  rcases List.mem_cons.1 hu with hu | hu
  ·have:=b7 _ a9
   unfold D9 at this
   split at this
   ·simp at this
   ·rename_i y
    unfold Xa at y
    rw[←hu] at y
    cases hd:lk (Q5 l) u with
    | none=>rw[hd] at y;simp at y
    | some d=>obtain ⟨_,_,j,hj,_⟩:=V3 hd;exact ⟨j,hj⟩
  ·obtain ⟨d,hd⟩:=ak _ (List.mem_append_right _ a9) u hu
   obtain ⟨_,_,j,hj,_⟩:=V3 hd;exact ⟨j,hj⟩
 refine Hb (R:=Wz) (e:=T.d) f (by decide) fun dj c6 bc ba _=>?_
 refine E7 l.length (fun n x' w'=> ∃z H,Stp w σ w' z∧SLe σ5 z∧V6 w.heap.size T.d 1 Wz z w' x' (ints H)∧Few (Q5 l) H∧H=(((List.range (Q5 l).length).drop 8).take n).foldl (fun H i=>Xt (Q5 l) 8 H i) [])
  ⟨bz,[],f.trans bc,a6,ba,⟨List.nodup_nil,by simp⟩,rfl⟩ fun n x' dv d D b=>?_
 clear ba bc f a6 ai
 obtain ⟨dp,H,U,O,am,ae,an⟩:=b
 have af:=hl.up U
 refine Q8 af ?_
 refine Z1 ?_
 refine Q7 (fun hh=>?_) (fun hh=>?_)
 ·have a:n<l.length:=by simpa using hh
  obtain ⟨X,e8⟩:=t a
  refine Xz ⟨by omega,by omega⟩ ?_
  have ec:((8:Nat):Int)+(n:Int)=((8+n:Nat):Int):=by omega
  rw[ec]
  refine X21 ap g (by omega) q (by omega) b9 ((Q5 l).length+1) X (Nat.lt_succ_of_le (Q1v _ _)) ae U (E.lift O) am fun de dd co ca ch ce=>?_
  refine O5 ?_
  refine J4 af.max a ⟨co,_,ca,O.more ch,ce,Is ap g (by omega) _ _ _ X ae,?_⟩
  rw[List.take_add_one,List.getElem?_drop,List.getElem?_range X,List.foldl_append,←an]
  rfl
 have a: ¬n<l.length:=by simpa using hh
 have cn:n=l.length:=by omega
 subst cn
 have bx:H=W2 (Q5 l) 8:=by
  rw[an,List.take_of_length_le (by rw[List.length_drop,List.length_range];omega)];rfl
 subst bx
 clear an hh a D
 have c3:=ae.len
 have cq:=X0t g
 obtain ⟨b5,bp,cf,a8,_⟩:=am.keep U
 have bm:=O.more ⟨a8⟩
 clear am U a8 O af
 have al:(ints (W2 (Q5 l) 8)).length=(W2 (Q5 l) 8).length:=by simp
 refine U2 (W2 (Q5 l) 8).length (fun n w'=> ∃z,Stp w σ w' z∧SLe b5 z∧ ∀j∈(W2 (Q5 l) 8).take n,V9 (Q5 l) ((Q5 l).getD j Cla.zero)=0) ⟨b5,bp,SLe.refl _,by simp⟩ fun n c9 d D b=>?_
 obtain ⟨dn,Q,N,a4⟩:=b
 have V:=cf.lift N
 refine Q8 V ?_
 rw[al]
 refine Z1 ?_
 refine Q7 (fun hh=>?_) (fun hh=>?_)
 ·have a:n<(W2 (Q5 l) 8).length:=by simpa using hh
  have b1:n<(ints (W2 (Q5 l) 8)).length:=by rw[al];exact a
  refine Y1 V b1 ?_
  obtain ⟨cs,pc,_,cp⟩:=V.el b1
  obtain ⟨rfl,_⟩:=cp
  simp only[List.getElem_map] at pc
  refine X7 Q.sat pc rfl ?_
  have b2:=(cq _ (List.getElem_mem a)).2
  have a3:(Q5 l).getD (W2 (Q5 l) 8)[n] Cla.zero=(Q5 l)[(W2 (Q5 l) 8)[n]]:=by rw[List.getD_eq_getElem?_getD,List.getElem?_eq_getElem b2];rfl
  refine Q6C Q.sat (E.lift (bm.more N)) bw g (by omega) ac b2 fun dh bn r=>?_
  have bd:=Q.trans r
  refine Zb ?_
  refine Q7 (fun m=>?_) (fun m=>?_)
  ·have A: ¬V9 (Q5 l) (Q5 l)[(W2 (Q5 l) 8)[n]]=0:=by simpa using m
   have c2:=V.up r
   have bv:=pc.up r
   refine J9 r.sat ?_
   (repeat refine J3 Qe ?_)
   (intros;(repeat (rename_i hx;subst hx));(try simp only[↓M2,M2,Mb,reduceIte]))
   rename_i ct a7
   refine X7 a7.sat bv rfl ?_
   refine Zm ⟨by omega,by omega⟩ ?_
   have J:(W2 (Q5 l) 8).find? (fun j=> !decide (V9 (Q5 l) ((Q5 l).getD j Cla.zero)=0))=some (W2 (Q5 l) 8)[n]:=by
    rw[List.find?_eq_some_iff_getElem]
    refine ⟨by rw[a3];simpa using A,n,a,rfl,fun j hj=>?_⟩
    have:=a4 _ (List.mem_take_iff_getElem.2 ⟨j,by omega,rfl⟩)
    rw[this];simp
   have:=C (((W2 (Q5 l) 8)[n]:Int)-8) (V9 (Q5 l) (Q5 l)[(W2 (Q5 l) 8)[n]]) ct bn (by rw[J];simp only[a3]) (bd.trans a7.stp)
   exact this
  ·have hz:V9 (Q5 l) (Q5 l)[(W2 (Q5 l) 8)[n]]=0:=by simpa using m
   refine O5 ?_
   refine Y5 (by omega) a ⟨bn,bd,N.more ⟨r.le⟩,fun j hj=>?_⟩
   rw[List.take_add_one,List.getElem?_eq_getElem a] at hj
   rcases List.mem_append.1 hj with hj | hj
   ·exact a4 j hj
   ·simp at hj;subst hj;rw[a3];exact hz
 ·have a: ¬n<(W2 (Q5 l) 8).length:=by simpa using hh
  rw[List.take_of_length_le (by omega)] at a4
  have J:(W2 (Q5 l) 8).find? (fun j=> !decide (V9 (Q5 l) ((Q5 l).getD j Cla.zero)=0))=none:=by
   rw[List.find?_eq_none]
   intro j hj
   rw[a4 j hj];simp
  rw[J] at h0
  exact h0 _ _ _ rfl Q (E.lift (bm.more N)) bw g)
end Go.Proofs.YtjdiakhipmggjaaGreatDoor

namespace Go.Proofs.YtjdiakhipmggjaaGreatDoor
open Go.Emb Go.RowKit Go.Kd Go.Hm
variable {w : World} {K : Value → World → Prop} {σ : Q6} {l : List Cla} {v : Value}
theorem Q84:(I8 l).length=l.length:=by simp[I8]
theorem Q9l {i:Nat} (a:i<(I8 l).length):(I8 l)[i]=(List.range l.length).map fun j=>Xn l (Y4 l i) (Y4 l j):=by simp[I8]
theorem Sl.elB {xs:List (List Bool)} {v:Value} (h:Sl 1 Q68 σ v xs) {i:Nat} (b:i<xs.length): ∃u,Z4 σ (Vw 1 v i) [u]∧Sl 1 Q3a σ u xs[i]:=by
 obtain ⟨cs,a,d,u,rfl,c⟩:=h.el b;exact ⟨u,a,c⟩
theorem Sl.elb {xs:List Bool} {v:Value} (h:Sl 1 Q3a σ v xs) {i:Nat} (c:i<xs.length):Z4 σ (Vw 1 v i) [.bool xs[i]]:=by
 obtain ⟨cs,b,d,a⟩:=h.el c
 have a:cs=_:=a
 subst a;exact b
theorem X2j {a b:X0} (n:X3 w σ) (q:Sl 8 V0 σ v (Q5 l)) (z:Wf l) (ok:Ok (Q5 l)) (H:(Q5 l).length≤1000) (Y:a.length≤U1) (hb:b.length≤U1) (h: ∀w' σ',Stp w σ w' σ'→K (.bool (Xo (Q5 l) a b)) w'):Q1 P F.bT [v,S a,S b] w K:=Q1b (by
 unfold Ew
 have y: ∀r,Xo (Q5 l) a b=r→K (.bool r) w:=fun r e=>by rw[←e];exact h _ _ (Stp.refl n)
 refine Dw n q Y ?_
 cases f:O3 (Q5 l) a with
 | false=>
  have O:Xo (Q5 l) a b=false:=by unfold Xo;simp[f]
  (try simp only[↓M1,M1,Mb,reduceIte])
  by_cases e:a=b
  ·have g:decide (a=b)=true:=by simpa using e
   simp only[g,↓M1,M1,Mb,reduceIte]
   refine Dw n q Y ?_
   rw[f]
   (try simp only[↓M1,M1,Mb,reduceIte])
   exact y _ O
  ·have g:decide (a=b)=false:=by simpa using e
   simp only[g,↓M1,M1,Mb,reduceIte]
   exact y _ O
 | true=>
 (try simp only[↓M1,M1,Mb,reduceIte])
 refine Dw n q hb ?_
 cases m:O3 (Q5 l) b with
 | false=>
  have O:Xo (Q5 l) a b=false:=by unfold Xo;simp[m]
  have g:decide (a=b)=false:=by
   rw[decide_eq_false_iff_not];rintro rfl;rw[f] at m;cases m
  simp only[g,↓M1,M1,Mb,reduceIte]
  exact y _ O
 | true=>
 (try simp only[↓M1,M1,Mb,reduceIte])
 by_cases e:a=b
 ·have g:decide (a=b)=true:=by simpa using e
  simp only[g,↓M1,M1,Mb,reduceIte]
  refine Dw n q Y ?_
  rw[f]
  (try simp only[↓M1,M1,Mb,reduceIte])
  exact y _ (z.sub_iff.2 ⟨f,m, .inl e⟩)
 have g:decide (a=b)=false:=by simpa using e
 simp only[g,↓M1,M1,Mb,reduceIte]
 refine Eh _ ?_
 have c:(∀(_:plain a=false∧plain b=false∧(a=R0∨(elem a≠[]∧b=U0)∨(lk (Q5 l) a≠none∧Hm.Reach (lk (Q5 l)) a b))),False)→K (.bool false) w:=fun hx=>y _ (eq_false_of_ne_true fun ht=>by
  obtain ⟨_,_,h3⟩:=z.sub_iff.1 ht
  rcases h3 with h3 | h3
  ·exact e h3
  ·exact hx h3)
 cases p:plain a with
 | true=>(try simp only[↓M1,M1,Mb,reduceIte]);exact c fun hx=>by rw[p] at hx;cases hx.1
 | false=>
 (try simp only[↓M1,M1,Mb,reduceIte])
 refine Eh _ ?_
 cases J:plain b with
 | true=>(try simp only[↓M1,M1,Mb,reduceIte]);exact c fun hx=>by rw[J] at hx;cases hx.2.1
 | false=>
 (try simp only[↓M1,M1,Mb,reduceIte])
 by_cases D:b=R0
 ·have g:decide (b=[110,117,108,108])=true:=by rw[decide_eq_true_eq];exact D
  simp only[g,↓M1,M1,Mb,reduceIte]
  refine c fun ⟨_,_,hx⟩=>?_
  rcases hx with hx | ⟨_,hx⟩ | ⟨_,hx⟩
  ·exact e (hx.trans D.symm)
  ·rw[D] at hx;exact absurd hx (by decide)
  ·obtain ⟨d,A⟩:=hx.right
   rw[D,z.none_null] at A;cases A
 have V:decide (b=[110,117,108,108])=false:=by rw[decide_eq_false_iff_not];exact D
 simp only[V,↓M1,M1,Mb,reduceIte]
 by_cases k:a=R0
 ·have g:decide (a=[110,117,108,108])=true:=by rw[decide_eq_true_eq];exact k
  simp only[g,↓M1,M1,Mb,reduceIte]
  exact y _ (z.sub_iff.2 ⟨f,m, .inr ⟨p,J, .inl k⟩⟩)
 have L:decide (a=[110,117,108,108])=false:=by rw[decide_eq_false_iff_not];exact k
 simp only[L,↓M1,M1,Mb,reduceIte]
 by_cases B:b=U0
 ·have g:decide (b=[79,98,106,101,99,116])=true:=by rw[decide_eq_true_eq];exact B
  simp only[g,↓M1,M1,Mb,reduceIte]
  exact y _ (by rw[B];exact z.sub_root f p)
 have X:decide (b=[79,98,106,101,99,116])=false:=by rw[decide_eq_false_iff_not];exact B
 simp only[X,↓M1,M1,Mb,reduceIte]
 refine K0 n q ?_
 refine K0 n q ?_
 refine P4 ?_
 rw[A5]
 cases t:Z2 (Q5 l) a with
 | none=>
  simp only[Option.isSome_none,↓M1,M1,Mb,reduceIte]
  refine c fun ⟨_,_,hx⟩=>?_
  rcases hx with hx | ⟨_,hx⟩ | ⟨hx,_⟩
  ·exact k hx
  ·exact B hx
  ·exact hx (by unfold lk;rw[t];rfl)
 | some i=>
 simp only[Option.isSome_some,↓M1,M1,Mb,reduceIte]
 cases M:Z2 (Q5 l) b with
 | none=>
  simp only[A5,Option.isSome_none,↓M1,M1,Mb,reduceIte]
  refine c fun ⟨_,_,hx⟩=>?_
  rcases hx with hx | ⟨_,hx⟩ | ⟨_,hx⟩
  ·exact k hx
  ·exact B hx
  ·obtain ⟨d,A⟩:=hx.right
   unfold lk at A;rw[M] at A;cases A
 | some j=>
 obtain ⟨hi,W⟩:=S8 t
 obtain ⟨Z,Q⟩:=S8 M
 simp only[A5,Option.isSome_some,↓M1,M1,Mb,reduceIte]
 simp only[L6]
 refine Q0K n q z.own (by omega) H ok.sm fun v1 w1 σ1 o E=>?_
 have s:i<(I8 (Q5 l)).length:=by rw[Q84];exact hi
 refine Y1 E s ?_
 obtain ⟨u,p1,U⟩:=Sl.elB E s
 refine X7 o.sat p1 rfl ?_
 rw[Q9l s] at U
 have C:j<((List.range (Q5 l).length).map fun j=>Xn (Q5 l) (Y4 (Q5 l) i) (Y4 (Q5 l) j)).length:=by simpa using Z
 refine Y1 U C ?_
 refine X7 o.sat (Sl.elb U C) rfl ?_
 (try simp only[↓M1,M1,Mb,reduceIte])
 simp only[List.getElem_map,List.getElem_range,W,Q]
 have N:Xo (Q5 l) a b=Xn (Q5 l) a b:=by
  obtain ⟨ca,R,_⟩:=Zr t
  rw[Bool.eq_iff_iff,z.sub_class R,Uq,Q0C]
  constructor
  ·rintro (⟨hx,_⟩ | hx)
   ·exact absurd hx e
   ·exact hx
  ·exact .inr
 rw[←N]
 exact h _ _ o)
end Go.Proofs.YtjdiakhipmggjaaGreatDoor

namespace Go.Proofs.YtjdiakhipmggjaaGreatDoor
open Go.Emb Go.RowKit Go.Kd Go.Hm
variable {w : World} {K : Value → World → Prop} {σ : Q6} {l : List Cla} {v : Value}
end Go.Proofs.YtjdiakhipmggjaaGreatDoor

namespace Go.Emb
open Go.RowKit Go.Hm
def E3 (σ:Q6) (x:List Cla×Int×List Cel) (ds:List Value):Prop:= ∃b a,ds=[b,I x.2.1,a]∧Sl 8 V0 σ b x.1∧Sl 2 H4 σ a x.2.2
instance:Rep E3:=⟨fun hk ⟨lv,cv,h1,h2,h3⟩=>⟨lv,cv,h1,h2.le hk,h3.le hk⟩,fun ⟨lv,cv,h1,h2,h3⟩ u hu=>by
 rw[h1] at hu;simp at hu;rcases hu with rfl | rfl | rfl
 ·exact Qa h2
 ·rfl
 ·exact Qa h3⟩
theorem L3 {σ σ':Q6} {x:List Cla×Int×List Cel} {cs:List Value} (h:E3 σ x cs) (k:SLe σ σ'):E3 σ' x cs:=Rep.up k.le h
theorem E3.out {σ:Q6} {l:List Cla} {room:Int} {cs:List Cel} {ds:List Value} (h:E3 σ (l,room,cs) ds): ∃b a,ds=[b,I room,a]∧Sl 8 V0 σ b l∧Sl 2 H4 σ a cs:=h
end Go.Emb
namespace Go.Proofs.YtjdiakhipmggjaaGreatDoor
open Go.Emb Go.RowKit Go.Kd Go.Hm
variable {w w' : World} {K : Value → World → Prop} {σ σ' : Q6} {ds : List Value} {room : Int} {cs : List Cel} {l : List Cla}
theorem Q8X {k:X0} (O:X3 w σ) (h: ∀w' σ',Stp w σ w' σ'→K (.agg [I (M3 k).sort,I (M3 k).n,S (M3 k).s,I (M3 k).ref].toArray) w'):Q1 P F.aP [S k] w K:=Al (by
 unfold Oi
 refine N1 O fun b w1 σ1 Y r y=>?_
 have hB:=N2 Y (Stp.refl O)
 refine W1 (cells:= #[I 0,I 0,S [],I 0]) (by kernel_rfl) ?_
 refine N1 r.sat fun J w2 L C v u=>?_
 have M:=r.trans v
 have g:=N2 C r
 have j:b≠J:=by have:=y.lt;omega
 refine Ob (ds:=[I 0,I 0,S [],I 0]) u rfl rfl (by rw[List.all_toArray];exact List.all_eq_true.2 Ev) fun U N a=>?_
 have o:=N.stp M g u.1
 have c:=(y.up v).upd N j
 have m: ∀(n:Int) (e:World),Y3 L e J [I n,I 0,S [],I 0]→Y3 L e b [I 0,I 0,S [],I 0]→Stp w σ e L→(∀w' σ',Stp w σ w' σ'→K (.agg [I n,I 0,S [],I 0].toArray) w')→Q2 P T.g (.pointer (some ⟨J,0,none⟩)) e fun B w=>
  Y0 P T.g (.pointer (some ⟨b,0,none⟩)) B w fun _u w=>
  Y8 P T.g (.pointer (some ⟨b,0,none⟩)) w fun W=>K W w:=fun n e t q R Z=>
  Sz t rfl (G1 q R hB rfl rfl Ev fun w5 E H=>V1 H rfl (Z _ _ E.stp))
 have X:decide (k=[105,110,116])=decide (k=P9):=rfl
 have Q:decide (k=[98,111,111,108])=decide (k=Ja):=rfl
 have A:decide (k=[116,101,120,116])=decide (k=D7):=rfl
 unfold M3 at h
 refine U6 ?_
 refine P7 ?_
 rw[X]
 by_cases q:k=P9
 ·simp only[if_pos q] at h
  have V:decide (k=Ja)=false:=by subst q;decide
  have D:decide (k=D7)=false:=by subst q;decide
  rw[decide_eq_true q]
  refine J6 ?_
  refine V7 ?_
  refine Jy (i:=0) a (by simp) rfl rfl fun e p f=>?_
  intro d
  refine U6 ?_
  refine P7 ?_
  rw[Q,V]
  refine Z6 ?_
  intro d
  refine U6 ?_
  refine P7 ?_
  rw[A,D]
  refine Z6 ?_
  intro d
  exact m 1 e f (c.upd p j) (p.stp o g a.1) h
 simp only[if_neg q] at h
 rw[decide_eq_false q]
 refine Z6 ?_
 intro d
 refine U6 ?_
 refine P7 ?_
 rw[Q]
 by_cases t:k=Ja
 ·simp only[if_pos t] at h
  have D:decide (k=D7)=false:=by subst t;decide
  rw[decide_eq_true t]
  refine J6 ?_
  refine V7 ?_
  refine Jy (i:=0) a (by simp) rfl rfl fun e p f=>?_
  intro d
  refine U6 ?_
  refine P7 ?_
  rw[A,D]
  refine Z6 ?_
  intro d
  exact m 2 e f (c.upd p j) (p.stp o g a.1) h
 simp only[if_neg t] at h
 rw[decide_eq_false t]
 refine Z6 ?_
 intro d
 refine U6 ?_
 refine P7 ?_
 rw[A]
 by_cases z:k=D7
 ·simp only[if_pos z] at h
  rw[decide_eq_true z]
  refine J6 ?_
  refine V7 ?_
  refine Jy (i:=0) a (by simp) rfl rfl fun e p f=>?_
  intro d
  exact m 3 e f (c.upd p j) (p.stp o g a.1) h
 ·simp only[if_neg z] at h
  rw[decide_eq_false z]
  refine Z6 ?_
  intro d
  exact m 0 U a c o h)
theorem Q9s (m:X3 w σ) (hh:E3 σ (l,room,cs) ds) (p:0≤V8 room cs) (y:room≤1048576) (h: ∀w' σ',Stp w σ w' σ'→K (I (V8 room cs)) w'):Q1 P F.aR [.agg ds.toArray] w K:=Tw (by
 obtain ⟨C,J,rfl,v,o⟩:=E3.out hh
 unfold Dp
 refine Z0 m fun q w1 σ1 f j=>?_
 have b:=f.sat
 have c:=o.up f
 refine V7 ?_
 refine ld b j rfl ?_
 unfold V8 at h p
 refine E7 cs.length (fun n x w'=>w'=w1∧x=I (room-Y9 (cs.take n))) ⟨rfl,by simp[Y9]⟩ fun n x z d t i=>?_
 obtain ⟨rfl,rfl⟩:=i
 have e:Y9 cs=Y9 (cs.take n)+Y9 (cs.drop n):=by rw[←T5,List.take_append_drop]
 have A:=M0 (cs.take n)
 have D:=M0 (cs.drop n)
 refine V7 ?_
 refine ld b j rfl ?_
 refine Q8 c ?_
 refine Z1 ?_
 refine Q7 (fun g=>?_) (fun g=>?_)
 ·have a:n<cs.length:=by simpa using g
  obtain ⟨s,r,k,E⟩:=Sl.elO c a
  refine V7 ?_
  refine ld b j rfl ?_
  refine Y1 c a ?_
  refine V7 ?_
  refine ld b r rfl ?_
  refine Q8 k ?_
  have H:Y9 (cs.drop n)=(1+(cs[n].vals.length:Int))+Y9 (cs.drop (n+1)):=by
   rw[List.drop_eq_getElem_cons a];simp only[Y9,List.map_cons,List.sum_cons]
  have B:=M0 (cs.drop (n+1))
  have u:Y9 (cs.take (n+1))=Y9 (cs.take n)+(1+(cs[n].vals.length:Int)):=by
   rw[List.take_add_one,List.getElem?_eq_getElem a,T5];simp[Y9]
  refine Xz ⟨by omega,by omega⟩ ?_
  refine Zm ⟨by omega,by omega⟩ ?_
  refine O5 ?_
  refine J4 c.max a ⟨rfl,?_⟩
  congr 1;omega
 ·have a: ¬n<cs.length:=by simpa using g
  rw[List.take_of_length_le (by omega)]
  exact h _ _ f)
theorem Q9S {n:X0} {k:Value} (j:X3 w σ) (d:Sl 8 V0 σ k l) (h:K (.bool (Qb l n)) w):Q1 P F.b7 [k,S n] w K:=By (by
 unfold Vv
 refine K0 j d ?_
 refine P4 ?_
 rw[A5]
 unfold Qb at h
 cases b:lk l n with
 | none=>
  rw[b] at h
  rw[Q0P b]
  simp only[Option.isSome_none,↓M1,M1,Mb,reduceIte]
  exact h
 | some c=>
  rw[b] at h
  obtain ⟨_,_,i,o,e⟩:=V3 b
  obtain ⟨a,f⟩:=List.getElem?_eq_some_iff.1 e
  obtain ⟨m,q,p,g,_⟩:=d.elC a
  rw[f] at g
  rw[o]
  simp only[Option.isSome_some,L6,↓M1,M1,Mb,reduceIte]
  refine Y1 d a ?_
  (try simp only[↓M1,M1,Mb,reduceIte])
  refine ld j g rfl ?_
  (try simp only[↓M1,M1,Mb,reduceIte])
  exact h)
theorem Q7F {r i:Int} (u:X3 w σ) (hh:E3 σ (l,room,cs) ds) (h: ∀w' σ',Stp w σ w' σ'→K (I (M4 cs r i)) w'):Q1 P F.aM [.agg ds.toArray,I r,I i] w K:=Ta (by
 obtain ⟨z,A,rfl,y,c⟩:=E3.out hh
 unfold Mu
 refine Z0 u fun q w1 σ1 a n=>?_
 have d:=a.sat
 have k:=c.up a
 refine Z1 ?_
 unfold M4 at h
 have b:M6 cs r=false→K (I 92) w1:=fun e=>by
  have:=h _ _ a
  rw[e] at this
  exact this
 by_cases s:r<0
 ·rw[decide_eq_true s]
  (try simp only[↓M1,M1,Mb,reduceIte])
  exact b (by simp only[M6,Bool.and_eq_false_iff,decide_eq_false_iff_not];left;omega)
 rw[decide_eq_false s]
 (try simp only[↓M1,M1,Mb,reduceIte])
 refine ld d n rfl ?_
 refine Q8 k ?_
 refine P4 ?_
 (try simp only[↓M1,M1,Mb,reduceIte])
 by_cases o:(cs.length:Int)≤r
 ·rw[decide_eq_true o]
  refine J6 ?_
  exact b (by simp only[M6,Bool.and_eq_false_iff,decide_eq_false_iff_not];right;omega)
 rw[decide_eq_false o]
 refine Z6 ?_
 have m:M6 cs r=true:=by simp only[M6,Bool.and_eq_true,decide_eq_true_eq];omega
 obtain ⟨j,rfl,g⟩:=O9.1 m
 rw[m,W4 g] at h
 obtain ⟨B,v,t,_⟩:=Sl.elO k g
 by_cases p:i<0
 ·rw[decide_eq_true p]
  (try simp only[↓M1,M1,Mb,reduceIte])
  have:=h _ _ a
  rw[if_pos rfl,if_neg (by omega)] at this
  exact this
 ·rw[decide_eq_false p]
  (try simp only[↓M1,M1,Mb,reduceIte])
  refine ld d n rfl ?_
  refine Y1 k g ?_
  (try simp only[↓M1,M1,Mb,reduceIte])
  refine ld d v rfl ?_
  refine Q8 t ?_
  refine P4 ?_
  (try simp only[↓M1,M1,Mb,reduceIte])
  have f:=h _ _ a
  refine Q7 (fun c=>?_) (fun c=>?_)
  ·have c:(cs[j].vals.length:Int)≤i:=by simpa using c
   rw[if_pos rfl,if_neg (by omega)] at f
   exact f
  ·have c: ¬(cs[j].vals.length:Int)≤i:=by simpa using c
   rw[if_pos rfl,if_pos (by omega)] at f
   exact f)
theorem X3G {r i:Int} (M:X3 w σ) (hh:E3 σ (l,room,cs) ds) (h: ∀w' σ',Stp w σ w' σ'→K (.tuple #[.agg [I (Ng cs r i).sort,I (Ng cs r i).n,S (Ng cs r i).s,I (Ng cs r i).ref].toArray,I (M4 cs r i)]) w'):Q1 P F.bQ [.agg ds.toArray,I r,I i] w K:=Q0j (by
 have B:=hh
 obtain ⟨W,X,rfl,U,N⟩:=E3.out hh
 unfold Eb
 refine Z0 M fun q w0 σ0 k z=>?_
 refine N1 k.sat fun b w1 σ1 O a C=>?_
 have v:=k.trans a
 have hB:=N2 O k
 have u:=z.up a
 refine Y2 a.sat u rfl ?_
 refine Q7F a.sat (L3 B ⟨v.le⟩) fun V Y c=>?_
 have o:=v.trans c
 have d:=c.sat
 have t:=C.up c
 have D:=u.up c
 refine Zb ?_
 unfold Ng at h
 by_cases p:M4 cs r i=0
 ·have e:decide (M4 cs r i=0)=true:=decide_eq_true p
  rw[if_pos p,p] at h
  simp only[e,Bool.not_true,↓M1,M1,Mb,reduceIte]
  obtain ⟨j,m,rfl,rfl,y,A⟩:=Uj p
  rw[W4 y,Int.toNat_natCast] at h
  have H:=N.up o
  obtain ⟨Z,Q,E,_⟩:=Sl.elO H y
  obtain ⟨R,J⟩:=Sl.elV E A
  refine ld d D rfl ?_
  refine Y1 H y ?_
  (try simp only[↓M1,M1,Mb,reduceIte])
  refine ld d Q rfl ?_
  refine Y1 E A ?_
  refine Y2 d R rfl ?_
  refine G1 t o hB rfl rfl (Rep.one J) fun L f g=>?_
  refine V1 g rfl ?_
  have e:cs[j].vals.getD m Val.zero=cs[j].vals[m]:=by rw[List.getD_eq_getElem?_getD,List.getElem?_eq_getElem A];rfl
  rw[e] at h
  exact h _ _ f.stp
 ·have e:decide (M4 cs r i=0)=false:=by simpa using p
  rw[if_neg p] at h
  simp only[e,Bool.not_false,↓M1,M1,Mb,reduceIte]
  refine W1 (cells:= #[I 0,I 0,S [],I 0]) (by kernel_rfl) ?_
  refine G1 (ds:=[I 0,I 0,S [],I 0]) t o hB rfl rfl Ev fun L f g=>?_
  refine V1 g rfl ?_
  exact h _ _ f.stp)
theorem X2O (r:X3 w σ) (hh:E3 σ (l,room,cs) ds) (ok:Ok l) (c:l.length≤1000) {k:X0} {u:Value} {i:Nat} (s:k.length≤U1) (j:elem k=[]→i<(Y6 l k).length)
 (h: ∀w' σ',Stp w σ w' σ'→K (S (Xk l k i)) w'):Q1 P F.bF [.agg ds.toArray, .agg [S k,u].toArray,I i] w K:=Ak (by
 obtain ⟨B,C,rfl,p,A⟩:=E3.out hh
 unfold Dn
 refine Z0 r fun z w0 σ0 f m=>?_
 refine Z0 f.sat fun q w1 σ1 a n=>?_
 have b:=f.trans a
 refine V7 ?_
 refine ld (i:=0) a.sat n rfl ?_
 refine X0G k (Nat.le_trans s (by decide)) ?_
 refine Zz ?_
 unfold Xk at h
 by_cases e:elem k=[]
 ·simp only[if_pos e] at h
  rw[decide_eq_true e]
  (try simp only[↓M1,M1,Mb,reduceIte])
  refine ld (i:=0) a.sat (m.up a) rfl ?_
  refine ld (i:=0) a.sat n rfl ?_
  refine Px a.sat (p.up b) ok.acy c ok.sm fun D v y g d=>?_
  refine Y1 d (j e) ?_
  obtain ⟨o,_⟩:=d.elF (j e)
  (try simp only[↓M1,M1,Mb,reduceIte])
  refine ld g.sat o rfl ?_
  have t:(Y6 l k).getD i Fld.zero=(Y6 l k)[i]'(j e):=by rw[List.getD_eq_getElem?_getD,List.getElem?_eq_getElem (j e)];rfl
  rw[t] at h
  exact h _ _ (b.trans g)
 ·simp only[if_neg e] at h
  rw[decide_eq_false e]
  (try simp only[↓M1,M1,Mb,reduceIte])
  exact h _ _ b)
theorem X3E {ok:X0→Bool} {b d:Int} {c:X0}:P6 ok cs ⟨0,b,c,d⟩=if b=0∧c=[]∧d=0 then R0 else []:=by
 simp[P6,Val.zero]
theorem X3L {ok:X0→Bool} {b d:Int} {c:X0}:P6 ok cs ⟨1,b,c,d⟩=if c=[]∧d=0 then P9 else []:=by
 simp[P6,Val.zero]
theorem X3O {ok:X0→Bool} {b d:Int} {c:X0}:P6 ok cs ⟨2,b,c,d⟩=if (c=[]∧d=0)∧(b=0∨b=1) then Ja else []:=by
 simp[P6,Val.zero]
theorem X3B {ok:X0→Bool} {b d:Int} {c:X0}:P6 ok cs ⟨3,b,c,d⟩=if (b=0∧d=0)∧ok c=true then D7 else []:=by
 simp[P6,Val.zero]
theorem X3A {ok:X0→Bool} {b d:Int} {c:X0}:P6 ok cs ⟨4,b,c,d⟩=if b=0∧c=[] then E1 cs d else []:=by
 simp[P6,Val.zero]
theorem X3z {ok:X0→Bool} {a b d:Int} {c:X0} (i:a≠0) (e:a≠1) (h:a≠2) (f:a≠3) (g:a≠4):P6 ok cs ⟨a,b,c,d⟩=[]:=by
 simp[P6,Val.zero,i,e,h,f,g]
set_option maxHeartbeats 2000000 in
theorem X4i {v:Val} (hs:X3 w σ) (hh:E3 σ (l,room,cs) ds) (hb:v.s.length≤U1) (h: ∀w' σ',Stp w σ w' σ'→K (S (P6 W3 cs v)) w'):Q1 P F.c3 [.agg ds.toArray, .agg [I v.sort,I v.n,S v.s,I v.ref].toArray] w K:=Q1O (by
 obtain ⟨lv,cv,rfl,hl,hc⟩:=E3.out hh
 unfold Hs
 refine Z0 hs fun q0 w0 σ0 J y=>?_
 refine Z0 J.sat fun q w1 σ1 D t=>?_
 have g:=J.trans D
 have f:=D.sat
 have y:=y.up D
 have Y:=hc.up g
 have k: ∀{Q:World} {σ2:Q6} {x:X0},Stp w σ Q σ2→P6 W3 cs v=x→K (S x) Q:=fun hS e=>by
  have:=h _ _ hS
  rw[e] at this
  exact this
 obtain ⟨a,b,c,d⟩:=v
 simp only at hb t
 have H: ∀r,M6 cs r=false→E1 cs r=[]:=fun r e=>by unfold E1;rw[e];rfl
 refine V7 ?_
 refine ld f t rfl ?_
 refine I2 ?_
 have z: ∀{A:Value→World→Prop},(∀p:Bool,p=(decide (d=0)&&decide (c=[]))→A (.bool p) w1)→Q0 (.bool (decide (d=0))) true w1 (fieldAddr P T.g (.pointer (some q)) 2) (fun V w=>
  Q0 (.bool (decide (d=0))) true w (Q2 P T.c V) fun ab w=>
  Q0 (.bool (decide (d=0))) true w (Q3 P .eql T.c (.tmp 11) (.const (.string ⟨#[]⟩)) ab (.string ⟨#[]⟩)) fun aa w=>
  pick P (.bool (decide (d=0))) aa (.bool false) w A):=fun {A} hA=>by
  cases hd:decide (d=0) with
  | false=>(try simp only[↓M1,M1,Mb,reduceIte]);exact hA false (by simp[hd])
  | true=>
   (try simp only[↓M1,M1,Mb,reduceIte])
   refine ld f t rfl ?_
   (try simp only[↓M1,M1,Mb,reduceIte])
   exact hA _ (by simp[hd])
 refine z fun p hp=>?_
 refine Jc (fun _ w'=>Stp w σ w' σ1∧P6 W3 cs ⟨a,b,c,d⟩=[]) ?_ (fun _ d' w' hz=>k hz.1 hz.2)
 refine V7 ?_
 refine ld (i:=0) f t rfl ?_
 refine I2 ?_
 have C:(p=true)↔(c=[]∧d=0):=by rw[hp];simp[and_comm]
 have E:p=false→ ¬(c=[]∧d=0):=fun e h=>by rw[C.2 h] at e;cases e
 by_cases W:a=0
 ·subst W
  rw[X3E] at*
  rw[decide_eq_true rfl]
  refine J6 ?_
  cases o:p with
  | false=>
   (try simp only[↓M1,M1,Mb,reduceIte])
   exact ⟨g,if_neg fun e=>E o e.2⟩
  | true=>
   have u:=C.1 o
   (try simp only[↓M1,M1,Mb,reduceIte])
   refine ld f t rfl ?_
   (try simp only[↓M1,M1,Mb,reduceIte])
   by_cases m:b=0
   ·rw[decide_eq_true m]
    (try simp only[↓M1,M1,Mb,reduceIte])
    exact k g (if_pos ⟨m,u⟩)
   ·rw[decide_eq_false m]
    (try simp only[↓M1,M1,Mb,reduceIte])
    exact ⟨g,if_neg fun e=>m e.1⟩
 rw[decide_eq_false W]
 refine Z6 ?_
 refine I2 ?_
 by_cases R:a=1
 ·subst R
  rw[X3L] at*
  rw[decide_eq_true rfl]
  refine J6 ?_
  cases o:p with
  | false=>exact Z6 ⟨g,if_neg (E o)⟩
  | true=>exact J6 (k g (if_pos (C.1 o)))
 rw[decide_eq_false R]
 refine Z6 ?_
 refine I2 ?_
 by_cases Z:a=2
 ·subst Z
  rw[X3O] at*
  rw[decide_eq_true rfl]
  refine J6 ?_
  cases o:p with
  | false=>
   (try simp only[↓M1,M1,Mb,reduceIte])
   exact ⟨g,if_neg fun e=>E o e.1⟩
  | true=>
   have u:=C.1 o
   (try simp only[↓M1,M1,Mb,reduceIte])
   refine ld f t rfl ?_
   (try simp only[↓M1,M1,Mb,reduceIte])
   by_cases m:b=0
   ·rw[decide_eq_true m]
    (try simp only[↓M1,M1,Mb,reduceIte])
    exact k g (if_pos ⟨u, .inl m⟩)
   ·rw[decide_eq_false m]
    (try simp only[↓M1,M1,Mb,reduceIte])
    refine ld f t rfl ?_
    (try simp only[↓M1,M1,Mb,reduceIte])
    by_cases N:b=1
    ·rw[decide_eq_true N]
     (try simp only[↓M1,M1,Mb,reduceIte])
     exact k g (if_pos ⟨u, .inr N⟩)
    ·rw[decide_eq_false N]
     (try simp only[↓M1,M1,Mb,reduceIte])
     exact ⟨g,if_neg fun e=>e.2.elim m N⟩
 rw[decide_eq_false Z]
 refine Z6 ?_
 refine I2 ?_
 by_cases O:a=3
 ·subst O
  rw[X3B] at*
  rw[decide_eq_true rfl]
  refine J6 ?_
  refine V7 ?_
  refine ld f t rfl ?_
  refine I2 ?_
  by_cases m:b=0
  case neg=>
   rw[decide_eq_false m]
   (try simp only[↓M1,M1,Mb,reduceIte])
   exact ⟨g,if_neg fun e=>m e.1.1⟩
  rw[decide_eq_true m]
  (try simp only[↓M1,M1,Mb,reduceIte])
  refine ld f t rfl ?_
  (try simp only[↓M1,M1,Mb,reduceIte])
  by_cases B:d=0
  case neg=>
   rw[decide_eq_false B]
   (try simp only[↓M1,M1,Mb,reduceIte])
   exact ⟨g,if_neg fun e=>B e.1.2⟩
  rw[decide_eq_true B]
  (try simp only[↓M1,M1,Mb,reduceIte])
  refine ld f t rfl ?_
  refine Gh X8 ?_
  refine Q52 ?_
  by_cases c0:c.length≤4096
  case neg=>
   rw[decide_eq_false (show¬(c.length:Int)≤4096 by omega)]
   (try simp only[↓M1,M1,Mb,reduceIte])
   exact ⟨g,if_neg fun e=>c0 (by have:=e.2;simp only[W3,Bool.and_eq_true,decide_eq_true_eq] at this;exact this.1)⟩
  rw[decide_eq_true (show (c.length:Int)≤4096 by omega)]
  (try simp only[↓M1,M1,Mb,reduceIte])
  refine ld f t rfl ?_
  refine Q4C hb f fun Q X=>?_
  have L:=g.trans (Stp.of_below f X)
  cases hv:Lib.validD c with
  | true=>
   (try simp only[↓M1,M1,Mb,reduceIte])
   exact k L (if_pos ⟨⟨m,B⟩,by simp[W3,hv,c0]⟩)
  | false=>
   (try simp only[↓M1,M1,Mb,reduceIte])
   exact ⟨L,if_neg fun e=>by have:=e.2;simp[W3,hv] at this⟩
 rw[decide_eq_false O]
 refine Z6 ?_
 refine I2 ?_
 by_cases a4:a=4
 case neg=>
  rw[decide_eq_false a4]
  exact Z6 ⟨g,X3z W R Z O a4⟩
 subst a4
 rw[X3A] at*
 rw[decide_eq_true rfl]
 refine J6 ?_
 refine V7 ?_
 refine ld f t rfl ?_
 refine I2 ?_
 by_cases m:b=0
 case neg=>
  rw[decide_eq_false m]
  (try simp only[↓M1,M1,Mb,reduceIte])
  exact ⟨g,if_neg fun e=>m e.1⟩
 rw[decide_eq_true m]
 (try simp only[↓M1,M1,Mb,reduceIte])
 refine ld f t rfl ?_
 (try simp only[↓M1,M1,Mb,reduceIte])
 by_cases c0:c=[]
 case neg=>
  rw[decide_eq_false c0]
  (try simp only[↓M1,M1,Mb,reduceIte])
  exact ⟨g,if_neg fun e=>c0 e.2⟩
 rw[decide_eq_true c0]
 (try simp only[↓M1,M1,Mb,reduceIte])
 refine ld f t rfl ?_
 refine P4 ?_
 rw[if_pos ⟨m,c0⟩] at*
 by_cases B:0≤d
 case neg=>
  rw[decide_eq_false B]
  (try simp only[↓M1,M1,Mb,reduceIte])
  exact ⟨g,H d (by simp[M6,B])⟩
 rw[decide_eq_true B]
 (try simp only[↓M1,M1,Mb,reduceIte])
 refine ld f t rfl ?_
 refine ld f y rfl ?_
 refine Q8 Y ?_
 refine Z1 ?_
 (try simp only[↓M1,M1,Mb,reduceIte])
 by_cases M:d<(cs.length:Int)
 case neg=>
  rw[decide_eq_false M]
  exact Z6 ⟨g,H d (by simp[M6,M])⟩
 rw[decide_eq_true M]
 refine J6 ?_
 obtain ⟨j,rfl,U⟩:=O9.1 (show M6 cs d=true by simp[M6,B,M])
 obtain ⟨vv,p1,p2,_⟩:=Sl.elO Y U
 refine ld f y rfl ?_
 refine ld f t rfl ?_
 refine Y1 Y U ?_
 (try simp only[↓M1,M1,Mb,reduceIte])
 refine ld f p1 rfl ?_
 exact k g (Yk U))
end Go.Proofs.YtjdiakhipmggjaaGreatDoor

namespace Go.Emb
open Go.RowKit Go.Hm
section
variable {α : Type} {P : Program} {R R' : Q6 → α → List Value → Prop} {sz : Nat} {e : TypeId} {σ σ0 σ' : Q6} {v u : Value} {xs ys : List α} {w w0 w' : World} {K : Value → World → Prop}
theorem X0w {t A:TypeId} {p:Nat} {z:Value} {cs:List Bool} [ts:TS P t e] [tz:TZ P e sz p z] [hr:Rep R] [hr':Rep R'] (D:Stp w0 σ0 w σ) (ha:V6 w0.heap.size e sz R σ w v xs) (M:X3 w σ') (Q:Sl sz R' σ' u ys) (hR: ∀x cs,R' σ' x cs→R σ x cs) (E:(z.cells.size==sz&&decide (0<sz))=true)
 (hb:(xs.length+ys.length)*p≤140737488355328) (hm:xs.length+ys.length≤9223372036854775807)
 (h: ∀d w',w.grownBy w' v.ownBlock→Stp w0 σ0 w' σ→V6 w0.heap.size e sz R σ w' d (xs++ys)→(d.ownBlock=v.ownBlock∨ ∀k,d.ownBlock=some k→w.heap.size≤k)→K d w'):X2 P .append [t,t] A cs [v,u] w K:=by
 obtain ⟨cells,y,W,h3⟩:=ha
 obtain ⟨a,n,c,rfl,X,V,n3,n4,n5⟩:=Q.cells M
 obtain ⟨i,L,H,N,s⟩:=tz.info
 have r: ∀d w',(Builtin.append_ #[t,t] A #[v, .slice a ys.length n]).run P w= .ok d w'→w'.ownsRow w0.heap.size e sz d (xs.length+ys.length) (cells++c)→w.grownBy w' v.ownBlock→(d.ownBlock=v.ownBlock∨d.ownBlock=some w.heap.size)→X2 P .append [t,t] A cs [v, .slice a ys.length n] w K:=by
  intro d w' B f m hat
  have q:(builtin .append #[t,t] A cs.toArray #[v, .slice a ys.length n]).run P w= .ok (.value d) w':=by
   simp[builtin,B]
  unfold X2
  rw[T9];unfold P5
  rw[q]
  refine h d w' m (Stp.turn m D fun k o=>⟨(y.lt k o).1,W k o⟩) ⟨cells++c,by rw[List.length_append];exact f,?_,?_⟩ ?_
  ·intro k o
   rcases hat with hat | hat
   ·exact W k (hat▸o)
   ·rw[hat] at o;cases o;exact D.sat.none (Nat.le_refl _)
  ·intro j x C
   by_cases U:j<xs.length
   ·rw[List.getElem?_append_left U] at C
    rw[Wy cells c xs.length j y.1 U]
    exact h3 j x C
   ·rw[List.getElem?_append_right (by omega)] at C
    have:=hR _ _ (n5 _ _ C)
    rw[show j*sz=cells.length+(j-xs.length)*sz by rw[y.1,←Nat.add_mul];congr 1;omega,List.drop_append]
    simpa [List.drop_eq_nil_of_le] using this
  ·rcases hat with hat | hat
   ·exact .inl hat
   ·right;intro k o;rw[hat] at o;cases o;exact Nat.le_refl _
 simp only[Bool.and_eq_true,beq_iff_eq,decide_eq_true_eq] at E
 cases a with
 | some b=>
  obtain ⟨d,w',g1,g2,g3,_,Z⟩:=run_append_own_at (P:=P) w w0.heap.size t A e i z sz p ts.h L s H N E.1 E.2 v xs.length cells y b ys.length n c V (n3 b rfl) n4 (by simp only[maxLen];omega) hb D.bel.size
  exact r d w' g1 g2 g3 Z
 | none=>
  have hy:ys=[]:=List.eq_nil_of_length_eq_zero (by obtain ⟨a',Y,e',q1,_,q3,_⟩:=Q;injection e' with _ e2 e3;have:=X rfl;subst e3;omega)
  have O:=X rfl
  subst hy O
  have hn:c=[]:=List.eq_nil_of_length_eq_zero (by simpa using V)
  subst hn
  have f:=y
  rcases y.2 with ⟨rfl,h0⟩ | ⟨g,n,ae,rfl,af,hg,J,_⟩
  ·refine r (.slice none 0 0) w ?_ (by simpa using f) (World.grownBy.refl w _) (.inl rfl)
   simp[Builtin.append_,run_underlying ts.h,sizeOf,typeInfo,L,Builtin.lenOf,Builtin.firstCells]
  ·refine r _ w ?_ (by simpa using f) (World.grownBy.refl w _) (.inl rfl)
   simp[Builtin.append_,run_underlying ts.h,sizeOf,typeInfo,L,Builtin.lenOf,Builtin.firstCells,J,storeCells]
end
def Q5q {α:Type} (c:α) (ds:List Value) (_:Q6) (x:α) (cs:List Value):Prop:=x=c∧cs=ds∧ ∀u∈ds,u.oneCell'=true
instance {α:Type} (c:α) (ds:List Value):Rep (Q5q c ds):=⟨fun _ h=>h,fun h u hu=>h.2.2 u (h.2.1▸hu)⟩
end Go.Emb
namespace Go.Proofs.YtjdiakhipmggjaaGreatDoor
open Go.Emb Go.RowKit Go.Kd Go.Hm
variable {w w' : World} {K : Value → World → Prop} {σ σ' : Q6} {ds : List Value} {room : Int} {cs : List Cel} {l : List Cla}
theorem Q6A {c:Value} (b:Sl 2 H4 σ c cs) (r:Int):(E1 cs r).length≤U1:=by
 unfold E1
 split
 ·rename_i d
  obtain ⟨i,rfl,a⟩:=O9.1 d
  rw[W4 a]
  exact (Sl.elO b a).choose_spec.2.2
 ·exact Nat.zero_le _
theorem X0V {b:Value} (a:Sl 2 H4 σ b cs) (v:Val):(P6 W3 cs v).length≤U1:=by
 unfold P6
 split
 ·decide
 split
 ·decide
 split
 ·decide
 split
 ·decide
 split
 ·exact Q6A a _
 ·exact Nat.zero_le _
theorem X3a {v:Val} {k:X0} (A:X3 w σ) (hh:E3 σ (Q5 l,room,cs) ds) (H:Wf l) (ok:Ok (Q5 l)) (f:(Q5 l).length≤1000) (E:v.s.length≤U1) (C:k.length≤U1) (h: ∀w' σ',Stp w σ w' σ'→K (.bool (F5 W3 (Q5 l) cs v k)) w'):Q1 P F.bA [.agg ds.toArray, .agg [I v.sort,I v.n,S v.s,I v.ref].toArray,S k] w K:=Tv (by
 have r:=hh
 obtain ⟨N,O,rfl,z,B⟩:=E3.out hh
 unfold Oq
 refine Z0 A fun M w0 σ0 j p=>?_
 refine Z0 j.sat fun q w1 σ1 b D=>?_
 have m:=j.trans b
 have c:=b.sat
 have g:=p.up b
 refine Y2 c g rfl ?_
 refine Y2 c D rfl ?_
 refine X4i c (L3 r ⟨m.le⟩) E fun J Q a=>?_
 have d:=m.trans a
 refine Zz ?_
 unfold F5 at h
 have o:=X0V B v
 generalize P6 W3 cs v=y at*
 by_cases e:y=[]
 ·rw[decide_eq_true e] at h⊢
  (try simp only[↓M1,M1,Mb,reduceIte])
  exact h _ _ d
 ·rw[decide_eq_false e] at h⊢
  (try simp only[↓M1,M1,Mb,reduceIte])
  refine ld (i:=0) a.sat (g.up a) rfl ?_
  refine X2j a.sat (z.up d) H ok f o C fun L U t=>?_
  (try simp only[↓M1,M1,Mb,reduceIte])
  exact h _ _ (d.trans t))
theorem Rj {n b:Nat} {a c:Value} {e:Int} {o:List Value} {w1:World} {σ1:Q6} (p:Stp w σ w1 σ1) (i:Y3 σ1 w1 n [a,I room,c]) (j:Y3 σ1 w1 b o) (q:o.length=3) (k:w.heap.size≤b) (m:E3 σ1 (l,room,cs) [a,I room,c]) (h: ∀w' σ',Stp w σ w' σ'→E3 σ' (l,room,cs) [a,I room,c]→K (.tuple #[.agg [a,I room,c].toArray,I e]) w'):
 Q2 P T.a (.pointer (some ⟨n,0,none⟩)) w1 fun f w=>
 Y0 P T.a (.pointer (some ⟨b,0,none⟩)) f w fun _u w=>
 Y8 P T.a (.pointer (some ⟨b,0,none⟩)) w fun s=>
 K (.tuple #[s,(.int .i64 e)]) w:=
 Sz i rfl (G1 j p k q rfl (Rep.one m) fun r g d=>V1 d rfl (h r σ1 g.stp m))
set_option maxHeartbeats 1000000 in
theorem Q9i {p E b7:Nat} {Y cv x:Value} {k:X0} {vals:List Val} {zs:List Value} {w1:World} {σ1:Q6} (hS:Stp w σ w1 σ1) (H:Y3 σ1 w1 p [Y,I room,cv]) (af:Y3 σ1 w1 E zs) (ba:Y3 σ1 w1 b7 [S k,x]) (hz:zs.length=3) (aq:w.heap.size≤p) (be:w.heap.size≤E) (ah:p≠E) (hl:Sl 8 V0 σ1 Y l) (hc:Sl 2 H4 σ1 cv cs) (hx:Sl 4 N0 σ1 x vals) (hk:k.length≤U1) (bk:cs.length≤10000000)
 (h: ∀ac w' σ',Stp w σ w' σ'→E3 σ' (l,room,cs++[⟨k,vals⟩]) [Y,I room,ac]→K (.tuple #[.agg [Y,I room,ac].toArray,I 0]) w'):
 dr w1 fun m W=>
 Q4 m (fun s=> ∀w,W w→fieldAddr P T.a (.pointer (some ⟨p,0,none⟩)) 2 w (dk m s w)) fun s=>
 Q4 m (fun q=> ∀w,W w→buildSlice P T.f 0 [] w (dk m q w)) fun q=>
 Q4 m (fun t=> ∀f w,W w→s f w→Q2 P T.f f w (dk m t w)) fun t=>
 Q4 m (fun N=> ∀d i w,W w→q d w→t i w→X2 P .append [T.f,T.f] T.f [false,false] [d,i] w (dk m N w)) fun N=>
 Q4 m (fun r=> ∀w,W w→Q2 P T.n (.pointer (some ⟨b7,0,none⟩)) w (dk m r w)) fun r=>
 Q4 m (fun Q=> ∀g w,W w→r g w→buildSlice P T.f 1 [(0,g)] w (dk m Q w)) fun Q=>
 ∀f d i J g M w,W w→s f w→q d w→t i w→N J w→r g w→Q M w→
 X2 P .append [T.f,T.f] T.f [false,false] [J,M] w fun ao w=>
 fieldAddr P T.a (.pointer (some ⟨p,0,none⟩)) 2 w fun bd w=>
 Y0 P T.f bd ao w fun _u w=>
 Q2 P T.a (.pointer (some ⟨p,0,none⟩)) w fun a2 w=>
 Y0 P T.a (.pointer (some ⟨E,0,none⟩)) a2 w fun _u w=>
 Y8 P T.a (.pointer (some ⟨E,0,none⟩)) w fun r0=>
 K (.tuple #[r0,(.int .i64 0)]) w:=by
 have az:=hS.sat
 have ak:H4 σ1 ⟨k,vals⟩ [S k,x]:=⟨x,rfl,hx,hk⟩
 have bu:x.cells= #[x]:=by obtain ⟨a,c,rfl,_⟩:=hx;rfl
 have bc: ∀{w':World} {K:Value→World→Prop},Hst w1 σ1 w' σ1→K cv w'→Q2 P T.f (.pointer (some ((⟨p,0,none⟩:Addr).add 2))) w' K:=fun L hK=>Yj (H.up L.stp) rfl hK
 have bb: ∀{w':World} {K:Value→World→Prop},Hst w1 σ1 w' σ1→K (.agg [S k,x].toArray) w'→Q2 P T.n (.pointer (some ⟨b7,0,none⟩)) w' K:=fun L hK=>Sz (ba.up L.stp) rfl hK
 refine J9 az ?_
 (repeat refine J3 Qe ?_)
 refine Q2Q (R:=H4) (by decide) ?_
 refine J3 (V:=cv) (fun f w n e=>?_) ?_
 ·subst e;exact bc n (M5 rfl)
 refine Q1A (w:=w1) (σ:=σ1) (R:=H4) (sz:=2) (e:=T.n) cs (fun d i w n ap a4=>?_) ?_
 ·obtain ⟨k1,a1,e1⟩:=ap
  subst a4
  exact X3e k1 a1 e1 (hc.up n.stp) rfl (by omega) (by omega) fun v' w' hk ha=>Q3i n hk ha
 refine J3 (V:= .agg [S k,x].toArray) (fun w n=>?_) ?_
 ·exact bb n (M5 rfl)
 refine Wi (w:=w1) (σ:=σ1) (Φ:=fun σ' v=>Sl 2 (Q5q (⟨k,vals⟩:Cel) [S k,x]) σ' v [⟨k,vals⟩]) (fun g w n e=>?_) ?_
 ·subst e
  refine T4 (R:=Q5q (⟨k,vals⟩:Cel) [S k,x]) (sz:=2) n.sat [.agg [S k,x].toArray] [⟨k,vals⟩] rfl rfl (by simp[Value.cells]) rfl ⟨⟨rfl,rfl,Rep.one (R:=H4) ak⟩,trivial⟩ fun v w2 σ2 ar ay=>Cc n ar ay
 rintro f d i J g M w2 br rfl _ rfl ⟨a3,a8⟩ rfl ⟨σ3,k3,s3⟩
 refine X0w a3 a8 k3.sat s3 (fun y ds hy=>by obtain ⟨rfl,rfl,_⟩:=hy;exact ak) rfl (by simp;omega) (by simp;omega) fun v3 w3 bx a0 O _=>?_
 have hN:Stp w1 σ1 w3 σ1:=a0
 have B:=H.up hN
 have aj:=af.up hN
 have ab:=Jv O
 refine V7 ?_
 refine Jy B (by simp) ab.1 ab.2 fun X u4 A=>?_
 have ad:=H.lt
 have aa:V6 w1.heap.size T.n 2 H4 σ1 X v3 (cs++[⟨k,vals⟩]):=O.kp (D:=fun j=>j=p) (.of_upd u4 rfl) fun j hj e=>by have:=(O.mem j hj).1;omega
 have C:=aj.upd u4 (fun e=>ah e.symm)
 have z:Stp w σ X σ1:=u4.stp (hS.trans hN) aq B.1
 have ag:X3 X σ1:=z.sat
 obtain ⟨σ5,s5,l5,f5,o5⟩:=(J7.of_acc aa).freeze ag
 have U: ∀j,j<w1.heap.size→σ5 j=σ1 j:=fun j hj=>o5 j fun e=>by have:=(aa.mem j e.symm).1;omega
 have ae:Y3 σ5 X p [Y,I room,v3]:=⟨(U p ad).trans A.1,A.2⟩
 have Z:Y3 σ5 X E zs:=⟨(U E af.lt).trans C.1,C.2⟩
 have aw:Stp w σ X σ5:=⟨z.bel,s5,fun b o e=>l5.le b o (z.le b o e),fun b n=>(U b (Nat.lt_of_lt_of_le n hS.bel.size)).trans (z.old b n)⟩
 exact Rj aw ae Z hz be ⟨Y,v3,rfl,hl.lift l5,f5⟩ fun w' σ' hk hr=>h v3 w' σ' hk hr
end Go.Proofs.YtjdiakhipmggjaaGreatDoor

namespace Go.Proofs.YtjdiakhipmggjaaGreatDoor
open Go.Emb Go.RowKit Go.Kd Go.Hm
variable {w w' : World} {K : Value → World → Prop} {σ σ' : Q6} {ds : List Value} {room : Int} {cs : List Cel} {l : List Cla}
set_option maxHeartbeats 1000000 in
theorem X0r {k:X0} (hs:X3 w σ) (hh:E3 σ (l,room,cs) ds) (ok:Ok l) (hlen:l.length≤1000) (hk:k.length≤U1) (h0:0≤V8 room cs) (h1:room≤1048576)
 (h: ∀ds' w' σ',Stp w σ w' σ'→E3 σ' (l,room,(Zw l room cs k).1) ds'→K (.tuple #[.agg ds'.toArray,I (Zw l room cs k).2]) w'):Q1 P F.bc [.agg ds.toArray,S k] w K:=Gu (by
 have hcl:=T6 cs
 obtain ⟨lv,cv,rfl,hl,hc⟩:=E3.out hh
 unfold Lo
 refine En hs fun b0 w1 σ1 hb0 hk1 hm0=>?_
 refine N1 hk1.sat fun b4 w2 σ2 hb4 hk2 hm4=>?_
 have hS2:=hk1.trans hk2
 have hB4:=N2 hb4 hk1
 have hb04:b0≠b4:=by have:=hm0.lt;omega
 have hm02:=hm0.up hk2
 have hl2:=hl.up hS2
 have hh2:=L3 hh ⟨hS2.le⟩
 unfold V8 at h0
 refine V7 ?_
 refine Yj (i:=0) hm02 rfl ?_
 refine Q9S hk2.sat hl2 ?_
 refine Wn ?_
 unfold Zw at h
 cases ho:Qb l k with
 | false=>
  rw[ho] at h
  simp only[if_pos] at h
  refine J6 ?_
  exact Rj hS2 hm02 hm4 rfl hB4 hh2 fun w' σ' hk hr=>h _ w' σ' hk hr
 | true=>
  rw[ho] at h
  simp only[Bool.true_eq_false,if_false] at h
  refine Z6 ?_
  refine V7 ?_
  refine Yj (i:=0) hm02 rfl ?_
  refine Px hk2.sat hl2 ok.acy hlen ok.sm fun fv w3 σ3 hk3 hf=>?_
  have hS3:=hS2.trans hk3
  have hfl:=hf.max
  have hfl2:=Q0U ok.sm ok.len k
  refine Q8 hf ?_
  refine Xz ⟨by omega,by omega⟩ ?_
  refine Sz (hm02.up hk3) rfl ?_
  refine Q9s hk3.sat (L3 hh2 ⟨hk3.le⟩) (by unfold V8;exact h0) h1 fun w4 σ4 hk4=>?_
  have hk34:=hk3.trans hk4
  have hS4:=hS3.trans hk4
  have hm04:=hm02.up hk34
  have hm44:=hm4.up hk34
  have hh4:=L3 hh2 ⟨hk34.le⟩
  have hf4:=hf.up hk4
  rw[Rp]
  by_cases hg:V8 room cs<1+((Y6 l k).length:Int)
  ·rw[if_pos hg] at h
   have e:decide (1+((Y6 l k).length:Int)>V8 room cs)=true:=decide_eq_true hg
   rw[e]
   refine J6 ?_
   exact Rj hS4 hm04 hm44 rfl hB4 hh4 fun w' σ' hk hr=>h _ w' σ' hk hr
  rw[if_neg hg] at h
  have e:decide (1+((Y6 l k).length:Int)>V8 room cs)=false:=decide_eq_false hg
  rw[e]
  refine Z6 ?_
  unfold V8 at hg
  refine W1 (cells:= #[S k, .slice none 0 0]) (by kernel_rfl) ?_
  refine N1 hk4.sat fun b7 w5 σ5 hb7 hk5 hm7=>?_
  have hS5:=hS4.trans hk5
  have hB7:=N2 hb7 hS4
  refine Ob (ds:=[S k, .slice none 0 0]) hm7 rfl rfl (by rw[List.all_toArray];rfl) fun w6 u6 hm76=>?_
  have hS6:=u6.stp hS5 hB7 hm7.1
  have hb07:b0≠b7:=by have:=hm04.lt;omega
  have hb47:b4≠b7:=by have:=hm44.lt;omega
  have hm06:=(hm04.up hk5).upd u6 hb07
  have hm46:=(hm44.up hk5).upd u6 hb47
  have hf6:=(hf4.up hk5)
  have hc6:Sl 2 H4 σ5 cv cs:=hc.up hS5
  have hl6:Sl 8 V0 σ5 lv l:=hl.up hS5
  refine U2 (Y6 l k).length (fun n w'=> ∃σ' x,Stp w σ w' σ'∧SLe σ5 σ'∧Y3 σ' w' b0 [lv,I room,cv]∧Y3 σ' w' b4 _∧Y3 σ' w' b7 [S k,x]∧V6 w.heap.size T.g 4 N0 σ' w' x (((Y6 l k).take n).map fun f=>M3 f.kind)∧x.ownBlock≠some b0∧x.ownBlock≠some b4∧x.ownBlock≠some b7)
   ⟨σ5, .slice none 0 0,hS6,SLe.refl _,hm06,hm46,hm76,V6.nil,by simp[Value.ownBlock],by simp[Value.ownBlock],by simp[Value.ownBlock]⟩ fun n w7 d hn hinv=>?_
  obtain ⟨σ7,x,hS7,le7,hm07,hm47,hm77,ha7,hx0,hx4,hx7⟩:=hinv
  have hf7:=hf6.lift le7
  have hs7:=hS7.sat
  refine Q8 hf7 ?_
  refine Z1 ?_
  refine Q7 (fun hcc=>?_) (fun hcc=>?_)
  ·have hn':n<(Y6 l k).length:=by simpa using hcc
   obtain ⟨p1,r1⟩:=hf7.elF hn'
   have hrd: ∀{w':World} {K:Value→World→Prop},Hst w7 σ7 w' σ7→K x w'→Q2 P T.m (.pointer (some ((⟨b7,0,none⟩:Addr).add 1))) w' K:=fun hst hK=>Yj (hm77.up hst.stp) rfl hK
   refine J9 hs7 ?_
   (repeat (apply J3;(· intros;(repeat (rename_i hx;subst hx));(repeat' (first | (with_reducible exact M5 rfl) | (with_reducible exact R8 (Stp.bel (by (repeat (first | exact Stp.refl (by (first | assumption | exact Stp.sat (by assumption) | exact Hst.sat (by assumption))) | assumption | refine Stp.trans ?_ (by first | assumption | exact Hst.stp (by assumption)))))) rfl) | (with_reducible intro _) | (simp only[↓M2,M2,Mb,reduceIte]) | (with_reducible refine hrd au ?_) | (with_reducible show Q2 _ _ _ _ _;first | refine X7 aS aL aR ?_ | refine Y2 aS aL aR ?_ | refine ld aS aL aR ?_) | (with_reducible show indexAddr _ _ _ _ _ _;refine Y1 aL au ?_) | (with_reducible show X2 _ _ _ _ _ _ _ _;refine Q8 aL ?_) | (with_reducible show F2 _ _ _ _ _ _;refine Z9 aR ?_) | (with_reducible show pick _ _ _ _ _ _;refine L8 ?_) | (with_reducible show Q1 _ _ _ _ _;first | refine Q8X au ?_) | (apply F4;intro hh;(try simp only[hh,reduceIte,↓M2,M2,Mb,reduceIte]))));done)))
   refine Wi (w:=w7) (σ:=σ7) (Φ:=fun σ' v=>Sl 4 N0 σ' v [M3 (Y6 l k)[n].kind]) (fun t41 w hb e=>?_) ?_
   ·subst e
    exact T4 (R:=N0) (sz:=4) hb.sat [_] [M3 (Y6 l k)[n].kind] rfl rfl (by simp[Value.cells]) rfl ⟨Gt _,trivial⟩ fun v w2 σ2 hk2 hv2=>Cc hb hk2 hv2
   rintro t34 t38 t39 t35 t40 t41 t42 w8 hb8 rfl rfl rfl rfl rfl rfl ⟨σ8,hk8,s8⟩
   refine X0w (w0:=w) (hS7.trans hb8.stp) (ha7.up hb8.stp) hk8.sat s8 (fun y ds hy=>hy) rfl (by simp;omega) (by simp;omega) fun x9 w9 hg9 hS9 ha9 hat9=>?_
   have hm08:=(hm07.up hb8.stp).turn hg9 fun e=>hx0 e.symm
   have hm48:=(hm47.up hb8.stp).turn hg9 fun e=>hx4 e.symm
   have hm78:=(hm77.up hb8.stp).turn hg9 fun e=>hx7 e.symm
   have hsz:=hb8.stp.bel.size
   have hnew: ∀b,b<w7.heap.size→x.ownBlock≠some b→x9.ownBlock≠some b:=fun b hb hxb e=>by
    rcases hat9 with e2 | e2
    ·exact hxb (e2▸e)
    ·have:=e2 b e;omega
   have hsh:=Jv ha9
   refine V7 ?_
   refine Jy hm78 (by simp) hsh.1 hsh.2 fun w10 u10 hm710=>?_
   refine O5 ?_
   have hx97:=hnew b7 hm77.lt hx7
   refine Y5 hfl hn' ⟨σ7,x9,u10.stp hS9 hB7 hm78.1,le7,hm08.upd u10 hb07,hm48.upd u10 hb47,hm710,?_,hnew b0 hm07.lt hx0,hnew b4 hm47.lt hx4,hx97⟩
   have:=ha9.kp (D:=fun j=>j=b7) (.of_upd u10 rfl) fun j hj e=>hx97 (e▸hj)
   rw[List.take_add_one,List.getElem?_eq_getElem hn',List.map_append]
   exact this
  ·have hn': ¬n<(Y6 l k).length:=by simpa using hcc
   rw[List.take_of_length_le (by omega)] at ha7
   obtain ⟨σ9,hS9,hx9,le9,o9⟩:=ha7.keep hS7
   have mk: ∀{b:Nat} {zs:List Value},Y3 σ7 w7 b zs→x.ownBlock≠some b→Y3 σ9 w7 b zs:=fun hm hne=>⟨(o9 _ fun e=>hne e.symm).trans hm.1,hm.2⟩
   have le59:SLe σ5 σ9:=le7.more ⟨le9⟩
   refine Q9i hS9 (mk hm07 hx0) (mk hm47 hx4) (mk hm77 hx7) rfl hb0 hB4 hb04 (hl6.lift le59) (hc6.lift le59) hx9 hk (by omega) fun cv' w' σ' hk' hr=>h _ w' σ' hk' hr)
set_option maxHeartbeats 1000000 in
theorem X1R {k:X0} {n:Int} (hs:X3 w σ) (hh:E3 σ (l,room,cs) ds) (hk:k.length≤U1) (h0:0≤V8 room cs) (h1:room≤1048576)
 (h: ∀ds' w' σ',Stp w σ w' σ'→E3 σ' (l,room,(Zx l room cs k n).1) ds'→K (.tuple #[.agg ds'.toArray,I (Zx l room cs k n).2]) w'):Q1 P F.bl [.agg ds.toArray,S k,I n] w K:=Ke (by
 have hcl:=T6 cs
 have htn:=M0 cs
 obtain ⟨lv,cv,rfl,hl,hc⟩:=E3.out hh
 unfold Nh
 refine En hs fun b0 w1 σ1 hb0 hk1 hm0=>?_
 refine N1 hk1.sat fun b4 w2 σ2 hb4 hk2 hm4=>?_
 have hS2:=hk1.trans hk2
 have hB4:=N2 hb4 hk1
 have hb04:b0≠b4:=by have:=hm0.lt;omega
 have hm02:=hm0.up hk2
 have hl2:=hl.up hS2
 have hh2:=L3 hh ⟨hS2.le⟩
 unfold V8 at h0
 unfold Zx at h
 have hbad:G9 l k=false→Q2 P T.a (.pointer (some ⟨b0,0,none⟩)) w2 fun t14 w=>
  Y0 P T.a (.pointer (some ⟨b4,0,none⟩)) t14 w fun _u w=>
  Y8 P T.a (.pointer (some ⟨b4,0,none⟩)) w fun r0=>
  K (.tuple #[r0,(.int .i64 91)]) w:=fun ho=>by
  rw[ho] at h
  simp only[if_pos] at h
  exact Rj hS2 hm02 hm4 rfl hB4 hh2 fun w' σ' hk hr=>h _ w' σ' hk hr
 refine P7 ?_
 by_cases hnull:k=R0
 ·rw[show decide (k=[110,117,108,108])=true from decide_eq_true hnull]
  (try simp only[D0,E4,S4,W5,W7,W9,M8,M7,H8,Bool.not_true,Bool.not_false])
  exact hbad (by simp[G9,hnull])
 rw[show decide (k=[110,117,108,108])=false from decide_eq_false hnull]
 (try simp only[D0,E4,S4,W5,W7,W9,M8,M7,H8,Bool.not_true,Bool.not_false])
 refine V7 ?_
 refine Yj (i:=0) hm02 rfl ?_
 refine Dw hk2.sat hl2 hk ?_
 refine Wn ?_
 cases hkm:O3 l k with
 | false=>
  (try simp only[D0,E4,S4,W5,W7,W9,M8,M7,H8,Bool.not_true,Bool.not_false])
  exact hbad (by simp[G9,hkm])
 | true=>
  (try simp only[D0,E4,S4,W5,W7,W9,M8,M7,H8,Bool.not_true,Bool.not_false])
  refine Ce k (Nat.le_trans hk (by decide)) ?_
  have hr:right k=true:=by
   have:=hkm
   simp only[O3,Bool.or_eq_true,Bool.and_eq_true,decide_eq_true_eq] at this
   rcases this with h1 | h1
   ·exact absurd h1 hnull
   ·exact h1.1
  have hdp:Yb k=(base k).2:=by unfold Yb;rw[if_pos hr]
  have hel:G9 l k=decide ((base k).2≤2):=by
   unfold G9;rw[hkm,decide_eq_false hnull,hdp];rfl
  refine Q1C ?_
  by_cases hd2:(2:Int)<((base k).2:Int)
  ·rw[decide_eq_true hd2]
   refine J6 ?_
   exact hbad (by rw[hel,decide_eq_false_iff_not];omega)
  rw[decide_eq_false hd2]
  refine Z6 ?_
  have ho:G9 l k=true:=by rw[hel,decide_eq_true_eq];omega
  rw[ho] at h
  simp only[Bool.true_eq_false,if_false] at h
  refine Z1 ?_
  by_cases hn0:n<0
  ·rw[if_pos hn0] at h
   rw[decide_eq_true hn0]
   refine J6 ?_
   exact Rj hS2 hm02 hm4 rfl hB4 hh2 fun w' σ' hk hr=>h _ w' σ' hk hr
  rw[if_neg hn0] at h
  rw[decide_eq_false hn0]
  refine Z6 ?_
  refine Q1C ?_
  have hbad2: ∀{w3 σ3},Stp w2 σ2 w3 σ3→V8 room cs≤n→Q2 P T.a (.pointer (some ⟨b0,0,none⟩)) w3 fun t14 w=>
   Y0 P T.a (.pointer (some ⟨b4,0,none⟩)) t14 w fun _u w=>
   Y8 P T.a (.pointer (some ⟨b4,0,none⟩)) w fun r0=>
   K (.tuple #[r0,(.int .i64 90)]) w:=fun {w3 σ3} hS hle=>by
   rw[if_pos hle] at h
   exact Rj (hS2.trans hS) (hm02.up hS) (hm4.up hS) rfl hB4 (L3 hh2 ⟨hS.le⟩) fun w' σ' hk hr=>h _ w' σ' hk hr
  by_cases hbig:(1048576:Int)<n
  ·rw[decide_eq_true hbig]
   (try simp only[D0,E4,S4,W5,W7,W9,M8,M7,H8,Bool.not_true,Bool.not_false])
   exact hbad2 (Stp.refl hk2.sat) (by unfold V8;omega)
  rw[decide_eq_false hbig]
  (try simp only[D0,E4,S4,W5,W7,W9,M8,M7,H8,Bool.not_true,Bool.not_false])
  refine Xz ⟨by omega,by omega⟩ ?_
  refine Sz hm02 rfl ?_
  refine Q9s hk2.sat hh2 (by unfold V8;exact h0) h1 fun w4 σ4 hk4=>?_
  rw[Rp]
  by_cases hg:V8 room cs≤n
  ·rw[show decide (1+n>V8 room cs)=true from decide_eq_true (by omega)]
   refine J6 ?_
   exact hbad2 hk4 hg
  rw[if_neg hg] at h
  rw[show decide (1+n>V8 room cs)=false from decide_eq_false (by omega)]
  refine Z6 ?_
  have hS4:=hS2.trans hk4
  have hm04:=hm02.up hk4
  have hm44:=hm4.up hk4
  obtain ⟨m,rfl⟩:=Int.eq_ofNat_of_zero_le (Int.not_lt.1 hn0)
  rw[Int.toNat_natCast] at h
  unfold V8 at hg
  have hr38:=Gl hr
  refine Rc (by simp only[List.length_cons,List.length_nil];omega) ?_
  refine W1 (cells:= #[S (k++[91,93]), .slice none 0 0]) (by kernel_rfl) ?_
  refine N1 hk4.sat fun b7 w5 σ5 hb7 hk5 hm7=>?_
  have hS5:=hS4.trans hk5
  have hB7:=N2 hb7 hS4
  refine Ob (ds:=[S (k++[91,93]), .slice none 0 0]) hm7 rfl rfl (by rw[List.all_toArray];rfl) fun w6 u6 hm76=>?_
  have hS6:=u6.stp hS5 hB7 hm7.1
  have hb07:b0≠b7:=by have:=hm04.lt;omega
  have hb47:b4≠b7:=by have:=hm44.lt;omega
  have hm06:=(hm04.up hk5).upd u6 hb07
  have hm46:=(hm44.up hk5).upd u6 hb47
  have hc6:Sl 2 H4 σ5 cv cs:=hc.up hS5
  have hl6:Sl 8 V0 σ5 lv l:=hl.up hS5
  refine U2 m (fun n w'=> ∃σ' x,Stp w σ w' σ'∧SLe σ5 σ'∧Y3 σ' w' b0 [lv,I room,cv]∧Y3 σ' w' b4 _∧Y3 σ' w' b7 [S (k++[91,93]),x]∧V6 w.heap.size T.g 4 N0 σ' w' x (List.replicate n (M3 k))∧x.ownBlock≠some b0∧x.ownBlock≠some b4∧x.ownBlock≠some b7)
   ⟨σ5, .slice none 0 0,hS6,SLe.refl _,hm06,hm46,hm76,V6.nil,by simp[Value.ownBlock],by simp[Value.ownBlock],by simp[Value.ownBlock]⟩ fun n w7 d hn hinv=>?_
  obtain ⟨σ7,x,hS7,le7,hm07,hm47,hm77,ha7,hx0,hx4,hx7⟩:=hinv
  have hs7:=hS7.sat
  refine Z1 ?_
  refine Q7 (fun hcc=>?_) (fun hcc=>?_)
  ·have hn':n<m:=by simpa using hcc
   have hrd: ∀{w':World} {K:Value→World→Prop},Hst w7 σ7 w' σ7→K x w'→Q2 P T.m (.pointer (some ((⟨b7,0,none⟩:Addr).add 1))) w' K:=fun hst hK=>Yj (hm77.up hst.stp) rfl hK
   refine J9 hs7 ?_
   (repeat (apply J3;(· intros;(repeat (rename_i hx;subst hx));(repeat' (first | (with_reducible exact M5 rfl) | (with_reducible exact R8 (Stp.bel (by (repeat (first | exact Stp.refl (by (first | assumption | exact Stp.sat (by assumption) | exact Hst.sat (by assumption))) | assumption | refine Stp.trans ?_ (by first | assumption | exact Hst.stp (by assumption)))))) rfl) | (with_reducible intro _) | (simp only[↓M2,M2,Mb,reduceIte]) | (with_reducible refine hrd au ?_) | (with_reducible show Q2 _ _ _ _ _;first | refine X7 aS aL aR ?_ | refine Y2 aS aL aR ?_ | refine ld aS aL aR ?_) | (with_reducible show indexAddr _ _ _ _ _ _;refine Y1 aL au ?_) | (with_reducible show X2 _ _ _ _ _ _ _ _;refine Q8 aL ?_) | (with_reducible show F2 _ _ _ _ _ _;refine Z9 aR ?_) | (with_reducible show pick _ _ _ _ _ _;refine L8 ?_) | (with_reducible show Q1 _ _ _ _ _;first | refine Q8X au ?_) | (apply F4;intro hh;(try simp only[hh,reduceIte,↓M2,M2,Mb,reduceIte]))));done)))
   refine Wi (w:=w7) (σ:=σ7) (Φ:=fun σ' v=>Sl 4 N0 σ' v [M3 k]) (fun t41 w hb e=>?_) ?_
   ·subst e
    exact T4 (R:=N0) (sz:=4) hb.sat [_] [M3 k] rfl rfl (by simp[Value.cells]) rfl ⟨Gt _,trivial⟩ fun v w2 σ2 hk2 hv2=>Cc hb hk2 hv2
   rintro t46 t47 t49 t50 w8 hb8 rfl rfl rfl ⟨σ8,hk8,s8⟩
   refine X0w (w0:=w) (hS7.trans hb8.stp) (ha7.up hb8.stp) hk8.sat s8 (fun y ds hy=>hy) rfl (by simp;omega) (by simp;omega) fun x9 w9 hg9 hS9 ha9 hat9=>?_
   have hm08:=(hm07.up hb8.stp).turn hg9 fun e=>hx0 e.symm
   have hm48:=(hm47.up hb8.stp).turn hg9 fun e=>hx4 e.symm
   have hm78:=(hm77.up hb8.stp).turn hg9 fun e=>hx7 e.symm
   have hsz:=hb8.stp.bel.size
   have hnew: ∀b,b<w7.heap.size→x.ownBlock≠some b→x9.ownBlock≠some b:=fun b hb hxb e=>by
    rcases hat9 with e2 | e2
    ·exact hxb (e2▸e)
    ·have:=e2 b e;omega
   have hsh:=Jv ha9
   refine V7 ?_
   refine Jy hm78 (by simp) hsh.1 hsh.2 fun w10 u10 hm710=>?_
   refine O5 ?_
   have hx97:=hnew b7 hm77.lt hx7
   refine Y5 (by omega) hn' ⟨σ7,x9,u10.stp hS9 hB7 hm78.1,le7,hm08.upd u10 hb07,hm48.upd u10 hb47,hm710,?_,hnew b0 hm07.lt hx0,hnew b4 hm47.lt hx4,hx97⟩
   have:=ha9.kp (D:=fun j=>j=b7) (.of_upd u10 rfl) fun j hj e=>hx97 (e▸hj)
   rw[List.replicate_succ']
   exact this
  ·have hn': ¬n<m:=by simpa using hcc
   have hnm:n=m:=by omega
   subst hnm
   obtain ⟨σ9,hS9,hx9,le9,o9⟩:=ha7.keep hS7
   have mk: ∀{b:Nat} {zs:List Value},Y3 σ7 w7 b zs→x.ownBlock≠some b→Y3 σ9 w7 b zs:=fun hm hne=>⟨(o9 _ fun e=>hne e.symm).trans hm.1,hm.2⟩
   have le59:SLe σ5 σ9:=le7.more ⟨le9⟩
   refine Q9i hS9 (mk hm07 hx0) (mk hm47 hx4) (mk hm77 hx7) rfl hb0 hB4 hb04 (hl6.lift le59) (hc6.lift le59) hx9 (Nat.le_trans (show (k++[91,93]).length≤40 by simp only[List.length_append,List.length_cons,List.length_nil];omega) (by decide)) (by omega) fun cv' w' σ' hk' hr=>h _ w' σ' hk' hr)
end Go.Proofs.YtjdiakhipmggjaaGreatDoor

namespace Go.Emb
open Go.RowKit Go.Hm
section
variable {α : Type} {P : Program} {R : Q6 → α → List Value → Prop} {B sz : Nat} {e : TypeId} {σ σ0 : Q6} {v u : Value} {xs : List α} {w w0 w' : World} {K : Value → World → Prop}
theorem X1f {t:TypeId} {b:Nat} {z:Value} [TS P t e] [TZ P e sz b z] (h:J7 B e sz R σ w v xs) {n:Nat} (o:n<xs.length) (j:K (.pointer (some (Vw sz v n))) w):indexAddr P t v (I n) w K:=by
 obtain ⟨a,f,rfl,m,p,c,i⟩:=h
 obtain ⟨g,d,k,rfl,q⟩:=i (by omega)
 rw[Cj (by omega) (by omega)]
 simpa [Vw] using j
theorem J7.elQ (h:J7 B e sz R σ w v xs) {n:Nat} (i:n<xs.length): ∃cs,cs.length=sz∧R σ xs[n] cs∧ ∀j u,cs[j]? =some u→w.cell? ((Vw sz v n).add j)=some u:=by
 obtain ⟨a,d,rfl,r,s,k,m⟩:=h
 obtain ⟨g,b,f,rfl,y,q,o,t,p⟩:=m (by omega)
 have hh:n*sz+sz≤d*sz:=by rw[←Nat.succ_mul];exact Nat.mul_le_mul_right _ (by omega)
 refine ⟨(f.toList.drop (b+n*sz)).take sz,by rw[List.length_take,List.length_drop,Array.length_toList];omega,p n _ (by simp[i]),fun j u c=>?_⟩
 rw[List.getElem?_take] at c
 split at c
 ·rw[List.getElem?_drop] at c
  have e:Vw sz (.slice (some ⟨g,b,none⟩) xs.length d) n=(⟨g,b,none⟩:Addr).add (n*sz):=rfl
  rw[e]
  unfold World.cell?
  rw[C1,C1,Qg,Qg,K3 (K3 rfl _)]
  simp only[o]
  simpa using c
 ·cases c
theorem X4g {t:TypeId} {c:Nat} {z:Value} [tz:TZ P t 1 c z] {b i:Nat} {cs:List Value} {v:Value} (d:w.heap[b]? =some (.cells cs.toArray e (0,0))) (g:i<cs.length) (j:v.cells= #[v]) (f:v.oneCell'=true)
 (h: ∀w',Upd w b w'→w'.heap[b]? =some (.cells (cs.set i v).toArray e (0,0))→K undef w'):Y0 P t (.pointer (some ((⟨b,0,none⟩:Addr).add i))) v w K:=by
 unfold Y0
 have a:(⟨b,0,none⟩:Addr).add i=⟨b,i,none⟩:=by unfold Addr.add;split<;>simp_all
 have:=run_storeCells_at P b i e [v] 0 cs.toArray w d (by simp;omega) (by simpa using f)
 simp only[Nat.add_zero] at this
 obtain ⟨k,hh⟩:=Va (cs:=(cs.set i v).toArray) d
 have m:(List.take i cs.toArray.toList++[v]++List.drop (i+[v].length) cs.toArray.toList).toArray=(cs.set i v).toArray:=by
  rw[←Q7I g];simp
 rw[m] at this
 rw[Lm (w':=w.setRow b (cs.set i v).toArray) (by simp[Instr.storeAt,Instr.sureAddr,a,storeVar,L4 tz,j,this])]
 exact h _ k hh
theorem X3c {t:TypeId} {s n c:Nat} {z:Value} {x:α} [tz:TZ P t 1 s z] (M:Stp w0 σ0 w σ) (ha:J7 w0.heap.size e sz R σ w v xs) (hn:n<xs.length) (hc:c<sz) (N:u.cells= #[u]) (U:u.oneCell'=true) (X: ∀cs,cs.length=sz→R σ xs[n] cs→R σ x (cs.set c u))
 (h: ∀w',Kpt (fun k=>v.ownBlock=some k) w w'→Stp w0 σ0 w' σ→J7 w0.heap.size e sz R σ w' v (xs.set n x)→K undef w'):Y0 P t (.pointer (some ((Vw sz v n).add c))) u w K:=by
 obtain ⟨a,i,rfl,c1,O,f,Z⟩:=ha
 obtain ⟨g,d,m,rfl,L,A,H,q4,J⟩:=Z (by omega)
 have hh:n*sz+sz≤i*sz:=by rw[←Nat.succ_mul];exact Nat.mul_le_mul_right _ (by omega)
 have hm:Y3 σ w g m.toList:=⟨A,e,by simpa using H⟩
 have Q:=Array.length_toList (xs:=m)
 have Y:(Vw sz (.slice (some ⟨g,d,none⟩) xs.length i) n).add c=(⟨g,0,none⟩:Addr).add (d+n*sz+c):=by
  simp only[Vw,Q41]
  unfold Addr.add
  split<;>split<;>simp_all<;>omega
 rw[Y]
 refine X4g (e:=e) (by simpa using H) (by omega) N U fun w' C W=>?_
 refine h w' (Kpt.of_upd C rfl) (C.stp M L A) ⟨_,i,by rw[List.length_set],by rw[List.length_set];exact c1,O,fun b q=>⟨(f b q).1,(f b q).2.1,by rw[C.size];exact (f b q).2.2.1,(f b q).2.2.2⟩,fun _=>⟨g,d,_,rfl,L,A,W,by simp;omega,fun j y p=>?_⟩⟩
 rw[List.toList_toArray]
 have o:j<xs.length:=by have:=(List.getElem?_eq_some_iff.1 p).1;simpa using this
 have V:j*sz+sz≤i*sz:=by rw[←Nat.succ_mul];exact Nat.mul_le_mul_right _ (by omega)
 rw[List.drop_set]
 by_cases E:j=n
 ·subst E
  rw[List.getElem?_set_self o] at p
  cases p
  rw[if_neg (by omega),List.take_set,show d+j*sz+c-(d+j*sz)=c by omega]
  exact X _ (by rw[List.length_take,List.length_drop];omega) (J j _ (by simp[o]))
 ·rw[List.getElem?_set_ne (by omega)] at p
  have:=J j y p
  rcases Nat.lt_or_gt_of_ne E with D | hgt
  ·have r:j*sz+sz≤n*sz:=by rw[←Nat.succ_mul];exact Nat.mul_le_mul_right _ D
   rw[if_neg (by omega),List.take_set,List.set_eq_of_length_le (by rw[List.length_take];omega)]
   exact this
  ·have r:n*sz+sz≤j*sz:=by rw[←Nat.succ_mul];exact Nat.mul_le_mul_right _ hgt
   rw[if_pos (by omega)]
   exact this
end
end Go.Emb
namespace Go.Proofs.YtjdiakhipmggjaaGreatDoor
open Go.Emb Go.RowKit Go.Kd Go.Hm
variable {w w' : World} {K : Value → World → Prop} {σ σ' : Q6} {ds : List Value} {room : Int} {cs : List Cel} {l : List Cla}
theorem Q5w (b:Y9 cs≤1048576) {j:Nat} (a:j<cs.length):(cs[j].vals.length:Int)≤1048576:=by
 have e:Y9 cs=Y9 (cs.take j)+Y9 (cs.drop j):=by rw[←T5,List.take_append_drop]
 have f:Y9 (cs.drop j)=(1+(cs[j].vals.length:Int))+Y9 (cs.drop (j+1)):=by
  rw[List.drop_eq_getElem_cons a];simp only[Y9,List.map_cons,List.sum_cons]
 have c:=M0 (cs.take j)
 have d:=M0 (cs.drop (j+1))
 omega
theorem X3V {d i:Nat} {p cv x:Value} {n:List Cel} {Q:List Value} {w0 w1:World} {σ0 σ1:Q6} (Y:Stp w σ w0 σ0) (N:Stp w0 σ0 w1 σ1) (A:Y3 σ1 w1 d [p,I room,cv]) (W:Y3 σ1 w1 i Q) (hz:Q.length=3) (U:d<w0.heap.size) (H:i<w0.heap.size) (L:w.heap.size≤d) (X:w.heap.size≤i) (y:d≠i) (hl:Sl 8 V0 σ1 p l) (O:J7 w0.heap.size T.n 2 H4 σ1 w1 x n)
 (h: ∀z w' σ',Stp w σ w' σ'→E3 σ' (l,room,n) [p,I room,z]→K (.tuple #[.agg [p,I room,z].toArray,I 0]) w'):
 Y0 P T.f (.pointer (some ((⟨d,0,none⟩:Addr).add 2))) x w1 fun _u w=>
 Q2 P T.a (.pointer (some ⟨d,0,none⟩)) w fun M w=>
 Y0 P T.a (.pointer (some ⟨i,0,none⟩)) M w fun _u w=>
 Y8 P T.a (.pointer (some ⟨i,0,none⟩)) w fun r0=>
 K (.tuple #[r0,(.int .i64 0)]) w:=by
 have t:x.cells= #[x]∧x.oneCell'=true:=by obtain ⟨a,c,rfl,_⟩:=O;exact ⟨rfl,rfl⟩
 refine Jy A (by simp) t.1 t.2 fun r J g=>?_
 have s:J7 w0.heap.size T.n 2 H4 σ1 r x n:=O.kp (D:=fun j=>j=d) (.of_upd J rfl) fun j Z e=>by have:=(O.mem Z).1;omega
 have k:=W.upd J (fun e=>y e.symm)
 have f:Stp w σ r σ1:=J.stp (Y.trans N) L A.1
 obtain ⟨E,s5,l5,f5,o5⟩:=s.freeze f.sat
 have m: ∀j,j<w0.heap.size→E j=σ1 j:=fun j Z=>o5 j fun e=>by have:=(s.mem e.symm).1;omega
 have C:Y3 E r d [p,I room,x]:=⟨(m d U).trans g.1,g.2⟩
 have q:Y3 E r i Q:=⟨(m i H).trans k.1,k.2⟩
 have V:Stp w σ r E:=⟨f.bel,s5,fun b o e=>l5.le b o (f.le b o e),fun b hb=>(m b (Nat.lt_of_lt_of_le hb Y.bel.size)).trans (f.old b hb)⟩
 exact Rj V C q hz X ⟨p,x,rfl,hl.lift l5,f5⟩ fun w' σ' N hr=>h x w' σ' N hr
set_option maxHeartbeats 2000000 in
theorem X3T {r i:Int} {v:Val} (hs:X3 w σ) (hh:E3 σ (Q5 l,room,cs) ds) (wf:Wf l) (ok:Ok (Q5 l)) (hlen:(Q5 l).length≤1000) (good: ∀c∈cs,GoodC W3 (Q5 l) cs c) (hl1:Y9 cs≤1048576) (hv:N0 σ v [I v.sort,I v.n,S v.s,I v.ref])
 (h: ∀ds' w' σ',Stp w σ w' σ'→E3 σ' (Q5 l,room,(L7 W3 (Q5 l) cs r i v).1) ds'→K (.tuple #[.agg ds'.toArray,I (L7 W3 (Q5 l) cs r i v).2]) w'):Q1 P F.bP [.agg ds.toArray,I r,I i, .agg [I v.sort,I v.n,S v.s,I v.ref].toArray] w K:=Q1k (by
 have hcl:=T6 cs
 obtain ⟨lv,cv,rfl,hl,hc⟩:=E3.out hh
 unfold Ep
 refine En hs fun b0 w1 σ1 hb0 hk1 hm0=>?_
 refine Z0 hk1.sat fun q w2 σ2 hk2 hq=>?_
 have hS2:=hk1.trans hk2
 refine N1 hk2.sat fun b4 w3 σ3 hb4 hk3 hm4=>?_
 have hS3:=hS2.trans hk3
 have hB4:=N2 hb4 hS2
 have hm02:=hm0.up hk2
 have hb04:b0≠b4:=by have:=hm02.lt;omega
 have hm03:=hm02.up hk3
 have hh3:=L3 hh ⟨hS3.le⟩
 have hq3:=hq.up hk3
 refine Sz hm03 rfl ?_
 refine Q7F hk3.sat hh3 fun w4 σ4 hk4=>?_
 have hS4:=hS3.trans hk4
 have hm04:=hm03.up hk4
 have hm44:=hm4.up hk4
 have hh4:=L3 hh3 ⟨hk4.le⟩
 have hq4:=hq3.up hk4
 unfold L7 at h
 refine Zb ?_
 by_cases h0:M4 cs r i=0
 case neg=>
  rw[decide_eq_false h0]
  rw[if_pos h0] at h
  refine J6 ?_
  exact Rj hS4 hm04 hm44 rfl hB4 hh4 fun w' σ' hk hr=>h _ w' σ' hk hr
 rw[decide_eq_true h0]
 rw[if_neg (fun hn=>hn h0)] at h
 refine Z6 ?_
 obtain ⟨j,m,rfl,rfl,hj,hm⟩:=Uj h0
 rw[W4 hj,Int.toNat_natCast] at h
 have hc4:=hc.up hS4
 obtain ⟨vv,p1,p2,p3⟩:=Sl.elO hc4 hj
 have hgc:=good cs[j] (List.getElem_mem hj)
 have hif:elem cs[j].kind=[]→m<(Y6 (Q5 l) cs[j].kind).length:=fun e=>by
  rcases hgc.is with h | h
  ·exact absurd e h
  ·rw[←h.2];exact hm
 have hs4:=hk4.sat
 have hr0: ∀{w':World} {K:Value→World→Prop},Hst w4 σ4 w' σ4→K (.agg [lv,I room,cv].toArray) w'→Q2 P T.a (.pointer (some ⟨b0,0,none⟩)) w' K:=fun hst hK=>Sz (hm04.up hst.stp) rfl hK
 have hr1: ∀{w':World} {K:Value→World→Prop},Hst w4 σ4 w' σ4→K cv w'→Q2 P T.f (.pointer (some ((⟨b0,0,none⟩:Addr).add 2))) w' K:=fun hst hK=>Yj (hm04.up hst.stp) rfl hK
 refine J9 hs4 ?_
 (repeat (apply J3;(· intros;(repeat (rename_i hx;subst hx));(repeat' (first | (with_reducible exact M5 rfl) | (with_reducible exact R8 (Stp.bel (by (repeat (first | exact Stp.refl (by (first | assumption | exact Stp.sat (by assumption) | exact Hst.sat (by assumption))) | assumption | refine Stp.trans ?_ (by first | assumption | exact Hst.stp (by assumption)))))) rfl) | (with_reducible intro _) | (simp only[↓M2,M2,Mb,reduceIte]) | (with_reducible refine hr0 au ?_) | (with_reducible refine hr1 au ?_) | (with_reducible show Q2 _ _ _ _ _;first | refine X7 aS aL aR ?_ | refine Y2 aS aL aR ?_ | refine ld aS aL aR ?_) | (with_reducible show indexAddr _ _ _ _ _ _;refine Y1 aL au ?_) | (with_reducible show X2 _ _ _ _ _ _ _ _;refine Q8 aL ?_) | (with_reducible show F2 _ _ _ _ _ _;refine Z9 aR ?_) | (with_reducible show pick _ _ _ _ _ _;refine L8 ?_) | (with_reducible show Q1 _ _ _ _ _;first | refine X2O au au au au au au ?_) | (apply F4;intro hh;(try simp only[hh,reduceIte,↓M2,M2,Mb,reduceIte]))));done)))
 (intros;(repeat (rename_i hx;subst hx)))
 rename_i w5 hb5
 have hS5:=hS4.trans hb5.stp
 refine X3a hb5.sat hh4 wf ok hlen hv.2.2.2.1 (Q2F ok p3 m) fun wA σA hkA=>?_
 have hk4A:=hb5.stp.trans hkA
 have hSA:=hS4.trans hk4A
 have hm0A:=hm04.up hk4A
 have hm4A:=hm44.up hk4A
 have hhA:=L3 hh4 ⟨hk4A.le⟩
 have hqA:=hq4.up hk4A
 have hsA:=hkA.sat
 refine Wn ?_
 cases hf:F5 W3 (Q5 l) cs v (Xk (Q5 l) cs[j].kind m) with
 | false=>
  rw[hf] at h
  simp only[Bool.false_eq_true,if_false] at h
  refine J6 ?_
  exact Rj hSA hm0A hm4A rfl hB4 hhA fun w' σ' hk hr=>h _ w' σ' hk hr
 | true=>
  rw[hf] at h
  simp only[if_true] at h
  refine Z6 ?_
  have hcA:=hc.up hSA
  have hlA:=hl.up hSA
  have hvl:=Q5w hl1 hj
  refine Hb (R:=H4) (e:=T.n) (Stp.refl hsA) (by decide) fun x1 wA1 hkA1 ha1 _=>?_
  refine V7 ?_
  refine Yj (hm0A.up hkA1) rfl ?_
  refine Wl hkA1 ha1 (hcA.up hkA1) rfl (by simp;omega) (by simp;omega) fun x2 wB _ hkB ha2 _=>?_
  rw[List.nil_append] at ha2
  have hsB:=hkB.sat
  refine Hb (R:=N0) (e:=T.g) (Stp.refl hsB) (by decide) fun y1 wB1 hkB1 hy1 _=>?_
  have hq2:=J7.of_acc (ha2.up hkB1)
  refine X1f hq2 hj ?_
  obtain ⟨cs5,hl5,⟨vv5,rfl,p5,_⟩,hcell⟩:=hq2.elQ hj
  refine V7 ?_
  refine Qi (hcell 1 vv5 rfl) ?_
  refine Wl hkB1 hy1 p5 rfl (by simp;omega) (by simp;omega) fun y2 wB2 _ hkB2 hy2 _=>?_
  rw[List.nil_append] at hy2
  refine Y2 hkB2.sat ((hqA.up hkB).up hkB2) rfl ?_
  refine Q1n (x:=v) hkB2 (J7.of_acc hy2) hm rfl (show N0 σA v _ from hv) (Rep.one (R:=N0) (σ:=σA) hv) fun p u w6 _ hb6 hy6=>?_
  obtain ⟨σ7,hk7,hs7,le7,_⟩:=hy6.keep hb6.stp
  have hkA7:=hkB.trans hk7
  have hq7:=J7.of_acc (ha2.up hk7)
  refine X1f hq7 hj ?_
  refine V7 ?_
  have hysh:y2.cells= #[y2]∧y2.oneCell'=true:=Jv hy2
  refine X3c (x:=(⟨cs[j].kind,cs[j].vals.set m v⟩:Cel)) hkA7 hq7 hj (by decide) hysh.1 hysh.2 (fun es _ hes=>by
   obtain ⟨v0,rfl,_,hkl⟩:=hes
   exact ⟨y2,rfl,hs7,hkl⟩) fun w8 _ hk8 hq8=>?_
  refine V7 ?_
  have hsv:B8 cs j m v=cs.set j ⟨cs[j].kind,cs[j].vals.set m v⟩:=by unfold B8;rw[W4 hj,Int.toNat_natCast,Int.toNat_natCast]
  rw[hsv] at h
  exact X3V hSA hk8 (hm0A.up hk8) (hm4A.up hk8) rfl hm0A.lt hm4A.lt hb0 hB4 hb04 (hlA.up hk8) hq8 fun cv' w' σ' hk hr=>h _ w' σ' hk hr)
end Go.Proofs.YtjdiakhipmggjaaGreatDoor

namespace Go.Proofs.YtjdiakhipmggjaaGreatDoor
open Go.Emb Go.RowKit Go.Kd Go.Hm
variable {w w' : World} {K : Value → World → Prop} {σ σ' : Q6} {ds : List Value} {room : Int} {cs : List Cel} {l : List Cla}
theorem Q5R {m b:Nat} {a c:Value} {n:List Value} {w1:World} {σ1:Q6} (o:Stp w σ w1 σ1) (g:Y3 σ1 w1 m [a,I room,c]) (i:Y3 σ1 w1 b n) (p:n.length=3) (j:w.heap.size≤b) (k:E3 σ1 (l,room,cs) [a,I room,c]) (h: ∀w' σ',Stp w σ w' σ'→E3 σ' (l,room,cs) [a,I room,c]→K (.agg [a,I room,c].toArray) w'):
 Q2 P T.a (.pointer (some ⟨m,0,none⟩)) w1 fun e w=>
 Y0 P T.a (.pointer (some ⟨b,0,none⟩)) e w fun _u w=>
 Y8 P T.a (.pointer (some ⟨b,0,none⟩)) w fun r=>
 K r w:=
 Sz g rfl (G1 i o j p rfl (Rep.one k) fun q f d=>V1 d rfl (h q σ1 f.stp k))
set_option maxHeartbeats 2000000 in
theorem X3x {n:Int} (hs:X3 w σ) (hh:E3 σ (l,room,cs) ds) (bd:Y9 cs≤1048576) (hn:Yw n)
 (h: ∀am w' σ',Stp w σ w' σ'→E3 σ' (l,room,Kl cs n) am→K (.agg am.toArray) w'):Q1 P F.bR [.agg ds.toArray,I n] w K:=Q19 (by
 have b9:=T6 cs
 obtain ⟨lv,cv,rfl,hl,hc⟩:=E3.out hh
 unfold Es
 refine En hs fun U w1 σ1 bo V ai=>?_
 refine N1 V.sat fun b4 w2 σ2 bp Z C=>?_
 have bj:=V.trans Z
 have ac:=N2 bp V
 have aj:U≠b4:=by have:=ai.lt;omega
 have af:=ai.up Z
 have a8:=Z.sat
 refine Jc (fun z w'=>z=I (max n 0)∧w'=w2) ?_ ?_
 ·refine Z1 ?_
  by_cases e:n<0
  ·rw[decide_eq_true e]
   exact J6 ⟨by rw[show max n 0=0 by omega],rfl⟩
  ·rw[decide_eq_false e]
   exact Z6 ⟨by rw[show max n 0=n by omega],rfl⟩
 rintro z d0 w3 ⟨rfl,rfl⟩
 unfold Kl at h
 obtain ⟨m,ak⟩:=Int.eq_ofNat_of_zero_le (show 0≤max n 0 by omega)
 rw[ak,Int.toNat_natCast] at h
 rw[ak]
 have ce:(m:Int)≤9223372036854775807:=by have:=hn.2;omega
 refine U2 (min m cs.length) (fun i w'=> ∃σ',Stp w3 σ2 w' σ'∧(cs.take i).any (fun c=>c.vals.any (I0 m))=false) ⟨σ2,Stp.refl a8,rfl⟩ fun i w4 d hi y=>?_
 obtain ⟨σ4,q,ab⟩:=y
 have a:=af.up q
 have s:=bj.trans q
 have E:=hc.up s
 refine Z1 ?_
 have Y: ¬i<min m cs.length→(cs.take m).any (fun c=>c.vals.any (I0 m))=false∧(m<cs.length→i=m):=fun ap=>by
  by_cases bb:m≤cs.length
  ·have:i=m:=by omega
   subst this;exact ⟨ab,fun _=>rfl⟩
  ·have e:cs.take m=cs.take i:=by rw[List.take_of_length_le (by omega),List.take_of_length_le (by omega)]
   rw[e];exact ⟨ab,fun h=>by omega⟩
 have O: ¬i<min m cs.length→jn (α:=Unit) w4 (fun ar w=>
  fieldAddr P T.a (.pointer (some ⟨U,0,none⟩)) 2 w fun bi w=>
  Q2 P T.f bi w fun bg w=>
  X2 P .len [T.f] T.d [false] [bg] w fun bm w=>
  Q3 P .lss T.d (.tmp 52) (.tmp 55) (I (m:Int)) bm w fun a3 w=>
  X1 a3 (
   buildSlice P T.f 0 [] w fun bl w=>
   fieldAddr P T.a (.pointer (some ⟨U,0,none⟩)) 2 w fun a0 w=>
   Q2 P T.f a0 w fun be w=>
   S1 P T.f be none (some (I (m:Int))) none w fun bc w=>
   X2 P .append [T.f,T.f] T.f [false,false] [bl,bc] w fun bf w=>
   fieldAddr P T.a (.pointer (some ⟨U,0,none⟩)) 2 w fun ba w=>
   Y0 P T.f ba bf w fun _u w=>
   ar () w) (
   ar () w)) fun cd d_ w=>
  Q2 P T.a (.pointer (some ⟨U,0,none⟩)) w fun bk w=>
  Y0 P T.a (.pointer (some ⟨b4,0,none⟩)) bk w fun _u w=>
  Y8 P T.a (.pointer (some ⟨b4,0,none⟩)) w fun r0=>
  K r0 w:=fun ap=>by
  obtain ⟨B,_⟩:=Y ap
  rw[if_neg (by rw[B];simp)] at h
  refine U6 ?_
  refine V7 ?_
  refine Yj a rfl ?_
  refine Q8 E ?_
  refine Z1 ?_
  by_cases bb:m<cs.length
  ·rw[decide_eq_true (show (m:Int)<(cs.length:Int) by omega)]
   refine J6 ?_
   have a5:=q.sat
   refine Hb (R:=H4) (e:=T.n) (Stp.refl a5) (by decide) fun x1 w5 f a4 _=>?_
   refine V7 ?_
   refine Yj (a.up f) rfl ?_
   refine Ex (E.up f) none (some (I m)) 0 m (.inl ⟨rfl,rfl⟩) (.inr rfl) (Nat.zero_le _) (by omega) fun v3 al=>?_
   rw[List.drop_zero,Nat.sub_zero] at al
   refine Wl f a4 al rfl (by simp;omega) (by simp;omega) fun x2 w6 _ g J _=>?_
   rw[List.nil_append] at J
   have ag:=Jv J
   have N:=a.up g
   refine V7 ?_
   refine Jy N (by simp) ag.1 ag.2 fun w7 u7 M=>?_
   intro d
   have av:J7 w4.heap.size T.n 2 H4 σ4 w7 x2 (cs.take m):=(J7.of_acc J).kp (D:=fun j=>j=U) (.of_upd u7 rfl) fun j hj e=>by have:=(J.mem j hj).1;have:=a.lt;omega
   have Q:=((C.up q).up g).upd u7 (fun e=>aj e.symm)
   have H:Stp w σ w7 σ4:=u7.stp (s.trans g) bo N.1
   obtain ⟨σ8,s8,l8,f8,o8⟩:=av.freeze H.sat
   have W: ∀j,j<w4.heap.size→σ8 j=σ4 j:=fun j hj=>o8 j fun e=>by have:=(av.mem e.symm).1;omega
   have a6:Stp w σ w7 σ8:=⟨H.bel,s8,fun b o e=>l8.le b o (H.le b o e),fun b hb=>(W b (Nat.lt_of_lt_of_le hb s.bel.size)).trans (H.old b hb)⟩
   exact Q5R a6 (cs:=cs.take m) (l:=l) (show Y3 σ8 w7 U [lv,I room,x2] from ⟨(W U a.lt).trans M.1,M.2⟩) ⟨(W b4 (C.up q).lt).trans Q.1,Q.2⟩ rfl ac ⟨lv,x2,rfl,(hl.up s).lift l8,f8⟩ fun w' σ' hk hr=>h _ w' σ' hk hr
  ·rw[decide_eq_false (show¬(m:Int)<(cs.length:Int) by omega)]
   refine Z6 ?_
   intro d
   rw[List.take_of_length_le (by omega)] at h
   exact Q5R s a (C.up q) rfl ac (L3 hh ⟨s.le⟩) fun w' σ' hk hr=>h _ w' σ' hk hr
 by_cases cg:i<m
 case neg=>
  rw[decide_eq_false (show¬(i:Int)<(m:Int) by omega)]
  (try simp only[D0,E4,S4,W5,W7,W9,M8,M7,H8,Bool.not_true,Bool.not_false])
  exact O (by omega)
 rw[decide_eq_true (show (i:Int)<(m:Int) by omega)]
 (try simp only[D0,E4,S4,W5,W7,W9,M8,M7,H8,Bool.not_true,Bool.not_false])
 refine V7 ?_
 refine Yj a rfl ?_
 refine Q8 E ?_
 refine Z1 ?_
 by_cases u:i<cs.length
 case neg=>
  rw[decide_eq_false (show¬(i:Int)<(cs.length:Int) by omega)]
  refine Z6 ?_
  exact O (by omega)
 rw[decide_eq_true (show (i:Int)<(cs.length:Int) by omega)]
 refine J6 ?_
 have b3:=Q5w bd u
 refine U2 cs[i].vals.length (fun k w'=> ∃σ',Stp w4 σ4 w' σ'∧(cs[i].vals.take k).any (I0 m)=false) ⟨σ4,Stp.refl q.sat,rfl⟩ fun k w5 d hk y=>?_
 obtain ⟨σ5,f,v⟩:=y
 have t:=a.up f
 have X:=E.up f
 have a2:=s.trans f
 have L:=f.sat
 obtain ⟨vv,p1,p2,p3⟩:=Sl.elO X u
 refine V7 ?_
 refine Yj t rfl ?_
 refine Y1 X u ?_
 refine V7 ?_
 refine ld L p1 rfl ?_
 refine Q8 p2 ?_
 refine Z1 ?_
 refine Q7 (fun aa=>?_) (fun aa=>?_)
 ·have r:k<cs[i].vals.length:=by simpa using aa
  obtain ⟨p4,r4⟩:=Sl.elV p2 r
  refine V7 ?_
  refine Yj t rfl ?_
  refine Y1 X u ?_
  refine V7 ?_
  refine ld L p1 rfl ?_
  refine Y1 p2 r ?_
  refine Y2 L p4 rfl ?_
  refine Y7 L (by rfl) rfl (Rep.one r4) fun q6 w6 σ6 g ah=>?_
  have aq:=a2.trans g
  have a9:=L2 (p:=I0 m) r
  refine V7 ?_
  refine ld (i:=0) g.sat ah rfl ?_
  refine I2 ?_
  have A:I0 m cs[i].vals[k]=false→ ∃σ',Stp w4 σ4 w6 σ'∧(cs[i].vals.take (k+1)).any (I0 m)=false:=fun e=>⟨σ6,f.trans g,by rw[a9,v,e];rfl⟩
  by_cases e4:cs[i].vals[k].sort=4
  ·rw[decide_eq_true e4]
   (try simp only[D0,E4,S4,W5,W7,W9,M8,M7,H8,Bool.not_true,Bool.not_false])
   refine V7 ?_
   refine ld g.sat ah rfl ?_
   refine P4 ?_
   by_cases eg:(m:Int)≤cs[i].vals[k].ref
   ·rw[decide_eq_true eg]
    refine J6 ?_
    have B:(cs.take m).any (fun c=>c.vals.any (I0 m))=true:=by
     refine List.any_eq_true.2 ⟨cs[i],List.mem_take_iff_getElem.2 ⟨i,by omega,rfl⟩,S9 r (by simp[I0,e4,eg])⟩
    rw[if_pos B] at h
    exact Q5R aq (t.up g) ((C.up q).up (f.trans g)) rfl ac (L3 hh ⟨aq.le⟩) fun w' σ' hk hr=>h _ w' σ' hk hr
   ·rw[decide_eq_false eg]
    refine Z6 ?_
    refine O5 ?_
    exact Y5 (by omega) r (A (by simp[I0,eg]))
  ·rw[decide_eq_false e4]
   (try simp only[D0,E4,S4,W5,W7,W9,M8,M7,H8,Bool.not_true,Bool.not_false])
   refine O5 ?_
   exact Y5 (by omega) r (A (by simp[I0,e4]))
 ·have r: ¬k<cs[i].vals.length:=by simpa using aa
  rw[E5 r] at v
  refine O5 ?_
  refine Y5 (by omega) (by omega) ⟨σ5,q.trans f,?_⟩
  rw[L2 u,ab,v];rfl)
end Go.Proofs.YtjdiakhipmggjaaGreatDoor

namespace Go.Hm
open Go.Kd
def Q8T:Ins:=⟨[105,110,116],1,[]⟩
def Q1l:Ins:=⟨[114,101,116,117,114,110],0,[]⟩
def kA:X0:=[65]
def fX:Fld:=⟨[120],P9,false⟩
def Q1p:Fld:=⟨[110,101,120,116],kA,false⟩
def fL:Fld:=⟨[108],[65,91,93],false⟩
def mF:Hm.Met:=⟨[102],[P9,kA],P9,false,3,[Q8T,Q1l],[]⟩
def mG:Hm.Met:=⟨[103],[],[],false,1,[Q1l],[]⟩
def cA:Cla:=⟨kA,U0,[],false,false,false,[fX,Q1p],[mF,mG]⟩
def cB:Cla:=⟨[66],kA,[[73]],false,false,false,[fL],[]⟩
def cI:Cla:=⟨[73],U0,[],true,true,false,[],[]⟩
def cD:Cla:=⟨[68],U0,[],false,true,false,[],[]⟩
def B7:List Cla:=[cA,cB,cI,cD]
end Go.Hm
namespace Go.Proofs.YtjdiakhipmggjaaGreatDoor
open Go.Emb Go.RowKit Go.Kd Go.Hm
variable {w w' : World} {K : Value → World → Prop} {σ σ' : Q6} {ds : List Value} {room : Int} {cs : List Cel} {l : List Cla} {hp tv : Value}
set_option maxRecDepth 100000 in
theorem Q2M:Sy E0 B7=none:=by decide+kernel
set_option maxHeartbeats 1000000 in
theorem Q4H (Y:X3 w σ) (h: ∀v w' σ',Stp w σ w' σ'→Sl 8 V0 σ' v B7→K v w'):Q1 P F.aA [] w K:=Fa (by
 unfold Vx
 refine W1 (cells:= #[S Q8T.op,I 1,S []]) (by kernel_rfl) ?_
 refine W1 (cells:= #[S Q1l.op,I 0,S []]) (by kernel_rfl) ?_
 refine T4 (R:=Qr) (sz:=3) Y [.agg #[S Q8T.op,I 1,S []], .agg #[S Q1l.op,I 0,S []]] [Q8T,Q1l] rfl rfl (by simp;exact ⟨rfl,rfl⟩) rfl ⟨⟨rfl,by decide,by decide,by decide⟩,⟨rfl,by decide,by decide,by decide⟩,trivial⟩ fun v1 w1 σ1 o d=>?_
 refine W1 (cells:= #[S fX.name,S fX.kind, .bool false]) (by kernel_rfl) ?_
 refine W1 (cells:= #[S Q1p.name,S Q1p.kind, .bool false]) (by kernel_rfl) ?_
 refine T4 (R:=S2) (sz:=3) o.sat [.agg #[S fX.name,S fX.kind, .bool false], .agg #[S Q1p.name,S Q1p.kind, .bool false]] [fX,Q1p] rfl rfl (by simp;exact ⟨rfl,rfl⟩) rfl ⟨⟨rfl,by decide,by decide⟩,⟨rfl,by decide,by decide⟩,trivial⟩ fun v2 w2 σ2 g e=>?_
 refine T4 (R:=U8) (sz:=1) g.sat [S P9,S kA] [P9,kA] rfl rfl (by simp;exact ⟨rfl,rfl⟩) rfl ⟨⟨rfl,by decide⟩,⟨rfl,by decide⟩,trivial⟩ fun v3 w3 σ3 f s=>?_
 have m:=d;have y:=e;have r:=s
 obtain ⟨H,N,rfl,_⟩:=m
 obtain ⟨V,C,rfl,_⟩:=y
 obtain ⟨E,Q,rfl,_⟩:=r
 have d:=(d.up g).up f
 have e:=e.up f
 refine W1 (cells:= #[S mF.name, .slice E 2 Q,S P9, .bool false,I 3, .slice H 2 N, .slice none 0 0]) (by kernel_rfl) ?_
 refine W1 (cells:= #[S Q1l.op,I 0,S []]) (by kernel_rfl) ?_
 refine T4 (R:=Qr) (sz:=3) f.sat [.agg #[S Q1l.op,I 0,S []]] [Q1l] rfl rfl (by simp;rfl) rfl ⟨⟨rfl,by decide,by decide,by decide⟩,trivial⟩ fun v4 w4 σ4 b t=>?_
 have n:=t
 obtain ⟨X,D,rfl,_⟩:=n
 refine W1 (cells:= #[S mG.name, .slice none 0 0,S [], .bool false,I 1, .slice X 1 D, .slice none 0 0]) (by kernel_rfl) ?_
 refine T4 (R:=H0) (sz:=7) b.sat [.agg #[S mF.name, .slice E 2 Q,S P9, .bool false,I 3, .slice H 2 N, .slice none 0 0], .agg #[S mG.name, .slice none 0 0,S [], .bool false,I 1, .slice X 1 D, .slice none 0 0]] [mF,mG] rfl rfl (by simp;exact ⟨rfl,rfl⟩) rfl
  ⟨⟨_,_,_,rfl,s.up b,d.up b,Sl.nil,by decide,by decide,by decide⟩,⟨_,_,_,rfl,Sl.nil,t,Sl.nil,by decide,by decide,by decide⟩,trivial⟩ fun Z w5 σ5 i z=>?_
 have p:=z
 obtain ⟨J,O,rfl,_⟩:=p
 refine W1 (cells:= #[S kA,S U0, .slice none 0 0, .bool false, .bool false, .bool false, .slice V 2 C, .slice J 2 O]) (by kernel_rfl) ?_
 refine T4 (R:=U8) (sz:=1) i.sat [S [73]] [[73]] rfl rfl (by simp;rfl) rfl ⟨⟨rfl,by decide⟩,trivial⟩ fun v6 w6 σ6 c j=>?_
 have k:=j
 obtain ⟨W,U,rfl,_⟩:=k
 refine W1 (cells:= #[S fL.name,S fL.kind, .bool false]) (by kernel_rfl) ?_
 refine T4 (R:=S2) (sz:=3) c.sat [.agg #[S fL.name,S fL.kind, .bool false]] [fL] rfl rfl (by simp;rfl) rfl ⟨⟨rfl,by decide,by decide⟩,trivial⟩ fun v7 w7 σ7 a u=>?_
 have q:=u
 obtain ⟨L,M,rfl,_⟩:=q
 refine W1 (cells:= #[S cB.name,S kA, .slice W 1 U, .bool false, .bool false, .bool false, .slice L 1 M, .slice none 0 0]) (by kernel_rfl) ?_
 refine W1 (cells:= #[S cI.name,S U0, .slice none 0 0, .bool true, .bool true, .bool false, .slice none 0 0, .slice none 0 0]) (by kernel_rfl) ?_
 refine W1 (cells:= #[S cD.name,S U0, .slice none 0 0, .bool false, .bool true, .bool false, .slice none 0 0, .slice none 0 0]) (by kernel_rfl) ?_
 refine T4 (R:=V0) (sz:=8) a.sat [.agg #[S kA,S U0, .slice none 0 0, .bool false, .bool false, .bool false, .slice V 2 C, .slice J 2 O], .agg #[S cB.name,S kA, .slice W 1 U, .bool false, .bool false, .bool false, .slice L 1 M, .slice none 0 0], .agg #[S cI.name,S U0, .slice none 0 0, .bool true, .bool true, .bool false, .slice none 0 0, .slice none 0 0], .agg #[S cD.name,S U0, .slice none 0 0, .bool false, .bool true, .bool false, .slice none 0 0, .slice none 0 0]] B7 rfl rfl (by simp;exact ⟨rfl,rfl,rfl,rfl⟩) rfl
  ⟨⟨_,_,_,rfl,Sl.nil,(((e.up b).up i).up c).up a,(z.up c).up a,by decide,by decide⟩,⟨_,_,_,rfl,j.up a,u,Sl.nil,by decide,by decide⟩,⟨_,_,_,rfl,Sl.nil,Sl.nil,Sl.nil,by decide,by decide⟩,⟨_,_,_,rfl,Sl.nil,Sl.nil,Sl.nil,by decide,by decide⟩,trivial⟩ fun v8 w8 σ8 A B=>?_
 exact h _ _ _ ((((((((o.trans g).trans f).trans b).trans i).trans c).trans a)).trans A) B)
end Go.Proofs.YtjdiakhipmggjaaGreatDoor

namespace Go.Emb
open Go.RowKit
end Go.Emb
namespace Go.Proofs.YtjdiakhipmggjaaGreatDoor
open Go.Emb Go.RowKit Go.Kd Go.Hm
variable {w : World} {K : Value → World → Prop} {σ : Q6} {l : List Cla}
end Go.Proofs.YtjdiakhipmggjaaGreatDoor

namespace Go.Proofs.YtjdiakhipmggjaaGreatDoor
open Go.Emb Go.RowKit Go.Kd Go.Hm
variable {w w' : World} {K : Value → World → Prop} {σ σ' : Q6} {ds : List Value} {room : Int} {cs : List Cel} {l : List Cla} {hp tv : Value}
theorem HeapIs.mono {B B':Nat} {D:Nat→Prop} (h:HeapIs B D σ w hp tv room cs) (hB:B'≤B):HeapIs B' D σ w hp tv room cs:=by
 obtain ⟨b,j,E,n,k,g,⟨vs,d,c,m,hD⟩,hE,a⟩:=h.ex
 exact ⟨b,j,E,n,Nat.le_trans hB k,g,⟨vs,d.mono hB,⟨c.1,fun i e f=>(c.2 i e f).mono hB⟩,m,hD⟩,hE,a⟩
theorem X3r {a:Addr} {n:Int} (i:X3 w σ)
 (g:(n<0∨1048576<n)→K (.tuple #[.pointer none,I 90]) w)
 (j:0≤n→n≤1048576→ ∀b w' σ' D,Stp w σ w' σ'→HeapIs w.heap.size D σ' w' (.pointer (some ⟨b,0,none⟩)) (.pointer (some a)) n []→K (.tuple #[.pointer (some ⟨b,0,none⟩),I 0]) w'):Q1 P F.cO [.pointer (some a),I n] w K:=Q7W (by
 unfold Q32
 refine Z1 ?_
 by_cases e:n<0
 ·rw[decide_eq_true e]
  (try simp only[D0,E4,S4,W5,W7,W9,M8,M7,H8,Bool.not_true,Bool.not_false])
  exact g (.inl e)
 rw[decide_eq_false e]
 (try simp only[D0,E4,S4,W5,W7,W9,M8,M7,H8,Bool.not_true,Bool.not_false])
 refine Q1C ?_
 by_cases f:(1048576:Int)<n
 ·rw[decide_eq_true f]
  exact J6 (g (.inr f))
 rw[decide_eq_false f]
 refine Z6 ?_
 refine W1 (cells:= #[.pointer (some a),I n,I 0, .slice none 0 0]) (by kernel_rfl) ?_
 refine En (cs:=[.pointer (some a),I n,I 0, .slice none 0 0]) i fun b w1 σ1 h d c=>?_
 exact j (by omega) (by omega) b w1 σ1 _ d ⟨b,_,_,rfl,h,c,RowsIs.nil,id,fun k=>Iff.rfl⟩)
theorem X0k:P.underlying T.aq=some (.int .u16):=by kernel_rfl
theorem X1N: ∀c∈B7,Qo c:=X2Y (by decide)
theorem Q1I:Wf B7:=X3y Q2M
set_option maxHeartbeats 1000000 in
theorem Q7c {r:Int} (hs:X3 w σ) (hg:Glb σ) (hr:0≤r)
 (h: ∀b a D ds w' σ',Stp w σ w' σ'→HeapIs w.heap.size D σ' w' (.pointer (some ⟨b,0,none⟩)) (.pointer (some a)) (r % 301) []→E3 σ' (Q5 B7,r % 301,[]) ds→Tab σ' (.pointer (some a)) (Q5 B7)→Ok (Q5 B7)→K (.tuple #[.pointer (some ⟨b,0,none⟩), .agg ds.toArray]) w'):Q1 P F.aj [.int .u16 r] w K:=Pb (by
 have hr0:=Int.emod_nonneg r (show (301:Int)≠0 by decide)
 have hr1:=Int.emod_lt_of_pos r (show (0:Int)<301 by decide)
 unfold Ni
 refine N1 hs fun b3 w1 σ1 hb3 hk1 hm1=>?_
 refine Q4H hk1.sat fun v w2 σ2 hk2 hv2=>?_
 refine X49 hk2.sat (hg.lift ⟨(hk1.trans hk2).le⟩) hv2 (by decide) X1N (fun i e _ _ hn=>by rw[Q2M] at hn;cases hn) fun tv w3 σ3 _ hk3 ht ok _=>?_
 obtain ⟨a,_,_,_,rfl,_⟩:=ht.ex
 have hS3:=(hk1.trans hk2).trans hk3
 refine J0 (vs:=[_,_,_]) rfl ?_
 refine J0 (vs:=[_,_,_]) rfl ?_
 refine J0 (vs:=[_,_,_]) rfl ?_
 refine Q4H hk3.sat fun v4 w4 σ4 hk4 hv4=>?_
 refine X1F hk4.sat hv4 (by decide) (fun i e _ _ hn=>by rw[Q2M] at hn;cases hn) fun lv w5 σ5 _ hk5 hlv ok5 _=>?_
 have hk35:=hk4.trans hk5
 have hS5:=hS3.trans hk35
 refine J0 (vs:=[_,_,_]) rfl ?_
 refine J0 (vs:=[_,_,_]) rfl ?_
 refine J0 (vs:=[_,_,_]) rfl ?_
 refine Q6q ⟨by decide,hr⟩ ?_
 rw[Iy X0k Q1u]
 have ew:IntKind.i64.wrap (r % 301)=r % 301:=G8 (n:=r % 301) (by omega) (by omega)
 rw[ew]
 simp only[decide_true,Bool.not_true,Bool.false_eq_true,reduceIte,↓M1,M1,Mb,reduceIte]
 refine X2Q ?_
 simp only[decide_true,Bool.not_true,Bool.false_eq_true,reduceIte,↓M1,M1,Mb,reduceIte]
 refine X3r (n:=r % 301) hk5.sat (fun hx=>absurd hx (by omega)) fun _ _ b6 w6 σ6 D hk6 h6=>?_
 refine J0 (vs:=[_,_]) rfl ?_
 refine J0 (vs:=[_,_]) rfl ?_
 simp only[decide_true,Bool.not_true,↓M1,M1,Mb,reduceIte]
 refine W1 (cells:= #[lv,I (r % 301), .slice none 0 0]) (by obtain ⟨a5,c5,hle,_⟩:=id hlv;generalize (Q5 B7).length=n5 at hle;subst hle;kernel_rfl) ?_
 have hm6:=hm1.up ((hk2.trans hk3).trans (hk35.trans hk6))
 have hrh:E3 σ6 (Q5 B7,r % 301,[]) [lv,I (r % 301), .slice none 0 0]:=⟨_,_,rfl,hlv.up hk6,Sl.nil⟩
 refine Ob (ds:=[lv,I (r % 301), .slice none 0 0]) hm6 rfl rfl (by rw[List.all_toArray];exact List.all_eq_true.2 (Rep.one hrh)) fun w7 u7 hm7=>?_
 refine V1 hm7 rfl ?_
 have hS6:=hS5.trans hk6
 have hB3:=N2 hb3 (Stp.refl hs)
 have hS7:=u7.stp hS6 hB3 hm6.1
 have hb35:b3<w5.heap.size:=by
  have:=(hm1.up ((hk2.trans hk3).trans hk35)).lt
  exact this
 exact h b6 a D _ w7 σ6 hS7 ((h6.nx (Nxt.of_upd hk6.sat u7 hm6.1) fun k hk e=>by have:=(h6.mem hk).1;omega).mono hS5.bel.size) hrh (ht.lift ⟨(hk35.trans hk6).le⟩) ok)
theorem X1d {x:ActH} {ds:List Value} (f:X3 w σ) (d:Hk σ x ds) (h: ∀w',Below w.heap.size w w'→K (.bool (decide (x.s.length≤100)&&decide (x.v.s.length≤5000))) w'):Q1 P F.ag [.agg ds.toArray] w K:=Q0I (by
 have g:=d
 obtain ⟨rfl,m,k⟩:=d
 unfold Ed
 refine Z0 f fun q w1 σ1 a c=>?_
 refine V7 ?_
 refine ld (i:=1) a.sat c rfl ?_
 refine Gh (by kernel_rfl) ?_
 refine Q52 ?_
 cases e:decide ((x.s.length:Int)≤100) with
 | false=>
  have b:decide (x.s.length≤100)=false:=by rw[←e];congr 1;simp only[eq_iff_iff];omega
  rw[b] at h
  (try simp only[↓M1,M1,Mb,reduceIte])
  exact h _ a.bel
 | true=>
  have b:decide (x.s.length≤100)=true:=by rw[←e];congr 1;simp only[eq_iff_iff];omega
  rw[b] at h
  (try simp only[D0,E4,S4,W5,W7,W9,M8,M7,H8,Bool.not_true,Bool.not_false])
  (repeat refine Hd.h ?_)
  refine ld (i:=6) a.sat c rfl ?_
  (repeat refine Hd.h ?_)
  refine Gh (by kernel_rfl) ?_
  (repeat refine Hd.h ?_)
  refine Q52 ?_
  (repeat refine Hd.h ?_)
  have j:decide ((x.v.s.length:Int)≤5000)=decide (x.v.s.length≤5000):=by congr 1;simp only[eq_iff_iff];omega
  rw[j]
  exact h _ a.bel)
theorem X38 {v u:Value} (hs:X3 w σ) (hv:Sl 2 H4 σ v cs) (hu:Sl 2 H4 σ u cs) (h: ∀w',Below w.heap.size w w'→K (.bool true) w'):Q1 P F.bC [v,u] w K:=Q01 (by
 have hcl:=hv.max
 unfold Dc
 refine Q8 hv ?_
 refine Q8 hu ?_
 refine Zb ?_
 simp only[decide_true,Bool.not_true,↓M1,M1,Mb,reduceIte]
 refine U2 cs.length (fun i w'=>Stp w σ w' σ) (Stp.refl hs) fun i w1 d hi hk1=>?_
 have hv1:=hv.up hk1
 have hu1:=hu.up hk1
 refine Q8 hv1 ?_
 refine Z1 ?_
 refine Q7 (fun hc=>?_) (fun hc=>?_)
 ·have hi':i<cs.length:=by simpa using hc
  obtain ⟨vv,p1,p2,b2⟩:=Sl.elO hv1 hi'
  obtain ⟨uu,q1,q2,_⟩:=Sl.elO hu1 hi'
  have hmx:=p2.max
  refine J9 hk1.sat ?_
  (repeat (apply J3;(· intros;(repeat (rename_i hx;subst hx));(repeat' (first | (with_reducible exact M5 rfl) | (with_reducible exact R8 (Stp.bel (by (repeat (first | exact Stp.refl (by (first | assumption | exact Stp.sat (by assumption) | exact Hst.sat (by assumption))) | assumption | refine Stp.trans ?_ (by first | assumption | exact Hst.stp (by assumption)))))) rfl) | (with_reducible intro _) | (simp only[↓M2,M2,Mb,reduceIte]) | (with_reducible refine Zz ?_) | (with_reducible show Q2 _ _ _ _ _;first | refine X7 aS aL aR ?_ | refine Y2 aS aL aR ?_ | refine ld aS aL aR ?_) | (with_reducible show indexAddr _ _ _ _ _ _;refine Y1 aL au ?_) | (with_reducible show X2 _ _ _ _ _ _ _ _;refine Q8 aL ?_) | (with_reducible show F2 _ _ _ _ _ _;refine Z9 aR ?_) | (with_reducible show pick _ _ _ _ _ _;refine L8 ?_) | (apply F4;intro hh;(try simp only[hh,reduceIte,↓M2,M2,Mb,reduceIte]))));done)))
  simp only[decide_true,Bool.not_true,Bool.false_eq_true,reduceIte]
  (repeat (apply J3;(· intros;(repeat (rename_i hx;subst hx));(repeat' (first | (with_reducible exact M5 rfl) | (with_reducible exact R8 (Stp.bel (by (repeat (first | exact Stp.refl (by (first | assumption | exact Stp.sat (by assumption) | exact Hst.sat (by assumption))) | assumption | refine Stp.trans ?_ (by first | assumption | exact Hst.stp (by assumption)))))) rfl) | (with_reducible intro _) | (simp only[↓M2,M2,Mb,reduceIte]) | (with_reducible refine Zz ?_) | (with_reducible show Q2 _ _ _ _ _;first | refine X7 aS aL aR ?_ | refine Y2 aS aL aR ?_ | refine ld aS aL aR ?_) | (with_reducible show indexAddr _ _ _ _ _ _;refine Y1 aL au ?_) | (with_reducible show X2 _ _ _ _ _ _ _ _;refine Q8 aL ?_) | (with_reducible show F2 _ _ _ _ _ _;refine Z9 aR ?_) | (with_reducible show pick _ _ _ _ _ _;refine L8 ?_) | (apply F4;intro hh;(try simp only[hh,reduceIte,↓M2,M2,Mb,reduceIte]))));done)))
  (intros;(repeat (rename_i hx;subst hx));(try simp only[↓M2,M2,Mb,reduceIte]))
  rename_i w2 hb2
  (repeat refine Hd.h ?_)
  simp only[decide_true,Bool.not_true,↓M1,M1,Mb,reduceIte]
  refine U2 cs[i].vals.length (fun j w'=>Stp w1 σ w' σ) hb2.stp fun j w3 d hj hk3=>?_
  have hv3:=hv1.up hk3
  have hu3:=hu1.up hk3
  refine Y1 hv3 hi' ?_
  refine V7 ?_
  refine ld hk3.sat (p1.up hk3) rfl ?_
  refine Q8 (p2.up hk3) ?_
  refine Z1 ?_
  refine Q7 (fun hc=>?_) (fun hc=>?_)
  ·have hj':j<cs[i].vals.length:=by simpa using hc
   obtain ⟨p3,r3⟩:=Sl.elV (p2.up hk3) hj'
   obtain ⟨q3,t3⟩:=Sl.elV (q2.up hk3) hj'
   have p13:=p1.up hk3
   have q13:=q1.up hk3
   have p23:=p2.up hk3
   have q23:=q2.up hk3
   refine J9 hk3.sat ?_
   (repeat refine J3 Qe ?_)
   (intros;(repeat (rename_i hx;subst hx));(try simp only[↓M2,M2,Mb,reduceIte]))
   rename_i w4 hb4
   refine Q7e ?_
   simp only[decide_true,Bool.not_true,↓M1,M1,Mb,reduceIte]
   exact Y5 (by omega) hj' (hk3.trans hb4.stp)
  ·exact Y5 hcl hi' (hk1.trans hk3)
 ·exact h _ hk1.bel)
end Go.Proofs.YtjdiakhipmggjaaGreatDoor

namespace Go.Proofs.YtjdiakhipmggjaaGreatDoor
open Go.Emb Go.RowKit Go.Kd Go.Hm
variable {w w' : World} {K : Value → World → Prop} {σ σ' : Q6} {ds : List Value} {room : Int} {cs : List Cel} {l : List Cla} {hp tv : Value}
def zfK:X0:=[90,101,114,111,70,97,117,108,116]
def zf1:List Cel:=[⟨zfK,[⟨3,0,[],0⟩]⟩]
def zf2:List Cel:=zf1++[⟨P9++[91,93],List.replicate 3 ⟨1,0,[],0⟩⟩]
theorem X0p:Zw (Q5 B7) 10 [] zfK=(zf1,0):=by decide
theorem X0h:Zx (Q5 B7) 10 zf1 P9 3=(zf2,0):=by decide
theorem Q3J:W3 []=true:=by decide+kernel
theorem Q7y:GoodH W3 (Q5 B7) 10 zf2:=by
 have a:=GoodH.obj Q1I Q3J (GoodH.empty (ok:=W3) (l:=Q5 B7) (show (0:Int)≤10 by decide)) zfK
 rw[X0p] at a
 have b:=GoodH.arr Q1I Q3J a P9 3
 rw[X0h] at b
 exact b
theorem X4c:P.underlying T.a5=some (.pointer T.p):=by kernel_rfl
theorem X0O (d:Nat) (o:Option Addr):(Op.equalIn (d+1) T.a5 (.pointer o) (.pointer none)).run P w= .ok o.isNone w:=by
 cases o<;>simp[Op.equalIn,run_underlying X4c]
theorem Q9z {a:Addr} {c b:Operand} (h:K (.bool false) w):Q3 P .eql T.a5 c b (.pointer (some a)) (.pointer none) w K:=by
 have e:(Op.equal T.a5 (.pointer (some a)) (.pointer none)).run P w= .ok false w:=X0O 9999 _
 unfold Q3
 rw[X9 (v:= .bool false) (w':=w) (by simp[eqGuard,Go.binOp,e])]
 exact h
theorem X2E {a:Addr} {c b:Operand} (h:K (.bool true) w):Q3 P .neq T.r c b (.pointer (some a)) (.pointer none) w K:=by
 have e:(Op.equal T.r (.pointer (some a)) (.pointer none)).run P w= .ok false w:=Q5y 9999 _
 unfold Q3
 rw[X9 (v:= .bool true) (w':=w) (by simp[eqGuard,Go.binOp,e])]
 exact h
set_option maxHeartbeats 1000000 in
theorem Q7m (hs:X3 w σ) (O:Glb σ) (h: ∀w' σ',Stp w σ w' σ'→K (.bool true) w'):Q1 P F.ai [] w K:=Pq (by
 unfold Oc
 refine Q7c hs O (by decide) fun b a D ds w1 σ1 g B p ht ok=>?_
 refine J0 (vs:=[_,_]) rfl ?_
 refine J0 (vs:=[_,_]) rfl ?_
 refine N1 g.sat fun b2 w2 σ2 u i q=>?_
 have Y:=N2 u g
 refine Ob q rfl (by obtain ⟨lv,cv,rfl,_⟩:=E3.out p;rfl) (by rw[List.all_toArray];exact List.all_eq_true.2 (Rep.one p)) fun W V ac=>?_
 have R:=g.trans i
 have h2:=B.up i
 have d:Stp w1 σ1 W σ2:=V.stp i u q.1
 have N:=B.up d
 have z:=g.trans d
 rw[show (10 % 301:Int)=10 from rfl] at N
 refine Q9z ?_
 (try simp only[D0,E4,S4,W5,W7,W9,M8,M7,H8,Bool.not_true,Bool.not_false])
 have r:=ht.lift ⟨d.le⟩
 refine Q5x d.sat z.bel.size N r ok (k:=zfK) (by decide) (by decide) (by decide) fun w4 σ4 D4 A E Z=>?_
 simp only[X0p] at E
 have s:=r.lift A.le
 refine J0 (vs:=[_,_]) rfl ?_
 refine J0 (vs:=[_,_]) rfl ?_
 have L: ∀{k},D k→w.heap.size≤k:=fun t=>(B.mem t).1
 have y:=A.stp' z fun k t=>L t
 refine Q7r A.sat y.bel.size E s (e:=P9) (n:=3) (by decide) (by decide) (by decide) fun w5 σ5 D5 Q M X=>?_
 simp only[X0h] at M
 have H:=s.lift Q.le
 have m:=Q.stp' y fun k t=>(E.mem t).1
 refine J0 (vs:=[_,_]) rfl ?_
 refine J0 (vs:=[_,_]) rfl ?_
 obtain ⟨σf,U,o,v,_⟩:=M.freeze m.sat
 simp only[X0p,X0h,show atM [] 0=0 from rfl,show atM zf1 0=1 from rfl,decide_true,↓M1,M1,Mb,reduceIte]
 refine Q1N U v Q7y.left (by decide) fun w6 J=>?_
 have f:=Stp.of_below U J
 simp only[show V8 10 zf2=4 from by decide,decide_true,↓M1,M1,Mb,reduceIte]
 have c:=v
 refine X3u f.sat c ?_
 simp only[show ((zf2.length:Nat):Int)=2 from by decide,decide_true,↓M1,M1,Mb,reduceIte]
 refine Q7z f.sat c ?_
 refine P7 ?_
 simp only[show E1 zf2 0=zfK from by decide,show decide (zfK=[90,101,114,111,70,97,117,108,116])=true from by decide,↓M1,M1,Mb,reduceIte]
 refine X2i f.sat c ?_
 simp only[show Q6i zf2 1=3 from by decide,decide_true,↓M1,M1,Mb,reduceIte]
 have C:=(O.lift ⟨m.le⟩).lift o
 refine X2s f.sat C c (H.lift o) ok Q7y.cells fun w7 σ7 j=>?_
 simp only[↓M1,M1,Mb,reduceIte]
 refine X0v j.sat (c.lift ⟨j.le⟩) ?_
 refine X2E ?_
 (try simp only[↓M1,M1,Mb,reduceIte])
 exact h w7 σ5 (m.trans ((f.trans j).weak o.le)))
end Go.Proofs.YtjdiakhipmggjaaGreatDoor

namespace Go.Emb
open Go.RowKit Go.Hm
variable {P : Program} {w w0 w1 w' w'' : World} {K : Value → World → Prop} {σ σ0 σ1 σ' : Q6} {b n : Nat} {ds : List Value} {v V : Value}
structure VarT (b : Nat) (ds : List Value) (w w' : World) : Prop where
  kp : Kpt (fun j => j = b) w w'
  var : (b < w.heap.size → w'.heap[b]? = w.heap[b]?) ∨ ∃ e, w'.heap[b]? = some (.cells ds.toArray e (0, 0))
structure VarB (w0 : World) (σ0 : Q6) (w1 : World) (σ : Q6) (b n : Nat) (w' : World) : Prop where
  hst : Hst w0 σ0 w' σ
  kp : Kpt (fun j => j = b) w1 w'
  var : ∃ cs, cs.length = n ∧ Y3 σ w' b cs
theorem VarT.of_below (h:Below w.heap.size w w'):VarT b ds w w':=⟨.of_below h, .inl fun a=>h.block b a⟩
theorem VarT.of_upd (h:Upd w b w') (a:Y3 σ w' b ds):VarT b ds w w':=⟨.of_upd h rfl, .inr a.2⟩
theorem VarB.step (g:w0.heap.size≤b) (c:ds.length=n) (h:VarB w0 σ0 w1 σ b n w) (k:VarT b ds w w'):VarB w0 σ0 w1 σ b n w':=by
 obtain ⟨cs,d,a⟩:=h.var
 refine ⟨⟨h.hst.stp.kp k.kp fun j f=>by subst f;exact ⟨g,a.1⟩⟩,h.kp.trans k.kp,?_⟩
 rcases k.var with e | e
 ·exact ⟨cs,d,a.1,by rw[e a.lt];exact a.2⟩
 ·exact ⟨ds,c,a.1,e⟩
theorem Q6s {A:(World→World→Prop)→(World→Prop)→Prop} (ds:List Value) {cs:List Value} (a:Stp w0 σ0 w σ) (e:w0.heap.size≤b) (f:Y3 σ w b cs) (c:cs.length=n) (i:ds.length=n)
 (h:A (VarT b ds) (VarB w0 σ0 w σ b n)):dr w A:=
 Pv _ _ ⟨⟨a.trans (Stp.of_below a.sat (Below.refl _ _).drew)⟩, .of_below (Below.refl _ _).drew,cs,c,f⟩ (fun _ _ d g=>d.step e i g) h
theorem G2 (h:V=v):dk (VarT b ds) (fun v _=>V=v) w v w:=⟨.of_below (Below.refl _ _),h⟩
theorem Zo (a:Below w.heap.size w w') (h:V=v):dk (VarT b ds) (fun v _=>V=v) w v w':=⟨.of_below a,h⟩
theorem Jo {t:TypeId} {c:Nat} {z:Value} [tz:TZ P t n c z] {a:(List Value→Value→World→Prop)→Prop} {φ:Value→World→Prop} (s:ds.length=n) (j: ∀u∈ds,u.oneCell'=true) (m: ∀v w,φ v w→ .agg ds.toArray=v)
 (g:a (fun _ _ w=>Y3 σ w b ds)) (f:σ b=none):Sr (VarT b ds) (fun F=> ∀x w,VarB w0 σ0 w1 σ b n w→φ x w→Y0 P t (.pointer (some ⟨b,0,none⟩)) x w (dk (VarT b ds) (F [x]) w)) a:=by
 refine Q3C _ (fun xs v w w' h k=>?_) (fun x w r p=>?_) g
 ·rcases k.var with e | e
  ·exact ⟨f,by rw[e h.lt];exact h.2⟩
  ·exact ⟨f,e⟩
 ·have:=m x w p
  subst this
  obtain ⟨cs,q,o⟩:=r.var
  exact Ob o q s (by rw[List.all_toArray];exact List.all_eq_true.2 j) fun w' i d=>⟨.of_upd i d,d⟩
theorem Wh {c d:Bool} {V:Value} {a:World→(Value→World→Prop)→Prop} (h:c=d→a w (dk (VarT b ds) (fun v _=>V=v) w)):Q0 (.bool c) d w a (dk (VarT b ds) (fun v _=>(if c=d then V else undef)=v) w):=by
 by_cases e:c=d
 ·simp only[e,if_true]
  subst e
  have:=h rfl
  cases c
  ·rw[W7];exact this
  ·rw[W5];exact this
 ·simp only[e,if_false]
  cases c<;>cases d<;>first | exact absurd rfl e | (rw[S4];exact G2 rfl) | (rw[E4];exact G2 rfl)
theorem VarB.hs (h:VarB w0 σ0 w1 σ b n w):Hst w0 σ0 w σ:=h.hst
end Go.Emb
namespace Go.Proofs.YtjdiakhipmggjaaGreatDoor
open Go.Emb Go.RowKit Go.Kd Go.Hm
variable {w w' : World} {K : Value → World → Prop} {σ σ' : Q6} {ds : List Value} {room : Int} {cs : List Cel} {l : List Cla} {hp tv : Value}
theorem Q3G {a:Nat} {f h:World} {d:Q6} {x:List Cla×Int×List Cel} {e r:List Value} (o:Stp w σ f d) (hB:w.heap.size≤a) (p:Y3 d f a r) (u:Upd f a h) (g:Y3 d h a e):
 ∃c,Stp w σ h c∧Z4 c ⟨a,0,none⟩ e∧SLe d c∧ ∀k,k≠a→c k=d k:=by
 obtain ⟨c,i,q,j,m⟩:=g.keep (u.stp o hB p.1) hB
 exact ⟨c,i,q,⟨j⟩,m⟩
end Go.Proofs.YtjdiakhipmggjaaGreatDoor

namespace Go.Emb
open Go.RowKit Go.Hm
variable {P : Program} {w w0 w1 w' w'' : World} {K : Value → World → Prop} {σ σ0 σ1 σ' : Q6} {b n : Nat} {ds : List Value} {v V : Value}
theorem Z4.tail {q:Addr} {xs ys:List Value} (h:Z4 σ q (xs++ys)):Z4 σ (q.add xs.length) ys:=by
 obtain ⟨d,a,e,z,g,f⟩:=h
 cases xs with
 | nil=>exact ⟨by simp[Addr.add,d],a,e,z,by simpa [Addr.add] using g,fun i u c=>by simpa [Addr.add] using f i u c⟩
 | cons x xs=>
  refine ⟨by simp[Addr.add,d],a,e,z,by simpa [Addr.add] using g,fun i u c=>?_⟩
  have:=f ((x::xs).length+i) u (by rw[List.getElem?_append_right (by omega)];simpa using c)
  simpa [Addr.add,Nat.add_assoc] using this
theorem J7.down {α:Type} {R:Q6→α→List Value→Prop} {B sz:Nat} {e:TypeId} {v:Value} {xs:List α} (h:J7 B e sz R σ' w v xs) (s:SLe σ σ') (q: ∀x cs,R σ' x cs→R σ x cs):J7 B e sz R σ w v xs:=by
 obtain ⟨a,j,rfl,t,C,c,u⟩:=h
 have p: ∀k,σ' k=none→σ k=none:=fun k z=>by
  cases e:σ k with
  | none=>rfl
  | some o=>have:=s.le k o e;rw[z] at this;cases this
 refine ⟨a,j,rfl,t,C,fun b d=>⟨(c b d).1,(c b d).2.1,(c b d).2.2.1,p _ (c b d).2.2.2⟩,fun y=>?_⟩
 obtain ⟨g,m,f,rfl,L,r,E,H,J⟩:=u y
 exact ⟨g,m,f,rfl,L,p _ r,E,H,fun i x A=>q _ _ (J i x A)⟩
end Go.Emb
namespace Go.Proofs.YtjdiakhipmggjaaGreatDoor
open Go.Emb Go.RowKit Go.Kd Go.Hm
variable {w w' w0 w1 : World} {K : Value → World → Prop} {σ σ' σ0 : Q6} {ds : List Value} {room : Int} {cs cs' : List Cel} {l : List Cla} {hp tv : Value} {B b : Nat} {D : Nat → Prop} {V v : Value}
theorem X0z {ok:X0→Bool} {r i:Int} {v:Val}:L7 ok l (L7 ok l cs r i v).1 r i v=L7 ok l cs r i v:=by
 by_cases g:M4 cs r i=0
 case neg=>
  have e:L7 ok l cs r i v=(cs,M4 cs r i):=by unfold L7;rw[if_pos g]
  rw[e];exact e
 cases k:F5 ok l cs v (Xk l (Wp cs r).kind i.toNat) with
 | false=>
  have e:L7 ok l cs r i v=(cs,91):=by unfold L7;rw[if_neg (fun h=>h g),k];rfl
  rw[e];exact e
 | true=>
  have e:L7 ok l cs r i v=(B8 cs r i v,0):=by unfold L7;rw[if_neg (fun h=>h g),k];rfl
  rw[e]
  obtain ⟨j,m,rfl,rfl,a,y⟩:=Uj g
  have q:M6 cs (j:Int)=true:=O9.2 ⟨j,rfl,a⟩
  have d:B8 cs j m v=cs.set j ⟨cs[j].kind,cs[j].vals.set m v⟩:=by unfold B8;rw[W4 a,Int.toNat_natCast,Int.toNat_natCast]
  have s:(B8 cs j m v).length=cs.length:=by rw[d];simp
  have c:j<(B8 cs j m v).length:=by rw[s];exact a
  have f:Wp (B8 cs j m v) j=⟨cs[j].kind,cs[j].vals.set m v⟩:=by
   rw[W4 c];simp only[d,List.getElem_set_self]
  have p:M6 (B8 cs j m v) (j:Int)=true:=O9.2 ⟨j,rfl,c⟩
  have u:M4 (B8 cs j m v) j m=0:=by
   unfold M4
   rw[p,f]
   simp only[if_true,List.length_set]
   rw[if_pos ⟨by omega,by omega⟩]
  have o:F5 ok l (B8 cs j m v) v (Xk l (Wp (B8 cs j m v) j).kind (m:Int).toNat)=true:=by
   rw[f]
   rw[W4 a] at k
   exact Ri (fun _ _=>Q3r q) k
  have t:B8 (B8 cs j m v) j m v=B8 cs j m v:=by
   unfold B8 at f⊢
   rw[f]
   simp only[Int.toNat_natCast,List.set_set]
   rw[W4 a]
  unfold L7
  rw[if_neg (fun h=>h u),o,t];rfl
theorem RowsIs.down {c:Value} (h:RowsIs B D σ' w c cs) (d:SLe σ σ'):RowsIs B D σ w c cs:=by
 obtain ⟨vs,e,a,j,hD⟩:=h.ex
 exact ⟨vs,e.down d fun _ _ h=>h,⟨a.1,fun i f g=>(a.2 i f g).down d fun _ _ h=>h⟩,j,hD⟩
theorem HeapIs.down (h:HeapIs B D σ' w hp tv room cs) (c:SLe σ σ'):HeapIs B D σ w hp tv room cs:=by
 obtain ⟨b,f,E,rfl,hB,a,d,hE,hD⟩:=h.ex
 refine ⟨b,f,E,rfl,hB,⟨?_,a.2⟩,d.down c,hE,hD⟩
 cases e:σ b with
 | none=>rfl
 | some o=>have:=c.le b o e;rw[a.1] at this;cases this
structure SetT (B : Nat) (D : Nat → Prop) (σ : Q6) (hp tv : Value) (room : Int) (cs' : List Cel) (b : Nat) (ds : List Value) (w w' : World) : Prop where
  kp : Kpt (fun j => j = b ∨ D j) w w'
  var : (b < w.heap.size → w'.heap[b]? = w.heap[b]?) ∨ ∃ e, w'.heap[b]? = some (.cells ds.toArray e (0, 0))
  hp : (∀ j, D j → j < w.heap.size → w'.heap[j]? = w.heap[j]?) ∨ HeapIs B D σ w' hp tv room cs'
structure SetB (B : Nat) (D : Nat → Prop) (hp tv : Value) (room : Int) (cs cs' : List Cel) (w0 : World) (σ0 : Q6) (w1 : World) (σ : Q6) (b n : Nat) (w' : World) : Prop where
  hst : Hst w0 σ0 w' σ
  kp : Kpt (fun j => j = b ∨ D j) w1 w'
  var : ∃ zs, zs.length = n ∧ Y3 σ w' b zs
  hp : HeapIs B D σ w' hp tv room cs ∨ HeapIs B D σ w' hp tv room cs'
theorem SetB.hs {n:Nat} (h:SetB B D hp tv room cs cs' w0 σ0 w1 σ b n w):Hst w0 σ0 w σ:=h.hst
theorem SetT.of_below (h:Below w.heap.size w w'):SetT B D σ hp tv room cs' b ds w w':=⟨.of_below h, .inl fun c=>h.block b c, .inl fun j _ a=>h.block j a⟩
theorem HeapIs.same (h:HeapIs B D σ w hp tv room cs) (k:Kpt (fun j=>j=b∨D j) w w') (d:X3 w' σ) (c: ¬D b) (g: ∀j,D j→j<w.heap.size→w'.heap[j]? =w.heap[j]?):HeapIs B D σ w' hp tv room cs:=
 h.nx (F:=fun j=>j=b) ⟨⟨k.os,k.tape,k.output,k.size,fun j a f=>by
  by_cases e:D j
  ·exact g j e a
  ·exact k.block j a fun h=>h.elim f e⟩,SLe.refl _,fun _ _=>rfl,d⟩ fun j a e=>c (e▸a)
theorem SetB.step {n:Nat} (m:w0.heap.size≤b) (hB:w0.heap.size≤B) (f: ¬D b) (g:ds.length=n) (h:SetB B D hp tv room cs cs' w0 σ0 w1 σ b n w) (k:SetT B D σ hp tv room cs' b ds w w'):SetB B D hp tv room cs cs' w0 σ0 w1 σ b n w':=by
 obtain ⟨o,i,d⟩:=h.var
 have c: ∀j,D j→w0.heap.size≤j∧σ j=none:=fun j hj=>by
  rcases h.hp with h | h
  ·exact ⟨Nat.le_trans hB (h.mem hj).1,(h.mem hj).2.2⟩
  ·exact ⟨Nat.le_trans hB (h.mem hj).1,(h.mem hj).2.2⟩
 have a:Stp w0 σ0 w' σ:=h.hst.stp.kp k.kp fun j hj=>by
  rcases hj with rfl | hj
  ·exact ⟨m,d.1⟩
  ·exact c j hj
 refine ⟨⟨a⟩,h.kp.trans k.kp,?_,?_⟩
 ·rcases k.var with e | e
  ·exact ⟨o,i,d.1,by rw[e d.lt];exact d.2⟩
  ·exact ⟨ds,g,d.1,e⟩
 ·rcases k.hp with e | e
  ·rcases h.hp with h3 | h3
   ·exact .inl (h3.same k.kp a.sat f e)
   ·exact .inr (h3.same k.kp a.sat f e)
  ·exact .inr e
theorem X2V {n:Nat} {A:(World→World→Prop)→(World→Prop)→Prop} (cs':List Cel) (ds:List Value) {d:List Value} (a:Stp w0 σ0 w σ) (g:w0.heap.size≤b) (hB:w0.heap.size≤B) (c: ¬D b) (i:Y3 σ w b d) (e:d.length=n) (k:ds.length=n) (hh:HeapIs B D σ w hp tv room cs)
 (h:A (SetT B D σ hp tv room cs' b ds) (SetB B D hp tv room cs cs' w0 σ0 w σ b n)):dr w A:=
 Pv _ _ ⟨⟨a.trans (Stp.of_below a.sat (Below.refl _ _).drew)⟩, .of_below (Below.refl _ _).drew,⟨d,e,i⟩, .inl (hh.up (Stp.of_below a.sat (Below.refl _ _).drew))⟩ (fun _ _ f j=>f.step g hB c k j) h
theorem Q5Z (h:V=v):dk (SetT B D σ hp tv room cs' b ds) (fun v _=>V=v) w v w:=⟨.of_below (Below.refl _ _),h⟩
theorem X28 (a:Below w.heap.size w w') (h:V=v):dk (SetT B D σ hp tv room cs' b ds) (fun v _=>V=v) w v w':=⟨.of_below a,h⟩
theorem X0s {n:Nat} {t:TypeId} {c:Nat} {z:Value} [tz:TZ P t n c z] {a:(List Value→Value→World→Prop)→Prop} {φ:Value→World→Prop} (C:ds.length=n) (o: ∀u∈ds,u.oneCell'=true) (p: ∀v w,φ v w→ .agg ds.toArray=v)
 (m:a (fun _ _ w=>Y3 σ w b ds)) (i:σ b=none) (d: ¬D b):Sr (SetT B D σ hp tv room cs' b ds) (fun G=> ∀x w,SetB B D hp tv room cs cs' w0 σ0 w1 σ b n w→φ x w→Y0 P t (.pointer (some ⟨b,0,none⟩)) x w (dk (SetT B D σ hp tv room cs' b ds) (G [x]) w)) a:=by
 refine Q3C _ (fun xs v w w' h k=>?_) (fun x w A s=>?_) m
 ·rcases k.var with e | e
  ·exact ⟨i,by rw[e h.lt];exact h.2⟩
  ·exact ⟨i,e⟩
 ·have:=p x w s
  subst this
  obtain ⟨H,y,r⟩:=A.var
  exact Ob r y C (by rw[List.all_toArray];exact List.all_eq_true.2 o) fun w' f g=>⟨⟨.of_upd f (.inl rfl), .inr g.2, .inl fun j q E=>f.block j fun e=>d (e▸q)⟩,g⟩
theorem X22 {n:Nat} {x:Val} {r i:Int} {d:(Value→World→Prop)→Prop} {R J Q:Value→World→Prop} (M:Glb σ) (O:Tab σ tv l) (ok:Ok l) (p: ∀c∈cs,GoodC W3 l cs c) (m: ∀c∈(L7 W3 l cs r i x).1,GoodC W3 l (L7 W3 l cs r i x).1 c) (L:N0 σ x [I x.sort,I x.n,S x.s,I x.ref]) (z: ¬D b) (hσ:σ b=none)
 (X: ∀v w,R v w→I r=v) (h2: ∀v w,J v w→I i=v) (Z: ∀v w,Q v w→Value.agg [I x.sort,I x.n,S x.s,I x.ref].toArray=v)
 (U:d (fun v w=>I (L7 W3 l cs r i x).2=v∧X3 w σ∧HeapIs B D σ w hp tv room (L7 W3 l cs r i x).1)):
 Q4 (SetT B D σ hp tv room (L7 W3 l cs r i x).1 b ds) (fun G=> ∀H C E w,SetB B D hp tv room cs (L7 W3 l cs r i x).1 w0 σ0 w1 σ b n w→R H w→J C w→Q E w→Q1 P F.aG [hp,H,C,E] w (dk (SetT B D σ hp tv room (L7 W3 l cs r i x).1 b ds) G w)) d:=by
 refine H2 _ (fun v w w' h k=>?_) (fun H C E w A e1 e2 W=>?_) U
 ·obtain ⟨e,Y,h4⟩:=h
  have g:X3 w' σ:=Kpt.sat Y k.kp fun j q=>q.elim (fun e=>e▸hσ) fun q=>(h4.mem q).2.2
  rcases k.hp with e2 | e2
  ·exact ⟨e,g,h4.same k.kp g z e2⟩
  ·exact ⟨e,g,e2⟩
 ·have:=X _ _ e1
  have:=h2 _ _ e2
  have:=Z _ _ W
  subst_vars
  have u: ∀{a y},Nxt D w σ a y→HeapIs B D y a hp tv room (L7 W3 l cs r i x).1→SetT B D σ hp tv room (L7 W3 l cs r i x).1 b ds w a∧I (L7 W3 l cs r i x).2=I (L7 W3 l cs r i x).2∧X3 a σ∧HeapIs B D σ a hp tv room (L7 W3 l cs r i x).1:=fun {a y} N h4=>by
   have f:=h4.down N.le
   have t:b<w.heap.size:=by obtain ⟨zs,_,hm⟩:=A.var;exact hm.lt
   exact ⟨⟨N.kp.mono fun _ _ q=> .inr q, .inl fun _=>N.kp.block b t z, .inr f⟩,rfl,fun k o e=>N.sat k o (N.le.le k o e),f⟩
  rcases A.hp with h4 | h4
  ·exact Q8H A.hst.sat M h4 O ok p L fun a y N f=>u N f
  ·have hi:=X0z (ok:=W3) (l:=l) (cs:=cs) (r:=r) (i:=i) (v:=x)
   refine Q8H A.hst.sat M h4 O ok m L fun a y N f=>?_
   rw[hi] at f⊢
   exact u N f
end Go.Proofs.YtjdiakhipmggjaaGreatDoor

namespace Go.Proofs.YtjdiakhipmggjaaGreatDoor
open Go.Emb Go.RowKit Go.Kd Go.Hm
variable {w w' : World} {K : Value → World → Prop} {σ σ' : Q6} {ds : List Value} {room : Int} {cs : List Cel} {l : List Cla} {hp tv : Value}
theorem Vp {B f:Nat} {D i:Nat→Prop} {m c:World} {b:Q6} {h g:List Cel} {a:List Value} {G:Bool→Prop} {d:Bool} (hG:G d) (N:Nxt D w σ m b) (z:HeapIs B i b m hp tv room h) (n: ∀j,i j→D j∨w.heap.size≤j) (q: ¬i f) (y:w.heap.size≤f)
 (A:Kpt (fun j=>j=f) m c) (p:X3 c b) (v:Y3 b c f a) (o:a.length=3) (s:E3 b (Q5 l,room,g) a)
 (hh: ∀a d w' σ' D',G d→Nxt D w σ w' σ'→HeapIs B D' σ' w' hp tv room h→(∀j,D' j→D j∨w.heap.size≤j)→E3 σ' (Q5 l,room,g) a→K (.tuple #[.agg a.toArray, .bool d]) w'):
 Y8 P T.a (.pointer (some ⟨f,0,none⟩)) c fun t=>K (.tuple #[t, .bool d]) c:=by
 refine V1 v o ?_
 have r:Nxt (fun j=>j=f) m b c b:=⟨A,SLe.refl _,fun _ _=>rfl,p⟩
 exact hh a d c b i hG (N.chain r fun j C e=>by omega) (z.nx r fun k u e=>q (e▸u)) n s
set_option maxHeartbeats 2000000 in
theorem X4m {B:Nat} {D:Nat→Prop} {x:ActH} {xs:List Value} {cr:List Cel} (hs:X3 w σ) (hg:Glb σ) (hB:B≤w.heap.size) (h:HeapIs B D σ w hp tv room cs) (hr:E3 σ (Q5 l,room,cr) ds) (ht:Tab σ tv (Q5 l)) (wf:Wf l) (ok:Ok (Q5 l)) (hlen:(Q5 l).length≤1000)
 (good:GoodH W3 (Q5 l) room cs) (goodr:GoodH W3 (Q5 l) room cr) (h1:room≤1048576) (hx:Hk σ x xs) (hD0: ∀k,D k→B≤k)
 (hh: ∀ds' bb w' σ' D',(cr=cs→bb=true)→Nxt D w σ w' σ'→HeapIs B D' σ' w' hp tv room (B5 W3 (Q5 l) room cs x)→(∀j,D' j→D j∨w.heap.size≤j)→E3 σ' (Q5 l,room,B5 W3 (Q5 l) room cr x) ds'→K (.tuple #[.agg ds'.toArray, .bool bb]) w'):Q1 P F.ak [hp, .agg ds.toArray, .agg xs.toArray] w K:=Q1S (by
 have hx0:=hx
 have hr0:=hr
 obtain ⟨lv,cv,rfl,hl,hc⟩:=E3.out hr
 obtain ⟨rfl,⟨b1,b2,b3,b4⟩,hv⟩:=hx
 have hcl:=T6 cs
 have hlf:=good.left
 unfold V8 at hlf
 have hclr:=T6 cr
 have hlr:=goodr.left
 unfold V8 at hlr
 unfold Hp
 refine Z0 hs fun q4 w1 σ1 hk1 hq4=>?_
 refine Z0 hk1.sat fun q5 w2 σ2 hk2 hq5=>?_
 have hS2:=hk1.trans hk2
 refine N1 hk2.sat fun b6 w3 σ3 hb6 hk3 hm6=>?_
 have hS3:=hS2.trans hk3
 have hB6:=N2 hb6 hS2
 have hq43:=(hq4.up hk2).up hk3
 have hq53:=hq5.up hk3
 have h3:=h.up hS3
 have hr3:=L3 hr0 ⟨hS3.le⟩
 have ht3:=ht.lift ⟨hS3.le⟩
 have hg3:=hg.lift ⟨hS3.le⟩
 refine V7 ?_
 refine ld (i:=0) hk3.sat hq53 rfl ?_
 refine I2 ?_
 have hDl: ∀k,D k→k<w.heap.size:=fun k hk=>(h.mem hk).2.1
 have htk:Y9 cs≤1048576:=by omega
 have htr:Y9 cr≤1048576:=by omega
 by_cases e0:x.kind=0
 ·rw[decide_eq_true e0]
  have ea:B5 W3 (Q5 l) room cs x=(Zw (Q5 l) room cs x.s).1:=by unfold B5;rw[if_pos e0]
  have er:B5 W3 (Q5 l) room cr x=(Zw (Q5 l) room cr x.s).1:=by unfold B5;rw[if_pos e0]
  rw[ea,er] at hh
  refine J6 ?_
  refine Y2 hk3.sat hq43 rfl ?_
  refine V7 ?_
  refine ld (i:=1) hk3.sat hq53 rfl ?_
  refine X0r hk3.sat hr3 ok hlen b2 goodr.left h1 fun ds' w4 σ4 hk4 hr4=>?_
  refine J0 (vs:=[_,_]) rfl ?_
  refine J0 (vs:=[_,_]) rfl ?_
  have hS4:=hS3.trans hk4
  refine N1 hk4.sat fun b8 w5 σ5 hb8 hk5 hm8=>?_
  have hS5:=hS4.trans hk5
  have hB8:=N2 hb8 hS4
  have hr5:=L3 hr4 ⟨hk5.le⟩
  obtain ⟨lv',cv',hde,_,_⟩:=E3.out hr4
  subst hde
  refine Ob (ds:=[lv',I room,cv']) hm8 rfl rfl (by rw[List.all_toArray];exact List.all_eq_true.2 (Rep.one hr5)) fun w6 u6 hm86=>?_
  obtain ⟨σ7,hS7,hq8,l57,o7⟩:=Q3G (x:=(Q5 l,room,(Zw (Q5 l) room cr x.s).1)) hS5 hB8 hm8 u6 hm86
  have l37:SLe σ3 σ7:=(SLe.more ⟨hk4.le⟩ ⟨hk5.le⟩).more l57
  have hb68:b6≠b8:=by have:=(hm6.up hk4).lt;omega
  have hm66:=((hm6.up hk4).up hk5).upd u6 hb68
  have hm67:Y3 σ7 w6 b6 _:=⟨(o7 b6 hb68).trans hm66.1,hm66.2⟩
  have hq57:=hq53.lift l37
  have hq47:=hq43.lift l37
  refine V7 ?_
  refine ld (i:=1) hS7.sat hq57 rfl ?_
  refine Q5x hS7.sat (Nat.le_trans hB hS7.bel.size) (h.up hS7) (ht.lift ⟨hS7.le⟩) ok b2 good.left h1 fun w8 σ8 D8 N8 h8 hD8=>?_
  refine J0 (vs:=[_,_]) rfl ?_
  refine J0 (vs:=[_,_]) rfl ?_
  have N:=(Nxt.of_stp (D:=D) hS7).chain N8 fun k _ e=>e
  have hm68:=hm67.nx N8 fun e=>by have:=hDl _ e;omega
  have hne8: ¬D8 b6:=fun e=>by
   have:=hm67.lt
   rcases hD8 _ e with e | e
   ·have:=hDl _ e;omega
   ·omega
  have hD8': ∀j,D8 j→D j∨w.heap.size≤j:=fun j hj=>(hD8 j hj).imp id fun e=>Nat.le_trans hS7.bel.size e
  have hq48:=hq47.lift N8.le
  have hq88:=hq8.lift N8.le
  have hc8:Sl 2 H4 σ8 cv cr:=hc.lift N.le
  have hr8:=L3 hr5 (l57.more N8.le)
  have hsame:cr=cs→(Zw (Q5 l) room cr x.s).2=(Zw (Q5 l) room cs x.s).2:=fun h=>by rw[h]
  generalize (Zw (Q5 l) room cs x.s).2=e at*
  generalize (Zw (Q5 l) room cr x.s).2=f at*
  refine Q6s (w0:=Bl w8) (σ0:=fun _=>none) (n:=3) [lv',I room,cv'] (Xb N8.sat) (Nat.zero_le _) hm68 rfl rfl ?_
  unfold atM
  by_cases hfe:f=e
  case neg=>
   have hz0:decide (f=e)=false:=decide_eq_false hfe
   (repeat (apply J3;(· intros;(have hzz:=VarB.hs (by assumption));(repeat (rename_i hx;subst hx));(try simp only[hz0,decide_true,Bool.not_true,Bool.not_false,Bool.false_eq_true,Bool.true_eq_false,reduceIte,↓M2,M2,Mb,reduceIte]);(repeat' (first | (with_reducible exact G2 rfl) | (with_reducible exact Zo (Stp.bel (by (repeat (first | exact Stp.refl (by (first | assumption | exact Stp.sat (by assumption) | exact Hst.sat (by assumption))) | assumption | refine Stp.trans ?_ (by first | assumption | exact Hst.stp (by assumption)))))) rfl) | (with_reducible intro _) | (simp only[↓M2,M2,Mb,reduceIte]) | (with_reducible show Q2 _ _ _ _ _;first | refine X7 aS aL aR ?_ | refine Y2 aS aL aR ?_ | refine ld aS aL aR ?_) | (with_reducible show indexAddr _ _ _ _ _ _;refine Y1 aL au ?_) | (with_reducible show X2 _ _ _ _ _ _ _ _;refine Q8 aL ?_) | (with_reducible show F2 _ _ _ _ _ _;refine Z9 aR ?_) | (with_reducible show pick _ _ _ _ _ _;refine L8 ?_) | (apply Wh;intro hh;(try simp only[hh,reduceIte,↓M2,M2,Mb,reduceIte]))));done)))
   refine Jo (φ:=fun v _=>Value.agg [lv',I room,cv'].toArray=v) rfl (Rep.one hr5) (fun v w h=>h) ?_ hm68.1
   intros
   rename_i hm9
   (repeat (rename_i hx;subst hx))
   rename_i w9 hb9
   exact Vp (G:=fun b=>cr=cs→b=true) (fun h=>absurd (hsame h) hfe) N h8 hD8' hne8 hB6 hb9.kp hb9.hst.sat hm9 rfl hr8 hh
  subst hfe
  by_cases e1:f=0
  ·subst e1
   simp only[reduceIte]
   have hz0:decide True=true:=decide_true _
   (repeat (apply J3;(· intros;(have hzz:=VarB.hs (by assumption));(repeat (rename_i hx;subst hx));(try simp only[hz0,decide_true,Bool.not_true,Bool.not_false,Bool.false_eq_true,Bool.true_eq_false,reduceIte,↓M2,M2,Mb,reduceIte]);(repeat' (first | (with_reducible exact G2 rfl) | (with_reducible exact Zo (Stp.bel (by (repeat (first | exact Stp.refl (by (first | assumption | exact Stp.sat (by assumption) | exact Hst.sat (by assumption))) | assumption | refine Stp.trans ?_ (by first | assumption | exact Hst.stp (by assumption)))))) rfl) | (with_reducible intro _) | (simp only[↓M2,M2,Mb,reduceIte]) | (with_reducible show Q2 _ _ _ _ _;first | refine X7 aS aL aR ?_ | refine Y2 aS aL aR ?_ | refine ld aS aL aR ?_) | (with_reducible show indexAddr _ _ _ _ _ _;refine Y1 aL au ?_) | (with_reducible show X2 _ _ _ _ _ _ _ _;refine Q8 aL ?_) | (with_reducible show F2 _ _ _ _ _ _;refine Z9 aR ?_) | (with_reducible show pick _ _ _ _ _ _;refine L8 ?_) | (apply Wh;intro hh;(try simp only[hh,reduceIte,↓M2,M2,Mb,reduceIte]))));done)))
   refine Jo (φ:=fun v _=>Value.agg [lv',I room,cv'].toArray=v) rfl (Rep.one hr5) (fun v w h=>h) ?_ hm68.1
   intros
   rename_i hm9
   (repeat (rename_i hx;subst hx))
   rename_i w9 hb9
   exact Vp (G:=fun b=>cr=cs→b=true) (fun h=>by rw[h];exact decide_eq_true rfl) N h8 hD8' hne8 hB6 hb9.kp hb9.hst.sat hm9 rfl hr8 hh
  ·simp only[if_neg e1]
   have hz0:decide (f=0)=false:=decide_eq_false e1
   (repeat (apply J3;(· intros;(have hzz:=VarB.hs (by assumption));(repeat (rename_i hx;subst hx));(try simp only[hz0,decide_true,Bool.not_true,Bool.not_false,Bool.false_eq_true,Bool.true_eq_false,reduceIte,↓M2,M2,Mb,reduceIte]);(repeat' (first | (with_reducible exact G2 rfl) | (with_reducible exact Zo (Stp.bel (by (repeat (first | exact Stp.refl (by (first | assumption | exact Stp.sat (by assumption) | exact Hst.sat (by assumption))) | assumption | refine Stp.trans ?_ (by first | assumption | exact Hst.stp (by assumption)))))) rfl) | (with_reducible intro _) | (simp only[↓M2,M2,Mb,reduceIte]) | (with_reducible show Q2 _ _ _ _ _;first | refine X7 aS aL aR ?_ | refine Y2 aS aL aR ?_ | refine ld aS aL aR ?_) | (with_reducible show indexAddr _ _ _ _ _ _;refine Y1 aL au ?_) | (with_reducible show X2 _ _ _ _ _ _ _ _;refine Q8 aL ?_) | (with_reducible show F2 _ _ _ _ _ _;refine Z9 aR ?_) | (with_reducible show pick _ _ _ _ _ _;refine L8 ?_) | (apply Wh;intro hh;(try simp only[hh,reduceIte,↓M2,M2,Mb,reduceIte]))));done)))
   refine Jo (φ:=fun v _=>Value.agg [lv',I room,cv'].toArray=v) rfl (Rep.one hr5) (fun v w h=>h) ?_ hm68.1
   intros
   rename_i hm9
   (repeat (rename_i hx;subst hx))
   rename_i w9 hb9
   exact Vp (G:=fun b=>cr=cs→b=true) (fun _=>rfl) N h8 hD8' hne8 hB6 hb9.kp hb9.hst.sat hm9 rfl hr8 hh
 rw[decide_eq_false e0]
 refine Z6 ?_
 refine I2 ?_
 by_cases e1k:x.kind=1
 ·rw[decide_eq_true e1k]
  have ea:B5 W3 (Q5 l) room cs x=(Zx (Q5 l) room cs x.s x.n).1:=by unfold B5;rw[if_neg e0,if_pos e1k]
  have er:B5 W3 (Q5 l) room cr x=(Zx (Q5 l) room cr x.s x.n).1:=by unfold B5;rw[if_neg e0,if_pos e1k]
  rw[ea,er] at hh
  refine J6 ?_
  refine Y2 hk3.sat hq43 rfl ?_
  refine V7 ?_
  refine ld (i:=1) hk3.sat hq53 rfl ?_
  refine V7 ?_
  refine ld (i:=2) hk3.sat hq53 rfl ?_
  refine X1R hk3.sat hr3 b2 goodr.left h1 fun ds' w4 σ4 hk4 hr4=>?_
  refine J0 (vs:=[_,_]) rfl ?_
  refine J0 (vs:=[_,_]) rfl ?_
  have hS4:=hS3.trans hk4
  refine N1 hk4.sat fun b8 w5 σ5 hb8 hk5 hm8=>?_
  have hS5:=hS4.trans hk5
  have hB8:=N2 hb8 hS4
  have hr5:=L3 hr4 ⟨hk5.le⟩
  obtain ⟨lv',cv',hde,_,_⟩:=E3.out hr4
  subst hde
  refine Ob (ds:=[lv',I room,cv']) hm8 rfl rfl (by rw[List.all_toArray];exact List.all_eq_true.2 (Rep.one hr5)) fun w6 u6 hm86=>?_
  obtain ⟨σ7,hS7,hq8,l57,o7⟩:=Q3G (x:=(Q5 l,room,(Zx (Q5 l) room cr x.s x.n).1)) hS5 hB8 hm8 u6 hm86
  have l37:SLe σ3 σ7:=(SLe.more ⟨hk4.le⟩ ⟨hk5.le⟩).more l57
  have hb68:b6≠b8:=by have:=(hm6.up hk4).lt;omega
  have hm66:=((hm6.up hk4).up hk5).upd u6 hb68
  have hm67:Y3 σ7 w6 b6 _:=⟨(o7 b6 hb68).trans hm66.1,hm66.2⟩
  have hq57:=hq53.lift l37
  have hq47:=hq43.lift l37
  refine V7 ?_
  refine ld (i:=1) hS7.sat hq57 rfl ?_
  refine V7 ?_
  refine ld (i:=2) hS7.sat hq57 rfl ?_
  refine Q7r hS7.sat (Nat.le_trans hB hS7.bel.size) (h.up hS7) (ht.lift ⟨hS7.le⟩) b2 good.left h1 fun w8 σ8 D8 N8 h8 hD8=>?_
  refine J0 (vs:=[_,_]) rfl ?_
  refine J0 (vs:=[_,_]) rfl ?_
  have N:=(Nxt.of_stp (D:=D) hS7).chain N8 fun k _ e=>e
  have hm68:=hm67.nx N8 fun e=>by have:=hDl _ e;omega
  have hne8: ¬D8 b6:=fun e=>by
   have:=hm67.lt
   rcases hD8 _ e with e | e
   ·have:=hDl _ e;omega
   ·omega
  have hD8': ∀j,D8 j→D j∨w.heap.size≤j:=fun j hj=>(hD8 j hj).imp id fun e=>Nat.le_trans hS7.bel.size e
  have hq48:=hq47.lift N8.le
  have hq88:=hq8.lift N8.le
  have hc8:Sl 2 H4 σ8 cv cr:=hc.lift N.le
  have hr8:=L3 hr5 (l57.more N8.le)
  have hsame:cr=cs→(Zx (Q5 l) room cr x.s x.n).2=(Zx (Q5 l) room cs x.s x.n).2:=fun h=>by rw[h]
  generalize (Zx (Q5 l) room cs x.s x.n).2=e at*
  generalize (Zx (Q5 l) room cr x.s x.n).2=f at*
  refine Q6s (w0:=Bl w8) (σ0:=fun _=>none) (n:=3) [lv',I room,cv'] (Xb N8.sat) (Nat.zero_le _) hm68 rfl rfl ?_
  unfold atM
  by_cases hfe:f=e
  case neg=>
   have hz0:decide (f=e)=false:=decide_eq_false hfe
   (repeat (apply J3;(· intros;(have hzz:=VarB.hs (by assumption));(repeat (rename_i hx;subst hx));(try simp only[hz0,decide_true,Bool.not_true,Bool.not_false,Bool.false_eq_true,Bool.true_eq_false,reduceIte,↓M2,M2,Mb,reduceIte]);(repeat' (first | (with_reducible exact G2 rfl) | (with_reducible exact Zo (Stp.bel (by (repeat (first | exact Stp.refl (by (first | assumption | exact Stp.sat (by assumption) | exact Hst.sat (by assumption))) | assumption | refine Stp.trans ?_ (by first | assumption | exact Hst.stp (by assumption)))))) rfl) | (with_reducible intro _) | (simp only[↓M2,M2,Mb,reduceIte]) | (with_reducible show Q2 _ _ _ _ _;first | refine X7 aS aL aR ?_ | refine Y2 aS aL aR ?_ | refine ld aS aL aR ?_) | (with_reducible show indexAddr _ _ _ _ _ _;refine Y1 aL au ?_) | (with_reducible show X2 _ _ _ _ _ _ _ _;refine Q8 aL ?_) | (with_reducible show F2 _ _ _ _ _ _;refine Z9 aR ?_) | (with_reducible show pick _ _ _ _ _ _;refine L8 ?_) | (apply Wh;intro hh;(try simp only[hh,reduceIte,↓M2,M2,Mb,reduceIte]))));done)))
   refine Jo (φ:=fun v _=>Value.agg [lv',I room,cv'].toArray=v) rfl (Rep.one hr5) (fun v w h=>h) ?_ hm68.1
   intros
   rename_i hm9
   (repeat (rename_i hx;subst hx))
   rename_i w9 hb9
   exact Vp (G:=fun b=>cr=cs→b=true) (fun h=>absurd (hsame h) hfe) N h8 hD8' hne8 hB6 hb9.kp hb9.hst.sat hm9 rfl hr8 hh
  subst hfe
  by_cases e1:f=0
  ·subst e1
   simp only[reduceIte]
   have hz0:decide True=true:=decide_true _
   (repeat (apply J3;(· intros;(have hzz:=VarB.hs (by assumption));(repeat (rename_i hx;subst hx));(try simp only[hz0,decide_true,Bool.not_true,Bool.not_false,Bool.false_eq_true,Bool.true_eq_false,reduceIte,↓M2,M2,Mb,reduceIte]);(repeat' (first | (with_reducible exact G2 rfl) | (with_reducible exact Zo (Stp.bel (by (repeat (first | exact Stp.refl (by (first | assumption | exact Stp.sat (by assumption) | exact Hst.sat (by assumption))) | assumption | refine Stp.trans ?_ (by first | assumption | exact Hst.stp (by assumption)))))) rfl) | (with_reducible intro _) | (simp only[↓M2,M2,Mb,reduceIte]) | (with_reducible show Q2 _ _ _ _ _;first | refine X7 aS aL aR ?_ | refine Y2 aS aL aR ?_ | refine ld aS aL aR ?_) | (with_reducible show indexAddr _ _ _ _ _ _;refine Y1 aL au ?_) | (with_reducible show X2 _ _ _ _ _ _ _ _;refine Q8 aL ?_) | (with_reducible show F2 _ _ _ _ _ _;refine Z9 aR ?_) | (with_reducible show pick _ _ _ _ _ _;refine L8 ?_) | (apply Wh;intro hh;(try simp only[hh,reduceIte,↓M2,M2,Mb,reduceIte]))));done)))
   refine Jo (φ:=fun v _=>Value.agg [lv',I room,cv'].toArray=v) rfl (Rep.one hr5) (fun v w h=>h) ?_ hm68.1
   intros
   rename_i hm9
   (repeat (rename_i hx;subst hx))
   rename_i w9 hb9
   exact Vp (G:=fun b=>cr=cs→b=true) (fun h=>by rw[h];exact decide_eq_true rfl) N h8 hD8' hne8 hB6 hb9.kp hb9.hst.sat hm9 rfl hr8 hh
  ·simp only[if_neg e1]
   have hz0:decide (f=0)=false:=decide_eq_false e1
   (repeat (apply J3;(· intros;(have hzz:=VarB.hs (by assumption));(repeat (rename_i hx;subst hx));(try simp only[hz0,decide_true,Bool.not_true,Bool.not_false,Bool.false_eq_true,Bool.true_eq_false,reduceIte,↓M2,M2,Mb,reduceIte]);(repeat' (first | (with_reducible exact G2 rfl) | (with_reducible exact Zo (Stp.bel (by (repeat (first | exact Stp.refl (by (first | assumption | exact Stp.sat (by assumption) | exact Hst.sat (by assumption))) | assumption | refine Stp.trans ?_ (by first | assumption | exact Hst.stp (by assumption)))))) rfl) | (with_reducible intro _) | (simp only[↓M2,M2,Mb,reduceIte]) | (with_reducible show Q2 _ _ _ _ _;first | refine X7 aS aL aR ?_ | refine Y2 aS aL aR ?_ | refine ld aS aL aR ?_) | (with_reducible show indexAddr _ _ _ _ _ _;refine Y1 aL au ?_) | (with_reducible show X2 _ _ _ _ _ _ _ _;refine Q8 aL ?_) | (with_reducible show F2 _ _ _ _ _ _;refine Z9 aR ?_) | (with_reducible show pick _ _ _ _ _ _;refine L8 ?_) | (apply Wh;intro hh;(try simp only[hh,reduceIte,↓M2,M2,Mb,reduceIte]))));done)))
   refine Jo (φ:=fun v _=>Value.agg [lv',I room,cv'].toArray=v) rfl (Rep.one hr5) (fun v w h=>h) ?_ hm68.1
   intros
   rename_i hm9
   (repeat (rename_i hx;subst hx))
   rename_i w9 hb9
   exact Vp (G:=fun b=>cr=cs→b=true) (fun _=>rfl) N h8 hD8' hne8 hB6 hb9.kp hb9.hst.sat hm9 rfl hr8 hh
 rw[decide_eq_false e1k]
 refine Z6 ?_
 refine I2 ?_
 have hv43:Z4 σ3 (q5.add 4) [I x.v.sort,I x.v.n,S x.v.s,I x.v.ref]:=hq53.tail (xs:=[_,_,_,_])
 have hvr:N0 σ x.v [I x.v.sort,I x.v.n,S x.v.s,I x.v.ref]:=⟨rfl,hv⟩
 by_cases e2k:x.kind=2
 ·rw[decide_eq_true e2k]
  have ea:B5 W3 (Q5 l) room cs x=(L7 W3 (Q5 l) cs x.ref x.n x.v).1:=by unfold B5;rw[if_neg e0,if_neg e1k,if_pos e2k]
  have er:B5 W3 (Q5 l) room cr x=(L7 W3 (Q5 l) cr x.ref x.n x.v).1:=by unfold B5;rw[if_neg e0,if_neg e1k,if_pos e2k]
  rw[ea,er] at hh
  have good':=(GoodH.set good x.ref x.n x.v).cells
  refine J6 ?_
  refine Y2 hk3.sat hq43 rfl ?_
  refine V7 ?_
  refine ld (i:=3) hk3.sat hq53 rfl ?_
  refine V7 ?_
  refine ld (i:=2) hk3.sat hq53 rfl ?_
  refine V7 ?_
  refine Y2 hk3.sat hv43 rfl ?_
  refine X3T hk3.sat hr3 wf ok hlen goodr.cells htr ⟨rfl,hv⟩ fun ds' w4 σ4 hk4 hr4=>?_
  refine J0 (vs:=[_,_]) rfl ?_
  refine J0 (vs:=[_,_]) rfl ?_
  have hS4:=hS3.trans hk4
  refine N1 hk4.sat fun b8 w5 σ5 hb8 hk5 hm8=>?_
  have hS5:=hS4.trans hk5
  have hB8:=N2 hb8 hS4
  have hr5:=L3 hr4 ⟨hk5.le⟩
  obtain ⟨lv',cv',hde,_,_⟩:=E3.out hr4
  subst hde
  refine Ob (ds:=[lv',I room,cv']) hm8 rfl rfl (by rw[List.all_toArray];exact List.all_eq_true.2 (Rep.one hr5)) fun w6 u6 hm86=>?_
  obtain ⟨σ7,hS7,hq8,l57,o7⟩:=Q3G (x:=(Q5 l,room,(L7 W3 (Q5 l) cr x.ref x.n x.v).1)) hS5 hB8 hm8 u6 hm86
  have l37:SLe σ3 σ7:=(SLe.more ⟨hk4.le⟩ ⟨hk5.le⟩).more l57
  have hb68:b6≠b8:=by have:=(hm6.up hk4).lt;omega
  have hm66:=((hm6.up hk4).up hk5).upd u6 hb68
  have hm67:Y3 σ7 w6 b6 _:=⟨(o7 b6 hb68).trans hm66.1,hm66.2⟩
  have hq57:=hq53.lift l37
  have hv47:=hv43.lift l37
  have hr7:=L3 hr5 l57
  have hbD: ¬D b6:=fun e=>by have:=hDl _ e;omega
  refine X2V (w0:=Bl w6) (σ0:=fun _=>none) (n:=3) (L7 W3 (Q5 l) cs x.ref x.n x.v).1 [lv',I room,cv'] (Xb hS7.sat) (Nat.zero_le _) (Nat.zero_le _) hbD hm67 rfl rfl (h.up hS7) ?_
  (repeat (apply J3;(· intros;(have hzz:=SetB.hs (by assumption));(repeat (rename_i hx;subst hx));(repeat' (first | (with_reducible exact Q5Z rfl) | (with_reducible exact X28 (Stp.bel (by (repeat (first | exact Stp.refl (by (first | assumption | exact Stp.sat (by assumption) | exact Hst.sat (by assumption))) | assumption | refine Stp.trans ?_ (by first | assumption | exact Hst.stp (by assumption)))))) rfl) | (with_reducible intro _) | (simp only[↓M2,M2,Mb,reduceIte]) | (with_reducible show Q2 _ _ _ _ _;first | refine X7 aS aL aR ?_ | refine Y2 aS aL aR ?_ | refine ld aS aL aR ?_) | (with_reducible show indexAddr _ _ _ _ _ _;refine Y1 aL au ?_) | (with_reducible show X2 _ _ _ _ _ _ _ _;refine Q8 aL ?_) | (with_reducible show F2 _ _ _ _ _ _;refine Z9 aR ?_) | (with_reducible show pick _ _ _ _ _ _;refine L8 ?_)));done)))
  refine X22 (hg.lift ⟨hS7.le⟩) (ht.lift ⟨hS7.le⟩) ok good.cells good' ⟨rfl,hv⟩ hbD hm67.1 (fun _ _ h=>h) (fun _ _ h=>h) (fun _ _ h=>h) ?_
  refine J3 (V:= .bool (decide ((L7 W3 (Q5 l) cs x.ref x.n x.v).2=(L7 W3 (Q5 l) cr x.ref x.n x.v).2))) (fun t w hb ht=>?_) ?_
  ·obtain ⟨rfl,_,_⟩:=ht
   refine I2 ?_
   exact Q5Z rfl
  refine X0s (φ:=fun v _=>Value.agg [lv',I room,cv'].toArray=v) rfl (Rep.one hr5) (fun v w h=>h) ?_ hm67.1 hbD
  intros
  rename_i hm9
  (repeat (rename_i hx;subst hx))
  rename_i hset
  (repeat (rename_i hx;subst hx))
  rename_i w9 hb9
  obtain ⟨_,hs9,h9⟩:=hset
  refine V1 hm9 rfl ?_
  have Nb:Nxt (fun j=>j=b6∨D j) w6 σ7 w9 σ7:=⟨hb9.kp,SLe.refl _,fun _ _=>rfl,hs9⟩
  exact hh _ _ w9 σ7 D (fun h=>by rw[h];exact decide_eq_true rfl) ((Nxt.of_stp (D:=D) hS7).chain Nb fun j hj e=>e.elim (fun e=>by omega) id) h9 (fun j hj=> .inl hj) hr7
 rw[decide_eq_false e2k]
 refine Z6 ?_
 refine I2 ?_
 by_cases e3k:x.kind=3
 ·rw[decide_eq_true e3k]
  have ea:B5 W3 (Q5 l) room cs x=cs:=by unfold B5;rw[if_neg e0,if_neg e1k,if_neg e2k,if_neg (by omega)]
  have er:B5 W3 (Q5 l) room cr x=cr:=by unfold B5;rw[if_neg e0,if_neg e1k,if_neg e2k,if_neg (by omega)]
  rw[ea,er] at hh
  refine J6 ?_
  refine Y2 hk3.sat hq43 rfl ?_
  refine V7 ?_
  refine ld (i:=3) hk3.sat hq53 rfl ?_
  refine V7 ?_
  refine ld (i:=2) hk3.sat hq53 rfl ?_
  refine X3G hk3.sat hr3 fun w4 σ4 hk4=>?_
  refine J0 (vs:=[_,_]) rfl ?_
  refine J0 (vs:=[_,_]) rfl ?_
  refine Y7 (sz:=4) hk4.sat aR aR Ev fun q8 w5 σ5 hk5 hq8=>?_
  have hk35:=hk4.trans hk5
  have hS5:=hS3.trans hk35
  have h5:=h.up hS5
  have hq55:=hq53.lift ⟨hk35.le⟩
  refine V7 ?_
  refine ld (i:=3) hk35.sat hq55 rfl ?_
  refine V7 ?_
  refine ld (i:=2) hk35.sat hq55 rfl ?_
  obtain ⟨σf,sf,lef,hsl,of⟩:=h5.freeze hk35.sat
  refine X04 sf hsl fun w6 σ6 hk6=>?_
  refine J0 (vs:=[_,_]) rfl ?_
  refine J0 (vs:=[_,_]) rfl ?_
  refine Y7 (sz:=4) hk6.sat aR aR Ev fun q9 w7 σ7 hk7 hq9=>?_
  have hk57:=hk6.trans hk7
  have hS57:=hk57.weak lef.le
  have hS7:=hS5.trans hS57
  have l57:SLe σ5 σ7:=lef.more ⟨hk57.le⟩
  have hbD: ¬D b6:=fun e=>by have:=hDl _ e;omega
  have hm65:=hm6.up hk35
  have hm6f:Y3 σf w5 b6 _:=⟨(of b6 hbD).trans hm65.1,hm65.2⟩
  have hm67:=hm6f.up hk57
  have hq47:=(hq43.lift ⟨hk35.le⟩).lift l57
  have hq87:=hq8.lift l57
  refine Q6s (w0:=Bl w7) (σ0:=fun _=>none) (n:=3) [lv,I room,cv] (Xb hk57.sat) (Nat.zero_le _) hm67 rfl rfl ?_
  have n5:σ5 b6=none:=hm65.1
  have hq97:=hq9
  by_cases hge:Ng cr x.ref x.n=Ng cs x.ref x.n
  ·have hz0:decide True=true:=decide_true _
   (repeat (apply J3;(· intros;(have hzz:=VarB.hs (by assumption));(repeat (rename_i hx;subst hx));(try simp only[hz0,decide_true,Bool.not_true,Bool.not_false,Bool.false_eq_true,Bool.true_eq_false,reduceIte,↓M2,M2,Mb,reduceIte]);(repeat' (first | (with_reducible exact G2 rfl) | (with_reducible exact Zo (Stp.bel (by (repeat (first | exact Stp.refl (by (first | assumption | exact Stp.sat (by assumption) | exact Hst.sat (by assumption))) | assumption | refine Stp.trans ?_ (by first | assumption | exact Hst.stp (by assumption)))))) rfl) | (with_reducible intro _) | (simp only[↓M2,M2,Mb,reduceIte]) | (with_reducible show Q2 _ _ _ _ _;first | refine X7 aS aL aR ?_ | refine Y2 aS aL aR ?_ | refine ld aS aL aR ?_) | (with_reducible show indexAddr _ _ _ _ _ _;refine Y1 aL au ?_) | (with_reducible show X2 _ _ _ _ _ _ _ _;refine Q8 aL ?_) | (with_reducible show F2 _ _ _ _ _ _;refine Z9 aR ?_) | (with_reducible show pick _ _ _ _ _ _;refine L8 ?_) | (apply Wh;intro hh;(try simp only[hh,reduceIte,↓M2,M2,Mb,reduceIte]))));done)))
   refine J3 (V:= .bool true) (by
    intros
    (repeat (rename_i hx;subst hx))
    refine Ds ?_
    exact G2 (by rw[hge,decide_eq_true rfl])) ?_
   (repeat (apply J3;(· intros;(have hzz:=VarB.hs (by assumption));(repeat (rename_i hx;subst hx));(try simp only[hz0,decide_true,Bool.not_true,Bool.not_false,Bool.false_eq_true,Bool.true_eq_false,reduceIte,↓M2,M2,Mb,reduceIte]);(repeat' (first | (with_reducible exact G2 rfl) | (with_reducible exact Zo (Stp.bel (by (repeat (first | exact Stp.refl (by (first | assumption | exact Stp.sat (by assumption) | exact Hst.sat (by assumption))) | assumption | refine Stp.trans ?_ (by first | assumption | exact Hst.stp (by assumption)))))) rfl) | (with_reducible intro _) | (simp only[↓M2,M2,Mb,reduceIte]) | (with_reducible show Q2 _ _ _ _ _;first | refine X7 aS aL aR ?_ | refine Y2 aS aL aR ?_ | refine ld aS aL aR ?_) | (with_reducible show indexAddr _ _ _ _ _ _;refine Y1 aL au ?_) | (with_reducible show X2 _ _ _ _ _ _ _ _;refine Q8 aL ?_) | (with_reducible show F2 _ _ _ _ _ _;refine Z9 aR ?_) | (with_reducible show pick _ _ _ _ _ _;refine L8 ?_) | (apply Wh;intro hh;(try simp only[hh,reduceIte,↓M2,M2,Mb,reduceIte]))));done)))
   refine Jo (φ:=fun v _=>Value.agg [lv,I room,cv].toArray=v) rfl (Rep.one hr3) (fun v w h=>h) ?_ hm67.1
   intros
   rename_i hm9
   (repeat (rename_i hx;subst hx))
   rename_i w9 hb9
   exact Vp (G:=fun b=>cr=cs→b=true) (fun h=>by rw[h];exact decide_eq_true rfl) (Nxt.of_stp (D:=D) hS7) (h5.up hS57) (fun j hj=> .inl hj) hbD hB6 hb9.kp (fun k o e=>hb9.hst.sat k o (l57.le k o e)) ⟨n5,hm9.2⟩ rfl (L3 hr0 ⟨hS7.le⟩) hh
  ·have hz0:decide True=true:=decide_true _
   (repeat (apply J3;(· intros;(have hzz:=VarB.hs (by assumption));(repeat (rename_i hx;subst hx));(try simp only[hz0,decide_true,Bool.not_true,Bool.not_false,Bool.false_eq_true,Bool.true_eq_false,reduceIte,↓M2,M2,Mb,reduceIte]);(repeat' (first | (with_reducible exact G2 rfl) | (with_reducible exact Zo (Stp.bel (by (repeat (first | exact Stp.refl (by (first | assumption | exact Stp.sat (by assumption) | exact Hst.sat (by assumption))) | assumption | refine Stp.trans ?_ (by first | assumption | exact Hst.stp (by assumption)))))) rfl) | (with_reducible intro _) | (simp only[↓M2,M2,Mb,reduceIte]) | (with_reducible show Q2 _ _ _ _ _;first | refine X7 aS aL aR ?_ | refine Y2 aS aL aR ?_ | refine ld aS aL aR ?_) | (with_reducible show indexAddr _ _ _ _ _ _;refine Y1 aL au ?_) | (with_reducible show X2 _ _ _ _ _ _ _ _;refine Q8 aL ?_) | (with_reducible show F2 _ _ _ _ _ _;refine Z9 aR ?_) | (with_reducible show pick _ _ _ _ _ _;refine L8 ?_) | (apply Wh;intro hh;(try simp only[hh,reduceIte,↓M2,M2,Mb,reduceIte]))));done)))
   refine J3 (V:= .bool false) (by
    intros
    (repeat (rename_i hx;subst hx))
    refine Ds ?_
    exact G2 (by rw[decide_eq_false hge])) ?_
   (repeat (apply J3;(· intros;(have hzz:=VarB.hs (by assumption));(repeat (rename_i hx;subst hx));(try simp only[hz0,decide_true,Bool.not_true,Bool.not_false,Bool.false_eq_true,Bool.true_eq_false,reduceIte,↓M2,M2,Mb,reduceIte]);(repeat' (first | (with_reducible exact G2 rfl) | (with_reducible exact Zo (Stp.bel (by (repeat (first | exact Stp.refl (by (first | assumption | exact Stp.sat (by assumption) | exact Hst.sat (by assumption))) | assumption | refine Stp.trans ?_ (by first | assumption | exact Hst.stp (by assumption)))))) rfl) | (with_reducible intro _) | (simp only[↓M2,M2,Mb,reduceIte]) | (with_reducible show Q2 _ _ _ _ _;first | refine X7 aS aL aR ?_ | refine Y2 aS aL aR ?_ | refine ld aS aL aR ?_) | (with_reducible show indexAddr _ _ _ _ _ _;refine Y1 aL au ?_) | (with_reducible show X2 _ _ _ _ _ _ _ _;refine Q8 aL ?_) | (with_reducible show F2 _ _ _ _ _ _;refine Z9 aR ?_) | (with_reducible show pick _ _ _ _ _ _;refine L8 ?_) | (apply Wh;intro hh;(try simp only[hh,reduceIte,↓M2,M2,Mb,reduceIte]))));done)))
   refine Jo (φ:=fun v _=>Value.agg [lv,I room,cv].toArray=v) rfl (Rep.one hr3) (fun v w h=>h) ?_ hm67.1
   intros
   rename_i hm9
   (repeat (rename_i hx;subst hx))
   rename_i w9 hb9
   exact Vp (G:=fun b=>cr=cs→b=true) (fun h=>absurd (by rw[h]) hge) (Nxt.of_stp (D:=D) hS7) (h5.up hS57) (fun j hj=> .inl hj) hbD hB6 hb9.kp (fun k o e=>hb9.hst.sat k o (l57.le k o e)) ⟨n5,hm9.2⟩ rfl (L3 hr0 ⟨hS7.le⟩) hh
 rw[decide_eq_false e3k]
 refine Z6 ?_
 refine I2 ?_
 by_cases e4k:x.kind=4
 ·rw[decide_eq_true e4k]
  have ea:B5 W3 (Q5 l) room cs x=Kl cs x.ref:=by unfold B5;rw[if_neg e0,if_neg e1k,if_neg e2k,if_pos e4k]
  have er:B5 W3 (Q5 l) room cr x=Kl cr x.ref:=by unfold B5;rw[if_neg e0,if_neg e1k,if_neg e2k,if_pos e4k]
  rw[ea,er] at hh
  refine J6 ?_
  refine V7 ?_
  refine ld (i:=3) hk3.sat hq53 rfl ?_
  refine X3K hk3.sat h3 htk b4 fun w4 σ4 D4 N4 h4 hD4=>?_
  have hq54:=hq53.lift N4.le
  have hq44:=hq43.lift N4.le
  refine Y2 N4.sat hq44 rfl ?_
  refine V7 ?_
  refine ld (i:=3) N4.sat hq54 rfl ?_
  refine X3x N4.sat (L3 hr3 N4.le) htr b4 fun ds' w5 σ5 hk5 hr5=>?_
  have hbD: ¬D b6:=fun e=>by have:=hDl _ e;omega
  have hm65:=(hm6.nx N4 hbD).up hk5
  obtain ⟨lv',cv',hde,_,_⟩:=E3.out hr5
  subst hde
  refine Ob (ds:=[lv',I room,cv']) hm65 rfl rfl (by rw[List.all_toArray];exact List.all_eq_true.2 (Rep.one hr5)) fun w6 u6 hm66=>?_
  have N:=(Nxt.of_stp (D:=D) hS3).chain (N4.trans (Nxt.of_stp hk5)) fun j _ e=>e
  exact Vp (G:=fun b=>cr=cs→b=true) (fun _=>rfl) N (h4.up hk5) (fun j hj=> .inl (hD4 j hj)) (fun e=>hbD (hD4 _ e)) hB6 (Kpt.of_upd u6 rfl) (u6.stp (Xb hk5.sat) (Nat.zero_le _) hm65.1).sat hm66 rfl hr5 hh
 rw[decide_eq_false e4k]
 refine Z6 ?_
 have ea:B5 W3 (Q5 l) room cs x=cs:=by unfold B5;rw[if_neg e0,if_neg e1k,if_neg e2k,if_neg e4k]
 have er:B5 W3 (Q5 l) room cr x=cr:=by unfold B5;rw[if_neg e0,if_neg e1k,if_neg e2k,if_neg e4k]
 rw[ea,er] at hh
 refine Y2 hk3.sat hq43 rfl ?_
 refine Ob (ds:=[lv,I room,cv]) hm6 rfl rfl (by rw[List.all_toArray];exact List.all_eq_true.2 (Rep.one hr3)) fun w6 u6 hm66=>?_
 have hbD: ¬D b6:=fun e=>by have:=hDl _ e;omega
 exact Vp (G:=fun b=>cr=cs→b=true) (fun _=>rfl) (Nxt.of_stp (D:=D) hS3) h3 (fun j hj=> .inl hj) hbD hB6 (Kpt.of_upd u6 rfl) (u6.stp (Xb hk3.sat) (Nat.zero_le _) hm6.1).sat hm66 rfl hr3 hh)
end Go.Proofs.YtjdiakhipmggjaaGreatDoor

namespace Go.Emb
theorem X4l {w:World} {A:World→Prop} (h:A w.drew):sq w A:=by rw[X1q];exact h
end Go.Emb
namespace Go.Proofs.YtjdiakhipmggjaaGreatDoor
open Go.Emb Go.RowKit Go.Kd Go.Hm
variable {w w' w0 : World} {K : Value → World → Prop} {σ σ' σ0 : Q6} {room : Int} {cs cr : List Cel} {hp tv : Value} {b6 : Nat}
structure RunG (w0 : World) (σ0 : Q6) (w : World) (σ : Q6) (hp tv : Value) (b6 : Nat) (room : Int) (cs cr : List Cel) : Prop where
  stp : Stp w0 σ0 w σ
  ex : ∃ D ds, HeapIs w0.heap.size D σ w hp tv room cs ∧ ¬ D b6 ∧ Y3 σ w b6 ds ∧ E3 σ (Q5 B7, room, cr) ds
  bge : w0.heap.size ≤ b6
  tab : Tab σ tv (Q5 B7)
  ok : Ok (Q5 B7)
  good : GoodH W3 (Q5 B7) room cs
  goodr : GoodH W3 (Q5 B7) room cr
  rm : room ≤ 1048576
abbrev Run (w0:World) (σ0:Q6) (w:World) (σ:Q6) (hp tv:Value) (b6:Nat) (room:Int) (cs:List Cel):Prop:=RunG w0 σ0 w σ hp tv b6 room cs cs
theorem RunG.up (R:RunG w0 σ0 w σ hp tv b6 room cs cr) (k:Stp w σ w' σ'):RunG w0 σ0 w' σ' hp tv b6 room cs cr:=by
 obtain ⟨D,ds,a,d,b,c⟩:=R.ex
 exact ⟨R.stp.trans k,⟨D,ds,a.up k,d,b.up k,L3 c ⟨k.le⟩⟩,R.bge,R.tab.lift ⟨k.le⟩,R.ok,R.good,R.goodr,R.rm⟩
theorem RunG.below (R:RunG w0 σ0 w σ hp tv b6 room cs cr) (k:Below w.heap.size w w'):RunG w0 σ0 w' σ hp tv b6 room cs cr:=R.up (Stp.of_below R.stp.sat k)
theorem RunG.takes (R:RunG w0 σ0 w σ hp tv b6 room cs cr):Y9 cs≤1048576:=by
 have a:=R.good.left
 have b:=R.rm
 unfold V8 at a
 omega
theorem RunG.freeze (R:RunG w0 σ0 w σ hp tv b6 room cs cr): ∃a ds,X3 w a∧SLe σ a∧S6 a hp tv room cs∧Y3 a w b6 ds∧E3 a (Q5 B7,room,cr) ds∧Tab a tv (Q5 B7):=by
 obtain ⟨D,ds,e,h,d,g⟩:=R.ex
 obtain ⟨a,f,b,c,of⟩:=e.freeze R.stp.sat
 exact ⟨a,ds,f,b,c,⟨(of b6 h).trans d.1,d.2⟩,L3 g b,R.tab.lift b⟩
theorem RunG.act {x:ActH} {c0 ds:List Value} {D:Nat→Prop} (R:RunG w0 σ0 w σ hp tv b6 room cs cr) (p:Glb σ0) (f:HeapIs w0.heap.size D σ w hp tv room cs) (m: ¬D b6) (l:Y3 σ w b6 ds) (r:E3 σ (Q5 B7,room,cr) ds) (q:Hk σ x c0)
 (h: ∀a b w' σ' D',HeapIs w0.heap.size D' σ' w' hp tv room (B5 W3 (Q5 B7) room cs x)→ ¬D' b6→Y3 σ' w' b6 ds→E3 σ' (Q5 B7,room,B5 W3 (Q5 B7) room cr x) a→Stp w0 σ0 w' σ'→SLe σ σ'→(cr=cs→b=true)→K (.tuple #[.agg a.toArray, .bool b]) w'):Q1 P F.ak [hp, .agg ds.toArray, .agg c0.toArray] w K:=by
 refine X4m R.stp.sat (p.lift ⟨R.stp.le⟩) R.stp.bel.size f r R.tab Q1I R.ok (by decide) R.good R.goodr R.rm q (fun k g=>(f.mem g).1) fun a b n u t j d o i c=>?_
 have s:=l.lt
 exact h a b n u t o (fun e=>(i _ e).elim m fun e=>by omega) (l.nx d m) c (d.stp' R.stp fun k g=>(f.mem g).1) d.le j
theorem X32 {r:Int} (h:(Lit.int .u16 r).wf=true):0≤r:=by
 simp[Lit.wf,IntKind.min,IntKind.max,IntKind.signed,IntKind.bits] at h
 omega
theorem X2y {o:Operand} {r:Int} {A:Value→Value→Value→World→Prop} (R:X3 w σ) (H:Glb σ) (N:0≤r)
 (h: ∀a b b6 w' σ',Run w σ w' σ' (.pointer (some a)) (.pointer (some b)) b6 (r % 301) []→A (.pointer (some a)) (.pointer (some ⟨b6,0,none⟩)) (.bool false) w'):
 Q1 P F.aj [.int .u16 r] w fun n w=>ext P n 0 w fun m w=>ext P n 1 w fun q w=>W0 P T.a w fun L w=>Y0 P T.a L q w fun _u w=>Q1 P F.ai [] w fun B w=>J8 P .not B w fun f w=>Q0 f false w (fun w J=>J m w) fun y w=>Q0 f false w (Q3 P .eql T.a5 o (.const (.pointer none)) y (.pointer none)) fun t w=>pick P f (.bool true) t w fun v w=>A m L v w:=by
 have k:=Int.emod_nonneg r (show (301:Int)≠0 by decide)
 have V:=Int.emod_lt_of_pos r (show (0:Int)<301 by decide)
 refine Q7c R H N fun b a D ds w1 σ1 g C d U ok=>?_
 refine J0 (vs:=[_,_]) rfl ?_
 refine J0 (vs:=[_,_]) rfl ?_
 refine N1 g.sat fun W Y M j p i=>?_
 have s:=N2 j g
 refine Ob i rfl (by obtain ⟨lv,cv,rfl,_⟩:=E3.out d;rfl) (by rw[List.all_toArray];exact List.all_eq_true.2 (Rep.one d)) fun E O u=>?_
 have c:Stp w1 σ1 E M:=O.stp p j i.1
 have l:=g.trans c
 have Q:Run w σ E M (.pointer (some ⟨b,0,none⟩)) (.pointer (some a)) W (r % 301) []:=⟨l,⟨D,ds,C.up c,fun e=>by have:=(C.mem e).2.1;omega,u,L3 d ⟨c.le⟩⟩,s,U.lift ⟨c.le⟩,ok,GoodH.empty k,GoodH.empty k,by omega⟩
 refine Q7m c.sat (H.lift ⟨l.le⟩) fun X Z z=>?_
 simp only[Bool.not_true,↓M1,M1,Mb,reduceIte]
 refine Q9z ?_
 exact h _ _ _ _ _ (Q.up z)
theorem X42 {J:World→Prop} {i:Nat} {xs:List ActH} {v:Value} (X:Glb σ0) (W:Sl 8 Hk σ0 v xs) (u:i<xs.length) (R:Run w0 σ0 w σ hp tv b6 room cs)
 (h: ∀w' σ' f,Run w0 σ0 w' σ' hp tv b6 room f→f=cs∨f=B5 W3 (Q5 B7) room cs xs[i]→J w'):
 indexAddr P T.z v (I i) w fun t w=>Q2 P T.l t w fun s w=>Q1 P F.ag [s] w fun o w=>X1 o (sq w fun w=>indexAddr P T.z v (I i) w fun n w=>Q2 P T.a (.pointer (some ⟨b6,0,none⟩)) w fun B w=>Q2 P T.l n w fun r w=>Q1 P F.ak [hp,B,r] w fun l w=>ext P l 0 w fun m w=>ext P l 1 w fun ab w=>Y0 P T.a (.pointer (some ⟨b6,0,none⟩)) m w fun _u w=>J w) (J w):=by
 have c:=W.up R.stp
 obtain ⟨c0,N,C,O⟩:=c.el u
 refine Y1 c u ?_
 refine Y2 R.stp.sat N C ?_
 refine X1d R.stp.sat O fun w1 q=>?_
 have H:=R.below q
 refine Q7 (fun _=>?_) (fun _=>h _ _ _ H (.inl rfl))
 refine X4l ?_
 have a:=H.below (Below.refl _ _).drew
 obtain ⟨D,ds,U,Z,L,y⟩:=a.ex
 refine Y1 c u ?_
 refine Sz L (by obtain ⟨M,Q,rfl,_⟩:=E3.out y;rfl) ?_
 refine Y2 a.stp.sat N C ?_
 refine a.act X U Z L y O fun z bb w3 σ3 D3 V g d b j p _=>?_
 refine J0 (vs:=[_,_]) rfl ?_
 refine J0 (vs:=[_,_]) rfl ?_
 refine Ob d (by obtain ⟨M,Q,rfl,_⟩:=E3.out y;rfl) (by obtain ⟨M,Q,rfl,_⟩:=E3.out b;rfl) (by rw[List.all_toArray];exact List.all_eq_true.2 (Rep.one b)) fun w4 E A=>?_
 have G:=GoodH.act Q1I Q3J a.good xs[i]
 exact h _ _ _ ⟨E.stp j a.bge d.1,⟨D3,z,V.nx (Nxt.of_upd j.sat E d.1) fun k Y e=>g (e▸Y),g,A,b⟩,a.bge,a.tab.lift p,a.ok,G,G,a.rm⟩ (.inr rfl)
theorem X30 {o1 o2 U D X M:Operand} {s:Int} {E:World→Prop} {xs:List ActH} {v:Value} (O:Glb σ0) (C:Sl 8 Hk σ0 v xs) (R:Run w0 σ0 w σ hp tv b6 room cs)
 (h: ∀w' σ' c,Run w0 σ0 w' σ' hp tv b6 room c→E w'):
 lp (α:=Value) (.int .i64 0) w fun b x H w=>X2 P .len [T.z] T.d [false] [v] w fun y w=>Q3 P .lss T.d o1 o2 x y w fun a w=>Q0 a true w (fun w J=>J x w) fun B w=>Q0 a true w (Q3 P .lss T.d U D B (.int .i64 s)) fun u w=>pick P a u (.bool false) w fun o w=>X1 o (jn (α:=Unit) w (fun J w=>
  indexAddr P T.z v x w fun t w=>Q2 P T.l t w fun r w=>Q1 P F.ag [r] w fun n w=>X1 n (sq w fun w=>indexAddr P T.z v x w fun l w=>Q2 P T.a (.pointer (some ⟨b6,0,none⟩)) w fun A w=>Q2 P T.l l w fun q w=>Q1 P F.ak [hp,A,q] w fun f w=>ext P f 0 w fun k w=>ext P f 1 w fun Y w=>Y0 P T.a (.pointer (some ⟨b6,0,none⟩)) k w fun _u w=>J () w) (J () w))
  fun z H w=>Q3 P .add T.d X M x (.int .i64 1) w fun p w=>b p w) (E w):=by
 refine U2 xs.length (fun i w'=> ∃σ' c,Run w0 σ0 w' σ' hp tv b6 room c) ⟨σ,cs,R⟩ fun i w1 d hi N=>?_
 obtain ⟨σ1,Q,j⟩:=N
 have e:=C.up j.stp
 have m:=e.max
 refine Q8 e ?_
 refine Z1 ?_
 cases V:decide ((i:Int)<(xs.length:Nat)) with
 | false=>
  (try simp only[↓M1,M1,Mb,reduceIte])
  exact h _ _ _ j
 | true=>
  (try simp only[↓M1,M1,Mb,reduceIte])
  have g:i<xs.length:=by simpa using V
  refine Q7 (fun _=>?_) (fun _=>h _ _ _ j)
  refine U6 ?_
  refine X42 O C g j fun Z σ2 L W _=>fun d2=>?_
  (try simp only[↓M1,M1,Mb,reduceIte])
  exact Y5 m g ⟨_,_,W⟩
end Go.Proofs.YtjdiakhipmggjaaGreatDoor

namespace Go.Proofs.YtjdiakhipmggjaaGreatDoor
open Go.Emb Go.RowKit Go.Kd Go.Hm
variable {w w' w0 : World} {K : Value → World → Prop} {σ σ' σ0 : Q6} {room : Int} {cs : List Cel} {hp tv : Value} {b6 : Nat}
end Go.Proofs.YtjdiakhipmggjaaGreatDoor

namespace Go.Proofs.YtjdiakhipmggjaaGreatDoor
open Go.Emb Go.RowKit Go.Kd Go.Hm
variable {w w' w0 : World} {K : Value → World → Prop} {σ σ' σ0 : Q6} {room : Int} {cs : List Cel} {hp tv : Value} {b6 : Nat}
end Go.Proofs.YtjdiakhipmggjaaGreatDoor

namespace Go.Hm
open Go.Kd
variable {ok : X0 → Bool} {l : List Cla} {room : Int} {cs pre more : List Cel} {c : Cel} {k : X0} {n : Int}
end Go.Hm
namespace Go.Proofs.YtjdiakhipmggjaaGreatDoor
open Go.Emb Go.RowKit Go.Kd Go.Hm
variable {w w' w0 : World} {K : Value → World → Prop} {σ σ' σ0 : Q6} {room : Int} {cs : List Cel} {hp tv : Value} {b6 : Nat}
end Go.Proofs.YtjdiakhipmggjaaGreatDoor

namespace Go.Proofs.YtjdiakhipmggjaaGreatDoor
open Go.Emb Go.RowKit Go.Kd Go.Hm
variable {w w' w0 : World} {K : Value → World → Prop} {σ σ' σ0 σ1 : Q6} {room : Int} {cs cr : List Cel} {hp tv : Value} {b6 : Nat} {l : List Cla} {ds : List Value}
theorem X1M (R:RunG w0 σ0 w σ hp tv b6 room cs cr) (h: ∀v w' σ',Stp w σ w' σ'→Sl 2 H4 σ' v cs→K v w'):Q1 P F.ac [hp] w K:=by
 obtain ⟨s,ds,p,b,c,_⟩:=R.freeze
 refine Q7G p c R.takes fun v m u t a g=>?_
 have d:=a.weak b.le
 have f:=g.down (b.more ⟨a.le⟩)
 obtain ⟨r,j,i,q,n⟩:=f.freeze d.sat
 exact h v m r ⟨d.bel,j,i.le,fun k o=>n k fun e=>by have:=(f.mem e).1;omega⟩ q
end Go.Proofs.YtjdiakhipmggjaaGreatDoor

namespace Go.Hm
open Go.Kd
variable {ok : X0 → Bool} {l : List Cla} {cs : List Cel} {r i : Int} {v : Val}
theorem Q7t (h: ¬(L7 ok l cs r i v).2=0):(L7 ok l cs r i v).1=cs:=by
 unfold L7 at*
 split
 ·rfl
 rename_i a
 rw[if_neg a] at h
 split
 ·rename_i b;rw[if_pos b] at h;exact absurd rfl h
 ·rfl
theorem X2I {j m:Nat} (a:j<cs.length) (b:m<cs[j].vals.length):M4 cs j m=0∧Ng cs j m=cs[j].vals[m]:=by
 have hp:M4 cs j m=0:=by
  unfold M4;rw[if_pos (O9.2 ⟨_,rfl,a⟩),W4 a,if_pos ⟨by omega,by omega⟩]
 refine ⟨hp,?_⟩
 unfold Ng;rw[if_pos hp,W4 a,Int.toNat_natCast,List.getD_eq_getElem?_getD,List.getElem?_eq_getElem b];rfl
end Go.Hm
namespace Go.Proofs.YtjdiakhipmggjaaGreatDoor
open Go.Emb Go.RowKit Go.Kd Go.Hm
variable {w w' w0 : World} {K : Value → World → Prop} {σ σ' σ0 σ1 : Q6} {room : Int} {cs cr : List Cel} {hp tv : Value} {b6 : Nat} {l : List Cla} {ds : List Value} {ok : X0 → Bool} {r i : Int} {v : Val}
theorem Q9x (h:(L7 ok l cs r i v).2=0): ∃j m:Nat,r=j∧i=m∧ ∃(a:j<cs.length),m<cs[j].vals.length∧(L7 ok l cs r i v).1=cs.set j ⟨cs[j].kind,cs[j].vals.set m v⟩:=by
 have hp:M4 cs r i=0:=by
  cases Decidable.em (M4 cs r i=0) with
  | inl h=>exact h
  | inr b=>unfold L7 at h;rw[if_pos b] at h;exact absurd h b
 obtain ⟨j,m,rfl,rfl,a,c⟩:=Uj hp
 refine ⟨j,m,rfl,rfl,a,c,?_⟩
 unfold L7 at*
 rw[if_neg (fun h=>h hp)] at*
 split
 ·unfold B8;rw[W4 a,Int.toNat_natCast,Int.toNat_natCast]
 ·rename_i d;rw[if_neg d] at h;simp at h
theorem X0W {B:Nat} {D:Nat→Prop} (g:X3 w σ) (h:HeapIs B D σ w hp tv room cs) (e:Y9 cs≤1048576) (j: ∀v w' D',Stp w σ w' σ→RowsIs w.heap.size D' σ w' v cs→K v w'):Q1 P F.ac [hp] w K:=by
 obtain ⟨n,m,b,c,_⟩:=h.freeze g
 refine Q7G m c e fun v f o k a d=>?_
 exact j v f k (a.weak b.le) (d.down (b.more ⟨a.le⟩))
set_option maxHeartbeats 4000000 in
theorem Q8L {r:Int} {v:Value} {xs:List ActH} {x:ActH} {ds:List Value} (hs:X3 w σ) (hg:Glb σ) (hr:(Lit.int .u16 r).wf=true) (hv:Sl 8 Hk σ v xs) (hx:Hk σ x ds)
 (h: ∀w' σ',Stp w σ w' σ'→K (.bool true) w'):Q1 P F.cd [.int .u16 r,v, .agg ds.toArray] w K:=Cn (by
 have hr0:0≤r:=X32 hr
 have hx0:=hx
 obtain ⟨rfl,⟨b1,b2,b3,b4⟩,hvx⟩:=hx0
 unfold Vh
 refine Z0 hs fun q w0 σ0 hk0 hq=>?_
 have hg0:=hg.lift ⟨hk0.le⟩
 have hv0:=hv.up hk0
 refine X2y hk0.sat hg0 hr0 fun a b b6 w1 σ1 R1=>?_
 (repeat refine Hd.h ?_)
 refine Y2 R1.stp.sat (hq.up R1.stp) rfl ?_
 (repeat refine Hd.h ?_)
 refine X1d R1.stp.sat (σ:=σ1) (x:=x) hx fun w2 hb2=>?_
 have R1:=R1.below hb2
 (repeat refine Hd.h ?_)
 refine Q7 (fun hc=>?_) (fun hc=>?_)
 ·refine Q7m R1.stp.sat (hg0.lift ⟨R1.stp.le⟩) fun w2 σ2 hk2=>?_
  exact h _ _ (hk0.trans (R1.stp.trans hk2))
 refine X30 hg0 hv0 R1 fun w2 σ2 cs2 R2=>?_
 refine X1M R2 fun cv1 w3 σ3 hk3 hcv1=>?_
 have R3:=R2.up hk3
 obtain ⟨σf,dsf,sf,lef,hsl,_,_,htf⟩:=R3.freeze
 refine Q1N sf hsl R3.good.left R3.rm fun w4 hb4=>?_
 have R4:=R3.below hb4
 have hq4:=hq.up R4.stp
 have hw4:Z4 σ3 (q.add 4) [I x.v.sort,I x.v.n,S x.v.s,I x.v.ref]:=hq4.tail (xs:=[_,_,_,_])
 refine V7 ?_
 refine ld (i:=3) R4.stp.sat hq4 rfl ?_
 refine V7 ?_
 refine ld (i:=2) R4.stp.sat hq4 rfl ?_
 refine V7 ?_
 refine Y2 R4.stp.sat hw4 rfl ?_
 obtain ⟨D,ds,h1,h2,h3,h4⟩:=R4.ex
 have GS:=GoodH.set R4.good x.ref x.n x.v
 refine Q8H R4.stp.sat (hg0.lift ⟨R4.stp.le⟩) h1 R4.tab R4.ok R4.good.cells ⟨rfl,hvx⟩ fun w5 σ5 N5 h5=>?_
 have S5:=N5.stp' R4.stp fun k hk=>(h1.mem hk).1
 have ht5:Y9 (L7 W3 (Q5 B7) cs2 x.ref x.n x.v).1≤1048576:=by
  have h1:=GS.left
  have h2:=R4.rm
  unfold V8 at h1
  omega
 have e9:V8 (r % 301) (L7 W3 (Q5 B7) cs2 x.ref x.n x.v).1=V8 (r % 301) cs2:=by
  by_cases he:(L7 W3 (Q5 B7) cs2 x.ref x.n x.v).2=0
  ·obtain ⟨j,m,_,_,hj,hm,ec⟩:=Q9x he
   rw[ec];unfold V8;rw[Q4g hj (by simp)]
  ·rw[Q7t he]
 have hcv5:=hcv1.lift N5.le
 have hq5:=hq4.lift N5.le
 have hw5:=hw4.lift N5.le
 refine X0W S5.sat h5 ht5 fun cv2 w6 D2 hk6 hr6=>?_
 refine Jc (fun _ w'=>Stp w0 σ0 w' σ5∧RowsIs w5.heap.size D2 σ5 w' cv2 cs2∧HeapIs w0.heap.size D σ5 w' (.pointer (some a)) (.pointer (some b)) (r % 301) (L7 W3 (Q5 B7) cs2 x.ref x.n x.v).1) ?_ (fun _ d w7 hk7=>?_)
 ·refine I2 ?_
  refine Q7 (fun he=>?_) (fun he=>⟨S5.trans hk6,by rw[Q7t (by simpa using he)] at hr6;exact hr6,h5.up hk6⟩)
  have he:(L7 W3 (Q5 B7) cs2 x.ref x.n x.v).2=0:=by simpa using he
  obtain ⟨j,m,er,em,hj,hm,ec⟩:=Q9x he
  have hq6:=hq5
  rw[ec] at hr6 h5 ht5
  rw[ec]
  rw[er,em] at hq5
  clear ec he GS
  generalize hcs:cs2.set j ⟨cs2[j].kind,cs2[j].vals.set m x.v⟩=csN at*
  have hjN:j<csN.length:=by rw[←hcs];simpa using hj
  have heN:csN[j]=⟨cs2[j].kind,cs2[j].vals.set m x.v⟩:=by simp[←hcs]
  have hmN:m<csN[j].vals.length:=by rw[heN];simpa using hm
  obtain ⟨g1,g2⟩:=X2I hjN hmN
  have g3:csN[j].vals[m]=x.v:=by simp[heN]
  have h6:=h5.up hk6
  obtain ⟨σg,sg,leg,hslg,_⟩:=h6.freeze hk6.sat
  have hqg:=hq5.lift leg
  refine V7 ?_
  refine ld (i:=3) sg hqg rfl ?_
  refine V7 ?_
  refine ld (i:=2) sg hqg rfl ?_
  refine X04 sg hslg fun w7 σ7 hk7=>?_
  rw[g1,g2,g3]
  refine J0 (vs:=[_,_]) rfl ?_
  refine J0 (vs:=[_,_]) rfl ?_
  refine Y7 (sz:=4) hk7.sat aR aR Ev fun q14 w8 σ8 hk8 hq14=>?_
  refine Zb ?_
  simp only[decide_true,Bool.not_true]
  (repeat refine Hd.h ?_)
  have hk78:=hk7.trans hk8
  refine Y2 hk8.sat hq14 rfl ?_
  (repeat refine Hd.h ?_)
  refine Y2 hk8.sat (hw5.lift (leg.more ⟨hk78.le⟩)) rfl ?_
  (repeat refine Hd.h ?_)
  refine Q7e ?_
  simp only[decide_true,Bool.not_true]
  (repeat refine Hd.h ?_)
  refine Z6 ?_
  have k68:=hk78.weak leg.le
  have hr8:=hr6.up k68
  obtain ⟨σr,sr,lr,fr,_⟩:=hr8.freeze k68.sat
  have hqr:=hq5.lift lr
  have hcr:=hcv5.lift lr
  obtain ⟨vv,p1,p2,_⟩:=Sl.elO fr hjN
  obtain ⟨uu,u1,u2,_⟩:=Sl.elO hcr hj
  have hln:csN.length=cs2.length:=by rw[←hcs];simp
  have hlm:csN[j].vals.length=cs2[j].vals.length:=by rw[heN];simp
  have hz0:decide ((j:Int)<0)=false:=decide_eq_false (by omega)
  have hz1:decide (min (csN.length:Int) (cs2.length:Int)≤(j:Int))=false:=decide_eq_false (by omega)
  have hz2:decide ((m:Int)<0)=false:=decide_eq_false (by omega)
  refine J9 sr ?_
  (repeat (apply J3;(· intros;(repeat (rename_i hx;subst hx));(repeat' (first | (simp only[hz0,hz1,hz2]) | (with_reducible exact M5 rfl) | (with_reducible exact R8 (Stp.bel (by (repeat (first | exact Stp.refl (by (first | assumption | exact Stp.sat (by assumption) | exact Hst.sat (by assumption))) | assumption | refine Stp.trans ?_ (by first | assumption | exact Hst.stp (by assumption)))))) rfl) | (with_reducible intro _) | (simp only[↓M2,M2,Mb,reduceIte]) | (with_reducible refine X1s ?_) | (with_reducible show Q2 _ _ _ _ _;first | refine X7 aS aL aR ?_ | refine Y2 aS aL aR ?_ | refine ld aS aL aR ?_) | (with_reducible show indexAddr _ _ _ _ _ _;refine Y1 aL au ?_) | (with_reducible show X2 _ _ _ _ _ _ _ _;refine Q8 aL ?_) | (with_reducible show F2 _ _ _ _ _ _;refine Z9 aR ?_) | (with_reducible show pick _ _ _ _ _ _;refine L8 ?_) | (apply F4;intro hh;(try simp only[hh,reduceIte,↓M2,M2,Mb,reduceIte]))));done)))
  (intros;(repeat (rename_i hx;subst hx));(try simp only[↓M2,M2,Mb,reduceIte]))
  rename_i w9 hb9
  rw[show decide (min (csN[j].vals.length:Int) (cs2[j].vals.length:Int)≤(m:Int))=false from decide_eq_false (by omega)]
  refine Z6 ?_
  have k69:=k68.trans (hb9.stp.weak lr.le)
  have hr9:=hr6.up k69
  obtain ⟨vs,σt,hvl,st,lt,slt,hrow,ot,hset⟩:=hr9.rows k69.sat
  have hjv:j<vs.length:=by rw[hvl];exact hjN
  have hjo:j<(T7 vs csN).length:=by rw[Wq hvl];exact hjN
  obtain ⟨cc,c1,_,c3⟩:=slt.el hjo
  have eo:(T7 vs csN)[j]=(csN[j].kind,vs[j]):=by simp[T7]
  rw[eo] at c3
  obtain ⟨rfl,_⟩:=c3
  have hqt:=hq5.lift lt
  have hct:=hcv5.lift lt
  obtain ⟨vt,v1,v2,_⟩:=Sl.elO hct hj
  obtain ⟨y1,y2⟩:=Sl.elV v2 hm
  refine J9 st ?_
  (repeat refine J3 Qe ?_)
  (intros;(repeat (rename_i hx;subst hx));(try simp only[↓M2,M2,Mb,reduceIte]))
  rename_i w10 hb10
  have k10:=hb10.stp.weak lt.le
  obtain ⟨hrj,hrD⟩:=hrow j hjv hjN
  have hrj4:=hrj.up k10
  refine Q1n (w0:=Bl w10) (σ0:=fun _=>none) (x:=cs2[j].vals[m]) (Xb k10.sat) (hrj4.mono (Nat.zero_le _)) hmN rfl (show N0 σ5 _ _ from y2) (Rep.one y2) fun p u w11 hkp hb11 hq11=>?_
  have hkp11:Kpt (fun k=>vs[j].ownBlock=some k) w9 w11:=(Kpt.of_below k10.bel).trans hkp
  have hr11:=hset j hjv hjN _ w11 hkp11 (hq11.raise fun k hk=>(hrj.mem hk).1)
  have hback:csN.set j ⟨csN[j].kind,csN[j].vals.set m cs2[j].vals[m]⟩=cs2:=by
   have e1:(⟨csN[j].kind,csN[j].vals.set m cs2[j].vals[m]⟩:Cel)=cs2[j]:=by
    rw[heN,List.set_set,List.set_getElem_self]
   rw[e1,←hcs,List.set_set,List.set_getElem_self]
  rw[hback] at hr11
  have S11:Stp w0 σ0 w11 σ5:=(S5.trans (hk6.trans k69)).kp hkp11 fun k hk=>by
   obtain ⟨z1,_,z3⟩:=hr9.mem (hrD k hk)
   have:=S5.bel.size
   exact ⟨by omega,z3⟩
  exact ⟨S11,hr11,(h5.up (hk6.trans k69)).nx (F:=fun k=>vs[j].ownBlock=some k) ⟨hkp11,SLe.refl _,fun _ _=>rfl,S11.sat⟩ fun k hk e=>by
   have:=(h5.mem hk).2.1
   have:=(hr9.mem (hrD k e)).1
   omega⟩
 ·obtain ⟨S7,hr7,h7⟩:=hk7
  obtain ⟨σr,sr,lr,fr,_⟩:=hr7.freeze S7.sat
  refine X38 sr (hcv5.lift lr) fr fun w8 hb8=>?_
  (repeat refine Hd.h ?_)
  have k8:=(Stp.of_below sr hb8).weak lr.le
  obtain ⟨σh,sh,lh,hslh,_⟩:=(h7.up k8).freeze k8.sat
  refine Q1N sh hslh GS.left R4.rm fun w9 hb9=>?_
  (repeat refine Hd.h ?_)
  refine I2 ?_
  rw[e9,decide_eq_true rfl]
  (repeat refine Hd.h ?_)
  exact h _ _ (hk0.trans (S7.trans (k8.trans ((Stp.of_below sh hb9).weak lh.le)))))
end Go.Proofs.YtjdiakhipmggjaaGreatDoor

namespace Go.Proofs.YtjdiakhipmggjaaGreatDoor.heapSets
open Go.ChangeShapes Go.WideShapes Go.ChangeAt Go.RowKit
open Go.Emb
theorem own : ownKnob Tryz.prog.godebug = none := by kernel_rfl
theorem lay : laidOutB Tryz.prog = true := by kernel_rfl
set_option maxRecDepth 100000 in
theorem X2U (os : Os) (started : os.Started) (H : Type) (enc : TypeId × Value → H) :
    ReturnsInHanded {} Tryz.checked os 11 .any (fun w args => (Rows.heapSetsSpec.pre enc Tryz.prog Tryz.f11 [] false w args ∧ laidMetH Tryz.prog laidAll w) ∧ sizedMet enc Tryz.prog Tryz.f11 (OpenSpec.ofChange Rows.heapSetsSpec) false w args) (Rows.heapSetsSpec.post enc Tryz.prog Tryz.f11 false true false false) := by
  refine returnsInHanded_of_change_and (C := Tryz.checked) (X := fun w _ => laidMetH Tryz.prog laidAll w) (fun _ _ _ hh h => h.of_heap hh) own started (by kernel_rfl) Tryz.func11
    (ChangeSpec.witness_shaped (enc := enc) (C := Tryz.checked) (os := os) (X := fun w _ => laidMetH Tryz.prog laidAll w) false (World.laidAll Tryz.prog os laidAll) #[.int .u16 0, .slice none 0 0, .agg #[.int .i64 0, .string ByteArray.empty, .int .i64 0, .int .i64 0, .int .i64 0, .int .i64 0, .string ByteArray.empty, .int .i64 0]] 8 (World.laidAll_os _ _ _)
      (World.shaped_of_ZipB (by kernel_rfl) (by kernel_rfl)) (by kernel_rfl) (by kernel_rfl) (by kernel_rfl) (by rw [MakeChecks.laidMetH_plain _ _ _ (by kernel_rfl)]; exact laidMet_laidAll _ (by kernel_rfl) (by kernel_rfl))) ?_
  intro W base args ds gs before hval0 hW _ hsz0 hL _
  have hsz : (DataW.weightsEach Tryz.prog (Tryz.f11.params.toList ++ Rows.heapSetsSpec.plain.varTypes Tryz.prog) (ds ++ gs)).all (· ≤ reachBytes) = true := hsz0
  have hval : ∀ (j : Nat) t v, Tryz.f11.params[j]? = some t → args[j]? = some v → Value.okWide Tryz.prog W .any base t v := hval0
  have hW' := hW
  obtain ⟨p, q, hA0, hV, rfl, hfz, hnd⟩ := hW
  have hA : DataW.TrodAll enc Tryz.prog W 0 (fun _ => true) true Tryz.f11.params.toList args.toList ds p := hA0
  have hlt := DataW.TrodAll.lt hA
  rw [Tryz.params11] at hA hval hsz
  obtain ⟨v0, vs0, d0, ds0, p0, q0, hargs, rfl, rfl, h0, r0⟩ := trodAll_cons hA
  obtain ⟨v1, vs1, d1, ds1, p1, q1, rfl, rfl, rfl, h1, r1⟩ := trodAll_cons r0
  obtain ⟨v2, vs2, d2, ds2, p2, q2, rfl, rfl, rfl, h2, r2⟩ := trodAll_cons r1
  obtain ⟨rfl, rfl, rfl⟩ := trodAll_nil r2
  obtain rfl : args = #[v0, v1, v2] := by cases args; simp_all
  obtain ⟨rfl, rfl⟩ := trodVars_none hV
  have g0 : ∀ x ∈ p0, x.block < W.heap.size := fun x hx => hlt x (by simp [hx])
  have k0 := fun (W' : World) (bel : Below W.heap.size W W') => Below.trod lay (by kernel_rfl) (of_decide_eq_true (by kernel_rfl)) h0 bel g0
  obtain ⟨a0, rfl, _, _, w0⟩ := open_int Tryz.underlying43 (hval 0 43 v0 rfl rfl) h0
  have g1 : ∀ x ∈ p1, x.block < W.heap.size := fun x hx => hlt x (by simp [hx])
  have k1 := fun (W' : World) (bel : Below W.heap.size W W') => Below.trod lay (by kernel_rfl) (of_decide_eq_true (by kernel_rfl)) h1 bel g1
  obtain ⟨l1, e1⟩ := X1U (hval 1 44 v1 rfl rfl) h1 (Q9h hsz (j := 1) (t := 44) rfl rfl)
  have g2 : ∀ x ∈ p2, x.block < W.heap.size := fun x hx => hlt x (by simp [hx])
  have k2 := fun (W' : World) (bel : Below W.heap.size W W') => Below.trod lay (by kernel_rfl) (of_decide_eq_true (by kernel_rfl)) h2 bel g2
  obtain ⟨y2, c2, rfl, e2⟩ := X3p (hval 2 51 v2 rfl rfl) h2 (Q9h hsz (j := 2) (t := 51) rfl rfl)
  have hc : Q1 Tryz.prog 11 [.int .u16 a0, v1, .agg (List.toArray c2)] W (fun e w' => e = .bool true ∧ Below W.heap.size W w') := Q8L X01 (X2X hL) w0 e1 e2 (fun w' σ' hb => ⟨rfl, hb.bel⟩)
  refine (Q3N Tryz.func11 (by kernel_rfl) (by kernel_rfl) hc).mono fun e W' he => ?_
  obtain ⟨v, rfl⟩ : ∃ v, e = .returned v := by cases e <;> first | exact ⟨_, rfl⟩ | exact he.elim
  obtain ⟨rfl, bel⟩ := he
  exact ⟨_, rfl, _, _, _, [], _, [], hW', trodAll_mk1 (shut_bool Tryz.underlying4 _), (trodAll_cons_mk (k0 W' bel) (trodAll_cons_mk (k1 W' bel) (trodAll_cons_mk (k2 W' bel) trodAll_mk0))), rfl, bel.frame _, fun h => by cases h⟩
theorem over : Rows.heapSetsRow.holds Tryz.pinned (OpenSpec.ofChange Rows.heapSetsSpec) :=
  OpenClaim.holds_of_wide 11 Tryz.f11 rfl rfl rfl rfl rfl rfl rfl ⟨rfl, rfl, rfl, rfl, rfl⟩ rfl rfl rfl rfl rfl (by kernel_rfl) Tryz.func11 (by kernel_rfl)
    (of_decide_eq_true (by kernel_rfl)) (by unfold Func.isWrapper; first | (rw [if_pos (by decide +kernel)]; kernel_rfl) | (rw [if_neg (by decide +kernel)]; exact ⟨rfl, rfl⟩))
    (fun os started H enc _ => X2U os started H enc)
end Go.Proofs.YtjdiakhipmggjaaGreatDoor.heapSets
namespace Go.Proofs.YtjdiakhipmggjaaGreatDoor
theorem Q3H : Rows.HeapSetsSaid := heapSets.over
end Go.Proofs.YtjdiakhipmggjaaGreatDoor
