/- Parts of a proof about the given program: its functions as texts of their own, what each computes, plain laws of that. The conditions of each stand in its statement. -/
import Derived.Test.YtjdiakhipmggjaaGreatDoorB5
import Derived.Test.YtjdiakhipmggjaaGreatDoorB4
import Derived.Test.YtjdiakhipmggjaaGreatDoorB3
import Derived.Test.YtjdiakhipmggjaaGreatDoorRows
import Derived.WalkKit
import Derived.ProofKit
import Derived.OpenShut
import Derived.ShutString
import Derived.ChangeOld
import Derived.Below
import Derived.SizedLaws
import Derived.Lay
import Derived.Carry
import Derived.MakeChecks
import Derived.PinnedBridge
set_option linter.unnecessarySimpa false
set_option linter.defProp false
set_option linter.unusedSectionVars false
set_option linter.unusedVariables false
set_option linter.unusedSimpArgs false
namespace Go.Hm
open Go.Kd
structure Alike (l m : List Cla) : Prop where
  lk : lk l = lk m
  len : l.length = m.length
  weigh : weigh l [] = weigh m []
section
variable {l m : List Cla} (h : Alike l m)
include h
end
theorem X1w {l:List Cla} {frm:Nat}: ∀(f:Nat) (a:List Nat) (i:Nat),∀y∈A9 l frm f a i,y∈a∨frm≤y:=by
 intro f
 induction f with
 | zero=>intro a i y hy;exact .inl hy
 | succ f c=>
  intro a i y hy
  simp only[A9] at hy
  split at hy
  ·exact .inl hy
  ·split at hy
   ·exact .inl hy
   ·rename_i e _
    rcases List.mem_append.1 hy with hy | hy
    ·exact Lf (p:=fun y=>frm≤y) _ _ (fun b x _ z d=>c b _ z d) y hy
    ·simp at hy;omega
theorem X06 {a:List Cla} (i:T6 a): ∀j∈V9 a 8,8≤j∧j<a.length:=by
 intro j d
 unfold V9 at d
 have g:=Lf (p:=fun y=>8≤y) _ _ (fun b x _ z c=>X1w _ b x z c) j d
 have f:=Lf (p:=fun y=>y<a.length) _ _ (fun b x e z c=>(Q5p i (by omega) _ b x (by
  have:=List.mem_of_mem_drop e
  simpa using this) z c).imp id (·.1)) j d
 exact ⟨g.resolve_left (by simp),f.resolve_left (by simp)⟩
end Go.Hm
namespace Go.Proofs.YtjdiakhipmggjaaGreatDoor
open Go.Emb Go.RowKit Go.Kd Go.Hm
end Go.Proofs.YtjdiakhipmggjaaGreatDoor

namespace Go.Hm
open Go.Kd
theorem Q86 {a:List Cla} {m:Nat} (b:m<a.length):Z2 a (Y3 a m)=some m↔Z2 (a.take m) (Y3 a m)=none:=by
 have d:Y3 a m=a[m].name:=by unfold Y3;rw[List.getD_eq_getElem?_getD,List.getElem?_eq_getElem b];rfl
 unfold Z2
 rw[List.findIdx?_eq_some_iff_getElem,List.findIdx?_eq_none_iff]
 constructor
 ·rintro ⟨k,i,g⟩ c e
  obtain ⟨j,f,rfl⟩:=List.mem_take_iff_getElem.1 e
  simpa using g j (by omega)
 ·intro h
  refine ⟨b,by simp[d],fun j f=>?_⟩
  simpa using h a[j] (List.mem_take_iff_getElem.2 ⟨j,by omega,rfl⟩)
theorem Q7P {a:List Cla} (d:T6 a) {m:Nat} (b:m<a.length):Xg a (Y3 a m) (Y3 a m)=P9 a a[m]:=by
 have c:Y3 a m=a[m].name:=by unfold Y3;rw[List.getD_eq_getElem?_getD,List.getElem?_eq_getElem b];rfl
 unfold Xg P9
 rw[Yf d b,List.getD_eq_getElem?_getD,List.getElem?_eq_getElem b]
 simp only[Option.getD_some,c]
end Go.Hm
namespace Go.Proofs.YtjdiakhipmggjaaGreatDoor
open Go.Emb Go.RowKit Go.Kd Go.Hm
variable {w : World} {K : Value → World → Prop} {σ : Q6} {l : List Cla}
theorem Q8K: ∀c∈G9,Zp c=false:=by decide
theorem Q8k {c:Cla} (h:D2 c=0):Zp c=false:=by
 unfold D2 at h
 split at h
 ·cases h
 ·rename_i a;exact eq_false_of_ne_true a
set_option maxHeartbeats 4000000 in
theorem X2p {lv:Value} (hs:X3 w σ) (hl:Sl 8 V0 σ lv l) (c2:l.length≤900)
 (C: ∀i e w' y,St D2 l=some (i,e)→Stp w σ w' y→K (.tuple #[.slice none 0 0,I i,I e]) w')
 (h0: ∀v w' y,St D2 l=none→Stp w σ w' y→Sl 8 V0 y v (Q4 l)→Ok (Q4 l)→T6 (Q4 l)→K (.tuple #[v,I 0,I 0]) w'):Q1 P F.bN [lv] w K:=Q12 (by
 unfold Ex
 have r:G9.length=8:=rfl
 have dc:(Q4 l).length=8+l.length:=by simp[Q4,r]
 refine Q8X hs fun x0 w1 σ1 cb bg=>?_
 refine Q8H bg ?_
 rw[r]
 refine E4 l.length (fun n x w'=> ∃y,Stp w σ w' y∧V5 w.heap.size T.b 8 V0 y w' x (G9++l.take n)∧O8 D2 l 0=O8 D2 (l.drop n) n)
  ⟨σ1,cb,by simpa using bg,rfl⟩ fun n x w4 d J b=>?_
 obtain ⟨σ4,aa,a3,H⟩:=b
 have ad:=hl.up aa
 refine Q8 ad ?_
 refine Z0 ?_
 refine Q7 (fun hh=>?_) (fun hh=>?_)
 ·have a:n<l.length:=by simpa using hh
  obtain ⟨b0,bx,bk,p1,r1⟩:=ad.elC a
  refine Y1 ad a ?_
  refine Y4 aa.sat p1 rfl ?_
  refine Q3G aa.sat r1 fun w6 σ6 Z=>?_
  have bo:=aa.trans Z
  have U:=Wm a H
  refine Jf ?_
  refine Q7 (fun m=>?_) (fun m=>?_)
  ·have t: ¬D2 l[n]=0:=by simpa using m
   rw[if_neg t] at U
   refine C _ _ _ _ ?_ bo
   unfold St
   rw[U]
  ·have hz:D2 l[n]=0:=by simpa using m
   rw[if_pos hz] at U
   refine Y1 (ad.up Z) a ?_
   refine Y4 Z.sat (p1.up Z) rfl ?_
   have cv:=a3.up Z
   have r6:=RCl_lift r1 ⟨Z.le⟩
   refine Jl (R:=V0) (x:=l[n]) bo cv (by simpa [Value.cells] using r6) rfl rfl rfl (by simp[r];omega) (by simp[r];omega) fun s v' w9 σ9 dq p cm a0=>?_
   refine N3 ?_
   refine J3 ad.max a ⟨σ9,p,?_,U⟩
   rw[List.take_add_one,List.getElem?_eq_getElem a,←List.append_assoc]
   exact cm
 have a: ¬n<l.length:=by simpa using hh
 rw[List.take_of_length_le (by omega)] at a3
 rw[List.drop_eq_nil_of_le (by omega)] at H
 have H:O8 D2 l 0=none:=H
 have bl:=P8 H
 have bi: ∀c∈l,Qm c∧Nm c∧c.name≠[]:=fun c hc=>Fh (bl c hc)
 have q: ∀c∈Q4 l,Qm c:=fun c hc=>by
  rcases List.mem_append.1 hc with hc | hc
  ·exact (Ua c hc).1
  ·exact (bi c hc).1
 have a4: ∀c∈Q4 l,Nm c:=fun c hc=>by
  rcases List.mem_append.1 hc with hc | hc
  ·exact (Ua c hc).2.1
  ·exact (bi c hc).2.1
 have ac: ∀c∈Q4 l,Zp c=false:=fun c hc=>by
  rcases List.mem_append.1 hc with hc | hc
  ·exact Q8K c hc
  ·exact Q8k (bl c hc)
 have ar:(Q4 l).length≤100000:=by omega
 unfold St at C h0
 rw[H] at C h0
 simp only at C h0
 obtain ⟨σ5,o,L,ds,cz⟩:=a3.keep aa
 change Sl 8 V0 σ5 x (Q4 l) at L
 clear a3 aa ad a hh J H bg cb
 have B: ∀{n:Nat} (J:n<l.length),∃(h:8+n<(Q4 l).length),(Q4 l)[8+n]=l[n]:=fun {n} J=>⟨by omega,by
  unfold Q4
  rw[List.getElem_append_right (by rw[r];omega)]
  congr 1
  rw[r];omega⟩
 have ch: ∀{n:Nat} (J:n<l.length),Y3 (Q4 l) (8+n)=l[n].name:=fun {n} J=>by
  obtain ⟨C,h2⟩:=B J
  rw[Po C,h2]
 have cf: ∀j,j<8→(Z2 ((Q4 l).take j) (Y3 (Q4 l) j)).isSome=false:=by
  have hd: ∀j,j<8→(Z2 (G9.take j) (Y3 G9 j)).isSome=false:=by decide
  intro j hj
  have e1:(Q4 l).take j=G9.take j:=by unfold Q4;rw[List.take_append_of_le_length (by rw[r];omega)]
  have e2:Y3 (Q4 l) j=Y3 G9 j:=by
   unfold Y3 Q4;rw[List.getD_eq_getElem?_getD,List.getD_eq_getElem?_getD,List.getElem?_append_left (by rw[r];omega)]
  rw[e1,e2];exact hd j hj
 refine U0 l.length (fun n w'=>Stp w σ w' σ5∧ ∀j,j<8+n→(Z2 ((Q4 l).take j) (Y3 (Q4 l) j)).isSome=false) ⟨o,by simpa using cf⟩ fun n w5 d J b=>?_
 clear o
 obtain ⟨o,az⟩:=b
 have aw:=hl.up o
 refine Q8 aw ?_
 refine Z0 ?_
 refine Q7 (fun hh=>?_) (fun hh=>?_)
 ·have a:n<l.length:=by simpa using hh
  obtain ⟨b0,bx,bk,p1,r1⟩:=aw.elC a
  refine Y1 aw a ?_
  (try simp only[↓M1,M1,Mb,reduceIte])
  refine ld o.sat p1 rfl ?_
  refine I8 o.sat L ?_
  rw[F9 (by omega) (by omega)]
  refine Jf ?_
  obtain ⟨V,e8⟩:=B a
  rw[←ch a]
  have bp:=Q86 V
  cases ap:Z2 ((Q4 l).take (8+n)) (Y3 (Q4 l) (8+n)) with
  | none=>
   rw[bp.2 ap]
   have e:decide (L5 (some (8+n))=(8:Nat)+(n:Int))=true:=by simp[L5]
   rw[e]
   (try simp only[↓M1,M1,Mb,reduceIte])
   refine Y5 aw.max a ⟨o,fun j hj=>?_⟩
   by_cases ej:j=8+n
   ·rw[ej,ap];rfl
   ·exact az j (by omega)
  | some i=>
   have t:Z2 (Q4 l) (Y3 (Q4 l) (8+n))≠some (8+n):=fun e=>by rw[bp.1 e] at ap;cases ap
   have e:decide (L5 (Z2 (Q4 l) (Y3 (Q4 l) (8+n)))=(8:Nat)+(n:Int))=false:=by
    rw[decide_eq_false_iff_not]
    intro e
    cases hf:Z2 (Q4 l) (Y3 (Q4 l) (8+n)) with
    | none=>rw[hf] at e;simp only[L5] at e;omega
    | some k=>
     rw[hf] at e t
     simp only[L5] at e
     apply t
     congr 1;omega
   rw[e]
   (try simp only[↓M1,M1,Mb,reduceIte])
   have Q:Sn (Q4 l)=some (8+n):=by
    unfold Sn
    rw[List.find?_range_eq_some]
    refine ⟨by rw[ap];rfl,by simpa using V,fun j hj=>by rw[az j hj];rfl⟩
   refine C _ _ _ _ ?_ o
   rw[Q]
   have:((8+n:Nat):Int)-8=n:=by omega
   simp only[this]
 have a: ¬n<l.length:=by simpa using hh
 have Q:Sn (Q4 l)=none:=by
  unfold Sn
  rw[List.find?_eq_none]
  intro j hj
  rw[az j (by have:=List.mem_range.1 hj;omega)];simp
 rw[Q] at C h0
 simp only at C h0
 have g:=Ku Q
 clear az hh a J aw cf
 refine U0 l.length (fun n w'=> ∃y,Stp w σ w' y∧SLe σ5 y∧O8 (fun c=>(D0 (Q4 l) c:Int)) l 0=O8 (fun c=>(D0 (Q4 l) c:Int)) (l.drop n) n) ⟨σ5,o,SLe.refl _,rfl⟩ fun n w6 d J b=>?_
 obtain ⟨σ9,p,av,ab⟩:=b
 have ao:=hl.up p
 refine Q8 ao ?_
 refine Z0 ?_
 refine Q7 (fun hh=>?_) (fun hh=>?_)
 ·have a:n<l.length:=by simpa using hh
  obtain ⟨b0,bx,bk,p1,r1⟩:=ao.elC a
  refine Y1 ao a ?_
  refine Y4 p.sat p1 rfl ?_
  have W:=Wm a ab
  refine Q8B p.sat (L.lift av) r1 fun w8 cr ay=>?_
  refine Jf ?_
  refine Q7 (fun m=>?_) (fun m=>?_)
  ·have t: ¬(D0 (Q4 l) l[n]:Int)=0:=by simpa using m
   rw[if_neg t] at W
   refine C _ _ _ _ ?_ (p.trans ay)
   rw[W]
  ·have hz:(D0 (Q4 l) l[n]:Int)=0:=by simpa using m
   rw[if_pos hz] at W
   refine N3 ?_
   exact Y5 ao.max a ⟨cr,p.trans ay,av.more ⟨ay.le⟩,W⟩
 have a: ¬n<l.length:=by simpa using hh
 rw[List.drop_eq_nil_of_le (by omega)] at ab
 have ab:O8 (fun c=>(D0 (Q4 l) c:Int)) l 0=none:=ab
 rw[ab] at C h0
 simp only at C h0
 have b9:=P8 ab
 clear hh a J o ao
 refine Q13 p.sat (L.lift av) g (by omega) (by omega) q fun vb dn ce am aj=>?_
 have f:=p.trans am
 have a7:=av.more ⟨am.le⟩
 have a2:(I2 (Q4 l)).length=(Q4 l).length:=by simp[I2]
 refine U0 l.length (fun n w'=>Stp w σ w' ce∧ ∀j (hj:j<l.length),j<n→P9 (Q4 l) l[j]=false) ⟨f,fun j _ h=>by omega⟩ fun n dp d J b=>?_
 clear f
 obtain ⟨f,a5⟩:=b
 have ae:=hl.up f
 refine Q8 ae ?_
 refine Z0 ?_
 refine Q7 (fun hh=>?_) (fun hh=>?_)
 ·have a:n<l.length:=by simpa using hh
  obtain ⟨V,e8⟩:=B a
  refine Xq ⟨by omega,by omega⟩ ?_
  have ec:((8:Nat):Int)+(n:Int)=((8+n:Nat):Int):=by omega
  rw[ec]
  obtain ⟨df,pb,_,rv,rfl,rb⟩:=aj.el (i:=8+n) (by rw[a2];exact V)
  have cd:(I2 (Q4 l))[8+n]'(by rw[a2];exact V)=(List.range (Q4 l).length).map fun j=>Xg (Q4 l) (Y3 (Q4 l) (8+n)) (Y3 (Q4 l) j):=by simp[I2]
  rw[cd] at rb
  obtain ⟨ck,bh,_,ag⟩:=rb.el (i:=8+n) (by simpa using V)
  have ag:ck=_:=ag
  subst ag
  simp only[List.getElem_map,List.getElem_range] at bh
  rw[Q7P g V,e8] at bh
  refine Y1 aj (by rw[a2];exact V) ?_
  refine X7 f.sat pb rfl ?_
  refine Xq ⟨by omega,by omega⟩ ?_
  rw[ec]
  refine Y1 rb (by simpa using V) ?_
  refine X7 f.sat bh rfl ?_
  cases b6:P9 (Q4 l) l[n] with
  | true=>
   (try simp only[↓M1,M1,Mb,reduceIte])
   have bf:l.findIdx? (P9 (Q4 l))=some n:=by
    rw[List.findIdx?_eq_some_iff_getElem]
    exact ⟨a,b6,fun j hj=>by simpa using a5 j (by omega) hj⟩
   refine C _ _ _ _ ?_ f
   rw[bf]
  | false=>
   (try simp only[↓M1,M1,Mb,reduceIte])
   refine Y5 ae.max a ⟨f,fun j hj dv=>?_⟩
   by_cases e:j=n
   ·subst e;exact b6
   ·exact a5 j hj (by omega)
 have a: ¬n<l.length:=by simpa using hh
 have be: ∀c∈l,P9 (Q4 l) c=false:=fun c hc=>by
  obtain ⟨j,hj,rfl⟩:=List.getElem_of_mem hc
  exact a5 j hj (by omega)
 have bf:l.findIdx? (P9 (Q4 l))=none:=by
  rw[List.findIdx?_eq_none_iff];exact be
 rw[bf] at C h0
 simp only at C h0
 clear a5 hh a J ae aj am p a2
 have an:=Q5f g (fun c hc=>(bi c hc).2.2) be
 have af:X0i (Q4 l):=fun c hc u hu=>by
  rcases List.mem_append.1 hc with hc | hc
  ·rw[(Ua c hc).2.2] at hu;simp at hu
  ·have:=b9 c hc
   unfold D0 at this
   split at this
   ·simp at this
   ·split at this
    ·simp at this
    ·rename_i A
     have A:c.like.any (R3 (Q4 l))=false:=eq_false_of_ne_true A
     have:=List.any_eq_false.1 A u hu
     unfold R3 at this
     cases hd:lk (Q4 l) u with
     | none=>rw[hd] at this;simp at this
     | some d=>exact ⟨d,rfl⟩
 have b3:Ok (Q4 l):=⟨an,ar,q,af,a4⟩
 have b8: ∀i (hi:i<(Q4 l).length),8≤i→ ∀u∈U3 (Q4 l)[i],∃j,Z2 (Q4 l) u=some j:=fun i hi V u hu=>by
  have ak:i-8<l.length:=by omega
  obtain ⟨dt,e8⟩:=B ak
  have cl:(Q4 l)[i]=l[i-8]:=by rw[←e8];congr 1;omega
  rw[cl] at hu
  have a9:=List.getElem_mem ak
  rcases List.mem_cons.1 hu with hu | hu
  ·have:=b9 _ a9
   unfold D0 at this
   split at this
   ·simp at this
   ·rename_i A
    unfold Qv at A
    rw[←hu] at A
    cases hd:lk (Q4 l) u with
    | none=>rw[hd] at A;simp at A
    | some d=>obtain ⟨_,_,j,hj,_⟩:=V3 hd;exact ⟨j,hj⟩
  ·obtain ⟨d,hd⟩:=af _ (List.mem_append_right _ a9) u hu
   obtain ⟨_,_,j,hj,_⟩:=V3 hd;exact ⟨j,hj⟩
 refine Eh (R:=Ww) (e:=T.e) f (by decide) fun c7 c9 bc bd _=>?_
 refine E4 l.length (fun n x' w'=> ∃y D,Stp w σ w' y∧SLe σ5 y∧V5 w.heap.size T.e 1 Ww y w' x' (ints D)∧Few (Q4 l) D∧D=(((List.range (Q4 l).length).drop 8).take n).foldl (fun D i=>Xl (Q4 l) 8 D i) [])
  ⟨ce,[],f.trans bc,a7,bd,⟨List.nodup_nil,by simp⟩,rfl⟩ fun n x' dh d J b=>?_
 clear bd bc f a7 av
 obtain ⟨dg,D,N,O,ai,ax,al⟩:=b
 have ah:=hl.up N
 refine Q8 ah ?_
 refine Z0 ?_
 refine Q7 (fun hh=>?_) (fun hh=>?_)
 ·have a:n<l.length:=by simpa using hh
  obtain ⟨V,e8⟩:=B a
  refine Xq ⟨by omega,by omega⟩ ?_
  have ec:((8:Nat):Int)+(n:Int)=((8+n:Nat):Int):=by omega
  rw[ec]
  refine X1F an g (by omega) q (by omega) b8 ((Q4 l).length+1) V (Nat.lt_succ_of_le (Q1q _ _)) ax N (L.lift O) ai fun c4 dl cj bw bs b4=>?_
  refine N3 ?_
  refine J3 ah.max a ⟨cj,_,bw,O.more bs,b4,Pk an g (by omega) _ _ _ V ax,?_⟩
  rw[List.take_add_one,List.getElem?_drop,List.getElem?_range V,List.foldl_append,←al]
  rfl
 have a: ¬n<l.length:=by simpa using hh
 have cq:n=l.length:=by omega
 subst cq
 have b1:D=V9 (Q4 l) 8:=by
  rw[al,List.take_of_length_le (by rw[List.length_drop,List.length_range];omega)];rfl
 subst b1
 clear al hh a J
 have dj:=ax.len
 have co:=X06 g
 obtain ⟨b5,bm,bz,a8,_⟩:=ai.keep N
 have cg:=O.more ⟨a8⟩
 clear ai N a8 O ah
 have ak:(ints (V9 (Q4 l) 8)).length=(V9 (Q4 l) 8).length:=by simp
 refine U0 (V9 (Q4 l) 8).length (fun n w'=> ∃y,Stp w σ w' y∧SLe b5 y∧ ∀j∈(V9 (Q4 l) 8).take n,V8 (Q4 l) ((Q4 l).getD j Cla.zero)=0) ⟨b5,bm,SLe.refl _,by simp⟩ fun n c8 d J b=>?_
 obtain ⟨da,X,M,a1⟩:=b
 have Y:=bz.lift M
 refine Q8 Y ?_
 rw[ak]
 refine Z0 ?_
 refine Q7 (fun hh=>?_) (fun hh=>?_)
 ·have a:n<(V9 (Q4 l) 8).length:=by simpa using hh
  have b7:n<(ints (V9 (Q4 l) 8)).length:=by rw[ak];exact a
  refine Y1 Y b7 ?_
  obtain ⟨cs,pc,_,ct⟩:=Y.el b7
  obtain ⟨rfl,_⟩:=ct
  simp only[List.getElem_map] at pc
  refine X7 X.sat pc rfl ?_
  have bq:=(co _ (List.getElem_mem a)).2
  have a0:(Q4 l).getD (V9 (Q4 l) 8)[n] Cla.zero=(Q4 l)[(V9 (Q4 l) 8)[n]]:=by rw[List.getD_eq_getElem?_getD,List.getElem?_eq_getElem bq];rfl
  refine Q6r X.sat (L.lift (cg.more M)) b3 g (by omega) ac bq fun dx cc z=>?_
  have bb:=X.trans z
  refine Jf ?_
  refine Q7 (fun m=>?_) (fun m=>?_)
  ·have t: ¬V8 (Q4 l) (Q4 l)[(V9 (Q4 l) 8)[n]]=0:=by simpa using m
   have c1:=Y.up z
   have ca:=pc.up z
   refine U2 z.sat ?_
   (repeat refine J0 A8 ?_)
   (intros;(repeat (rename_i hx;subst hx));(try simp only[↓M2,M2,Mb,reduceIte]))
   rename_i cn a6
   refine X7 a6.sat ca rfl ?_
   refine Zi ⟨by omega,by omega⟩ ?_
   have E:(V9 (Q4 l) 8).find? (fun j=> !decide (V8 (Q4 l) ((Q4 l).getD j Cla.zero)=0))=some (V9 (Q4 l) 8)[n]:=by
    rw[List.find?_eq_some_iff_getElem]
    refine ⟨by rw[a0];simpa using t,n,a,rfl,fun j hj=>?_⟩
    have:=a1 _ (List.mem_take_iff_getElem.2 ⟨j,by omega,rfl⟩)
    rw[this];simp
   have:=C (((V9 (Q4 l) 8)[n]:Int)-8) (V8 (Q4 l) (Q4 l)[(V9 (Q4 l) 8)[n]]) cn cc (by rw[E];simp only[a0]) (bb.trans a6.stp)
   exact this
  ·have hz:V8 (Q4 l) (Q4 l)[(V9 (Q4 l) 8)[n]]=0:=by simpa using m
   refine N3 ?_
   refine Y5 (by omega) a ⟨cc,bb,M.more ⟨z.le⟩,fun j hj=>?_⟩
   rw[List.take_add_one,List.getElem?_eq_getElem a] at hj
   rcases List.mem_append.1 hj with hj | hj
   ·exact a1 j hj
   ·simp at hj;subst hj;rw[a0];exact hz
 ·have a: ¬n<(V9 (Q4 l) 8).length:=by simpa using hh
  rw[List.take_of_length_le (by omega)] at a1
  have E:(V9 (Q4 l) 8).find? (fun j=> !decide (V8 (Q4 l) ((Q4 l).getD j Cla.zero)=0))=none:=by
   rw[List.find?_eq_none]
   intro j hj
   rw[a1 j hj];simp
  rw[E] at h0
  exact h0 _ _ _ rfl X (L.lift (cg.more M)) b3 g)
end Go.Proofs.YtjdiakhipmggjaaGreatDoor

namespace Go.Proofs.YtjdiakhipmggjaaGreatDoor
open Go.Emb Go.RowKit Go.Kd Go.Hm
variable {w : World} {K : Value → World → Prop} {σ : Q6} {l : List Cla} {v : Value}
theorem Q88:(I2 l).length=l.length:=by simp[I2]
theorem Q9e {i:Nat} (a:i<(I2 l).length):(I2 l)[i]=(List.range l.length).map fun j=>Xg l (Y3 l i) (Y3 l j):=by simp[I2]
theorem Sl.elB {xs:List (List Bool)} {v:Value} (h:Sl 1 Q5M σ v xs) {i:Nat} (b:i<xs.length): ∃u,Z4 σ (Vo 1 v i) [u]∧Sl 1 Q3j σ u xs[i]:=by
 obtain ⟨cs,c,d,u,rfl,a⟩:=h.el b;exact ⟨u,c,a⟩
theorem Sl.elb {xs:List Bool} {v:Value} (h:Sl 1 Q3j σ v xs) {i:Nat} (b:i<xs.length):Z4 σ (Vo 1 v i) [.bool xs[i]]:=by
 obtain ⟨cs,c,d,a⟩:=h.el b
 have a:cs=_:=a
 subst a;exact c
theorem X1z {a b:X0} (n:X3 w σ) (p:Sl 8 V0 σ v (Q4 l)) (z:Wf l) (ok:Ok (Q4 l)) (N:(Q4 l).length≤1000) (U:a.length≤U1) (hb:b.length≤U1) (h: ∀w' σ',Stp w σ w' σ'→K (.bool (Xv (Q4 l) a b)) w'):Q1 P F.bS [v,S a,S b] w K:=Q0D (by
 unfold Et
 have q: ∀r,Xv (Q4 l) a b=r→K (.bool r) w:=fun r e=>by rw[←e];exact h _ _ (Stp.refl n)
 refine Ds n p U ?_
 cases g:N1 (Q4 l) a with
 | false=>
  have O:Xv (Q4 l) a b=false:=by unfold Xv;simp[g]
  (try simp only[↓M1,M1,Mb,reduceIte])
  by_cases e:a=b
  ·have f:decide (a=b)=true:=by simpa using e
   simp only[f,↓M1,M1,Mb,reduceIte]
   refine Ds n p U ?_
   rw[g]
   (try simp only[↓M1,M1,Mb,reduceIte])
   exact q _ O
  ·have f:decide (a=b)=false:=by simpa using e
   simp only[f,↓M1,M1,Mb,reduceIte]
   exact q _ O
 | true=>
 (try simp only[↓M1,M1,Mb,reduceIte])
 refine Ds n p hb ?_
 cases m:N1 (Q4 l) b with
 | false=>
  have O:Xv (Q4 l) a b=false:=by unfold Xv;simp[m]
  have f:decide (a=b)=false:=by
   rw[decide_eq_false_iff_not];rintro rfl;rw[g] at m;cases m
  simp only[f,↓M1,M1,Mb,reduceIte]
  exact q _ O
 | true=>
 (try simp only[↓M1,M1,Mb,reduceIte])
 by_cases e:a=b
 ·have f:decide (a=b)=true:=by simpa using e
  simp only[f,↓M1,M1,Mb,reduceIte]
  refine Ds n p U ?_
  rw[g]
  (try simp only[↓M1,M1,Mb,reduceIte])
  exact q _ (z.sub_iff.2 ⟨g,m, .inl e⟩)
 have f:decide (a=b)=false:=by simpa using e
 simp only[f,↓M1,M1,Mb,reduceIte]
 refine Ek _ ?_
 have c:(∀(_:plain a=false∧plain b=false∧(a=H7∨(elem a≠[]∧b=J9)∨(lk (Q4 l) a≠none∧Hm.Reach (lk (Q4 l)) a b))),False)→K (.bool false) w:=fun hx=>q _ (eq_false_of_ne_true fun Z=>by
  obtain ⟨_,_,h3⟩:=z.sub_iff.1 Z
  rcases h3 with h3 | h3
  ·exact e h3
  ·exact hx h3)
 cases y:plain a with
 | true=>(try simp only[↓M1,M1,Mb,reduceIte]);exact c fun hx=>by rw[y] at hx;cases hx.1
 | false=>
 (try simp only[↓M1,M1,Mb,reduceIte])
 refine Ek _ ?_
 cases M:plain b with
 | true=>(try simp only[↓M1,M1,Mb,reduceIte]);exact c fun hx=>by rw[M] at hx;cases hx.2.1
 | false=>
 (try simp only[↓M1,M1,Mb,reduceIte])
 by_cases C:b=H7
 ·have f:decide (b=[110,117,108,108])=true:=by rw[decide_eq_true_eq];exact C
  simp only[f,↓M1,M1,Mb,reduceIte]
  refine c fun ⟨_,_,hx⟩=>?_
  rcases hx with hx | ⟨_,hx⟩ | ⟨_,hx⟩
  ·exact e (hx.trans C.symm)
  ·rw[C] at hx;exact absurd hx (by decide)
  ·obtain ⟨d,A⟩:=hx.right
   rw[C,z.none_null] at A;cases A
 have Q:decide (b=[110,117,108,108])=false:=by rw[decide_eq_false_iff_not];exact C
 simp only[Q,↓M1,M1,Mb,reduceIte]
 by_cases k:a=H7
 ·have f:decide (a=[110,117,108,108])=true:=by rw[decide_eq_true_eq];exact k
  simp only[f,↓M1,M1,Mb,reduceIte]
  exact q _ (z.sub_iff.2 ⟨g,m, .inr ⟨y,M, .inl k⟩⟩)
 have J:decide (a=[110,117,108,108])=false:=by rw[decide_eq_false_iff_not];exact k
 simp only[J,↓M1,M1,Mb,reduceIte]
 by_cases L:b=J9
 ·have f:decide (b=[79,98,106,101,99,116])=true:=by rw[decide_eq_true_eq];exact L
  simp only[f,↓M1,M1,Mb,reduceIte]
  exact q _ (by rw[L];exact z.sub_root g y)
 have R:decide (b=[79,98,106,101,99,116])=false:=by rw[decide_eq_false_iff_not];exact L
 simp only[R,↓M1,M1,Mb,reduceIte]
 refine I8 n p ?_
 refine I8 n p ?_
 refine P6 ?_
 rw[T8]
 cases s:Z2 (Q4 l) a with
 | none=>
  simp only[Option.isSome_none,↓M1,M1,Mb,reduceIte]
  refine c fun ⟨_,_,hx⟩=>?_
  rcases hx with hx | ⟨_,hx⟩ | ⟨hx,_⟩
  ·exact k hx
  ·exact L hx
  ·exact hx (by unfold lk;rw[s];rfl)
 | some i=>
 simp only[Option.isSome_some,↓M1,M1,Mb,reduceIte]
 cases H:Z2 (Q4 l) b with
 | none=>
  simp only[T8,Option.isSome_none,↓M1,M1,Mb,reduceIte]
  refine c fun ⟨_,_,hx⟩=>?_
  rcases hx with hx | ⟨_,hx⟩ | ⟨_,hx⟩
  ·exact k hx
  ·exact L hx
  ·obtain ⟨d,A⟩:=hx.right
   unfold lk at A;rw[H] at A;cases A
 | some j=>
 obtain ⟨hi,X⟩:=S3 s
 obtain ⟨hj,V⟩:=S3 H
 simp only[T8,Option.isSome_some,↓M1,M1,Mb,reduceIte]
 simp only[L5]
 refine Q13 n p z.own (by omega) N ok.sm fun v1 w1 σ1 t B=>?_
 have o:i<(I2 (Q4 l)).length:=by rw[Q88];exact hi
 refine Y1 B o ?_
 obtain ⟨u,p1,W⟩:=Sl.elB B o
 refine X7 t.sat p1 rfl ?_
 rw[Q9e o] at W
 have E:j<((List.range (Q4 l).length).map fun j=>Xg (Q4 l) (Y3 (Q4 l) i) (Y3 (Q4 l) j)).length:=by simpa using hj
 refine Y1 W E ?_
 refine X7 t.sat (Sl.elb W E) rfl ?_
 (try simp only[↓M1,M1,Mb,reduceIte])
 simp only[List.getElem_map,List.getElem_range,X,V]
 have D:Xv (Q4 l) a b=Xg (Q4 l) a b:=by
  obtain ⟨ca,Y,_⟩:=Zl s
  rw[Bool.eq_iff_iff,z.sub_class Y,Jp,Q0Q]
  constructor
  ·rintro (⟨hx,_⟩ | hx)
   ·exact absurd hx e
   ·exact hx
  ·exact .inr
 rw[←D]
 exact h _ _ t)
end Go.Proofs.YtjdiakhipmggjaaGreatDoor

namespace Go.Proofs.YtjdiakhipmggjaaGreatDoor
open Go.Emb Go.RowKit Go.Kd Go.Hm
variable {w : World} {K : Value → World → Prop} {σ : Q6} {l : List Cla} {v : Value}
end Go.Proofs.YtjdiakhipmggjaaGreatDoor

namespace Go.Emb
open Go.RowKit Go.Hm
def D3 (σ:Q6) (x:List Cla×Int×List Cel) (ds:List Value):Prop:= ∃b a,ds=[b,I x.2.1,a]∧Sl 8 V0 σ b x.1∧Sl 2 E5 σ a x.2.2
instance:Rep D3:=⟨fun hk ⟨lv,cv,h1,h2,h3⟩=>⟨lv,cv,h1,h2.le hk,h3.le hk⟩,fun ⟨lv,cv,h1,h2,h3⟩ u hu=>by
 rw[h1] at hu;simp at hu;rcases hu with rfl | rfl | rfl
 ·exact A0 h2
 ·rfl
 ·exact A0 h3⟩
theorem W8 {σ σ':Q6} {x:List Cla×Int×List Cel} {cs:List Value} (h:D3 σ x cs) (k:SLe σ σ'):D3 σ' x cs:=Rep.up k.le h
theorem D3.out {σ:Q6} {l:List Cla} {room:Int} {cs:List Cel} {ds:List Value} (h:D3 σ (l,room,cs) ds): ∃b a,ds=[b,I room,a]∧Sl 8 V0 σ b l∧Sl 2 E5 σ a cs:=h
end Go.Emb
namespace Go.Proofs.YtjdiakhipmggjaaGreatDoor
open Go.Emb Go.RowKit Go.Kd Go.Hm
variable {w w' : World} {K : Value → World → Prop} {σ σ' : Q6} {ds : List Value} {room : Int} {cs : List Cel} {l : List Cla}
theorem Q9N {k:X0} (N:X3 w σ) (h: ∀w' σ',Stp w σ w' σ'→K (.agg [I (L9 k).sort,I (L9 k).n,S (L9 k).s,I (L9 k).ref].toArray) w'):Q1 P F.aO [S k] w K:=Ai (by
 unfold Oc
 refine M8 N fun b w1 σ1 R t u=>?_
 have hB:=N0 R (Stp.refl N)
 refine V6 (cells:= #[I 0,I 0,S [],I 0]) (by kernel_rfl) ?_
 refine M8 t.sat fun M w2 A B v y=>?_
 have D:=t.trans v
 have o:=N0 B t
 have j:b≠M:=by have:=u.lt;omega
 refine Mn (ds:=[I 0,I 0,S [],I 0]) y rfl rfl (by rw[List.all_toArray];exact List.all_eq_true.2 Rt) fun V O a=>?_
 have g:=O.stp D o y.1
 have c:=(u.up v).upd O j
 have m: ∀(n:Int) (f:World),Y2 A f M [I n,I 0,S [],I 0]→Y2 A f b [I 0,I 0,S [],I 0]→Stp w σ f A→(∀w' σ',Stp w σ w' σ'→K (.agg [I n,I 0,S [],I 0].toArray) w')→Q2 P T.g (.pointer (some ⟨M,0,none⟩)) f fun L w=>
  X9 P T.g (.pointer (some ⟨b,0,none⟩)) L w fun _u w=>
  Y7 P T.g (.pointer (some ⟨b,0,none⟩)) w fun X=>K X w:=fun n f r p W Y=>
  Rv r rfl (F6 p W hB rfl rfl Rt fun w5 J C=>V1 C rfl (Y _ _ J.stp))
 have Z:decide (k=[105,110,116])=decide (k=P7):=rfl
 have Q:decide (k=[98,111,111,108])=decide (k=Zx):=rfl
 have E:decide (k=[116,101,120,116])=decide (k=O9):=rfl
 unfold L9 at h
 refine U6 ?_
 refine P4 ?_
 rw[Z]
 by_cases p:k=P7
 ·simp only[if_pos p] at h
  have U:decide (k=Zx)=false:=by subst p;decide
  have H:decide (k=O9)=false:=by subst p;decide
  rw[decide_eq_true p]
  refine J5 ?_
  refine W0 ?_
  refine Uf (i:=0) a (by simp) rfl rfl fun f q e=>?_
  intro d
  refine U6 ?_
  refine P4 ?_
  rw[Q,U]
  refine Z7 ?_
  intro d
  refine U6 ?_
  refine P4 ?_
  rw[E,H]
  refine Z7 ?_
  intro d
  exact m 1 f e (c.upd q j) (q.stp g o a.1) h
 simp only[if_neg p] at h
 rw[decide_eq_false p]
 refine Z7 ?_
 intro d
 refine U6 ?_
 refine P4 ?_
 rw[Q]
 by_cases r:k=Zx
 ·simp only[if_pos r] at h
  have H:decide (k=O9)=false:=by subst r;decide
  rw[decide_eq_true r]
  refine J5 ?_
  refine W0 ?_
  refine Uf (i:=0) a (by simp) rfl rfl fun f q e=>?_
  intro d
  refine U6 ?_
  refine P4 ?_
  rw[E,H]
  refine Z7 ?_
  intro d
  exact m 2 f e (c.upd q j) (q.stp g o a.1) h
 simp only[if_neg r] at h
 rw[decide_eq_false r]
 refine Z7 ?_
 intro d
 refine U6 ?_
 refine P4 ?_
 rw[E]
 by_cases z:k=O9
 ·simp only[if_pos z] at h
  rw[decide_eq_true z]
  refine J5 ?_
  refine W0 ?_
  refine Uf (i:=0) a (by simp) rfl rfl fun f q e=>?_
  intro d
  exact m 3 f e (c.upd q j) (q.stp g o a.1) h
 ·simp only[if_neg z] at h
  rw[decide_eq_false z]
  refine Z7 ?_
  intro d
  exact m 0 V a c g h)
theorem Q9i (k:X3 w σ) (hh:D3 σ (l,room,cs) ds) (m:0≤W4 room cs) (H:room≤1048576) (h: ∀w' σ',Stp w σ w' σ'→K (I (W4 room cs)) w'):Q1 P F.aQ [.agg ds.toArray] w K:=Q01 (by
 obtain ⟨D,u,rfl,v,o⟩:=D3.out hh
 unfold Od
 refine Z1 k fun q w1 σ1 f j=>?_
 have c:=f.sat
 have b:=o.up f
 refine W0 ?_
 refine ld c j rfl ?_
 unfold W4 at h m
 refine E4 cs.length (fun n x w'=>w'=w1∧x=I (room-Y8 (cs.take n))) ⟨rfl,by simp[Y8]⟩ fun n x A d t i=>?_
 obtain ⟨rfl,rfl⟩:=i
 have e:Y8 cs=Y8 (cs.take n)+Y8 (cs.drop n):=by rw[←T5,List.take_append_drop]
 have B:=L8 (cs.take n)
 have s:=L8 (cs.drop n)
 refine W0 ?_
 refine ld c j rfl ?_
 refine Q8 b ?_
 refine Z0 ?_
 refine Q7 (fun g=>?_) (fun g=>?_)
 ·have a:n<cs.length:=by simpa using g
  obtain ⟨J,r,p,y⟩:=Sl.elO b a
  refine W0 ?_
  refine ld c j rfl ?_
  refine Y1 b a ?_
  refine W0 ?_
  refine ld c r rfl ?_
  refine Q8 p ?_
  have C:Y8 (cs.drop n)=(1+(cs[n].vals.length:Int))+Y8 (cs.drop (n+1)):=by
   rw[List.drop_eq_getElem_cons a];simp only[Y8,List.map_cons,List.sum_cons]
  have z:=L8 (cs.drop (n+1))
  have E:Y8 (cs.take (n+1))=Y8 (cs.take n)+(1+(cs[n].vals.length:Int)):=by
   rw[List.take_add_one,List.getElem?_eq_getElem a,T5];simp[Y8]
  refine Xq ⟨by omega,by omega⟩ ?_
  refine Zi ⟨by omega,by omega⟩ ?_
  refine N3 ?_
  refine J3 b.max a ⟨rfl,?_⟩
  congr 1;omega
 ·have a: ¬n<cs.length:=by simpa using g
  rw[List.take_of_length_le (by omega)]
  exact h _ _ f)
theorem Q9x {n:X0} {k:Value} (j:X3 w σ) (f:Sl 8 V0 σ k l) (h:K (.bool (A4 l n)) w):Q1 P F.b6 [k,S n] w K:=Bl (by
 unfold Vq
 refine I8 j f ?_
 refine P6 ?_
 rw[T8]
 unfold A4 at h
 cases b:lk l n with
 | none=>
  rw[b] at h
  rw[Q16 b]
  simp only[Option.isSome_none,↓M1,M1,Mb,reduceIte]
  exact h
 | some c=>
  rw[b] at h
  obtain ⟨_,_,i,m,e⟩:=V3 b
  obtain ⟨a,d⟩:=List.getElem?_eq_some_iff.1 e
  obtain ⟨o,p,q,g,_⟩:=f.elC a
  rw[d] at g
  rw[m]
  simp only[Option.isSome_some,L5,↓M1,M1,Mb,reduceIte]
  refine Y1 f a ?_
  (try simp only[↓M1,M1,Mb,reduceIte])
  refine ld j g rfl ?_
  (try simp only[↓M1,M1,Mb,reduceIte])
  exact h)
theorem Q7q {r i:Int} (t:X3 w σ) (hh:D3 σ (l,room,cs) ds) (h: ∀w' σ',Stp w σ w' σ'→K (I (E2 cs r i)) w'):Q1 P F.aL [.agg ds.toArray,I r,I i] w K:=Kq (by
 obtain ⟨B,y,rfl,z,c⟩:=D3.out hh
 unfold Ly
 refine Z1 t fun q w1 σ1 a n=>?_
 have d:=a.sat
 have g:=c.up a
 refine Z0 ?_
 unfold E2 at h
 have b:M3 cs r=false→K (I 92) w1:=fun e=>by
  have:=h _ _ a
  rw[e] at this
  exact this
 by_cases m:r<0
 ·rw[decide_eq_true m]
  (try simp only[↓M1,M1,Mb,reduceIte])
  exact b (by simp only[M3,Bool.and_eq_false_iff,decide_eq_false_iff_not];left;omega)
 rw[decide_eq_false m]
 (try simp only[↓M1,M1,Mb,reduceIte])
 refine ld d n rfl ?_
 refine Q8 g ?_
 refine P6 ?_
 (try simp only[↓M1,M1,Mb,reduceIte])
 by_cases s:(cs.length:Int)≤r
 ·rw[decide_eq_true s]
  refine J5 ?_
  exact b (by simp only[M3,Bool.and_eq_false_iff,decide_eq_false_iff_not];right;omega)
 rw[decide_eq_false s]
 refine Z7 ?_
 have p:M3 cs r=true:=by simp only[M3,Bool.and_eq_true,decide_eq_true_eq];omega
 obtain ⟨j,rfl,k⟩:=D9.1 p
 rw[p,L4 k] at h
 obtain ⟨A,v,u,_⟩:=Sl.elO g k
 by_cases o:i<0
 ·rw[decide_eq_true o]
  (try simp only[↓M1,M1,Mb,reduceIte])
  have:=h _ _ a
  rw[if_pos rfl,if_neg (by omega)] at this
  exact this
 ·rw[decide_eq_false o]
  (try simp only[↓M1,M1,Mb,reduceIte])
  refine ld d n rfl ?_
  refine Y1 g k ?_
  (try simp only[↓M1,M1,Mb,reduceIte])
  refine ld d v rfl ?_
  refine Q8 u ?_
  refine P6 ?_
  (try simp only[↓M1,M1,Mb,reduceIte])
  have f:=h _ _ a
  refine Q7 (fun c=>?_) (fun c=>?_)
  ·have c:(cs[j].vals.length:Int)≤i:=by simpa using c
   rw[if_pos rfl,if_neg (by omega)] at f
   exact f
  ·have c: ¬(cs[j].vals.length:Int)≤i:=by simpa using c
   rw[if_pos rfl,if_pos (by omega)] at f
   exact f)
theorem X3r {r i:Int} (L:X3 w σ) (hh:D3 σ (l,room,cs) ds) (h: ∀w' σ',Stp w σ w' σ'→K (.tuple #[.agg [I (Hf cs r i).sort,I (Hf cs r i).n,S (Hf cs r i).s,I (Hf cs r i).ref].toArray,I (E2 cs r i)]) w'):Q1 P F.bP [.agg ds.toArray,I r,I i] w K:=Q1c (by
 have z:=hh
 obtain ⟨Y,V,rfl,W,M⟩:=D3.out hh
 unfold Ew
 refine Z1 L fun q w0 σ0 k B=>?_
 refine M8 k.sat fun b w1 σ1 N a C=>?_
 have t:=k.trans a
 have hB:=N0 N k
 have u:=B.up a
 refine Y4 a.sat u rfl ?_
 refine Q7q a.sat (W8 z ⟨t.le⟩) fun X U c=>?_
 have g:=t.trans c
 have d:=c.sat
 have v:=C.up c
 have y:=u.up c
 refine Jf ?_
 unfold Hf at h
 by_cases p:E2 cs r i=0
 ·have e:decide (E2 cs r i=0)=true:=decide_eq_true p
  rw[if_pos p,p] at h
  simp only[e,Bool.not_true,↓M1,M1,Mb,reduceIte]
  obtain ⟨j,m,rfl,rfl,A,D⟩:=Lk p
  rw[L4 A,Int.toNat_natCast] at h
  have E:=M.up g
  obtain ⟨Z,Q,H,_⟩:=Sl.elO E A
  obtain ⟨J,O⟩:=Sl.elV H D
  refine ld d y rfl ?_
  refine Y1 E A ?_
  (try simp only[↓M1,M1,Mb,reduceIte])
  refine ld d Q rfl ?_
  refine Y1 H D ?_
  refine Y4 d J rfl ?_
  refine F6 v g hB rfl rfl (Rep.one O) fun R o f=>?_
  refine V1 f rfl ?_
  have e:cs[j].vals.getD m Val.zero=cs[j].vals[m]:=by rw[List.getD_eq_getElem?_getD,List.getElem?_eq_getElem D];rfl
  rw[e] at h
  exact h _ _ o.stp
 ·have e:decide (E2 cs r i=0)=false:=by simpa using p
  rw[if_neg p] at h
  simp only[e,Bool.not_false,↓M1,M1,Mb,reduceIte]
  refine V6 (cells:= #[I 0,I 0,S [],I 0]) (by kernel_rfl) ?_
  refine F6 (ds:=[I 0,I 0,S [],I 0]) v g hB rfl rfl Rt fun R o f=>?_
  refine V1 f rfl ?_
  exact h _ _ o.stp)
theorem X3g (r:X3 w σ) (hh:D3 σ (l,room,cs) ds) (ok:Ok l) (g:l.length≤1000) {k:X0} {u:Value} {i:Nat} (t:k.length≤U1) (j:elem k=[]→i<(Y6 l k).length)
 (h: ∀w' σ',Stp w σ w' σ'→K (S (Xj l k i)) w'):Q1 P F.bE [.agg ds.toArray, .agg [S k,u].toArray,I i] w K:=Tv (by
 obtain ⟨C,y,rfl,p,B⟩:=D3.out hh
 unfold Da
 refine Z1 r fun v w0 σ0 f m=>?_
 refine Z1 f.sat fun q w1 σ1 a n=>?_
 have b:=f.trans a
 refine W0 ?_
 refine ld (i:=0) a.sat n rfl ?_
 refine X0o k (Nat.le_trans t (by decide)) ?_
 refine Zy ?_
 unfold Xj at h
 by_cases e:elem k=[]
 ·simp only[if_pos e] at h
  rw[decide_eq_true e]
  (try simp only[↓M1,M1,Mb,reduceIte])
  refine ld (i:=0) a.sat (m.up a) rfl ?_
  refine ld (i:=0) a.sat n rfl ?_
  refine Ir a.sat (p.up b) ok.acy g ok.sm fun z D A d c=>?_
  refine Y1 c (j e) ?_
  obtain ⟨o,_⟩:=c.elF (j e)
  (try simp only[↓M1,M1,Mb,reduceIte])
  refine ld d.sat o rfl ?_
  have s:(Y6 l k).getD i Fld.zero=(Y6 l k)[i]'(j e):=by rw[List.getD_eq_getElem?_getD,List.getElem?_eq_getElem (j e)];rfl
  rw[s] at h
  exact h _ _ (b.trans d)
 ·simp only[if_neg e] at h
  rw[decide_eq_false e]
  (try simp only[↓M1,M1,Mb,reduceIte])
  exact h _ _ b)
theorem X3t {ok:X0→Bool} {b d:Int} {c:X0}:P5 ok cs ⟨0,b,c,d⟩=if b=0∧c=[]∧d=0 then H7 else []:=by
 simp[P5,Val.zero]
theorem X3B {ok:X0→Bool} {b d:Int} {c:X0}:P5 ok cs ⟨1,b,c,d⟩=if c=[]∧d=0 then P7 else []:=by
 simp[P5,Val.zero]
theorem X3Q {ok:X0→Bool} {b d:Int} {c:X0}:P5 ok cs ⟨2,b,c,d⟩=if (c=[]∧d=0)∧(b=0∨b=1) then Zx else []:=by
 simp[P5,Val.zero]
theorem X3R {ok:X0→Bool} {b d:Int} {c:X0}:P5 ok cs ⟨3,b,c,d⟩=if (b=0∧d=0)∧ok c=true then O9 else []:=by
 simp[P5,Val.zero]
theorem X3Y {ok:X0→Bool} {b d:Int} {c:X0}:P5 ok cs ⟨4,b,c,d⟩=if b=0∧c=[] then D7 cs d else []:=by
 simp[P5,Val.zero]
theorem X3P {ok:X0→Bool} {a b d:Int} {c:X0} (f:a≠0) (g:a≠1) (h:a≠2) (i:a≠3) (e:a≠4):P5 ok cs ⟨a,b,c,d⟩=[]:=by
 simp[P5,Val.zero,f,g,h,i,e]
set_option maxHeartbeats 2000000 in
theorem X4c {v:Val} (hs:X3 w σ) (hh:D3 σ (l,room,cs) ds) (hb:v.s.length≤U1) (h: ∀w' σ',Stp w σ w' σ'→K (S (P5 W6 cs v)) w'):Q1 P F.c3 [.agg ds.toArray, .agg [I v.sort,I v.n,S v.s,I v.ref].toArray] w K:=Q1L (by
 obtain ⟨lv,cv,rfl,hl,hc⟩:=D3.out hh
 unfold Hp
 refine Z1 hs fun q0 w0 σ0 L y=>?_
 refine Z1 L.sat fun q w1 σ1 D t=>?_
 have f:=L.trans D
 have g:=D.sat
 have y:=y.up D
 have O:=hc.up f
 have k: ∀{U:World} {σ2:Q6} {x:X0},Stp w σ U σ2→P5 W6 cs v=x→K (S x) U:=fun hS e=>by
  have:=h _ _ hS
  rw[e] at this
  exact this
 obtain ⟨a,b,c,d⟩:=v
 simp only at hb t
 have H: ∀r,M3 cs r=false→D7 cs r=[]:=fun r e=>by unfold D7;rw[e];rfl
 refine W0 ?_
 refine ld g t rfl ?_
 refine P1 ?_
 have u: ∀{A:Value→World→Prop},(∀p:Bool,p=(decide (d=0)&&decide (c=[]))→A (.bool p) w1)→Q0 (.bool (decide (d=0))) true w1 (fieldAddr P T.g (.pointer (some q)) 2) (fun Y w=>
  Q0 (.bool (decide (d=0))) true w (Q2 P T.c Y) fun W w=>
  Q0 (.bool (decide (d=0))) true w (Q3 P .eql T.c (.tmp 11) (.const (.string ⟨#[]⟩)) W (.string ⟨#[]⟩)) fun ac w=>
  pick P (.bool (decide (d=0))) ac (.bool false) w A):=fun {A} hA=>by
  cases hd:decide (d=0) with
  | false=>(try simp only[↓M1,M1,Mb,reduceIte]);exact hA false (by simp[hd])
  | true=>
   (try simp only[↓M1,M1,Mb,reduceIte])
   refine ld g t rfl ?_
   (try simp only[↓M1,M1,Mb,reduceIte])
   exact hA _ (by simp[hd])
 refine u fun p hp=>?_
 refine Ur (fun _ w'=>Stp w σ w' σ1∧P5 W6 cs ⟨a,b,c,d⟩=[]) ?_ (fun _ d' w' hz=>k hz.1 hz.2)
 refine W0 ?_
 refine ld (i:=0) g t rfl ?_
 refine P1 ?_
 have z:(p=true)↔(c=[]∧d=0):=by rw[hp];simp[and_comm]
 have E:p=false→ ¬(c=[]∧d=0):=fun e h=>by rw[z.2 h] at e;cases e
 by_cases R:a=0
 ·subst R
  rw[X3t] at*
  rw[decide_eq_true rfl]
  refine J5 ?_
  cases o:p with
  | false=>
   (try simp only[↓M1,M1,Mb,reduceIte])
   exact ⟨f,if_neg fun e=>E o e.2⟩
  | true=>
   have C:=z.1 o
   (try simp only[↓M1,M1,Mb,reduceIte])
   refine ld g t rfl ?_
   (try simp only[↓M1,M1,Mb,reduceIte])
   by_cases m:b=0
   ·rw[decide_eq_true m]
    (try simp only[↓M1,M1,Mb,reduceIte])
    exact k f (if_pos ⟨m,C⟩)
   ·rw[decide_eq_false m]
    (try simp only[↓M1,M1,Mb,reduceIte])
    exact ⟨f,if_neg fun e=>m e.1⟩
 rw[decide_eq_false R]
 refine Z7 ?_
 refine P1 ?_
 by_cases a1:a=1
 ·subst a1
  rw[X3B] at*
  rw[decide_eq_true rfl]
  refine J5 ?_
  cases o:p with
  | false=>exact Z7 ⟨f,if_neg (E o)⟩
  | true=>exact J5 (k f (if_pos (z.1 o)))
 rw[decide_eq_false a1]
 refine Z7 ?_
 refine P1 ?_
 by_cases a2:a=2
 ·subst a2
  rw[X3Q] at*
  rw[decide_eq_true rfl]
  refine J5 ?_
  cases o:p with
  | false=>
   (try simp only[↓M1,M1,Mb,reduceIte])
   exact ⟨f,if_neg fun e=>E o e.1⟩
  | true=>
   have C:=z.1 o
   (try simp only[↓M1,M1,Mb,reduceIte])
   refine ld g t rfl ?_
   (try simp only[↓M1,M1,Mb,reduceIte])
   by_cases m:b=0
   ·rw[decide_eq_true m]
    (try simp only[↓M1,M1,Mb,reduceIte])
    exact k f (if_pos ⟨C, .inl m⟩)
   ·rw[decide_eq_false m]
    (try simp only[↓M1,M1,Mb,reduceIte])
    refine ld g t rfl ?_
    (try simp only[↓M1,M1,Mb,reduceIte])
    by_cases N:b=1
    ·rw[decide_eq_true N]
     (try simp only[↓M1,M1,Mb,reduceIte])
     exact k f (if_pos ⟨C, .inr N⟩)
    ·rw[decide_eq_false N]
     (try simp only[↓M1,M1,Mb,reduceIte])
     exact ⟨f,if_neg fun e=>e.2.elim m N⟩
 rw[decide_eq_false a2]
 refine Z7 ?_
 refine P1 ?_
 by_cases X:a=3
 ·subst X
  rw[X3R] at*
  rw[decide_eq_true rfl]
  refine J5 ?_
  refine W0 ?_
  refine ld g t rfl ?_
  refine P1 ?_
  by_cases m:b=0
  case neg=>
   rw[decide_eq_false m]
   (try simp only[↓M1,M1,Mb,reduceIte])
   exact ⟨f,if_neg fun e=>m e.1.1⟩
  rw[decide_eq_true m]
  (try simp only[↓M1,M1,Mb,reduceIte])
  refine ld g t rfl ?_
  (try simp only[↓M1,M1,Mb,reduceIte])
  by_cases B:d=0
  case neg=>
   rw[decide_eq_false B]
   (try simp only[↓M1,M1,Mb,reduceIte])
   exact ⟨f,if_neg fun e=>B e.1.2⟩
  rw[decide_eq_true B]
  (try simp only[↓M1,M1,Mb,reduceIte])
  refine ld g t rfl ?_
  refine Fq X8 ?_
  refine Q4X ?_
  by_cases c0:c.length≤4096
  case neg=>
   rw[decide_eq_false (show¬(c.length:Int)≤4096 by omega)]
   (try simp only[↓M1,M1,Mb,reduceIte])
   exact ⟨f,if_neg fun e=>c0 (by have:=e.2;simp only[W6,Bool.and_eq_true,decide_eq_true_eq] at this;exact this.1)⟩
  rw[decide_eq_true (show (c.length:Int)≤4096 by omega)]
  (try simp only[↓M1,M1,Mb,reduceIte])
  refine ld g t rfl ?_
  refine Q4i hb g fun U Q=>?_
  have J:=f.trans (Stp.of_below g Q)
  cases hv:Lib.validD c with
  | true=>
   (try simp only[↓M1,M1,Mb,reduceIte])
   exact k J (if_pos ⟨⟨m,B⟩,by simp[W6,hv,c0]⟩)
  | false=>
   (try simp only[↓M1,M1,Mb,reduceIte])
   exact ⟨J,if_neg fun e=>by have:=e.2;simp[W6,hv] at this⟩
 rw[decide_eq_false X]
 refine Z7 ?_
 refine P1 ?_
 by_cases Z:a=4
 case neg=>
  rw[decide_eq_false Z]
  exact Z7 ⟨f,X3P R a1 a2 X Z⟩
 subst Z
 rw[X3Y] at*
 rw[decide_eq_true rfl]
 refine J5 ?_
 refine W0 ?_
 refine ld g t rfl ?_
 refine P1 ?_
 by_cases m:b=0
 case neg=>
  rw[decide_eq_false m]
  (try simp only[↓M1,M1,Mb,reduceIte])
  exact ⟨f,if_neg fun e=>m e.1⟩
 rw[decide_eq_true m]
 (try simp only[↓M1,M1,Mb,reduceIte])
 refine ld g t rfl ?_
 (try simp only[↓M1,M1,Mb,reduceIte])
 by_cases c0:c=[]
 case neg=>
  rw[decide_eq_false c0]
  (try simp only[↓M1,M1,Mb,reduceIte])
  exact ⟨f,if_neg fun e=>c0 e.2⟩
 rw[decide_eq_true c0]
 (try simp only[↓M1,M1,Mb,reduceIte])
 refine ld g t rfl ?_
 refine P6 ?_
 rw[if_pos ⟨m,c0⟩] at*
 by_cases B:0≤d
 case neg=>
  rw[decide_eq_false B]
  (try simp only[↓M1,M1,Mb,reduceIte])
  exact ⟨f,H d (by simp[M3,B])⟩
 rw[decide_eq_true B]
 (try simp only[↓M1,M1,Mb,reduceIte])
 refine ld g t rfl ?_
 refine ld g y rfl ?_
 refine Q8 O ?_
 refine Z0 ?_
 (try simp only[↓M1,M1,Mb,reduceIte])
 by_cases M:d<(cs.length:Int)
 case neg=>
  rw[decide_eq_false M]
  exact Z7 ⟨f,H d (by simp[M3,M])⟩
 rw[decide_eq_true M]
 refine J5 ?_
 obtain ⟨j,rfl,V⟩:=D9.1 (show M3 cs d=true by simp[M3,B,M])
 obtain ⟨vv,p1,p2,_⟩:=Sl.elO O V
 refine ld g y rfl ?_
 refine ld g t rfl ?_
 refine Y1 O V ?_
 (try simp only[↓M1,M1,Mb,reduceIte])
 refine ld g p1 rfl ?_
 exact k f (Yx V))
end Go.Proofs.YtjdiakhipmggjaaGreatDoor

namespace Go.Emb
open Go.RowKit Go.Hm
section
variable {α : Type} {P : Program} {R R' : Q6 → α → List Value → Prop} {sz : Nat} {e : TypeId} {σ σ0 σ' : Q6} {v u : Value} {xs ys : List α} {w w0 w' : World} {K : Value → World → Prop}
theorem X0n {t B:TypeId} {r:Nat} {z:Value} {cs:List Bool} [ts:TS P t e] [tz:TZ P e sz r z] [hr:Rep R] [hr':Rep R'] (N:Stp w0 σ0 w σ) (ha:V5 w0.heap.size e sz R σ w v xs) (O:X3 w σ') (W:Sl sz R' σ' u ys) (hR: ∀x cs,R' σ' x cs→R σ x cs) (D:(z.cells.size==sz&&decide (0<sz))=true)
 (hb:(xs.length+ys.length)*r≤140737488355328) (hm:xs.length+ys.length≤9223372036854775807)
 (h: ∀d w',w.grownBy w' v.ownBlock→Stp w0 σ0 w' σ→V5 w0.heap.size e sz R σ w' d (xs++ys)→(d.ownBlock=v.ownBlock∨ ∀k,d.ownBlock=some k→w.heap.size≤k)→K d w'):X2 P .append [t,t] B cs [v,u] w K:=by
 obtain ⟨cells,y,U,h3⟩:=ha
 obtain ⟨a,m,c,rfl,Q,V,n3,n4,n5⟩:=W.cells O
 obtain ⟨i,J,L,H,p⟩:=tz.info
 have s: ∀d w',(Builtin.append_ #[t,t] B #[v, .slice a ys.length m]).run P w= .ok d w'→w'.ownsRow w0.heap.size e sz d (xs.length+ys.length) (cells++c)→w.grownBy w' v.ownBlock→(d.ownBlock=v.ownBlock∨d.ownBlock=some w.heap.size)→X2 P .append [t,t] B cs [v, .slice a ys.length m] w K:=by
  intro d w' A f n hat
  have q:(builtin .append #[t,t] B cs.toArray #[v, .slice a ys.length m]).run P w= .ok (.value d) w':=by
   simp[builtin,A]
  unfold X2
  rw[T4];unfold P2
  rw[q]
  refine h d w' n (Stp.turn n N fun k o=>⟨(y.lt k o).1,U k o⟩) ⟨cells++c,by rw[List.length_append];exact f,?_,?_⟩ ?_
  ·intro k o
   rcases hat with hat | hat
   ·exact U k (hat▸o)
   ·rw[hat] at o;cases o;exact N.sat.none (Nat.le_refl _)
  ·intro j x C
   by_cases Y:j<xs.length
   ·rw[List.getElem?_append_left Y] at C
    rw[Wr cells c xs.length j y.1 Y]
    exact h3 j x C
   ·rw[List.getElem?_append_right (by omega)] at C
    have:=hR _ _ (n5 _ _ C)
    rw[show j*sz=cells.length+(j-xs.length)*sz by rw[y.1,←Nat.add_mul];congr 1;omega,List.drop_append]
    simpa [List.drop_eq_nil_of_le] using this
  ·rcases hat with hat | hat
   ·exact .inl hat
   ·right;intro k o;rw[hat] at o;cases o;exact Nat.le_refl _
 simp only[Bool.and_eq_true,beq_iff_eq,decide_eq_true_eq] at D
 cases a with
 | some b=>
  obtain ⟨d,w',g1,g2,g3,_,g5⟩:=run_append_own_at (P:=P) w w0.heap.size t B e i z sz r ts.h J p L H D.1 D.2 v xs.length cells y b ys.length m c V (n3 b rfl) n4 (by simp only[maxLen];omega) hb N.bel.size
  exact s d w' g1 g2 g3 g5
 | none=>
  have hy:ys=[]:=List.eq_nil_of_length_eq_zero (by obtain ⟨a',X,e',q1,_,q3,_⟩:=W;injection e' with _ e2 e3;have:=Q rfl;subst e3;omega)
  have M:=Q rfl
  subst hy M
  have Z:c=[]:=List.eq_nil_of_length_eq_zero (by simpa using V)
  subst Z
  have f:=y
  rcases y.2 with ⟨rfl,h0⟩ | ⟨g,m,ab,rfl,ae,hg,E,_⟩
  ·refine s (.slice none 0 0) w ?_ (by simpa using f) (World.grownBy.refl w _) (.inl rfl)
   simp[Builtin.append_,run_underlying ts.h,sizeOf,typeInfo,J,Builtin.lenOf,Builtin.firstCells]
  ·refine s _ w ?_ (by simpa using f) (World.grownBy.refl w _) (.inl rfl)
   simp[Builtin.append_,run_underlying ts.h,sizeOf,typeInfo,J,Builtin.lenOf,Builtin.firstCells,E,storeCells]
end
def Q5Z {α:Type} (c:α) (ds:List Value) (_:Q6) (x:α) (cs:List Value):Prop:=x=c∧cs=ds∧ ∀u∈ds,u.oneCell'=true
instance {α:Type} (c:α) (ds:List Value):Rep (Q5Z c ds):=⟨fun _ h=>h,fun h u hu=>h.2.2 u (h.2.1▸hu)⟩
end Go.Emb
namespace Go.Proofs.YtjdiakhipmggjaaGreatDoor
open Go.Emb Go.RowKit Go.Kd Go.Hm
variable {w w' : World} {K : Value → World → Prop} {σ σ' : Q6} {ds : List Value} {room : Int} {cs : List Cel} {l : List Cla}
theorem Q73 {c:Value} (d:Sl 2 E5 σ c cs) (r:Int):(D7 cs r).length≤U1:=by
 unfold D7
 split
 ·rename_i b
  obtain ⟨i,rfl,a⟩:=D9.1 b
  rw[L4 a]
  exact (Sl.elO d a).choose_spec.2.2
 ·exact Nat.zero_le _
theorem X0E {b:Value} (a:Sl 2 E5 σ b cs) (v:Val):(P5 W6 cs v).length≤U1:=by
 unfold P5
 split
 ·decide
 split
 ·decide
 split
 ·decide
 split
 ·decide
 split
 ·exact Q73 a _
 ·exact Nat.zero_le _
theorem X2L {v:Val} {k:X0} (z:X3 w σ) (hh:D3 σ (Q4 l,room,cs) ds) (H:Wf l) (ok:Ok (Q4 l)) (m:(Q4 l).length≤1000) (C:v.s.length≤U1) (E:k.length≤U1) (h: ∀w' σ',Stp w σ w' σ'→K (.bool (B7 W6 (Q4 l) cs v k)) w'):Q1 P F.bz [.agg ds.toArray, .agg [I v.sort,I v.n,S v.s,I v.ref].toArray,S k] w K:=Ag (by
 have p:=hh
 obtain ⟨Q,M,rfl,y,B⟩:=D3.out hh
 unfold Oq
 refine Z1 z fun L w0 σ0 j r=>?_
 refine Z1 j.sat fun q w1 σ1 d A=>?_
 have f:=j.trans d
 have b:=d.sat
 have g:=r.up d
 refine Y4 b g rfl ?_
 refine Y4 b A rfl ?_
 refine X4c b (W8 p ⟨f.le⟩) C fun O J a=>?_
 have c:=f.trans a
 refine Zy ?_
 unfold B7 at h
 have o:=X0E B v
 generalize P5 W6 cs v=D at*
 by_cases e:D=[]
 ·rw[decide_eq_true e] at h⊢
  (try simp only[↓M1,M1,Mb,reduceIte])
  exact h _ _ c
 ·rw[decide_eq_false e] at h⊢
  (try simp only[↓M1,M1,Mb,reduceIte])
  refine ld (i:=0) a.sat (g.up a) rfl ?_
  refine X1z a.sat (y.up c) H ok m o E fun U N t=>?_
  (try simp only[↓M1,M1,Mb,reduceIte])
  exact h _ _ (c.trans t))
theorem Hv {m c:Nat} {b a:Value} {e:Int} {o:List Value} {w1:World} {σ1:Q6} (r:Stp w σ w1 σ1) (g:Y2 σ1 w1 m [b,I room,a]) (k:Y2 σ1 w1 c o) (q:o.length=3) (f:w.heap.size≤c) (n:D3 σ1 (l,room,cs) [b,I room,a]) (h: ∀w' σ',Stp w σ w' σ'→D3 σ' (l,room,cs) [b,I room,a]→K (.tuple #[.agg [b,I room,a].toArray,I e]) w'):
 Q2 P T.a (.pointer (some ⟨m,0,none⟩)) w1 fun j w=>
 X9 P T.a (.pointer (some ⟨c,0,none⟩)) j w fun _u w=>
 Y7 P T.a (.pointer (some ⟨c,0,none⟩)) w fun s=>
 K (.tuple #[s,(.int .i64 e)]) w:=
 Rv g rfl (F6 k r f q rfl (Rep.one n) fun p d i=>V1 i rfl (h p σ1 d.stp n))
set_option maxHeartbeats 1000000 in
theorem Q8N {p J b7:Nat} {Y cv x:Value} {k:X0} {vals:List Val} {zs:List Value} {w1:World} {σ1:Q6} (hS:Stp w σ w1 σ1) (W:Y2 σ1 w1 p [Y,I room,cv]) (ak:Y2 σ1 w1 J zs) (a7:Y2 σ1 w1 b7 [S k,x]) (hz:zs.length=3) (a2:w.heap.size≤p) (ao:w.heap.size≤J) (ac:p≠J) (hl:Sl 8 V0 σ1 Y l) (hc:Sl 2 E5 σ1 cv cs) (hx:Sl 4 M7 σ1 x vals) (hk:k.length≤U1) (b2:cs.length≤10000000)
 (h: ∀ag w' σ',Stp w σ w' σ'→D3 σ' (l,room,cs++[⟨k,vals⟩]) [Y,I room,ag]→K (.tuple #[.agg [Y,I room,ag].toArray,I 0]) w'):
 dr w1 fun m Q=>
 Q5 m (fun s=> ∀w,Q w→fieldAddr P T.a (.pointer (some ⟨p,0,none⟩)) 2 w (dk m s w)) fun s=>
 Q5 m (fun q=> ∀w,Q w→buildSlice P T.f 0 [] w (dk m q w)) fun q=>
 Q5 m (fun z=> ∀d w,Q w→s d w→Q2 P T.f d w (dk m z w)) fun z=>
 Q5 m (fun E=> ∀g i w,Q w→q g w→z i w→X2 P .append [T.f,T.f] T.f [false,false] [g,i] w (dk m E w)) fun E=>
 Q5 m (fun t=> ∀w,Q w→Q2 P T.m (.pointer (some ⟨b7,0,none⟩)) w (dk m t w)) fun t=>
 Q5 m (fun H=> ∀f w,Q w→t f w→buildSlice P T.f 1 [(0,f)] w (dk m H w)) fun H=>
 ∀d g i O f N w,Q w→s d w→q g w→z i w→E O w→t f w→H N w→
 X2 P .append [T.f,T.f] T.f [false,false] [O,N] w fun ba w=>
 fieldAddr P T.a (.pointer (some ⟨p,0,none⟩)) 2 w fun aq w=>
 X9 P T.f aq ba w fun _u w=>
 Q2 P T.a (.pointer (some ⟨p,0,none⟩)) w fun a5 w=>
 X9 P T.a (.pointer (some ⟨J,0,none⟩)) a5 w fun _u w=>
 Y7 P T.a (.pointer (some ⟨J,0,none⟩)) w fun r0=>
 K (.tuple #[r0,(.int .i64 0)]) w:=by
 have a9:=hS.sat
 have ah:E5 σ1 ⟨k,vals⟩ [S k,x]:=⟨x,rfl,hx,hk⟩
 have bm:x.cells= #[x]:=by obtain ⟨a,c,rfl,_⟩:=hx;rfl
 have a6: ∀{w':World} {K:Value→World→Prop},Hst w1 σ1 w' σ1→K cv w'→Q2 P T.f (.pointer (some ((⟨p,0,none⟩:Addr).add 2))) w' K:=fun L hK=>Yc (W.up L.stp) rfl hK
 have ax: ∀{w':World} {K:Value→World→Prop},Hst w1 σ1 w' σ1→K (.agg [S k,x].toArray) w'→Q2 P T.m (.pointer (some ⟨b7,0,none⟩)) w' K:=fun L hK=>Rv (a7.up L.stp) rfl hK
 refine U2 a9 ?_
 (repeat refine J0 A8 ?_)
 refine Q3b (R:=E5) (by decide) ?_
 refine J0 (V:=cv) (fun d w n e=>?_) ?_
 ·subst e;exact a6 n (O3 rfl)
 refine Q1i (w:=w1) (σ:=σ1) (R:=E5) (sz:=2) (e:=T.m) cs (fun g i w n bb av=>?_) ?_
 ·obtain ⟨k1,a1,e1⟩:=bb
  subst av
  exact X2U k1 a1 e1 (hc.up n.stp) rfl (by omega) (by omega) fun v' w' hk ha=>Q2Q n hk ha
 refine J0 (V:= .agg [S k,x].toArray) (fun w n=>?_) ?_
 ·exact ax n (O3 rfl)
 refine Uu (w:=w1) (σ:=σ1) (Φ:=fun σ' v=>Sl 2 (Q5Z (⟨k,vals⟩:Cel) [S k,x]) σ' v [⟨k,vals⟩]) (fun f w n e=>?_) ?_
 ·subst e
  refine T1 (R:=Q5Z (⟨k,vals⟩:Cel) [S k,x]) (sz:=2) n.sat [.agg [S k,x].toArray] [⟨k,vals⟩] rfl rfl (by simp[Value.cells]) rfl ⟨⟨rfl,rfl,Rep.one (R:=E5) ah⟩,trivial⟩ fun v w2 σ2 bc a3=>Hi n bc a3
 rintro d g i O f N w2 bs rfl _ rfl ⟨a0,aw⟩ rfl ⟨σ3,k3,s3⟩
 refine X0n a0 aw k3.sat s3 (fun y ds hy=>by obtain ⟨rfl,rfl,_⟩:=hy;exact ah) rfl (by simp;omega) (by simp;omega) fun v3 w3 bp a4 U _=>?_
 have hN:Stp w1 σ1 w3 σ1:=a4
 have B:=W.up hN
 have aj:=ak.up hN
 have af:=Uo U
 refine W0 ?_
 refine Uf B (by simp) af.1 af.2 fun X u4 C=>?_
 have aa:=W.lt
 have ab:V5 w1.heap.size T.m 2 E5 σ1 X v3 (cs++[⟨k,vals⟩]):=U.kp (D:=fun j=>j=p) (.of_upd u4 rfl) fun j hj e=>by have:=(U.mem j hj).1;omega
 have A:=aj.upd u4 (fun e=>ac e.symm)
 have r:Stp w σ X σ1:=u4.stp (hS.trans hN) a2 B.1
 have ai:X3 X σ1:=r.sat
 obtain ⟨σ5,s5,l5,f5,o5⟩:=(J7.of_acc ab).freeze ai
 have M: ∀j,j<w1.heap.size→σ5 j=σ1 j:=fun j hj=>o5 j fun e=>by have:=(ab.mem j e.symm).1;omega
 have ae:Y2 σ5 X p [Y,I room,v3]:=⟨(M p aa).trans C.1,C.2⟩
 have Z:Y2 σ5 X J zs:=⟨(M J ak.lt).trans A.1,A.2⟩
 have ap:Stp w σ X σ5:=⟨r.bel,s5,fun b o e=>l5.le b o (r.le b o e),fun b n=>(M b (Nat.lt_of_lt_of_le n hS.bel.size)).trans (r.old b n)⟩
 exact Hv ap ae Z hz ao ⟨Y,v3,rfl,hl.lift l5,f5⟩ fun w' σ' hk hr=>h v3 w' σ' hk hr
end Go.Proofs.YtjdiakhipmggjaaGreatDoor

namespace Go.Proofs.YtjdiakhipmggjaaGreatDoor
open Go.Emb Go.RowKit Go.Kd Go.Hm
variable {w w' : World} {K : Value → World → Prop} {σ σ' : Q6} {ds : List Value} {room : Int} {cs : List Cel} {l : List Cla}
set_option maxHeartbeats 1000000 in
theorem X0J {k:X0} (hs:X3 w σ) (hh:D3 σ (l,room,cs) ds) (ok:Ok l) (hlen:l.length≤1000) (hk:k.length≤U1) (h0:0≤W4 room cs) (h1:room≤1048576)
 (h: ∀ds' w' σ',Stp w σ w' σ'→D3 σ' (l,room,(Zr l room cs k).1) ds'→K (.tuple #[.agg ds'.toArray,I (Zr l room cs k).2]) w'):Q1 P F.bb [.agg ds.toArray,S k] w K:=Gb (by
 have hcl:=K4 cs
 obtain ⟨lv,cv,rfl,hl,hc⟩:=D3.out hh
 unfold La
 refine Dx hs fun b0 w1 σ1 hb0 hk1 hm0=>?_
 refine M8 hk1.sat fun b4 w2 σ2 hb4 hk2 hm4=>?_
 have hS2:=hk1.trans hk2
 have hB4:=N0 hb4 hk1
 have hb04:b0≠b4:=by have:=hm0.lt;omega
 have hm02:=hm0.up hk2
 have hl2:=hl.up hS2
 have hh2:=W8 hh ⟨hS2.le⟩
 unfold W4 at h0
 refine W0 ?_
 refine Yc (i:=0) hm02 rfl ?_
 refine Q9x hk2.sat hl2 ?_
 refine Wh ?_
 unfold Zr at h
 cases ho:A4 l k with
 | false=>
  rw[ho] at h
  simp only[if_pos] at h
  refine J5 ?_
  exact Hv hS2 hm02 hm4 rfl hB4 hh2 fun w' σ' hk hr=>h _ w' σ' hk hr
 | true=>
  rw[ho] at h
  simp only[Bool.true_eq_false,if_false] at h
  refine Z7 ?_
  refine W0 ?_
  refine Yc (i:=0) hm02 rfl ?_
  refine Ir hk2.sat hl2 ok.acy hlen ok.sm fun fv w3 σ3 hk3 hf=>?_
  have hS3:=hS2.trans hk3
  have hfl:=hf.max
  have hfl2:=Q0a ok.sm ok.len k
  refine Q8 hf ?_
  refine Xq ⟨by omega,by omega⟩ ?_
  refine Rv (hm02.up hk3) rfl ?_
  refine Q9i hk3.sat (W8 hh2 ⟨hk3.le⟩) (by unfold W4;exact h0) h1 fun w4 σ4 hk4=>?_
  have hk34:=hk3.trans hk4
  have hS4:=hS3.trans hk4
  have hm04:=hm02.up hk34
  have hm44:=hm4.up hk34
  have hh4:=W8 hh2 ⟨hk34.le⟩
  have hf4:=hf.up hk4
  rw[Rj]
  by_cases hg:W4 room cs<1+((Y6 l k).length:Int)
  ·rw[if_pos hg] at h
   have e:decide (1+((Y6 l k).length:Int)>W4 room cs)=true:=decide_eq_true hg
   rw[e]
   refine J5 ?_
   exact Hv hS4 hm04 hm44 rfl hB4 hh4 fun w' σ' hk hr=>h _ w' σ' hk hr
  rw[if_neg hg] at h
  have e:decide (1+((Y6 l k).length:Int)>W4 room cs)=false:=decide_eq_false hg
  rw[e]
  refine Z7 ?_
  unfold W4 at hg
  refine V6 (cells:= #[S k, .slice none 0 0]) (by kernel_rfl) ?_
  refine M8 hk4.sat fun b7 w5 σ5 hb7 hk5 hm7=>?_
  have hS5:=hS4.trans hk5
  have hB7:=N0 hb7 hS4
  refine Mn (ds:=[S k, .slice none 0 0]) hm7 rfl rfl (by rw[List.all_toArray];rfl) fun w6 u6 hm76=>?_
  have hS6:=u6.stp hS5 hB7 hm7.1
  have hb07:b0≠b7:=by have:=hm04.lt;omega
  have hb47:b4≠b7:=by have:=hm44.lt;omega
  have hm06:=(hm04.up hk5).upd u6 hb07
  have hm46:=(hm44.up hk5).upd u6 hb47
  have hf6:=(hf4.up hk5)
  have hc6:Sl 2 E5 σ5 cv cs:=hc.up hS5
  have hl6:Sl 8 V0 σ5 lv l:=hl.up hS5
  refine U0 (Y6 l k).length (fun n w'=> ∃σ' x,Stp w σ w' σ'∧SLe σ5 σ'∧Y2 σ' w' b0 [lv,I room,cv]∧Y2 σ' w' b4 _∧Y2 σ' w' b7 [S k,x]∧V5 w.heap.size T.g 4 M7 σ' w' x (((Y6 l k).take n).map fun f=>L9 f.kind)∧x.ownBlock≠some b0∧x.ownBlock≠some b4∧x.ownBlock≠some b7)
   ⟨σ5, .slice none 0 0,hS6,SLe.refl _,hm06,hm46,hm76,V5.nil,by simp[Value.ownBlock],by simp[Value.ownBlock],by simp[Value.ownBlock]⟩ fun n w7 d hn hinv=>?_
  obtain ⟨σ7,x,hS7,le7,hm07,hm47,hm77,ha7,hx0,hx4,hx7⟩:=hinv
  have hf7:=hf6.lift le7
  have hs7:=hS7.sat
  refine Q8 hf7 ?_
  refine Z0 ?_
  refine Q7 (fun hcc=>?_) (fun hcc=>?_)
  ·have hn':n<(Y6 l k).length:=by simpa using hcc
   obtain ⟨p1,r1⟩:=hf7.elF hn'
   have hrd: ∀{w':World} {K:Value→World→Prop},Hst w7 σ7 w' σ7→K x w'→Q2 P T.l (.pointer (some ((⟨b7,0,none⟩:Addr).add 1))) w' K:=fun hst hK=>Yc (hm77.up hst.stp) rfl hK
   refine U2 hs7 ?_
   (repeat (apply J0;(· intros;(repeat (rename_i hx;subst hx));(repeat' (first | (with_reducible exact O3 rfl) | (with_reducible exact R9 (Stp.bel (by (repeat (first | exact Stp.refl (by (first | assumption | exact Stp.sat (by assumption) | exact Hst.sat (by assumption))) | assumption | refine Stp.trans ?_ (by first | assumption | exact Hst.stp (by assumption)))))) rfl) | (with_reducible intro _) | (simp only[↓M2,M2,Mb,reduceIte]) | (with_reducible refine hrd au ?_) | (with_reducible show Q2 _ _ _ _ _;first | refine X7 aS aL aR ?_ | refine Y4 aS aL aR ?_ | refine ld aS aL aR ?_) | (with_reducible show indexAddr _ _ _ _ _ _;refine Y1 aL au ?_) | (with_reducible show X2 _ _ _ _ _ _ _ _;refine Q8 aL ?_) | (with_reducible show F3 _ _ _ _ _ _;refine Z9 aR ?_) | (with_reducible show pick _ _ _ _ _ _;refine M0 ?_) | (with_reducible show Q1 _ _ _ _ _;first | refine Q9N au ?_) | (apply F8;intro hh;(try simp only[hh,reduceIte,↓M2,M2,Mb,reduceIte]))));done)))
   refine Uu (w:=w7) (σ:=σ7) (Φ:=fun σ' v=>Sl 4 M7 σ' v [L9 (Y6 l k)[n].kind]) (fun t41 w hb e=>?_) ?_
   ·subst e
    exact T1 (R:=M7) (sz:=4) hb.sat [_] [L9 (Y6 l k)[n].kind] rfl rfl (by simp[Value.cells]) rfl ⟨Gx _,trivial⟩ fun v w2 σ2 hk2 hv2=>Hi hb hk2 hv2
   rintro t34 t38 t39 t35 t40 t41 t42 w8 hb8 rfl rfl rfl rfl rfl rfl ⟨σ8,hk8,s8⟩
   refine X0n (w0:=w) (hS7.trans hb8.stp) (ha7.up hb8.stp) hk8.sat s8 (fun y ds hy=>hy) rfl (by simp;omega) (by simp;omega) fun x9 w9 hg9 hS9 ha9 hat9=>?_
   have hm08:=(hm07.up hb8.stp).turn hg9 fun e=>hx0 e.symm
   have hm48:=(hm47.up hb8.stp).turn hg9 fun e=>hx4 e.symm
   have hm78:=(hm77.up hb8.stp).turn hg9 fun e=>hx7 e.symm
   have hsz:=hb8.stp.bel.size
   have hnew: ∀b,b<w7.heap.size→x.ownBlock≠some b→x9.ownBlock≠some b:=fun b hb hxb e=>by
    rcases hat9 with e2 | e2
    ·exact hxb (e2▸e)
    ·have:=e2 b e;omega
   have hsh:=Uo ha9
   refine W0 ?_
   refine Uf hm78 (by simp) hsh.1 hsh.2 fun w10 u10 hm710=>?_
   refine N3 ?_
   have hx97:=hnew b7 hm77.lt hx7
   refine Y5 hfl hn' ⟨σ7,x9,u10.stp hS9 hB7 hm78.1,le7,hm08.upd u10 hb07,hm48.upd u10 hb47,hm710,?_,hnew b0 hm07.lt hx0,hnew b4 hm47.lt hx4,hx97⟩
   have:=ha9.kp (D:=fun j=>j=b7) (.of_upd u10 rfl) fun j hj e=>hx97 (e▸hj)
   rw[List.take_add_one,List.getElem?_eq_getElem hn',List.map_append]
   exact this
  ·have hn': ¬n<(Y6 l k).length:=by simpa using hcc
   rw[List.take_of_length_le (by omega)] at ha7
   obtain ⟨σ9,hS9,hx9,le9,o9⟩:=ha7.keep hS7
   have mk: ∀{b:Nat} {zs:List Value},Y2 σ7 w7 b zs→x.ownBlock≠some b→Y2 σ9 w7 b zs:=fun hm hne=>⟨(o9 _ fun e=>hne e.symm).trans hm.1,hm.2⟩
   have le59:SLe σ5 σ9:=le7.more ⟨le9⟩
   refine Q8N hS9 (mk hm07 hx0) (mk hm47 hx4) (mk hm77 hx7) rfl hb0 hB4 hb04 (hl6.lift le59) (hc6.lift le59) hx9 hk (by omega) fun cv' w' σ' hk' hr=>h _ w' σ' hk' hr)
set_option maxHeartbeats 1000000 in
theorem X1E {k:X0} {n:Int} (hs:X3 w σ) (hh:D3 σ (l,room,cs) ds) (hk:k.length≤U1) (h0:0≤W4 room cs) (h1:room≤1048576)
 (h: ∀ds' w' σ',Stp w σ w' σ'→D3 σ' (l,room,(Zu l room cs k n).1) ds'→K (.tuple #[.agg ds'.toArray,I (Zu l room cs k n).2]) w'):Q1 P F.bk [.agg ds.toArray,S k,I n] w K:=Ij (by
 have hcl:=K4 cs
 have htn:=L8 cs
 obtain ⟨lv,cv,rfl,hl,hc⟩:=D3.out hh
 unfold Mv
 refine Dx hs fun b0 w1 σ1 hb0 hk1 hm0=>?_
 refine M8 hk1.sat fun b4 w2 σ2 hb4 hk2 hm4=>?_
 have hS2:=hk1.trans hk2
 have hB4:=N0 hb4 hk1
 have hb04:b0≠b4:=by have:=hm0.lt;omega
 have hm02:=hm0.up hk2
 have hl2:=hl.up hS2
 have hh2:=W8 hh ⟨hS2.le⟩
 unfold W4 at h0
 unfold Zu at h
 have hbad:G2 l k=false→Q2 P T.a (.pointer (some ⟨b0,0,none⟩)) w2 fun t14 w=>
  X9 P T.a (.pointer (some ⟨b4,0,none⟩)) t14 w fun _u w=>
  Y7 P T.a (.pointer (some ⟨b4,0,none⟩)) w fun r0=>
  K (.tuple #[r0,(.int .i64 91)]) w:=fun ho=>by
  rw[ho] at h
  simp only[if_pos] at h
  exact Hv hS2 hm02 hm4 rfl hB4 hh2 fun w' σ' hk hr=>h _ w' σ' hk hr
 refine P4 ?_
 by_cases hnull:k=H7
 ·rw[show decide (k=[110,117,108,108])=true from decide_eq_true hnull]
  (try simp only[O7,E1,S2,W2,W7,W9,M5,M4,H6,Bool.not_true,Bool.not_false])
  exact hbad (by simp[G2,hnull])
 rw[show decide (k=[110,117,108,108])=false from decide_eq_false hnull]
 (try simp only[O7,E1,S2,W2,W7,W9,M5,M4,H6,Bool.not_true,Bool.not_false])
 refine W0 ?_
 refine Yc (i:=0) hm02 rfl ?_
 refine Ds hk2.sat hl2 hk ?_
 refine Wh ?_
 cases hkm:N1 l k with
 | false=>
  (try simp only[O7,E1,S2,W2,W7,W9,M5,M4,H6,Bool.not_true,Bool.not_false])
  exact hbad (by simp[G2,hkm])
 | true=>
  (try simp only[O7,E1,S2,W2,W7,W9,M5,M4,H6,Bool.not_true,Bool.not_false])
  refine Ro k (Nat.le_trans hk (by decide)) ?_
  have hr:right k=true:=by
   have:=hkm
   simp only[N1,Bool.or_eq_true,Bool.and_eq_true,decide_eq_true_eq] at this
   rcases this with h1 | h1
   ·exact absurd h1 hnull
   ·exact h1.1
  have hdp:Xt k=(base k).2:=by unfold Xt;rw[if_pos hr]
  have hel:G2 l k=decide ((base k).2≤2):=by
   unfold G2;rw[hkm,decide_eq_false hnull,hdp];rfl
  refine Q1x ?_
  by_cases hd2:(2:Int)<((base k).2:Int)
  ·rw[decide_eq_true hd2]
   refine J5 ?_
   exact hbad (by rw[hel,decide_eq_false_iff_not];omega)
  rw[decide_eq_false hd2]
  refine Z7 ?_
  have ho:G2 l k=true:=by rw[hel,decide_eq_true_eq];omega
  rw[ho] at h
  simp only[Bool.true_eq_false,if_false] at h
  refine Z0 ?_
  by_cases hn0:n<0
  ·rw[if_pos hn0] at h
   rw[decide_eq_true hn0]
   refine J5 ?_
   exact Hv hS2 hm02 hm4 rfl hB4 hh2 fun w' σ' hk hr=>h _ w' σ' hk hr
  rw[if_neg hn0] at h
  rw[decide_eq_false hn0]
  refine Z7 ?_
  refine Q1x ?_
  have hbad2: ∀{w3 σ3},Stp w2 σ2 w3 σ3→W4 room cs≤n→Q2 P T.a (.pointer (some ⟨b0,0,none⟩)) w3 fun t14 w=>
   X9 P T.a (.pointer (some ⟨b4,0,none⟩)) t14 w fun _u w=>
   Y7 P T.a (.pointer (some ⟨b4,0,none⟩)) w fun r0=>
   K (.tuple #[r0,(.int .i64 90)]) w:=fun {w3 σ3} hS hle=>by
   rw[if_pos hle] at h
   exact Hv (hS2.trans hS) (hm02.up hS) (hm4.up hS) rfl hB4 (W8 hh2 ⟨hS.le⟩) fun w' σ' hk hr=>h _ w' σ' hk hr
  by_cases hbig:(1048576:Int)<n
  ·rw[decide_eq_true hbig]
   (try simp only[O7,E1,S2,W2,W7,W9,M5,M4,H6,Bool.not_true,Bool.not_false])
   exact hbad2 (Stp.refl hk2.sat) (by unfold W4;omega)
  rw[decide_eq_false hbig]
  (try simp only[O7,E1,S2,W2,W7,W9,M5,M4,H6,Bool.not_true,Bool.not_false])
  refine Xq ⟨by omega,by omega⟩ ?_
  refine Rv hm02 rfl ?_
  refine Q9i hk2.sat hh2 (by unfold W4;exact h0) h1 fun w4 σ4 hk4=>?_
  rw[Rj]
  by_cases hg:W4 room cs≤n
  ·rw[show decide (1+n>W4 room cs)=true from decide_eq_true (by omega)]
   refine J5 ?_
   exact hbad2 hk4 hg
  rw[if_neg hg] at h
  rw[show decide (1+n>W4 room cs)=false from decide_eq_false (by omega)]
  refine Z7 ?_
  have hS4:=hS2.trans hk4
  have hm04:=hm02.up hk4
  have hm44:=hm4.up hk4
  obtain ⟨m,rfl⟩:=Int.eq_ofNat_of_zero_le (Int.not_lt.1 hn0)
  rw[Int.toNat_natCast] at h
  unfold W4 at hg
  have hr38:=Gy hr
  refine Re (by simp only[List.length_cons,List.length_nil];omega) ?_
  refine V6 (cells:= #[S (k++[91,93]), .slice none 0 0]) (by kernel_rfl) ?_
  refine M8 hk4.sat fun b7 w5 σ5 hb7 hk5 hm7=>?_
  have hS5:=hS4.trans hk5
  have hB7:=N0 hb7 hS4
  refine Mn (ds:=[S (k++[91,93]), .slice none 0 0]) hm7 rfl rfl (by rw[List.all_toArray];rfl) fun w6 u6 hm76=>?_
  have hS6:=u6.stp hS5 hB7 hm7.1
  have hb07:b0≠b7:=by have:=hm04.lt;omega
  have hb47:b4≠b7:=by have:=hm44.lt;omega
  have hm06:=(hm04.up hk5).upd u6 hb07
  have hm46:=(hm44.up hk5).upd u6 hb47
  have hc6:Sl 2 E5 σ5 cv cs:=hc.up hS5
  have hl6:Sl 8 V0 σ5 lv l:=hl.up hS5
  refine U0 m (fun n w'=> ∃σ' x,Stp w σ w' σ'∧SLe σ5 σ'∧Y2 σ' w' b0 [lv,I room,cv]∧Y2 σ' w' b4 _∧Y2 σ' w' b7 [S (k++[91,93]),x]∧V5 w.heap.size T.g 4 M7 σ' w' x (List.replicate n (L9 k))∧x.ownBlock≠some b0∧x.ownBlock≠some b4∧x.ownBlock≠some b7)
   ⟨σ5, .slice none 0 0,hS6,SLe.refl _,hm06,hm46,hm76,V5.nil,by simp[Value.ownBlock],by simp[Value.ownBlock],by simp[Value.ownBlock]⟩ fun n w7 d hn hinv=>?_
  obtain ⟨σ7,x,hS7,le7,hm07,hm47,hm77,ha7,hx0,hx4,hx7⟩:=hinv
  have hs7:=hS7.sat
  refine Z0 ?_
  refine Q7 (fun hcc=>?_) (fun hcc=>?_)
  ·have hn':n<m:=by simpa using hcc
   have hrd: ∀{w':World} {K:Value→World→Prop},Hst w7 σ7 w' σ7→K x w'→Q2 P T.l (.pointer (some ((⟨b7,0,none⟩:Addr).add 1))) w' K:=fun hst hK=>Yc (hm77.up hst.stp) rfl hK
   refine U2 hs7 ?_
   (repeat (apply J0;(· intros;(repeat (rename_i hx;subst hx));(repeat' (first | (with_reducible exact O3 rfl) | (with_reducible exact R9 (Stp.bel (by (repeat (first | exact Stp.refl (by (first | assumption | exact Stp.sat (by assumption) | exact Hst.sat (by assumption))) | assumption | refine Stp.trans ?_ (by first | assumption | exact Hst.stp (by assumption)))))) rfl) | (with_reducible intro _) | (simp only[↓M2,M2,Mb,reduceIte]) | (with_reducible refine hrd au ?_) | (with_reducible show Q2 _ _ _ _ _;first | refine X7 aS aL aR ?_ | refine Y4 aS aL aR ?_ | refine ld aS aL aR ?_) | (with_reducible show indexAddr _ _ _ _ _ _;refine Y1 aL au ?_) | (with_reducible show X2 _ _ _ _ _ _ _ _;refine Q8 aL ?_) | (with_reducible show F3 _ _ _ _ _ _;refine Z9 aR ?_) | (with_reducible show pick _ _ _ _ _ _;refine M0 ?_) | (with_reducible show Q1 _ _ _ _ _;first | refine Q9N au ?_) | (apply F8;intro hh;(try simp only[hh,reduceIte,↓M2,M2,Mb,reduceIte]))));done)))
   refine Uu (w:=w7) (σ:=σ7) (Φ:=fun σ' v=>Sl 4 M7 σ' v [L9 k]) (fun t41 w hb e=>?_) ?_
   ·subst e
    exact T1 (R:=M7) (sz:=4) hb.sat [_] [L9 k] rfl rfl (by simp[Value.cells]) rfl ⟨Gx _,trivial⟩ fun v w2 σ2 hk2 hv2=>Hi hb hk2 hv2
   rintro t46 t47 t49 t50 w8 hb8 rfl rfl rfl ⟨σ8,hk8,s8⟩
   refine X0n (w0:=w) (hS7.trans hb8.stp) (ha7.up hb8.stp) hk8.sat s8 (fun y ds hy=>hy) rfl (by simp;omega) (by simp;omega) fun x9 w9 hg9 hS9 ha9 hat9=>?_
   have hm08:=(hm07.up hb8.stp).turn hg9 fun e=>hx0 e.symm
   have hm48:=(hm47.up hb8.stp).turn hg9 fun e=>hx4 e.symm
   have hm78:=(hm77.up hb8.stp).turn hg9 fun e=>hx7 e.symm
   have hsz:=hb8.stp.bel.size
   have hnew: ∀b,b<w7.heap.size→x.ownBlock≠some b→x9.ownBlock≠some b:=fun b hb hxb e=>by
    rcases hat9 with e2 | e2
    ·exact hxb (e2▸e)
    ·have:=e2 b e;omega
   have hsh:=Uo ha9
   refine W0 ?_
   refine Uf hm78 (by simp) hsh.1 hsh.2 fun w10 u10 hm710=>?_
   refine N3 ?_
   have hx97:=hnew b7 hm77.lt hx7
   refine Y5 (by omega) hn' ⟨σ7,x9,u10.stp hS9 hB7 hm78.1,le7,hm08.upd u10 hb07,hm48.upd u10 hb47,hm710,?_,hnew b0 hm07.lt hx0,hnew b4 hm47.lt hx4,hx97⟩
   have:=ha9.kp (D:=fun j=>j=b7) (.of_upd u10 rfl) fun j hj e=>hx97 (e▸hj)
   rw[List.replicate_succ']
   exact this
  ·have hn': ¬n<m:=by simpa using hcc
   have hnm:n=m:=by omega
   subst hnm
   obtain ⟨σ9,hS9,hx9,le9,o9⟩:=ha7.keep hS7
   have mk: ∀{b:Nat} {zs:List Value},Y2 σ7 w7 b zs→x.ownBlock≠some b→Y2 σ9 w7 b zs:=fun hm hne=>⟨(o9 _ fun e=>hne e.symm).trans hm.1,hm.2⟩
   have le59:SLe σ5 σ9:=le7.more ⟨le9⟩
   refine Q8N hS9 (mk hm07 hx0) (mk hm47 hx4) (mk hm77 hx7) rfl hb0 hB4 hb04 (hl6.lift le59) (hc6.lift le59) hx9 (Nat.le_trans (show (k++[91,93]).length≤40 by simp only[List.length_append,List.length_cons,List.length_nil];omega) (by decide)) (by omega) fun cv' w' σ' hk' hr=>h _ w' σ' hk' hr)
end Go.Proofs.YtjdiakhipmggjaaGreatDoor

namespace Go.Emb
open Go.RowKit Go.Hm
section
variable {α : Type} {P : Program} {R : Q6 → α → List Value → Prop} {B sz : Nat} {e : TypeId} {σ σ0 : Q6} {v u : Value} {xs : List α} {w w0 w' : World} {K : Value → World → Prop}
theorem X1o {t:TypeId} {b:Nat} {z:Value} [TS P t e] [TZ P e sz b z] (h:J7 B e sz R σ w v xs) {n:Nat} (m:n<xs.length) (f:K (.pointer (some (Vo sz v n))) w):indexAddr P t v (I n) w K:=by
 obtain ⟨a,d,rfl,o,p,c,k⟩:=h
 obtain ⟨g,j,i,rfl,q⟩:=k (by omega)
 rw[Eb (by omega) (by omega)]
 simpa [Vo] using f
theorem J7.elQ (h:J7 B e sz R σ w v xs) {n:Nat} (i:n<xs.length): ∃cs,cs.length=sz∧R σ xs[n] cs∧ ∀j u,cs[j]? =some u→w.cell? ((Vo sz v n).add j)=some u:=by
 obtain ⟨a,c,rfl,t,r,o,m⟩:=h
 obtain ⟨g,b,f,rfl,s,y,k,q,p⟩:=m (by omega)
 have hh:n*sz+sz≤c*sz:=by rw[←Nat.succ_mul];exact Nat.mul_le_mul_right _ (by omega)
 refine ⟨(f.toList.drop (b+n*sz)).take sz,by rw[List.length_take,List.length_drop,Array.length_toList];omega,p n _ (by simp[i]),fun j u d=>?_⟩
 rw[List.getElem?_take] at d
 split at d
 ·rw[List.getElem?_drop] at d
  have e:Vo sz (.slice (some ⟨g,b,none⟩) xs.length c) n=(⟨g,b,none⟩:Addr).add (n*sz):=rfl
  rw[e]
  unfold World.cell?
  rw[S9,S9,Qg,Qg,I6 (I6 rfl _)]
  simp only[k]
  simpa using d
 ·cases d
theorem X47 {t:TypeId} {c:Nat} {z:Value} [tz:TZ P t 1 c z] {b i:Nat} {cs:List Value} {v:Value} (d:w.heap[b]? =some (.cells cs.toArray e (0,0))) (f:i<cs.length) (j:v.cells= #[v]) (k:v.oneCell'=true)
 (h: ∀w',Upd w b w'→w'.heap[b]? =some (.cells (cs.set i v).toArray e (0,0))→K undef w'):X9 P t (.pointer (some ((⟨b,0,none⟩:Addr).add i))) v w K:=by
 unfold X9
 have a:(⟨b,0,none⟩:Addr).add i=⟨b,i,none⟩:=by unfold Addr.add;split<;>simp_all
 have:=run_storeCells_at P b i e [v] 0 cs.toArray w d (by simp;omega) (by simpa using k)
 simp only[Nat.add_zero] at this
 obtain ⟨g,hh⟩:=Yi (cs:=(cs.set i v).toArray) d
 have m:(List.take i cs.toArray.toList++[v]++List.drop (i+[v].length) cs.toArray.toList).toArray=(cs.set i v).toArray:=by
  rw[←Q3X f];simp
 rw[m] at this
 rw[Uw (w':=w.setRow b (cs.set i v).toArray) (by simp[Instr.storeAt,Instr.sureAddr,a,storeVar,W5 tz,j,this])]
 exact h _ g hh
theorem X2S {t:TypeId} {A n c:Nat} {z:Value} {x:α} [tz:TZ P t 1 A z] (hS:Stp w0 σ0 w σ) (U:J7 w0.heap.size e sz R σ w v xs) (hn:n<xs.length) (hc:c<sz) (X:u.cells= #[u]) (Z:u.oneCell'=true) (N: ∀cs,cs.length=sz→R σ xs[n] cs→R σ x (cs.set c u))
 (h: ∀w',Kpt (fun k=>v.ownBlock=some k) w w'→Stp w0 σ0 w' σ→J7 w0.heap.size e sz R σ w' v (xs.set n x)→K undef w'):X9 P t (.pointer (some ((Vo sz v n).add c))) u w K:=by
 obtain ⟨a,f,rfl,Y,O,i,M⟩:=U
 obtain ⟨g,d,o,rfl,H,D,E,q4,J⟩:=M (by omega)
 have hh:n*sz+sz≤f*sz:=by rw[←Nat.succ_mul];exact Nat.mul_le_mul_right _ (by omega)
 have hm:Y2 σ w g o.toList:=⟨D,e,by simpa using E⟩
 have W:=Array.length_toList (xs:=o)
 have ea:(Vo sz (.slice (some ⟨g,d,none⟩) xs.length f) n).add c=(⟨g,0,none⟩:Addr).add (d+n*sz+c):=by
  simp only[Vo,Q3E]
  unfold Addr.add
  split<;>split<;>simp_all<;>omega
 rw[ea]
 refine X47 (e:=e) (by simpa using E) (by omega) X Z fun w' s Q=>?_
 refine h w' (Kpt.of_upd s rfl) (s.stp hS H D) ⟨_,f,by rw[List.length_set],by rw[List.length_set];exact Y,O,fun b q=>⟨(i b q).1,(i b q).2.1,by rw[s.size];exact (i b q).2.2.1,(i b q).2.2.2⟩,fun _=>⟨g,d,_,rfl,H,D,Q,by simp;omega,fun j y p=>?_⟩⟩
 rw[List.toList_toArray]
 have m:j<xs.length:=by have:=(List.getElem?_eq_some_iff.1 p).1;simpa using this
 have V:j*sz+sz≤f*sz:=by rw[←Nat.succ_mul];exact Nat.mul_le_mul_right _ (by omega)
 rw[List.drop_set]
 by_cases L:j=n
 ·subst L
  rw[List.getElem?_set_self m] at p
  cases p
  rw[if_neg (by omega),List.take_set,show d+j*sz+c-(d+j*sz)=c by omega]
  exact N _ (by rw[List.length_take,List.length_drop];omega) (J j _ (by simp[m]))
 ·rw[List.getElem?_set_ne (by omega)] at p
  have:=J j y p
  rcases Nat.lt_or_gt_of_ne L with r | hgt
  ·have C:j*sz+sz≤n*sz:=by rw[←Nat.succ_mul];exact Nat.mul_le_mul_right _ r
   rw[if_neg (by omega),List.take_set,List.set_eq_of_length_le (by rw[List.length_take];omega)]
   exact this
  ·have C:n*sz+sz≤j*sz:=by rw[←Nat.succ_mul];exact Nat.mul_le_mul_right _ hgt
   rw[if_pos (by omega)]
   exact this
end
end Go.Emb
namespace Go.Proofs.YtjdiakhipmggjaaGreatDoor
open Go.Emb Go.RowKit Go.Kd Go.Hm
variable {w w' : World} {K : Value → World → Prop} {σ σ' : Q6} {ds : List Value} {room : Int} {cs : List Cel} {l : List Cla}
theorem Q5I (d:Y8 cs≤1048576) {j:Nat} (a:j<cs.length):(cs[j].vals.length:Int)≤1048576:=by
 have e:Y8 cs=Y8 (cs.take j)+Y8 (cs.drop j):=by rw[←T5,List.take_append_drop]
 have f:Y8 (cs.drop j)=(1+(cs[j].vals.length:Int))+Y8 (cs.drop (j+1)):=by
  rw[List.drop_eq_getElem_cons a];simp only[Y8,List.map_cons,List.sum_cons]
 have c:=L8 (cs.take j)
 have b:=L8 (cs.drop (j+1))
 omega
theorem X3E {d k:Nat} {p cv x:Value} {n:List Cel} {U:List Value} {w0 w1:World} {σ0 σ1:Q6} (hS:Stp w σ w0 σ0) (V:Stp w0 σ0 w1 σ1) (A:Y2 σ1 w1 d [p,I room,cv]) (Q:Y2 σ1 w1 k U) (hz:U.length=3) (L:d<w0.heap.size) (N:k<w0.heap.size) (X:w.heap.size≤d) (H:w.heap.size≤k) (z:d≠k) (hl:Sl 8 V0 σ1 p l) (J:J7 w0.heap.size T.m 2 E5 σ1 w1 x n)
 (h: ∀t w' σ',Stp w σ w' σ'→D3 σ' (l,room,n) [p,I room,t]→K (.tuple #[.agg [p,I room,t].toArray,I 0]) w'):
 X9 P T.f (.pointer (some ((⟨d,0,none⟩:Addr).add 2))) x w1 fun _u w=>
 Q2 P T.a (.pointer (some ⟨d,0,none⟩)) w fun O w=>
 X9 P T.a (.pointer (some ⟨k,0,none⟩)) O w fun _u w=>
 Y7 P T.a (.pointer (some ⟨k,0,none⟩)) w fun r0=>
 K (.tuple #[r0,(.int .i64 0)]) w:=by
 have r:x.cells= #[x]∧x.oneCell'=true:=by obtain ⟨a,c,rfl,_⟩:=J;exact ⟨rfl,rfl⟩
 refine Uf A (by simp) r.1 r.2 fun C W g=>?_
 have y:J7 w0.heap.size T.m 2 E5 σ1 C x n:=J.kp (D:=fun j=>j=d) (.of_upd W rfl) fun j Y e=>by have:=(J.mem Y).1;omega
 have i:=Q.upd W (fun e=>z e.symm)
 have f:Stp w σ C σ1:=W.stp (hS.trans V) X A.1
 obtain ⟨E,s5,l5,f5,o5⟩:=y.freeze f.sat
 have m: ∀j,j<w0.heap.size→E j=σ1 j:=fun j Y=>o5 j fun e=>by have:=(y.mem e.symm).1;omega
 have q:Y2 E C d [p,I room,x]:=⟨(m d L).trans g.1,g.2⟩
 have s:Y2 E C k U:=⟨(m k N).trans i.1,i.2⟩
 have M:Stp w σ C E:=⟨f.bel,s5,fun b o e=>l5.le b o (f.le b o e),fun b Z=>(m b (Nat.lt_of_lt_of_le Z hS.bel.size)).trans (f.old b Z)⟩
 exact Hv M q s hz H ⟨p,x,rfl,hl.lift l5,f5⟩ fun w' σ' V hr=>h x w' σ' V hr
set_option maxHeartbeats 2000000 in
theorem X41 {r i:Int} {v:Val} (hs:X3 w σ) (hh:D3 σ (Q4 l,room,cs) ds) (wf:Wf l) (ok:Ok (Q4 l)) (hlen:(Q4 l).length≤1000) (good: ∀c∈cs,GoodC W6 (Q4 l) cs c) (hl1:Y8 cs≤1048576) (hv:M7 σ v [I v.sort,I v.n,S v.s,I v.ref])
 (h: ∀ds' w' σ',Stp w σ w' σ'→D3 σ' (Q4 l,room,(H5 W6 (Q4 l) cs r i v).1) ds'→K (.tuple #[.agg ds'.toArray,I (H5 W6 (Q4 l) cs r i v).2]) w'):Q1 P F.bO [.agg ds.toArray,I r,I i, .agg [I v.sort,I v.n,S v.s,I v.ref].toArray] w K:=Q15 (by
 have hcl:=K4 cs
 obtain ⟨lv,cv,rfl,hl,hc⟩:=D3.out hh
 unfold Ha
 refine Dx hs fun b0 w1 σ1 hb0 hk1 hm0=>?_
 refine Z1 hk1.sat fun q w2 σ2 hk2 hq=>?_
 have hS2:=hk1.trans hk2
 refine M8 hk2.sat fun b4 w3 σ3 hb4 hk3 hm4=>?_
 have hS3:=hS2.trans hk3
 have hB4:=N0 hb4 hS2
 have hm02:=hm0.up hk2
 have hb04:b0≠b4:=by have:=hm02.lt;omega
 have hm03:=hm02.up hk3
 have hh3:=W8 hh ⟨hS3.le⟩
 have hq3:=hq.up hk3
 refine Rv hm03 rfl ?_
 refine Q7q hk3.sat hh3 fun w4 σ4 hk4=>?_
 have hS4:=hS3.trans hk4
 have hm04:=hm03.up hk4
 have hm44:=hm4.up hk4
 have hh4:=W8 hh3 ⟨hk4.le⟩
 have hq4:=hq3.up hk4
 unfold H5 at h
 refine Jf ?_
 by_cases h0:E2 cs r i=0
 case neg=>
  rw[decide_eq_false h0]
  rw[if_pos h0] at h
  refine J5 ?_
  exact Hv hS4 hm04 hm44 rfl hB4 hh4 fun w' σ' hk hr=>h _ w' σ' hk hr
 rw[decide_eq_true h0]
 rw[if_neg (fun hn=>hn h0)] at h
 refine Z7 ?_
 obtain ⟨j,m,rfl,rfl,hj,hm⟩:=Lk h0
 rw[L4 hj,Int.toNat_natCast] at h
 have hc4:=hc.up hS4
 obtain ⟨vv,p1,p2,p3⟩:=Sl.elO hc4 hj
 have hgc:=good cs[j] (List.getElem_mem hj)
 have hif:elem cs[j].kind=[]→m<(Y6 (Q4 l) cs[j].kind).length:=fun e=>by
  rcases hgc.is with h | h
  ·exact absurd e h
  ·rw[←h.2];exact hm
 have hs4:=hk4.sat
 have hr0: ∀{w':World} {K:Value→World→Prop},Hst w4 σ4 w' σ4→K (.agg [lv,I room,cv].toArray) w'→Q2 P T.a (.pointer (some ⟨b0,0,none⟩)) w' K:=fun hst hK=>Rv (hm04.up hst.stp) rfl hK
 have hr1: ∀{w':World} {K:Value→World→Prop},Hst w4 σ4 w' σ4→K cv w'→Q2 P T.f (.pointer (some ((⟨b0,0,none⟩:Addr).add 2))) w' K:=fun hst hK=>Yc (hm04.up hst.stp) rfl hK
 refine U2 hs4 ?_
 (repeat (apply J0;(· intros;(repeat (rename_i hx;subst hx));(repeat' (first | (with_reducible exact O3 rfl) | (with_reducible exact R9 (Stp.bel (by (repeat (first | exact Stp.refl (by (first | assumption | exact Stp.sat (by assumption) | exact Hst.sat (by assumption))) | assumption | refine Stp.trans ?_ (by first | assumption | exact Hst.stp (by assumption)))))) rfl) | (with_reducible intro _) | (simp only[↓M2,M2,Mb,reduceIte]) | (with_reducible refine hr0 au ?_) | (with_reducible refine hr1 au ?_) | (with_reducible show Q2 _ _ _ _ _;first | refine X7 aS aL aR ?_ | refine Y4 aS aL aR ?_ | refine ld aS aL aR ?_) | (with_reducible show indexAddr _ _ _ _ _ _;refine Y1 aL au ?_) | (with_reducible show X2 _ _ _ _ _ _ _ _;refine Q8 aL ?_) | (with_reducible show F3 _ _ _ _ _ _;refine Z9 aR ?_) | (with_reducible show pick _ _ _ _ _ _;refine M0 ?_) | (with_reducible show Q1 _ _ _ _ _;first | refine X3g au au au au au au ?_) | (apply F8;intro hh;(try simp only[hh,reduceIte,↓M2,M2,Mb,reduceIte]))));done)))
 (intros;(repeat (rename_i hx;subst hx)))
 rename_i w5 hb5
 have hS5:=hS4.trans hb5.stp
 refine X2L hb5.sat hh4 wf ok hlen hv.2.2.2.1 (Q2G ok p3 m) fun wA σA hkA=>?_
 have hk4A:=hb5.stp.trans hkA
 have hSA:=hS4.trans hk4A
 have hm0A:=hm04.up hk4A
 have hm4A:=hm44.up hk4A
 have hhA:=W8 hh4 ⟨hk4A.le⟩
 have hqA:=hq4.up hk4A
 have hsA:=hkA.sat
 refine Wh ?_
 cases hf:B7 W6 (Q4 l) cs v (Xj (Q4 l) cs[j].kind m) with
 | false=>
  rw[hf] at h
  simp only[Bool.false_eq_true,if_false] at h
  refine J5 ?_
  exact Hv hSA hm0A hm4A rfl hB4 hhA fun w' σ' hk hr=>h _ w' σ' hk hr
 | true=>
  rw[hf] at h
  simp only[if_true] at h
  refine Z7 ?_
  have hcA:=hc.up hSA
  have hlA:=hl.up hSA
  have hvl:=Q5I hl1 hj
  refine Eh (R:=E5) (e:=T.m) (Stp.refl hsA) (by decide) fun x1 wA1 hkA1 ha1 _=>?_
  refine W0 ?_
  refine Yc (hm0A.up hkA1) rfl ?_
  refine Wk hkA1 ha1 (hcA.up hkA1) rfl (by simp;omega) (by simp;omega) fun x2 wB _ hkB ha2 _=>?_
  rw[List.nil_append] at ha2
  have hsB:=hkB.sat
  refine Eh (R:=M7) (e:=T.g) (Stp.refl hsB) (by decide) fun y1 wB1 hkB1 hy1 _=>?_
  have hq2:=J7.of_acc (ha2.up hkB1)
  refine X1o hq2 hj ?_
  obtain ⟨cs5,hl5,⟨vv5,rfl,p5,_⟩,hcell⟩:=hq2.elQ hj
  refine W0 ?_
  refine Qf (hcell 1 vv5 rfl) ?_
  refine Wk hkB1 hy1 p5 rfl (by simp;omega) (by simp;omega) fun y2 wB2 _ hkB2 hy2 _=>?_
  rw[List.nil_append] at hy2
  refine Y4 hkB2.sat ((hqA.up hkB).up hkB2) rfl ?_
  refine Q1p (x:=v) hkB2 (J7.of_acc hy2) hm rfl (show M7 σA v _ from hv) (Rep.one (R:=M7) (σ:=σA) hv) fun p u w6 _ hb6 hy6=>?_
  obtain ⟨σ7,hk7,hs7,le7,_⟩:=hy6.keep hb6.stp
  have hkA7:=hkB.trans hk7
  have hq7:=J7.of_acc (ha2.up hk7)
  refine X1o hq7 hj ?_
  refine W0 ?_
  have hysh:y2.cells= #[y2]∧y2.oneCell'=true:=Uo hy2
  refine X2S (x:=(⟨cs[j].kind,cs[j].vals.set m v⟩:Cel)) hkA7 hq7 hj (by decide) hysh.1 hysh.2 (fun es _ hes=>by
   obtain ⟨v0,rfl,_,hkl⟩:=hes
   exact ⟨y2,rfl,hs7,hkl⟩) fun w8 _ hk8 hq8=>?_
  refine W0 ?_
  have hsv:F0 cs j m v=cs.set j ⟨cs[j].kind,cs[j].vals.set m v⟩:=by unfold F0;rw[L4 hj,Int.toNat_natCast,Int.toNat_natCast]
  rw[hsv] at h
  exact X3E hSA hk8 (hm0A.up hk8) (hm4A.up hk8) rfl hm0A.lt hm4A.lt hb0 hB4 hb04 (hlA.up hk8) hq8 fun cv' w' σ' hk hr=>h _ w' σ' hk hr)
end Go.Proofs.YtjdiakhipmggjaaGreatDoor

namespace Go.Proofs.YtjdiakhipmggjaaGreatDoor
open Go.Emb Go.RowKit Go.Kd Go.Hm
variable {w w' : World} {K : Value → World → Prop} {σ σ' : Q6} {ds : List Value} {room : Int} {cs : List Cel} {l : List Cla}
theorem Q5X {k c:Nat} {b a:Value} {n:List Value} {w1:World} {σ1:Q6} (q:Stp w σ w1 σ1) (f:Y2 σ1 w1 k [b,I room,a]) (j:Y2 σ1 w1 c n) (p:n.length=3) (e:w.heap.size≤c) (m:D3 σ1 (l,room,cs) [b,I room,a]) (h: ∀w' σ',Stp w σ w' σ'→D3 σ' (l,room,cs) [b,I room,a]→K (.agg [b,I room,a].toArray) w'):
 Q2 P T.a (.pointer (some ⟨k,0,none⟩)) w1 fun i w=>
 X9 P T.a (.pointer (some ⟨c,0,none⟩)) i w fun _u w=>
 Y7 P T.a (.pointer (some ⟨c,0,none⟩)) w fun r=>
 K r w:=
 Rv f rfl (F6 j q e p rfl (Rep.one m) fun o d g=>V1 g rfl (h o σ1 d.stp m))
set_option maxHeartbeats 2000000 in
theorem X3L {n:Int} (hs:X3 w σ) (hh:D3 σ (l,room,cs) ds) (be:Y8 cs≤1048576) (hn:Yy n)
 (h: ∀ak w' σ',Stp w σ w' σ'→D3 σ' (l,room,Py cs n) ak→K (.agg ak.toArray) w'):Q1 P F.bQ [.agg ds.toArray,I n] w K:=Q0l (by
 have b7:=K4 cs
 obtain ⟨lv,cv,rfl,hl,hc⟩:=D3.out hh
 unfold Ej
 refine Dx hs fun U w1 σ1 bk aa av=>?_
 refine M8 aa.sat fun b4 w2 σ2 bn ac C=>?_
 have bc:=aa.trans ac
 have Y:=N0 bn aa
 have ag:U≠b4:=by have:=av.lt;omega
 have am:=av.up ac
 have a0:=ac.sat
 refine Ur (fun z w'=>z=I (max n 0)∧w'=w2) ?_ ?_
 ·refine Z0 ?_
  by_cases e:n<0
  ·rw[decide_eq_true e]
   exact J5 ⟨by rw[show max n 0=0 by omega],rfl⟩
  ·rw[decide_eq_false e]
   exact Z7 ⟨by rw[show max n 0=n by omega],rfl⟩
 rintro z d0 w3 ⟨rfl,rfl⟩
 unfold Py at h
 obtain ⟨m,af⟩:=Int.eq_ofNat_of_zero_le (show 0≤max n 0 by omega)
 rw[af,Int.toNat_natCast] at h
 rw[af]
 have cc:(m:Int)≤9223372036854775807:=by have:=hn.2;omega
 refine U0 (min m cs.length) (fun i w'=> ∃σ',Stp w3 σ2 w' σ'∧(cs.take i).any (fun c=>c.vals.any (G0 m))=false) ⟨σ2,Stp.refl a0,rfl⟩ fun i w4 d hi y=>?_
 obtain ⟨σ4,q,X⟩:=y
 have a:=am.up q
 have s:=bc.trans q
 have J:=hc.up s
 refine Z0 ?_
 have W: ¬i<min m cs.length→(cs.take m).any (fun c=>c.vals.any (G0 m))=false∧(m<cs.length→i=m):=fun aq=>by
  by_cases a6:m≤cs.length
  ·have:i=m:=by omega
   subst this;exact ⟨X,fun _=>rfl⟩
  ·have e:cs.take m=cs.take i:=by rw[List.take_of_length_le (by omega),List.take_of_length_le (by omega)]
   rw[e];exact ⟨X,fun h=>by omega⟩
 have M: ¬i<min m cs.length→jn (α:=Unit) w4 (fun ao w=>
  fieldAddr P T.a (.pointer (some ⟨U,0,none⟩)) 2 w fun a9 w=>
  Q2 P T.f a9 w fun a7 w=>
  X2 P .len [T.f] T.e [false] [a7] w fun a3 w=>
  Q3 P .lss T.e (.tmp 52) (.tmp 55) (I (m:Int)) a3 w fun bm w=>
  X1 bm (
   buildSlice P T.f 0 [] w fun a1 w=>
   fieldAddr P T.a (.pointer (some ⟨U,0,none⟩)) 2 w fun bg w=>
   Q2 P T.f bg w fun a5 w=>
   R6 P T.f a5 none (some (I (m:Int))) none w fun bb w=>
   X2 P .append [T.f,T.f] T.f [false,false] [a1,bb] w fun a8 w=>
   fieldAddr P T.a (.pointer (some ⟨U,0,none⟩)) 2 w fun bf w=>
   X9 P T.f bf a8 w fun _u w=>
   ao () w) (
   ao () w)) fun cf d_ w=>
  Q2 P T.a (.pointer (some ⟨U,0,none⟩)) w fun bp w=>
  X9 P T.a (.pointer (some ⟨b4,0,none⟩)) bp w fun _u w=>
  Y7 P T.a (.pointer (some ⟨b4,0,none⟩)) w fun r0=>
  K r0 w:=fun aq=>by
  obtain ⟨u,_⟩:=W aq
  rw[if_neg (by rw[u];simp)] at h
  refine U6 ?_
  refine W0 ?_
  refine Yc a rfl ?_
  refine Q8 J ?_
  refine Z0 ?_
  by_cases a6:m<cs.length
  ·rw[decide_eq_true (show (m:Int)<(cs.length:Int) by omega)]
   refine J5 ?_
   have a4:=q.sat
   refine Eh (R:=E5) (e:=T.m) (Stp.refl a4) (by decide) fun x1 w5 f bi _=>?_
   refine W0 ?_
   refine Yc (a.up f) rfl ?_
   refine Ee (J.up f) none (some (I m)) 0 m (.inl ⟨rfl,rfl⟩) (.inr rfl) (Nat.zero_le _) (by omega) fun v3 ap=>?_
   rw[List.drop_zero,Nat.sub_zero] at ap
   refine Wk f bi ap rfl (by simp;omega) (by simp;omega) fun x2 w6 _ g E _=>?_
   rw[List.nil_append] at E
   have ar:=Uo E
   have O:=a.up g
   refine W0 ?_
   refine Uf O (by simp) ar.1 ar.2 fun w7 u7 N=>?_
   intro d
   have al:J7 w4.heap.size T.m 2 E5 σ4 w7 x2 (cs.take m):=(J7.of_acc E).kp (D:=fun j=>j=U) (.of_upd u7 rfl) fun j hj e=>by have:=(E.mem j hj).1;have:=a.lt;omega
   have Q:=((C.up q).up g).upd u7 (fun e=>ag e.symm)
   have L:Stp w σ w7 σ4:=u7.stp (s.trans g) bk O.1
   obtain ⟨σ8,s8,l8,f8,o8⟩:=al.freeze L.sat
   have V: ∀j,j<w4.heap.size→σ8 j=σ4 j:=fun j hj=>o8 j fun e=>by have:=(al.mem e.symm).1;omega
   have a2:Stp w σ w7 σ8:=⟨L.bel,s8,fun b o e=>l8.le b o (L.le b o e),fun b hb=>(V b (Nat.lt_of_lt_of_le hb s.bel.size)).trans (L.old b hb)⟩
   exact Q5X a2 (cs:=cs.take m) (l:=l) (show Y2 σ8 w7 U [lv,I room,x2] from ⟨(V U a.lt).trans N.1,N.2⟩) ⟨(V b4 (C.up q).lt).trans Q.1,Q.2⟩ rfl Y ⟨lv,x2,rfl,(hl.up s).lift l8,f8⟩ fun w' σ' hk hr=>h _ w' σ' hk hr
  ·rw[decide_eq_false (show¬(m:Int)<(cs.length:Int) by omega)]
   refine Z7 ?_
   intro d
   rw[List.take_of_length_le (by omega)] at h
   exact Q5X s a (C.up q) rfl Y (W8 hh ⟨s.le⟩) fun w' σ' hk hr=>h _ w' σ' hk hr
 by_cases ce:i<m
 case neg=>
  rw[decide_eq_false (show¬(i:Int)<(m:Int) by omega)]
  (try simp only[O7,E1,S2,W2,W7,W9,M5,M4,H6,Bool.not_true,Bool.not_false])
  exact M (by omega)
 rw[decide_eq_true (show (i:Int)<(m:Int) by omega)]
 (try simp only[O7,E1,S2,W2,W7,W9,M5,M4,H6,Bool.not_true,Bool.not_false])
 refine W0 ?_
 refine Yc a rfl ?_
 refine Q8 J ?_
 refine Z0 ?_
 by_cases B:i<cs.length
 case neg=>
  rw[decide_eq_false (show¬(i:Int)<(cs.length:Int) by omega)]
  refine Z7 ?_
  exact M (by omega)
 rw[decide_eq_true (show (i:Int)<(cs.length:Int) by omega)]
 refine J5 ?_
 have cg:=Q5I be B
 refine U0 cs[i].vals.length (fun k w'=> ∃σ',Stp w4 σ4 w' σ'∧(cs[i].vals.take k).any (G0 m)=false) ⟨σ4,Stp.refl q.sat,rfl⟩ fun k w5 d hk y=>?_
 obtain ⟨σ5,f,t⟩:=y
 have A:=a.up f
 have ab:=J.up f
 have bh:=s.trans f
 have H:=f.sat
 obtain ⟨vv,p1,p2,p3⟩:=Sl.elO ab B
 refine W0 ?_
 refine Yc A rfl ?_
 refine Y1 ab B ?_
 refine W0 ?_
 refine ld H p1 rfl ?_
 refine Q8 p2 ?_
 refine Z0 ?_
 refine Q7 (fun Z=>?_) (fun Z=>?_)
 ·have r:k<cs[i].vals.length:=by simpa using Z
  obtain ⟨p4,r4⟩:=Sl.elV p2 r
  refine W0 ?_
  refine Yc A rfl ?_
  refine Y1 ab B ?_
  refine W0 ?_
  refine ld H p1 rfl ?_
  refine Y1 p2 r ?_
  refine Y4 H p4 rfl ?_
  refine Y9 H (by rfl) rfl (Rep.one r4) fun q6 w6 σ6 g aj=>?_
  have ai:=bh.trans g
  have bl:=L3 (p:=G0 m) r
  refine W0 ?_
  refine ld (i:=0) g.sat aj rfl ?_
  refine P1 ?_
  have v:G0 m cs[i].vals[k]=false→ ∃σ',Stp w4 σ4 w6 σ'∧(cs[i].vals.take (k+1)).any (G0 m)=false:=fun e=>⟨σ6,f.trans g,by rw[bl,t,e];rfl⟩
  by_cases e4:cs[i].vals[k].sort=4
  ·rw[decide_eq_true e4]
   (try simp only[O7,E1,S2,W2,W7,W9,M5,M4,H6,Bool.not_true,Bool.not_false])
   refine W0 ?_
   refine ld g.sat aj rfl ?_
   refine P6 ?_
   by_cases eg:(m:Int)≤cs[i].vals[k].ref
   ·rw[decide_eq_true eg]
    refine J5 ?_
    have u:(cs.take m).any (fun c=>c.vals.any (G0 m))=true:=by
     refine List.any_eq_true.2 ⟨cs[i],List.mem_take_iff_getElem.2 ⟨i,by omega,rfl⟩,S6 r (by simp[G0,e4,eg])⟩
    rw[if_pos u] at h
    exact Q5X ai (A.up g) ((C.up q).up (f.trans g)) rfl Y (W8 hh ⟨ai.le⟩) fun w' σ' hk hr=>h _ w' σ' hk hr
   ·rw[decide_eq_false eg]
    refine Z7 ?_
    refine N3 ?_
    exact Y5 (by omega) r (v (by simp[G0,eg]))
  ·rw[decide_eq_false e4]
   (try simp only[O7,E1,S2,W2,W7,W9,M5,M4,H6,Bool.not_true,Bool.not_false])
   refine N3 ?_
   exact Y5 (by omega) r (v (by simp[G0,e4]))
 ·have r: ¬k<cs[i].vals.length:=by simpa using Z
  rw[E0 r] at t
  refine N3 ?_
  refine Y5 (by omega) (by omega) ⟨σ5,q.trans f,?_⟩
  rw[L3 B,X,t];rfl)
end Go.Proofs.YtjdiakhipmggjaaGreatDoor

namespace Go.Hm
open Go.Kd
def Q7X:Ins:=⟨[105,110,116],1,[]⟩
def Q0p:Ins:=⟨[114,101,116,117,114,110],0,[]⟩
def kA:X0:=[65]
def fX:Fld:=⟨[120],P7,false⟩
def Q1y:Fld:=⟨[110,101,120,116],kA,false⟩
def fL:Fld:=⟨[108],[65,91,93],false⟩
def mF:Hm.Met:=⟨[102],[P7,kA],P7,false,3,[Q7X,Q0p],[]⟩
def mG:Hm.Met:=⟨[103],[],[],false,1,[Q0p],[]⟩
def cA:Cla:=⟨kA,J9,[],false,false,false,[fX,Q1y],[mF,mG]⟩
def cB:Cla:=⟨[66],kA,[[73]],false,false,false,[fL],[]⟩
def cI:Cla:=⟨[73],J9,[],true,true,false,[],[]⟩
def cD:Cla:=⟨[68],J9,[],false,true,false,[],[]⟩
def G8:List Cla:=[cA,cB,cI,cD]
end Go.Hm
namespace Go.Proofs.YtjdiakhipmggjaaGreatDoor
open Go.Emb Go.RowKit Go.Kd Go.Hm
variable {w w' : World} {K : Value → World → Prop} {σ σ' : Q6} {ds : List Value} {room : Int} {cs : List Cel} {l : List Cla} {hp tv : Value}
set_option maxRecDepth 100000 in
theorem Q2y:St D2 G8=none:=by decide+kernel
set_option maxHeartbeats 1000000 in
theorem Q42 (Y:X3 w σ) (h: ∀v w' σ',Stp w σ w' σ'→Sl 8 V0 σ' v G8→K v w'):Q1 P F.ay [] w K:=Bq (by
 unfold Vw
 refine V6 (cells:= #[S Q7X.op,I 1,S []]) (by kernel_rfl) ?_
 refine V6 (cells:= #[S Q0p.op,I 0,S []]) (by kernel_rfl) ?_
 refine T1 (R:=Qt) (sz:=3) Y [.agg #[S Q7X.op,I 1,S []], .agg #[S Q0p.op,I 0,S []]] [Q7X,Q0p] rfl rfl (by simp;exact ⟨rfl,rfl⟩) rfl ⟨⟨rfl,by decide,by decide,by decide⟩,⟨rfl,by decide,by decide,by decide⟩,trivial⟩ fun v1 w1 σ1 m c=>?_
 refine V6 (cells:= #[S fX.name,S fX.kind, .bool false]) (by kernel_rfl) ?_
 refine V6 (cells:= #[S Q1y.name,S Q1y.kind, .bool false]) (by kernel_rfl) ?_
 refine T1 (R:=R7) (sz:=3) m.sat [.agg #[S fX.name,S fX.kind, .bool false], .agg #[S Q1y.name,S Q1y.kind, .bool false]] [fX,Q1y] rfl rfl (by simp;exact ⟨rfl,rfl⟩) rfl ⟨⟨rfl,by decide,by decide⟩,⟨rfl,by decide,by decide⟩,trivial⟩ fun v2 w2 Z g f=>?_
 refine T1 (R:=U8) (sz:=1) g.sat [S P7,S kA] [P7,kA] rfl rfl (by simp;exact ⟨rfl,rfl⟩) rfl ⟨⟨rfl,by decide⟩,⟨rfl,by decide⟩,trivial⟩ fun v3 w3 σ3 e n=>?_
 have u:=c;have t:=f;have r:=n
 obtain ⟨X,U,rfl,_⟩:=u
 obtain ⟨Q,M,rfl,_⟩:=t
 obtain ⟨L,E,rfl,_⟩:=r
 have c:=(c.up g).up e
 have f:=f.up e
 refine V6 (cells:= #[S mF.name, .slice L 2 E,S P7, .bool false,I 3, .slice X 2 U, .slice none 0 0]) (by kernel_rfl) ?_
 refine V6 (cells:= #[S Q0p.op,I 0,S []]) (by kernel_rfl) ?_
 refine T1 (R:=Qt) (sz:=3) e.sat [.agg #[S Q0p.op,I 0,S []]] [Q0p] rfl rfl (by simp;rfl) rfl ⟨⟨rfl,by decide,by decide,by decide⟩,trivial⟩ fun v4 w4 σ4 a j=>?_
 have o:=j
 obtain ⟨N,C,rfl,_⟩:=o
 refine V6 (cells:= #[S mG.name, .slice none 0 0,S [], .bool false,I 1, .slice N 1 C, .slice none 0 0]) (by kernel_rfl) ?_
 refine T1 (R:=E8) (sz:=7) a.sat [.agg #[S mF.name, .slice L 2 E,S P7, .bool false,I 3, .slice X 2 U, .slice none 0 0], .agg #[S mG.name, .slice none 0 0,S [], .bool false,I 1, .slice N 1 C, .slice none 0 0]] [mF,mG] rfl rfl (by simp;exact ⟨rfl,rfl⟩) rfl
  ⟨⟨_,_,_,rfl,n.up a,c.up a,Sl.nil,by decide,by decide,by decide⟩,⟨_,_,_,rfl,Sl.nil,j,Sl.nil,by decide,by decide,by decide⟩,trivial⟩ fun v5 w5 σ5 i p=>?_
 have y:=p
 obtain ⟨O,W,rfl,_⟩:=y
 refine V6 (cells:= #[S kA,S J9, .slice none 0 0, .bool false, .bool false, .bool false, .slice Q 2 M, .slice O 2 W]) (by kernel_rfl) ?_
 refine T1 (R:=U8) (sz:=1) i.sat [S [73]] [[73]] rfl rfl (by simp;rfl) rfl ⟨⟨rfl,by decide⟩,trivial⟩ fun v6 w6 σ6 d q=>?_
 have s:=q
 obtain ⟨H,V,rfl,_⟩:=s
 refine V6 (cells:= #[S fL.name,S fL.kind, .bool false]) (by kernel_rfl) ?_
 refine T1 (R:=R7) (sz:=3) d.sat [.agg #[S fL.name,S fL.kind, .bool false]] [fL] rfl rfl (by simp;rfl) rfl ⟨⟨rfl,by decide,by decide⟩,trivial⟩ fun v7 w7 σ7 b k=>?_
 have z:=k
 obtain ⟨J,D,rfl,_⟩:=z
 refine V6 (cells:= #[S cB.name,S kA, .slice H 1 V, .bool false, .bool false, .bool false, .slice J 1 D, .slice none 0 0]) (by kernel_rfl) ?_
 refine V6 (cells:= #[S cI.name,S J9, .slice none 0 0, .bool true, .bool true, .bool false, .slice none 0 0, .slice none 0 0]) (by kernel_rfl) ?_
 refine V6 (cells:= #[S cD.name,S J9, .slice none 0 0, .bool false, .bool true, .bool false, .slice none 0 0, .slice none 0 0]) (by kernel_rfl) ?_
 refine T1 (R:=V0) (sz:=8) b.sat [.agg #[S kA,S J9, .slice none 0 0, .bool false, .bool false, .bool false, .slice Q 2 M, .slice O 2 W], .agg #[S cB.name,S kA, .slice H 1 V, .bool false, .bool false, .bool false, .slice J 1 D, .slice none 0 0], .agg #[S cI.name,S J9, .slice none 0 0, .bool true, .bool true, .bool false, .slice none 0 0, .slice none 0 0], .agg #[S cD.name,S J9, .slice none 0 0, .bool false, .bool true, .bool false, .slice none 0 0, .slice none 0 0]] G8 rfl rfl (by simp;exact ⟨rfl,rfl,rfl,rfl⟩) rfl
  ⟨⟨_,_,_,rfl,Sl.nil,(((f.up a).up i).up d).up b,(p.up d).up b,by decide,by decide⟩,⟨_,_,_,rfl,q.up b,k,Sl.nil,by decide,by decide⟩,⟨_,_,_,rfl,Sl.nil,Sl.nil,Sl.nil,by decide,by decide⟩,⟨_,_,_,rfl,Sl.nil,Sl.nil,Sl.nil,by decide,by decide⟩,trivial⟩ fun v8 w8 σ8 B A=>?_
 exact h _ _ _ ((((((((m.trans g).trans e).trans a).trans i).trans d).trans b)).trans B) A)
end Go.Proofs.YtjdiakhipmggjaaGreatDoor

namespace Go.Emb
open Go.RowKit
end Go.Emb
namespace Go.Proofs.YtjdiakhipmggjaaGreatDoor
open Go.Emb Go.RowKit Go.Kd Go.Hm
variable {w : World} {K : Value → World → Prop} {σ : Q6} {l : List Cla}
end Go.Proofs.YtjdiakhipmggjaaGreatDoor

namespace Go.Proofs.YtjdiakhipmggjaaGreatDoor
open Go.Emb Go.RowKit Go.Kd Go.Hm
variable {w w' : World} {K : Value → World → Prop} {σ σ' : Q6} {ds : List Value} {room : Int} {cs : List Cel} {l : List Cla} {hp tv : Value}
theorem HeapIs.mono {B B':Nat} {D:Nat→Prop} (h:HeapIs B D σ w hp tv room cs) (hB:B'≤B):HeapIs B' D σ w hp tv room cs:=by
 obtain ⟨b,g,E,k,j,n,⟨vs,d,c,f,hD⟩,hE,a⟩:=h.ex
 exact ⟨b,g,E,k,Nat.le_trans hB j,n,⟨vs,d.mono hB,⟨c.1,fun i m e=>(c.2 i m e).mono hB⟩,f,hD⟩,hE,a⟩
theorem X2z {a:Addr} {n:Int} (j:X3 w σ)
 (g:(n<0∨1048576<n)→K (.tuple #[.pointer none,I 90]) w)
 (i:0≤n→n≤1048576→ ∀b w' σ' D,Stp w σ w' σ'→HeapIs w.heap.size D σ' w' (.pointer (some ⟨b,0,none⟩)) (.pointer (some a)) n []→K (.tuple #[.pointer (some ⟨b,0,none⟩),I 0]) w'):Q1 P F.cO [.pointer (some a),I n] w K:=Q8z (by
 unfold Q3p
 refine Z0 ?_
 by_cases e:n<0
 ·rw[decide_eq_true e]
  (try simp only[O7,E1,S2,W2,W7,W9,M5,M4,H6,Bool.not_true,Bool.not_false])
  exact g (.inl e)
 rw[decide_eq_false e]
 (try simp only[O7,E1,S2,W2,W7,W9,M5,M4,H6,Bool.not_true,Bool.not_false])
 refine Q1x ?_
 by_cases d:(1048576:Int)<n
 ·rw[decide_eq_true d]
  exact J5 (g (.inr d))
 rw[decide_eq_false d]
 refine Z7 ?_
 refine V6 (cells:= #[.pointer (some a),I n,I 0, .slice none 0 0]) (by kernel_rfl) ?_
 refine Dx (cs:=[.pointer (some a),I n,I 0, .slice none 0 0]) j fun b w1 σ1 h f c=>?_
 exact i (by omega) (by omega) b w1 σ1 _ f ⟨b,_,_,rfl,h,c,RowsIs.nil,id,fun k=>Iff.rfl⟩)
theorem X0N:P.underlying T.aq=some (.int .u16):=by kernel_rfl
theorem X2g: ∀c∈G8,Qm c:=X3o (by decide)
theorem Q1j:Wf G8:=X3K Q2y
set_option maxHeartbeats 1000000 in
theorem Q7u {r:Int} (hs:X3 w σ) (hg:Glb σ) (hr:0≤r)
 (h: ∀b a D ds w' σ',Stp w σ w' σ'→HeapIs w.heap.size D σ' w' (.pointer (some ⟨b,0,none⟩)) (.pointer (some a)) (r % 301) []→D3 σ' (Q4 G8,r % 301,[]) ds→Tab σ' (.pointer (some a)) (Q4 G8)→Ok (Q4 G8)→K (.tuple #[.pointer (some ⟨b,0,none⟩), .agg ds.toArray]) w'):Q1 P F.ah [.int .u16 r] w K:=Kv (by
 have hr0:=Int.emod_nonneg r (show (301:Int)≠0 by decide)
 have hr1:=Int.emod_lt_of_pos r (show (0:Int)<301 by decide)
 unfold Mc
 refine M8 hs fun b3 w1 σ1 hb3 hk1 hm1=>?_
 refine Q42 hk1.sat fun v w2 σ2 hk2 hv2=>?_
 refine X3M hk2.sat (hg.lift ⟨(hk1.trans hk2).le⟩) hv2 (by decide) X2g (fun i e _ _ hn=>by rw[Q2y] at hn;cases hn) fun tv w3 σ3 _ hk3 ht ok _=>?_
 obtain ⟨a,_,_,_,rfl,_⟩:=ht.ex
 have hS3:=(hk1.trans hk2).trans hk3
 refine J6 (vs:=[_,_,_]) rfl ?_
 refine J6 (vs:=[_,_,_]) rfl ?_
 refine J6 (vs:=[_,_,_]) rfl ?_
 refine Q42 hk3.sat fun v4 w4 σ4 hk4 hv4=>?_
 refine X2p hk4.sat hv4 (by decide) (fun i e _ _ hn=>by rw[Q2y] at hn;cases hn) fun lv w5 σ5 _ hk5 hlv ok5 _=>?_
 have hk35:=hk4.trans hk5
 have hS5:=hS3.trans hk35
 refine J6 (vs:=[_,_,_]) rfl ?_
 refine J6 (vs:=[_,_,_]) rfl ?_
 refine J6 (vs:=[_,_,_]) rfl ?_
 refine Q57 ⟨by decide,hr⟩ ?_
 rw[Iz X0N Q1s]
 have ew:IntKind.i64.wrap (r % 301)=r % 301:=F9 (n:=r % 301) (by omega) (by omega)
 rw[ew]
 simp only[decide_true,Bool.not_true,Bool.false_eq_true,reduceIte,↓M1,M1,Mb,reduceIte]
 refine X35 ?_
 simp only[decide_true,Bool.not_true,Bool.false_eq_true,reduceIte,↓M1,M1,Mb,reduceIte]
 refine X2z (n:=r % 301) hk5.sat (fun hx=>absurd hx (by omega)) fun _ _ b6 w6 σ6 D hk6 h6=>?_
 refine J6 (vs:=[_,_]) rfl ?_
 refine J6 (vs:=[_,_]) rfl ?_
 simp only[decide_true,Bool.not_true,↓M1,M1,Mb,reduceIte]
 refine V6 (cells:= #[lv,I (r % 301), .slice none 0 0]) (by obtain ⟨a5,c5,hle,_⟩:=id hlv;generalize (Q4 G8).length=n5 at hle;subst hle;kernel_rfl) ?_
 have hm6:=hm1.up ((hk2.trans hk3).trans (hk35.trans hk6))
 have hrh:D3 σ6 (Q4 G8,r % 301,[]) [lv,I (r % 301), .slice none 0 0]:=⟨_,_,rfl,hlv.up hk6,Sl.nil⟩
 refine Mn (ds:=[lv,I (r % 301), .slice none 0 0]) hm6 rfl rfl (by rw[List.all_toArray];exact List.all_eq_true.2 (Rep.one hrh)) fun w7 u7 hm7=>?_
 refine V1 hm7 rfl ?_
 have hS6:=hS5.trans hk6
 have hB3:=N0 hb3 (Stp.refl hs)
 have hS7:=u7.stp hS6 hB3 hm6.1
 have hb35:b3<w5.heap.size:=by
  have:=(hm1.up ((hk2.trans hk3).trans hk35)).lt
  exact this
 exact h b6 a D _ w7 σ6 hS7 ((h6.nx (Nxt.of_upd hk6.sat u7 hm6.1) fun k hk e=>by have:=(h6.mem hk).1;omega).mono hS5.bel.size) hrh (ht.lift ⟨(hk35.trans hk6).le⟩) ok)
theorem X3F {x:ActH} {ds:List Value} (j:X3 w σ) (c:Bo σ x ds) (h: ∀w',Below w.heap.size w w'→K (.bool (decide (x.s.length≤100)&&decide (x.v.s.length≤5000))) w'):Q1 P F.aA [.agg ds.toArray] w K:=Q1b (by
 have f:=c
 obtain ⟨rfl,k,m⟩:=c
 unfold Dw
 refine Z1 j fun q w1 σ1 a d=>?_
 refine W0 ?_
 refine ld (i:=1) a.sat d rfl ?_
 refine Fq (by kernel_rfl) ?_
 refine Q4X ?_
 cases e:decide ((x.s.length:Int)≤100) with
 | false=>
  have b:decide (x.s.length≤100)=false:=by rw[←e];congr 1;simp only[eq_iff_iff];omega
  rw[b] at h
  (try simp only[↓M1,M1,Mb,reduceIte])
  exact h _ a.bel
 | true=>
  have b:decide (x.s.length≤100)=true:=by rw[←e];congr 1;simp only[eq_iff_iff];omega
  rw[b] at h
  (try simp only[O7,E1,S2,W2,W7,W9,M5,M4,H6,Bool.not_true,Bool.not_false])
  (repeat refine Hd.h ?_)
  refine ld (i:=6) a.sat d rfl ?_
  (repeat refine Hd.h ?_)
  refine Fq (by kernel_rfl) ?_
  (repeat refine Hd.h ?_)
  refine Q4X ?_
  (repeat refine Hd.h ?_)
  have g:decide ((x.v.s.length:Int)≤5000)=decide (x.v.s.length≤5000):=by congr 1;simp only[eq_iff_iff];omega
  rw[g]
  exact h _ a.bel)
theorem X39 {v u:Value} (hs:X3 w σ) (hv:Sl 2 E5 σ v cs) (hu:Sl 2 E5 σ u cs) (h: ∀w',Below w.heap.size w w'→K (.bool true) w'):Q1 P F.bB [v,u] w K:=Az (by
 have hcl:=hv.max
 unfold Oh
 refine Q8 hv ?_
 refine Q8 hu ?_
 refine Jf ?_
 simp only[decide_true,Bool.not_true,↓M1,M1,Mb,reduceIte]
 refine U0 cs.length (fun i w'=>Stp w σ w' σ) (Stp.refl hs) fun i w1 d hi hk1=>?_
 have hv1:=hv.up hk1
 have hu1:=hu.up hk1
 refine Q8 hv1 ?_
 refine Z0 ?_
 refine Q7 (fun hc=>?_) (fun hc=>?_)
 ·have hi':i<cs.length:=by simpa using hc
  obtain ⟨vv,p1,p2,b2⟩:=Sl.elO hv1 hi'
  obtain ⟨uu,q1,q2,_⟩:=Sl.elO hu1 hi'
  have hmx:=p2.max
  refine U2 hk1.sat ?_
  (repeat (apply J0;(· intros;(repeat (rename_i hx;subst hx));(repeat' (first | (with_reducible exact O3 rfl) | (with_reducible exact R9 (Stp.bel (by (repeat (first | exact Stp.refl (by (first | assumption | exact Stp.sat (by assumption) | exact Hst.sat (by assumption))) | assumption | refine Stp.trans ?_ (by first | assumption | exact Hst.stp (by assumption)))))) rfl) | (with_reducible intro _) | (simp only[↓M2,M2,Mb,reduceIte]) | (with_reducible refine Zy ?_) | (with_reducible show Q2 _ _ _ _ _;first | refine X7 aS aL aR ?_ | refine Y4 aS aL aR ?_ | refine ld aS aL aR ?_) | (with_reducible show indexAddr _ _ _ _ _ _;refine Y1 aL au ?_) | (with_reducible show X2 _ _ _ _ _ _ _ _;refine Q8 aL ?_) | (with_reducible show F3 _ _ _ _ _ _;refine Z9 aR ?_) | (with_reducible show pick _ _ _ _ _ _;refine M0 ?_) | (apply F8;intro hh;(try simp only[hh,reduceIte,↓M2,M2,Mb,reduceIte]))));done)))
  simp only[decide_true,Bool.not_true,Bool.false_eq_true,reduceIte]
  (repeat (apply J0;(· intros;(repeat (rename_i hx;subst hx));(repeat' (first | (with_reducible exact O3 rfl) | (with_reducible exact R9 (Stp.bel (by (repeat (first | exact Stp.refl (by (first | assumption | exact Stp.sat (by assumption) | exact Hst.sat (by assumption))) | assumption | refine Stp.trans ?_ (by first | assumption | exact Hst.stp (by assumption)))))) rfl) | (with_reducible intro _) | (simp only[↓M2,M2,Mb,reduceIte]) | (with_reducible refine Zy ?_) | (with_reducible show Q2 _ _ _ _ _;first | refine X7 aS aL aR ?_ | refine Y4 aS aL aR ?_ | refine ld aS aL aR ?_) | (with_reducible show indexAddr _ _ _ _ _ _;refine Y1 aL au ?_) | (with_reducible show X2 _ _ _ _ _ _ _ _;refine Q8 aL ?_) | (with_reducible show F3 _ _ _ _ _ _;refine Z9 aR ?_) | (with_reducible show pick _ _ _ _ _ _;refine M0 ?_) | (apply F8;intro hh;(try simp only[hh,reduceIte,↓M2,M2,Mb,reduceIte]))));done)))
  (intros;(repeat (rename_i hx;subst hx));(try simp only[↓M2,M2,Mb,reduceIte]))
  rename_i w2 hb2
  (repeat refine Hd.h ?_)
  simp only[decide_true,Bool.not_true,↓M1,M1,Mb,reduceIte]
  refine U0 cs[i].vals.length (fun j w'=>Stp w1 σ w' σ) hb2.stp fun j w3 d hj hk3=>?_
  have hv3:=hv1.up hk3
  have hu3:=hu1.up hk3
  refine Y1 hv3 hi' ?_
  refine W0 ?_
  refine ld hk3.sat (p1.up hk3) rfl ?_
  refine Q8 (p2.up hk3) ?_
  refine Z0 ?_
  refine Q7 (fun hc=>?_) (fun hc=>?_)
  ·have hj':j<cs[i].vals.length:=by simpa using hc
   obtain ⟨p3,r3⟩:=Sl.elV (p2.up hk3) hj'
   obtain ⟨q3,t3⟩:=Sl.elV (q2.up hk3) hj'
   have p13:=p1.up hk3
   have q13:=q1.up hk3
   have p23:=p2.up hk3
   have q23:=q2.up hk3
   refine U2 hk3.sat ?_
   (repeat refine J0 A8 ?_)
   (intros;(repeat (rename_i hx;subst hx));(try simp only[↓M2,M2,Mb,reduceIte]))
   rename_i w4 hb4
   refine X1Q ?_
   simp only[decide_true,Bool.not_true,↓M1,M1,Mb,reduceIte]
   exact Y5 (by omega) hj' (hk3.trans hb4.stp)
  ·exact Y5 hcl hi' (hk1.trans hk3)
 ·exact h _ hk1.bel)
end Go.Proofs.YtjdiakhipmggjaaGreatDoor

namespace Go.Proofs.YtjdiakhipmggjaaGreatDoor
open Go.Emb Go.RowKit Go.Kd Go.Hm
variable {w w' : World} {K : Value → World → Prop} {σ σ' : Q6} {ds : List Value} {room : Int} {cs : List Cel} {l : List Cla} {hp tv : Value}
def zfK:X0:=[90,101,114,111,70,97,117,108,116]
def zf1:List Cel:=[⟨zfK,[⟨3,0,[],0⟩]⟩]
def zf2:List Cel:=zf1++[⟨P7++[91,93],List.replicate 3 ⟨1,0,[],0⟩⟩]
theorem X0v:Zr (Q4 G8) 10 [] zfK=(zf1,0):=by decide
theorem X0K:Zu (Q4 G8) 10 zf1 P7 3=(zf2,0):=by decide
theorem Q3Q:W6 []=true:=by decide+kernel
theorem Q7i:GoodH W6 (Q4 G8) 10 zf2:=by
 have a:=GoodH.obj Q1j Q3Q (GoodH.empty (ok:=W6) (l:=Q4 G8) (show (0:Int)≤10 by decide)) zfK
 rw[X0v] at a
 have b:=GoodH.arr Q1j Q3Q a P7 3
 rw[X0K] at b
 exact b
theorem X48:P.underlying T.a5=some (.pointer T.p):=by kernel_rfl
theorem X0R (d:Nat) (o:Option Addr):(Op.equalIn (d+1) T.a5 (.pointer o) (.pointer none)).run P w= .ok o.isNone w:=by
 cases o<;>simp[Op.equalIn,run_underlying X48]
theorem Q9K {a:Addr} {b c:Operand} (h:K (.bool false) w):Q3 P .eql T.a5 b c (.pointer (some a)) (.pointer none) w K:=by
 have e:(Op.equal T.a5 (.pointer (some a)) (.pointer none)).run P w= .ok false w:=X0R 9999 _
 unfold Q3
 rw[Y0 (v:= .bool false) (w':=w) (by simp[eqGuard,Go.binOp,e])]
 exact h
theorem X2u {a:Addr} {b c:Operand} (h:K (.bool true) w):Q3 P .neq T.r b c (.pointer (some a)) (.pointer none) w K:=by
 have e:(Op.equal T.r (.pointer (some a)) (.pointer none)).run P w= .ok false w:=Q6n 9999 _
 unfold Q3
 rw[Y0 (v:= .bool true) (w':=w) (by simp[eqGuard,Go.binOp,e])]
 exact h
set_option maxHeartbeats 1000000 in
theorem X2n (X:X3 w σ) (Q:Glb σ) (h: ∀w' σ',Stp w σ w' σ'→K (.bool true) w'):Q1 P F.aH [] w K:=Ke (by
 unfold My
 refine Q7u X Q (by decide) fun b a D ds w1 σ1 g J t Z ok=>?_
 refine J6 (vs:=[_,_]) rfl ?_
 refine J6 (vs:=[_,_]) rfl ?_
 refine M8 g.sat fun b2 w2 V q o u=>?_
 have ac:=N0 q g
 refine Mn u rfl (by obtain ⟨lv,cv,rfl,_⟩:=D3.out t;rfl) (by rw[List.all_toArray];exact List.all_eq_true.2 (Rep.one t)) fun w3 u3 Y=>?_
 have N:=g.trans o
 have h2:=J.up o
 have d:Stp w1 σ1 w3 V:=u3.stp o q u.1
 have O:=J.up d
 have p:=g.trans d
 rw[show (10 % 301:Int)=10 from rfl] at O
 refine Q9K ?_
 (try simp only[O7,E1,S2,W2,W7,W9,M5,M4,H6,Bool.not_true,Bool.not_false])
 have r:=Z.lift ⟨d.le⟩
 refine Q6d d.sat p.bel.size O r ok (k:=zfK) (by decide) (by decide) (by decide) fun w4 σ4 D4 B A W=>?_
 simp only[X0v] at A
 have s:=r.lift B.le
 refine J6 (vs:=[_,_]) rfl ?_
 refine J6 (vs:=[_,_]) rfl ?_
 have E: ∀{k},D k→w.heap.size≤k:=fun y=>(J.mem y).1
 have z:=B.stp' p fun k y=>E y
 refine Q7l B.sat z.bel.size A s (e:=P7) (n:=3) (by decide) (by decide) (by decide) fun w5 σ5 D5 U M ad=>?_
 simp only[X0K] at M
 have H:=s.lift U.le
 have j:=U.stp' z fun k y=>(A.mem y).1
 refine J6 (vs:=[_,_]) rfl ?_
 refine J6 (vs:=[_,_]) rfl ?_
 obtain ⟨σf,R,i,v,_⟩:=M.freeze j.sat
 simp only[X0v,X0K,show atM [] 0=0 from rfl,show atM zf1 0=1 from rfl,decide_true,↓M1,M1,Mb,reduceIte]
 refine Q7A R v Q7i.left (by decide) fun w6 L=>?_
 have f:=Stp.of_below R L
 simp only[show W4 10 zf2=4 from by decide,decide_true,↓M1,M1,Mb,reduceIte]
 have c:=v
 refine X2Q f.sat c ?_
 simp only[show ((zf2.length:Nat):Int)=2 from by decide,decide_true,↓M1,M1,Mb,reduceIte]
 refine Q7n f.sat c ?_
 refine P4 ?_
 simp only[show D7 zf2 0=zfK from by decide,show decide (zfK=[90,101,114,111,70,97,117,108,116])=true from by decide,↓M1,M1,Mb,reduceIte]
 refine X2q f.sat c ?_
 simp only[show Q5J zf2 1=3 from by decide,decide_true,↓M1,M1,Mb,reduceIte]
 have C:=(Q.lift ⟨j.le⟩).lift i
 refine X1S f.sat C c (H.lift i) ok Q7i.cells fun w7 σ7 m=>?_
 simp only[↓M1,M1,Mb,reduceIte]
 refine X08 m.sat (c.lift ⟨m.le⟩) ?_
 refine X2u ?_
 (try simp only[↓M1,M1,Mb,reduceIte])
 exact h w7 σ5 (j.trans ((f.trans m).weak i.le)))
end Go.Proofs.YtjdiakhipmggjaaGreatDoor

namespace Go.Emb
open Go.RowKit Go.Hm
variable {P : Program} {w w0 w1 w' w'' : World} {K : Value → World → Prop} {σ σ0 σ1 σ' : Q6} {b n : Nat} {ds : List Value} {v V : Value}
structure VarT (b : Nat) (ds : List Value) (w w' : World) : Prop where
  kp : Kpt (fun j => j = b) w w'
  var : (b < w.heap.size → w'.heap[b]? = w.heap[b]?) ∨ ∃ e, w'.heap[b]? = some (.cells ds.toArray e (0, 0))
structure VarB (w0 : World) (σ0 : Q6) (w1 : World) (σ : Q6) (b n : Nat) (w' : World) : Prop where
  hst : Hst w0 σ0 w' σ
  kp : Kpt (fun j => j = b) w1 w'
  var : ∃ cs, cs.length = n ∧ Y2 σ w' b cs
theorem VarT.of_below (h:Below w.heap.size w w'):VarT b ds w w':=⟨.of_below h, .inl fun a=>h.block b a⟩
theorem VarT.of_upd (h:Upd w b w') (a:Y2 σ w' b ds):VarT b ds w w':=⟨.of_upd h rfl, .inr a.2⟩
theorem VarB.step (c:w0.heap.size≤b) (d:ds.length=n) (h:VarB w0 σ0 w1 σ b n w) (k:VarT b ds w w'):VarB w0 σ0 w1 σ b n w':=by
 obtain ⟨cs,g,a⟩:=h.var
 refine ⟨⟨h.hst.stp.kp k.kp fun j f=>by subst f;exact ⟨c,a.1⟩⟩,h.kp.trans k.kp,?_⟩
 rcases k.var with e | e
 ·exact ⟨cs,g,a.1,by rw[e a.lt];exact a.2⟩
 ·exact ⟨ds,d,a.1,e⟩
theorem Q60 {A:(World→World→Prop)→(World→Prop)→Prop} (ds:List Value) {cs:List Value} (a:Stp w0 σ0 w σ) (c:w0.heap.size≤b) (i:Y2 σ w b cs) (d:cs.length=n) (e:ds.length=n)
 (h:A (VarT b ds) (VarB w0 σ0 w σ b n)):dr w A:=
 Is _ _ ⟨⟨a.trans (Stp.of_below a.sat (Below.refl _ _).drew)⟩, .of_below (Below.refl _ _).drew,cs,d,i⟩ (fun _ _ f g=>f.step c e g) h
theorem F4 (h:V=v):dk (VarT b ds) (fun v _=>V=v) w v w:=⟨.of_below (Below.refl _ _),h⟩
theorem Zh (a:Below w.heap.size w w') (h:V=v):dk (VarT b ds) (fun v _=>V=v) w v w':=⟨.of_below a,h⟩
theorem Jx {t:TypeId} {c:Nat} {z:Value} [tz:TZ P t n c z] {a:(List Value→Value→World→Prop)→Prop} {φ:Value→World→Prop} (m:ds.length=n) (r: ∀u∈ds,u.oneCell'=true) (s: ∀v w,φ v w→ .agg ds.toArray=v)
 (p:a (fun _ _ w=>Y2 σ w b ds)) (d:σ b=none):Sr (VarT b ds) (fun F=> ∀x w,VarB w0 σ0 w1 σ b n w→φ x w→X9 P t (.pointer (some ⟨b,0,none⟩)) x w (dk (VarT b ds) (F [x]) w)) a:=by
 refine Q3Y _ (fun xs v w w' h k=>?_) (fun x w o g=>?_) p
 ·rcases k.var with e | e
  ·exact ⟨d,by rw[e h.lt];exact h.2⟩
  ·exact ⟨d,e⟩
 ·have:=s x w g
  subst this
  obtain ⟨cs,i,j⟩:=o.var
  exact Mn j i m (by rw[List.all_toArray];exact List.all_eq_true.2 r) fun w' q f=>⟨.of_upd q f,f⟩
theorem Vu {c a:Bool} {V:Value} {d:World→(Value→World→Prop)→Prop} (h:c=a→d w (dk (VarT b ds) (fun v _=>V=v) w)):Q0 (.bool c) a w d (dk (VarT b ds) (fun v _=>(if c=a then V else undef)=v) w):=by
 by_cases e:c=a
 ·simp only[e,if_true]
  subst e
  have:=h rfl
  cases c
  ·rw[W7];exact this
  ·rw[W2];exact this
 ·simp only[e,if_false]
  cases c<;>cases a<;>first | exact absurd rfl e | (rw[S2];exact F4 rfl) | (rw[E1];exact F4 rfl)
theorem VarB.hs (h:VarB w0 σ0 w1 σ b n w):Hst w0 σ0 w σ:=h.hst
end Go.Emb
namespace Go.Proofs.YtjdiakhipmggjaaGreatDoor
open Go.Emb Go.RowKit Go.Kd Go.Hm
variable {w w' : World} {K : Value → World → Prop} {σ σ' : Q6} {ds : List Value} {room : Int} {cs : List Cel} {l : List Cla} {hp tv : Value}
theorem Q3x {c:Nat} {h f:World} {e:Q6} {x:List Cla×Int×List Cel} {d m:List Value} (o:Stp w σ h e) (hB:w.heap.size≤c) (r:Y2 e h c m) (u:Upd h c f) (g:Y2 e f c d):
 ∃a,Stp w σ f a∧Z4 a ⟨c,0,none⟩ d∧SLe e a∧ ∀k,k≠c→a k=e k:=by
 obtain ⟨a,q,p,j,i⟩:=g.keep (u.stp o hB r.1) hB
 exact ⟨a,q,p,⟨j⟩,i⟩
end Go.Proofs.YtjdiakhipmggjaaGreatDoor

namespace Go.Emb
open Go.RowKit Go.Hm
variable {P : Program} {w w0 w1 w' w'' : World} {K : Value → World → Prop} {σ σ0 σ1 σ' : Q6} {b n : Nat} {ds : List Value} {v V : Value}
theorem Z4.tail {q:Addr} {xs ys:List Value} (h:Z4 σ q (xs++ys)):Z4 σ (q.add xs.length) ys:=by
 obtain ⟨f,a,e,z,d,g⟩:=h
 cases xs with
 | nil=>exact ⟨by simp[Addr.add,f],a,e,z,by simpa [Addr.add] using d,fun i u c=>by simpa [Addr.add] using g i u c⟩
 | cons x xs=>
  refine ⟨by simp[Addr.add,f],a,e,z,by simpa [Addr.add] using d,fun i u c=>?_⟩
  have:=g ((x::xs).length+i) u (by rw[List.getElem?_append_right (by omega)];simpa using c)
  simpa [Addr.add,Nat.add_assoc] using this
theorem J7.down {α:Type} {R:Q6→α→List Value→Prop} {B sz:Nat} {e:TypeId} {v:Value} {xs:List α} (h:J7 B e sz R σ' w v xs) (H:SLe σ σ') (y: ∀x cs,R σ' x cs→R σ x cs):J7 B e sz R σ w v xs:=by
 obtain ⟨a,j,rfl,C,t,c,u⟩:=h
 have p: ∀k,σ' k=none→σ k=none:=fun k L=>by
  cases e:σ k with
  | none=>rfl
  | some o=>have:=H.le k o e;rw[L] at this;cases this
 refine ⟨a,j,rfl,C,t,fun b d=>⟨(c b d).1,(c b d).2.1,(c b d).2.2.1,p _ (c b d).2.2.2⟩,fun A=>?_⟩
 obtain ⟨g,m,f,rfl,z,J,r,s,E⟩:=u A
 exact ⟨g,m,f,rfl,z,p _ J,r,s,fun i x q=>y _ _ (E i x q)⟩
end Go.Emb
namespace Go.Proofs.YtjdiakhipmggjaaGreatDoor
open Go.Emb Go.RowKit Go.Kd Go.Hm
variable {w w' w0 w1 : World} {K : Value → World → Prop} {σ σ' σ0 : Q6} {ds : List Value} {room : Int} {cs cs' : List Cel} {l : List Cla} {hp tv : Value} {B b : Nat} {D : Nat → Prop} {V v : Value}
theorem X0H {ok:X0→Bool} {r i:Int} {v:Val}:H5 ok l (H5 ok l cs r i v).1 r i v=H5 ok l cs r i v:=by
 by_cases g:E2 cs r i=0
 case neg=>
  have e:H5 ok l cs r i v=(cs,E2 cs r i):=by unfold H5;rw[if_pos g]
  rw[e];exact e
 cases f:B7 ok l cs v (Xj l (Wj cs r).kind i.toNat) with
 | false=>
  have e:H5 ok l cs r i v=(cs,91):=by unfold H5;rw[if_neg (fun h=>h g),f];rfl
  rw[e];exact e
 | true=>
  have e:H5 ok l cs r i v=(F0 cs r i v,0):=by unfold H5;rw[if_neg (fun h=>h g),f];rfl
  rw[e]
  obtain ⟨j,m,rfl,rfl,d,y⟩:=Lk g
  have u:M3 cs (j:Int)=true:=D9.2 ⟨j,rfl,d⟩
  have a:F0 cs j m v=cs.set j ⟨cs[j].kind,cs[j].vals.set m v⟩:=by unfold F0;rw[L4 d,Int.toNat_natCast,Int.toNat_natCast]
  have q:(F0 cs j m v).length=cs.length:=by rw[a];simp
  have c:j<(F0 cs j m v).length:=by rw[q];exact d
  have k:Wj (F0 cs j m v) j=⟨cs[j].kind,cs[j].vals.set m v⟩:=by
   rw[L4 c];simp only[a,List.getElem_set_self]
  have p:M3 (F0 cs j m v) (j:Int)=true:=D9.2 ⟨j,rfl,c⟩
  have s:E2 (F0 cs j m v) j m=0:=by
   unfold E2
   rw[p,k]
   simp only[if_true,List.length_set]
   rw[if_pos ⟨by omega,by omega⟩]
  have o:B7 ok l (F0 cs j m v) v (Xj l (Wj (F0 cs j m v) j).kind (m:Int).toNat)=true:=by
   rw[k]
   rw[L4 d] at f
   exact Rc (fun _ _=>Q38 u) f
  have t:F0 (F0 cs j m v) j m v=F0 cs j m v:=by
   unfold F0 at k⊢
   rw[k]
   simp only[Int.toNat_natCast,List.set_set]
   rw[L4 d]
  unfold H5
  rw[if_neg (fun h=>h s),o,t];rfl
theorem RowsIs.down {d:Value} (h:RowsIs B D σ' w d cs) (a:SLe σ σ'):RowsIs B D σ w d cs:=by
 obtain ⟨vs,e,c,f,hD⟩:=h.ex
 exact ⟨vs,e.down a fun _ _ h=>h,⟨c.1,fun i g j=>(c.2 i g j).down a fun _ _ h=>h⟩,f,hD⟩
theorem HeapIs.down (h:HeapIs B D σ' w hp tv room cs) (a:SLe σ σ'):HeapIs B D σ w hp tv room cs:=by
 obtain ⟨b,f,E,rfl,hB,c,d,hE,hD⟩:=h.ex
 refine ⟨b,f,E,rfl,hB,⟨?_,c.2⟩,d.down a,hE,hD⟩
 cases e:σ b with
 | none=>rfl
 | some o=>have:=a.le b o e;rw[c.1] at this;cases this
structure SetT (B : Nat) (D : Nat → Prop) (σ : Q6) (hp tv : Value) (room : Int) (cs' : List Cel) (b : Nat) (ds : List Value) (w w' : World) : Prop where
  kp : Kpt (fun j => j = b ∨ D j) w w'
  var : (b < w.heap.size → w'.heap[b]? = w.heap[b]?) ∨ ∃ e, w'.heap[b]? = some (.cells ds.toArray e (0, 0))
  hp : (∀ j, D j → j < w.heap.size → w'.heap[j]? = w.heap[j]?) ∨ HeapIs B D σ w' hp tv room cs'
structure SetB (B : Nat) (D : Nat → Prop) (hp tv : Value) (room : Int) (cs cs' : List Cel) (w0 : World) (σ0 : Q6) (w1 : World) (σ : Q6) (b n : Nat) (w' : World) : Prop where
  hst : Hst w0 σ0 w' σ
  kp : Kpt (fun j => j = b ∨ D j) w1 w'
  var : ∃ zs, zs.length = n ∧ Y2 σ w' b zs
  hp : HeapIs B D σ w' hp tv room cs ∨ HeapIs B D σ w' hp tv room cs'
theorem SetB.hs {n:Nat} (h:SetB B D hp tv room cs cs' w0 σ0 w1 σ b n w):Hst w0 σ0 w σ:=h.hst
theorem SetT.of_below (h:Below w.heap.size w w'):SetT B D σ hp tv room cs' b ds w w':=⟨.of_below h, .inl fun a=>h.block b a, .inl fun j _ c=>h.block j c⟩
theorem HeapIs.same (h:HeapIs B D σ w hp tv room cs) (k:Kpt (fun j=>j=b∨D j) w w') (g:X3 w' σ) (c: ¬D b) (f: ∀j,D j→j<w.heap.size→w'.heap[j]? =w.heap[j]?):HeapIs B D σ w' hp tv room cs:=
 h.nx (F:=fun j=>j=b) ⟨⟨k.os,k.tape,k.output,k.size,fun j a d=>by
  by_cases e:D j
  ·exact f j e a
  ·exact k.block j a fun h=>h.elim d e⟩,SLe.refl _,fun _ _=>rfl,g⟩ fun j a e=>c (e▸a)
theorem SetB.step {n:Nat} (g:w0.heap.size≤b) (hB:w0.heap.size≤B) (c: ¬D b) (m:ds.length=n) (h:SetB B D hp tv room cs cs' w0 σ0 w1 σ b n w) (k:SetT B D σ hp tv room cs' b ds w w'):SetB B D hp tv room cs cs' w0 σ0 w1 σ b n w':=by
 obtain ⟨i,o,d⟩:=h.var
 have f: ∀j,D j→w0.heap.size≤j∧σ j=none:=fun j hj=>by
  rcases h.hp with h | h
  ·exact ⟨Nat.le_trans hB (h.mem hj).1,(h.mem hj).2.2⟩
  ·exact ⟨Nat.le_trans hB (h.mem hj).1,(h.mem hj).2.2⟩
 have a:Stp w0 σ0 w' σ:=h.hst.stp.kp k.kp fun j hj=>by
  rcases hj with rfl | hj
  ·exact ⟨g,d.1⟩
  ·exact f j hj
 refine ⟨⟨a⟩,h.kp.trans k.kp,?_,?_⟩
 ·rcases k.var with e | e
  ·exact ⟨i,o,d.1,by rw[e d.lt];exact d.2⟩
  ·exact ⟨ds,m,d.1,e⟩
 ·rcases k.hp with e | e
  ·rcases h.hp with h3 | h3
   ·exact .inl (h3.same k.kp a.sat c e)
   ·exact .inr (h3.same k.kp a.sat c e)
  ·exact .inr e
theorem X2W {n:Nat} {A:(World→World→Prop)→(World→Prop)→Prop} (cs':List Cel) (ds:List Value) {a:List Value} (d:Stp w0 σ0 w σ) (e:w0.heap.size≤b) (hB:w0.heap.size≤B) (c: ¬D b) (k:Y2 σ w b a) (f:a.length=n) (g:ds.length=n) (hh:HeapIs B D σ w hp tv room cs)
 (h:A (SetT B D σ hp tv room cs' b ds) (SetB B D hp tv room cs cs' w0 σ0 w σ b n)):dr w A:=
 Is _ _ ⟨⟨d.trans (Stp.of_below d.sat (Below.refl _ _).drew)⟩, .of_below (Below.refl _ _).drew,⟨a,f,k⟩, .inl (hh.up (Stp.of_below d.sat (Below.refl _ _).drew))⟩ (fun _ _ j i=>j.step e hB c g i) h
theorem Q69 (h:V=v):dk (SetT B D σ hp tv room cs' b ds) (fun v _=>V=v) w v w:=⟨.of_below (Below.refl _ _),h⟩
theorem X24 (a:Below w.heap.size w w') (h:V=v):dk (SetT B D σ hp tv room cs' b ds) (fun v _=>V=v) w v w':=⟨.of_below a,h⟩
theorem X0k {n:Nat} {t:TypeId} {d:Nat} {z:Value} [tz:TZ P t n d z] {a:(List Value→Value→World→Prop)→Prop} {φ:Value→World→Prop} (r:ds.length=n) (A: ∀u∈ds,u.oneCell'=true) (C: ∀v w,φ v w→ .agg ds.toArray=v)
 (y:a (fun _ _ w=>Y2 σ w b ds)) (f:σ b=none) (c: ¬D b):Sr (SetT B D σ hp tv room cs' b ds) (fun G=> ∀x w,SetB B D hp tv room cs cs' w0 σ0 w1 σ b n w→φ x w→X9 P t (.pointer (some ⟨b,0,none⟩)) x w (dk (SetT B D σ hp tv room cs' b ds) (G [x]) w)) a:=by
 refine Q3Y _ (fun xs v w w' h k=>?_) (fun x w s o=>?_) y
 ·rcases k.var with e | e
  ·exact ⟨f,by rw[e h.lt];exact h.2⟩
  ·exact ⟨f,e⟩
 ·have:=C x w o
  subst this
  obtain ⟨H,p,q⟩:=s.var
  exact Mn q p r (by rw[List.all_toArray];exact List.all_eq_true.2 A) fun w' g i=>⟨⟨.of_upd g (.inl rfl), .inr i.2, .inl fun j E m=>g.block j fun e=>c (e▸E)⟩,i⟩
theorem X29 {n:Nat} {x:Val} {r i:Int} {d:(Value→World→Prop)→Prop} {J L R:Value→World→Prop} (O:Glb σ) (Q:Tab σ tv l) (ok:Ok l) (y: ∀c∈cs,GoodC W6 l cs c) (g: ∀c∈(H5 W6 l cs r i x).1,GoodC W6 l (H5 W6 l cs r i x).1 c) (M:M7 σ x [I x.sort,I x.n,S x.s,I x.ref]) (q: ¬D b) (Y:σ b=none)
 (h1: ∀v w,J v w→I r=v) (W: ∀v w,L v w→I i=v) (X: ∀v w,R v w→Value.agg [I x.sort,I x.n,S x.s,I x.ref].toArray=v)
 (hr:d (fun v w=>I (H5 W6 l cs r i x).2=v∧X3 w σ∧HeapIs B D σ w hp tv room (H5 W6 l cs r i x).1)):
 Q5 (SetT B D σ hp tv room (H5 W6 l cs r i x).1 b ds) (fun G=> ∀E C H w,SetB B D hp tv room cs (H5 W6 l cs r i x).1 w0 σ0 w1 σ b n w→J E w→L C w→R H w→Q1 P F.b3 [hp,E,C,H] w (dk (SetT B D σ hp tv room (H5 W6 l cs r i x).1 b ds) G w)) d:=by
 refine H0 _ (fun v w w' h k=>?_) (fun E C H w A e1 e2 e3=>?_) hr
 ·obtain ⟨e,U,h4⟩:=h
  have m:X3 w' σ:=Kpt.sat U k.kp fun j z=>z.elim (fun e=>e▸Y) fun z=>(h4.mem z).2.2
  rcases k.hp with e2 | e2
  ·exact ⟨e,m,h4.same k.kp m q e2⟩
  ·exact ⟨e,m,e2⟩
 ·have:=h1 _ _ e1
  have:=W _ _ e2
  have:=X _ _ e3
  subst_vars
  have u: ∀{a p},Nxt D w σ a p→HeapIs B D p a hp tv room (H5 W6 l cs r i x).1→SetT B D σ hp tv room (H5 W6 l cs r i x).1 b ds w a∧I (H5 W6 l cs r i x).2=I (H5 W6 l cs r i x).2∧X3 a σ∧HeapIs B D σ a hp tv room (H5 W6 l cs r i x).1:=fun {a p} N h4=>by
   have f:=h4.down N.le
   have t:b<w.heap.size:=by obtain ⟨zs,_,hm⟩:=A.var;exact hm.lt
   exact ⟨⟨N.kp.mono fun _ _ z=> .inr z, .inl fun _=>N.kp.block b t q, .inr f⟩,rfl,fun k o e=>N.sat k o (N.le.le k o e),f⟩
  rcases A.hp with h4 | h4
  ·exact X19 A.hst.sat O h4 Q ok y M fun a p N f=>u N f
  ·have Z:=X0H (ok:=W6) (l:=l) (cs:=cs) (r:=r) (i:=i) (v:=x)
   refine X19 A.hst.sat O h4 Q ok g M fun a p N f=>?_
   rw[Z] at f⊢
   exact u N f
end Go.Proofs.YtjdiakhipmggjaaGreatDoor

namespace Go.Proofs.YtjdiakhipmggjaaGreatDoor
open Go.Emb Go.RowKit Go.Kd Go.Hm
variable {w w' : World} {K : Value → World → Prop} {σ σ' : Q6} {ds : List Value} {room : Int} {cs : List Cel} {l : List Cla} {hp tv : Value}
theorem Vt {B d:Nat} {D m:Nat→Prop} {i c:World} {b:Q6} {g h:List Cel} {a:List Value} {G:Bool→Prop} {f:Bool} (hG:G f) (N:Nxt D w σ i b) (y:HeapIs B m b i hp tv room g) (o: ∀j,m j→D j∨w.heap.size≤j) (n: ¬m d) (A:w.heap.size≤d)
 (z:Kpt (fun j=>j=d) i c) (q:X3 c b) (t:Y2 b c d a) (p:a.length=3) (s:D3 b (Q4 l,room,h) a)
 (hh: ∀a f w' σ' D',G f→Nxt D w σ w' σ'→HeapIs B D' σ' w' hp tv room g→(∀j,D' j→D j∨w.heap.size≤j)→D3 σ' (Q4 l,room,h) a→K (.tuple #[.agg a.toArray, .bool f]) w'):
 Y7 P T.a (.pointer (some ⟨d,0,none⟩)) c fun u=>K (.tuple #[u, .bool f]) c:=by
 refine V1 t p ?_
 have r:Nxt (fun j=>j=d) i b c b:=⟨z,SLe.refl _,fun _ _=>rfl,q⟩
 exact hh a f c b m hG (N.chain r fun j C e=>by omega) (y.nx r fun k v e=>n (e▸v)) o s
set_option maxHeartbeats 2000000 in
theorem X4g {B:Nat} {D:Nat→Prop} {x:ActH} {xs:List Value} {cr:List Cel} (hs:X3 w σ) (hg:Glb σ) (hB:B≤w.heap.size) (h:HeapIs B D σ w hp tv room cs) (hr:D3 σ (Q4 l,room,cr) ds) (ht:Tab σ tv (Q4 l)) (wf:Wf l) (ok:Ok (Q4 l)) (hlen:(Q4 l).length≤1000)
 (good:GoodH W6 (Q4 l) room cs) (goodr:GoodH W6 (Q4 l) room cr) (h1:room≤1048576) (hx:Bo σ x xs) (hD0: ∀k,D k→B≤k)
 (hh: ∀ds' bb w' σ' D',(cr=cs→bb=true)→Nxt D w σ w' σ'→HeapIs B D' σ' w' hp tv room (B3 W6 (Q4 l) room cs x)→(∀j,D' j→D j∨w.heap.size≤j)→D3 σ' (Q4 l,room,B3 W6 (Q4 l) room cr x) ds'→K (.tuple #[.agg ds'.toArray, .bool bb]) w'):Q1 P F.ai [hp, .agg ds.toArray, .agg xs.toArray] w K:=Q1J (by
 have hx0:=hx
 have hr0:=hr
 obtain ⟨lv,cv,rfl,hl,hc⟩:=D3.out hr
 obtain ⟨rfl,⟨b1,b2,b3,b4⟩,hv⟩:=hx
 have hcl:=K4 cs
 have hlf:=good.left
 unfold W4 at hlf
 have hclr:=K4 cr
 have hlr:=goodr.left
 unfold W4 at hlr
 unfold Hr
 refine Z1 hs fun q4 w1 σ1 hk1 hq4=>?_
 refine Z1 hk1.sat fun q5 w2 σ2 hk2 hq5=>?_
 have hS2:=hk1.trans hk2
 refine M8 hk2.sat fun b6 w3 σ3 hb6 hk3 hm6=>?_
 have hS3:=hS2.trans hk3
 have hB6:=N0 hb6 hS2
 have hq43:=(hq4.up hk2).up hk3
 have hq53:=hq5.up hk3
 have h3:=h.up hS3
 have hr3:=W8 hr0 ⟨hS3.le⟩
 have ht3:=ht.lift ⟨hS3.le⟩
 have hg3:=hg.lift ⟨hS3.le⟩
 refine W0 ?_
 refine ld (i:=0) hk3.sat hq53 rfl ?_
 refine P1 ?_
 have hDl: ∀k,D k→k<w.heap.size:=fun k hk=>(h.mem hk).2.1
 have htk:Y8 cs≤1048576:=by omega
 have htr:Y8 cr≤1048576:=by omega
 by_cases e0:x.kind=0
 ·rw[decide_eq_true e0]
  have ea:B3 W6 (Q4 l) room cs x=(Zr (Q4 l) room cs x.s).1:=by unfold B3;rw[if_pos e0]
  have er:B3 W6 (Q4 l) room cr x=(Zr (Q4 l) room cr x.s).1:=by unfold B3;rw[if_pos e0]
  rw[ea,er] at hh
  refine J5 ?_
  refine Y4 hk3.sat hq43 rfl ?_
  refine W0 ?_
  refine ld (i:=1) hk3.sat hq53 rfl ?_
  refine X0J hk3.sat hr3 ok hlen b2 goodr.left h1 fun ds' w4 σ4 hk4 hr4=>?_
  refine J6 (vs:=[_,_]) rfl ?_
  refine J6 (vs:=[_,_]) rfl ?_
  have hS4:=hS3.trans hk4
  refine M8 hk4.sat fun b8 w5 σ5 hb8 hk5 hm8=>?_
  have hS5:=hS4.trans hk5
  have hB8:=N0 hb8 hS4
  have hr5:=W8 hr4 ⟨hk5.le⟩
  obtain ⟨lv',cv',hde,_,_⟩:=D3.out hr4
  subst hde
  refine Mn (ds:=[lv',I room,cv']) hm8 rfl rfl (by rw[List.all_toArray];exact List.all_eq_true.2 (Rep.one hr5)) fun w6 u6 hm86=>?_
  obtain ⟨σ7,hS7,hq8,l57,o7⟩:=Q3x (x:=(Q4 l,room,(Zr (Q4 l) room cr x.s).1)) hS5 hB8 hm8 u6 hm86
  have l37:SLe σ3 σ7:=(SLe.more ⟨hk4.le⟩ ⟨hk5.le⟩).more l57
  have hb68:b6≠b8:=by have:=(hm6.up hk4).lt;omega
  have hm66:=((hm6.up hk4).up hk5).upd u6 hb68
  have hm67:Y2 σ7 w6 b6 _:=⟨(o7 b6 hb68).trans hm66.1,hm66.2⟩
  have hq57:=hq53.lift l37
  have hq47:=hq43.lift l37
  refine W0 ?_
  refine ld (i:=1) hS7.sat hq57 rfl ?_
  refine Q6d hS7.sat (Nat.le_trans hB hS7.bel.size) (h.up hS7) (ht.lift ⟨hS7.le⟩) ok b2 good.left h1 fun w8 σ8 D8 N8 h8 hD8=>?_
  refine J6 (vs:=[_,_]) rfl ?_
  refine J6 (vs:=[_,_]) rfl ?_
  have N:=(Nxt.of_stp (D:=D) hS7).chain N8 fun k _ e=>e
  have hm68:=hm67.nx N8 fun e=>by have:=hDl _ e;omega
  have hne8: ¬D8 b6:=fun e=>by
   have:=hm67.lt
   rcases hD8 _ e with e | e
   ·have:=hDl _ e;omega
   ·omega
  have hD8': ∀j,D8 j→D j∨w.heap.size≤j:=fun j hj=>(hD8 j hj).imp id fun e=>Nat.le_trans hS7.bel.size e
  have hq48:=hq47.lift N8.le
  have hq88:=hq8.lift N8.le
  have hc8:Sl 2 E5 σ8 cv cr:=hc.lift N.le
  have hr8:=W8 hr5 (l57.more N8.le)
  have hsame:cr=cs→(Zr (Q4 l) room cr x.s).2=(Zr (Q4 l) room cs x.s).2:=fun h=>by rw[h]
  generalize (Zr (Q4 l) room cs x.s).2=e at*
  generalize (Zr (Q4 l) room cr x.s).2=f at*
  refine Q60 (w0:=Hy w8) (σ0:=fun _=>none) (n:=3) [lv',I room,cv'] (A6 N8.sat) (Nat.zero_le _) hm68 rfl rfl ?_
  unfold atM
  by_cases hfe:f=e
  case neg=>
   have hz0:decide (f=e)=false:=decide_eq_false hfe
   (repeat (apply J0;(· intros;(have hzz:=VarB.hs (by assumption));(repeat (rename_i hx;subst hx));(try simp only[hz0,decide_true,Bool.not_true,Bool.not_false,Bool.false_eq_true,Bool.true_eq_false,reduceIte,↓M2,M2,Mb,reduceIte]);(repeat' (first | (with_reducible exact F4 rfl) | (with_reducible exact Zh (Stp.bel (by (repeat (first | exact Stp.refl (by (first | assumption | exact Stp.sat (by assumption) | exact Hst.sat (by assumption))) | assumption | refine Stp.trans ?_ (by first | assumption | exact Hst.stp (by assumption)))))) rfl) | (with_reducible intro _) | (simp only[↓M2,M2,Mb,reduceIte]) | (with_reducible show Q2 _ _ _ _ _;first | refine X7 aS aL aR ?_ | refine Y4 aS aL aR ?_ | refine ld aS aL aR ?_) | (with_reducible show indexAddr _ _ _ _ _ _;refine Y1 aL au ?_) | (with_reducible show X2 _ _ _ _ _ _ _ _;refine Q8 aL ?_) | (with_reducible show F3 _ _ _ _ _ _;refine Z9 aR ?_) | (with_reducible show pick _ _ _ _ _ _;refine M0 ?_) | (apply Vu;intro hh;(try simp only[hh,reduceIte,↓M2,M2,Mb,reduceIte]))));done)))
   refine Jx (φ:=fun v _=>Value.agg [lv',I room,cv'].toArray=v) rfl (Rep.one hr5) (fun v w h=>h) ?_ hm68.1
   intros
   rename_i hm9
   (repeat (rename_i hx;subst hx))
   rename_i w9 hb9
   exact Vt (G:=fun b=>cr=cs→b=true) (fun h=>absurd (hsame h) hfe) N h8 hD8' hne8 hB6 hb9.kp hb9.hst.sat hm9 rfl hr8 hh
  subst hfe
  by_cases e1:f=0
  ·subst e1
   simp only[reduceIte]
   have hz0:decide True=true:=decide_true _
   (repeat (apply J0;(· intros;(have hzz:=VarB.hs (by assumption));(repeat (rename_i hx;subst hx));(try simp only[hz0,decide_true,Bool.not_true,Bool.not_false,Bool.false_eq_true,Bool.true_eq_false,reduceIte,↓M2,M2,Mb,reduceIte]);(repeat' (first | (with_reducible exact F4 rfl) | (with_reducible exact Zh (Stp.bel (by (repeat (first | exact Stp.refl (by (first | assumption | exact Stp.sat (by assumption) | exact Hst.sat (by assumption))) | assumption | refine Stp.trans ?_ (by first | assumption | exact Hst.stp (by assumption)))))) rfl) | (with_reducible intro _) | (simp only[↓M2,M2,Mb,reduceIte]) | (with_reducible show Q2 _ _ _ _ _;first | refine X7 aS aL aR ?_ | refine Y4 aS aL aR ?_ | refine ld aS aL aR ?_) | (with_reducible show indexAddr _ _ _ _ _ _;refine Y1 aL au ?_) | (with_reducible show X2 _ _ _ _ _ _ _ _;refine Q8 aL ?_) | (with_reducible show F3 _ _ _ _ _ _;refine Z9 aR ?_) | (with_reducible show pick _ _ _ _ _ _;refine M0 ?_) | (apply Vu;intro hh;(try simp only[hh,reduceIte,↓M2,M2,Mb,reduceIte]))));done)))
   refine Jx (φ:=fun v _=>Value.agg [lv',I room,cv'].toArray=v) rfl (Rep.one hr5) (fun v w h=>h) ?_ hm68.1
   intros
   rename_i hm9
   (repeat (rename_i hx;subst hx))
   rename_i w9 hb9
   exact Vt (G:=fun b=>cr=cs→b=true) (fun h=>by rw[h];exact decide_eq_true rfl) N h8 hD8' hne8 hB6 hb9.kp hb9.hst.sat hm9 rfl hr8 hh
  ·simp only[if_neg e1]
   have hz0:decide (f=0)=false:=decide_eq_false e1
   (repeat (apply J0;(· intros;(have hzz:=VarB.hs (by assumption));(repeat (rename_i hx;subst hx));(try simp only[hz0,decide_true,Bool.not_true,Bool.not_false,Bool.false_eq_true,Bool.true_eq_false,reduceIte,↓M2,M2,Mb,reduceIte]);(repeat' (first | (with_reducible exact F4 rfl) | (with_reducible exact Zh (Stp.bel (by (repeat (first | exact Stp.refl (by (first | assumption | exact Stp.sat (by assumption) | exact Hst.sat (by assumption))) | assumption | refine Stp.trans ?_ (by first | assumption | exact Hst.stp (by assumption)))))) rfl) | (with_reducible intro _) | (simp only[↓M2,M2,Mb,reduceIte]) | (with_reducible show Q2 _ _ _ _ _;first | refine X7 aS aL aR ?_ | refine Y4 aS aL aR ?_ | refine ld aS aL aR ?_) | (with_reducible show indexAddr _ _ _ _ _ _;refine Y1 aL au ?_) | (with_reducible show X2 _ _ _ _ _ _ _ _;refine Q8 aL ?_) | (with_reducible show F3 _ _ _ _ _ _;refine Z9 aR ?_) | (with_reducible show pick _ _ _ _ _ _;refine M0 ?_) | (apply Vu;intro hh;(try simp only[hh,reduceIte,↓M2,M2,Mb,reduceIte]))));done)))
   refine Jx (φ:=fun v _=>Value.agg [lv',I room,cv'].toArray=v) rfl (Rep.one hr5) (fun v w h=>h) ?_ hm68.1
   intros
   rename_i hm9
   (repeat (rename_i hx;subst hx))
   rename_i w9 hb9
   exact Vt (G:=fun b=>cr=cs→b=true) (fun _=>rfl) N h8 hD8' hne8 hB6 hb9.kp hb9.hst.sat hm9 rfl hr8 hh
 rw[decide_eq_false e0]
 refine Z7 ?_
 refine P1 ?_
 by_cases e1k:x.kind=1
 ·rw[decide_eq_true e1k]
  have ea:B3 W6 (Q4 l) room cs x=(Zu (Q4 l) room cs x.s x.n).1:=by unfold B3;rw[if_neg e0,if_pos e1k]
  have er:B3 W6 (Q4 l) room cr x=(Zu (Q4 l) room cr x.s x.n).1:=by unfold B3;rw[if_neg e0,if_pos e1k]
  rw[ea,er] at hh
  refine J5 ?_
  refine Y4 hk3.sat hq43 rfl ?_
  refine W0 ?_
  refine ld (i:=1) hk3.sat hq53 rfl ?_
  refine W0 ?_
  refine ld (i:=2) hk3.sat hq53 rfl ?_
  refine X1E hk3.sat hr3 b2 goodr.left h1 fun ds' w4 σ4 hk4 hr4=>?_
  refine J6 (vs:=[_,_]) rfl ?_
  refine J6 (vs:=[_,_]) rfl ?_
  have hS4:=hS3.trans hk4
  refine M8 hk4.sat fun b8 w5 σ5 hb8 hk5 hm8=>?_
  have hS5:=hS4.trans hk5
  have hB8:=N0 hb8 hS4
  have hr5:=W8 hr4 ⟨hk5.le⟩
  obtain ⟨lv',cv',hde,_,_⟩:=D3.out hr4
  subst hde
  refine Mn (ds:=[lv',I room,cv']) hm8 rfl rfl (by rw[List.all_toArray];exact List.all_eq_true.2 (Rep.one hr5)) fun w6 u6 hm86=>?_
  obtain ⟨σ7,hS7,hq8,l57,o7⟩:=Q3x (x:=(Q4 l,room,(Zu (Q4 l) room cr x.s x.n).1)) hS5 hB8 hm8 u6 hm86
  have l37:SLe σ3 σ7:=(SLe.more ⟨hk4.le⟩ ⟨hk5.le⟩).more l57
  have hb68:b6≠b8:=by have:=(hm6.up hk4).lt;omega
  have hm66:=((hm6.up hk4).up hk5).upd u6 hb68
  have hm67:Y2 σ7 w6 b6 _:=⟨(o7 b6 hb68).trans hm66.1,hm66.2⟩
  have hq57:=hq53.lift l37
  have hq47:=hq43.lift l37
  refine W0 ?_
  refine ld (i:=1) hS7.sat hq57 rfl ?_
  refine W0 ?_
  refine ld (i:=2) hS7.sat hq57 rfl ?_
  refine Q7l hS7.sat (Nat.le_trans hB hS7.bel.size) (h.up hS7) (ht.lift ⟨hS7.le⟩) b2 good.left h1 fun w8 σ8 D8 N8 h8 hD8=>?_
  refine J6 (vs:=[_,_]) rfl ?_
  refine J6 (vs:=[_,_]) rfl ?_
  have N:=(Nxt.of_stp (D:=D) hS7).chain N8 fun k _ e=>e
  have hm68:=hm67.nx N8 fun e=>by have:=hDl _ e;omega
  have hne8: ¬D8 b6:=fun e=>by
   have:=hm67.lt
   rcases hD8 _ e with e | e
   ·have:=hDl _ e;omega
   ·omega
  have hD8': ∀j,D8 j→D j∨w.heap.size≤j:=fun j hj=>(hD8 j hj).imp id fun e=>Nat.le_trans hS7.bel.size e
  have hq48:=hq47.lift N8.le
  have hq88:=hq8.lift N8.le
  have hc8:Sl 2 E5 σ8 cv cr:=hc.lift N.le
  have hr8:=W8 hr5 (l57.more N8.le)
  have hsame:cr=cs→(Zu (Q4 l) room cr x.s x.n).2=(Zu (Q4 l) room cs x.s x.n).2:=fun h=>by rw[h]
  generalize (Zu (Q4 l) room cs x.s x.n).2=e at*
  generalize (Zu (Q4 l) room cr x.s x.n).2=f at*
  refine Q60 (w0:=Hy w8) (σ0:=fun _=>none) (n:=3) [lv',I room,cv'] (A6 N8.sat) (Nat.zero_le _) hm68 rfl rfl ?_
  unfold atM
  by_cases hfe:f=e
  case neg=>
   have hz0:decide (f=e)=false:=decide_eq_false hfe
   (repeat (apply J0;(· intros;(have hzz:=VarB.hs (by assumption));(repeat (rename_i hx;subst hx));(try simp only[hz0,decide_true,Bool.not_true,Bool.not_false,Bool.false_eq_true,Bool.true_eq_false,reduceIte,↓M2,M2,Mb,reduceIte]);(repeat' (first | (with_reducible exact F4 rfl) | (with_reducible exact Zh (Stp.bel (by (repeat (first | exact Stp.refl (by (first | assumption | exact Stp.sat (by assumption) | exact Hst.sat (by assumption))) | assumption | refine Stp.trans ?_ (by first | assumption | exact Hst.stp (by assumption)))))) rfl) | (with_reducible intro _) | (simp only[↓M2,M2,Mb,reduceIte]) | (with_reducible show Q2 _ _ _ _ _;first | refine X7 aS aL aR ?_ | refine Y4 aS aL aR ?_ | refine ld aS aL aR ?_) | (with_reducible show indexAddr _ _ _ _ _ _;refine Y1 aL au ?_) | (with_reducible show X2 _ _ _ _ _ _ _ _;refine Q8 aL ?_) | (with_reducible show F3 _ _ _ _ _ _;refine Z9 aR ?_) | (with_reducible show pick _ _ _ _ _ _;refine M0 ?_) | (apply Vu;intro hh;(try simp only[hh,reduceIte,↓M2,M2,Mb,reduceIte]))));done)))
   refine Jx (φ:=fun v _=>Value.agg [lv',I room,cv'].toArray=v) rfl (Rep.one hr5) (fun v w h=>h) ?_ hm68.1
   intros
   rename_i hm9
   (repeat (rename_i hx;subst hx))
   rename_i w9 hb9
   exact Vt (G:=fun b=>cr=cs→b=true) (fun h=>absurd (hsame h) hfe) N h8 hD8' hne8 hB6 hb9.kp hb9.hst.sat hm9 rfl hr8 hh
  subst hfe
  by_cases e1:f=0
  ·subst e1
   simp only[reduceIte]
   have hz0:decide True=true:=decide_true _
   (repeat (apply J0;(· intros;(have hzz:=VarB.hs (by assumption));(repeat (rename_i hx;subst hx));(try simp only[hz0,decide_true,Bool.not_true,Bool.not_false,Bool.false_eq_true,Bool.true_eq_false,reduceIte,↓M2,M2,Mb,reduceIte]);(repeat' (first | (with_reducible exact F4 rfl) | (with_reducible exact Zh (Stp.bel (by (repeat (first | exact Stp.refl (by (first | assumption | exact Stp.sat (by assumption) | exact Hst.sat (by assumption))) | assumption | refine Stp.trans ?_ (by first | assumption | exact Hst.stp (by assumption)))))) rfl) | (with_reducible intro _) | (simp only[↓M2,M2,Mb,reduceIte]) | (with_reducible show Q2 _ _ _ _ _;first | refine X7 aS aL aR ?_ | refine Y4 aS aL aR ?_ | refine ld aS aL aR ?_) | (with_reducible show indexAddr _ _ _ _ _ _;refine Y1 aL au ?_) | (with_reducible show X2 _ _ _ _ _ _ _ _;refine Q8 aL ?_) | (with_reducible show F3 _ _ _ _ _ _;refine Z9 aR ?_) | (with_reducible show pick _ _ _ _ _ _;refine M0 ?_) | (apply Vu;intro hh;(try simp only[hh,reduceIte,↓M2,M2,Mb,reduceIte]))));done)))
   refine Jx (φ:=fun v _=>Value.agg [lv',I room,cv'].toArray=v) rfl (Rep.one hr5) (fun v w h=>h) ?_ hm68.1
   intros
   rename_i hm9
   (repeat (rename_i hx;subst hx))
   rename_i w9 hb9
   exact Vt (G:=fun b=>cr=cs→b=true) (fun h=>by rw[h];exact decide_eq_true rfl) N h8 hD8' hne8 hB6 hb9.kp hb9.hst.sat hm9 rfl hr8 hh
  ·simp only[if_neg e1]
   have hz0:decide (f=0)=false:=decide_eq_false e1
   (repeat (apply J0;(· intros;(have hzz:=VarB.hs (by assumption));(repeat (rename_i hx;subst hx));(try simp only[hz0,decide_true,Bool.not_true,Bool.not_false,Bool.false_eq_true,Bool.true_eq_false,reduceIte,↓M2,M2,Mb,reduceIte]);(repeat' (first | (with_reducible exact F4 rfl) | (with_reducible exact Zh (Stp.bel (by (repeat (first | exact Stp.refl (by (first | assumption | exact Stp.sat (by assumption) | exact Hst.sat (by assumption))) | assumption | refine Stp.trans ?_ (by first | assumption | exact Hst.stp (by assumption)))))) rfl) | (with_reducible intro _) | (simp only[↓M2,M2,Mb,reduceIte]) | (with_reducible show Q2 _ _ _ _ _;first | refine X7 aS aL aR ?_ | refine Y4 aS aL aR ?_ | refine ld aS aL aR ?_) | (with_reducible show indexAddr _ _ _ _ _ _;refine Y1 aL au ?_) | (with_reducible show X2 _ _ _ _ _ _ _ _;refine Q8 aL ?_) | (with_reducible show F3 _ _ _ _ _ _;refine Z9 aR ?_) | (with_reducible show pick _ _ _ _ _ _;refine M0 ?_) | (apply Vu;intro hh;(try simp only[hh,reduceIte,↓M2,M2,Mb,reduceIte]))));done)))
   refine Jx (φ:=fun v _=>Value.agg [lv',I room,cv'].toArray=v) rfl (Rep.one hr5) (fun v w h=>h) ?_ hm68.1
   intros
   rename_i hm9
   (repeat (rename_i hx;subst hx))
   rename_i w9 hb9
   exact Vt (G:=fun b=>cr=cs→b=true) (fun _=>rfl) N h8 hD8' hne8 hB6 hb9.kp hb9.hst.sat hm9 rfl hr8 hh
 rw[decide_eq_false e1k]
 refine Z7 ?_
 refine P1 ?_
 have hv43:Z4 σ3 (q5.add 4) [I x.v.sort,I x.v.n,S x.v.s,I x.v.ref]:=hq53.tail (xs:=[_,_,_,_])
 have hvr:M7 σ x.v [I x.v.sort,I x.v.n,S x.v.s,I x.v.ref]:=⟨rfl,hv⟩
 by_cases e2k:x.kind=2
 ·rw[decide_eq_true e2k]
  have ea:B3 W6 (Q4 l) room cs x=(H5 W6 (Q4 l) cs x.ref x.n x.v).1:=by unfold B3;rw[if_neg e0,if_neg e1k,if_pos e2k]
  have er:B3 W6 (Q4 l) room cr x=(H5 W6 (Q4 l) cr x.ref x.n x.v).1:=by unfold B3;rw[if_neg e0,if_neg e1k,if_pos e2k]
  rw[ea,er] at hh
  have good':=(GoodH.set good x.ref x.n x.v).cells
  refine J5 ?_
  refine Y4 hk3.sat hq43 rfl ?_
  refine W0 ?_
  refine ld (i:=3) hk3.sat hq53 rfl ?_
  refine W0 ?_
  refine ld (i:=2) hk3.sat hq53 rfl ?_
  refine W0 ?_
  refine Y4 hk3.sat hv43 rfl ?_
  refine X41 hk3.sat hr3 wf ok hlen goodr.cells htr ⟨rfl,hv⟩ fun ds' w4 σ4 hk4 hr4=>?_
  refine J6 (vs:=[_,_]) rfl ?_
  refine J6 (vs:=[_,_]) rfl ?_
  have hS4:=hS3.trans hk4
  refine M8 hk4.sat fun b8 w5 σ5 hb8 hk5 hm8=>?_
  have hS5:=hS4.trans hk5
  have hB8:=N0 hb8 hS4
  have hr5:=W8 hr4 ⟨hk5.le⟩
  obtain ⟨lv',cv',hde,_,_⟩:=D3.out hr4
  subst hde
  refine Mn (ds:=[lv',I room,cv']) hm8 rfl rfl (by rw[List.all_toArray];exact List.all_eq_true.2 (Rep.one hr5)) fun w6 u6 hm86=>?_
  obtain ⟨σ7,hS7,hq8,l57,o7⟩:=Q3x (x:=(Q4 l,room,(H5 W6 (Q4 l) cr x.ref x.n x.v).1)) hS5 hB8 hm8 u6 hm86
  have l37:SLe σ3 σ7:=(SLe.more ⟨hk4.le⟩ ⟨hk5.le⟩).more l57
  have hb68:b6≠b8:=by have:=(hm6.up hk4).lt;omega
  have hm66:=((hm6.up hk4).up hk5).upd u6 hb68
  have hm67:Y2 σ7 w6 b6 _:=⟨(o7 b6 hb68).trans hm66.1,hm66.2⟩
  have hq57:=hq53.lift l37
  have hv47:=hv43.lift l37
  have hr7:=W8 hr5 l57
  have hbD: ¬D b6:=fun e=>by have:=hDl _ e;omega
  refine X2W (w0:=Hy w6) (σ0:=fun _=>none) (n:=3) (H5 W6 (Q4 l) cs x.ref x.n x.v).1 [lv',I room,cv'] (A6 hS7.sat) (Nat.zero_le _) (Nat.zero_le _) hbD hm67 rfl rfl (h.up hS7) ?_
  (repeat (apply J0;(· intros;(have hzz:=SetB.hs (by assumption));(repeat (rename_i hx;subst hx));(repeat' (first | (with_reducible exact Q69 rfl) | (with_reducible exact X24 (Stp.bel (by (repeat (first | exact Stp.refl (by (first | assumption | exact Stp.sat (by assumption) | exact Hst.sat (by assumption))) | assumption | refine Stp.trans ?_ (by first | assumption | exact Hst.stp (by assumption)))))) rfl) | (with_reducible intro _) | (simp only[↓M2,M2,Mb,reduceIte]) | (with_reducible show Q2 _ _ _ _ _;first | refine X7 aS aL aR ?_ | refine Y4 aS aL aR ?_ | refine ld aS aL aR ?_) | (with_reducible show indexAddr _ _ _ _ _ _;refine Y1 aL au ?_) | (with_reducible show X2 _ _ _ _ _ _ _ _;refine Q8 aL ?_) | (with_reducible show F3 _ _ _ _ _ _;refine Z9 aR ?_) | (with_reducible show pick _ _ _ _ _ _;refine M0 ?_)));done)))
  refine X29 (hg.lift ⟨hS7.le⟩) (ht.lift ⟨hS7.le⟩) ok good.cells good' ⟨rfl,hv⟩ hbD hm67.1 (fun _ _ h=>h) (fun _ _ h=>h) (fun _ _ h=>h) ?_
  refine J0 (V:= .bool (decide ((H5 W6 (Q4 l) cs x.ref x.n x.v).2=(H5 W6 (Q4 l) cr x.ref x.n x.v).2))) (fun t w hb ht=>?_) ?_
  ·obtain ⟨rfl,_,_⟩:=ht
   refine P1 ?_
   exact Q69 rfl
  refine X0k (φ:=fun v _=>Value.agg [lv',I room,cv'].toArray=v) rfl (Rep.one hr5) (fun v w h=>h) ?_ hm67.1 hbD
  intros
  rename_i hm9
  (repeat (rename_i hx;subst hx))
  rename_i hset
  (repeat (rename_i hx;subst hx))
  rename_i w9 hb9
  obtain ⟨_,hs9,h9⟩:=hset
  refine V1 hm9 rfl ?_
  have Nb:Nxt (fun j=>j=b6∨D j) w6 σ7 w9 σ7:=⟨hb9.kp,SLe.refl _,fun _ _=>rfl,hs9⟩
  exact hh _ _ w9 σ7 D (fun h=>by rw[h];exact decide_eq_true rfl) ((Nxt.of_stp (D:=D) hS7).chain Nb fun j hj e=>e.elim (fun e=>by omega) id) h9 (fun j hj=> .inl hj) hr7
 rw[decide_eq_false e2k]
 refine Z7 ?_
 refine P1 ?_
 by_cases e3k:x.kind=3
 ·rw[decide_eq_true e3k]
  have ea:B3 W6 (Q4 l) room cs x=cs:=by unfold B3;rw[if_neg e0,if_neg e1k,if_neg e2k,if_neg (by omega)]
  have er:B3 W6 (Q4 l) room cr x=cr:=by unfold B3;rw[if_neg e0,if_neg e1k,if_neg e2k,if_neg (by omega)]
  rw[ea,er] at hh
  refine J5 ?_
  refine Y4 hk3.sat hq43 rfl ?_
  refine W0 ?_
  refine ld (i:=3) hk3.sat hq53 rfl ?_
  refine W0 ?_
  refine ld (i:=2) hk3.sat hq53 rfl ?_
  refine X3r hk3.sat hr3 fun w4 σ4 hk4=>?_
  refine J6 (vs:=[_,_]) rfl ?_
  refine J6 (vs:=[_,_]) rfl ?_
  refine Y9 (sz:=4) hk4.sat aR aR Rt fun q8 w5 σ5 hk5 hq8=>?_
  have hk35:=hk4.trans hk5
  have hS5:=hS3.trans hk35
  have h5:=h.up hS5
  have hq55:=hq53.lift ⟨hk35.le⟩
  refine W0 ?_
  refine ld (i:=3) hk35.sat hq55 rfl ?_
  refine W0 ?_
  refine ld (i:=2) hk35.sat hq55 rfl ?_
  obtain ⟨σf,sf,lef,hsl,of⟩:=h5.freeze hk35.sat
  refine X3i sf hsl fun w6 σ6 hk6=>?_
  refine J6 (vs:=[_,_]) rfl ?_
  refine J6 (vs:=[_,_]) rfl ?_
  refine Y9 (sz:=4) hk6.sat aR aR Rt fun q9 w7 σ7 hk7 hq9=>?_
  have hk57:=hk6.trans hk7
  have hS57:=hk57.weak lef.le
  have hS7:=hS5.trans hS57
  have l57:SLe σ5 σ7:=lef.more ⟨hk57.le⟩
  have hbD: ¬D b6:=fun e=>by have:=hDl _ e;omega
  have hm65:=hm6.up hk35
  have hm6f:Y2 σf w5 b6 _:=⟨(of b6 hbD).trans hm65.1,hm65.2⟩
  have hm67:=hm6f.up hk57
  have hq47:=(hq43.lift ⟨hk35.le⟩).lift l57
  have hq87:=hq8.lift l57
  refine Q60 (w0:=Hy w7) (σ0:=fun _=>none) (n:=3) [lv,I room,cv] (A6 hk57.sat) (Nat.zero_le _) hm67 rfl rfl ?_
  have n5:σ5 b6=none:=hm65.1
  have hq97:=hq9
  by_cases hge:Hf cr x.ref x.n=Hf cs x.ref x.n
  ·have hz0:decide True=true:=decide_true _
   (repeat (apply J0;(· intros;(have hzz:=VarB.hs (by assumption));(repeat (rename_i hx;subst hx));(try simp only[hz0,decide_true,Bool.not_true,Bool.not_false,Bool.false_eq_true,Bool.true_eq_false,reduceIte,↓M2,M2,Mb,reduceIte]);(repeat' (first | (with_reducible exact F4 rfl) | (with_reducible exact Zh (Stp.bel (by (repeat (first | exact Stp.refl (by (first | assumption | exact Stp.sat (by assumption) | exact Hst.sat (by assumption))) | assumption | refine Stp.trans ?_ (by first | assumption | exact Hst.stp (by assumption)))))) rfl) | (with_reducible intro _) | (simp only[↓M2,M2,Mb,reduceIte]) | (with_reducible show Q2 _ _ _ _ _;first | refine X7 aS aL aR ?_ | refine Y4 aS aL aR ?_ | refine ld aS aL aR ?_) | (with_reducible show indexAddr _ _ _ _ _ _;refine Y1 aL au ?_) | (with_reducible show X2 _ _ _ _ _ _ _ _;refine Q8 aL ?_) | (with_reducible show F3 _ _ _ _ _ _;refine Z9 aR ?_) | (with_reducible show pick _ _ _ _ _ _;refine M0 ?_) | (apply Vu;intro hh;(try simp only[hh,reduceIte,↓M2,M2,Mb,reduceIte]))));done)))
   refine J0 (V:= .bool true) (by
    intros
    (repeat (rename_i hx;subst hx))
    refine Dr ?_
    exact F4 (by rw[hge,decide_eq_true rfl])) ?_
   (repeat (apply J0;(· intros;(have hzz:=VarB.hs (by assumption));(repeat (rename_i hx;subst hx));(try simp only[hz0,decide_true,Bool.not_true,Bool.not_false,Bool.false_eq_true,Bool.true_eq_false,reduceIte,↓M2,M2,Mb,reduceIte]);(repeat' (first | (with_reducible exact F4 rfl) | (with_reducible exact Zh (Stp.bel (by (repeat (first | exact Stp.refl (by (first | assumption | exact Stp.sat (by assumption) | exact Hst.sat (by assumption))) | assumption | refine Stp.trans ?_ (by first | assumption | exact Hst.stp (by assumption)))))) rfl) | (with_reducible intro _) | (simp only[↓M2,M2,Mb,reduceIte]) | (with_reducible show Q2 _ _ _ _ _;first | refine X7 aS aL aR ?_ | refine Y4 aS aL aR ?_ | refine ld aS aL aR ?_) | (with_reducible show indexAddr _ _ _ _ _ _;refine Y1 aL au ?_) | (with_reducible show X2 _ _ _ _ _ _ _ _;refine Q8 aL ?_) | (with_reducible show F3 _ _ _ _ _ _;refine Z9 aR ?_) | (with_reducible show pick _ _ _ _ _ _;refine M0 ?_) | (apply Vu;intro hh;(try simp only[hh,reduceIte,↓M2,M2,Mb,reduceIte]))));done)))
   refine Jx (φ:=fun v _=>Value.agg [lv,I room,cv].toArray=v) rfl (Rep.one hr3) (fun v w h=>h) ?_ hm67.1
   intros
   rename_i hm9
   (repeat (rename_i hx;subst hx))
   rename_i w9 hb9
   exact Vt (G:=fun b=>cr=cs→b=true) (fun h=>by rw[h];exact decide_eq_true rfl) (Nxt.of_stp (D:=D) hS7) (h5.up hS57) (fun j hj=> .inl hj) hbD hB6 hb9.kp (fun k o e=>hb9.hst.sat k o (l57.le k o e)) ⟨n5,hm9.2⟩ rfl (W8 hr0 ⟨hS7.le⟩) hh
  ·have hz0:decide True=true:=decide_true _
   (repeat (apply J0;(· intros;(have hzz:=VarB.hs (by assumption));(repeat (rename_i hx;subst hx));(try simp only[hz0,decide_true,Bool.not_true,Bool.not_false,Bool.false_eq_true,Bool.true_eq_false,reduceIte,↓M2,M2,Mb,reduceIte]);(repeat' (first | (with_reducible exact F4 rfl) | (with_reducible exact Zh (Stp.bel (by (repeat (first | exact Stp.refl (by (first | assumption | exact Stp.sat (by assumption) | exact Hst.sat (by assumption))) | assumption | refine Stp.trans ?_ (by first | assumption | exact Hst.stp (by assumption)))))) rfl) | (with_reducible intro _) | (simp only[↓M2,M2,Mb,reduceIte]) | (with_reducible show Q2 _ _ _ _ _;first | refine X7 aS aL aR ?_ | refine Y4 aS aL aR ?_ | refine ld aS aL aR ?_) | (with_reducible show indexAddr _ _ _ _ _ _;refine Y1 aL au ?_) | (with_reducible show X2 _ _ _ _ _ _ _ _;refine Q8 aL ?_) | (with_reducible show F3 _ _ _ _ _ _;refine Z9 aR ?_) | (with_reducible show pick _ _ _ _ _ _;refine M0 ?_) | (apply Vu;intro hh;(try simp only[hh,reduceIte,↓M2,M2,Mb,reduceIte]))));done)))
   refine J0 (V:= .bool false) (by
    intros
    (repeat (rename_i hx;subst hx))
    refine Dr ?_
    exact F4 (by rw[decide_eq_false hge])) ?_
   (repeat (apply J0;(· intros;(have hzz:=VarB.hs (by assumption));(repeat (rename_i hx;subst hx));(try simp only[hz0,decide_true,Bool.not_true,Bool.not_false,Bool.false_eq_true,Bool.true_eq_false,reduceIte,↓M2,M2,Mb,reduceIte]);(repeat' (first | (with_reducible exact F4 rfl) | (with_reducible exact Zh (Stp.bel (by (repeat (first | exact Stp.refl (by (first | assumption | exact Stp.sat (by assumption) | exact Hst.sat (by assumption))) | assumption | refine Stp.trans ?_ (by first | assumption | exact Hst.stp (by assumption)))))) rfl) | (with_reducible intro _) | (simp only[↓M2,M2,Mb,reduceIte]) | (with_reducible show Q2 _ _ _ _ _;first | refine X7 aS aL aR ?_ | refine Y4 aS aL aR ?_ | refine ld aS aL aR ?_) | (with_reducible show indexAddr _ _ _ _ _ _;refine Y1 aL au ?_) | (with_reducible show X2 _ _ _ _ _ _ _ _;refine Q8 aL ?_) | (with_reducible show F3 _ _ _ _ _ _;refine Z9 aR ?_) | (with_reducible show pick _ _ _ _ _ _;refine M0 ?_) | (apply Vu;intro hh;(try simp only[hh,reduceIte,↓M2,M2,Mb,reduceIte]))));done)))
   refine Jx (φ:=fun v _=>Value.agg [lv,I room,cv].toArray=v) rfl (Rep.one hr3) (fun v w h=>h) ?_ hm67.1
   intros
   rename_i hm9
   (repeat (rename_i hx;subst hx))
   rename_i w9 hb9
   exact Vt (G:=fun b=>cr=cs→b=true) (fun h=>absurd (by rw[h]) hge) (Nxt.of_stp (D:=D) hS7) (h5.up hS57) (fun j hj=> .inl hj) hbD hB6 hb9.kp (fun k o e=>hb9.hst.sat k o (l57.le k o e)) ⟨n5,hm9.2⟩ rfl (W8 hr0 ⟨hS7.le⟩) hh
 rw[decide_eq_false e3k]
 refine Z7 ?_
 refine P1 ?_
 by_cases e4k:x.kind=4
 ·rw[decide_eq_true e4k]
  have ea:B3 W6 (Q4 l) room cs x=Py cs x.ref:=by unfold B3;rw[if_neg e0,if_neg e1k,if_neg e2k,if_pos e4k]
  have er:B3 W6 (Q4 l) room cr x=Py cr x.ref:=by unfold B3;rw[if_neg e0,if_neg e1k,if_neg e2k,if_pos e4k]
  rw[ea,er] at hh
  refine J5 ?_
  refine W0 ?_
  refine ld (i:=3) hk3.sat hq53 rfl ?_
  refine X3I hk3.sat h3 htk b4 fun w4 σ4 D4 N4 h4 hD4=>?_
  have hq54:=hq53.lift N4.le
  have hq44:=hq43.lift N4.le
  refine Y4 N4.sat hq44 rfl ?_
  refine W0 ?_
  refine ld (i:=3) N4.sat hq54 rfl ?_
  refine X3L N4.sat (W8 hr3 N4.le) htr b4 fun ds' w5 σ5 hk5 hr5=>?_
  have hbD: ¬D b6:=fun e=>by have:=hDl _ e;omega
  have hm65:=(hm6.nx N4 hbD).up hk5
  obtain ⟨lv',cv',hde,_,_⟩:=D3.out hr5
  subst hde
  refine Mn (ds:=[lv',I room,cv']) hm65 rfl rfl (by rw[List.all_toArray];exact List.all_eq_true.2 (Rep.one hr5)) fun w6 u6 hm66=>?_
  have N:=(Nxt.of_stp (D:=D) hS3).chain (N4.trans (Nxt.of_stp hk5)) fun j _ e=>e
  exact Vt (G:=fun b=>cr=cs→b=true) (fun _=>rfl) N (h4.up hk5) (fun j hj=> .inl (hD4 j hj)) (fun e=>hbD (hD4 _ e)) hB6 (Kpt.of_upd u6 rfl) (u6.stp (A6 hk5.sat) (Nat.zero_le _) hm65.1).sat hm66 rfl hr5 hh
 rw[decide_eq_false e4k]
 refine Z7 ?_
 have ea:B3 W6 (Q4 l) room cs x=cs:=by unfold B3;rw[if_neg e0,if_neg e1k,if_neg e2k,if_neg e4k]
 have er:B3 W6 (Q4 l) room cr x=cr:=by unfold B3;rw[if_neg e0,if_neg e1k,if_neg e2k,if_neg e4k]
 rw[ea,er] at hh
 refine Y4 hk3.sat hq43 rfl ?_
 refine Mn (ds:=[lv,I room,cv]) hm6 rfl rfl (by rw[List.all_toArray];exact List.all_eq_true.2 (Rep.one hr3)) fun w6 u6 hm66=>?_
 have hbD: ¬D b6:=fun e=>by have:=hDl _ e;omega
 exact Vt (G:=fun b=>cr=cs→b=true) (fun _=>rfl) (Nxt.of_stp (D:=D) hS3) h3 (fun j hj=> .inl hj) hbD hB6 (Kpt.of_upd u6 rfl) (u6.stp (A6 hk3.sat) (Nat.zero_le _) hm6.1).sat hm66 rfl hr3 hh)
end Go.Proofs.YtjdiakhipmggjaaGreatDoor

namespace Go.Emb
theorem X4b {w:World} {A:World→Prop} (h:A w.drew):sq w A:=by rw[X1i];exact h
end Go.Emb
namespace Go.Proofs.YtjdiakhipmggjaaGreatDoor
open Go.Emb Go.RowKit Go.Kd Go.Hm
variable {w w' w0 : World} {K : Value → World → Prop} {σ σ' σ0 : Q6} {room : Int} {cs cr : List Cel} {hp tv : Value} {b6 : Nat}
structure RunG (w0 : World) (σ0 : Q6) (w : World) (σ : Q6) (hp tv : Value) (b6 : Nat) (room : Int) (cs cr : List Cel) : Prop where
  stp : Stp w0 σ0 w σ
  ex : ∃ D ds, HeapIs w0.heap.size D σ w hp tv room cs ∧ ¬ D b6 ∧ Y2 σ w b6 ds ∧ D3 σ (Q4 G8, room, cr) ds
  bge : w0.heap.size ≤ b6
  tab : Tab σ tv (Q4 G8)
  ok : Ok (Q4 G8)
  good : GoodH W6 (Q4 G8) room cs
  goodr : GoodH W6 (Q4 G8) room cr
  rm : room ≤ 1048576
abbrev Run (w0:World) (σ0:Q6) (w:World) (σ:Q6) (hp tv:Value) (b6:Nat) (room:Int) (cs:List Cel):Prop:=RunG w0 σ0 w σ hp tv b6 room cs cs
theorem RunG.up (R:RunG w0 σ0 w σ hp tv b6 room cs cr) (k:Stp w σ w' σ'):RunG w0 σ0 w' σ' hp tv b6 room cs cr:=by
 obtain ⟨D,ds,b,c,d,a⟩:=R.ex
 exact ⟨R.stp.trans k,⟨D,ds,b.up k,c,d.up k,W8 a ⟨k.le⟩⟩,R.bge,R.tab.lift ⟨k.le⟩,R.ok,R.good,R.goodr,R.rm⟩
theorem RunG.below (R:RunG w0 σ0 w σ hp tv b6 room cs cr) (k:Below w.heap.size w w'):RunG w0 σ0 w' σ hp tv b6 room cs cr:=R.up (Stp.of_below R.stp.sat k)
theorem RunG.takes (R:RunG w0 σ0 w σ hp tv b6 room cs cr):Y8 cs≤1048576:=by
 have a:=R.good.left
 have b:=R.rm
 unfold W4 at a
 omega
theorem RunG.freeze (R:RunG w0 σ0 w σ hp tv b6 room cs cr): ∃a ds,X3 w a∧SLe σ a∧H9 a hp tv room cs∧Y2 a w b6 ds∧D3 a (Q4 G8,room,cr) ds∧Tab a tv (Q4 G8):=by
 obtain ⟨D,ds,g,h,d,e⟩:=R.ex
 obtain ⟨a,f,b,c,of⟩:=g.freeze R.stp.sat
 exact ⟨a,ds,f,b,c,⟨(of b6 h).trans d.1,d.2⟩,W8 e b,R.tab.lift b⟩
theorem RunG.freezeL (R:RunG w0 σ0 w σ hp tv b6 room cs cr): ∃a ds,X3 w a∧SLe σ a∧H9 a hp tv room cs∧Z4 a ⟨b6,0,none⟩ ds∧D3 a (Q4 G8,room,cr) ds∧Tab a tv (Q4 G8):=by
 obtain ⟨a,ds,i,d,c,k,h,f⟩:=R.freeze
 obtain ⟨g,j,b,e,l⟩:=k.freeze i
 exact ⟨g,ds,j,d.more b,c.lift b,e,W8 h b,f.lift b⟩
theorem RunG.thaw {a:Q6} (R:RunG w0 σ0 w σ hp tv b6 room cs cr) (b:SLe σ a) (k:Stp w a w' σ'):RunG w0 σ0 w' σ hp tv b6 room cs cr:=R.up (k.weak b.le)
theorem RunG.act {x:ActH} {c0 ds:List Value} {D:Nat→Prop} (R:RunG w0 σ0 w σ hp tv b6 room cs cr) (t:Glb σ0) (f:HeapIs w0.heap.size D σ w hp tv room cs) (l: ¬D b6) (m:Y2 σ w b6 ds) (n:D3 σ (Q4 G8,room,cr) ds) (s:Bo σ x c0)
 (h: ∀a b w' σ' D',HeapIs w0.heap.size D' σ' w' hp tv room (B3 W6 (Q4 G8) room cs x)→ ¬D' b6→Y2 σ' w' b6 ds→D3 σ' (Q4 G8,room,B3 W6 (Q4 G8) room cr x) a→Stp w0 σ0 w' σ'→SLe σ σ'→(cr=cs→b=true)→K (.tuple #[.agg a.toArray, .bool b]) w'):Q1 P F.ai [hp, .agg ds.toArray, .agg c0.toArray] w K:=by
 refine X4g R.stp.sat (t.lift ⟨R.stp.le⟩) R.stp.bel.size f n R.tab Q1j R.ok (by decide) R.good R.goodr R.rm s (fun k i=>(f.mem i).1) fun a b u q o c g r j d=>?_
 have p:=m.lt
 exact h a b u q o r (fun e=>(j _ e).elim l fun e=>by omega) (m.nx g l) d (g.stp' R.stp fun k i=>(f.mem i).1) g.le c
theorem X3j {r:Int} (h:(Lit.int .u16 r).wf=true):0≤r:=by
 simp[Lit.wf,IntKind.min,IntKind.max,IntKind.signed,IntKind.bits] at h
 omega
theorem X1u {o:Operand} {r:Int} {A:Value→Value→Value→World→Prop} (N:X3 w σ) (E:Glb σ) (U:0≤r)
 (h: ∀a b b6 w' σ',Run w σ w' σ' (.pointer (some a)) (.pointer (some b)) b6 (r % 301) []→A (.pointer (some a)) (.pointer (some ⟨b6,0,none⟩)) (.bool false) w'):
 Q1 P F.ah [.int .u16 r] w fun n w=>ext P n 0 w fun m w=>ext P n 1 w fun v w=>W1 P T.a w fun H w=>X9 P T.a H v w fun _u w=>Q1 P F.aH [] w fun z w=>J8 P .not z w fun g w=>Q0 g false w (fun w J=>J m w) fun s w=>Q0 g false w (Q3 P .eql T.a5 o (.const (.pointer none)) s (.pointer none)) fun t w=>pick P g (.bool true) t w fun B w=>A m H B w:=by
 have i:=Int.emod_nonneg r (show (301:Int)≠0 by decide)
 have O:=Int.emod_lt_of_pos r (show (0:Int)<301 by decide)
 refine Q7u N E U fun b a D ds w1 σ1 d L f Q ok=>?_
 refine J6 (vs:=[_,_]) rfl ?_
 refine J6 (vs:=[_,_]) rfl ?_
 refine M8 d.sat fun V Z C k u l=>?_
 have y:=N0 k d
 refine Mn l rfl (by obtain ⟨lv,X,rfl,_⟩:=D3.out f;rfl) (by rw[List.all_toArray];exact List.all_eq_true.2 (Rep.one f)) fun M R p=>?_
 have c:Stp w1 σ1 M C:=R.stp u k l.1
 have j:=d.trans c
 have W:Run w σ M C (.pointer (some ⟨b,0,none⟩)) (.pointer (some a)) V (r % 301) []:=⟨j,⟨D,ds,L.up c,fun e=>by have:=(L.mem e).2.1;omega,p,W8 f ⟨c.le⟩⟩,y,Q.lift ⟨c.le⟩,ok,GoodH.empty i,GoodH.empty i,by omega⟩
 refine X2n c.sat (E.lift ⟨j.le⟩) fun w4 Y q=>?_
 simp only[Bool.not_true,↓M1,M1,Mb,reduceIte]
 refine Q9K ?_
 exact h _ _ _ _ _ (W.up q)
theorem X3A {J:World→Prop} {i:Nat} {xs:List ActH} {v:Value} (Y:Glb σ0) (X:Sl 8 Bo σ0 v xs) (u:i<xs.length) (R:Run w0 σ0 w σ hp tv b6 room cs)
 (h: ∀w' σ' c,Run w0 σ0 w' σ' hp tv b6 room c→c=cs∨c=B3 W6 (Q4 G8) room cs xs[i]→J w'):
 indexAddr P T.z v (I i) w fun B w=>Q2 P T.n B w fun o w=>Q1 P F.aA [o] w fun y w=>X1 y (sq w fun w=>indexAddr P T.z v (I i) w fun p w=>Q2 P T.a (.pointer (some ⟨b6,0,none⟩)) w fun r w=>Q2 P T.n p w fun t w=>Q1 P F.ai [hp,r,t] w fun l w=>ext P l 0 w fun n w=>ext P l 1 w fun Z w=>X9 P T.a (.pointer (some ⟨b6,0,none⟩)) n w fun _u w=>J w) (J w):=by
 have b:=X.up R.stp
 obtain ⟨c0,N,L,E⟩:=b.el u
 refine Y1 b u ?_
 refine Y4 R.stp.sat N L ?_
 refine X3F R.stp.sat E fun w1 q=>?_
 have O:=R.below q
 refine Q7 (fun _=>?_) (fun _=>h _ _ _ O (.inl rfl))
 refine X4b ?_
 have a:=O.below (Below.refl _ _).drew
 obtain ⟨D,ds,h1,W,H,m⟩:=a.ex
 refine Y1 b u ?_
 refine Rv H (by obtain ⟨M,C,rfl,_⟩:=D3.out m;rfl) ?_
 refine Y4 a.stp.sat N L ?_
 refine a.act Y h1 W H m E fun s bb w3 σ3 U V j d f g A _=>?_
 refine J6 (vs:=[_,_]) rfl ?_
 refine J6 (vs:=[_,_]) rfl ?_
 refine Mn d (by obtain ⟨M,C,rfl,_⟩:=D3.out m;rfl) (by obtain ⟨M,C,rfl,_⟩:=D3.out f;rfl) (by rw[List.all_toArray];exact List.all_eq_true.2 (Rep.one f)) fun w4 Q z=>?_
 have G:=GoodH.act Q1j Q3Q a.good xs[i]
 exact h _ _ _ ⟨Q.stp g a.bge d.1,⟨U,s,V.nx (Nxt.of_upd g.sat Q d.1) fun k hk e=>j (e▸hk),j,z,f⟩,a.bge,a.tab.lift A,a.ok,G,G,a.rm⟩ (.inr rfl)
theorem X2Z {o1 o2 Q X M Y:Operand} {k:Int} {E:World→Prop} {xs:List ActH} {v:Value} (D:Glb σ0) (C:Sl 8 Bo σ0 v xs) (R:Run w0 σ0 w σ hp tv b6 room cs)
 (h: ∀w' σ' c,Run w0 σ0 w' σ' hp tv b6 room c→E w'):
 lp (α:=Value) (.int .i64 0) w fun b x N w=>X2 P .len [T.z] T.e [false] [v] w fun y w=>Q3 P .lss T.e o1 o2 x y w fun a w=>Q0 a true w (fun w J=>J x w) fun t w=>Q0 a true w (Q3 P .lss T.e Q X t (.int .i64 k)) fun r w=>pick P a r (.bool false) w fun q w=>X1 q (jn (α:=Unit) w (fun J w=>
  indexAddr P T.z v x w fun B w=>Q2 P T.n B w fun n w=>Q1 P F.aA [n] w fun A w=>X1 A (sq w fun w=>indexAddr P T.z v x w fun o w=>Q2 P T.a (.pointer (some ⟨b6,0,none⟩)) w fun p w=>Q2 P T.n o w fun u w=>Q1 P F.ai [hp,p,u] w fun f w=>ext P f 0 w fun l w=>ext P f 1 w fun O w=>X9 P T.a (.pointer (some ⟨b6,0,none⟩)) l w fun _u w=>J () w) (J () w))
  fun z N w=>Q3 P .add T.e M Y x (.int .i64 1) w fun s w=>b s w) (E w):=by
 refine U0 xs.length (fun i w'=> ∃σ' c,Run w0 σ0 w' σ' hp tv b6 room c) ⟨σ,cs,R⟩ fun i w1 d hi W=>?_
 obtain ⟨σ1,H,j⟩:=W
 have e:=C.up j.stp
 have m:=e.max
 refine Q8 e ?_
 refine Z0 ?_
 cases L:decide ((i:Int)<(xs.length:Nat)) with
 | false=>
  (try simp only[↓M1,M1,Mb,reduceIte])
  exact h _ _ _ j
 | true=>
  (try simp only[↓M1,M1,Mb,reduceIte])
  have g:i<xs.length:=by simpa using L
  refine Q7 (fun _=>?_) (fun _=>h _ _ _ j)
  refine U6 ?_
  refine X3A D C g j fun w2 Z U V _=>fun d2=>?_
  (try simp only[↓M1,M1,Mb,reduceIte])
  exact Y5 m g ⟨_,_,V⟩
end Go.Proofs.YtjdiakhipmggjaaGreatDoor

namespace Go.Proofs.YtjdiakhipmggjaaGreatDoor
open Go.Emb Go.RowKit Go.Kd Go.Hm
variable {w w' w0 : World} {K : Value → World → Prop} {σ σ' σ0 : Q6} {room : Int} {cs : List Cel} {hp tv : Value} {b6 : Nat}
end Go.Proofs.YtjdiakhipmggjaaGreatDoor

namespace Go.Proofs.YtjdiakhipmggjaaGreatDoor
open Go.Emb Go.RowKit Go.Kd Go.Hm
variable {w w' w0 : World} {K : Value → World → Prop} {σ σ' σ0 : Q6} {room : Int} {cs : List Cel} {hp tv : Value} {b6 : Nat}
end Go.Proofs.YtjdiakhipmggjaaGreatDoor

namespace Go.Hm
open Go.Kd
variable {ok : X0 → Bool} {l : List Cla} {room : Int} {cs pre more : List Cel} {c : Cel} {k : X0} {n : Int}
end Go.Hm
namespace Go.Proofs.YtjdiakhipmggjaaGreatDoor
open Go.Emb Go.RowKit Go.Kd Go.Hm
variable {w w' w0 : World} {K : Value → World → Prop} {σ σ' σ0 : Q6} {room : Int} {cs : List Cel} {hp tv : Value} {b6 : Nat}
end Go.Proofs.YtjdiakhipmggjaaGreatDoor

namespace Go.Proofs.YtjdiakhipmggjaaGreatDoor
open Go.Emb Go.RowKit Go.Kd Go.Hm
variable {w w' w0 : World} {K : Value → World → Prop} {σ σ' σ0 σ1 : Q6} {room : Int} {cs cr : List Cel} {hp tv : Value} {b6 : Nat} {l : List Cla} {ds : List Value}
end Go.Proofs.YtjdiakhipmggjaaGreatDoor

namespace Go.Hm
open Go.Kd
variable {ok : X0 → Bool} {l : List Cla} {cs : List Cel} {r i : Int} {v : Val}
end Go.Hm
namespace Go.Proofs.YtjdiakhipmggjaaGreatDoor
open Go.Emb Go.RowKit Go.Kd Go.Hm
variable {w w' w0 : World} {K : Value → World → Prop} {σ σ' σ0 σ1 : Q6} {room : Int} {cs cr : List Cel} {hp tv : Value} {b6 : Nat} {l : List Cla} {ds : List Value} {ok : X0 → Bool} {r i : Int} {v : Val}
theorem X0G {B:Nat} {D:Nat→Prop} (e:X3 w σ) (h:HeapIs B D σ w hp tv room cs) (d:Y8 cs≤1048576) (m: ∀v w' D',Stp w σ w' σ→RowsIs w.heap.size D' σ w' v cs→K v w'):Q1 P F.ab [hp] w K:=by
 obtain ⟨o,k,a,c,_⟩:=h.freeze e
 refine Q7E k c d fun v f n g b j=>?_
 exact m v f g (b.weak a.le) (j.down (a.more ⟨b.le⟩))
end Go.Proofs.YtjdiakhipmggjaaGreatDoor

namespace Go.Emb
open Go.RowKit Go.Hm
section
variable {P : Program} {w w' w0 : World} {σ σ0 : Q6} {α : Type} {R : Q6 → α → List Value → Prop} {sz : Nat} {e : TypeId} {v u : Value} {xs : List α} {y : α}
theorem X38 {t Y V ft:TypeId} {U c:Nat} {L H O:Nat} {z z1 z':Value} {X:Nat} {K:World→Prop} [ts:TS P t e] [tz:TZ P e sz L z] [f:TF P Y U c ft] [tz1:TZ P ft X H z1] [nz:NZ X] [tz':TZ P V 1 O z'] (hS:Stp w0 σ0 w σ) (ha:J7 w0.heap.size e sz R σ w v xs) {n:Nat} (hn:n<xs.length) (ho:c<sz) (hc:u.cells= #[u]) (h1:u.oneCell'=true)
 (hy: ∀cs,R σ xs[n] cs→R σ y (cs.set c u))
 (h: ∀w',Kpt (fun k=>v.ownBlock=some k) w w'→Hst w0 σ0 w' σ→J7 w0.heap.size e sz R σ w' v (xs.set n y)→K w'):
 indexAddr P t v (I n) w (fun p w=>fieldAddr P Y p U w (fun p w=>X9 P V p u w (fun _ w=>K w))):=by
 obtain ⟨a,i,rfl,c1,c2,l,c3⟩:=ha
 obtain ⟨g,o,d,rfl,W,q2,Q,q4,q5⟩:=c3 (by omega)
 rw[Eb (by omega) (by omega)]
 have hh:n*sz+sz≤i*sz:=by rw[←Nat.succ_mul];exact Nat.mul_le_mul_right _ (by omega)
 have Z: ∀g o k:Nat,(⟨g,o,none⟩:Addr).add k=⟨g,o+k,none⟩:=fun g o k=>by unfold Addr.add;split<;>simp_all
 have C:((⟨g,o,none⟩:Addr).add ((n:Int).toNat*sz)).add c=⟨g,o+n*sz+c,none⟩:=by rw[Z,Z,Int.toNat_natCast]
 refine W0 ?_
 rw[C]
 have an:=Array.length_toList (xs:=d)
 have J:o+n*sz+c<d.toList.length:=by omega
 have q:=run_storeCells_at P g (o+n*sz+c) e [u] 0 d w Q (by simp;omega) (by simpa using h1)
 simp only[Nat.add_zero] at q
 have e2:(List.take (o+n*sz+c) d.toList++[u]++List.drop (o+n*sz+c+[u].length) d.toList).toArray=(d.toList.set (o+n*sz+c) u).toArray:=by
  rw[←Q3X J];simp
 rw[e2] at q
 obtain ⟨m,N⟩:=Yi (cs:=(d.toList.set (o+n*sz+c) u).toArray) Q
 unfold X9
 rw[Uw (w':=w.setRow g (d.toList.set (o+n*sz+c) u).toArray) (by simp[Instr.storeAt,Instr.sureAddr,storeVar,W5 tz',hc,q])]
 have hk:Kpt (fun k=>(Value.slice (some ⟨g,o,none⟩) xs.length i).ownBlock=some k) w (w.setRow g (d.toList.set (o+n*sz+c) u).toArray):=Kpt.of_upd m rfl
 refine h _ hk ⟨m.stp hS W q2⟩ ⟨_,i,by rw[List.length_set],by rw[List.length_set];exact c1,c2,fun b E=>⟨(l b E).1,(l b E).2.1,by rw[m.size];exact (l b E).2.2.1,(l b E).2.2.2⟩,fun _=>⟨g,o,_,rfl,W,q2,N,?_,fun j x s=>?_⟩⟩
 ·simp;omega
 ·rw[List.toList_toArray]
  have r:j<xs.length:=by have:=(List.getElem?_eq_some_iff.1 s).1;simpa using this
  have am:j*sz+sz≤i*sz:=by rw[←Nat.succ_mul];exact Nat.mul_le_mul_right _ (by omega)
  by_cases hj:j=n
  ·subst hj
   rw[List.getElem?_set_self r] at s
   cases s
   have:=hy _ (q5 j xs[j] (List.getElem?_eq_getElem r))
   rw[List.drop_set,if_neg (by omega),List.take_set,show o+j*sz+c-(o+j*sz)=c by omega]
   exact this
  ·rw[List.getElem?_set_ne (by omega)] at s
   have:=q5 j x s
   rcases Nat.lt_or_gt_of_ne hj with A | hgt
   ·have M:j*sz+sz≤n*sz:=by rw[←Nat.succ_mul];exact Nat.mul_le_mul_right _ A
    rw[List.drop_set,if_neg (by omega),List.take_set,List.set_eq_of_length_le (by rw[List.length_take];omega)]
    exact this
   ·have M:n*sz+sz≤j*sz:=by rw[←Nat.succ_mul];exact Nat.mul_le_mul_right _ hgt
    rw[List.drop_set,if_pos (by omega)]
    exact this
end
end Go.Emb
namespace Go.Proofs.YtjdiakhipmggjaaGreatDoor
open Go.Emb Go.RowKit Go.Kd Go.Hm
variable {w w' w0 : World} {K : Value → World → Prop} {σ σ' σ0 σ1 : Q6} {room : Int} {cs cr : List Cel} {hp tv lv : Value} {b6 B : Nat} {D : Nat → Prop}
theorem Q9z {E:World→Prop} {j:Nat} {s:X0} (J:X3 w σ) (h:RowsIs B D σ w lv cs) (C:j<cs.length) (H:s.length≤U1) (b: ∀w',Kpt D w w'→X3 w' σ→RowsIs B D σ w' lv (cs.set j ⟨s,cs[j].vals⟩)→E w'):
 indexAddr P T.f lv (I j) w fun p w=>fieldAddr P T.m p 0 w fun p w=>X9 P T.c p (S s) w fun _ w=>E w:=by
 obtain ⟨vs,t,c,z,hD⟩:=h.ex
 obtain ⟨m,Q⟩:=List.pairwise_cons.1 z
 have M:j<vs.length:=by rw[c.1];exact C
 have n:j<(R8 vs cs).length:=by rw[Yq c.1];exact C
 have O:(R8 vs cs)[j]=(cs[j].kind,vs[j]):=by simp[R8]
 refine X38 (w0:=Hy w) (σ0:=fun _=>none) (y:=(s,vs[j])) (A6 J) (t.mono (Nat.zero_le _)) n (by decide) rfl rfl (fun c0 r=>?_) fun L a g f=>?_
 ·rw[O] at r
  obtain ⟨rfl,_,q⟩:=r
  exact ⟨rfl,H,q⟩
 ·have l:=a.mono (D':=D) fun k _ e=>(hD k).2 ⟨lv,by simp,e⟩
  refine b L l g.sat ⟨vs,?_,⟨by simpa using c.1,fun i A o=>?_⟩,z,hD⟩
  ·have e:R8 vs (cs.set j ⟨s,cs[j].vals⟩)=(R8 vs cs).set j (s,vs[j]):=by
    refine List.ext_getElem (by simp[R8]) fun i U q=>?_
    simp only[R8,List.getElem_zipWith,List.getElem_set]
    split
    ·rename_i e;subst e;rfl
    ·rfl
   rw[e]
   exact f.raise fun k b=>(t.mem b).1
  ·have d:i<cs.length:=by simpa using o
   have N:(cs.set j ⟨s,cs[j].vals⟩)[i].vals=cs[i].vals:=by
    simp only[List.getElem_set]
    split
    ·rename_i e;subst e;rfl
    ·rfl
   rw[N]
   exact (c.2 i A d).kp a fun k b e=>m _ (List.getElem_mem A) k e b
theorem Q9D {E:Value→World→Prop} {j:Nat} (o:X3 w σ) (h:RowsIs B D σ w lv cs) (l:j<cs.length) (z: ∀a b,cs[j].vals.length≤9223372036854775807→E (.slice a cs[j].vals.length b) w):
 indexAddr P T.f lv (I j) w fun p w=>fieldAddr P T.m p 1 w fun p w=>Q2 P T.l p w fun v w=>E v w:=by
 obtain ⟨vs,H,f,t,n,g,d,_,_⟩:=h.rows o
 have k:j<vs.length:=by rw[f];exact l
 have c:j<(R8 vs cs).length:=by rw[Yq f];exact l
 obtain ⟨c0,A,_,m⟩:=g.el c
 have s:(R8 vs cs)[j]=(cs[j].kind,vs[j]):=by simp[R8]
 rw[s] at m
 obtain ⟨rfl,_⟩:=m
 refine Y1 g c ?_
 refine W0 ?_
 refine ld (i:=1) t A rfl ?_
 obtain ⟨a,b,r,C,q,_⟩:=(d j k l).1
 rw[r]
 refine z a b ?_
 simp only[maxLen] at q
 omega
theorem X0r {E:World→Prop} {j m:Nat} {x:Val} {c0:List Value} {G:World→(Value→World→Prop)→Prop} (C:X3 w σ) (h:RowsIs B D σ w lv cs) (o:j<cs.length) (O:m<cs[j].vals.length) (s:M7 σ x c0) (A: ∀w',Kpt D w w'→X3 w' σ→RowsIs B D σ w' lv (cs.set j ⟨cs[j].kind,cs[j].vals.set m x⟩)→E w') (hG: ∀J:Value→World→Prop,J (.agg c0.toArray) w→G w J):
 indexAddr P T.f lv (I j) w fun p w=>fieldAddr P T.m p 1 w fun p w=>Q2 P T.l p w fun v w=>G w fun u w=>indexAddr P T.l v (I m) w fun p w=>X9 P T.g p u w fun _ w=>E w:=by
 obtain ⟨vs,W,l,Q,M,n,g,_,f⟩:=h.rows C
 have c:j<vs.length:=by rw[l];exact o
 have d:j<(R8 vs cs).length:=by rw[Yq l];exact o
 obtain ⟨V,U,_,L⟩:=n.el d
 have N:(R8 vs cs)[j]=(cs[j].kind,vs[j]):=by simp[R8]
 rw[N] at L
 obtain ⟨rfl,_⟩:=L
 refine Y1 n d ?_
 refine W0 ?_
 refine ld (i:=1) Q U rfl ?_
 refine hG _ ?_
 obtain ⟨b,z⟩:=g j c o
 have t:c0.length=4:=by obtain ⟨rfl,_⟩:=s;rfl
 refine Q1p (w0:=Hy w) (σ0:=fun _=>none) (x:=x) (A6 C) (b.mono (Nat.zero_le _)) O t s (Rep.one s) fun p u H a r q=>?_
 exact A H (a.mono fun k _ e=>z k e) r.sat (f j c o _ H a (q.raise fun k A=>(b.mem A).1))
theorem X0q (g:X3 w σ) (hh:H9 σ hp tv room cs) (d:Y8 cs≤1048576) (h: ∀v w' σ',Stp w σ w' σ'→Sl 2 E5 σ' v cs→K v w'):Q1 P F.ab [hp] w K:=by
 refine Q7E g hh d fun v i p q a c=>?_
 obtain ⟨f,j,l,n,m⟩:=c.freeze a.sat
 exact h v i f ⟨a.bel,j,fun k o e=>l.le k o (a.le k o e),fun k b=>(m k fun e=>by have:=(c.mem e).1;omega).trans (a.old k b)⟩ n
set_option maxHeartbeats 1000000 in
theorem Q6B {r:Int} {v:Value} {xs:List ActH} (hs:X3 w σ) (hg:Glb σ) (q:(Lit.int .u16 r).wf=true) (hv:Sl 8 Bo σ v xs)
 (h: ∀w' σ',Stp w σ w' σ'→K (.bool true) w'):Q1 P F.c7 [.int .u16 r,v] w K:=Sd (by
 have aj:0≤r:=X3j q
 unfold Jw
 refine X1u hs hg aj fun a b b6 w1 σ1 R1=>?_
 refine Z7 ?_
 refine X2Z hg hv R1 fun t g c M=>?_
 obtain ⟨D,ds,h1,h2,h3,h4⟩:=M.ex
 refine X0G M.stp.sat h1 M.takes fun cv w3 Q ai ab=>?_
 have bl:=K4 c
 have Z:=M.takes
 have step: ∀{wa wb:World} {csa},Stp t g wa g→RowsIs t.heap.size Q g wa cv csa→Kpt Q wa wb→Stp t g wb g:=fun S q k=>S.kp k fun j hj=>⟨(q.mem hj).1,(q.mem hj).2.2⟩
 refine U0 c.length (fun i w'=>Stp t g w' g∧ ∃f,f.length=c.length∧RowsIs t.heap.size Q g w' cv f) ⟨ai,c,rfl,ab⟩ fun i w4 d hi hk=>?_
 obtain ⟨S4,A,L,p⟩:=hk
 obtain ⟨ac,aw,o⟩:=p.len
 have a4:=o
 rw[L] at o
 rw[o,Rk]
 refine Z0 ?_
 refine Q7 (fun E=>?_) (fun E=>?_)
 ·have an:i<c.length:=by simpa using E
  have l:i<A.length:=by omega
  rw[←o]
  refine Q9z (s:=[120]) S4.sat p l (by decide) fun w5 C s5 ar=>?_
  have S5:=step S4 p C
  have hN:A[i].vals.length≤9223372036854775807:=by
   obtain ⟨vs,_,q,_,_⟩:=p.ex
   obtain ⟨_,_,_,h1,h2,_⟩:=q.2 i (by rw[q.1];exact l) l
   simp only[maxLen] at h2
   omega
  generalize hL:A[i].vals.length=N at hN
  refine U0 N (fun m w'=>Stp t g w' g∧ ∃f,f.length=c.length∧RowsIs t.heap.size Q g w' cv f∧ ∃h:i<f.length,f[i].vals.length=N) ⟨S5,_,by simpa using L,ar,by simpa using l,by simpa using hL⟩ fun m w6 d6 hm V=>?_
  obtain ⟨U,H,J,n,z,am⟩:=V
  refine Q9D U.sat n z fun a6 a1 _=>?_
  rw[Rk]
  refine Z0 ?_
  refine Q7 (fun O=>?_) (fun O=>?_)
  ·have ad:m<H[i].vals.length:=by simpa using O
   refine X0r (x:=⟨9,0,[],0⟩) (c0:=[I 9,I 0,S [],I 0]) (G:=fun w K=>E3 P T.g [(0,I 9)] w K) U.sat n z ad ⟨rfl,by decide,by decide,by decide,by decide⟩ (fun w7 k7 s7 ao=>?_) (fun K' hK=>V6 (cells:= #[I 9,I 0,S [],I 0]) (by kernel_rfl) hK)
   (try simp only[↓M1,M1,Mb,reduceIte])
   exact Y5 hN (by omega) ⟨step U n k7,_,by simpa using J,ao,by simpa using z,by simpa using am⟩
  ·(try simp only[↓M1,M1,Mb,reduceIte])
   exact Y5 (by omega) an ⟨U,H,J,n⟩
 ·have R4:=M.up S4
  obtain ⟨σf,bd,sf,W,af,lb,Y,bc⟩:=R4.freezeL
  obtain ⟨be,a8,rfl,_,aq⟩:=D3.out Y
  refine U2 sf ?_
  (repeat refine J0 A8 ?_)
  refine Uu (w:=w4) (σ:=σf) (Φ:=fun σ' v=>Sl 2 E5 σ' v c) (fun w hb=>?_) ?_
  ·exact X0q hb.sat af Z fun v' w' σ' hk ae=>Hi hb hk ae
  (repeat refine J0 A8 ?_)
  intros
  rename_i X;subst X
  rename_i al
  rename_i X;subst X
  rename_i w5 bf
  obtain ⟨σ5,C,ap⟩:=al
  refine X39 C.sat ap (aq.lift ⟨C.le⟩) fun w6 ah=>?_
  exact h _ _ (R4.thaw W (C.trans (Stp.of_below C.sat ah))).stp)
end Go.Proofs.YtjdiakhipmggjaaGreatDoor

namespace Go.Proofs.YtjdiakhipmggjaaGreatDoor.heapApart
open Go.ChangeShapes Go.WideShapes Go.ChangeAt Go.RowKit
open Go.Emb
theorem own : ownKnob Tryz.prog.godebug = none := by kernel_rfl
theorem lay : laidOutB Tryz.prog = true := by kernel_rfl
set_option maxRecDepth 100000 in
theorem X2X (os : Os) (started : os.Started) (H : Type) (enc : TypeId × Value → H) :
    ReturnsInHanded {} Tryz.checked os 10 .any (fun w args => (Rows.heapApartSpec.pre enc Tryz.prog Tryz.f10 [] false w args ∧ laidMetH Tryz.prog laidAll w) ∧ sizedMet enc Tryz.prog Tryz.f10 (OpenSpec.ofChange Rows.heapApartSpec) false w args) (Rows.heapApartSpec.post enc Tryz.prog Tryz.f10 false true false false) := by
  refine returnsInHanded_of_change_and (C := Tryz.checked) (X := fun w _ => laidMetH Tryz.prog laidAll w) (fun _ _ _ hh h => h.of_heap hh) own started (by kernel_rfl) Tryz.func10
    (ChangeSpec.witness_shaped (enc := enc) (C := Tryz.checked) (os := os) (X := fun w _ => laidMetH Tryz.prog laidAll w) false (World.laidAll Tryz.prog os laidAll) #[.int .u16 0, .slice none 0 0] 8 (World.laidAll_os _ _ _)
      (World.shaped_of_ZipB (by kernel_rfl) (by kernel_rfl)) (by kernel_rfl) (by kernel_rfl) (by kernel_rfl) (by rw [MakeChecks.laidMetH_plain _ _ _ (by kernel_rfl)]; exact laidMet_laidAll _ (by kernel_rfl) (by kernel_rfl))) ?_
  intro W base args ds gs before hval0 hW _ hsz0 hL _
  have hsz : (DataW.weightsEach Tryz.prog (Tryz.f10.params.toList ++ Rows.heapApartSpec.plain.varTypes Tryz.prog) (ds ++ gs)).all (· ≤ reachBytes) = true := hsz0
  have hval : ∀ (j : Nat) t v, Tryz.f10.params[j]? = some t → args[j]? = some v → Value.okWide Tryz.prog W .any base t v := hval0
  have hW' := hW
  obtain ⟨p, q, hA0, hV, rfl, hfz, hnd⟩ := hW
  have hA : DataW.TrodAll enc Tryz.prog W 0 (fun _ => true) true Tryz.f10.params.toList args.toList ds p := hA0
  have hlt := DataW.TrodAll.lt hA
  rw [Tryz.params10] at hA hval hsz
  obtain ⟨v0, vs0, d0, ds0, p0, q0, hargs, rfl, rfl, h0, r0⟩ := trodAll_cons hA
  obtain ⟨v1, vs1, d1, ds1, p1, q1, rfl, rfl, rfl, h1, r1⟩ := trodAll_cons r0
  obtain ⟨rfl, rfl, rfl⟩ := trodAll_nil r1
  obtain rfl : args = #[v0, v1] := by cases args; simp_all
  obtain ⟨rfl, rfl⟩ := trodVars_none hV
  have g0 : ∀ x ∈ p0, x.block < W.heap.size := fun x hx => hlt x (by simp [hx])
  have k0 := fun (W' : World) (bel : Below W.heap.size W W') => Below.trod lay (by kernel_rfl) (of_decide_eq_true (by kernel_rfl)) h0 bel g0
  obtain ⟨a0, rfl, _, _, w0⟩ := open_int Tryz.underlying43 (hval 0 43 v0 rfl rfl) h0
  have g1 : ∀ x ∈ p1, x.block < W.heap.size := fun x hx => hlt x (by simp [hx])
  have k1 := fun (W' : World) (bel : Below W.heap.size W W') => Below.trod lay (by kernel_rfl) (of_decide_eq_true (by kernel_rfl)) h1 bel g1
  obtain ⟨l1, e1⟩ := X1V (hval 1 44 v1 rfl rfl) h1 (X30 hsz (j := 1) (t := 44) rfl rfl)
  have hc : Q1 Tryz.prog 10 [.int .u16 a0, v1] W (fun e w' => e = .bool true ∧ Below W.heap.size W w') := Q6B Q9g (X2R hL) w0 e1 (fun w' σ' hb => ⟨rfl, hb.bel⟩)
  refine (Q3S Tryz.func10 (by kernel_rfl) (by kernel_rfl) hc).mono fun e W' he => ?_
  obtain ⟨v, rfl⟩ : ∃ v, e = .returned v := by cases e <;> first | exact ⟨_, rfl⟩ | exact he.elim
  obtain ⟨rfl, bel⟩ := he
  exact ⟨_, rfl, _, _, _, [], _, [], hW', trodAll_mk1 (shut_bool Tryz.underlying4 _), (trodAll_cons_mk (k0 W' bel) (trodAll_cons_mk (k1 W' bel) trodAll_mk0)), rfl, bel.frame _, fun h => by cases h⟩
theorem over : Rows.heapApartRow.holds Tryz.pinned (OpenSpec.ofChange Rows.heapApartSpec) :=
  OpenClaim.holds_of_wide 10 Tryz.f10 rfl rfl rfl rfl rfl rfl rfl ⟨rfl, rfl, rfl, rfl, rfl⟩ rfl rfl rfl rfl rfl (by kernel_rfl) Tryz.func10 (by kernel_rfl)
    (of_decide_eq_true (by kernel_rfl)) (by unfold Func.isWrapper; first | (rw [if_pos (by decide +kernel)]; kernel_rfl) | (rw [if_neg (by decide +kernel)]; exact ⟨rfl, rfl⟩))
    (fun os started H enc _ => X2X os started H enc)
end Go.Proofs.YtjdiakhipmggjaaGreatDoor.heapApart
namespace Go.Proofs.YtjdiakhipmggjaaGreatDoor
theorem Q2S : Rows.HeapApartSaid := heapApart.over
end Go.Proofs.YtjdiakhipmggjaaGreatDoor
