/- Parts of a proof about the given program: its functions as texts of their own, what each computes, plain laws of that. The conditions of each stand in its statement. -/
import Derived.Test.YtfppjenblllfaaaGreatDoorB5
import Derived.Test.YtfppjenblllfaaaGreatDoorB4
import Derived.Test.YtfppjenblllfaaaGreatDoorRows
import Derived.WalkKit
import Derived.ProofKit
import Derived.OpenShut
import Derived.ShutString
import Derived.ChangeOld
import Derived.Below
import Derived.SizedLaws
import Derived.Lay
import Derived.Carry
import Derived.MakeChecks
import Derived.PinnedBridge
set_option linter.unnecessarySimpa false
set_option linter.defProp false
set_option linter.unusedSectionVars false
set_option linter.unusedVariables false
set_option linter.unusedSimpArgs false
namespace Go.Proofs.YtfppjenblllfaaaGreatDoor
open Go.Emb Go.RowKit Go.Kd Go.Hm
variable {w : World} {K : Value → World → Prop} {σ : Q5} {l : List Cla} {v : Value}
theorem Q7e:(C4 l).length=l.length:=by simp[C4]
theorem Q88 {i:Nat} (a:i<(C4 l).length):(C4 l)[i]=(List.range l.length).map fun j=>A0 l (X9 l i) (X9 l j):=by simp[C4]
theorem Sl.elB {xs:List (List Bool)} {v:Value} (h:Sl 1 Q4g σ v xs) {i:Nat} (b:i<xs.length): ∃u,Z2 σ (Ih 1 v i) [u]∧Sl 1 Q1l σ u xs[i]:=by
 obtain ⟨cs,c,d,u,rfl,a⟩:=h.el b;exact ⟨u,c,a⟩
theorem Sl.elb {xs:List Bool} {v:Value} (h:Sl 1 Q1l σ v xs) {i:Nat} (b:i<xs.length):Z2 σ (Ih 1 v i) [.bool xs[i]]:=by
 obtain ⟨cs,c,d,a⟩:=h.el b
 have a:cs=_:=a
 subst a;exact c
theorem Q66 {a b:Q9} (n:X4 w σ) (t:Sl 8 U4 σ v (Q3 l)) (p:Wf l) (ok:Ok (Q3 l)) (J:(Q3 l).length≤1000) (X:a.length≤Z9) (hb:b.length≤Z9) (h: ∀w' σ',Stp w σ w' σ'→K (.bool (V0 (Q3 l) a b)) w'):Q1 P F.aP [v,S a,S b] w K:=Te (by
 unfold Nt
 have q: ∀r,V0 (Q3 l) a b=r→K (.bool r) w:=fun r e=>by rw[←e];exact h _ _ (Stp.refl n)
 refine Ec n t X ?_
 cases g:M4 (Q3 l) a with
 | false=>
  have O:V0 (Q3 l) a b=false:=by unfold V0;simp[g]
  (try simp only[↓M1,M1,Mb,reduceIte])
  by_cases e:a=b
  ·have f:decide (a=b)=true:=by simpa using e
   simp only[f,↓M1,M1,Mb,reduceIte]
   refine Ec n t X ?_
   rw[g]
   (try simp only[↓M1,M1,Mb,reduceIte])
   exact q _ O
  ·have f:decide (a=b)=false:=by simpa using e
   simp only[f,↓M1,M1,Mb,reduceIte]
   exact q _ O
 | true=>
 (try simp only[↓M1,M1,Mb,reduceIte])
 refine Ec n t hb ?_
 cases m:M4 (Q3 l) b with
 | false=>
  have O:V0 (Q3 l) a b=false:=by unfold V0;simp[m]
  have f:decide (a=b)=false:=by
   rw[decide_eq_false_iff_not];rintro rfl;rw[g] at m;cases m
  simp only[f,↓M1,M1,Mb,reduceIte]
  exact q _ O
 | true=>
 (try simp only[↓M1,M1,Mb,reduceIte])
 by_cases e:a=b
 ·have f:decide (a=b)=true:=by simpa using e
  simp only[f,↓M1,M1,Mb,reduceIte]
  refine Ec n t X ?_
  rw[g]
  (try simp only[↓M1,M1,Mb,reduceIte])
  exact q _ (p.sub_iff.2 ⟨g,m, .inl e⟩)
 have f:decide (a=b)=false:=by simpa using e
 simp only[f,↓M1,M1,Mb,reduceIte]
 refine Oc _ ?_
 have c:(∀(_:plain a=false∧plain b=false∧(a=O9∨(elem a≠[]∧b=Z7)∨(lk (Q3 l) a≠none∧Hm.Reach (lk (Q3 l)) a b))),False)→K (.bool false) w:=fun hx=>q _ (eq_false_of_ne_true fun Z=>by
  obtain ⟨_,_,h3⟩:=p.sub_iff.1 Z
  rcases h3 with h3 | h3
  ·exact e h3
  ·exact hx h3)
 cases y:plain a with
 | true=>(try simp only[↓M1,M1,Mb,reduceIte]);exact c fun hx=>by rw[y] at hx;cases hx.1
 | false=>
 (try simp only[↓M1,M1,Mb,reduceIte])
 refine Oc _ ?_
 cases M:plain b with
 | true=>(try simp only[↓M1,M1,Mb,reduceIte]);exact c fun hx=>by rw[M] at hx;cases hx.2.1
 | false=>
 (try simp only[↓M1,M1,Mb,reduceIte])
 by_cases H:b=O9
 ·have f:decide (b=[110,117,108,108])=true:=by rw[decide_eq_true_eq];exact H
  simp only[f,↓M1,M1,Mb,reduceIte]
  refine c fun ⟨_,_,hx⟩=>?_
  rcases hx with hx | ⟨_,hx⟩ | ⟨_,hx⟩
  ·exact e (hx.trans H.symm)
  ·rw[H] at hx;exact absurd hx (by decide)
  ·obtain ⟨d,A⟩:=hx.right
   rw[H,p.none_null] at A;cases A
 have W:decide (b=[110,117,108,108])=false:=by rw[decide_eq_false_iff_not];exact H
 simp only[W,↓M1,M1,Mb,reduceIte]
 by_cases k:a=O9
 ·have f:decide (a=[110,117,108,108])=true:=by rw[decide_eq_true_eq];exact k
  simp only[f,↓M1,M1,Mb,reduceIte]
  exact q _ (p.sub_iff.2 ⟨g,m, .inr ⟨y,M, .inl k⟩⟩)
 have L:decide (a=[110,117,108,108])=false:=by rw[decide_eq_false_iff_not];exact k
 simp only[L,↓M1,M1,Mb,reduceIte]
 by_cases C:b=Z7
 ·have f:decide (b=[79,98,106,101,99,116])=true:=by rw[decide_eq_true_eq];exact C
  simp only[f,↓M1,M1,Mb,reduceIte]
  exact q _ (by rw[C];exact p.sub_root g y)
 have R:decide (b=[79,98,106,101,99,116])=false:=by rw[decide_eq_false_iff_not];exact C
 simp only[R,↓M1,M1,Mb,reduceIte]
 refine F7 n t ?_
 refine F7 n t ?_
 refine Yb ?_
 rw[K1]
 cases s:Y4 (Q3 l) a with
 | none=>
  simp only[Option.isSome_none,↓M1,M1,Mb,reduceIte]
  refine c fun ⟨_,_,hx⟩=>?_
  rcases hx with hx | ⟨_,hx⟩ | ⟨hx,_⟩
  ·exact k hx
  ·exact C hx
  ·exact hx (by unfold lk;rw[s];rfl)
 | some i=>
 simp only[Option.isSome_some,↓M1,M1,Mb,reduceIte]
 cases B:Y4 (Q3 l) b with
 | none=>
  simp only[K1,Option.isSome_none,↓M1,M1,Mb,reduceIte]
  refine c fun ⟨_,_,hx⟩=>?_
  rcases hx with hx | ⟨_,hx⟩ | ⟨_,hx⟩
  ·exact k hx
  ·exact C hx
  ·obtain ⟨d,A⟩:=hx.right
   unfold lk at A;rw[B] at A;cases A
 | some j=>
 obtain ⟨hi,U⟩:=D9 s
 obtain ⟨hj,Q⟩:=D9 B
 simp only[K1,Option.isSome_some,↓M1,M1,Mb,reduceIte]
 simp only[W5]
 refine Pn n t p.own (by omega) J ok.sm fun v1 w1 σ1 o E=>?_
 have z:i<(C4 (Q3 l)).length:=by rw[Q7e];exact hi
 refine J5 E z ?_
 obtain ⟨u,p1,Y⟩:=Sl.elB E z
 refine X8 o.sat p1 rfl ?_
 rw[Q88 z] at Y
 have N:j<((List.range (Q3 l).length).map fun j=>A0 (Q3 l) (X9 (Q3 l) i) (X9 (Q3 l) j)).length:=by simpa using hj
 refine J5 Y N ?_
 refine X8 o.sat (Sl.elb Y N) rfl ?_
 (try simp only[↓M1,M1,Mb,reduceIte])
 simp only[List.getElem_map,List.getElem_range,U,Q]
 have D:V0 (Q3 l) a b=A0 (Q3 l) a b:=by
  obtain ⟨ca,V,_⟩:=Xr s
  rw[Bool.eq_iff_iff,p.sub_class V,Zp,Pw]
  constructor
  ·rintro (⟨hx,_⟩ | hx)
   ·exact absurd hx e
   ·exact hx
  ·exact .inr
 rw[←D]
 exact h _ _ o)
end Go.Proofs.YtfppjenblllfaaaGreatDoor

namespace Go.Proofs.YtfppjenblllfaaaGreatDoor
open Go.Emb Go.RowKit Go.Kd Go.Hm
variable {w : World} {K : Value → World → Prop} {σ : Q5} {l : List Cla} {v : Value}
end Go.Proofs.YtfppjenblllfaaaGreatDoor

namespace Go.Proofs.YtfppjenblllfaaaGreatDoor
open Go.Emb Go.RowKit Go.Kd Go.Hm
variable {w w' w0 w1 : World} {K : Value → World → Prop} {σ σ' σ0 σ1 : Q5} {v u : Value} {tv : Value} {l : List Cla} {b b6 : Nat} {xs ys : List Q9} {x : Q9} {s t : Shp}
end Go.Proofs.YtfppjenblllfaaaGreatDoor

namespace Go.Hm
open Go.Kd
def Ps (s:Shp):Bool:=(decide (s.stack.length≤40)&&decide (s.locals.length≤40))&&(s.stack.all (fun x=>decide (x.length≤100))&&s.locals.all (fun x=>decide (x.length≤100)))
theorem Q8q {xs:List Q9} {f:Q9→Bool} (h: ∀j (a:j<xs.length),f xs[j]=true):xs.all f=true:=List.all_eq_true.2 fun x c=>by
 obtain ⟨j,a,rfl⟩:=List.mem_iff_getElem.1 c
 exact h j a
theorem Q6e {xs:List Q9} {f:Q9→Bool} {j:Nat} (a:j<xs.length) (h:f xs[j]=false):xs.all f=false:=by
 rw[←Bool.not_eq_true,List.all_eq_true]
 intro hh
 rw[hh xs[j] (List.getElem_mem a)] at h
 cases h
theorem Q7Y {xs ys:List Q9} {f:Q9→Q9→Bool} (h: ∀j (e:j<xs.length) (d:j<ys.length),f xs[j] ys[j]=true):(List.zipWith f xs ys).all id=true:=List.all_eq_true.2 fun x a=>by
 obtain ⟨j,c,rfl⟩:=List.mem_iff_getElem.1 a
 simp at c
 simpa using h j (by omega) (by omega)
theorem Q6h {xs ys:List Q9} {f:Q9→Q9→Bool} {j:Nat} (c:j<xs.length) (a:j<ys.length) (h:f xs[j] ys[j]=false):(List.zipWith f xs ys).all id=false:=by
 rw[←Bool.not_eq_true,List.all_eq_true]
 intro hh
 have:=hh (f xs[j] ys[j]) (List.mem_iff_getElem.2 ⟨j,by simp;omega,by simp⟩)
 rw[h] at this
 cases this
end Go.Hm
namespace Go.Proofs.YtfppjenblllfaaaGreatDoor
open Go.Emb Go.RowKit Go.Kd Go.Hm
variable {w w' w0 w1 : World} {K : Value → World → Prop} {σ σ' σ0 σ1 : Q5} {v u : Value} {tv : Value} {l : List Cla} {b b6 : Nat} {xs ys : List Q9} {x : Q9} {s t : Shp}
theorem Q7s {ds:List Value} (Q:X4 w σ) (L:U7 σ s ds) (h: ∀w',Below w.heap.size w w'→K (.bool (Ps s)) w'):Q1 P F.aO [.agg ds.toArray] w K:=Pj (by
 obtain ⟨sv,V,rfl,r,z⟩:=L
 unfold Oa
 refine Y8 Q fun q w1 σ1 c y=>?_
 have r:=r.up c
 have z:=z.up c
 have M:=r.max
 have N:=z.max
 refine D6 ?_
 refine ld (i:=1) c.sat y rfl ?_
 refine Q8 r ?_
 refine Ax ?_
 unfold Ps at h
 by_cases E:s.stack.length≤40
 case neg=>
  rw[decide_eq_false E] at h
  rw[show decide ((40:Int)<(s.stack.length:Nat))=true from by simp;omega]
  (repeat refine Hd.h ?_)
  refine U3 ?_
  exact h _ c.bel
 rw[decide_eq_true E] at h
 rw[show decide ((40:Int)<(s.stack.length:Nat))=false from by simp;omega]
 (repeat refine Hd.h ?_)
 refine ld (i:=2) c.sat y rfl ?_
 (repeat refine Hd.h ?_)
 refine Q8 z ?_
 (repeat refine Hd.h ?_)
 refine Ax ?_
 (repeat refine Hd.h ?_)
 by_cases H:s.locals.length≤40
 case neg=>
  rw[decide_eq_false H] at h
  rw[show decide ((40:Int)<(s.locals.length:Nat))=true from by simp;omega]
  refine U3 ?_
  exact h _ c.bel
 rw[decide_eq_true H] at h
 rw[show decide ((40:Int)<(s.locals.length:Nat))=false from by simp;omega]
 refine V8 ?_
 simp only[Bool.true_and] at h
 refine J0 s.stack.length (fun k w'=>w'=w1∧ ∀j (g:j<s.stack.length),j<k→decide (s.stack[j].length≤100)=true) ⟨rfl,fun j _ h=>absurd h (Nat.not_lt_zero _)⟩ fun k J d O C=>?_
 obtain ⟨rfl,m⟩:=C
 refine D6 ?_
 refine ld (i:=1) c.sat y rfl ?_
 refine Q8 r ?_
 refine Z0 ?_
 refine Q6 (fun p=>?_) (fun p=>?_)
 ·have a:k<s.stack.length:=by simp at p;omega
  refine D6 ?_
  refine ld (i:=1) c.sat y rfl ?_
  refine Js r a fun R n D=>?_
  refine X8 c.sat n rfl ?_
  refine Q1A (by kernel_rfl) ?_
  refine Ax ?_
  by_cases A:s.stack[k].length≤100
  ·rw[show decide ((100:Int)<(s.stack[k].length:Nat))=false from by simp;omega]
   refine V8 ?_
   (try simp only[↓M1,M1,Mb,reduceIte])
   exact Y2 M a ⟨rfl,fun j g U=>by
    by_cases e:j=k
    ·subst e;simpa using A
    ·exact m j g (by omega)⟩
  ·rw[show decide ((100:Int)<(s.stack[k].length:Nat))=true from by simp;omega]
   refine U3 ?_
   have B:=Q6e (f:=fun x=>decide (x.length≤100)) a (by simpa using A)
   rw[B,Bool.false_and] at h
   exact h _ c.bel
 have o:k=s.stack.length:=by simp at p;omega
 subst o
 rw[Q8q (f:=fun x=>decide (x.length≤100)) fun j g=>m j g g,Bool.true_and] at h
 clear m
 refine J0 s.locals.length (fun k w'=>w'=J∧ ∀j (g:j<s.locals.length),j<k→decide (s.locals[j].length≤100)=true) ⟨rfl,fun j _ h=>absurd h (Nat.not_lt_zero _)⟩ fun k J d O C=>?_
 obtain ⟨rfl,m⟩:=C
 refine D6 ?_
 refine ld (i:=2) c.sat y rfl ?_
 refine Q8 z ?_
 refine Z0 ?_
 refine Q6 (fun p=>?_) (fun p=>?_)
 ·have a:k<s.locals.length:=by simp at p;omega
  refine D6 ?_
  refine ld (i:=2) c.sat y rfl ?_
  refine Js z a fun R n D=>?_
  refine X8 c.sat n rfl ?_
  refine Q1A (by kernel_rfl) ?_
  refine Ax ?_
  by_cases A:s.locals[k].length≤100
  ·rw[show decide ((100:Int)<(s.locals[k].length:Nat))=false from by simp;omega]
   refine V8 ?_
   (try simp only[↓M1,M1,Mb,reduceIte])
   exact Y2 N a ⟨rfl,fun j g U=>by
    by_cases e:j=k
    ·subst e;simpa using A
    ·exact m j g (by omega)⟩
  ·rw[show decide ((100:Int)<(s.locals[k].length:Nat))=true from by simp;omega]
   refine U3 ?_
   have B:=Q6e (f:=fun x=>decide (x.length≤100)) a (by simpa using A)
   rw[B] at h
   exact h _ c.bel
 have o:k=s.locals.length:=by simp at p;omega
 subst o
 rw[Q8q (f:=fun x=>decide (x.length≤100)) fun j g=>m j g g] at h
 exact h _ c.bel)
end Go.Proofs.YtfppjenblllfaaaGreatDoor

namespace Go.Proofs.YtfppjenblllfaaaGreatDoor
open Go.Emb Go.RowKit Go.Kd Go.Hm
variable {w w' w0 w1 : World} {K : Value → World → Prop} {σ σ' σ0 σ1 : Q5} {v u : Value} {tv : Value} {l : List Cla} {b b6 : Nat} {xs ys : List Q9} {x : Q9} {s t : Shp}
set_option maxHeartbeats 1000000 in
theorem Hv {ds es:List Value} (hs:X4 w σ) (hv:Sl 8 U4 σ v (Q3 l)) (wf:Wf l) (ok:Ok (Q3 l)) (D:(Q3 l).length≤1000) (hr:U7 σ s ds) (hu:U7 σ t es)
 (h: ∀w' σ',Stp w σ w' σ'→K (.bool (Cu (Q3 l) s t)) w'):Q1 P F.a4 [v, .agg ds.toArray, .agg es.toArray] w K:=Gk (by
 obtain ⟨sv,lv,rfl,V,Q⟩:=hr
 obtain ⟨an,a1,rfl,q3,q4⟩:=hu
 unfold Wx
 refine Y8 hs fun qa w1 σ1 k1 p=>?_
 refine Y8 k1.sat fun qb w2 Z k2 C=>?_
 have p:=p.up k2
 have m:=k1.trans k2
 have W:=hv.up m
 have V:=V.up m
 have Q:=Q.up m
 have q3:=q3.up m
 have q4:=q4.up m
 have m1:=V.max
 have m2:=Q.max
 unfold Cu at h
 refine D6 ?_
 refine ld (i:=1) m.sat p rfl ?_
 refine Q8 V ?_
 refine D6 ?_
 refine ld (i:=1) m.sat C rfl ?_
 refine Q8 q3 ?_
 refine I4 ?_
 by_cases el:s.stack.length=t.stack.length
 case neg=>
  rw[show (!decide ((s.stack.length:Int)=(t.stack.length:Nat)))=true from by simp;omega]
  (repeat refine Hd.h ?_)
  refine U3 ?_
  simp only[decide_eq_false el,Bool.false_and] at h
  exact h _ _ m
 rw[show (!decide ((s.stack.length:Int)=(t.stack.length:Nat)))=false from by simp[el]]
 (repeat refine Hd.h ?_)
 refine ld (i:=2) m.sat p rfl ?_
 (repeat refine Hd.h ?_)
 refine Q8 Q ?_
 (repeat refine Hd.h ?_)
 refine ld (i:=2) m.sat C rfl ?_
 (repeat refine Hd.h ?_)
 refine Q8 q4 ?_
 (repeat refine Hd.h ?_)
 refine I4 ?_
 (repeat refine Hd.h ?_)
 by_cases em:s.locals.length=t.locals.length
 case neg=>
  rw[show (!decide ((s.locals.length:Int)=(t.locals.length:Nat)))=true from by simp;omega]
  refine U3 ?_
  simp only[decide_eq_false em,Bool.false_and,Bool.and_false] at h
  exact h _ _ m
 rw[show (!decide ((s.locals.length:Int)=(t.locals.length:Nat)))=false from by simp[em]]
 refine V8 ?_
 simp only[decide_eq_true el,decide_eq_true em,Bool.true_and] at h
 refine J0 s.stack.length (fun k w'=>(∃σ',Stp w2 Z w' σ')∧ ∀j (r:j<s.stack.length) (A:j<t.stack.length),j<k→V0 (Q3 l) s.stack[j] t.stack[j]=true) ⟨⟨Z,Stp.refl m.sat⟩,fun j _ _ h=>absurd h (Nat.not_lt_zero _)⟩ fun k w5 d hk hi=>?_
 obtain ⟨⟨σ5,c⟩,n⟩:=hi
 have o:=p.up c
 have E:=C.up c
 have q:=V.up c
 have B:=q3.up c
 refine D6 ?_
 refine ld (i:=1) c.sat o rfl ?_
 refine Q8 q ?_
 refine Z0 ?_
 refine Q6 (fun L=>?_) (fun L=>?_)
 ·have g:k<s.stack.length:=by simp at L;omega
  have z:k<t.stack.length:=by omega
  obtain ⟨f1,J⟩:=Sl.elS q g
  obtain ⟨f2,M⟩:=Sl.elS B z
  refine U6 c.sat ?_
  (repeat refine U9 I9 ?_)
  rintro _ _ _ _ _ _ _ _ w6 a rfl rfl rfl rfl rfl rfl rfl rfl
  refine Q66 a.sat (W.up (c.trans a.stp)) wf ok D J M fun U H O=>?_
  have R:=(c.trans a.stp).trans O
  refine Ni ?_
  cases X:V0 (Q3 l) s.stack[k] t.stack[k] with
  | false=>
   refine U3 ?_
   rw[Q6h g z X,Bool.false_and] at h
   exact h _ _ (m.trans R)
  | true=>
   refine V8 ?_
   (try simp only[↓M1,M1,Mb,reduceIte])
   refine Y2 m1 g ⟨⟨H,R⟩,fun j r A hj=>?_⟩
   by_cases e:j=k
   ·subst e;exact X
   ·exact n j r A (by omega)
 have N:k=s.stack.length:=by simp at L;omega
 subst N
 rw[Q7Y fun j r A=>n j r A r,Bool.true_and] at h
 clear n o E q B
 refine J0 s.locals.length (fun k w'=>(∃σ',Stp w2 Z w' σ')∧ ∀j (r:j<s.locals.length) (A:j<t.locals.length),j<k→(decide (t.locals[j]=[])||V0 (Q3 l) s.locals[j] t.locals[j])=true) ⟨⟨σ5,c⟩,fun j _ _ h=>absurd h (Nat.not_lt_zero _)⟩ fun k w5 d hk hi=>?_
 obtain ⟨⟨σ5,c⟩,n⟩:=hi
 have o:=p.up c
 have E:=C.up c
 have q:=Q.up c
 have B:=q4.up c
 refine D6 ?_
 refine ld (i:=2) c.sat o rfl ?_
 refine Q8 q ?_
 refine Z0 ?_
 refine Q6 (fun L=>?_) (fun L=>?_)
 ·have g:k<s.locals.length:=by simp at L;omega
  have z:k<t.locals.length:=by omega
  obtain ⟨f1,J⟩:=Sl.elS q g
  obtain ⟨f2,M⟩:=Sl.elS B z
  have ap: ∀U H,Stp w5 σ5 U H→(decide (t.locals[k]=[])||V0 (Q3 l) s.locals[k] t.locals[k])=true→ ∃σ',Stp w2 Z U σ':=fun U H O _=>⟨H,c.trans O⟩
  refine U6 c.sat ?_
  (repeat refine U9 I9 ?_)
  rintro _ _ _ _ _ _ _ _ _ _ _ _ _ _ _ _ w6 a rfl rfl rfl rfl rfl rfl rfl rfl rfl rfl rfl rfl rfl rfl rfl rfl
  by_cases Y:t.locals[k]=[]
  ·simp only[decide_eq_true Y,Bool.not_true,↓M1,M1,Mb,reduceIte,Bool.true_eq_false,Bool.false_eq_true]
   (repeat refine Hd.h ?_)
   refine Y2 m2 g ?_
   refine ⟨⟨σ5,c.trans a.stp⟩,fun j r A hj=>?_⟩
   by_cases e:j=k
   ·subst e;rw[decide_eq_true Y];rfl
   ·exact n j r A (by omega)
  ·simp only[decide_eq_false Y,Bool.not_false,↓M1,M1,Mb,reduceIte]
   (repeat refine Hd.h ?_)
   refine Q66 a.sat (W.up (c.trans a.stp)) wf ok D J M fun U H O=>?_
   have R:=(c.trans a.stp).trans O
   (repeat refine Hd.h ?_)
   cases X:V0 (Q3 l) s.locals[k] t.locals[k] with
   | false=>
    (repeat refine Hd.h ?_)
    refine U3 ?_
    rw[Q6h (f:=fun x y=>decide (y=[])||V0 (Q3 l) x y) g z (by rw[X,decide_eq_false Y];rfl)] at h
    exact h _ _ (m.trans R)
   | true=>
    (repeat refine Hd.h ?_)
    (repeat refine Hd.h ?_)
    refine V8 ?_
    (try simp only[↓M1,M1,Mb,reduceIte])
    refine Y2 m2 g ⟨⟨H,R⟩,fun j r A hj=>?_⟩
    by_cases e:j=k
    ·subst e;rw[X,Bool.or_true]
    ·exact n j r A (by omega)
 have N:k=s.locals.length:=by simp at L;omega
 subst N
 rw[Q7Y (f:=fun x y=>decide (y=[])||V0 (Q3 l) x y) fun j r A=>n j r A r] at h
 exact h _ _ (m.trans c))
end Go.Proofs.YtfppjenblllfaaaGreatDoor

namespace Go.Hm
open Go.Kd
def Q9J:Hm.Met:=⟨[],[],[],false,0,[],[]⟩
def Q7a:Ins:=⟨[97,100,100],0,[]⟩
def Th:Q9:=N7++[91,93]
def sh1:Shp:=⟨true,[V5],[]⟩
def sh2:Shp:=⟨true,[Th],[]⟩
set_option maxRecDepth 100000 in
theorem Q8Y:doM (Q3 Mu) Q9J Q7a [] [] false ⟨true,[V5,V5],[]⟩=(sh1,0):=by decide+kernel
set_option maxRecDepth 100000 in
theorem Q5k:C1 (Q3 Mu) ⟨true,[O9],[]⟩ sh2=(sh2,0):=by decide+kernel
end Go.Hm
namespace Go.Proofs.YtfppjenblllfaaaGreatDoor
open Go.Emb Go.RowKit Go.Kd Go.Hm
variable {w w' w0 w1 : World} {K : Value → World → Prop} {σ σ' σ0 σ1 : Q5} {v u : Value} {tv : Value} {l : List Cla} {b b6 : Nat} {xs ys : List Q9} {x : Q9} {s t : Shp}
theorem Q3S (C:X4 w σ) (z:Glb σ)
 (h: ∀a v w' σ',Stp w σ w' σ'→Tab σ' (.pointer (some a)) (Q3 Mu)→Sl 8 U4 σ' v (Q3 Mu)→Ok (Q3 Mu)→K (.tuple #[.pointer (some a),v]) w'):Q1 P F.az [] w K:=Cq (by
 unfold Uu
 refine Q2H C fun v M J d n=>?_
 refine X20 d.sat (z.lift ⟨d.le⟩) n (by decide) X0a (fun i e _ _ g=>by rw[Q10] at g;cases g) fun tv H O _ f y ok _=>?_
 obtain ⟨a,_,_,_,rfl,_⟩:=y.ex
 have m:=d.trans f
 refine U5 (vs:=[_,_,_]) rfl ?_
 refine U5 (vs:=[_,_,_]) rfl ?_
 refine U5 (vs:=[_,_,_]) rfl ?_
 refine Q2H f.sat fun N E L j q=>?_
 refine X0g j.sat q (by decide) (fun i e _ _ g=>by rw[Q10] at g;cases g) fun D B A _ r o p _=>?_
 have c:=j.trans r
 have k:=m.trans c
 refine U5 (vs:=[_,_,_]) rfl ?_
 refine U5 (vs:=[_,_,_]) rfl ?_
 refine U5 (vs:=[_,_,_]) rfl ?_
 refine I4 ?_
 simp only[decide_true,Bool.not_true]
 (repeat refine Hd.h ?_)
 refine I4 ?_
 simp only[decide_true,Bool.not_true]
 (repeat refine Hd.h ?_)
 refine Q8A ?_
 (repeat refine Hd.h ?_)
 refine V8 ?_
 exact h a D B A k (y.lift ⟨c.le⟩) o p)
set_option maxHeartbeats 2000000 in
theorem Q4u (hs:X4 w σ) (hg:Glb σ) (h: ∀w' σ',Stp w σ w' σ'→K (.bool true) w'):Q1 P F.ae [] w K:=Fe (by
 unfold Vt
 refine Q3S hs hg fun a lv w1 σ1 S1 ht hl ok=>?_
 refine U5 (vs:=[_,_]) rfl ?_
 refine U5 (vs:=[_,_]) rfl ?_
 refine Q8A ?_
 (repeat refine Hd.h ?_)
 refine Q8 hl ?_
 (repeat refine Hd.h ?_)
 refine Nh ?_
 (repeat refine Hd.h ?_)
 rw[show decide (((Q3 Mu).length:Int)=0)=false from by decide]
 refine V8 ?_
 refine Dk ?_
 refine W1 (cells:= #[S Q7a.op,I 0,S []]) (by kernel_rfl) ?_
 refine E3 (R:=Y1) (sz:=1) S1.sat [S V5,S V5] [V5,V5] rfl rfl (by simp;rfl) rfl ⟨⟨rfl,by decide⟩,⟨rfl,by decide⟩,trivial⟩ fun v2 w2 σ2 V O=>?_
 refine W1 (cells:= #[.bool true,v2, .slice none 0 0]) (by obtain ⟨a,c,rfl,_⟩:=O;kernel_rfl) ?_
 refine X1P (m:=Q9J) (i:=Q7a) (c:=[]) (f:=[]) (k:=false) V.sat (ht.lift ⟨V.le⟩) ok ⟨_,_,_,rfl,Sl.nil,Sl.nil,Sl.nil,by decide,by decide,by decide⟩ ⟨rfl,by decide,by decide,by decide⟩ O (by decide) (fun a ha=>by
  have e:Gc.lookup Q7a.op=some (.takes V5 [V5,V5]):=by decide+kernel
  rw[e] at ha;cases ha
  exact @Q9l _ _ _ _ _ _ _ _ (by decide)) fun ds w3 σ3 X U=>?_
 rw[Q8Y] at U⊢
 have S3:=(S1.trans V).trans X
 refine U5 (vs:=[_,_]) rfl ?_
 refine U5 (vs:=[_,_]) rfl ?_
 have d:U7 σ3 sh1 ds:=U
 refine Y5 (sz:=3) X.sat rfl (by obtain ⟨_,_,rfl,_⟩:=d;rfl) (Rep.one d) fun qa w4 σ4 N Y=>?_
 refine E3 (R:=Y1) (sz:=1) N.sat [S O9] [O9] rfl rfl (by simp;rfl) rfl ⟨⟨rfl,by decide⟩,trivial⟩ fun v5 w5 σ5 B J=>?_
 refine W1 (cells:= #[.bool true,v5, .slice none 0 0]) (by obtain ⟨a,c,rfl,_⟩:=J;kernel_rfl) ?_
 refine E3 (R:=Y1) (sz:=1) B.sat [S Th] [Th] rfl rfl (by simp;rfl) rfl ⟨⟨rfl,by decide⟩,trivial⟩ fun v6 w6 σ6 z E=>?_
 refine W1 (cells:= #[.bool true,v6, .slice none 0 0]) (by obtain ⟨a,c,rfl,_⟩:=E;kernel_rfl) ?_
 have W:=(((V.trans X).trans N).trans B).trans z
 refine Q6b (s:=⟨true,[O9],[]⟩) (t:=sh2) z.sat (ht.lift ⟨W.le⟩) ok ⟨_,_,rfl,J.up z,Sl.nil⟩ ⟨_,_,rfl,E,Sl.nil⟩ (by decide) (by decide) (by decide) (by decide) fun es w7 σ7 C D=>?_
 rw[Q5k] at D⊢
 refine U5 (vs:=[_,_]) rfl ?_
 refine U5 (vs:=[_,_]) rfl ?_
 have j:U7 σ7 sh2 es:=D
 refine Y5 (sz:=3) C.sat rfl (by obtain ⟨_,_,rfl,_⟩:=j;rfl) (Rep.one j) fun qb w8 σ8 y aa=>?_
 have o:=(((Y.up B).up z).up C).up y
 have n:=U7.liftS d ((((N.trans B).trans z).trans C).trans y)
 have Q:=U7.liftS j y
 refine Y7 y.sat o (by obtain ⟨_,_,rfl,_⟩:=d;rfl) ?_
 refine E3 (R:=Y1) (sz:=1) y.sat [S V5] [V5] rfl rfl (by simp;rfl) rfl ⟨⟨rfl,by decide⟩,trivial⟩ fun v9 w9 σ9 A H=>?_
 refine W1 (cells:= #[.bool true,v9, .slice none 0 0]) (by obtain ⟨a,c,rfl,_⟩:=H;kernel_rfl) ?_
 refine Q2N (b:=sh1) (es:=[.bool true,v9, .slice none 0 0]) A.sat (U7.liftS n A) ⟨_,_,rfl,H,Sl.nil⟩ fun ak L=>?_
 have aw:=(((S3.trans N).trans B).trans z).trans (C.trans (y.trans (A.trans (Stp.of_below A.sat L))))
 have p:=A.trans (Stp.of_below A.sat L)
 rw[show decide (sh1=sh1)=true from by decide]
 (repeat refine Hd.h ?_)
 refine Nh ?_
 simp only[decide_true]
 (repeat refine Hd.h ?_)
 refine Y7 p.sat (aa.up p) (by obtain ⟨_,_,rfl,_⟩:=j;rfl) ?_
 (repeat refine Hd.h ?_)
 refine E3 (R:=Y1) (sz:=1) p.sat [S Th] [Th] rfl rfl (by simp;rfl) rfl ⟨⟨rfl,by decide⟩,trivial⟩ fun M al av q r=>?_
 (repeat refine Hd.h ?_)
 refine W1 (cells:= #[.bool true,M, .slice none 0 0]) (by obtain ⟨a,c,rfl,_⟩:=r;kernel_rfl) ?_
 (repeat refine Hd.h ?_)
 refine Q2N (b:=sh2) (es:=[.bool true,M, .slice none 0 0]) q.sat (U7.liftS Q (p.trans q)) ⟨_,_,rfl,r,Sl.nil⟩ fun aq ab=>?_
 have g:=p.trans (q.trans (Stp.of_below q.sat ab))
 rw[show decide (sh2=sh2)=true from by decide]
 (repeat refine Hd.h ?_)
 refine Nh ?_
 simp only[decide_true]
 (repeat refine Hd.h ?_)
 refine Y7 g.sat (o.up g) (by obtain ⟨_,_,rfl,_⟩:=d;rfl) ?_
 (repeat refine Hd.h ?_)
 refine Y7 g.sat (o.up g) (by obtain ⟨_,_,rfl,_⟩:=d;rfl) ?_
 (repeat refine Hd.h ?_)
 refine X0L (a:=sh1) (b:=sh1) g.sat (U7.liftS n g) (U7.liftS n g) fun am Z=>?_
 rw[show decide (sh1=sh1)=true from by decide]
 (repeat refine Hd.h ?_)
 exact h _ _ ((((S3.trans N).trans B).trans z).trans (C.trans (y.trans (g.trans (Stp.of_below g.sat Z))))))
end Go.Proofs.YtfppjenblllfaaaGreatDoor

namespace Go.Hm
open Go.Kd
theorem Bm {s:Shp} (h:Ps s=true):s.stack.length≤1000∧s.locals.length≤1000:=by
 simp only[Ps,Bool.and_eq_true,decide_eq_true_eq] at h
 omega
end Go.Hm
namespace Go.Proofs.YtfppjenblllfaaaGreatDoor
open Go.Emb Go.RowKit Go.Kd Go.Hm
variable {w w' w0 w1 : World} {K : Value → World → Prop} {σ σ' σ0 σ1 : Q5} {v u : Value} {tv : Value} {l : List Cla} {s t : Shp} {ds es : List Value}
theorem Su (h:U7 σ s ds):ds.length=3:=by obtain ⟨_,_,rfl,_⟩:=h;rfl
theorem Q3K (f:X4 w σ) (d:Tab σ tv (Q3 l)) (ok:Ok (Q3 l)) (g:U7 σ s ds) (e:U7 σ t es) (c:Ps s=true) (b:Ps t=true)
 (h: ∀a w' σ',Stp w σ w' σ'→U7 σ' (C1 (Q3 l) s t).1 a→K (.tuple #[.agg a.toArray,I (C1 (Q3 l) s t).2]) w'):Q1 P F.aU [tv, .agg ds.toArray, .agg es.toArray] w K:=
 Q6b f d ok g e (Bm c).1 (Bm c).2 (Bm b).1 (Bm b).2 h
theorem Q8m {A:Value→World→Prop} (c:X4 w σ) (b:U7 σ s ds) (h: ∀a w' σ',Stp w σ w' σ'→Z2 σ' a ds→A (.pointer (some a)) w'):W6 P T.f w fun p w=>Z4 P T.f p (.agg ds.toArray) w fun _ w=>A p w:=
 Y5 (sz:=3) (A:=fun p _ w=>A p w) c rfl (Su b) (Rep.one b) h
end Go.Proofs.YtfppjenblllfaaaGreatDoor

namespace Go.Proofs.YtfppjenblllfaaaGreatDoor
open Go.Emb Go.RowKit Go.Kd Go.Hm
variable {w w' w0 w1 : World} {K : Value → World → Prop} {σ σ' σ0 σ1 : Q5} {v u : Value} {tv : Value} {l : List Cla} {s t : Shp} {ds es : List Value}
set_option maxHeartbeats 1000000 in
theorem Q5A (hs:X4 w σ) (hg:Glb σ) (M:U7 σ s ds) (J:U7 σ t es) (h: ∀w' σ',Stp w σ w' σ'→K (.bool true) w'):Q1 P F.bI [.agg ds.toArray, .agg es.toArray] w K:=Dn (by
 have n1:=Su M
 have n2:=Su J
 unfold Yt
 refine Y8 hs fun qa w1 σ1 k1 r=>?_
 refine Y8 k1.sat fun qb w2 σ2 k2 B=>?_
 have W:=k1.trans k2
 refine Q3S W.sat (hg.lift ⟨W.le⟩) fun a lv w3 σ3 U ht N ok=>?_
 refine U5 (vs:=[_,_]) rfl ?_
 refine U5 (vs:=[_,_]) rfl ?_
 have X:=W.trans U
 refine Q4u X.sat (hg.lift ⟨X.le⟩) fun w4 σ4 E=>?_
 have C:=X.trans E
 have e:=((r.up k2).up U).up E
 have d:=(B.up U).up E
 have p:=U7.liftS M C
 have o:=U7.liftS J C
 have R: ∀V σ5,Stp w4 σ4 V σ5→Q1 P F.ae [] V fun t w=>K t w:=fun V σ5 q=>by
  have S5:=C.trans q
  exact Q4u S5.sat (hg.lift ⟨S5.le⟩) fun w6 σ6 f=>h _ _ (S5.trans f)
 refine Ni ?_
 rw[Bool.not_true]
 (repeat refine Hd.h ?_)
 refine Y7 C.sat e n1 ?_
 (repeat refine Hd.h ?_)
 refine Q7s C.sat p fun V b5=>?_
 have q:=Stp.of_below C.sat b5
 (repeat refine Hd.h ?_)
 cases e1:Ps s with
 | false=>
  rw[Bool.not_false]
  (repeat refine Hd.h ?_)
  refine U3 ?_
  exact R _ _ q
 | true=>
 rw[Bool.not_true]
 (repeat refine Hd.h ?_)
 refine Y7 q.sat (d.up q) n2 ?_
 (repeat refine Hd.h ?_)
 refine Q7s q.sat (U7.liftS o q) fun w6 b6=>?_
 have f:=q.trans (Stp.of_below q.sat b6)
 (repeat refine Hd.h ?_)
 cases e2:Ps t with
 | false=>
  rw[Bool.not_false]
  (repeat refine Hd.h ?_)
  refine U3 ?_
  exact R _ _ f
 | true=>
 rw[Bool.not_true]
 (repeat refine Hd.h ?_)
 obtain ⟨a1,a2,rfl,_⟩:=id M
 obtain ⟨a3,a4,rfl,_⟩:=id J
 refine ld (i:=0) f.sat (e.up f) rfl ?_
 (repeat refine Hd.h ?_)
 cases e3:s.seen with
 | false=>
  rw[Bool.not_false]
  (repeat refine Hd.h ?_)
  refine U3 ?_
  exact R _ _ f
 | true=>
 rw[Bool.not_true]
 (repeat refine Hd.h ?_)
 refine ld (i:=0) f.sat (d.up f) rfl ?_
 (repeat refine Hd.h ?_)
 cases e4:t.seen with
 | false=>
  rw[Bool.not_false]
  refine U3 ?_
  exact R _ _ f
 | true=>
 rw[Bool.not_true]
 refine V8 ?_
 clear R
 refine Y7 f.sat (e.up f) rfl ?_
 refine Y7 f.sat (d.up f) rfl ?_
 have m:=X0t
 refine Q3K f.sat (ht.lift ⟨(E.trans f).le⟩) ok (U7.liftS p f) (U7.liftS o f) e1 e2 fun cs w7 σ7 Z L=>?_
 refine U5 (vs:=[_,_]) rfl ?_
 refine U5 (vs:=[_,_]) rfl ?_
 refine Q8m Z.sat L fun qc w8 σ8 H z=>?_
 have j:=(f.trans Z).trans H
 refine Y7 H.sat (d.up j) rfl ?_
 refine Y7 H.sat (e.up j) rfl ?_
 refine Q3K H.sat (ht.lift ⟨(E.trans j).le⟩) ok (U7.liftS o j) (U7.liftS p j) e2 e1 fun bc w9 σ9 k9 n=>?_
 refine U5 (vs:=[_,_]) rfl ?_
 refine U5 (vs:=[_,_]) rfl ?_
 refine Q8m k9.sat n fun qd a5 az A Q=>?_
 have y:=k9.trans A
 have k:=j.trans y
 have z:=z.up y
 have L:=U7.liftS L (H.trans y)
 have n:=U7.liftS n A
 have r:=e.up k
 have B:=d.up k
 have M:=U7.liftS p k
 have J:=U7.liftS o k
 have sA:=A.sat
 have SA:=C.trans k
 have N:=N.up (E.trans k)
 clear k1 k2 U E q f Z H k9 A j y k e d p o W X C b5 b6 n1 n2
 have D:=m.merge_symm s t e3 e4
 refine I4 ?_
 by_cases Y:(C1 (Q3 Mu) s t).2=0
 case neg=>
  rw[decide_eq_false Y,Bool.not_false]
  refine U3 ?_
  refine Nh ?_
  rw[decide_eq_true D]
  exact h _ _ SA
 rw[decide_eq_true Y,Bool.not_true]
 refine V8 ?_
 have O:=D.trans Y
 obtain ⟨u1,u2⟩:=m.merge_above s t e3 e4 Y
 obtain ⟨u3,u4⟩:=m.merge_above t s e4 e3 O
 refine Nh ?_
 rw[decide_eq_true O]
 have n3:=Su L
 have n4:=Su n
 (repeat refine Hd.h ?_)
 refine Y7 sA r rfl ?_
 (repeat refine Hd.h ?_)
 refine Y7 sA z n3 ?_
 (repeat refine Hd.h ?_)
 refine Hv sA N m ok Gn M L fun a6 bi g=>?_
 rw[u1]
 (repeat refine Hd.h ?_)
 refine Y7 g.sat (B.up g) rfl ?_
 (repeat refine Hd.h ?_)
 refine Y7 g.sat (z.up g) n3 ?_
 (repeat refine Hd.h ?_)
 refine Hv g.sat (N.up g) m ok Gn (U7.liftS J g) (U7.liftS L g) fun bg be c=>?_
 have c:=g.trans c
 rw[u2]
 (repeat refine Hd.h ?_)
 refine Y7 c.sat (r.up c) rfl ?_
 (repeat refine Hd.h ?_)
 refine Y7 c.sat (Q.up c) n4 ?_
 (repeat refine Hd.h ?_)
 refine Hv c.sat (N.up c) m ok Gn (U7.liftS M c) (U7.liftS n c) fun a9 ay b=>?_
 have b:=c.trans b
 rw[u4]
 (repeat refine Hd.h ?_)
 refine Y7 b.sat (B.up b) rfl ?_
 (repeat refine Hd.h ?_)
 refine Y7 b.sat (Q.up b) n4 ?_
 (repeat refine Hd.h ?_)
 refine Hv b.sat (N.up b) m ok Gn (U7.liftS J b) (U7.liftS n b) fun ba a8 ab=>?_
 rw[u3]
 (repeat refine Hd.h ?_)
 exact h _ _ (SA.trans (b.trans ab)))
end Go.Proofs.YtfppjenblllfaaaGreatDoor

namespace Go.Proofs.YtfppjenblllfaaaGreatDoor.stepUpper
open Go.ChangeShapes Go.WideShapes Go.ChangeAt Go.RowKit
open Go.Emb
theorem own : ownKnob Tryz.prog.godebug = none := by kernel_rfl
theorem lay : laidOutB Tryz.prog = true := by kernel_rfl
set_option maxRecDepth 100000 in
theorem X1E (os : Os) (started : os.Started) (H : Type) (enc : TypeId × Value → H) :
    ReturnsInHanded {} Tryz.checked os 4 .any (fun w args => (Rows.stepUpperSpec.pre enc Tryz.prog Tryz.f4 [] false w args ∧ laidMetH Tryz.prog laidAll w) ∧ sizedMet enc Tryz.prog Tryz.f4 (OpenSpec.ofChange Rows.stepUpperSpec) false w args) (Rows.stepUpperSpec.post enc Tryz.prog Tryz.f4 false true false false) := by
  refine returnsInHanded_of_change_and (C := Tryz.checked) (X := fun w _ => laidMetH Tryz.prog laidAll w) (fun _ _ _ hh h => h.of_heap hh) own started (by kernel_rfl) Tryz.func4
    (ChangeSpec.witness_shaped (enc := enc) (C := Tryz.checked) (os := os) (X := fun w _ => laidMetH Tryz.prog laidAll w) false (World.laidAll Tryz.prog os laidAll) #[.agg #[.bool false, .slice none 0 0, .slice none 0 0], .agg #[.bool false, .slice none 0 0, .slice none 0 0]] 8 (World.laidAll_os _ _ _)
      (World.shaped_of_ZipB (by kernel_rfl) (by kernel_rfl)) (by kernel_rfl) (by kernel_rfl) (by kernel_rfl) (by rw [MakeChecks.laidMetH_plain _ _ _ (by kernel_rfl)]; exact laidMet_laidAll _ (by kernel_rfl) (by kernel_rfl))) ?_
  intro W base args ds gs before hval0 hW _ hsz0 hL _
  have hsz : (DataW.weightsEach Tryz.prog (Tryz.f4.params.toList ++ Rows.stepUpperSpec.plain.varTypes Tryz.prog) (ds ++ gs)).all (· ≤ reachBytes) = true := hsz0
  have hval : ∀ (j : Nat) t v, Tryz.f4.params[j]? = some t → args[j]? = some v → Value.okWide Tryz.prog W .any base t v := hval0
  have hW' := hW
  obtain ⟨p, q, hA0, hV, rfl, hfz, hnd⟩ := hW
  have hA : DataW.TrodAll enc Tryz.prog W 0 (fun _ => true) true Tryz.f4.params.toList args.toList ds p := hA0
  have hlt := DataW.TrodAll.lt hA
  rw [Tryz.params4] at hA hval hsz
  obtain ⟨v0, vs0, d0, ds0, p0, q0, hargs, rfl, rfl, h0, r0⟩ := trodAll_cons hA
  obtain ⟨v1, vs1, d1, ds1, p1, q1, rfl, rfl, rfl, h1, r1⟩ := trodAll_cons r0
  obtain ⟨rfl, rfl, rfl⟩ := trodAll_nil r1
  obtain rfl : args = #[v0, v1] := by cases args; simp_all
  obtain ⟨rfl, rfl⟩ := trodVars_none hV
  have g0 : ∀ x ∈ p0, x.block < W.heap.size := fun x hx => hlt x (by simp [hx])
  have k0 := fun (W' : World) (bel : Below W.heap.size W W') => Below.trod lay (by kernel_rfl) (of_decide_eq_true (by kernel_rfl)) h0 bel g0
  obtain ⟨y0, c0, rfl, e0⟩ := Q7H (hval 0 24 v0 rfl rfl) h0 (Q7x hsz (j := 0) (t := 24) rfl rfl)
  have g1 : ∀ x ∈ p1, x.block < W.heap.size := fun x hx => hlt x (by simp [hx])
  have k1 := fun (W' : World) (bel : Below W.heap.size W W') => Below.trod lay (by kernel_rfl) (of_decide_eq_true (by kernel_rfl)) h1 bel g1
  obtain ⟨y1, c1, rfl, e1⟩ := Q7H (hval 1 24 v1 rfl rfl) h1 (Q7x hsz (j := 1) (t := 24) rfl rfl)
  have hc : Q1 Tryz.prog 4 [.agg (List.toArray c0), .agg (List.toArray c1)] W (fun e w' => e = .bool true ∧ Below W.heap.size W w') := Q5A Q8k (X1K hL) e0 e1 (fun w' σ' hb => ⟨rfl, hb.bel⟩)
  refine (Q2r Tryz.func4 (by kernel_rfl) (by kernel_rfl) hc).mono fun e W' he => ?_
  obtain ⟨v, rfl⟩ : ∃ v, e = .returned v := by cases e <;> first | exact ⟨_, rfl⟩ | exact he.elim
  obtain ⟨rfl, bel⟩ := he
  exact ⟨_, rfl, _, _, _, [], _, [], hW', trodAll_mk1 (shut_bool Tryz.underlying4 _), (trodAll_cons_mk (k0 W' bel) (trodAll_cons_mk (k1 W' bel) trodAll_mk0)), rfl, bel.frame _, fun h => by cases h⟩
theorem over : Rows.stepUpperRow.holds Tryz.pinned (OpenSpec.ofChange Rows.stepUpperSpec) :=
  OpenClaim.holds_of_wide 4 Tryz.f4 rfl rfl rfl rfl rfl rfl rfl ⟨rfl, rfl, rfl, rfl, rfl⟩ rfl rfl rfl rfl rfl (by kernel_rfl) Tryz.func4 (by kernel_rfl)
    (of_decide_eq_true (by kernel_rfl)) (by unfold Func.isWrapper; first | (rw [if_pos (by decide +kernel)]; kernel_rfl) | (rw [if_neg (by decide +kernel)]; exact ⟨rfl, rfl⟩))
    (fun os started H enc _ => X1E os started H enc)
end Go.Proofs.YtfppjenblllfaaaGreatDoor.stepUpper
namespace Go.Proofs.YtfppjenblllfaaaGreatDoor
theorem Q1H : Rows.StepUpperSaid := stepUpper.over
end Go.Proofs.YtfppjenblllfaaaGreatDoor
