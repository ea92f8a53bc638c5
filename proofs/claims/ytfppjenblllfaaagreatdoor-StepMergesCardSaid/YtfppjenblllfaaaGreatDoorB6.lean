/- Parts of a proof about the given program: its functions as texts of their own, what each computes, plain laws of that. The conditions of each stand in its statement. -/
import Derived.Test.YtfppjenblllfaaaGreatDoorB5
import Derived.Test.YtfppjenblllfaaaGreatDoorRows
import Derived.Test.YtfppjenblllfaaaGreatDoorB4
import Derived.WalkKit
import Derived.ProofKit
import Derived.OpenShut
import Derived.ShutString
import Derived.ChangeOld
import Derived.Below
import Derived.SizedLaws
import Derived.Lay
import Derived.Carry
import Derived.MakeChecks
import Derived.PinnedBridge
set_option linter.unnecessarySimpa false
set_option linter.defProp false
set_option linter.unusedSectionVars false
set_option linter.unusedVariables false
set_option linter.unusedSimpArgs false
namespace Go.Proofs.YtfppjenblllfaaaGreatDoor
open Go.Emb Go.RowKit Go.Kd Go.Hm
variable {w w' w0 w1 : World} {K : Value → World → Prop} {σ σ' σ0 σ1 : Q5} {v u : Value} {tv : Value} {l : List Cla} {b b6 : Nat} {xs ys : List X0} {x : X0} {s t : Shp}
set_option maxHeartbeats 1000000 in
theorem Q7s {ds es:List Value} (hs:X4 w σ) (hv:Sl 8 U5 σ v (Q4 l)) (wf:Wf l) (ok:Ok (Q4 l)) (J:(Q4 l).length≤1000) (hr:U2 σ s ds) (hu:U2 σ t es) (h1:s.stack.length≤1000) (h2:s.locals.length≤1000) (h3:t.stack.length≤1000) (h4:t.locals.length≤1000)
 (h: ∀E w' σ',Stp w σ w' σ'→U2 σ' (R6 (Q4 l) s t).1 E→K (.tuple #[.agg E.toArray,I (R6 (Q4 l) s t).2]) w'):Q0 P F.b6 [v, .agg ds.toArray, .agg es.toArray] w K:=Bz (by
 have a6:=hr
 have a5:=hu
 obtain ⟨sv,lv,rfl,q1,q2⟩:=hr
 obtain ⟨b2,b1,rfl,q3,q4⟩:=hu
 unfold Wv
 refine Y7 hs fun qa w1 σ1 k1 c=>?_
 refine Y7 k1.sat fun qb w2 σ2 k2 f=>?_
 have c:=c.up k2
 refine G1 k2.sat fun b6 w3 σ3 n k3 q=>?_
 have c:=c.up k3
 have f:=f.up k3
 have S2:=k1.trans k2
 have a:=S2.trans k3
 have n:w.heap.size≤b6:=Nat.le_trans S2.bel.size n
 have ad:=hv.up a
 refine M9 ?_
 refine ld (i:=0) a.sat c rfl ?_
 refine Wc ?_
 cases e1:s.seen with
 | false=>
  have Z:R6 (Q4 l) s t=(t,0):=by unfold R6;rw[if_pos e1]
  rw[Z] at h
  refine V1 ?_
  refine Y9 a.sat f rfl ?_
  have C:=U2.liftS a5 a
  exact Vt (K:=fun r w=>K (.tuple #[r,I 0]) w) a q rfl n C fun w5 m=>h _ _ _ m C
 | true=>
 refine V6 ?_
 refine M9 ?_
 refine ld (i:=0) a.sat f rfl ?_
 refine Wc ?_
 cases e2:t.seen with
 | false=>
  have Z:R6 (Q4 l) s t=(s,0):=by unfold R6;rw[if_neg (by simp[e1]),if_pos e2]
  rw[Z] at h
  refine V1 ?_
  refine Y9 a.sat c rfl ?_
  have C:=U2.liftS a6 a
  exact Vt (K:=fun r w=>K (.tuple #[r,I 0]) w) a q rfl n C fun w5 m=>h _ _ _ m C
 | true=>
 refine V6 ?_
 have q1:=q1.up a
 have q2:=q2.up a
 have q3:=q3.up a
 have q4:=q4.up a
 refine M9 ?_
 refine ld (i:=1) a.sat c rfl ?_
 refine Q8 q1 ?_
 refine M9 ?_
 refine ld (i:=1) a.sat f rfl ?_
 refine Q8 q3 ?_
 refine K1 ?_
 have en:R6 (Q4 l) s t=if s.stack.length≠t.stack.length∨s.locals.length≠t.locals.length then (Shp.zero,75)
  else if (List.zipWith (W8 (Q4 l)) s.stack t.stack).any (fun s=>decide (s=[])) then (Shp.zero,75)
  else (⟨true,List.zipWith (W8 (Q4 l)) s.stack t.stack,List.zipWith (T9 (Q4 l)) s.locals t.locals⟩,0):=by
  unfold R6;rw[if_neg (by simp[e1]),if_neg (by simp[e2])]
 rw[en] at h
 clear en
 have U:(s.stack.length≠t.stack.length∨s.locals.length≠t.locals.length)→ ∀w σ',Stp w3 σ3 w σ'→N4 P T.f [] w fun a3 w=>Z0 P T.f (.pointer (some ⟨b6,0,none⟩)) a3 w fun _u w=>J8 P T.f (.pointer (some ⟨b6,0,none⟩)) w fun r0=>K (.tuple #[r0,I 75]) w:=fun H w σ' k=>by
  rw[if_pos H] at h
  refine Gi ?_
  exact Vt (K:=fun r w=>K (.tuple #[r,I 75]) w) (a.trans k) (q.up k) rfl n U2.zero fun w5 m=>h _ _ _ m U2.zero
 by_cases el:s.stack.length=t.stack.length
 case neg=>
  rw[show (!decide ((s.stack.length:Int)=(t.stack.length:Nat)))=true from by simp;omega]
  (repeat refine Hd.h ?_)
  refine V1 ?_
  exact U (.inl el) w3 σ3 (Stp.refl a.sat)
 rw[show (!decide ((s.stack.length:Int)=(t.stack.length:Nat)))=false from by simp[el]]
 (repeat refine Hd.h ?_)
 refine ld (i:=2) a.sat c rfl ?_
 (repeat refine Hd.h ?_)
 refine Q8 q2 ?_
 (repeat refine Hd.h ?_)
 refine ld (i:=2) a.sat f rfl ?_
 (repeat refine Hd.h ?_)
 refine Q8 q4 ?_
 (repeat refine Hd.h ?_)
 refine K1 ?_
 (repeat refine Hd.h ?_)
 by_cases Z:s.locals.length=t.locals.length
 case neg=>
  rw[show (!decide ((s.locals.length:Int)=(t.locals.length:Nat)))=true from by simp;omega]
  refine V1 ?_
  exact U (.inr Z) w3 σ3 (Stp.refl a.sat)
 rw[show (!decide ((s.locals.length:Int)=(t.locals.length:Nat)))=false from by simp[Z]]
 refine V6 ?_
 clear U
 rw[if_neg (by simp[el,Z])] at h
 refine Q51 ?_
 refine Q85 a.sat fun b w4 A4=>?_
 refine J1 s.stack.length (fun k w'=> ∃σ',ShS w3 σ3 w' σ' b ((List.zipWith (W8 (Q4 l)) s.stack t.stack).take k) []∧ ∀j (g1:j<s.stack.length) (g2:j<t.stack.length),j<k→W8 (Q4 l) s.stack[j] t.stack[j]≠[]) ⟨σ3,A4,fun j _ _ h=>absurd h (Nat.not_lt_zero _)⟩ fun k w5 d hk hi=>?_
 obtain ⟨σ5,A5,N⟩:=hi
 have m:=A5.stp
 have L:=c.up m
 have ag:=f.up m
 have O:=q1.up m
 have aj:=q3.up m
 refine M9 ?_
 refine ld (i:=1) m.sat L rfl ?_
 refine Q8 O ?_
 refine Z1 ?_
 refine Q6 (fun H=>?_) (fun H=>?_)
 ·have g:k<s.stack.length:=by simp at H;omega
  have o:k<t.stack.length:=by omega
  obtain ⟨f1,A⟩:=Sl.elS O g
  obtain ⟨f2,B⟩:=Sl.elS aj o
  refine U8 m.sat ?_
  (repeat refine J5 P5 ?_)
  rintro _ _ _ _ _ _ _ _ w6 D rfl rfl rfl rfl rfl rfl rfl rfl
  refine Q4K D.sat (ad.up (m.trans D.stp)) wf ok J A B fun w7 Y p=>?_
  have y:=(A5.up D.stp).up p
  refine Vx ?_
  by_cases ej:W8 (Q4 l) s.stack[k] t.stack[k]=[]
  ·rw[decide_eq_true ej]
   refine V1 ?_
   have hz:(List.zipWith (W8 (Q4 l)) s.stack t.stack).any (fun s=>decide (s=[]))=true:=by
    rw[←Bool.not_eq_false,Q7w el]
    exact fun hh=>hh k g o ej
   rw[if_pos hz] at h
   refine Gi ?_
   exact Vt (K:=fun r w=>K (.tuple #[r,I 75]) w) (a.trans y.stp) (q.up y.stp) rfl n U2.zero fun w5 m=>h _ _ _ m U2.zero
  ·rw[decide_eq_false ej]
   refine V6 ?_
   obtain ⟨v1,v2,m6,p1,p2,n1,n2⟩:=y.ex
   refine M9 ?_
   refine Yv (i:=1) m6 rfl ?_
   have W:=Bk ok A B
   refine D2 (R:=Y1) (sz:=1) y.stp.sat [S (W8 (Q4 l) s.stack[k] t.stack[k])] [W8 (Q4 l) s.stack[k] t.stack[k]] rfl rfl (by simp;rfl) rfl ⟨⟨rfl,W⟩,trivial⟩ fun v7 w7 Y p z=>?_
   refine X05 (y.up p) (m6.up p) z (by rw[List.length_take];omega) fun w8 A8=>?_
   (try simp only[↓M1,M1,Mb,reduceIte])
   refine Y2 (by omega) g ⟨Y,?_,fun j g1 g2 hj=>?_⟩
   ·rw[Q7c g o];exact A8
   ·by_cases e:j=k
    ·subst e;exact ej
    ·exact N j g1 g2 (by omega)
 have X:k=s.stack.length:=by simp at H;omega
 subst X
 have hz:(List.zipWith (W8 (Q4 l)) s.stack t.stack).any (fun s=>decide (s=[]))=false:=(Q7w el).2 fun j g1 g2=>N j g1 g2 g1
 rw[if_neg (by simp[hz])] at h
 rw[List.take_of_length_le (by simp;omega)] at A5
 clear N hz L ag O aj
 refine J1 s.locals.length (fun k w'=> ∃σ',ShS w3 σ3 w' σ' b (List.zipWith (W8 (Q4 l)) s.stack t.stack) ((List.zipWith (T9 (Q4 l)) s.locals t.locals).take k)) ⟨σ5,A5⟩ fun k w6 d hk hi=>?_
 obtain ⟨σ6,y⟩:=hi
 have M:=y.stp
 have af:=c.up M
 have bb:=f.up M
 have ae:=q2.up M
 have a1:=q4.up M
 refine M9 ?_
 refine ld (i:=2) M.sat af rfl ?_
 refine Q8 ae ?_
 refine Z1 ?_
 refine Q6 (fun H=>?_) (fun H=>?_)
 ·have g:k<s.locals.length:=by simp at H;omega
  have o:k<t.locals.length:=by omega
  obtain ⟨f1,A⟩:=Sl.elS ae g
  obtain ⟨f2,B⟩:=Sl.elS a1 o
  have W:=Bk ok A B
  obtain ⟨v1,v2,m6,p1,p2,n1,n2⟩:=y.ex
  refine U8 M.sat ?_
  (repeat refine J5 P5 ?_)
  refine J5 (V:=v2) (fun t w Q e=>by subst e;exact Yv (i:=2) (m6.up Q.stp) rfl (M5 rfl)) ?_
  (repeat refine J5 P5 ?_)
  refine J5 (V:=S (W8 (Q4 l) s.locals[k] t.locals[k])) (fun bm bu w Q e1 e2=>?_) ?_
  ·subst e1 e2
   exact Q4K Q.sat (ad.up (M.trans Q.stp)) wf ok J A B fun w7 Y p=>Qf p.bel rfl
  refine W6 (SlF w6 σ6 [W8 (Q4 l) s.locals[k] t.locals[k]]) SlF.st (fun t w Q e=>?_) ?_
  ·subst e
   exact D2 (R:=Y1) (sz:=1) Q.sat [S (W8 (Q4 l) s.locals[k] t.locals[k])] [W8 (Q4 l) s.locals[k] t.locals[k]] rfl rfl (by simp;rfl) rfl ⟨⟨rfl,W⟩,trivial⟩ fun v7 w7 Y p z=>⟨p.bel,Y,Q.stp.trans p,z⟩
  rintro _ _ _ _ _ _ _ _ _ _ _ bz w7 bk rfl rfl rfl rfl rfl rfl rfl rfl rfl rfl-⟨Y,p,z⟩
  refine X0h (y.up p) (m6.up p) z (by rw[List.length_take];omega) fun w9 A9=>?_
  (try simp only[↓M1,M1,Mb,reduceIte])
  refine Y2 (by omega) g ⟨Y,?_⟩
  rw[Q7c g o,Q4z];exact A9
 have X:k=s.locals.length:=by simp at H;omega
 subst X
 rw[List.take_of_length_le (by simp;omega)] at y
 exact Q7T (K:=fun r w=>K (.tuple #[r,I 0]) w) y a q rfl n fun E w' σ' k' a2=>h E w' σ' k' a2)
end Go.Proofs.YtfppjenblllfaaaGreatDoor

namespace Go.Hm
open Go.Kd
def Au (s:Shp):Bool:=(decide (s.stack.length≤40)&&decide (s.locals.length≤40))&&(s.stack.all (fun x=>decide (x.length≤100))&&s.locals.all (fun x=>decide (x.length≤100)))
theorem Q8V {xs:List X0} {f:X0→Bool} (h: ∀j (a:j<xs.length),f xs[j]=true):xs.all f=true:=List.all_eq_true.2 fun x c=>by
 obtain ⟨j,a,rfl⟩:=List.mem_iff_getElem.1 c
 exact h j a
theorem Q67 {xs:List X0} {f:X0→Bool} {j:Nat} (a:j<xs.length) (h:f xs[j]=false):xs.all f=false:=by
 rw[←Bool.not_eq_true,List.all_eq_true]
 intro hh
 rw[hh xs[j] (List.getElem_mem a)] at h
 cases h
end Go.Hm
namespace Go.Proofs.YtfppjenblllfaaaGreatDoor
open Go.Emb Go.RowKit Go.Kd Go.Hm
variable {w w' w0 w1 : World} {K : Value → World → Prop} {σ σ' σ0 σ1 : Q5} {v u : Value} {tv : Value} {l : List Cla} {b b6 : Nat} {xs ys : List X0} {x : X0} {s t : Shp}
theorem Q8G {ds:List Value} (R:X4 w σ) (M:U2 σ s ds) (h: ∀w',Below w.heap.size w w'→K (.bool (Au s)) w'):Q0 P F.aP [.agg ds.toArray] w K:=Pr (by
 obtain ⟨sv,V,rfl,r,y⟩:=M
 unfold Oc
 refine Y7 R fun q w1 σ1 c z=>?_
 have r:=r.up c
 have y:=y.up c
 have O:=r.max
 have Q:=y.max
 refine M9 ?_
 refine ld (i:=1) c.sat z rfl ?_
 refine Q8 r ?_
 refine Q0g ?_
 unfold Au at h
 by_cases J:s.stack.length≤40
 case neg=>
  rw[decide_eq_false J] at h
  rw[show decide ((40:Int)<(s.stack.length:Nat))=true from by simp;omega]
  (repeat refine Hd.h ?_)
  refine V1 ?_
  exact h _ c.bel
 rw[decide_eq_true J] at h
 rw[show decide ((40:Int)<(s.stack.length:Nat))=false from by simp;omega]
 (repeat refine Hd.h ?_)
 refine ld (i:=2) c.sat z rfl ?_
 (repeat refine Hd.h ?_)
 refine Q8 y ?_
 (repeat refine Hd.h ?_)
 refine Q0g ?_
 (repeat refine Hd.h ?_)
 by_cases H:s.locals.length≤40
 case neg=>
  rw[decide_eq_false H] at h
  rw[show decide ((40:Int)<(s.locals.length:Nat))=true from by simp;omega]
  refine V1 ?_
  exact h _ c.bel
 rw[decide_eq_true H] at h
 rw[show decide ((40:Int)<(s.locals.length:Nat))=false from by simp;omega]
 refine V6 ?_
 simp only[Bool.true_and] at h
 refine J1 s.stack.length (fun k w'=>w'=w1∧ ∀j (g:j<s.stack.length),j<k→decide (s.stack[j].length≤100)=true) ⟨rfl,fun j _ h=>absurd h (Nat.not_lt_zero _)⟩ fun k E d N B=>?_
 obtain ⟨rfl,m⟩:=B
 refine M9 ?_
 refine ld (i:=1) c.sat z rfl ?_
 refine Q8 r ?_
 refine Z1 ?_
 refine Q6 (fun n=>?_) (fun n=>?_)
 ·have a:k<s.stack.length:=by simp at n;omega
  refine M9 ?_
  refine ld (i:=1) c.sat z rfl ?_
  refine Js r a fun L p C=>?_
  refine X8 c.sat p rfl ?_
  refine Q1C (by kernel_rfl) ?_
  refine Q0g ?_
  by_cases A:s.stack[k].length≤100
  ·rw[show decide ((100:Int)<(s.stack[k].length:Nat))=false from by simp;omega]
   refine V6 ?_
   (try simp only[↓M1,M1,Mb,reduceIte])
   exact Y2 O a ⟨rfl,fun j g U=>by
    by_cases e:j=k
    ·subst e;simpa using A
    ·exact m j g (by omega)⟩
  ·rw[show decide ((100:Int)<(s.stack[k].length:Nat))=true from by simp;omega]
   refine V1 ?_
   have D:=Q67 (f:=fun x=>decide (x.length≤100)) a (by simpa using A)
   rw[D,Bool.false_and] at h
   exact h _ c.bel
 have o:k=s.stack.length:=by simp at n;omega
 subst o
 rw[Q8V (f:=fun x=>decide (x.length≤100)) fun j g=>m j g g,Bool.true_and] at h
 clear m
 refine J1 s.locals.length (fun k w'=>w'=E∧ ∀j (g:j<s.locals.length),j<k→decide (s.locals[j].length≤100)=true) ⟨rfl,fun j _ h=>absurd h (Nat.not_lt_zero _)⟩ fun k E d N B=>?_
 obtain ⟨rfl,m⟩:=B
 refine M9 ?_
 refine ld (i:=2) c.sat z rfl ?_
 refine Q8 y ?_
 refine Z1 ?_
 refine Q6 (fun n=>?_) (fun n=>?_)
 ·have a:k<s.locals.length:=by simp at n;omega
  refine M9 ?_
  refine ld (i:=2) c.sat z rfl ?_
  refine Js y a fun L p C=>?_
  refine X8 c.sat p rfl ?_
  refine Q1C (by kernel_rfl) ?_
  refine Q0g ?_
  by_cases A:s.locals[k].length≤100
  ·rw[show decide ((100:Int)<(s.locals[k].length:Nat))=false from by simp;omega]
   refine V6 ?_
   (try simp only[↓M1,M1,Mb,reduceIte])
   exact Y2 Q a ⟨rfl,fun j g U=>by
    by_cases e:j=k
    ·subst e;simpa using A
    ·exact m j g (by omega)⟩
  ·rw[show decide ((100:Int)<(s.locals[k].length:Nat))=true from by simp;omega]
   refine V1 ?_
   have D:=Q67 (f:=fun x=>decide (x.length≤100)) a (by simpa using A)
   rw[D] at h
   exact h _ c.bel
 have o:k=s.locals.length:=by simp at n;omega
 subst o
 rw[Q8V (f:=fun x=>decide (x.length≤100)) fun j g=>m j g g] at h
 exact h _ c.bel)
end Go.Proofs.YtfppjenblllfaaaGreatDoor

namespace Go.Proofs.YtfppjenblllfaaaGreatDoor
open Go.Emb Go.RowKit Go.Kd Go.Hm
variable {w w' w0 w1 : World} {K : Value → World → Prop} {σ σ' σ0 σ1 : Q5} {v u : Value} {tv : Value} {l : List Cla} {b b6 : Nat} {xs ys : List X0} {x : X0} {s t : Shp}
end Go.Proofs.YtfppjenblllfaaaGreatDoor

namespace Go.Hm
open Go.Kd
def X09:Hm.Met:=⟨[],[],[],false,0,[],[]⟩
def Q7m:Ins:=⟨[97,100,100],0,[]⟩
def Tz:X0:=O4++[91,93]
def sh1:Shp:=⟨true,[V5],[]⟩
def sh2:Shp:=⟨true,[Tz],[]⟩
set_option maxRecDepth 100000 in
theorem Q9O:doM (Q4 On) X09 Q7m [] [] false ⟨true,[V5,V5],[]⟩=(sh1,0):=by decide+kernel
set_option maxRecDepth 100000 in
theorem Q5q:R6 (Q4 On) ⟨true,[D0],[]⟩ sh2=(sh2,0):=by decide+kernel
end Go.Hm
namespace Go.Proofs.YtfppjenblllfaaaGreatDoor
open Go.Emb Go.RowKit Go.Kd Go.Hm
variable {w w' w0 w1 : World} {K : Value → World → Prop} {σ σ' σ0 σ1 : Q5} {v u : Value} {tv : Value} {l : List Cla} {b b6 : Nat} {xs ys : List X0} {x : X0} {s t : Shp}
theorem Q4e (D:X4 w σ) (z:Glb σ)
 (h: ∀a v w' σ',Stp w σ w' σ'→Tab σ' (.pointer (some a)) (Q4 On)→Sl 8 U5 σ' v (Q4 On)→Ok (Q4 On)→K (.tuple #[.pointer (some a),v]) w'):Q0 P F.aA [] w K:=Cb (by
 unfold Vf
 refine Q3m D fun v E H d n=>?_
 refine X2h d.sat (z.lift ⟨d.le⟩) n (by decide) X0K (fun i e _ _ g=>by rw[Q14] at g;cases g) fun tv O N _ f y ok _=>?_
 obtain ⟨a,_,_,_,rfl,_⟩:=y.ex
 have o:=d.trans f
 refine U7 (vs:=[_,_,_]) rfl ?_
 refine U7 (vs:=[_,_,_]) rfl ?_
 refine U7 (vs:=[_,_,_]) rfl ?_
 refine Q3m f.sat fun M J L j q=>?_
 refine X1g j.sat q (by decide) (fun i e _ _ g=>by rw[Q14] at g;cases g) fun B C A _ m k p _=>?_
 have c:=j.trans m
 have r:=o.trans c
 refine U7 (vs:=[_,_,_]) rfl ?_
 refine U7 (vs:=[_,_,_]) rfl ?_
 refine U7 (vs:=[_,_,_]) rfl ?_
 refine K1 ?_
 simp only[decide_true,Bool.not_true]
 (repeat refine Hd.h ?_)
 refine K1 ?_
 simp only[decide_true,Bool.not_true]
 (repeat refine Hd.h ?_)
 refine Q8l ?_
 (repeat refine Hd.h ?_)
 refine V6 ?_
 exact h a B C A r (y.lift ⟨c.le⟩) k p)
set_option maxHeartbeats 2000000 in
theorem Q5d (hs:X4 w σ) (hg:Glb σ) (h: ∀w' σ',Stp w σ w' σ'→K (.bool true) w'):Q0 P F.ae [] w K:=Gl (by
 unfold Wh
 refine Q4e hs hg fun a lv w1 σ1 S1 ht hl ok=>?_
 refine U7 (vs:=[_,_]) rfl ?_
 refine U7 (vs:=[_,_]) rfl ?_
 refine Q8l ?_
 (repeat refine Hd.h ?_)
 refine Q8 hl ?_
 (repeat refine Hd.h ?_)
 refine Ro ?_
 (repeat refine Hd.h ?_)
 rw[show decide (((Q4 On).length:Int)=0)=false from by decide]
 refine V6 ?_
 refine Dt ?_
 refine W1 (cells:= #[S Q7m.op,I 0,S []]) (by kernel_rfl) ?_
 refine D2 (R:=Y1) (sz:=1) S1.sat [S V5,S V5] [V5,V5] rfl rfl (by simp;rfl) rfl ⟨⟨rfl,by decide⟩,⟨rfl,by decide⟩,trivial⟩ fun v2 w2 σ2 V L=>?_
 refine W1 (cells:= #[.bool true,v2, .slice none 0 0]) (by obtain ⟨a,c,rfl,_⟩:=L;kernel_rfl) ?_
 refine X2z (m:=X09) (i:=Q7m) (c:=[]) (f:=[]) (k:=false) V.sat (ht.lift ⟨V.le⟩) ok ⟨_,_,_,rfl,Sl.nil,Sl.nil,Sl.nil,by decide,by decide,by decide⟩ ⟨rfl,by decide,by decide,by decide⟩ L Sl.nil (by decide) (by decide) (fun a ha=>by
  have e:Gs.lookup Q7m.op=some (.takes V5 [V5,V5]):=by decide+kernel
  rw[e] at ha;cases ha
  exact @Q9t _ _ _ _ _ _ _ _ (by decide)) fun ds w3 σ3 W M=>?_
 rw[Q9O] at M⊢
 have S3:=(S1.trans V).trans W
 refine U7 (vs:=[_,_]) rfl ?_
 refine U7 (vs:=[_,_]) rfl ?_
 have d:U2 σ3 sh1 ds:=M
 refine Y6 (sz:=3) W.sat rfl (by obtain ⟨_,_,rfl,_⟩:=d;rfl) (Rep.one d) fun qa w4 σ4 N ab=>?_
 refine D2 (R:=Y1) (sz:=1) N.sat [S D0] [D0] rfl rfl (by simp;rfl) rfl ⟨⟨rfl,by decide⟩,trivial⟩ fun v5 w5 σ5 A J=>?_
 refine W1 (cells:= #[.bool true,v5, .slice none 0 0]) (by obtain ⟨a,c,rfl,_⟩:=J;kernel_rfl) ?_
 refine D2 (R:=Y1) (sz:=1) A.sat [S Tz] [Tz] rfl rfl (by simp;rfl) rfl ⟨⟨rfl,by decide⟩,trivial⟩ fun v6 w6 σ6 y O=>?_
 refine W1 (cells:= #[.bool true,v6, .slice none 0 0]) (by obtain ⟨a,c,rfl,_⟩:=O;kernel_rfl) ?_
 have X:=(((V.trans W).trans N).trans A).trans y
 refine Q6q (s:=⟨true,[D0],[]⟩) (t:=sh2) y.sat (ht.lift ⟨X.le⟩) ok ⟨_,_,rfl,J.up y,Sl.nil⟩ ⟨_,_,rfl,O,Sl.nil⟩ (by decide) (by decide) (by decide) (by decide) fun es w7 σ7 U H=>?_
 rw[Q5q] at H⊢
 refine U7 (vs:=[_,_]) rfl ?_
 refine U7 (vs:=[_,_]) rfl ?_
 have j:U2 σ7 sh2 es:=H
 refine Y6 (sz:=3) U.sat rfl (by obtain ⟨_,_,rfl,_⟩:=j;rfl) (Rep.one j) fun qb w8 σ8 z Z=>?_
 have n:=(((ab.up A).up y).up U).up z
 have o:=U2.liftS d ((((N.trans A).trans y).trans U).trans z)
 have D:=U2.liftS j z
 refine Y9 z.sat n (by obtain ⟨_,_,rfl,_⟩:=d;rfl) ?_
 refine D2 (R:=Y1) (sz:=1) z.sat [S V5] [V5] rfl rfl (by simp;rfl) rfl ⟨⟨rfl,by decide⟩,trivial⟩ fun v9 w9 σ9 B Q=>?_
 refine W1 (cells:= #[.bool true,v9, .slice none 0 0]) (by obtain ⟨a,c,rfl,_⟩:=Q;kernel_rfl) ?_
 refine Rf (b:=sh1) (es:=[.bool true,v9, .slice none 0 0]) B.sat (U2.liftS o B) ⟨_,_,rfl,Q,Sl.nil⟩ fun ak C=>?_
 have al:=(((S3.trans N).trans A).trans y).trans (U.trans (z.trans (B.trans (Stp.of_below B.sat C))))
 have p:=B.trans (Stp.of_below B.sat C)
 rw[show decide (sh1=sh1)=true from by decide]
 (repeat refine Hd.h ?_)
 refine Ro ?_
 simp only[decide_true]
 (repeat refine Hd.h ?_)
 refine Y9 p.sat (Z.up p) (by obtain ⟨_,_,rfl,_⟩:=j;rfl) ?_
 (repeat refine Hd.h ?_)
 refine D2 (R:=Y1) (sz:=1) p.sat [S Tz] [Tz] rfl rfl (by simp;rfl) rfl ⟨⟨rfl,by decide⟩,trivial⟩ fun E am aj q r=>?_
 (repeat refine Hd.h ?_)
 refine W1 (cells:= #[.bool true,E, .slice none 0 0]) (by obtain ⟨a,c,rfl,_⟩:=r;kernel_rfl) ?_
 (repeat refine Hd.h ?_)
 refine Rf (b:=sh2) (es:=[.bool true,E, .slice none 0 0]) q.sat (U2.liftS D (p.trans q)) ⟨_,_,rfl,r,Sl.nil⟩ fun aq Y=>?_
 have g:=p.trans (q.trans (Stp.of_below q.sat Y))
 rw[show decide (sh2=sh2)=true from by decide]
 (repeat refine Hd.h ?_)
 refine Ro ?_
 simp only[decide_true]
 (repeat refine Hd.h ?_)
 refine Y9 g.sat (n.up g) (by obtain ⟨_,_,rfl,_⟩:=d;rfl) ?_
 (repeat refine Hd.h ?_)
 refine Y9 g.sat (n.up g) (by obtain ⟨_,_,rfl,_⟩:=d;rfl) ?_
 (repeat refine Hd.h ?_)
 refine Q6c (a:=sh1) (b:=sh1) g.sat (U2.liftS o g) (U2.liftS o g) fun ai aa=>?_
 rw[show decide (sh1=sh1)=true from by decide]
 (repeat refine Hd.h ?_)
 exact h _ _ ((((S3.trans N).trans A).trans y).trans (U.trans (z.trans (g.trans (Stp.of_below g.sat aa))))))
end Go.Proofs.YtfppjenblllfaaaGreatDoor

namespace Go.Hm
open Go.Kd
theorem Ze {s:Shp} (h:Au s=true):s.stack.length≤1000∧s.locals.length≤1000:=by
 simp only[Au,Bool.and_eq_true,decide_eq_true_eq] at h
 omega
end Go.Hm
namespace Go.Proofs.YtfppjenblllfaaaGreatDoor
open Go.Emb Go.RowKit Go.Kd Go.Hm
variable {w w' w0 w1 : World} {K : Value → World → Prop} {σ σ' σ0 σ1 : Q5} {v u : Value} {tv : Value} {l : List Cla} {s t : Shp} {ds es : List Value}
theorem Cq (h:U2 σ s ds):ds.length=3:=by obtain ⟨_,_,rfl,_⟩:=h;rfl
theorem Q9E (d:X4 w σ) (e:Tab σ tv (Q4 l)) (ok:Ok (Q4 l)) (g:U2 σ s ds) (f:U2 σ t es) (c:Au s=true) (b:Au t=true)
 (h: ∀a w' σ',Stp w σ w' σ'→U2 σ' (R6 (Q4 l) s t).1 a→K (.tuple #[.agg a.toArray,I (R6 (Q4 l) s t).2]) w'):Q0 P F.bu [tv, .agg ds.toArray, .agg es.toArray] w K:=
 Q6q d e ok g f (Ze c).1 (Ze c).2 (Ze b).1 (Ze b).2 h
theorem Q8d {A:Value→World→Prop} (c:X4 w σ) (b:U2 σ s ds) (h: ∀a w' σ',Stp w σ w' σ'→Z3 σ' a ds→A (.pointer (some a)) w'):W4 P T.f w fun p w=>Z0 P T.f p (.agg ds.toArray) w fun _ w=>A p w:=
 Y6 (sz:=3) (A:=fun p _ w=>A p w) c rfl (Cq b) (Rep.one b) h
set_option maxHeartbeats 1000000 in
theorem Q5b (hs:X4 w σ) (hg:Glb σ) (hr:U2 σ s ds) (hu:U2 σ t es) (h: ∀w' σ',Stp w σ w' σ'→K (.bool true) w'):Q0 P F.bC [.agg ds.toArray, .agg es.toArray] w K:=Dm (by
 have n1:=Cq hr
 have n2:=Cq hu
 unfold Yi
 refine Y7 hs fun qa w1 σ1 k1 hqa=>?_
 refine Y7 k1.sat fun qb w2 σ2 k2 hqb=>?_
 have S2:=k1.trans k2
 refine Q4e S2.sat (hg.lift ⟨S2.le⟩) fun a lv w3 σ3 k3 ht hl ok=>?_
 refine U7 (vs:=[_,_]) rfl ?_
 refine U7 (vs:=[_,_]) rfl ?_
 have S3:=S2.trans k3
 refine Q5d S3.sat (hg.lift ⟨S3.le⟩) fun w4 σ4 k4=>?_
 have S4:=S3.trans k4
 have hqa4:=((hqa.up k2).up k3).up k4
 have hqb4:=(hqb.up k3).up k4
 have hr4:=U2.liftS hr S4
 have hu4:=U2.liftS hu S4
 have no: ∀w5 σ5,Stp w4 σ4 w5 σ5→Q0 P F.ae [] w5 fun t w=>K t w:=fun w5 σ5 k5=>by
  have S5:=S4.trans k5
  exact Q5d S5.sat (hg.lift ⟨S5.le⟩) fun w6 σ6 k6=>h _ _ (S5.trans k6)
 refine Wc ?_
 rw[Bool.not_true]
 (repeat refine Hd.h ?_)
 refine Y9 S4.sat hqa4 n1 ?_
 (repeat refine Hd.h ?_)
 refine Q8G S4.sat hr4 fun w5 b5=>?_
 have k5:=Stp.of_below S4.sat b5
 (repeat refine Hd.h ?_)
 cases e1:Au s with
 | false=>
  rw[Bool.not_false]
  (repeat refine Hd.h ?_)
  refine V1 ?_
  exact no _ _ k5
 | true=>
 rw[Bool.not_true]
 (repeat refine Hd.h ?_)
 refine Y9 k5.sat (hqb4.up k5) n2 ?_
 (repeat refine Hd.h ?_)
 refine Q8G k5.sat (U2.liftS hu4 k5) fun w6 b6=>?_
 have k6:=k5.trans (Stp.of_below k5.sat b6)
 (repeat refine Hd.h ?_)
 cases e2:Au t with
 | false=>
  rw[Bool.not_false]
  (repeat refine Hd.h ?_)
  refine V1 ?_
  exact no _ _ k6
 | true=>
 rw[Bool.not_true]
 refine V6 ?_
 clear no
 refine Y9 k6.sat (hqa4.up k6) n1 ?_
 refine Y9 k6.sat (hqb4.up k6) n2 ?_
 refine Q9E k6.sat (ht.lift ⟨(k4.trans k6).le⟩) ok (U2.liftS hr4 k6) (U2.liftS hu4 k6) e1 e2 fun cs w7 σ7 k7 hc=>?_
 refine U7 (vs:=[_,_]) rfl ?_
 refine U7 (vs:=[_,_]) rfl ?_
 refine Q8d k7.sat hc fun qc w8 σ8 k8 hqc=>?_
 have k68:=(k6.trans k7).trans k8
 refine Y9 k8.sat (hqa4.up k68) n1 ?_
 refine Y9 k8.sat (hqb4.up k68) n2 ?_
 refine Q7s k8.sat (hl.up (k4.trans k68)) X12 ok Q9g (U2.liftS hr4 k68) (U2.liftS hu4 k68) (Ze e1).1 (Ze e1).2 (Ze e2).1 (Ze e2).2 fun cs2 w9 σ9 k9 hc2=>?_
 refine U7 (vs:=[_,_]) rfl ?_
 refine U7 (vs:=[_,_]) rfl ?_
 refine Q8d k9.sat hc2 fun qd w10 σ10 k10 hqd=>?_
 have k8a:=k9.trans k10
 have k6a:=k68.trans k8a
 have hqc:=hqc.up k8a
 have hc:=U2.liftS hc (k8.trans k8a)
 have hc2:=U2.liftS hc2 k10
 have hqa:=hqa4.up k6a
 have hqb:=hqb4.up k6a
 have hr:=U2.liftS hr4 k6a
 have hu:=U2.liftS hu4 k6a
 have sA:=k10.sat
 have n3:=Cq hc
 have n4:=Cq hc2
 have SA:=S4.trans k6a
 clear k1 k2 k3 k4 k5 k6 k7 k8 k9 k10 k68 k8a k6a hqa4 hqb4 hr4 hu4 S2 S3 S4 b5 b6
 obtain ⟨a1,a2,rfl,_⟩:=id hr
 obtain ⟨a3,a4,rfl,_⟩:=id hu
 obtain ⟨a5,a6,rfl,_⟩:=id hc
 obtain ⟨a7,a8,rfl,_⟩:=id hc2
 clear n1 n2 n3 n4
 refine U8 sA ?_
 (repeat (apply J5;(· intros;(repeat (rename_i hx;subst hx));(repeat' (first | (with_reducible exact M5 rfl) | (with_reducible exact Qf (Stp.bel (by (repeat (first | exact Stp.refl (by (first | assumption | exact Stp.sat (by assumption) | exact Hst.sat (by assumption))) | assumption | refine Stp.trans ?_ (by first | assumption | exact Hst.stp (by assumption)))))) rfl) | (with_reducible intro _) | (simp only[↓M2,M2,Mb,reduceIte]) | (with_reducible show Q2 _ _ _ _ _;first | refine X8 aS aL aR ?_ | refine Y9 aS aL aR ?_ | refine ld aS aL aR ?_) | (with_reducible show indexAddr _ _ _ _ _ _;refine J0 aL au ?_) | (with_reducible show X5 _ _ _ _ _ _ _ _;refine Q8 aL ?_) | (with_reducible show Ut _ _ _ _ _ _;refine V3 aR ?_) | (with_reducible show pick _ _ _ _ _ _;refine Zq ?_) | (with_reducible show Q0 _ _ _ _ _;first | refine Rf au au au (W0 aS ?_) | refine Q6c au au au (W0 aS ?_)) | (apply Jv;intro hh;(try simp only[hh,reduceIte,↓M2,M2,Mb,reduceIte]))));done)))
 (intros;(repeat (rename_i hx;subst hx));(try simp only[↓M2,M2,Mb,reduceIte]))
 rename_i wb hbb
 simp only[decide_true,if_true]
 (repeat refine Hd.h ?_)
 refine Rf hbb.sat (U2.liftS hr hbb.stp) (U2.liftS hu hbb.stp) fun w11 b11=>?_
 (repeat refine Hd.h ?_)
 rw[Q3J]
 (repeat refine Hd.h ?_)
 rw[beq_self_eq_true]
 exact h _ _ (SA.trans (hbb.stp.trans (Stp.of_below hbb.sat b11))))
end Go.Proofs.YtfppjenblllfaaaGreatDoor

namespace Go.Proofs.YtfppjenblllfaaaGreatDoor.stepMerges
open Go.ChangeShapes Go.WideShapes Go.ChangeAt Go.RowKit
open Go.Emb
theorem own : ownKnob Tryz.prog.godebug = none := by kernel_rfl
theorem lay : laidOutB Tryz.prog = true := by kernel_rfl
set_option maxRecDepth 100000 in
theorem X1V (os : Os) (started : os.Started) (H : Type) (enc : TypeId × Value → H) :
    ReturnsInHanded {} Tryz.checked os 3 .any (fun w args => (Rows.stepMergesSpec.pre enc Tryz.prog Tryz.f3 [] false w args ∧ laidMetH Tryz.prog laidAll w) ∧ sizedMet enc Tryz.prog Tryz.f3 (OpenSpec.ofChange Rows.stepMergesSpec) false w args) (Rows.stepMergesSpec.post enc Tryz.prog Tryz.f3 false true false false) := by
  refine returnsInHanded_of_change_and (C := Tryz.checked) (X := fun w _ => laidMetH Tryz.prog laidAll w) (fun _ _ _ hh h => h.of_heap hh) own started (by kernel_rfl) Tryz.func3
    (ChangeSpec.witness_shaped (enc := enc) (C := Tryz.checked) (os := os) (X := fun w _ => laidMetH Tryz.prog laidAll w) false (World.laidAll Tryz.prog os laidAll) #[.agg #[.bool false, .slice none 0 0, .slice none 0 0], .agg #[.bool false, .slice none 0 0, .slice none 0 0]] 8 (World.laidAll_os _ _ _)
      (World.shaped_of_ZipB (by kernel_rfl) (by kernel_rfl)) (by kernel_rfl) (by kernel_rfl) (by kernel_rfl) (by rw [MakeChecks.laidMetH_plain _ _ _ (by kernel_rfl)]; exact laidMet_laidAll _ (by kernel_rfl) (by kernel_rfl))) ?_
  intro W base args ds gs before hval0 hW _ hsz0 hL _
  have hsz : (DataW.weightsEach Tryz.prog (Tryz.f3.params.toList ++ Rows.stepMergesSpec.plain.varTypes Tryz.prog) (ds ++ gs)).all (· ≤ reachBytes) = true := hsz0
  have hval : ∀ (j : Nat) t v, Tryz.f3.params[j]? = some t → args[j]? = some v → Value.okWide Tryz.prog W .any base t v := hval0
  have hW' := hW
  obtain ⟨p, q, hA0, hV, rfl, hfz, hnd⟩ := hW
  have hA : DataW.TrodAll enc Tryz.prog W 0 (fun _ => true) true Tryz.f3.params.toList args.toList ds p := hA0
  have hlt := DataW.TrodAll.lt hA
  rw [Tryz.params3] at hA hval hsz
  obtain ⟨v0, vs0, d0, ds0, p0, q0, hargs, rfl, rfl, h0, r0⟩ := trodAll_cons hA
  obtain ⟨v1, vs1, d1, ds1, p1, q1, rfl, rfl, rfl, h1, r1⟩ := trodAll_cons r0
  obtain ⟨rfl, rfl, rfl⟩ := trodAll_nil r1
  obtain rfl : args = #[v0, v1] := by cases args; simp_all
  obtain ⟨rfl, rfl⟩ := trodVars_none hV
  have g0 : ∀ x ∈ p0, x.block < W.heap.size := fun x hx => hlt x (by simp [hx])
  have k0 := fun (W' : World) (bel : Below W.heap.size W W') => Below.trod lay (by kernel_rfl) (of_decide_eq_true (by kernel_rfl)) h0 bel g0
  obtain ⟨y0, c0, rfl, e0⟩ := Q90 (hval 0 24 v0 rfl rfl) h0 (Q8w hsz (j := 0) (t := 24) rfl rfl)
  have g1 : ∀ x ∈ p1, x.block < W.heap.size := fun x hx => hlt x (by simp [hx])
  have k1 := fun (W' : World) (bel : Below W.heap.size W W') => Below.trod lay (by kernel_rfl) (of_decide_eq_true (by kernel_rfl)) h1 bel g1
  obtain ⟨y1, c1, rfl, e1⟩ := Q90 (hval 1 24 v1 rfl rfl) h1 (Q8w hsz (j := 1) (t := 24) rfl rfl)
  have hc : Q0 Tryz.prog 3 [.agg (List.toArray c0), .agg (List.toArray c1)] W (fun e w' => e = .bool true ∧ Below W.heap.size W w') := Q5b Q8c (X1S hL) e0 e1 (fun w' σ' hb => ⟨rfl, hb.bel⟩)
  refine (Q2I Tryz.func3 (by kernel_rfl) (by kernel_rfl) hc).mono fun e W' he => ?_
  obtain ⟨v, rfl⟩ : ∃ v, e = .returned v := by cases e <;> first | exact ⟨_, rfl⟩ | exact he.elim
  obtain ⟨rfl, bel⟩ := he
  exact ⟨_, rfl, _, _, _, [], _, [], hW', trodAll_mk1 (shut_bool Tryz.underlying4 _), (trodAll_cons_mk (k0 W' bel) (trodAll_cons_mk (k1 W' bel) trodAll_mk0)), rfl, bel.frame _, fun h => by cases h⟩
theorem over : Rows.stepMergesRow.holds Tryz.pinned (OpenSpec.ofChange Rows.stepMergesSpec) :=
  OpenClaim.holds_of_wide 3 Tryz.f3 rfl rfl rfl rfl rfl rfl rfl ⟨rfl, rfl, rfl, rfl, rfl⟩ rfl rfl rfl rfl rfl (by kernel_rfl) Tryz.func3 (by kernel_rfl)
    (of_decide_eq_true (by kernel_rfl)) (by unfold Func.isWrapper; first | (rw [if_pos (by decide +kernel)]; kernel_rfl) | (rw [if_neg (by decide +kernel)]; exact ⟨rfl, rfl⟩))
    (fun os started H enc _ => X1V os started H enc)
end Go.Proofs.YtfppjenblllfaaaGreatDoor.stepMerges
namespace Go.Proofs.YtfppjenblllfaaaGreatDoor
theorem Q1p : Rows.StepMergesSaid := stepMerges.over
end Go.Proofs.YtfppjenblllfaaaGreatDoor
