/- Parts of a proof about the given program: its functions as texts of their own, what each computes, plain laws of that. The conditions of each stand in its statement. -/
import Derived.Test.YtkllbfjojoncaaaGreatDoorB5
import Derived.Test.YtkllbfjojoncaaaGreatDoorB4
import Derived.Test.YtkllbfjojoncaaaGreatDoorB3
set_option linter.unnecessarySimpa false
set_option linter.defProp false
set_option linter.unusedSectionVars false
set_option linter.unusedVariables false
set_option linter.unusedSimpArgs false
namespace Go.Hm
open Go.Kd
def Hq (c:Cla) (i:Nat):Bool:=C2 (c.like.getD i [])&& !decide (c.like.getD i []=c.name)
def Yv (c:Cla) (i k:Nat):Bool:= !decide (c.like.getD k []=c.like.getD i [])
def Ph (c:Cla) (i:Nat):Fld:=c.fields.getD i Fld.zero
def Fq (c:Cla) (i:Nat):Hm.Met:=c.methods.getD i Hm.Met.zero
def Sp (c:Cla) (i:Nat):Bool:=B3 (Ph c i).name&&right (Ph c i).kind&& !c.iface
def Js (c:Cla) (i k:Nat):Bool:= !decide ((Ph c k).name=(Ph c i).name)
def X2j (c:Cla):Bool:=(!c.iface||(c.abs&&decide (c.super=M3)))&& !(c.abs&&c.fin)
def Jv (c:Cla) (i k:Nat):Bool:= !decide ((Fq c k).name=(Fq c i).name)
theorem Oy {p:Nat->Bool} {n:Nat}:(List.range (n+1)).all p=((List.range n).all p&&p n):=by rw[List.range_succ,List.all_append];simp
theorem K7 {α:Type} {xs:List α} {i:Nat} {d:α} (h:i<xs.length):xs.getD i d=xs[i]:=by rw[List.getD_eq_getElem?_getD,List.getElem?_eq_getElem h];rfl
end Go.Hm
namespace Go.Proofs.Y
open Go.Emb Go.RowKit Go.Kd Go.Hm
variable {w : World} {K : Value -> World -> Prop}
def Hr (c:Cla) (i:Nat):Bool:=Xu (Fq c i)&&(!(Fq c i).abs||c.abs)&&(!c.iface||(Fq c i).abs)
set_option maxHeartbeats 2000000 in
theorem Q6X {c:Cla} {lv fv mv:Value} {w1:World} {σ1:Q2} {q:Addr} {ok:Bool} (ac:X7 w1 σ1) (hq:J7 σ1 q [S c.name,S c.super,lv, .bool c.iface, .bool c.abs, .bool c.fin,fv,mv]) {i:Nat} {N m0:Nat} {M:Nat->Value->World->Prop} (g1:Sl 1 M7 σ1 lv c.like) (hi:i<c.like.length)
 (h: ∀w' σ',Stp w1 σ1 w' σ'->Py N M (Value.bool (ok&&(List.range i).all (Yv c i)), .int .i64 (IntKind.i64.wrap (i+1))) w'/\Dv N (Value.bool (ok&&(List.range i).all (Yv c i)), .int .i64 (IntKind.i64.wrap (i+1)))<m0):
 lp (
  α:=Value×Value) (Value.bool ok,(.int .i64 0)) w1 fun g b d_ w=>
  Z9 P .lss T.f (.tmp 52) (.tmp 53) b.2 (I i) w fun ae w=>
  X1 ae (
   dr w fun e f=>
   J3 e (fun u=> ∀w:World,f w->Q1 b.1 true w (fieldAddr P T.c (.pointer (some q)) 2) (dk e u w)) fun u=>
   J3 e (fun y=> ∀w:World,f w->Q1 b.1 true w (fun w J=>J b.2 w) (dk e y w)) fun y=>
   J3 e (fun A=> ∀w:World,f w->Q1 b.1 true w (fieldAddr P T.c (.pointer (some q)) 2) (dk e A w)) fun A=>
   J3 e (fun C=> ∀w:World,f w->Q1 b.1 true w (fun w J=>J (I i) w) (dk e C w)) fun C=>
   J3 e (fun v=> ∀l:Value,∀w:World,f w->u l w->Q1 b.1 true w (Q6 P T.h l) (dk e v w)) fun v=>
   J3 e (fun z=> ∀m:Value,∀n:Value,∀w:World,f w->v m w->y n w->Q1 b.1 true w (indexAddr P T.h m n) (dk e z w)) fun z=>
   J3 e (fun H=> ∀o:Value,∀w:World,f w->z o w->Q1 b.1 true w (Q6 P T.b o) (dk e H w)) fun H=>
   J3 e (fun B=> ∀p:Value,∀w:World,f w->A p w->Q1 b.1 true w (Q6 P T.h p) (dk e B w)) fun B=>
   J3 e (fun D=> ∀r:Value,∀s:Value,∀w:World,f w->B r w->C s w->Q1 b.1 true w (indexAddr P T.h r s) (dk e D w)) fun D=>
   J3 e (fun L=> ∀t:Value,∀w:World,f w->D t w->Q1 b.1 true w (Q6 P T.b t) (dk e L w)) fun L=>
   ∀l:Value,∀n:Value,∀p:Value,∀s:Value,∀m:Value,∀o:Value,∀V:Value,∀r:Value,∀t:Value,∀W:Value,∀w:World,f w->u l w->y n w->A p w->C s w->v m w->z o w->H V w->B r w->D t w->L W w->
   Q1 b.1 true w (Z9 P .neq T.b (.tmp 63) (.tmp 68) V W) fun ag w=>
   pick P b.1 ag (.bool false) w fun ah w=>
   Z9 P .add T.f (.tmp 55) (.const (.int .i64 1)) b.2 (.int .i64 1) w fun af w=>
   g (ah,af) w) (
   Z9 P .add T.f (.tmp 31) (.const (.int .i64 1)) (I i) (.int .i64 1) w fun U w=>
   (Py N M (b.1,U) w/\Dv N (b.1,U)<m0)):=by
 have am:=g1.max;refine C4 (a:=Value.bool ok) i (fun k x w'=> ∃σ',Stp w1 σ1 w' σ'/\x=Value.bool (ok&&(List.range k).all (Yv c i))) ⟨σ1,Stp.refl ac,by simp⟩ fun k x w2 d hk Q=>?_
 obtain ⟨σ2,j,rfl⟩:=Q;have ar:=hq.up j;have O:=g1.up j;have ad:=j.sat;refine J0 ?_;refine Q4 (fun X=>?_) (fun X=>?_)
 .have aa:k<i:=by simpa using X
  have R:k<c.like.length:=by omega
  have E:(ok&&(List.range (k+1)).all (Yv c i))=((ok&&(List.range k).all (Yv c i))&&Yv c i k):=by rw[Oy,Bool.and_assoc]
  have hQ:Yv c i k= !decide (c.like[k]=c.like[i]):=by unfold Yv;rw[K7 R,K7 hi]
  rw[hQ] at E;obtain ⟨p1,_⟩:=O.elS R;obtain ⟨p2,_⟩:=O.elS hi;generalize (ok&&(List.range k).all (Yv c i))=Y at E⊢;clear h hQ X;cases Y
  all_goals
   refine U8 ad ?_
   (repeat refine X0 Vf ?_)
   (intros;(repeat (rename_i hx;subst hx));(try simp only[↓M2,M2,Mb,reduceIte]))
   rename_i w3 Z;exact V2 Q5 aa ⟨σ2,j.trans Z.stp,by rw[E];rfl⟩
 .have ab:k=i:=by
   have: ¬k<i:=by simpa using X
   omega
  subst ab
  (try simp only[↓M1,M1,Mb,reduceIte])
  exact h _ _ j
set_option maxHeartbeats 4000000 in
theorem X5f {c:Cla} {lv fv mv:Value} {w1:World} {σ1:Q2} {q:Addr} {ok:Bool} (hs1:X7 w1 σ1) (hq:J7 σ1 q [S c.name,S c.super,lv, .bool c.iface, .bool c.abs, .bool c.fin,fv,mv]) {J:Value->World->Prop} (hn:c.name.length<=W6) (g1:Sl 1 M7 σ1 lv c.like)
 (h: ∀w' σ',Stp w1 σ1 w' σ'->J (.bool (ok&&(List.range c.like.length).all fun i=>Hq c i&&(List.range i).all (Yv c i))) w'):
 lp (α:=Value×Value) (Value.bool ok,(.int .i64 0)) w1 fun again4 x4 d_ w=>
 fieldAddr P T.c (.pointer (some q)) 2 w fun t27 w=>
 Q6 P T.h t27 w fun t28 w=>
 V0 P .len [T.h] T.f [false] [t28] w fun t29 w=>
 Z9 P .lss T.f (.tmp 26) (.tmp 29) x4.2 t29 w fun t30 w=>
 X1 t30 (
  dr w fun Tr Br=>
  J3 Tr (fun φ35=> ∀w:World,Br w->Q1 x4.1 true w (fieldAddr P T.c (.pointer (some q)) 2) (dk Tr φ35 w)) fun φ35=>
  J3 Tr (fun φ37=> ∀w:World,Br w->Q1 x4.1 true w (fun w J=>J x4.2 w) (dk Tr φ37 w)) fun φ37=>
  J3 Tr (fun φ36=> ∀t35:Value,∀w:World,Br w->φ35 t35 w->Q1 x4.1 true w (Q6 P T.h t35) (dk Tr φ36 w)) fun φ36=>
  J3 Tr (fun φ38=> ∀t36:Value,∀t37:Value,∀w:World,Br w->φ36 t36 w->φ37 t37 w->Q1 x4.1 true w (indexAddr P T.h t36 t37) (dk Tr φ38 w)) fun φ38=>
  J3 Tr (fun φ39=> ∀t38:Value,∀w:World,Br w->φ38 t38 w->Q1 x4.1 true w (Q6 P T.b t38) (dk Tr φ39 w)) fun φ39=>
  J3 Tr (fun φ40=> ∀t39:Value,∀w:World,Br w->φ39 t39 w->Q1 x4.1 true w (Q0 P F.e [t39]) (dk Tr φ40 w)) fun φ40=>
  J3 Tr (fun φ41=> ∀t40:Value,∀w:World,Br w->φ40 t40 w->pick P x4.1 t40 (.bool false) w (dk Tr φ41 w)) fun φ41=>
  J3 Tr (fun φ43=> ∀t41:Value,∀w:World,Br w->φ41 t41 w->Q1 t41 true w (fieldAddr P T.c (.pointer (some q)) 2) (dk Tr φ43 w)) fun φ43=>
  J3 Tr (fun φ45=> ∀t41:Value,∀w:World,Br w->φ41 t41 w->Q1 t41 true w (fun w J=>J x4.2 w) (dk Tr φ45 w)) fun φ45=>
  J3 Tr (fun φ48=> ∀t41:Value,∀w:World,Br w->φ41 t41 w->Q1 t41 true w (fieldAddr P T.c (.pointer (some q)) 0) (dk Tr φ48 w)) fun φ48=>
  J3 Tr (fun φ44=> ∀t41:Value,∀t43:Value,∀w:World,Br w->φ41 t41 w->φ43 t43 w->Q1 t41 true w (Q6 P T.h t43) (dk Tr φ44 w)) fun φ44=>
  J3 Tr (fun φ46=> ∀t41:Value,∀t44:Value,∀t45:Value,∀w:World,Br w->φ41 t41 w->φ44 t44 w->φ45 t45 w->Q1 t41 true w (indexAddr P T.h t44 t45) (dk Tr φ46 w)) fun φ46=>
  J3 Tr (fun φ47=> ∀t41:Value,∀t46:Value,∀w:World,Br w->φ41 t41 w->φ46 t46 w->Q1 t41 true w (Q6 P T.b t46) (dk Tr φ47 w)) fun φ47=>
  J3 Tr (fun φ49=> ∀t41:Value,∀t48:Value,∀w:World,Br w->φ41 t41 w->φ48 t48 w->Q1 t41 true w (Q6 P T.b t48) (dk Tr φ49 w)) fun φ49=>
  ∀t35:Value,∀t37:Value,∀t36:Value,∀t38:Value,∀t39:Value,∀t40:Value,∀t41:Value,∀t43:Value,∀t45:Value,∀t48:Value,∀t44:Value,∀t46:Value,∀t47:Value,∀t49:Value,∀w:World,Br w->φ35 t35 w->φ37 t37 w->φ36 t36 w->φ38 t38 w->φ39 t39 w->φ40 t40 w->φ41 t41 w->φ43 t43 w->φ45 t45 w->φ48 t48 w->φ44 t44 w->φ46 t46 w->φ47 t47 w->φ49 t49 w->
  Q1 t41 true w (Z9 P .neq T.b (.tmp 47) (.tmp 49) t47 t49) fun t50 w=>
  pick P t41 t50 (.bool false) w fun t51 w=>
  lp (α:=Value×Value) (t51,(.int .i64 0)) w fun again10 x10 d_ w=>
   Z9 P .lss T.f (.tmp 52) (.tmp 53) x10.2 x4.2 w fun t54 w=>
   X1 t54 (
    dr w fun Tr Br=>
    J3 Tr (fun φ59=> ∀w:World,Br w->Q1 x10.1 true w (fieldAddr P T.c (.pointer (some q)) 2) (dk Tr φ59 w)) fun φ59=>
    J3 Tr (fun φ61=> ∀w:World,Br w->Q1 x10.1 true w (fun w J=>J x10.2 w) (dk Tr φ61 w)) fun φ61=>
    J3 Tr (fun φ64=> ∀w:World,Br w->Q1 x10.1 true w (fieldAddr P T.c (.pointer (some q)) 2) (dk Tr φ64 w)) fun φ64=>
    J3 Tr (fun φ66=> ∀w:World,Br w->Q1 x10.1 true w (fun w J=>J x4.2 w) (dk Tr φ66 w)) fun φ66=>
    J3 Tr (fun φ60=> ∀t59:Value,∀w:World,Br w->φ59 t59 w->Q1 x10.1 true w (Q6 P T.h t59) (dk Tr φ60 w)) fun φ60=>
    J3 Tr (fun φ62=> ∀t60:Value,∀t61:Value,∀w:World,Br w->φ60 t60 w->φ61 t61 w->Q1 x10.1 true w (indexAddr P T.h t60 t61) (dk Tr φ62 w)) fun φ62=>
    J3 Tr (fun φ63=> ∀t62:Value,∀w:World,Br w->φ62 t62 w->Q1 x10.1 true w (Q6 P T.b t62) (dk Tr φ63 w)) fun φ63=>
    J3 Tr (fun φ65=> ∀t64:Value,∀w:World,Br w->φ64 t64 w->Q1 x10.1 true w (Q6 P T.h t64) (dk Tr φ65 w)) fun φ65=>
    J3 Tr (fun φ67=> ∀t65:Value,∀t66:Value,∀w:World,Br w->φ65 t65 w->φ66 t66 w->Q1 x10.1 true w (indexAddr P T.h t65 t66) (dk Tr φ67 w)) fun φ67=>
    J3 Tr (fun φ68=> ∀t67:Value,∀w:World,Br w->φ67 t67 w->Q1 x10.1 true w (Q6 P T.b t67) (dk Tr φ68 w)) fun φ68=>
    ∀t59:Value,∀t61:Value,∀t64:Value,∀t66:Value,∀t60:Value,∀t62:Value,∀t63:Value,∀t65:Value,∀t67:Value,∀t68:Value,∀w:World,Br w->φ59 t59 w->φ61 t61 w->φ64 t64 w->φ66 t66 w->φ60 t60 w->φ62 t62 w->φ63 t63 w->φ65 t65 w->φ67 t67 w->φ68 t68 w->
    Q1 x10.1 true w (Z9 P .neq T.b (.tmp 63) (.tmp 68) t63 t68) fun t69 w=>
    pick P x10.1 t69 (.bool false) w fun t70 w=>
    Z9 P .add T.f (.tmp 55) (.const (.int .i64 1)) x10.2 (.int .i64 1) w fun t56 w=>
    again10 (t70,t56) w) (
    Z9 P .add T.f (.tmp 31) (.const (.int .i64 1)) x4.2 (.int .i64 1) w fun t32 w=>
    again4 (x10.1,t32) w)) (
  J x4.1 w):=by
 have hmax:=g1.max;refine C4 (a:=Value.bool ok) c.like.length (fun n x w'=> ∃σ',Stp w1 σ1 w' σ'/\x=Value.bool (ok&&(List.range n).all fun i=>Hq c i&&(List.range i).all (Yv c i))) ⟨σ1,Stp.refl hs1,by simp⟩ fun n x w2 d hn2 hinv=>?_
 obtain ⟨σ2,hk2,rfl⟩:=hinv;have hq2:=hq.up hk2;have g12:=g1.up hk2;have hs2:=hk2.sat
 (repeat refine Hd.h ?_)
 refine ld hs2 hq2 rfl ?_;refine Q7 g12 ?_;refine J0 ?_;refine Q4 (fun hc=>?_) (fun hc=>?_)
 .have hn':n<c.like.length:=by simpa using hc
  have hnx:(ok&&(List.range (n+1)).all fun i=>Hq c i&&(List.range i).all (Yv c i))=((ok&&(List.range n).all fun i=>Hq c i&&(List.range i).all (Yv c i))&&(Hq c n&&(List.range n).all (Yv c n))):=by rw[Oy,Bool.and_assoc]
  have hP:Hq c n=(C2 c.like[n]&& !decide (c.like[n]=c.name)):=by unfold Hq;rw[K7 hn']
  obtain ⟨p1,p2⟩:=g12.elS hn';have p2:c.like[n].length<=140737488355328:=by simp only[W6] at p2;omega
  generalize (ok&&(List.range n).all fun i=>Hq c i&&(List.range i).all (Yv c i))=acc at hnx⊢;clear h hc;cases hacc:acc with
  | false=>
   refine U8 hs2 ?_
   (repeat refine X0 Vf ?_)
   intros;(repeat (rename_i hx;subst hx))
   rename_i w3 hb3
   (repeat refine Hd.h ?_)
   refine Q6X hb3.sat hq2 g12 hn' fun w4 σ4 hk4=>?_;exact V2 hmax hn' ⟨σ4,hk2.trans (hb3.stp.trans hk4),by rw[hnx,hacc];rfl⟩
  | true=>
   cases hcl:C2 c.like[n] with
   | false=>
    refine U8 hs2 ?_;have hrc: ∀{w':World} {K:Value->World->Prop},K (.bool false) w'->Q0 P F.e [S c.like[n]] w' K:=fun hK=>Ui _ p2 (by rw[hcl];exact hK)
    (repeat (apply X0;(· intros;(repeat (rename_i hx;subst hx));(repeat' (first | (with_reducible exact Q8 rfl) | (with_reducible exact B5 (Stp.bel (by (repeat (first | exact Stp.refl (by (first | assumption | exact Stp.sat Q9 | exact Hst.sat Q9)) | assumption | refine Stp.trans ?_ (by first | assumption | exact Hst.stp Q9))))) rfl) | (with_reducible intro _) | (simp only[↓M2,M2,Mb,reduceIte]) | (with_reducible refine hrc ?_) | (with_reducible show Q6 _ _ _ _ _;first | refine Y6 aS aL aR ?_ | refine Y7 aS aL aR ?_ | refine ld aS aL aR ?_) | (with_reducible show indexAddr _ _ _ _ _ _;refine Z1 aL au ?_) | (with_reducible show V0 _ _ _ _ _ _ _ _;refine Q7 aL ?_) | (with_reducible show Xj _ _ _ _ _ _;refine W2 aR ?_) | (with_reducible show pick _ _ _ _ _ _;refine F3 ?_) | (apply Zn;intro hh;(try simp only[hh,reduceIte,↓M2,M2,Mb,reduceIte]))));done)))
    intros;(repeat (rename_i hx;subst hx))
    rename_i w3 hb3
    (repeat refine Hd.h ?_)
    refine Q6X hb3.sat hq2 g12 hn' fun w4 σ4 hk4=>?_;exact V2 hmax hn' ⟨σ4,hk2.trans (hb3.stp.trans hk4),by rw[hnx,hacc,hP,hcl];rfl⟩
   | true=>
    refine U8 hs2 ?_;have hrc: ∀{w':World} {K:Value->World->Prop},K (.bool true) w'->Q0 P F.e [S c.like[n]] w' K:=fun hK=>Ui _ p2 (by rw[hcl];exact hK)
    (repeat (apply X0;(· intros;(repeat (rename_i hx;subst hx));(repeat' (first | (with_reducible exact Q8 rfl) | (with_reducible exact B5 (Stp.bel (by (repeat (first | exact Stp.refl (by (first | assumption | exact Stp.sat Q9 | exact Hst.sat Q9)) | assumption | refine Stp.trans ?_ (by first | assumption | exact Hst.stp Q9))))) rfl) | (with_reducible intro _) | (simp only[↓M2,M2,Mb,reduceIte]) | (with_reducible refine hrc ?_) | (with_reducible show Q6 _ _ _ _ _;first | refine Y6 aS aL aR ?_ | refine Y7 aS aL aR ?_ | refine ld aS aL aR ?_) | (with_reducible show indexAddr _ _ _ _ _ _;refine Z1 aL au ?_) | (with_reducible show V0 _ _ _ _ _ _ _ _;refine Q7 aL ?_) | (with_reducible show Xj _ _ _ _ _ _;refine W2 aR ?_) | (with_reducible show pick _ _ _ _ _ _;refine F3 ?_) | (apply Zn;intro hh;(try simp only[hh,reduceIte,↓M2,M2,Mb,reduceIte]))));done)))
    intros;(repeat (rename_i hx;subst hx))
    rename_i w3 hb3
    (repeat refine Hd.h ?_)
    refine Jn ?_
    (repeat refine Hd.h ?_)
    refine Q6X hb3.sat hq2 g12 hn' fun w4 σ4 hk4=>?_;exact V2 hmax hn' ⟨σ4,hk2.trans (hb3.stp.trans hk4),by rw[hnx,hacc,hP,hcl];simp⟩
 .have hn': ¬n<c.like.length:=by simpa using hc
  obtain rfl:n=c.like.length:=by omega
  exact h _ _ hk2
set_option maxHeartbeats 2000000 in
theorem Q5J {c:Cla} {lv fv mv:Value} {w1:World} {σ1:Q2} {q:Addr} {ok:Bool} (ak:X7 w1 σ1) (hq:J7 σ1 q [S c.name,S c.super,lv, .bool c.iface, .bool c.abs, .bool c.fin,fv,mv]) {i:Nat} {N m0:Nat} {W:Nat->Value->World->Prop} (g2:Sl 3 I7 σ1 fv c.fields) (hi:i<c.fields.length)
 (h: ∀w' σ',Stp w1 σ1 w' σ'->Py N W (Value.bool (ok&&(List.range i).all (Js c i)), .int .i64 (IntKind.i64.wrap (i+1))) w'/\Dv N (Value.bool (ok&&(List.range i).all (Js c i)), .int .i64 (IntKind.i64.wrap (i+1)))<m0):
 lp (α:=Value×Value) (Value.bool ok,(.int .i64 0)) w1 fun L b d_ w=>
  Z9 P .lss T.f (.tmp 102) (.tmp 103) b.2 (I i) w fun aa w=>
  X1 aa (
   dr w fun e H=>
   J3 e (fun t=> ∀w:World,H w->Q1 b.1 true w (fieldAddr P T.c (.pointer (some q)) 6) (dk e t w)) fun t=>
   J3 e (fun v=> ∀w:World,H w->Q1 b.1 true w (fun w J=>J b.2 w) (dk e v w)) fun v=>
   J3 e (fun A=> ∀w:World,H w->Q1 b.1 true w (fieldAddr P T.c (.pointer (some q)) 6) (dk e A w)) fun A=>
   J3 e (fun C=> ∀w:World,H w->Q1 b.1 true w (fun w J=>J (I i) w) (dk e C w)) fun C=>
   J3 e (fun u=> ∀f:Value,∀w:World,H w->t f w->Q1 b.1 true w (Q6 P T.k f) (dk e u w)) fun u=>
   J3 e (fun y=> ∀g:Value,∀j:Value,∀w:World,H w->u g w->v j w->Q1 b.1 true w (indexAddr P T.k g j) (dk e y w)) fun y=>
   J3 e (fun z=> ∀l:Value,∀w:World,H w->y l w->Q1 b.1 true w (fieldAddr P T.o l 0) (dk e z w)) fun z=>
   J3 e (fun O=> ∀m:Value,∀w:World,H w->z m w->Q1 b.1 true w (Q6 P T.b m) (dk e O w)) fun O=>
   J3 e (fun B=> ∀n:Value,∀w:World,H w->A n w->Q1 b.1 true w (Q6 P T.k n) (dk e B w)) fun B=>
   J3 e (fun D=> ∀o:Value,∀p:Value,∀w:World,H w->B o w->C p w->Q1 b.1 true w (indexAddr P T.k o p) (dk e D w)) fun D=>
   J3 e (fun E=> ∀r:Value,∀w:World,H w->D r w->Q1 b.1 true w (fieldAddr P T.o r 0) (dk e E w)) fun E=>
   J3 e (fun Q=> ∀s:Value,∀w:World,H w->E s w->Q1 b.1 true w (Q6 P T.b s) (dk e Q w)) fun Q=>
   ∀f:Value,∀j:Value,∀n:Value,∀p:Value,∀g:Value,∀l:Value,∀m:Value,∀R:Value,∀o:Value,∀r:Value,∀s:Value,∀U:Value,∀w:World,H w->t f w->v j w->A n w->C p w->u g w->y l w->z m w->O R w->B o w->D r w->E s w->Q U w->
   Q1 b.1 true w (Z9 P .neq T.b (.tmp 114) (.tmp 120) R U) fun ac w=>
   pick P b.1 ac (.bool false) w fun ad w=>
   Z9 P .add T.f (.tmp 105) (.const (.int .i64 1)) b.2 (.int .i64 1) w fun ab w=>
   L (ad,ab) w) (
   Z9 P .add T.f (.tmp 76) (.const (.int .i64 1)) (I i) (.int .i64 1) w fun ae w=>
   (Py N W (b.1,ae) w/\Dv N (b.1,ae)<m0)):=by
 have ar:=g2.max;refine C4 (a:=Value.bool ok) i (fun k x w'=> ∃σ',Stp w1 σ1 w' σ'/\x=Value.bool (ok&&(List.range k).all (Js c i))) ⟨σ1,Stp.refl ak,by simp⟩ fun k x w2 d hk Y=>?_
 obtain ⟨σ2,M,rfl⟩:=Y;have ax:=hq.up M;have X:=g2.up M;have al:=M.sat;refine J0 ?_;refine Q4 (fun hc=>?_) (fun hc=>?_)
 .have ai:k<i:=by simpa using hc
  have Z:k<c.fields.length:=by omega
  have V:(ok&&(List.range (k+1)).all (Js c i))=((ok&&(List.range k).all (Js c i))&&Js c i k):=by rw[Oy,Bool.and_assoc]
  have hQ:Js c i k= !decide (c.fields[k].name=c.fields[i].name):=by unfold Js Ph;rw[K7 Z,K7 hi]
  rw[hQ] at V;obtain ⟨p1,_⟩:=X.elF Z;obtain ⟨p2,_⟩:=X.elF hi;generalize (ok&&(List.range k).all (Js c i))=ag at V⊢;clear h hQ hc;cases ag
  all_goals
   refine U8 al ?_
   (repeat refine X0 Vf ?_)
   (intros;(repeat (rename_i hx;subst hx));(try simp only[↓M2,M2,Mb,reduceIte]))
   rename_i w3 ah;exact V2 Q5 ai ⟨σ2,M.trans ah.stp,by rw[V];rfl⟩
 .have aj:k=i:=by
   have: ¬k<i:=by simpa using hc
   omega
  subst aj
  (try simp only[↓M1,M1,Mb,reduceIte])
  exact h _ _ M
set_option maxHeartbeats 4000000 in
theorem X6N {c:Cla} {lv fv mv:Value} {w1:World} {σ1:Q2} {q:Addr} {ok:Bool} (aw:X7 w1 σ1) (hq:J7 σ1 q [S c.name,S c.super,lv, .bool c.iface, .bool c.abs, .bool c.fin,fv,mv]) {J:Value->World->Prop} (g2:Sl 3 I7 σ1 fv c.fields)
 (h: ∀w' σ',Stp w1 σ1 w' σ'->J (.bool (ok&&(List.range c.fields.length).all fun i=>Sp c i&&(List.range i).all (Js c i))) w'):
 lp (
  α:=Value×Value) (Value.bool ok,(.int .i64 0)) w1 fun Z g d_ w=>
  fieldAddr P T.c (.pointer (some q)) 6 w fun ax w=>
  Q6 P T.k ax w fun ay w=>
  V0 P .len [T.k] T.f [false] [ay] w fun az w=>
  Z9 P .lss T.f (.tmp 71) (.tmp 74) g.2 az w fun a0 w=>
  X1 a0 (
   Q1 g.1 true w (fieldAddr P T.c (.pointer (some q)) 6) fun a2 w=>
   Q1 g.1 true w (Q6 P T.k a2) fun a3 w=>
   Q1 g.1 true w (fun w J=>J g.2 w) fun a4 w=>
   Q1 g.1 true w (indexAddr P T.k a3 a4) fun a5 w=>
   Q1 g.1 true w (fieldAddr P T.o a5 0) fun a6 w=>
   Q1 g.1 true w (Q6 P T.b a6) fun a7 w=>
   Q1 g.1 true w (Q0 P F.v [a7]) fun a8 w=>
   pick P g.1 a8 (.bool false) w fun r w=>
   Q1 r true w (fieldAddr P T.c (.pointer (some q)) 6) fun a9 w=>
   Q1 r true w (Q6 P T.k a9) fun ba w=>
   Q1 r true w (fun w J=>J g.2 w) fun bb w=>
   Q1 r true w (indexAddr P T.k ba bb) fun bc w=>
   Q1 r true w (fieldAddr P T.o bc 1) fun bd w=>
   Q1 r true w (Q6 P T.b bd) fun be w=>
   Q1 r true w (Q0 P F.f [be]) fun bf w=>
   pick P r bf (.bool false) w fun ae w=>
   Q1 ae true w (fieldAddr P T.c (.pointer (some q)) 3) fun bg w=>
   Q1 ae true w (Q6 P T.r bg) fun bh w=>
   Q1 ae true w (W0 P .not bh) fun ak w=>
   pick P ae ak (.bool false) w fun al w=>
   lp (α:=Value×Value) (al,(.int .i64 0)) w fun aa f d_ w=>
    Z9 P .lss T.f (.tmp 102) (.tmp 103) f.2 g.2 w fun am w=>
    X1 am (
     dr w fun k Y=>
     J3 k (fun L=> ∀w:World,Y w->Q1 f.1 true w (fieldAddr P T.c (.pointer (some q)) 6) (dk k L w)) fun L=>
     J3 k (fun N=> ∀w:World,Y w->Q1 f.1 true w (fun w J=>J f.2 w) (dk k N w)) fun N=>
     J3 k (fun R=> ∀w:World,Y w->Q1 f.1 true w (fieldAddr P T.c (.pointer (some q)) 6) (dk k R w)) fun R=>
     J3 k (fun V=> ∀w:World,Y w->Q1 f.1 true w (fun w J=>J g.2 w) (dk k V w)) fun V=>
     J3 k (fun M=> ∀u:Value,∀w:World,Y w->L u w->Q1 f.1 true w (Q6 P T.k u) (dk k M w)) fun M=>
     J3 k (fun O=> ∀v:Value,∀y:Value,∀w:World,Y w->M v w->N y w->Q1 f.1 true w (indexAddr P T.k v y) (dk k O w)) fun O=>
     J3 k (fun Q=> ∀z:Value,∀w:World,Y w->O z w->Q1 f.1 true w (fieldAddr P T.o z 0) (dk k Q w)) fun Q=>
     J3 k (fun ac=> ∀A:Value,∀w:World,Y w->Q A w->Q1 f.1 true w (Q6 P T.b A) (dk k ac w)) fun ac=>
     J3 k (fun U=> ∀B:Value,∀w:World,Y w->R B w->Q1 f.1 true w (Q6 P T.k B) (dk k U w)) fun U=>
     J3 k (fun W=> ∀C:Value,∀D:Value,∀w:World,Y w->U C w->V D w->Q1 f.1 true w (indexAddr P T.k C D) (dk k W w)) fun W=>
     J3 k (fun X=> ∀E:Value,∀w:World,Y w->W E w->Q1 f.1 true w (fieldAddr P T.o E 0) (dk k X w)) fun X=>
     J3 k (fun ad=> ∀H:Value,∀w:World,Y w->X H w->Q1 f.1 true w (Q6 P T.b H) (dk k ad w)) fun ad=>
     ∀u:Value,∀y:Value,∀B:Value,∀D:Value,∀v:Value,∀z:Value,∀A:Value,∀af:Value,∀C:Value,∀E:Value,∀H:Value,∀ag:Value,∀w:World,Y w->L u w->N y w->R B w->V D w->M v w->O z w->Q A w->ac af w->U C w->W E w->X H w->ad ag w->
     Q1 f.1 true w (Z9 P .neq T.b (.tmp 114) (.tmp 120) af ag) fun ao w=>
     pick P f.1 ao (.bool false) w fun ap w=>
     Z9 P .add T.f (.tmp 105) (.const (.int .i64 1)) f.2 (.int .i64 1) w fun an w=>
     aa (ap,an) w) (
     Z9 P .add T.f (.tmp 76) (.const (.int .i64 1)) g.2 (.int .i64 1) w fun a1 w=>
     Z (f.1,a1) w)) (
   J g.1 w):=by
 have t:=g2.max;refine C4 (a:=Value.bool ok) c.fields.length (fun n x w'=> ∃σ',Stp w1 σ1 w' σ'/\x=Value.bool (ok&&(List.range n).all fun i=>Sp c i&&(List.range i).all (Js c i))) ⟨σ1,Stp.refl aw,by simp⟩ fun n x w2 d bs aj=>?_
 obtain ⟨σ2,o,rfl⟩:=aj;have p:=hq.up o;have m:=g2.up o;have l:=o.sat
 (repeat refine Hd.h ?_)
 refine ld l p rfl ?_;refine Q7 m ?_;refine J0 ?_;refine Q4 (fun hc=>?_) (fun hc=>?_)
 .have j:n<c.fields.length:=by simpa using hc
  have ab:(ok&&(List.range (n+1)).all fun i=>Sp c i&&(List.range i).all (Js c i))=((ok&&(List.range n).all fun i=>Sp c i&&(List.range i).all (Js c i))&&(Sp c n&&(List.range n).all (Js c n))):=by rw[Oy,Bool.and_assoc]
  have hP:Sp c n=(B3 c.fields[n].name&&right c.fields[n].kind&& !c.iface):=by unfold Sp Ph;rw[K7 j]
  obtain ⟨p1,r1⟩:=m.elF j;have b1:c.fields[n].name.length<=140737488355328:=by have:=r1.2.1;simp only[W6] at this;omega
  have b2:c.fields[n].kind.length<=140737488355328:=by have:=r1.2.2;simp only[W6] at this;omega
  generalize (ok&&(List.range n).all fun i=>Sp c i&&(List.range i).all (Js c i))=ah at ab⊢;clear h hc;have step: ∀b,b=(ah&&Sp c n)->(ah&&(Sp c n&&(List.range n).all (Js c n)))=(b&&(List.range n).all (Js c n)):=fun b e=>by rw[e,Bool.and_assoc]
  cases ah with
  | false=>
   (repeat refine Hd.h ?_)
   refine Q5J l p m j fun w4 σ4 s=>?_;exact V2 t j ⟨σ4,o.trans s,by rw[ab];rfl⟩
  | true=>
   (repeat refine Hd.h ?_)
   refine ld l p rfl ?_
   (repeat refine Hd.h ?_)
   refine Z1 m j ?_
   (repeat refine Hd.h ?_)
   refine ld l p1 rfl ?_
   (repeat refine Hd.h ?_)
   refine Q1x _ b1 ?_;cases d1:B3 c.fields[n].name with
   | false=>
    (repeat refine Hd.h ?_)
    refine Q5J l p m j fun w4 σ4 s=>?_;exact V2 t j ⟨σ4,o.trans s,by rw[ab,step false (by rw[hP,d1];rfl)]⟩
   | true=>
    (repeat refine Hd.h ?_)
    refine ld l p rfl ?_
    (repeat refine Hd.h ?_)
    refine Z1 m j ?_
    (repeat refine Hd.h ?_)
    refine ld l p1 rfl ?_
    (repeat refine Hd.h ?_)
    refine Lw _ b2 ?_;cases d2:right c.fields[n].kind with
    | false=>
     (repeat refine Hd.h ?_)
     refine Q5J l p m j fun w4 σ4 s=>?_;exact V2 t j ⟨σ4,o.trans s,by rw[ab,step false (by rw[hP,d1,d2];rfl)]⟩
    | true=>
     (repeat refine Hd.h ?_)
     refine ld l p rfl ?_
     (repeat refine Hd.h ?_)
     refine Q5J l p m j fun w4 σ4 s=>?_;exact V2 t j ⟨σ4,o.trans s,by rw[ab,step (!c.iface) (by rw[hP,d1,d2];rfl)]⟩
 .have j: ¬n<c.fields.length:=by simpa using hc
  obtain rfl:n=c.fields.length:=by omega
  exact h _ _ o
set_option maxHeartbeats 2000000 in
theorem Ij {c:Cla} {lv fv mv:Value} {w1:World} {σ1:Q2} {q:Addr} {ok:Bool} (ad:X7 w1 σ1) (hq:J7 σ1 q [S c.name,S c.super,lv, .bool c.iface, .bool c.abs, .bool c.fin,fv,mv]) {i:Nat} {q9:Addr} {pv cv hv:Value} {N m0:Nat} {L:Nat->Value->World->Prop} (g3:Sl 7 F5 σ1 mv c.methods) (hi:i<c.methods.length) (ac:J7 σ1 q9 [S c.methods[i].name,pv,S c.methods[i].result, .bool c.methods[i].abs,I c.methods[i].locals,cv,hv])
 (h: ∀w' σ',Stp w1 σ1 w' σ'->Py N L (Value.bool (ok&&(List.range i).all (Jv c i)), .int .i64 (IntKind.i64.wrap (i+1))) w'/\Dv N (Value.bool (ok&&(List.range i).all (Jv c i)), .int .i64 (IntKind.i64.wrap (i+1)))<m0):
 lp (α:=Value×Value) (Value.bool ok,(.int .i64 0)) w1 fun y b d_ w=>
  Z9 P .lss T.f (.tmp 158) (.tmp 159) b.2 (I i) w fun Q w=>
  X1 Q (
   dr w fun e B=>
   J3 e (fun o=> ∀w:World,B w->Q1 b.1 true w (fieldAddr P T.c (.pointer (some q)) 7) (dk e o w)) fun o=>
   J3 e (fun r=> ∀w:World,B w->Q1 b.1 true w (fun w J=>J b.2 w) (dk e r w)) fun r=>
   J3 e (fun u=> ∀w:World,B w->Q1 b.1 true w (fieldAddr P T.e (.pointer (some q9)) 0) (dk e u w)) fun u=>
   J3 e (fun p=> ∀f:Value,∀w:World,B w->o f w->Q1 b.1 true w (Q6 P T.j f) (dk e p w)) fun p=>
   J3 e (fun s=> ∀g:Value,∀j:Value,∀w:World,B w->p g w->r j w->Q1 b.1 true w (indexAddr P T.j g j) (dk e s w)) fun s=>
   J3 e (fun t=> ∀l:Value,∀w:World,B w->s l w->Q1 b.1 true w (fieldAddr P T.e l 0) (dk e t w)) fun t=>
   J3 e (fun z=> ∀m:Value,∀w:World,B w->t m w->Q1 b.1 true w (Q6 P T.b m) (dk e z w)) fun z=>
   J3 e (fun A=> ∀n:Value,∀w:World,B w->u n w->Q1 b.1 true w (Q6 P T.b n) (dk e A w)) fun A=>
   ∀f:Value,∀j:Value,∀n:Value,∀g:Value,∀l:Value,∀m:Value,∀D:Value,∀E:Value,∀w:World,B w->o f w->r j w->u n w->p g w->s l w->t m w->z D w->A E w->
   Q1 b.1 true w (Z9 P .neq T.b (.tmp 170) (.tmp 172) D E) fun U w=>
   pick P b.1 U (.bool false) w fun V w=>
   Z9 P .add T.f (.tmp 161) (.const (.int .i64 1)) b.2 (.int .i64 1) w fun R w=>
   y (V,R) w) (
   Z9 P .add T.f (.tmp 128) (.const (.int .i64 1)) (I i) (.int .i64 1) w fun C w=>
   (Py N L (b.1,C) w/\Dv N (b.1,C)<m0)):=by
 have ai:=g3.max;refine C4 (a:=Value.bool ok) i (fun k x w'=> ∃σ',Stp w1 σ1 w' σ'/\x=Value.bool (ok&&(List.range k).all (Jv c i))) ⟨σ1,Stp.refl ad,by simp⟩ fun k x w2 d hk M=>?_
 obtain ⟨σ2,v,rfl⟩:=M;have ar:=hq.up v;have aj:=ac.up v;have Y:=g3.up v;have ae:=v.sat;refine J0 ?_;refine Q4 (fun W=>?_) (fun W=>?_)
 .have aa:k<i:=by simpa using W
  have O:k<c.methods.length:=by omega
  have H:(ok&&(List.range (k+1)).all (Jv c i))=((ok&&(List.range k).all (Jv c i))&&Jv c i k):=by rw[Oy,Bool.and_assoc]
  have hQ:Jv c i k= !decide (c.methods[k].name=c.methods[i].name):=by unfold Jv Fq;rw[K7 O,K7 hi]
  rw[hQ] at H;obtain ⟨az,an,aw,p1,_⟩:=Y.elM O;generalize (ok&&(List.range k).all (Jv c i))=X at H⊢;clear h hQ W;cases X
  all_goals
   refine U8 ae ?_
   (repeat refine X0 Vf ?_)
   (intros;(repeat (rename_i hx;subst hx));(try simp only[↓M2,M2,Mb,reduceIte]))
   rename_i w3 Z;exact V2 Q5 aa ⟨σ2,v.trans Z.stp,by rw[H];rfl⟩
 .have ab:k=i:=by
   have: ¬k<i:=by simpa using W
   omega
  subst ab
  (try simp only[↓M1,M1,Mb,reduceIte])
  exact h _ _ v
set_option maxHeartbeats 4000000 in
theorem X73 {c:Cla} {lv fv mv:Value} {w1:World} {σ1:Q2} {q:Addr} {ok:Bool} (bu:X7 w1 σ1) (hq:J7 σ1 q [S c.name,S c.super,lv, .bool c.iface, .bool c.abs, .bool c.fin,fv,mv]) {J:Value->World->Prop} (g3:Sl 7 F5 σ1 mv c.methods)
 (h: ∀w' σ',Stp w1 σ1 w' σ'->J (.bool (ok&&(List.range c.methods.length).all fun i=>Hr c i&&(List.range i).all (Jv c i))) w'):
 lp (α:=Value×Value) (Value.bool ok,(.int .i64 0)) w1 fun V v d_ w=>
  fieldAddr P T.c (.pointer (some q)) 7 w fun ax w=>
  Q6 P T.j ax w fun ay w=>
  V0 P .len [T.j] T.f [false] [ay] w fun az w=>
  Z9 P .lss T.f (.tmp 123) (.tmp 126) v.2 az w fun a0 w=>
  X1 a0 (
   fieldAddr P T.c (.pointer (some q)) 7 w fun a2 w=>
   Q6 P T.j a2 w fun a3 w=>
   indexAddr P T.j a3 v.2 w fun a4 w=>
   Q6 P T.e a4 w fun a5 w=>
   G9 P T.e w fun t9 w=>
   J9 P T.e t9 a5 w fun _u w=>
   Q1 v.1 true w (Q6 P T.e t9) fun a6 w=>
   Q1 v.1 true w (Q0 P F.a9 [a6]) fun a7 w=>
   pick P v.1 a7 (.bool false) w fun r w=>
   Q1 r true w (fieldAddr P T.e t9 3) fun a8 w=>
   Q1 r true w (Q6 P T.r a8) fun a9 w=>
   Q1 r true w (W0 P .not a9) fun ba w=>
   Q1 r true w (fun w J=>J ba w) fun aa w=>
   Q1 aa false w (fieldAddr P T.c (.pointer (some q)) 4) fun bb w=>
   Q1 aa false w (Q6 P T.r bb) fun bc w=>
   Q1 r true w (pick P aa (.bool true) bc) fun bd w=>
   pick P r bd (.bool false) w fun s w=>
   Q1 s true w (fieldAddr P T.c (.pointer (some q)) 3) fun be w=>
   Q1 s true w (Q6 P T.r be) fun bf w=>
   Q1 s true w (W0 P .not bf) fun bg w=>
   Q1 s true w (fun w J=>J bg w) fun ab w=>
   Q1 ab false w (fieldAddr P T.e t9 3) fun bh w=>
   Q1 ab false w (Q6 P T.r bh) fun bi w=>
   Q1 s true w (pick P ab (.bool true) bi) fun bj w=>
   pick P s bj (.bool false) w fun bk w=>
   lp (α:=Value×Value) (bk,(.int .i64 0)) w fun W k d_ w=>
    Z9 P .lss T.f (.tmp 158) (.tmp 159) k.2 v.2 w fun bl w=>
    X1 bl (
     dr w fun y Br=>
     J3 y (fun H=> ∀w:World,Br w->Q1 k.1 true w (fieldAddr P T.c (.pointer (some q)) 7) (dk y H w)) fun H=>
     J3 y (fun M=> ∀w:World,Br w->Q1 k.1 true w (fun w J=>J k.2 w) (dk y M w)) fun M=>
     J3 y (fun Q=> ∀w:World,Br w->Q1 k.1 true w (fieldAddr P T.e t9 0) (dk y Q w)) fun Q=>
     J3 y (fun L=> ∀z:Value,∀w:World,Br w->H z w->Q1 k.1 true w (Q6 P T.j z) (dk y L w)) fun L=>
     J3 y (fun N=> ∀A:Value,∀B:Value,∀w:World,Br w->L A w->M B w->Q1 k.1 true w (indexAddr P T.j A B) (dk y N w)) fun N=>
     J3 y (fun O=> ∀C:Value,∀w:World,Br w->N C w->Q1 k.1 true w (fieldAddr P T.e C 0) (dk y O w)) fun O=>
     J3 y (fun ac=> ∀D:Value,∀w:World,Br w->O D w->Q1 k.1 true w (Q6 P T.b D) (dk y ac w)) fun ac=>
     J3 y (fun ad=> ∀E:Value,∀w:World,Br w->Q E w->Q1 k.1 true w (Q6 P T.b E) (dk y ad w)) fun ad=>
     ∀z:Value,∀B:Value,∀E:Value,∀A:Value,∀C:Value,∀D:Value,∀ai:Value,∀aj:Value,∀w:World,Br w->H z w->M B w->Q E w->L A w->N C w->O D w->ac ai w->ad aj w->
     Q1 k.1 true w (Z9 P .neq T.b (.tmp 170) (.tmp 172) ai aj) fun bn w=>
     pick P k.1 bn (.bool false) w fun bo w=>
     Z9 P .add T.f (.tmp 161) (.const (.int .i64 1)) k.2 (.int .i64 1) w fun bm w=>
     W (bo,bm) w) (
     Z9 P .add T.f (.tmp 128) (.const (.int .i64 1)) v.2 (.int .i64 1) w fun a1 w=>
     V (k.1,a1) w)) (
   J v.1 w):=by
 have o:=g3.max;refine C4 (a:=Value.bool ok) c.methods.length (fun n x w'=> ∃σ',Stp w1 σ1 w' σ'/\x=Value.bool (ok&&(List.range n).all fun i=>Hr c i&&(List.range i).all (Jv c i))) ⟨σ1,Stp.refl bu,by simp⟩ fun n x w2 d b4 av=>?_
 obtain ⟨σ2,X,rfl⟩:=av;have am:=hq.up X;have af:=g3.up X;have ag:=X.sat
 (repeat refine Hd.h ?_)
 refine ld ag am rfl ?_;refine Q7 af ?_;refine J0 ?_;refine Q4 (fun hc=>?_) (fun hc=>?_)
 .have f:n<c.methods.length:=by simpa using hc
  have u:(ok&&(List.range (n+1)).all fun i=>Hr c i&&(List.range i).all (Jv c i))=((ok&&(List.range n).all fun i=>Hr c i&&(List.range i).all (Jv c i))&&(Hr c n&&(List.range n).all (Jv c n))):=by rw[Oy,Bool.and_assoc]
  have hP:Hr c n=(Xu c.methods[n]&&(!c.methods[n].abs||c.abs)&&(!c.iface||c.methods[n].abs)):=by unfold Hr Fq;rw[K7 f]
  obtain ⟨pv,cv,hv,p1,r1⟩:=af.elM f;generalize (ok&&(List.range n).all fun i=>Hr c i&&(List.range i).all (Jv c i))=ak at u⊢;clear h hc;have step: ∀b,b=(ak&&Hr c n)->(ak&&(Hr c n&&(List.range n).all (Jv c n)))=(b&&(List.range n).all (Jv c n)):=fun b e=>by rw[e,Bool.and_assoc]
  (repeat refine Hd.h ?_)
  refine ld ag am rfl ?_;refine Z1 af f ?_;refine Y7 ag p1 rfl ?_;refine J6 ag (by rfl) rfl (Rep.one r1) fun q9 w3 σ3 Y an=>?_
  have ao:=Y.sat;have aw:=am.up Y;have ar:=af.up Y;have r3:=RMe_lift r1 ⟨Y.le⟩;have ah:=X.trans Y;cases ak with
  | false=>
   (repeat refine Hd.h ?_)
   refine Ij ao aw ar f an fun w4 U l=>?_;exact V2 o f ⟨U,ah.trans l,by rw[u];rfl⟩
  | true=>
   (repeat refine Hd.h ?_)
   refine Y7 ao an rfl ?_
   (repeat refine Hd.h ?_)
   refine X2Q ao r3 fun w5 σ5 Z=>?_;have m:=Z.sat;have t:=aw.up Z;have g:=an.up Z;have R:=ar.up Z;have p:=ah.trans Z;cases d1:Xu c.methods[n] with
   | false=>
    (repeat refine Hd.h ?_)
    refine Ij m t R f g fun w4 U l=>?_;exact V2 o f ⟨U,p.trans l,by rw[u,step false (by rw[hP,d1];rfl)]⟩
   | true=>
    (repeat refine Hd.h ?_)
    refine ld m g rfl ?_
    (repeat refine Hd.h ?_)
    have j: ∀b1:Bool,b1=(!c.methods[n].abs||c.abs)->Hr c n=(b1&&(!c.iface||c.methods[n].abs)):=fun b1 e=>by rw[hP,d1,e];rfl
    cases d2:c.methods[n].abs with
    | false=>
     rw[d2] at j g;simp only[Bool.not_true,Bool.not_false]
     (repeat refine Hd.h ?_)
     refine ld m t rfl ?_
     (repeat refine Hd.h ?_)
     cases d4:c.iface with
     | false=>
      simp only[Bool.not_true,Bool.not_false]
      (repeat refine Hd.h ?_)
      refine Ij m t R f (by rw[d2];exact g) fun w4 U l=>?_
      exact V2 o f ⟨U,p.trans l,by rw[u,step true (by rw[j true rfl,d4];rfl)]⟩
     | true=>
      simp only[Bool.not_true,Bool.not_false]
      (repeat refine Hd.h ?_)
      refine ld m g rfl ?_
      (repeat refine Hd.h ?_)
      refine Ij m t R f (by rw[d2];exact g) fun w4 U l=>?_
      exact V2 o f ⟨U,p.trans l,by rw[u,step false (by rw[j true rfl,d4];rfl)]⟩
    | true=>
     rw[d2] at j g;simp only[Bool.not_true,Bool.not_false]
     (repeat refine Hd.h ?_)
     refine ld m t rfl ?_;cases d3:c.abs with
     | false=>
      (repeat refine Hd.h ?_)
      refine Ij m t R f (by rw[d2];exact g) fun w4 U l=>?_
      exact V2 o f ⟨U,p.trans l,by rw[u,step false (by rw[j false (by rw[d3];rfl)];rfl)]⟩
     | true=>
      (repeat refine Hd.h ?_)
      refine ld m t rfl ?_
      (repeat refine Hd.h ?_)
      cases d4:c.iface with
      | false=>
       simp only[Bool.not_true,Bool.not_false]
       (repeat refine Hd.h ?_)
       refine Ij m t R f (by rw[d2];exact g) fun w4 U l=>?_
       exact V2 o f ⟨U,p.trans l,by rw[u,step true (by rw[j true (by rw[d3];rfl),d4];rfl)]⟩
      | true=>
       simp only[Bool.not_true,Bool.not_false]
       (repeat refine Hd.h ?_)
       refine ld m g rfl ?_
       (repeat refine Hd.h ?_)
       refine Ij m t R f (by rw[d2];exact g) fun w4 U l=>?_
       exact V2 o f ⟨U,p.trans l,by rw[u,step true (by rw[j true (by rw[d3];rfl),d4];rfl)]⟩
 .have f: ¬n<c.methods.length:=by simpa using hc
  obtain rfl:n=c.methods.length:=by omega
  exact h _ _ X
theorem X6K {c:Cla} {M L mv:Value} {w1:World} {σ1:Q2} {q:Addr} {ok:Bool} (d:X7 w1 σ1) (g:J7 σ1 q [S c.name,S c.super,M, .bool c.iface, .bool c.abs, .bool c.fin,L,mv]) (h:K (.bool (ok&&X2j c)) w1):
 Q1 (Value.bool ok) true w1 (fieldAddr P T.c (.pointer (some q)) 3) fun j w=>
  Q1 (Value.bool ok) true w (Q6 P T.r j) fun k w=>
  Q1 (Value.bool ok) true w (W0 P .not k) fun l w=>
  Q1 (Value.bool ok) true w (fun w J=>J l w) fun b w=>
  Q1 b false w (fieldAddr P T.c (.pointer (some q)) 4) fun m w=>
  Q1 b false w (Q6 P T.r m) fun n w=>
  Q1 b false w (fun w J=>J n w) fun e w=>
  Q1 e true w (fieldAddr P T.c (.pointer (some q)) 1) fun o w=>
  Q1 e true w (Q6 P T.b o) fun p w=>
  Q1 e true w (Z9 P .eql T.b (.tmp 185) (.const (.string ⟨#[79,98,106,101,99,116]⟩)) p (.string ⟨#[79,98,106,101,99,116]⟩)) fun r w=>
  Q1 b false w (pick P e r (.bool false)) fun s w=>
  Q1 (Value.bool ok) true w (pick P b (.bool true) s) fun t w=>
  pick P (Value.bool ok) t (.bool false) w fun a w=>
  Q1 a true w (fieldAddr P T.c (.pointer (some q)) 4) fun u w=>
  Q1 a true w (Q6 P T.r u) fun v w=>
  Q1 a true w (fun w J=>J v w) fun f w=>
  Q1 f true w (fieldAddr P T.c (.pointer (some q)) 5) fun y w=>
  Q1 f true w (Q6 P T.r y) fun z w=>
  Q1 a true w (pick P f z (.bool false)) fun A w=>
  Q1 a true w (W0 P .not A) fun B w=>
  pick P a B (.bool false) w fun C w=>
  K C w:=by
 unfold X2j at h;have H:decide (c.super=M3)=decide (c.super=[79,98,106,101,99,116]):=rfl;rw[H] at h;cases ok with
 | false=>(try simp only[↓M1,M1,Mb,reduceIte]);simpa using h
 | true=>
  (try simp only[↓M1,M1,Mb,reduceIte])
  refine ld d g rfl ?_
  (try simp only[↓M1,M1,Mb,reduceIte])
  cases D:c.iface with
  | false=>
   rw[D] at h
   (try simp only[↓M1,M1,Mb,reduceIte])
   refine ld d g rfl ?_;cases i:c.abs with
   | false=>rw[i] at h;(try simp only[↓M1,M1,Mb,reduceIte]);simpa using h
   | true=>
    rw[i] at h
    (try simp only[↓M1,M1,Mb,reduceIte])
    refine ld d g rfl ?_
    (try simp only[↓M1,M1,Mb,reduceIte])
    simpa using h
  | true=>
   rw[D] at h
   (try simp only[↓M1,M1,Mb,reduceIte])
   refine ld d g rfl ?_;cases i:c.abs with
   | false=>rw[i] at h;(try simp only[↓M1,M1,Mb,reduceIte]);simpa using h
   | true=>
    rw[i] at h
    (try simp only[↓M1,M1,Mb,reduceIte])
    refine ld d g rfl ?_
    (try simp only[↓M1,M1,Mb,reduceIte])
    cases E:decide (c.super=[79,98,106,101,99,116]) with
    | false=>rw[E] at h;(try simp only[↓M1,M1,Mb,reduceIte]);simpa using h
    | true=>
     rw[E] at h
     (try simp only[↓M1,M1,Mb,reduceIte])
     refine ld d g rfl ?_;simp only[i,↓M1,M1,Mb,reduceIte];refine ld d g rfl ?_
     (try simp only[↓M1,M1,Mb,reduceIte])
     simpa using h
variable {σ : Q2}
def X01 (c:Cla):Bool:=((((C2 c.name&&C2 c.super&& !decide (c.name=c.super))&&(List.range c.like.length).all fun i=>Hq c i&&(List.range i).all (Yv c i))&&(List.range c.fields.length).all fun i=>Sp c i&&(List.range i).all (Js c i))&&(List.range c.methods.length).all fun i=>Hr c i&&(List.range i).all (Jv c i))&&X2j c
theorem X5l {α:Type} {f:α->X2}: ∀(xs a:List α),Qo f a xs=true↔(xs.map f).Nodup/\ ∀x∈xs,∀y∈a,f y≠f x:=by
 intro xs
 induction xs with
 | nil=>intro a;simp[Qo]
 | cons x r h=>
  intro a;simp only[Qo,Bool.and_eq_true,h,Bool.not_eq_true',List.map_cons,List.nodup_cons];rw[<-Bool.not_eq_true,List.any_eq_true];simp only[decide_eq_true_eq,not_exists,not_and,List.mem_append,List.mem_cons,List.not_mem_nil,or_false,List.mem_map];constructor
  .rintro ⟨d,g,c⟩
   refine ⟨⟨fun y hy e=>c y hy x (.inr rfl) e.symm,g⟩,fun y hy z b=>?_⟩
   rcases hy with rfl | hy
   .exact d z b
   .exact c y hy z (.inl b)
  .rintro ⟨⟨d,g⟩,c⟩
   refine ⟨fun y hy=>c x (.inl rfl) y hy,g,fun y hy z b=>?_⟩
   rcases b with b | rfl
   .exact c y (.inr hy) z b
   .exact fun e=>d y hy e.symm
theorem Q3D {α:Type} {f:α->X2} {xs:List α} {p:α->Bool} {P:Nat->Bool} {Q:Nat->Nat->Bool} (c: ∀i (h:i<xs.length),P i=p xs[i]) (d: ∀i (h:i<xs.length) k (o:k<xs.length),Q i k= !decide (f xs[k]=f xs[i])):
 ((List.range xs.length).all fun i=>P i&&(List.range i).all (Q i))=true↔(∀x∈xs,p x=true)/\Qo f [] xs=true:=by
 rw[X5l,List.all_eq_true];simp only[List.mem_range,Bool.and_eq_true,List.all_eq_true,List.not_mem_nil,false_implies,implies_true,and_true];rw[List.nodup_iff_pairwise_ne,List.pairwise_iff_getElem];simp only[List.length_map,List.getElem_map];constructor
 .intro h
  refine ⟨fun x n=>?_,fun i j a e b=>?_⟩
  .obtain ⟨i,a,rfl⟩:=List.getElem_of_mem n
   rw[<-c i a];exact (h i a).1
  .have:=(h j e).2 i b
   rw[d j e i a] at this
   simpa using this
 .rintro ⟨g,l⟩ i a
  refine ⟨by rw[c i a];exact g _ (List.getElem_mem a),fun k m=>?_⟩
  rw[d i a k Q5]
  simpa using l k i Q5 a m
theorem X5z (c:Cla):X01 c=Bl c:=by
 have A:=Q3D (f:=id) (xs:=c.like) (p:=fun y=>C2 y&& !decide (y=c.name)) (P:=Hq c) (Q:=Yv c) (fun i h=>by unfold Hq;rw[K7 h]) (fun i h k l=>by unfold Yv;rw[K7 h,K7 l];rfl)
 have g:=Q3D (f:=Fld.name) (xs:=c.fields) (p:=fun f=>B3 f.name&&right f.kind&& !c.iface) (P:=Sp c) (Q:=Js c) (fun i h=>by unfold Sp Ph;rw[K7 h]) (fun i h k l=>by unfold Js Ph;rw[K7 h,K7 l])
 have d:=Q3D (f:=Hm.Met.name) (xs:=c.methods) (p:=fun m=>Xu m&&(!m.abs||c.abs)&&(!c.iface||m.abs)) (P:=Hr c) (Q:=Jv c) (fun i h=>by unfold Hr Fq;rw[K7 h]) (fun i h k l=>by unfold Jv Fq;rw[K7 h,K7 l])
 rw[Bool.eq_iff_iff];unfold X01 Bl X2j;simp only[Bool.and_eq_true,A,g,d];simp only[Bool.and_eq_true,Bool.not_eq_true',Bool.or_eq_true,Bool.and_eq_false_iff,Bool.or_eq_false_iff,decide_eq_true_eq,decide_eq_false_iff_not,List.all_eq_true,List.mem_cons,List.any_eq_false,Gx,Bool.not_eq_false'];constructor
 .rintro ⟨⟨⟨⟨⟨⟨n,o⟩,r⟩,a,s⟩,h6,t⟩,j,u⟩,b,q⟩
  refine ⟨⟨⟨⟨⟨⟨⟨⟨?_,?_⟩,s⟩,?_⟩,q,?_⟩,t⟩,u⟩,?_⟩,fun m d=>(j m d).1.1⟩
  .rintro x (rfl | rfl | hx)
   .exact n
   .exact o
   .exact (a x hx).1
  .rintro x (rfl | hx)
   .exact r
   .exact fun e=>(a x hx).2 e.symm
  .cases z:c.iface with
   | false=>exact .inl rfl
   | true=>
    rw[z] at b h6 j;have b:=b.resolve_left W3;refine .inr ⟨⟨b,?_⟩,fun m d e=>?_⟩
    .rw[List.eq_nil_iff_forall_not_mem]
     intro f g;exact absurd (h6 f g).2 W3
    .have:=(j m d).2.resolve_left W3
     rw[this] at e;cases e
  .cases v:c.abs with
   | true=>exact .inr rfl
   | false=>
    rw[v] at j;refine .inl fun m d e=>?_;have:=(j m d).1.2.resolve_right W3;rw[this] at e;cases e
  .exact fun f g=>(h6 f g).1
 .rintro ⟨⟨⟨⟨⟨⟨⟨⟨n,o⟩,r⟩,a⟩,s,h6⟩,t⟩,j⟩,u⟩,b⟩
  refine ⟨⟨⟨⟨⟨⟨n _ (.inl rfl),n _ (.inr (.inl rfl))⟩,o _ (.inl rfl)⟩,fun x hx=>⟨n x (.inr (.inr hx)),fun e=>o x (.inr hx) e.symm⟩,r⟩,fun f g=>⟨u f g,?_⟩,t⟩,fun m d=>⟨⟨b m d,?_⟩,?_⟩,j⟩,?_,s⟩
  .rcases a with a | ⟨⟨_,a⟩,_⟩
   .exact a
   .rw[a] at g;simp at g
  .rcases h6 with h6 | h6
   .left;exact eq_false_of_ne_true (h6 m d)
   .exact .inr h6
  .rcases a with a | ⟨_,a⟩
   .exact .inl a
   .right
    cases hx:m.abs with
    | true=>rfl
    | false=>exact absurd hx (a m d)
  .rcases a with a | ⟨⟨a,_⟩,_⟩
   .exact .inl a
   .exact .inr a
set_option maxRecDepth 9999 in
set_option maxHeartbeats 4000000 in
theorem X4n {c:Cla} {cs:List Value} (hs:X7 w σ) (hc:M8 σ c cs) (h: ∀w' σ',Stp w σ w' σ'->K (.bool (X01 c)) w'):Q0 P F.bz [.agg cs.toArray] w K:=Q1k (by
 unfold Ha;simp only[Y3,X3,L9,Xq,N0];unfold Z8 Y1 V1 X6 V8 Y0 X4 V5 X5;obtain ⟨lv,fv,mv,rfl,f1,f2,f3,f4,f5⟩:=hc;have cr:c.name.length<=140737488355328:=by simp only[W6] at f4;omega
 have ct:c.super.length<=140737488355328:=by simp only[W6] at f5;omega
 refine Z4 hs fun q w1 σ1 bd hq=>?_;have g1:=f1.up bd;have g2:=f2.up bd;have g3:=f3.up bd;have bf:=bd.sat
 have ch: ∀ok:Bool,ok=(C2 c.name&&C2 c.super&& !decide (c.name=c.super))->_:=fun ok e=>
  X5f (w1:=w1) (σ1:=σ1) (ok:=ok) bf hq (J:=fun v w=>lp (α:=Value×Value) (v,(.int .i64 0)) w fun bb o d_ w=>
   fieldAddr P T.c (.pointer (some q)) 6 w fun cu w=>
   Q6 P T.k cu w fun cv w=>
   V0 P .len [T.k] T.f [false] [cv] w fun cw w=>
   Z9 P .lss T.f (.tmp 71) (.tmp 74) o.2 cw w fun cx w=>
   X1 cx (
    Q1 o.1 true w (fieldAddr P T.c (.pointer (some q)) 6) fun cz w=>
    Q1 o.1 true w (Q6 P T.k cz) fun c0 w=>
    Q1 o.1 true w (fun w J=>J o.2 w) fun c1 w=>
    Q1 o.1 true w (indexAddr P T.k c0 c1) fun c2 w=>
    Q1 o.1 true w (fieldAddr P T.o c2 0) fun c3 w=>
    Q1 o.1 true w (Q6 P T.b c3) fun c4 w=>
    Q1 o.1 true w (Q0 P F.v [c4]) fun c5 w=>
    pick P o.1 c5 (.bool false) w fun am w=>
    Q1 am true w (fieldAddr P T.c (.pointer (some q)) 6) fun c6 w=>
    Q1 am true w (Q6 P T.k c6) fun c7 w=>
    Q1 am true w (fun w J=>J o.2 w) fun c8 w=>
    Q1 am true w (indexAddr P T.k c7 c8) fun c9 w=>
    Q1 am true w (fieldAddr P T.o c9 1) fun da w=>
    Q1 am true w (Q6 P T.b da) fun db w=>
    Q1 am true w (Q0 P F.f [db]) fun dc w=>
    pick P am dc (.bool false) w fun cd w=>
    Q1 cd true w (fieldAddr P T.c (.pointer (some q)) 3) fun dd w=>
    Q1 cd true w (Q6 P T.r dd) fun de w=>
    Q1 cd true w (W0 P .not de) fun ck w=>
    pick P cd ck (.bool false) w fun cl w=>
    lp (α:=Value×Value) (cl,(.int .i64 0)) w fun bc l d_ w=>
     Z9 P .lss T.f (.tmp 102) (.tmp 103) l.2 o.2 w fun cm w=>
     X1 cm (
      dr w fun d n=>
      J3 d (fun a1=> ∀w:World,n w->Q1 l.1 true w (fieldAddr P T.c (.pointer (some q)) 6) (dk d a1 w)) fun a1=>
      J3 d (fun a3=> ∀w:World,n w->Q1 l.1 true w (fun w J=>J l.2 w) (dk d a3 w)) fun a3=>
      J3 d (fun a6=> ∀w:World,n w->Q1 l.1 true w (fieldAddr P T.c (.pointer (some q)) 6) (dk d a6 w)) fun a6=>
      J3 d (fun a8=> ∀w:World,n w->Q1 l.1 true w (fun w J=>J o.2 w) (dk d a8 w)) fun a8=>
      J3 d (fun a2=> ∀ao:Value,∀w:World,n w->a1 ao w->Q1 l.1 true w (Q6 P T.k ao) (dk d a2 w)) fun a2=>
      J3 d (fun a4=> ∀ap:Value,∀aq:Value,∀w:World,n w->a2 ap w->a3 aq w->Q1 l.1 true w (indexAddr P T.k ap aq) (dk d a4 w)) fun a4=>
      J3 d (fun a5=> ∀ar:Value,∀w:World,n w->a4 ar w->Q1 l.1 true w (fieldAddr P T.o ar 0) (dk d a5 w)) fun a5=>
      J3 d (fun cb=> ∀av:Value,∀w:World,n w->a5 av w->Q1 l.1 true w (Q6 P T.b av) (dk d cb w)) fun cb=>
      J3 d (fun a7=> ∀aw:Value,∀w:World,n w->a6 aw w->Q1 l.1 true w (Q6 P T.k aw) (dk d a7 w)) fun a7=>
      J3 d (fun a9=> ∀ax:Value,∀ay:Value,∀w:World,n w->a7 ax w->a8 ay w->Q1 l.1 true w (indexAddr P T.k ax ay) (dk d a9 w)) fun a9=>
      J3 d (fun ba=> ∀az:Value,∀w:World,n w->a9 az w->Q1 l.1 true w (fieldAddr P T.o az 0) (dk d ba w)) fun ba=>
      J3 d (fun cc=> ∀a0:Value,∀w:World,n w->ba a0 w->Q1 l.1 true w (Q6 P T.b a0) (dk d cc w)) fun cc=>
      ∀ao:Value,∀aq:Value,∀aw:Value,∀ay:Value,∀ap:Value,∀ar:Value,∀av:Value,∀cf:Value,∀ax:Value,∀az:Value,∀a0:Value,∀cg:Value,∀w:World,n w->a1 ao w->a3 aq w->a6 aw w->a8 ay w->a2 ap w->a4 ar w->a5 av w->cb cf w->a7 ax w->a9 az w->ba a0 w->cc cg w->
      Q1 l.1 true w (Z9 P .neq T.b (.tmp 114) (.tmp 120) cf cg) fun co w=>
      pick P l.1 co (.bool false) w fun cp w=>
      Z9 P .add T.f (.tmp 105) (.const (.int .i64 1)) l.2 (.int .i64 1) w fun cn w=>
      bc (cp,cn) w) (
      Z9 P .add T.f (.tmp 76) (.const (.int .i64 1)) o.2 (.int .i64 1) w fun cy w=>
      bb (l.1,cy) w)) (
    lp (α:=Value×Value) (o.1,(.int .i64 0)) w fun H f d_ w=>
     fieldAddr P T.c (.pointer (some q)) 7 w fun bg w=>
     Q6 P T.j bg w fun bh w=>
     V0 P .len [T.j] T.f [false] [bh] w fun bi w=>
     Z9 P .lss T.f (.tmp 123) (.tmp 126) f.2 bi w fun bj w=>
     X1 bj (
      fieldAddr P T.c (.pointer (some q)) 7 w fun bl w=>
      Q6 P T.j bl w fun bm w=>
      indexAddr P T.j bm f.2 w fun bn w=>
      Q6 P T.e bn w fun bo w=>
      G9 P T.e w fun t9 w=>
      J9 P T.e t9 bo w fun _u w=>
      Q1 f.1 true w (Q6 P T.e t9) fun bp w=>
      Q1 f.1 true w (Q0 P F.a9 [bp]) fun bq w=>
      pick P f.1 bq (.bool false) w fun j w=>
      Q1 j true w (fieldAddr P T.e t9 3) fun br w=>
      Q1 j true w (Q6 P T.r br) fun bs w=>
      Q1 j true w (W0 P .not bs) fun bu w=>
      Q1 j true w (fun w J=>J bu w) fun M w=>
      Q1 M false w (fieldAddr P T.c (.pointer (some q)) 4) fun bv w=>
      Q1 M false w (Q6 P T.r bv) fun bw w=>
      Q1 j true w (pick P M (.bool true) bw) fun bx w=>
      pick P j bx (.bool false) w fun k w=>
      Q1 k true w (fieldAddr P T.c (.pointer (some q)) 3) fun bz w=>
      Q1 k true w (Q6 P T.r bz) fun b0 w=>
      Q1 k true w (W0 P .not b0) fun b1 w=>
      Q1 k true w (fun w J=>J b1 w) fun N w=>
      Q1 N false w (fieldAddr P T.e t9 3) fun b2 w=>
      Q1 N false w (Q6 P T.r b2) fun b3 w=>
      Q1 k true w (pick P N (.bool true) b3) fun b4 w=>
      pick P k b4 (.bool false) w fun b5 w=>
      lp (α:=Value×Value) (b5,(.int .i64 0)) w fun L b d_ w=>
       Z9 P .lss T.f (.tmp 158) (.tmp 159) b.2 f.2 w fun b6 w=>
       X1 b6 (
        dr w fun d n=>
        J3 d (fun z=> ∀w:World,n w->Q1 b.1 true w (fieldAddr P T.c (.pointer (some q)) 7) (dk d z w)) fun z=>
        J3 d (fun B=> ∀w:World,n w->Q1 b.1 true w (fun w J=>J b.2 w) (dk d B w)) fun B=>
        J3 d (fun E=> ∀w:World,n w->Q1 b.1 true w (fieldAddr P T.e t9 0) (dk d E w)) fun E=>
        J3 d (fun A=> ∀p:Value,∀w:World,n w->z p w->Q1 b.1 true w (Q6 P T.j p) (dk d A w)) fun A=>
        J3 d (fun C=> ∀r:Value,∀s:Value,∀w:World,n w->A r w->B s w->Q1 b.1 true w (indexAddr P T.j r s) (dk d C w)) fun C=>
        J3 d (fun D=> ∀t:Value,∀w:World,n w->C t w->Q1 b.1 true w (fieldAddr P T.e t 0) (dk d D w)) fun D=>
        J3 d (fun O=> ∀u:Value,∀w:World,n w->D u w->Q1 b.1 true w (Q6 P T.b u) (dk d O w)) fun O=>
        J3 d (fun Q=> ∀y:Value,∀w:World,n w->E y w->Q1 b.1 true w (Q6 P T.b y) (dk d Q w)) fun Q=>
        ∀p:Value,∀s:Value,∀y:Value,∀r:Value,∀t:Value,∀u:Value,∀R:Value,∀U:Value,∀w:World,n w->z p w->B s w->E y w->A r w->C t w->D u w->O R w->Q U w->
        Q1 b.1 true w (Z9 P .neq T.b (.tmp 170) (.tmp 172) R U) fun b8 w=>
        pick P b.1 b8 (.bool false) w fun b9 w=>
        Z9 P .add T.f (.tmp 161) (.const (.int .i64 1)) b.2 (.int .i64 1) w fun b7 w=>
        L (b9,b7) w) (
        Z9 P .add T.f (.tmp 128) (.const (.int .i64 1)) f.2 (.int .i64 1) w fun bk w=>
        H (b.1,bk) w)) (
      Q1 f.1 true w (fieldAddr P T.c (.pointer (some q)) 3) fun V w=>
      Q1 f.1 true w (Q6 P T.r V) fun W w=>
      Q1 f.1 true w (W0 P .not W) fun X w=>
      Q1 f.1 true w (fun w J=>J X w) fun g w=>
      Q1 g false w (fieldAddr P T.c (.pointer (some q)) 4) fun Y w=>
      Q1 g false w (Q6 P T.r Y) fun Z w=>
      Q1 g false w (fun w J=>J Z w) fun i w=>
      Q1 i true w (fieldAddr P T.c (.pointer (some q)) 1) fun aa w=>
      Q1 i true w (Q6 P T.b aa) fun ab w=>
      Q1 i true w (Z9 P .eql T.b (.tmp 185) (.const (.string ⟨#[79,98,106,101,99,116]⟩)) ab (.string ⟨#[79,98,106,101,99,116]⟩)) fun ac w=>
      Q1 g false w (pick P i ac (.bool false)) fun ad w=>
      Q1 f.1 true w (pick P g (.bool true) ad) fun ae w=>
      pick P f.1 ae (.bool false) w fun a w=>
      Q1 a true w (fieldAddr P T.c (.pointer (some q)) 4) fun af w=>
      Q1 a true w (Q6 P T.r af) fun ag w=>
      Q1 a true w (fun w J=>J ag w) fun m w=>
      Q1 m true w (fieldAddr P T.c (.pointer (some q)) 5) fun ah w=>
      Q1 m true w (Q6 P T.r ah) fun ai w=>
      Q1 a true w (pick P m ai (.bool false)) fun aj w=>
      Q1 a true w (W0 P .not aj) fun ak w=>
      pick P a ak (.bool false) w fun al w=>
      K al w))) f4 g1 fun w2 σ2 an=>
  X6N (J:=fun v w=>lp (α:=Value×Value) (v,(.int .i64 0)) w fun H f d_ w=>
   fieldAddr P T.c (.pointer (some q)) 7 w fun bg w=>
   Q6 P T.j bg w fun bh w=>
   V0 P .len [T.j] T.f [false] [bh] w fun bi w=>
   Z9 P .lss T.f (.tmp 123) (.tmp 126) f.2 bi w fun bj w=>
   X1 bj (
    fieldAddr P T.c (.pointer (some q)) 7 w fun bl w=>
    Q6 P T.j bl w fun bm w=>
    indexAddr P T.j bm f.2 w fun bn w=>
    Q6 P T.e bn w fun bo w=>
    G9 P T.e w fun t9 w=>
    J9 P T.e t9 bo w fun _u w=>
    Q1 f.1 true w (Q6 P T.e t9) fun bp w=>
    Q1 f.1 true w (Q0 P F.a9 [bp]) fun bq w=>
    pick P f.1 bq (.bool false) w fun j w=>
    Q1 j true w (fieldAddr P T.e t9 3) fun br w=>
    Q1 j true w (Q6 P T.r br) fun bs w=>
    Q1 j true w (W0 P .not bs) fun bu w=>
    Q1 j true w (fun w J=>J bu w) fun M w=>
    Q1 M false w (fieldAddr P T.c (.pointer (some q)) 4) fun bv w=>
    Q1 M false w (Q6 P T.r bv) fun bw w=>
    Q1 j true w (pick P M (.bool true) bw) fun bx w=>
    pick P j bx (.bool false) w fun k w=>
    Q1 k true w (fieldAddr P T.c (.pointer (some q)) 3) fun bz w=>
    Q1 k true w (Q6 P T.r bz) fun b0 w=>
    Q1 k true w (W0 P .not b0) fun b1 w=>
    Q1 k true w (fun w J=>J b1 w) fun N w=>
    Q1 N false w (fieldAddr P T.e t9 3) fun b2 w=>
    Q1 N false w (Q6 P T.r b2) fun b3 w=>
    Q1 k true w (pick P N (.bool true) b3) fun b4 w=>
    pick P k b4 (.bool false) w fun b5 w=>
    lp (α:=Value×Value) (b5,(.int .i64 0)) w fun L b d_ w=>
     Z9 P .lss T.f (.tmp 158) (.tmp 159) b.2 f.2 w fun b6 w=>
     X1 b6 (
      dr w fun d n=>
      J3 d (fun z=> ∀w:World,n w->Q1 b.1 true w (fieldAddr P T.c (.pointer (some q)) 7) (dk d z w)) fun z=>
      J3 d (fun B=> ∀w:World,n w->Q1 b.1 true w (fun w J=>J b.2 w) (dk d B w)) fun B=>
      J3 d (fun E=> ∀w:World,n w->Q1 b.1 true w (fieldAddr P T.e t9 0) (dk d E w)) fun E=>
      J3 d (fun A=> ∀p:Value,∀w:World,n w->z p w->Q1 b.1 true w (Q6 P T.j p) (dk d A w)) fun A=>
      J3 d (fun C=> ∀r:Value,∀s:Value,∀w:World,n w->A r w->B s w->Q1 b.1 true w (indexAddr P T.j r s) (dk d C w)) fun C=>
      J3 d (fun D=> ∀t:Value,∀w:World,n w->C t w->Q1 b.1 true w (fieldAddr P T.e t 0) (dk d D w)) fun D=>
      J3 d (fun O=> ∀u:Value,∀w:World,n w->D u w->Q1 b.1 true w (Q6 P T.b u) (dk d O w)) fun O=>
      J3 d (fun Q=> ∀y:Value,∀w:World,n w->E y w->Q1 b.1 true w (Q6 P T.b y) (dk d Q w)) fun Q=>
      ∀p:Value,∀s:Value,∀y:Value,∀r:Value,∀t:Value,∀u:Value,∀R:Value,∀U:Value,∀w:World,n w->z p w->B s w->E y w->A r w->C t w->D u w->O R w->Q U w->
      Q1 b.1 true w (Z9 P .neq T.b (.tmp 170) (.tmp 172) R U) fun b8 w=>
      pick P b.1 b8 (.bool false) w fun b9 w=>
      Z9 P .add T.f (.tmp 161) (.const (.int .i64 1)) b.2 (.int .i64 1) w fun b7 w=>
      L (b9,b7) w) (
      Z9 P .add T.f (.tmp 128) (.const (.int .i64 1)) f.2 (.int .i64 1) w fun bk w=>
      H (b.1,bk) w)) (
    Q1 f.1 true w (fieldAddr P T.c (.pointer (some q)) 3) fun V w=>
    Q1 f.1 true w (Q6 P T.r V) fun W w=>
    Q1 f.1 true w (W0 P .not W) fun X w=>
    Q1 f.1 true w (fun w J=>J X w) fun g w=>
    Q1 g false w (fieldAddr P T.c (.pointer (some q)) 4) fun Y w=>
    Q1 g false w (Q6 P T.r Y) fun Z w=>
    Q1 g false w (fun w J=>J Z w) fun i w=>
    Q1 i true w (fieldAddr P T.c (.pointer (some q)) 1) fun aa w=>
    Q1 i true w (Q6 P T.b aa) fun ab w=>
    Q1 i true w (Z9 P .eql T.b (.tmp 185) (.const (.string ⟨#[79,98,106,101,99,116]⟩)) ab (.string ⟨#[79,98,106,101,99,116]⟩)) fun ac w=>
    Q1 g false w (pick P i ac (.bool false)) fun ad w=>
    Q1 f.1 true w (pick P g (.bool true) ad) fun ae w=>
    pick P f.1 ae (.bool false) w fun a w=>
    Q1 a true w (fieldAddr P T.c (.pointer (some q)) 4) fun af w=>
    Q1 a true w (Q6 P T.r af) fun ag w=>
    Q1 a true w (fun w J=>J ag w) fun m w=>
    Q1 m true w (fieldAddr P T.c (.pointer (some q)) 5) fun ah w=>
    Q1 m true w (Q6 P T.r ah) fun ai w=>
    Q1 a true w (pick P m ai (.bool false)) fun aj w=>
    Q1 a true w (W0 P .not aj) fun ak w=>
    pick P a ak (.bool false) w fun al w=>
    K al w)) an.sat (hq.up an) (g2.up an) fun w3 σ3 be=>
  X73 (J:=fun v w=>Q1 v true w (fieldAddr P T.c (.pointer (some q)) 3) fun V w=>
   Q1 v true w (Q6 P T.r V) fun W w=>
   Q1 v true w (W0 P .not W) fun X w=>
   Q1 v true w (fun w J=>J X w) fun g w=>
   Q1 g false w (fieldAddr P T.c (.pointer (some q)) 4) fun Y w=>
   Q1 g false w (Q6 P T.r Y) fun Z w=>
   Q1 g false w (fun w J=>J Z w) fun i w=>
   Q1 i true w (fieldAddr P T.c (.pointer (some q)) 1) fun aa w=>
   Q1 i true w (Q6 P T.b aa) fun ab w=>
   Q1 i true w (Z9 P .eql T.b (.tmp 185) (.const (.string ⟨#[79,98,106,101,99,116]⟩)) ab (.string ⟨#[79,98,106,101,99,116]⟩)) fun ac w=>
   Q1 g false w (pick P i ac (.bool false)) fun ad w=>
   Q1 v true w (pick P g (.bool true) ad) fun ae w=>
   pick P v ae (.bool false) w fun a w=>
   Q1 a true w (fieldAddr P T.c (.pointer (some q)) 4) fun af w=>
   Q1 a true w (Q6 P T.r af) fun ag w=>
   Q1 a true w (fun w J=>J ag w) fun m w=>
   Q1 m true w (fieldAddr P T.c (.pointer (some q)) 5) fun ah w=>
   Q1 m true w (Q6 P T.r ah) fun ai w=>
   Q1 a true w (pick P m ai (.bool false)) fun aj w=>
   Q1 a true w (W0 P .not aj) fun ak w=>
   pick P a ak (.bool false) w fun al w=>
   K al w) be.sat ((hq.up an).up be) ((g3.up an).up be) fun w4 σ4 ci=>
  X6K (K:=K) ci.sat (((hq.up an).up be).up ci) (by rw[e];exact h _ _ (bd.trans (an.trans (be.trans ci))))
 (repeat refine Hd.h ?_)
 refine ld bf hq rfl ?_;refine Ui c.name cr ?_;cases d1:C2 c.name with
 | false=>(repeat refine Hd.h ?_);exact ch false (by rw[d1];rfl)
 | true=>
  (repeat refine Hd.h ?_)
  refine ld bf hq rfl ?_
  (repeat refine Hd.h ?_)
  refine Ui c.super ct ?_;cases d2:C2 c.super with
  | false=>(repeat refine Hd.h ?_);exact ch false (by rw[d1,d2];rfl)
  | true=>
   (repeat refine Hd.h ?_)
   refine ld bf hq rfl ?_
   (repeat refine Hd.h ?_)
   refine ld bf hq rfl ?_
   (repeat refine Hd.h ?_)
   refine Jn ?_
   (repeat refine Hd.h ?_)
   exact ch _ (by rw[d1,d2];rfl))
theorem Q79 {c:Cla} {cs:List Value} (r:X7 w σ) (d:M8 σ c cs) (h: ∀w' t,Stp w σ w' t->K (I (B9 c)) w'):Q0 P F.bx [.agg cs.toArray] w K:=Q1j (by
 unfold Ez;have g:=Rep.one (R:=M8) d;obtain ⟨s,p,mv,rfl,k,l,m,n,o⟩:=d;have d:M8 σ c _:=⟨s,p,mv,rfl,k,l,m,n,o⟩;refine Z4 r fun q w1 σ1 a i=>?_;unfold B9 at h;refine Y7 a.sat i rfl ?_;refine X5x a.sat (RCl_lift d ⟨a.le⟩) fun u y b=>?_;cases f:Vt c with
 | true=>simp only[f,if_true] at h;(try simp only[↓M1,M1,Mb,reduceIte]);exact h _ _ (a.trans b)
 | false=>
  simp only[f,Bool.false_eq_true,if_false] at h
  (try simp only[↓M1,M1,Mb,reduceIte])
  refine Y7 b.sat (i.up b) rfl ?_;refine X4n b.sat (RCl_lift d ⟨(a.trans b).le⟩) fun v z e=>?_;rw[X5z];cases j:Bl c with
  | true=>simp only[j,if_true] at h;(try simp only[↓M1,M1,Mb,reduceIte]);exact h _ _ (a.trans (b.trans e))
  | false=>simp only[j,Bool.false_eq_true,if_false] at h;(try simp only[↓M1,M1,Mb,reduceIte]);exact h _ _ (a.trans (b.trans e)))
end Go.Proofs.Y
namespace Go.Hm
open Go.Kd
structure Alike (l m : List Cla) : Prop where
  lk : lk l = lk m
  len : l.length = m.length
  weigh : weigh l [] = weigh m []
section
variable {l m : List Cla} (h : Alike l m)
include h
end
theorem X7b {l:List Cla} {frm:Nat}: ∀(f:Nat) (out:List Nat) (i:Nat),∀y∈Ys l frm f out i,y∈out\/frm<=y:=by
 intro f
 induction f with
 | zero=>intro out i y hy;exact .inl hy
 | succ f c=>
  intro out i y hy;simp only[Ys] at hy
  split at hy
  .exact .inl hy
  .split at hy
   .exact .inl hy
   .rename_i d _
    rcases List.mem_append.1 hy with hy | hy
    .exact Dc (p:=fun y=>frm<=y) _ _ (fun b x _ z a=>c b _ z a) y hy
    .simp at hy;omega
theorem X5m {a:List Cla} (g:Yg a): ∀j∈O6 a 8,8<=j/\j<a.length:=by
 intro j c;unfold O6 at c;have e:=Dc (p:=fun y=>8<=y) _ _ (fun b x _ z d=>X7b _ b x z d) j c
 have f:=Dc (p:=fun y=>y<a.length) _ _ (fun b x i z d=>(Q9x g (by omega) _ b x (by
  have:=List.mem_of_mem_drop i
  simpa using this) z d).imp id (·.1)) j c
 exact ⟨e.resolve_left (by simp),f.resolve_left (by simp)⟩
end Go.Hm
namespace Go.Proofs.Y
open Go.Emb Go.RowKit Go.Kd Go.Hm
end Go.Proofs.Y
namespace Go.Hm
open Go.Kd
theorem find_first {a:List Cla} {m:Nat} (b:m<a.length):U1 a (J1 a m)=some m↔U1 (a.take m) (J1 a m)=none:=by
 have g:J1 a m=a[m].name:=by unfold J1;rw[List.getD_eq_getElem?_getD,List.getElem?_eq_getElem b];rfl
 unfold U1;rw[List.findIdx?_eq_some_iff_getElem,List.findIdx?_eq_none_iff];constructor
 .rintro ⟨i,k,d⟩ c e
  obtain ⟨j,f,rfl⟩:=List.mem_take_iff_getElem.1 e
  simpa using d j (by omega)
 .intro h
  refine ⟨b,by simp[g],fun j f=>?_⟩
  simpa using h a[j] (List.mem_take_iff_getElem.2 ⟨j,by omega,rfl⟩)
theorem X2E {a:List Cla} (d:Yg a) {m:Nat} (b:m<a.length):Jl a (J1 a m) (J1 a m)=Yb a a[m]:=by
 have c:J1 a m=a[m].name:=by unfold J1;rw[List.getD_eq_getElem?_getD,List.getElem?_eq_getElem b];rfl
 unfold Jl Yb;rw[Ug d b,List.getD_eq_getElem?_getD,List.getElem?_eq_getElem b];simp only[Option.getD_some,c]
end Go.Hm
namespace Go.Proofs.Y
open Go.Emb Go.RowKit Go.Kd Go.Hm
variable {w : World} {K : Value -> World -> Prop} {σ : Q2} {l : List Cla}
theorem X2o: ∀c∈Xg,Vt c=false:=by decide
theorem X2b {c:Cla} (h:B9 c=0):Vt c=false:=by
 unfold B9 at h
 split at h
 .cases h
 .rename_i a;exact eq_false_of_ne_true a
set_option maxRecDepth 9999 in
set_option maxHeartbeats 4000000 in
theorem X7f {lv:Value} (hs:X7 w σ) (hl:Sl 8 M8 σ lv l) (cw:l.length<=900)
 (C: ∀i e w' B,Im B9 l=some (i,e)->Stp w σ w' B->K (.tuple #[.slice none 0 0,I i,I e]) w')
 (h0: ∀v w' B,Im B9 l=none->Stp w σ w' B->Sl 8 M8 B v (Q3 l)->Ok (Q3 l)->Yg (Q3 l)->K (.tuple #[v,I 0,I 0]) w'):Q0 P F.bY [lv] w K:=Q3u (by
 unfold Cx;simp only[Y3];unfold Y1 V1 V3 Y0 X4 X5;have t:Xg.length=8:=rfl;have c8:(Q3 l).length=8+l.length:=by simp[Q3,t]
 refine X4i hs fun x0 w1 σ1 bu be=>?_;refine X1W be ?_;rw[t]
 refine C4 l.length (fun n x w'=> ∃B,Stp w σ w' B/\W7 w.heap.size T.c 8 M8 B w' x (Xg++l.take n)/\B2 B9 l 0=B2 B9 (l.drop n) n)
  ⟨σ1,bu,by simpa using be,rfl⟩ fun n x w4 d H f=>?_
 obtain ⟨σ4,Y,ay,D⟩:=f;have ab:=hl.up Y;refine Q7 ab ?_;refine J0 ?_;refine Q4 (fun hh=>?_) (fun hh=>?_)
 .have a:n<l.length:=by simpa using hh
  obtain ⟨b9,bk,ca,p1,r1⟩:=ab.elC a;refine Z1 ab a ?_;refine Y7 Y.sat p1 rfl ?_;refine Q79 Y.sat r1 fun w6 σ6 aa=>?_;have bn:=Y.trans aa;have Q:=Od a D;refine P8 ?_;refine Q4 (fun m=>?_) (fun m=>?_)
  .have A: ¬B9 l[n]=0:=by simpa using m
   rw[if_neg A] at Q;refine C _ _ _ _ ?_ bn;unfold Im;rw[Q]
  .have hz:B9 l[n]=0:=by simpa using m
   rw[if_pos hz] at Q;refine Z1 (ab.up aa) a ?_;refine Y7 aa.sat (p1.up aa) rfl ?_;have cj:=ay.up aa;have r6:=RCl_lift r1 ⟨aa.le⟩;refine Lz (R:=M8) (x:=l[n]) bn cj (by simpa [Value.cells] using r6) rfl rfl rfl (by simp[t];omega) (by simp[t];omega) fun s v' w9 σ9 db p ck az=>?_
   refine R5 ?_;refine V2 ab.max a ⟨σ9,p,?_,Q⟩;rw[List.take_add_one,List.getElem?_eq_getElem a,<-List.append_assoc];exact ck
 have a: ¬n<l.length:=by simpa using hh
 rw[List.take_of_length_le Q5] at ay;rw[List.drop_eq_nil_of_le Q5] at D;have D:B2 B9 l 0=none:=D;have bp:=Xw D;have bf: ∀c∈l,Zf c/\Nm c/\c.name≠[]:=fun c hc=>Tc (bp c hc)
 have q: ∀c∈Q3 l,Zf c:=fun c hc=>by
  rcases List.mem_append.1 hc with hc | hc
  .exact (Dn c hc).1
  .exact (bf c hc).1
 have a3: ∀c∈Q3 l,Nm c:=fun c hc=>by
  rcases List.mem_append.1 hc with hc | hc
  .exact (Dn c hc).2.1
  .exact (bf c hc).2.1
 have ac: ∀c∈Q3 l,Vt c=false:=fun c hc=>by
  rcases List.mem_append.1 hc with hc | hc
  .exact X2o c hc
  .exact X2b (bp c hc)
 have av:(Q3 l).length<=100000:=by omega
 unfold Im at C h0;rw[D] at C h0;simp only at C h0;obtain ⟨σ5,o,J,df,cz⟩:=ay.keep Y;change Sl 8 M8 σ5 x (Q3 l) at J;clear ay Y ab a hh H D be bu
 have r: ∀{n:Nat} (H:n<l.length),∃(h:8+n<(Q3 l).length),(Q3 l)[8+n]=l[n]:=fun {n} H=>⟨by omega,by
  unfold Q3;rw[List.getElem_append_right (by rw[t];omega)]
  congr 1
  rw[t];omega⟩
 have bx: ∀{n:Nat} (H:n<l.length),J1 (Q3 l) (8+n)=l[n].name:=fun {n} H=>by
  obtain ⟨C,h2⟩:=r H;rw[Q0V C,h2]
 have br: ∀j,j<8->(U1 ((Q3 l).take j) (J1 (Q3 l) j)).isSome=false:=by
  have hd: ∀j,j<8->(U1 (Xg.take j) (J1 Xg j)).isSome=false:=by decide
  intro j hj;have e1:(Q3 l).take j=Xg.take j:=by unfold Q3;rw[List.take_append_of_le_length (by rw[t];omega)]
  have e2:J1 (Q3 l) j=J1 Xg j:=by
   unfold J1 Q3;rw[List.getD_eq_getElem?_getD,List.getD_eq_getElem?_getD,List.getElem?_append_left (by rw[t];omega)]
  rw[e1,e2];exact hd j hj
 refine V7 l.length (fun n w'=>Stp w σ w' σ5/\ ∀j,j<8+n->(U1 ((Q3 l).take j) (J1 (Q3 l) j)).isSome=false) ⟨o,by simpa using br⟩ fun n w5 d H f=>?_
 clear o;obtain ⟨o,a2⟩:=f;have aq:=hl.up o;refine Q7 aq ?_;refine J0 ?_;refine Q4 (fun hh=>?_) (fun hh=>?_)
 .have a:n<l.length:=by simpa using hh
  obtain ⟨b9,bk,ca,p1,r1⟩:=aq.elC a;refine Z1 aq a ?_
  (try simp only[↓M1,M1,Mb,reduceIte])
  refine ld o.sat p1 rfl ?_;refine Xa o.sat J ?_;rw[Qr Q5 Q5];refine P8 ?_;obtain ⟨L,e8⟩:=r a;rw[<-bx a];have bq:=find_first L;cases ai:U1 ((Q3 l).take (8+n)) (J1 (Q3 l) (8+n)) with
  | none=>
   rw[bq.2 ai];have e:decide (H2 (some (8+n))=(8:Nat)+(n:Int))=true:=by simp[H2]
   rw[e]
   (try simp only[↓M1,M1,Mb,reduceIte])
   refine Z5 aq.max a ⟨o,fun j hj=>?_⟩
   by_cases ej:j=8+n
   .rw[ej,ai];rfl
   .exact a2 j Q5
  | some i=>
   have A:U1 (Q3 l) (J1 (Q3 l) (8+n))≠some (8+n):=fun e=>by rw[bq.1 e] at ai;cases ai
   have e:decide (H2 (U1 (Q3 l) (J1 (Q3 l) (8+n)))=(8:Nat)+(n:Int))=false:=by
    rw[decide_eq_false_iff_not];intro e;cases hf:U1 (Q3 l) (J1 (Q3 l) (8+n)) with
    | none=>rw[hf] at e;simp only[H2] at e;omega
    | some k=>
     rw[hf] at e A;simp only[H2] at e;apply A
     congr 1;omega
   rw[e]
   (try simp only[↓M1,M1,Mb,reduceIte])
   have O:Gw (Q3 l)=some (8+n):=by
    unfold Gw;rw[List.find?_range_eq_some];refine ⟨by rw[ai];rfl,by simpa using L,fun j hj=>by rw[a2 j hj];rfl⟩
   refine C _ _ _ _ ?_ o;rw[O];have:((8+n:Nat):Int)-8=n:=by omega
   simp only[this]
 have a: ¬n<l.length:=by simpa using hh
 have O:Gw (Q3 l)=none:=by
  unfold Gw;rw[List.find?_eq_none];intro j hj;rw[a2 j (by have:=List.mem_range.1 hj;omega)];simp
 rw[O] at C h0;simp only at C h0;have g:=Q0W O;clear a2 hh a H aq br;refine V7 l.length (fun n w'=> ∃B,Stp w σ w' B/\SLe σ5 B/\B2 (fun c=>(B6 (Q3 l) c:Int)) l 0=B2 (fun c=>(B6 (Q3 l) c:Int)) (l.drop n) n) ⟨σ5,o,SLe.refl _,rfl⟩ fun n w6 d H f=>?_;obtain ⟨σ9,p,ax,Z⟩:=f;have ar:=hl.up p;refine Q7 ar ?_;refine J0 ?_;refine Q4 (fun hh=>?_) (fun hh=>?_)
 .have a:n<l.length:=by simpa using hh
  obtain ⟨b9,bk,ca,p1,r1⟩:=ar.elC a;refine Z1 ar a ?_;refine Y7 p.sat p1 rfl ?_;have U:=Od a Z;refine X2R p.sat (J.lift ax) r1 fun w8 ct an=>?_;refine P8 ?_;refine Q4 (fun m=>?_) (fun m=>?_)
  .have A: ¬(B6 (Q3 l) l[n]:Int)=0:=by simpa using m
   rw[if_neg A] at U;refine C _ _ _ _ ?_ (p.trans an);rw[U]
  .have hz:(B6 (Q3 l) l[n]:Int)=0:=by simpa using m
   rw[if_pos hz] at U;refine R5 ?_;exact Z5 ar.max a ⟨ct,p.trans an,ax.more ⟨an.le⟩,U⟩
 have a: ¬n<l.length:=by simpa using hh
 rw[List.drop_eq_nil_of_le Q5] at Z;have Z:B2 (fun c=>(B6 (Q3 l) c:Int)) l 0=none:=Z;rw[Z] at C h0;simp only at C h0;have b3:=Xw Z;clear hh a H o ar;refine Q3G p.sat (J.lift ax) g Q5 Q5 q fun vb di cd am ag=>?_;have b:=p.trans am;have bc:=ax.more ⟨am.le⟩;have a0:(Qv (Q3 l)).length=(Q3 l).length:=by simp[Qv]
 refine V7 l.length (fun n w'=>Stp w σ w' cd/\ ∀j (hj:j<l.length),j<n->Yb (Q3 l) l[j]=false) ⟨b,fun j _ h=>by omega⟩ fun n dj d H f=>?_
 clear b;obtain ⟨b,a1⟩:=f;have ao:=hl.up b;refine Q7 ao ?_;refine J0 ?_;refine Q4 (fun hh=>?_) (fun hh=>?_)
 .have a:n<l.length:=by simpa using hh
  obtain ⟨L,e8⟩:=r a;refine Zd ⟨by omega,by omega⟩ ?_
  have ec:((8:Nat):Int)+(n:Int)=((8+n:Nat):Int):=by omega
  rw[ec];obtain ⟨c2,pb,_,rv,rfl,rb⟩:=ag.el (i:=8+n) (by rw[a0];exact L)
  have b2:(Qv (Q3 l))[8+n]'(by rw[a0];exact L)=(List.range (Q3 l).length).map fun j=>Jl (Q3 l) (J1 (Q3 l) (8+n)) (J1 (Q3 l) j):=by simp[Qv]
  rw[b2] at rb;obtain ⟨ci,bh,_,ah⟩:=rb.el (i:=8+n) (by simpa using L)
  have ah:ci=_:=ah;subst ah;simp only[List.getElem_map,List.getElem_range] at bh;rw[X2E g L,e8] at bh;refine Z1 ag (by rw[a0];exact L) ?_
  refine Y6 b.sat pb rfl ?_;refine Zd ⟨by omega,by omega⟩ ?_
  rw[ec];refine Z1 rb (by simpa using L) ?_
  refine Y6 b.sat bh rfl ?_;cases bw:Yb (Q3 l) l[n] with
  | true=>
   (try simp only[↓M1,M1,Mb,reduceIte])
   have bg:l.findIdx? (Yb (Q3 l))=some n:=by
    rw[List.findIdx?_eq_some_iff_getElem];exact ⟨a,bw,fun j hj=>by simpa using a1 j Q5 hj⟩
   refine C _ _ _ _ ?_ b;rw[bg]
  | false=>
   (try simp only[↓M1,M1,Mb,reduceIte])
   refine Z5 ao.max a ⟨b,fun j hj da=>?_⟩
   by_cases e:j=n
   .subst e;exact bw
   .exact a1 j hj Q5
 have a: ¬n<l.length:=by simpa using hh
 have ba: ∀c∈l,Yb (Q3 l) c=false:=fun c hc=>by
  obtain ⟨j,hj,rfl⟩:=List.getElem_of_mem hc;exact a1 j hj Q5
 have bg:l.findIdx? (Yb (Q3 l))=none:=by
  rw[List.findIdx?_eq_none_iff];exact ba
 rw[bg] at C h0;simp only at C h0;clear a1 hh a H ao ag am p a0;have af:=Q8z g (fun c hc=>(bf c hc).2.2) ba
 have ak:X4C (Q3 l):=fun c hc u hu=>by
  rcases List.mem_append.1 hc with hc | hc
  .rw[(Dn c hc).2.2] at hu;simp at hu
  .have:=b3 c hc
   unfold B6 at this
   split at this
   .simp at this
   .split at this
    .simp at this
    .rename_i z
     have z:c.like.any (I4 (Q3 l))=false:=eq_false_of_ne_true z;have:=List.any_eq_false.1 z u hu;unfold I4 at this;cases hd:lk (Q3 l) u with
     | none=>rw[hd] at this;simp at this
     | some d=>exact ⟨d,rfl⟩
 have b0:Ok (Q3 l):=⟨af,av,q,ak,a3⟩
 have b4: ∀i (hi:i<(Q3 l).length),8<=i-> ∀u∈M6 (Q3 l)[i],∃j,U1 (Q3 l) u=some j:=fun i hi L u hu=>by
  have al:i-8<l.length:=by omega
  obtain ⟨c7,e8⟩:=r al;have cm:(Q3 l)[i]=l[i-8]:=by rw[<-e8];congr 1;omega
  rw[cm] at hu;have bb:=List.getElem_mem al
  rcases List.mem_cons.1 hu with hu | hu
  .have:=b3 _ bb
   unfold B6 at this
   split at this
   .simp at this
   .rename_i z
    unfold Ja at z;rw[<-hu] at z;cases hd:lk (Q3 l) u with
    | none=>rw[hd] at z;simp at z
    | some d=>obtain ⟨_,_,j,hj,_⟩:=O9 hd;exact ⟨j,hj⟩
  .obtain ⟨d,hd⟩:=ak _ (List.mem_append_right _ bb) u hu
   obtain ⟨_,_,j,hj,_⟩:=O9 hd;exact ⟨j,hj⟩
 refine Ci (R:=H6) (e:=T.f) b W3 fun dt dl a9 a6 _=>?_
 refine C4 l.length (fun n x' w'=> ∃B out,Stp w σ w' B/\SLe σ5 B/\W7 w.heap.size T.f 1 H6 B w' x' (ints out)/\Few (Q3 l) out/\out=(((List.range (Q3 l).length).drop 8).take n).foldl (fun out i=>Ua (Q3 l) 8 out i) [])
  ⟨cd,[],b.trans a9,bc,a6,⟨List.nodup_nil,by simp⟩,rfl⟩ fun n x' dm d H f=>?_
 clear a6 a9 b bc ax;obtain ⟨dv,out,M,W,ae,aj,aw⟩:=f;have ap:=hl.up M;refine Q7 ap ?_;refine J0 ?_;refine Q4 (fun hh=>?_) (fun hh=>?_)
 .have a:n<l.length:=by simpa using hh
  obtain ⟨L,e8⟩:=r a;refine Zd ⟨by omega,by omega⟩ ?_
  have ec:((8:Nat):Int)+(n:Int)=((8+n:Nat):Int):=by omega
  rw[ec];refine X7i af g Q5 q Q5 b4 ((Q3 l).length+1) L (Nat.lt_succ_of_le (Q49 _ _)) aj M (J.lift W) ae fun du dn cu bl b7 bo=>?_;refine R5 ?_;refine V2 ap.max a ⟨cu,_,bl,W.more b7,bo,Q0Z af g Q5 _ _ _ L aj,?_⟩;rw[List.take_add_one,List.getElem?_drop,List.getElem?_range L,List.foldl_append,<-aw];rfl
 have a: ¬n<l.length:=by simpa using hh
 have cn:n=l.length:=by omega
 subst cn
 have b1:out=O6 (Q3 l) 8:=by
  rw[aw,List.take_of_length_le (by rw[List.length_drop,List.length_range];omega)];rfl
 subst b1;clear aw hh a H;have dc:=aj.len;have co:=X5m g;obtain ⟨ce,bm,b5,bd,_⟩:=ae.keep M;have b8:=W.more ⟨bd⟩;clear ae M bd W ap;have al:(ints (O6 (Q3 l) 8)).length=(O6 (Q3 l) 8).length:=by simp
 refine V7 (O6 (Q3 l) 8).length (fun n w'=> ∃B,Stp w σ w' B/\SLe ce B/\ ∀j∈(O6 (Q3 l) 8).take n,O5 (Q3 l) ((Q3 l).getD j Cla.zero)=0) ⟨ce,bm,SLe.refl _,by simp⟩ fun n dp d H f=>?_
 obtain ⟨dw,N,X,a4⟩:=f;have V:=b5.lift X;refine Q7 V ?_;rw[al];refine J0 ?_;refine Q4 (fun hh=>?_) (fun hh=>?_)
 .have a:n<(O6 (Q3 l) 8).length:=by simpa using hh
  have bz:n<(ints (O6 (Q3 l) 8)).length:=by rw[al];exact a
  refine Z1 V bz ?_;obtain ⟨cs,pc,_,cl⟩:=V.el bz;obtain ⟨rfl,_⟩:=cl;simp only[List.getElem_map] at pc;refine Y6 N.sat pc rfl ?_;have bs:=(co _ (List.getElem_mem a)).2;have az:(Q3 l).getD (O6 (Q3 l) 8)[n] Cla.zero=(Q3 l)[(O6 (Q3 l) 8)[n]]:=by rw[List.getD_eq_getElem?_getD,List.getElem?_eq_getElem bs];rfl
  refine X0X N.sat (J.lift (b8.more X)) b0 g Q5 ac bs fun dq cf y=>?_;have a5:=N.trans y;refine P8 ?_;refine Q4 (fun m=>?_) (fun m=>?_)
  .have A: ¬O5 (Q3 l) (Q3 l)[(O6 (Q3 l) 8)[n]]=0:=by simpa using m
   have cx:=V.up y;have cb:=pc.up y;refine U8 y.sat ?_
   (repeat refine X0 Vf ?_)
   (intros;(repeat (rename_i hx;subst hx));(try simp only[↓M2,M2,Mb,reduceIte]))
   rename_i cr a7;refine Y6 a7.sat cb rfl ?_;refine Vs ⟨by omega,by omega⟩ ?_
   have E:(O6 (Q3 l) 8).find? (fun j=> !decide (O5 (Q3 l) ((Q3 l).getD j Cla.zero)=0))=some (O6 (Q3 l) 8)[n]:=by
    rw[List.find?_eq_some_iff_getElem];refine ⟨by rw[az];simpa using A,n,a,rfl,fun j hj=>?_⟩
    have:=a4 _ (List.mem_take_iff_getElem.2 ⟨j,by omega,rfl⟩)
    rw[this];simp
   have:=C (((O6 (Q3 l) 8)[n]:Int)-8) (O5 (Q3 l) (Q3 l)[(O6 (Q3 l) 8)[n]]) cr cf (by rw[E];simp only[az]) (a5.trans a7.stp)
   exact this
  .have hz:O5 (Q3 l) (Q3 l)[(O6 (Q3 l) 8)[n]]=0:=by simpa using m
   refine R5 ?_;refine Z5 Q5 a ⟨cf,a5,X.more ⟨y.le⟩,fun j hj=>?_⟩;rw[List.take_add_one,List.getElem?_eq_getElem a] at hj
   rcases List.mem_append.1 hj with hj | hj
   .exact a4 j hj
   .simp at hj;subst hj;rw[az];exact hz
 .have a: ¬n<(O6 (Q3 l) 8).length:=by simpa using hh
  rw[List.take_of_length_le Q5] at a4
  have E:(O6 (Q3 l) 8).find? (fun j=> !decide (O5 (Q3 l) ((Q3 l).getD j Cla.zero)=0))=none:=by
   rw[List.find?_eq_none];intro j hj;rw[a4 j hj];simp
  rw[E] at h0;exact h0 _ _ _ rfl N (J.lift (b8.more X)) b0 g)
end Go.Proofs.Y
namespace Go.Hm
open Go.Kd
def X2r:Ins:=⟨[105,110,116],1,[]⟩
def Q36:Ins:=⟨[114,101,116,117,114,110],0,[]⟩
def kA:X2:=[65]
def fX:Fld:=⟨[120],Yz,false⟩
def Q41:Fld:=⟨[110,101,120,116],kA,false⟩
def fL:Fld:=⟨[108],[65,91,93],false⟩
def mF:Hm.Met:=⟨[102],[Yz,kA],Yz,false,3,[X2r,Q36],[]⟩
def mG:Hm.Met:=⟨[103],[],[],false,1,[Q36],[]⟩
def cA:Cla:=⟨kA,M3,[],false,false,false,[fX,Q41],[mF,mG]⟩
def cB:Cla:=⟨[66],kA,[[73]],false,false,false,[fL],[]⟩
def cI:Cla:=⟨[73],M3,[],true,true,false,[],[]⟩
def cD:Cla:=⟨[68],M3,[],false,true,false,[],[]⟩
def W8:List Cla:=[cA,cB,cI,cD]
end Go.Hm
namespace Go.Proofs.Y
open Go.Emb Go.RowKit Go.Kd Go.Hm
variable {w w' : World} {K : Value -> World -> Prop} {σ σ' : Q2}
set_option maxRecDepth 100000 in
theorem Q59:Im B9 W8=none:=by decide+kernel
theorem X6y: ∀c∈W8,Zf c:=X85 W3
theorem Q3U:Wf W8:=X9f Q59
set_option maxHeartbeats 1000000 in
theorem Q7S (Y:X7 w σ) (h: ∀v w' σ',Stp w σ w' σ'->Sl 8 M8 σ' v W8->K v w'):Q0 P F.aF [] w K:=Tp (by
 unfold Nt;refine N3 (cells:= #[S X2r.op,I 1,S []]) X8 ?_;refine N3 (cells:= #[S Q36.op,I 0,S []]) X8 ?_;refine P4 (R:=Ze) (sz:=3) Y [.agg #[S X2r.op,I 1,S []], .agg #[S Q36.op,I 0,S []]] [X2r,Q36] rfl rfl (by simp;exact ⟨rfl,rfl⟩) rfl ⟨⟨rfl,by decide,by decide,by decide⟩,⟨rfl,by decide,by decide,by decide⟩,trivial⟩ fun Z w1 σ1 j e=>?_
 refine N3 (cells:= #[S fX.name,S fX.kind, .bool false]) X8 ?_;refine N3 (cells:= #[S Q41.name,S Q41.kind, .bool false]) X8 ?_;refine P4 (R:=I7) (sz:=3) j.sat [.agg #[S fX.name,S fX.kind, .bool false], .agg #[S Q41.name,S Q41.kind, .bool false]] [fX,Q41] rfl rfl (by simp;exact ⟨rfl,rfl⟩) rfl ⟨⟨rfl,by decide,by decide⟩,⟨rfl,by decide,by decide⟩,trivial⟩ fun v2 w2 σ2 g f=>?_
 refine P4 (R:=M7) (sz:=1) g.sat [S Yz,S kA] [Yz,kA] rfl rfl (by simp;exact ⟨rfl,rfl⟩) rfl ⟨⟨rfl,by decide⟩,⟨rfl,by decide⟩,trivial⟩ fun v3 w3 σ3 c n=>?_
 have k:=e;have m:=f;have o:=n;obtain ⟨C,N,rfl,_⟩:=k;obtain ⟨D,O,rfl,_⟩:=m;obtain ⟨E,Q,rfl,_⟩:=o;have e:=(e.up g).up c;have f:=f.up c;refine N3 (cells:= #[S mF.name, .slice E 2 Q,S Yz, .bool false,I 3, .slice C 2 N, .slice none 0 0]) X8 ?_;refine N3 (cells:= #[S Q36.op,I 0,S []]) X8 ?_;refine P4 (R:=Ze) (sz:=3) c.sat [.agg #[S Q36.op,I 0,S []]] [Q36] rfl rfl (by simp;rfl) rfl ⟨⟨rfl,by decide,by decide,by decide⟩,trivial⟩ fun v4 w4 σ4 a p=>?_
 have q:=p;obtain ⟨H,U,rfl,_⟩:=q;refine N3 (cells:= #[S mG.name, .slice none 0 0,S [], .bool false,I 1, .slice H 1 U, .slice none 0 0]) X8 ?_
 refine P4 (R:=F5) (sz:=7) a.sat [.agg #[S mF.name, .slice E 2 Q,S Yz, .bool false,I 3, .slice C 2 N, .slice none 0 0], .agg #[S mG.name, .slice none 0 0,S [], .bool false,I 1, .slice H 1 U, .slice none 0 0]] [mF,mG] rfl rfl (by simp;exact ⟨rfl,rfl⟩) rfl
  ⟨⟨_,_,_,rfl,n.up a,e.up a,Sl.nil,by decide,by decide,by decide⟩,⟨_,_,_,rfl,Sl.nil,p,Sl.nil,by decide,by decide,by decide⟩,trivial⟩ fun v5 w5 σ5 i r=>?_
 have s:=r;obtain ⟨J,V,rfl,_⟩:=s;refine N3 (cells:= #[S kA,S M3, .slice none 0 0, .bool false, .bool false, .bool false, .slice D 2 O, .slice J 2 V]) X8 ?_;refine P4 (R:=M7) (sz:=1) i.sat [S [73]] [[73]] rfl rfl (by simp;rfl) rfl ⟨⟨rfl,by decide⟩,trivial⟩ fun v6 w6 σ6 d t=>?_
 have u:=t;obtain ⟨L,W,rfl,_⟩:=u;refine N3 (cells:= #[S fL.name,S fL.kind, .bool false]) X8 ?_;refine P4 (R:=I7) (sz:=3) d.sat [.agg #[S fL.name,S fL.kind, .bool false]] [fL] rfl rfl (by simp;rfl) rfl ⟨⟨rfl,by decide,by decide⟩,trivial⟩ fun v7 w7 σ7 b y=>?_
 have z:=y;obtain ⟨M,X,rfl,_⟩:=z;refine N3 (cells:= #[S cB.name,S kA, .slice L 1 W, .bool false, .bool false, .bool false, .slice M 1 X, .slice none 0 0]) X8 ?_;refine N3 (cells:= #[S cI.name,S M3, .slice none 0 0, .bool true, .bool true, .bool false, .slice none 0 0, .slice none 0 0]) X8 ?_;refine N3 (cells:= #[S cD.name,S M3, .slice none 0 0, .bool false, .bool true, .bool false, .slice none 0 0, .slice none 0 0]) X8 ?_
 refine P4 (R:=M8) (sz:=8) b.sat [.agg #[S kA,S M3, .slice none 0 0, .bool false, .bool false, .bool false, .slice D 2 O, .slice J 2 V], .agg #[S cB.name,S kA, .slice L 1 W, .bool false, .bool false, .bool false, .slice M 1 X, .slice none 0 0], .agg #[S cI.name,S M3, .slice none 0 0, .bool true, .bool true, .bool false, .slice none 0 0, .slice none 0 0], .agg #[S cD.name,S M3, .slice none 0 0, .bool false, .bool true, .bool false, .slice none 0 0, .slice none 0 0]] W8 rfl rfl (by simp;exact ⟨rfl,rfl,rfl,rfl⟩) rfl
  ⟨⟨_,_,_,rfl,Sl.nil,(((f.up a).up i).up d).up b,(r.up d).up b,by decide,by decide⟩,⟨_,_,_,rfl,t.up b,y,Sl.nil,by decide,by decide⟩,⟨_,_,_,rfl,Sl.nil,Sl.nil,Sl.nil,by decide,by decide⟩,⟨_,_,_,rfl,Sl.nil,Sl.nil,Sl.nil,by decide,by decide⟩,trivial⟩ fun v8 w8 σ8 A B=>?_
 exact h _ _ _ ((((((((j.trans g).trans c).trans a).trans i).trans d).trans b)).trans A) B)
variable {hp tv : Value} {room : Int} {cs : List Cel} {l : List Cla}
def part (m n:Nat) (z:Val):List Val:=(List.range m).map fun i=>if i<n then z else Val.zero
theorem X47 (m:Nat) (z:Val):part m 0 z=List.replicate m Val.zero:=by
 refine List.ext_getElem (by simp[part]) fun i a b=>by simp[part]
theorem X5q (m:Nat) (z:Val):part m m z=List.replicate m z:=by
 refine List.ext_getElem (by simp[part]) fun i a b=>?_
 have:i<m:=by simpa [part] using a
 simp[part,this]
theorem X5r {m n:Nat} (z:Val):(part m n z).set n z=part m (n+1) z:=by
 refine List.ext_getElem (by simp[part]) fun i a b=>?_
 simp only[part,List.getElem_set,List.getElem_map,List.getElem_range]
 by_cases e:n=i
 .subst e;simp
 .rw[if_neg e]
  by_cases h:i<n
  .simp[h,Nat.lt_succ_of_lt h]
  .have: ¬i<n+1:=by omega
   simp[h,this]
theorem Q95 {e:X2} (h:Qh l e=true):right e=true:=by
 simp only[Qh,Bool.and_eq_true,Bool.not_eq_true',decide_eq_false_iff_not] at h;have:=h.1.2;simp only[H8,Bool.or_eq_true,Bool.and_eq_true,decide_eq_true_eq] at this
 rcases this with h1 | h1
 .exact absurd h1 h.1.1
 .exact h1.1
theorem X6z {e:X2} (h:right e=true):Jp e<=3:=by
 unfold Jp;rw[if_pos h];simp only[right,Bool.and_eq_true,decide_eq_true_eq] at h;exact h.1
set_option maxHeartbeats 1000000 in
theorem X6l {B:Nat} {D:Nat->Prop} {e:X2} {n:Int} (hs:X7 w σ) (hB:B<=w.heap.size) (h:HeapIs B D σ w hp tv room cs) (ht:Tab σ tv l) (hk:e.length<=W6) (h0:0<=D0 room cs) (h1:room<=1048576)
 (hh: ∀w' σ' Z,Nxt D w σ w' σ'->HeapIs B Z σ' w' hp tv room (Ws l room cs e n).1->(∀j,Z j->D j\/w.heap.size<=j)->K (.tuple #[I (atM cs (Ws l room cs e n).2),I (Ws l room cs e n).2]) w'):Q0 P F.bG [hp,S e,I n] w K:=Q27 (by
 obtain ⟨b,lv,E,rfl,hm,hr⟩:=h.tab;unfold Ri;simp only[D9];unfold Z8 V3 X6 Y0 X4 V5 X5;refine X9x e (Nat.le_trans hk W3) fun w1 ad=>?_;have y:=Stp.of_below hs ad;unfold Ws at hh
 have g: ∀{L H},Stp w σ L H->Qh l e=false->K (.tuple #[I 0,I 91]) L:=fun {L H} hS W=>by
  rw[W] at hh;simp only[if_pos] at hh;exact hh L H D (.of_stp hS) (h.up hS) fun j t=> .inl t
 cases z:(right e&&decide (Jp e≠3)) with
 | false=>
  have W:Qh l e=false:=by
   cases hx:Qh l e with
   | false=>rfl
   | true=>
    have hr:=Q95 hx;simp only[Qh,Bool.and_eq_true,decide_eq_true_eq] at hx;rw[hr,Bool.true_and,decide_eq_false_iff_not] at z;omega
  simp only[Bool.false_eq_true,if_false]
  (try simp only[↓M1,M1,Mb,reduceIte])
  simp only[show decide ((30:Int)=0)=false from by decide,Bool.not_false,↓M1,M1,Mb,reduceIte]
  exact g y W
 | true=>
  simp only[if_true]
  (try simp only[↓M1,M1,Mb,reduceIte])
  simp only[decide_true,Bool.not_true,↓M1,M1,Mb,reduceIte];refine I1 (i:=0) (hm.up y) rfl ?_;refine Q5z y.sat ht hk fun L H O=>?_;have a:=y.trans O;simp only[Bool.and_eq_true,decide_eq_true_eq] at z;have ax:=X6z z.1
  have k:Qh l e=(!decide (e=G4)&&H8 l e):=by
   unfold Qh;have:decide (Jp e<=2)=true:=decide_eq_true Q5;rw[this,Bool.and_true]
  have en:decide (e=[110,117,108,108])=decide (e=G4):=rfl;cases V:H8 l e with
  | false=>
   (try simp only[↓M1,M1,Mb,reduceIte])
   exact g a (by rw[k,V,Bool.and_false])
  | true=>
   (try simp only[↓M1,M1,Mb,reduceIte])
   by_cases c:e=G4
   .have:decide (e=[110,117,108,108])=true:=decide_eq_true c
    rw[this]
    (try simp only[↓M1,M1,Mb,reduceIte])
    exact g a (by rw[k,decide_eq_true c];rfl)
   have:decide (e=[110,117,108,108])=false:=decide_eq_false c;rw[this]
   (try simp only[↓M1,M1,Mb,reduceIte])
   have W:Qh l e=true:=by rw[k,V,decide_eq_false c];rfl
   rw[W] at hh;simp only[Bool.true_eq_false,if_false] at hh
   by_cases o:n<0
   .rw[if_pos o] at hh
    rw[decide_eq_true o]
    (try simp only[↓M1,M1,Mb,reduceIte])
    exact hh L H D (.of_stp a) (h.up a) fun j t=> .inl t
   rw[if_neg o] at hh;rw[decide_eq_false o]
   (try simp only[↓M1,M1,Mb,reduceIte])
   refine Q8L O.sat (h.up a) h0 h1 fun w3 Q=>?_;have q:=a.trans Q;refine A0 ?_
   by_cases M:D0 room cs<=n
   .rw[if_pos M] at hh
    rw[decide_eq_true M];refine Z3 ?_;exact hh w3 H D (.of_stp q) (h.up q) fun j t=> .inl t
   rw[if_neg M] at hh;rw[decide_eq_false M];refine Z7 ?_;obtain ⟨m,rfl⟩:=Int.eq_ofNat_of_zero_le (Int.not_lt.1 o);have ah:(m:Int)<D0 room cs:=Int.not_le.1 M;have a2:=C0 cs;unfold D0 at ah h0;have A:=q.bel.size;have an:=Q05 z.1;refine X8g (sz:=4) (R:=E4) (x0:=Val.zero) Q.sat rfl W3 ⟨rfl,by decide⟩ Q5 Q5 fun v w4 ag ac C=>?_
   have X:=V6.of_acc ac;refine Fx X ?_;rw[List.length_replicate];refine V7 m (fun i w'=> ∃σ',Stp w3 H w' σ'/\V6 w3.heap.size T.d 4 E4 σ' w' v (part m i (H5 e))) ⟨H,ag,by rw[X47];exact X⟩ fun i w5 d hi N=>?_
   obtain ⟨σ5,r,J⟩:=N;refine J0 ?_;refine Q4 (fun hc=>?_) (fun hc=>?_)
   .have s:i<m:=by simpa using hc
    refine X3i r.sat fun w6 σ6 U=>?_;have ab:=r.trans U;refine Q67 (x:=H5 e) ab (J.up U) (by simpa [part] using s) rfl (Q0d e) (Rep.one (R:=E4) (Q0d (σ:=σ6) e)) fun p u w7 ay ae Y=>?_
    refine R5 ?_;rw[X5r] at Y;exact Z5 Q5 s ⟨σ6,ae.stp,Y⟩
   .have s:i=m:=by
     have: ¬i<m:=by simpa using hc
     omega
    subst s;rw[X5q] at J;have f:=q.trans r
    refine X5V r.sat (Nat.le_trans hB f.bel.size) (h.up f) (J.mono (Nat.le_trans hB A)) (fun j t hD=>by
     have:=(h.mem hD).2.1;have:=C j t;omega) (Nat.le_trans (show (e++[91,93]).length<=40 by simp only[List.length_append,List.length_cons,List.length_nil];omega) W3) (by rw[List.length_replicate];omega) fun w7 σ7 Z N7 h7 aa=>?_
    refine J8 (vs:=[_,_]) rfl ?_;refine J8 (vs:=[_,_]) rfl ?_;rw[Int.toNat_natCast] at hh;refine hh w7 σ7 Z ((Nxt.of_stp f).chain N7 fun j _ e=>e) h7 fun j t=>?_
    rcases aa j t with e | e | e
    .exact .inl e
    .right;have:=C j e;omega
    .right;have:=f.bel.size;omega)
end Go.Proofs.Y
namespace Go.Emb
open Go.RowKit Go.Hm
variable {w w' : World} {σ σ1 σ2 : Q2}
theorem Stp.weak (h:Stp w σ1 w' σ2) (a: ∀b o,σ b=some o->σ1 b=some o):Stp w σ w' σ:=
 ⟨h.bel,fun b o e=>h.sat b o (h.le b o (a b o e)),fun _ _ e=>e,fun _ _=>rfl⟩
end Go.Emb
namespace Go.Proofs.Y
open Go.Emb Go.RowKit Go.Kd Go.Hm
variable {w w' : World} {K : Value -> World -> Prop} {σ σ' : Q2} {hp tv : Value} {room : Int} {cs : List Cel} {l : List Cla}
theorem RowsIs.rows {B:Nat} {D:Nat->Prop} {m:Value} (h:RowsIs B D σ w m cs) (A:X7 w σ): ∃vs σ',vs.length=cs.length/\X7 w σ'/\SLe σ σ'/\Sl 2 Q6y σ' m (Zx vs cs)/\(∀i (h:i<vs.length) (y:i<cs.length),V6 B T.d 4 E4 σ w vs[i] cs[i].vals/\ ∀k,vs[i].ownBlock=some k->D k)/\(∀k,¬D k->σ' k=σ k)/\
 ∀i (h:i<vs.length) (y:i<cs.length) vals' n,Kpt (fun k=>vs[i].ownBlock=some k) w n->V6 B T.d 4 E4 σ n vs[i] vals'->RowsIs B D σ n m (cs.set i ⟨cs[i].kind,vals'⟩):=by
 obtain ⟨vs,u,g,t,hD⟩:=h.ex;obtain ⟨o,p⟩:=List.pairwise_cons.1 t;obtain ⟨σ',E,C,v,o1⟩:=u.freeze A;refine ⟨vs,σ',g.1,E,C,v,fun i b d=>⟨g.2 i b d,fun k c=>(hD k).2 ⟨vs[i],by simp[List.getElem_mem b],c⟩⟩,fun k c=>o1 k fun e=>c ((hD k).2 ⟨m,by simp,e.symm⟩),fun i b d vals' n c z=>⟨vs,?_,⟨by simpa using g.1,fun j q r=>?_⟩,t,hD⟩⟩
 .have e:Zx vs (cs.set i ⟨cs[i].kind,vals'⟩)=Zx vs cs:=by
   refine List.ext_getElem (by simp[Zx]) fun j H J=>?_
   simp only[Zx,List.getElem_zipWith,List.getElem_set]
   split
   .rename_i e;subst e;rfl
   .rfl
  rw[e];exact u.kp c fun k a f=>o _ (List.getElem_mem b) k a f
 .have s:j<cs.length:=by simpa using r
  simp only[List.getElem_set]
  by_cases e:i=j
  .subst e;simp only[if_pos];exact z
  .simp only[if_neg e]
   refine (g.2 j q s).kp c fun k a f=>?_;have hp:=List.pairwise_iff_getElem.1 p
   rcases Nat.lt_or_gt_of_ne e with hlt | hlt
   .exact hp i j b q hlt k f a
   .exact hp j i q b hlt k a f
theorem X4v {i:Nat} (b:i<cs.length) {vals':List Val} (h:vals'.length=cs[i].vals.length):U4 (cs.set i ⟨cs[i].kind,vals'⟩)=U4 cs:=by
 unfold U4;rw[List.map_set];simp only[h];have a:1+(cs[i].vals.length:Int)=(cs.map (fun c=>1+(c.vals.length:Int)))[i]'(by simpa using b):=by simp
 rw[a,List.set_getElem_self]
set_option maxHeartbeats 1000000 in
theorem X24 {B:Nat} {D:Nat->Prop} {r i:Int} {v:Val} (hs:X7 w σ) (hg:Glb σ) (h:HeapIs B D σ w hp tv room cs) (ht:Tab σ tv l) (ok:Ok l) (good: ∀c∈cs,GoodC W4 l cs c) (hv:E4 σ v [I v.sort,I v.n,S v.s,I v.ref])
 (hh: ∀w' σ',Nxt D w σ w' σ'->HeapIs B D σ' w' hp tv room (H9 W4 l cs r i v).1->K (I (H9 W4 l cs r i v).2) w'):Q0 P F.u [hp,I r,I i, .agg [I v.sort,I v.n,S v.s,I v.ref].toArray] w K:=Q4u (by
 unfold Bx;simp only[Y3,X3];unfold X4;refine Z4 hs fun q w1 σ1 hk1 hq=>?_;have h1:=h.up hk1;have hs1:=hk1.sat;obtain ⟨σf,sf,lef,hsl,_⟩:=h1.freeze hs1;refine X1c sf hsl ?_;unfold H9 at hh;refine P8 ?_
 by_cases h0:C7 cs r i=0
 case neg=>
  have e:decide (C7 cs r i=0)=false:=decide_eq_false h0;rw[if_pos h0] at hh;rw[e];refine Z3 ?_;exact hh _ _ (.of_stp hk1) h1
 have e:decide (C7 cs r i=0)=true:=decide_eq_true h0;rw[if_neg (fun hn=>hn h0)] at hh;rw[e];refine Z7 ?_;obtain ⟨j,m,rfl,rfl,hj,hm⟩:=Dr h0;rw[L4 hj,Int.toNat_natCast] at hh;have hsl0:=hsl;obtain ⟨a,lv,rfl,la,ls⟩:=hsl;obtain ⟨vv,p1,p2,p3⟩:=Sl.elO ls hj;have hqf:=hq.lift lef;have lesf:SLe σ σf:=SLe.more ⟨hk1.le⟩ lef;have htf:=ht.lift lesf;have hone:vv.cells= #[vv]/\vv.oneCell'=true:=by obtain ⟨a,c,rfl,_⟩:=p2;exact ⟨rfl,rfl⟩
 have hgc:=good cs[j] (List.getElem_mem hj)
 have hif:elem cs[j].kind=[]->m<(U6 l cs[j].kind).length:=fun e=>by
  rcases hgc.is with h | h
  .exact absurd e h
  .rw[<-h.2];exact hm
 refine U8 sf ?_
 (repeat (apply X0;(· intros;(repeat (rename_i hx;subst hx));(repeat' (first | (with_reducible exact Q8 rfl) | (with_reducible exact B5 (Stp.bel (by (repeat (first | exact Stp.refl (by (first | assumption | exact Stp.sat Q9 | exact Hst.sat Q9)) | assumption | refine Stp.trans ?_ (by first | assumption | exact Hst.stp Q9))))) rfl) | (with_reducible intro _) | (simp only[↓M2,M2,Mb,reduceIte]) | (with_reducible show Q6 _ _ _ _ _;first | refine Y6 aS aL aR ?_ | refine Y7 aS aL aR ?_ | refine ld aS aL aR ?_) | (with_reducible show indexAddr _ _ _ _ _ _;refine Z1 aL au ?_) | (with_reducible show V0 _ _ _ _ _ _ _ _;refine Q7 aL ?_) | (with_reducible show Xj _ _ _ _ _ _;refine W2 aR ?_) | (with_reducible show pick _ _ _ _ _ _;refine F3 ?_) | (with_reducible show Q0 _ _ _ _ _;first | refine X7M au au au au au au au ?_) | (apply Zn;intro hh;(try simp only[hh,reduceIte,↓M2,M2,Mb,reduceIte]))));done)))
 (intros;(repeat (rename_i hx;subst hx)))
 rename_i w2 hb2;refine X7F hb2.sat (hg.lift lesf) hsl0 htf ok hv.2.2.2.1 (X08 ok p3 m) fun w3 σ3 hk3=>?_;have hk13:=(hb2.stp.trans hk3).weak lef.le;have h3:=h1.up hk13;have hS3:=hk1.trans hk13;have hs3:=hk13.sat;refine Zv ?_;cases hf:K3 W4 l cs v (Wl l cs[j].kind m) with
 | false=>
  rw[hf] at hh;simp only[Bool.false_eq_true,if_false] at hh;refine Z3 ?_;exact hh _ _ (.of_stp hS3) h3
 | true=>
  rw[hf] at hh;simp only[if_true] at hh;refine Z7 ?_;obtain ⟨b,lv',E,hpe,hbB,hm3,hr3,hE,hD⟩:=h3.ex;obtain ⟨vs,σg,hvl,sg,leg,slg,hrow,hog,hset⟩:=hr3.rows hs3;obtain ⟨σh,sh,leh,lih,_⟩:=(show Y8 σg w3 b _ from ⟨(hog b hE).trans hm3.1,hm3.2⟩).freeze sg
  cases hpe;have slh:=slg.lift leh;have hqh:=(hq.up hk13).lift (leg.more leh);have hjv:j<vs.length:=by rw[hvl];exact hj
  have hjo:j<(Zx vs cs).length:=by rw[Su hvl];exact hj
  obtain ⟨cs5,p5,_,r5⟩:=slh.el hjo;have eo:(Zx vs cs)[j]=(cs[j].kind,vs[j]):=by simp[Zx]
  rw[eo] at r5;obtain ⟨rfl,_⟩:=r5;refine U8 sh ?_
  (repeat refine X0 Vf ?_)
  (intros;(repeat (rename_i hx;subst hx)))
  rename_i w4 hb4;have hk34:=Stp.of_below hs3 hb4.stp.bel;have N34:Nxt (fun _=>False) w3 σ1 w4 σ1:= .of_stp hk34;obtain ⟨hrj,hrD⟩:=hrow j hjv hj;have hrj4:=hrj.up hk34;have hv1:E4 σ1 v [I v.sort,I v.n,S v.s,I v.ref]:=hv;refine Q67 (w0:=Q0i w4) (σ0:=fun _=>none) (x:=v) (Uj hk34.sat) (hrj4.mono (Nat.zero_le B)) hm rfl hv1 (Rep.one hv1) fun p u w5 hkp hb5 hq5=>?_;have hkp5:Kpt (fun k=>vs[j].ownBlock=some k) w3 w5:=(Kpt.of_below hk34.bel).trans hkp;have hr5:=hset j hjv hj _ w5 hkp5 (hq5.raise fun k hk=>(hrj.mem hk).1);have N35:Nxt (fun k=>vs[j].ownBlock=some k) w3 σ1 w5 σ1:=⟨hkp5,SLe.refl _,fun _ _=>rfl,hb5.sat⟩;have hm5:=hm3.nx N35 fun e=>hE (hrD b e);have hsv:Qc cs j m v=cs.set j ⟨cs[j].kind,cs[j].vals.set m v⟩:=by unfold Qc;rw[L4 hj,Int.toNat_natCast,Int.toNat_natCast]
  rw[hsv] at hh;have htk:=X4v hj (vals':=cs[j].vals.set m v) U5;refine hh w5 σ1 ((Nxt.of_stp hS3).chain N35 fun k _ e=>(hD k).2 (.inr (hrD k e))) ⟨b,lv',E,rfl,hbB,?_,hr5,hE,hD⟩;rw[htk];exact hm5)
end Go.Proofs.Y
namespace Go.Emb
open Go.RowKit Go.Hm
variable {P : Program} {w : World} {K : Value -> World -> Prop} {σ : Q2}
theorem X98 {α:Type} {R:Q2->α->List Value->Prop} {B sz:Nat} {e:TypeId} {v:Value} {xs ys:List α} {t:TypeId} {d:Nat} {z:Value} [ts:TS P t e] [tz:TZ P e sz d z] (h:V6 B e sz R σ w v (xs++ys))
 (m: ∀f,V6 B e sz R σ w f xs->f.ownBlock=v.ownBlock->K f w):I3 P t v none (some (I xs.length)) none w K:=by
 have j:=h;obtain ⟨a,b,rfl,k,p,n,q⟩:=j;rw[List.length_append] at k;have c:V6 B e sz R σ w (.slice a xs.length b) xs:=h.pre rfl;generalize (xs++ys).length=N at*
 have hh: ∀w:World,(Instr.sliceBounds true N b none (some (I xs.length)) none).run P w= .ok (0,xs.length,b) w:=by
  intro w;have o:(xs.length:Int)<=b:=by omega
  have g:xs.length<=b:=by omega
  simp[Instr.sliceBounds,Instr.sliceBound,asIntOf,g]
  try (intros;omega)
 unfold I3
 have:(Instr.sliceAt t (.slice a N b) none (some (I xs.length)) none).run P w= .ok (.slice (if b=0 then a else a.map (·.add (0*sz))) (xs.length-0) (b-0)) w:=by
  simp[Instr.sliceAt,run_underlying ts.h,Instr.slice,hh,E8 tz]
 rw[Z0 this]
 have i:(if b=0 then a else a.map (·.add (0*sz)))=a:=by
  split
  .rfl
  .cases a<;>simp[add_zero]
 rw[i,Nat.sub_zero,Nat.sub_zero];exact m _ c (by cases a<;>rfl)
end Go.Emb
namespace Go.Proofs.Y
open Go.Emb Go.RowKit Go.Kd Go.Hm
variable {w w' : World} {K : Value -> World -> Prop} {σ σ' : Q2} {hp tv : Value} {room : Int} {cs : List Cel}
theorem X7E {v:Val} {ds:List Value} {n:Int} {q:Addr} (f:X7 w σ) (d:E4 σ v ds) (c:J7 σ q [I n]) (h: ∀w',Below w.heap.size w w'->K (.bool (Qp n v)) w'):Q0 P F.bH [.agg ds.toArray, .pointer (some q)] w K:=Q28 (by
 obtain ⟨rfl,_⟩:=d;unfold Rj Z8 Y1 X4 X5;refine Z4 f fun g w1 σ1 a b=>?_;unfold Qp at h;refine J4 ?_;refine ld a.sat b rfl ?_;refine B1 ?_
 by_cases e:v.sort=4
 .rw[decide_eq_true e] at h⊢
  (try simp only[↓M1,M1,Mb,reduceIte])
  refine ld a.sat b rfl ?_;refine Y6 a.sat (c.up a) rfl ?_
  (try simp only[↓M1,M1,Mb,reduceIte])
  exact h _ a.bel
 .rw[decide_eq_false e] at h⊢
  (try simp only[↓M1,M1,Mb,reduceIte])
  exact h _ a.bel)
theorem X42 {vs:List Value} {c:Cel} (h:vs.length=cs.length+1): ∃v,Zx vs (cs++[c])=Zx (vs.take cs.length) cs++[(c.kind,v)]:=by
 refine ⟨vs[cs.length],?_⟩
 have e:vs=vs.take cs.length++[vs[cs.length]]:=by
  rw[List.take_append_getElem Q5];rw[List.take_of_length_le Q5]
 conv=>lhs;rw[e]
 unfold Zx;rw[List.zipWith_append (by simp;omega)]
 rfl
theorem X9l {B n:Nat} {D:Nat->Prop} {p:Value} {c:Cel} (C:n=cs.length) (h:RowsIs B D σ w p (cs++[c])) (z: ∀a q,RowsIs B q σ w a cs->(∀j,q j->D j)->K a w):I3 P T.g p none (some (I n)) none w K:=by
 subst C;obtain ⟨vs,s,t,A,hD⟩:=h.ex;have b:vs.length=cs.length+1:=by rw[t.1];simp
 obtain ⟨H,u⟩:=X42 (c:=c) b;rw[u] at s;have y:cs.length=(Zx (vs.take cs.length) cs).length:=by rw[Su (by simp[b])]
 rw[y];refine X98 s fun a o r=>?_;refine z a (fun k=> ∃v∈a::vs.take cs.length,v.ownBlock=some k) ⟨vs.take cs.length,o,⟨by simp[b],fun i E g=>?_⟩,?_,fun k=>Iff.rfl⟩ ?_
 .have m:i<vs.length:=by omega
  have:=t.2 i m (by simp;omega)
  rw[List.getElem_append_left g] at this
  simpa using this
 .obtain ⟨e,f⟩:=List.pairwise_cons.1 A
  exact List.pairwise_cons.2 ⟨fun v hv k d=>e v (List.mem_of_mem_take hv) k (r▸d),f.sublist (List.take_sublist _ _)⟩
 .rintro k ⟨v,hv,d⟩
  rcases List.mem_cons.1 hv with rfl | hv
  .exact (hD k).2 ⟨p,by simp,r▸d⟩
  .exact (hD k).2 ⟨v,by simp[List.mem_of_mem_take hv],d⟩
set_option maxRecDepth 9999 in
set_option maxHeartbeats 2000000 in
theorem X8F {B:Nat} {D:Nat->Prop} {n:Int} (hs:X7 w σ) (h:HeapIs B D σ w hp tv room cs) (hl:U4 cs<=1048576) (hn:Xv n)
 (hh: ∀w' σ' D',Nxt D w σ w' σ'->HeapIs B D' σ' w' hp tv room (Q0o cs n)->(∀j,D' j->D j)->K (.tuple #[]) w'):Q0 P F.ca [hp,I n] w K:=Q4s (by
 have hcl:=Yf cs;unfold Bv;simp only[Y3,X3,L9,N0];unfold Y1 V1 V3 Y0 X4 X5;refine Q8I hs fun b0 w1 hb0 hk1 hm1=>?_;have hm1:Y8 σ w1 b0 [I n]:=hm1;refine Ou hm1 rfl ?_;refine X9i ?_;refine st0 hm1 U5 rfl rfl fun w2 u2 hm2=>?_;have hm2:Y8 σ w2 b0 [I (max n 0)]:=hm2;unfold Q0o at hh;obtain ⟨m,hmE⟩:=Int.eq_ofNat_of_zero_le (show 0<=max n 0 by omega)
 rw[hmE] at hm2 hh;have hmx:(m:Int)<=9223372036854775807:=by have:=hn.2;omega
 have hk2:Stp w σ w2 σ:=u2.stp hk1 hb0 hm1.1;obtain ⟨σ2,hS2,hq2,le2,_⟩:=hm2.keep hk2 hb0;have h2:=h.up hS2;have hs2:=hS2.sat;obtain ⟨σf,sf,lef,hsl,_⟩:=h2.freeze hs2;rw[Int.toNat_natCast] at hh;obtain ⟨a,lv,rfl,la,ls⟩:=hsl;have hqf:=hq2.le lef.le;refine U8 sf ?_
 (repeat (apply X0;(· intros;(repeat (rename_i hx;subst hx));(repeat' (first | (with_reducible exact Q8 rfl) | (with_reducible exact B5 (Stp.bel (by (repeat (first | exact Stp.refl (by (first | assumption | exact Stp.sat Q9 | exact Hst.sat Q9)) | assumption | refine Stp.trans ?_ (by first | assumption | exact Hst.stp Q9))))) rfl) | (with_reducible intro _) | (simp only[↓M2,M2,Mb,reduceIte]) | (with_reducible refine X9j ?_) | (with_reducible show Q6 _ _ _ _ _;first | refine Y6 aS aL aR ?_ | refine Y7 aS aL aR ?_ | refine ld aS aL aR ?_) | (with_reducible show indexAddr _ _ _ _ _ _;refine Z1 aL au ?_) | (with_reducible show V0 _ _ _ _ _ _ _ _;refine Q7 aL ?_) | (with_reducible show Xj _ _ _ _ _ _;refine W2 aR ?_) | (with_reducible show pick _ _ _ _ _ _;refine F3 ?_) | (apply Zn;intro hh;(try simp only[hh,reduceIte,↓M2,M2,Mb,reduceIte]))));done)))
 (intros;(repeat (rename_i hx;subst hx)))
 rename_i w3 hb3;have hmin:min (m:Int) (cs.length:Int)=((min m cs.length:Nat):Int):=by omega
 rw[hmin];refine Bn ls none (some (I (min m cs.length:Nat))) 0 (min m cs.length) (.inl ⟨rfl,rfl⟩) (.inr rfl) (Nat.zero_le _) (Nat.min_le_right _ _) fun v3 hv3=>?_;rw[List.drop_zero,Nat.sub_zero,List.take_eq_take_min.symm] at hv3;refine Q7 hv3 ?_;have hk23: ∀{w' σ'},Stp w3 σf w' σ'->Stp w2 σ2 w' σ2:=fun hk=>(hb3.stp.trans hk).weak lef.le;refine V7 (cs.take m).length (fun i w'=> ∃σ',Stp w3 σf w' σ'/\((cs.take m).take i).any (fun c=>c.vals.any (Qp m))=false) ⟨σf,Stp.refl hb3.sat,rfl⟩ fun i w4 d hi hinv=>?_;obtain ⟨σ4,hk4,hno⟩:=hinv;refine J0 ?_;refine Q4 (fun hc=>?_) (fun hc=>?_)
 .have hi':i<(cs.take m).length:=by simpa using hc
  have hv4:=hv3.up hk4;obtain ⟨vv,p1,p2,p3⟩:=Sl.elO hv4 hi';refine Z1 hv4 hi' ?_;refine Y7 hk4.sat p1 rfl ?_;refine J6 hk4.sat (by rfl) rfl (Rep.one (R:=Xi) ⟨vv,rfl,p2,p3⟩) fun q5 w5 σ5 hk5 hq5=>?_
  rw[fa];refine ld hk5.sat hq5 rfl ?_;rw[Zc];have hq5f:=hqf.lift (SLe.more ⟨hk4.le⟩ ⟨hk5.le⟩);refine Gs (Qp m) hk5.sat (p2.up hk5) (fun v ds w6 K hv hs6 hr hlen hK=>U3 (first:=[]) (caps:=[.pointer (some ⟨b0,0,none⟩)]) (X7E hs6 hr hq5f hK)) fun w6 hb6=>?_
  have hk6:=(hk4.trans hk5).trans (Stp.of_below hk5.sat hb6);have hnx:=E7 (p:=fun c:Cel=>c.vals.any (Qp m)) hi';cases hany:(cs.take m)[i].vals.any (Qp m) with
  | true=>
   refine Z3 ?_;rw[if_pos (K2 hi' hany)] at hh;have hS:=hS2.trans (hk23 hk6);exact hh _ _ D (.of_stp hS) (h.up hS) fun j hj=>hj
  | false=>
   refine Z7 ?_;refine R5 ?_;refine Z5 hv3.max hi' ⟨σ5,hk6,?_⟩;rw[hnx,hno,hany];rfl
 have hi': ¬i<(cs.take m).length:=by simpa using hc
 rw[B4 hi'] at hno;rw[if_neg (by rw[hno];simp)] at hh
 have hS4:=hS2.trans (hk23 hk4);have h4:=h.up hS4;refine Q0y (fun k (_:Unit) w'=> ∃D',Nxt D w σ w' σ2/\HeapIs B D' σ2 w' (.pointer (some a)) tv room (cs.take k)/\(∀j,D' j->D j)/\k<=cs.length/\(m<=k\/k=cs.length)) cs.length ⟨D, .of_stp hS4,by rw[List.take_length];exact h4,fun j hj=>hj,Nat.le_refl _, .inr rfl⟩ ?_
 rintro again k x d w5 ⟨D5,N5,h5,hD5,hkl,hmk⟩ hag;have hs5:=N5.sat
 have htk:U4 (cs.take k)<=1048576:=by
  have e:U4 cs=U4 (cs.take k)+U4 (cs.drop k):=by rw[<-Zu,List.take_append_drop]
  have:=C0 (cs.drop k);omega
 obtain ⟨σg,sg,leg,hslg,_⟩:=h5.freeze hs5;obtain ⟨ag,lvg,hpe,lag,lsg⟩:=hslg;cases hpe;have hqg:=(show J7 σ2 ⟨b0,0,none⟩ [I (m:Int)] from hq2).lift leg
 have hlk:(cs.take k).length=k:=by rw[List.length_take];omega
 refine U8 sg ?_
 (repeat refine X0 Vf ?_)
 (intros;(repeat (rename_i hx;subst hx)))
 rename_i w6 hb6;have hk56:Stp w5 σ2 w6 σ2:=hb6.stp.weak leg.le;have h6:=h5.up hk56;have N6:=N5.chain (Nxt.of_stp (D:=fun _=>False) hk56) fun j _ e=>e.elim;rw[hlk];refine Q4h ?_
 by_cases hgt:m<k
 case neg=>
  rw[decide_eq_false (show¬(m:Int)<(k:Int) by omega)]
  refine Z7 ?_
  have e:cs.take m=cs.take k:=by
   rcases hmk with e | e
   .rw[show m=k by omega]
   .rw[e,List.take_length,List.take_of_length_le Q5]
  rw[e] at hh;exact hh w6 σ2 D5 N6 h6 hD5
 rw[decide_eq_true (show (m:Int)<(k:Int) by omega)]
 refine Z3 ?_;obtain ⟨k1,rfl⟩: ∃k1,k=k1+1:=⟨k-1,by omega⟩
 have hk1l:k1<cs.length:=by omega
 have esnoc:cs.take (k1+1)=cs.take k1++[cs[k1]]:=by rw[List.take_append_getElem hk1l]
 have hk1t:(cs.take k1).length=k1:=by rw[List.length_take];omega
 obtain ⟨σh,sh,leh,hslh,_⟩:=h6.freeze hk56.sat;obtain ⟨b,lv6,E6,hpb,hbB,hm6,hr6,hE6,hDe6⟩:=h6.ex;cases hpb;obtain ⟨ah,lvh,hpe,lah,lsh⟩:=hslh;cases hpe;rw[H7,fa];refine I1 hm6 rfl ?_;obtain ⟨al,capl,hle⟩:=hr6.len;rw[hlk] at hle;subst hle;rw[Q47];refine Vs ⟨by omega,by omega⟩ ?_
 have ek:((k1+1:Nat):Int)-1=(k1:Int):=by omega
 rw[ek];have hkk:k1<(cs.take (k1+1)).length:=by omega
 obtain ⟨vvk,pk,pk2,_⟩:=Sl.elO lsh hkk;have evk:((cs.take (k1+1))[k1]'hkk).vals=cs[k1].vals:=by simp
 rw[evk] at pk2;refine U8 sh ?_
 (repeat refine X0 Vf ?_)
 (intros;(repeat (rename_i hx;subst hx)))
 rename_i w7 hb7;have hk67:Stp w6 σ2 w7 σ2:=hb7.stp.weak leh.le;have htn:=C0 (cs.take k1)
 have etk:U4 (cs.take (k1+1))=U4 (cs.take k1)+(1+(cs[k1].vals.length:Int)):=by
  rw[esnoc,Zu];simp[U4]
 rw[Qr Q5 Q5];refine Vs ⟨by omega,by omega⟩ ?_
 have eu:U4 (cs.take (k1+1))-(1+(cs[k1].vals.length:Int))=U4 (cs.take k1):=by omega
 rw[eu];have hm7:=hm6.up hk67;have hr7:=hr6.up hk67;rw[H7,fa];refine Yj hm7 U5 rfl rfl fun w8 u8 hm8=>?_;have N78:=Nxt.of_upd hk67.sat u8 hm7.1;have hr8:=hr7.nx N78 fun j hj e=>hE6 (e▸hj);rw[H7,fa];refine I1 hm8 rfl ?_;rw[esnoc] at hr8;refine X9l hk1t.symm hr8 fun lv9 E9 hr9 hE9=>?_;rw[H7,fa];refine Yj hm8 U5 hr9.shape.1 hr9.shape.2 fun w9 u9 hm9=>?_;have N89:=Nxt.of_upd N78.sat u9 hm8.1;have hE9b: ¬E9 b:=fun e=>hE6 (hE9 b e);have hr9':=hr9.nx N89 fun j hj e=>hE9b (e▸hj);have hDb:D5 b:=(hDe6 b).2 (.inl rfl);have N9:Nxt D w σ w9 σ2:=((N6.chain (Nxt.of_stp (D:=fun _=>False) hk67) fun j _ e=>e.elim).chain N78 fun j _ e=>e▸hD5 b hDb).chain N89 fun j _ e=>e▸hD5 b hDb;refine hag k1 _ _ (Nat.lt_succ_self _) ⟨fun j=>j=b\/E9 j,N9,⟨b,lv9,E9,rfl,hbB,hm9,hr9',hE9b,fun j=>Iff.rfl⟩,fun j hj=>?_,by omega, .inl Q5⟩
 rcases hj with rfl | hj
 .exact hD5 _ hDb
 .exact hD5 j ((hDe6 j).2 (.inr (hE9 j hj))))
end Go.Proofs.Y
namespace Go.Emb
open Go.RowKit Go.Hm
variable {w w' w0 : World} {σ σ' σ0 : Q2}
theorem Nxt.stp' {D:Nat->Prop} (N:Nxt D w σ w' σ') (a:Stp w0 σ0 w σ) (f: ∀k,D k->w0.heap.size<=k):Stp w0 σ0 w' σ':=
 ⟨⟨N.kp.os.trans a.bel.os,N.kp.tape.trans a.bel.tape,N.kp.output.trans a.bel.output,Nat.le_trans a.bel.size N.kp.size,fun k d=>(N.kp.block k (Nat.lt_of_lt_of_le d a.bel.size) fun h=>absurd (f k h) Q5).trans (a.bel.block k d)⟩,N.sat,fun b o e=>N.le.le b o (a.le b o e),fun b c=>(N.old b (Nat.lt_of_lt_of_le c a.bel.size)).trans (a.old b c)⟩
end Go.Emb
namespace Go.Proofs.Y
open Go.Emb Go.RowKit Go.Kd Go.Hm
variable {w : World} {σ : Q2}
theorem RowsIs.nil {B:Nat}:RowsIs B (fun _=>False) σ w (.slice none 0 0) []:=
 ⟨[],V6.of_acc W7.nil,⟨rfl,fun i h=>absurd h (Nat.not_lt_zero i)⟩,List.pairwise_singleton _ _,fun k=>by simp[Value.ownBlock]⟩
variable {K : Value -> World -> Prop} {l : List Cla} {v : Value}
theorem X22:(Qv l).length=l.length:=by simp[Qv]
theorem X3c {i:Nat} (a:i<(Qv l).length):(Qv l)[i]=(List.range l.length).map fun j=>Jl l (J1 l i) (J1 l j):=by simp[Qv]
theorem Sl.elB {xs:List (List Bool)} {v:Value} (h:Sl 1 Q8v σ v xs) {i:Nat} (c:i<xs.length): ∃u,J7 σ (K9 1 v i) [u]/\Sl 1 Q5v σ u xs[i]:=by
 obtain ⟨cs,a,d,u,rfl,b⟩:=h.el c;exact ⟨u,a,b⟩
theorem Sl.elb {xs:List Bool} {v:Value} (h:Sl 1 Q5v σ v xs) {i:Nat} (c:i<xs.length):J7 σ (K9 1 v i) [.bool xs[i]]:=by
 obtain ⟨cs,b,d,a⟩:=h.el c;have a:cs=_:=a;subst a;exact b
theorem X7h {a b:X2} (n:X7 w σ) (y:Sl 8 M8 σ v (Q3 l)) (z:Wf l) (ok:Ok (Q3 l)) (E:(Q3 l).length<=1000) (Q:a.length<=W6) (Z:b.length<=W6) (h: ∀w' σ',Stp w σ w' σ'->K (.bool (Vd (Q3 l) a b)) w'):Q0 P F.bZ [v,S a,S b] w K:=Q3v (by
 unfold Cy zhi X6 X4 V5 X5;have o: ∀r,Vd (Q3 l) a b=r->K (.bool r) w:=fun r e=>by rw[<-e];exact h _ _ (Stp.refl n)
 refine Sz n y Q ?_;cases g:H8 (Q3 l) a with
 | false=>
  have O:Vd (Q3 l) a b=false:=by unfold Vd;simp[g]
  (try simp only[↓M1,M1,Mb,reduceIte])
  by_cases e:a=b
  .have f:decide (a=b)=true:=by simpa using e
   simp only[f,↓M1,M1,Mb,reduceIte];refine Sz n y Q ?_;rw[g]
   (try simp only[↓M1,M1,Mb,reduceIte])
   exact o _ O
  .have f:decide (a=b)=false:=by simpa using e
   simp only[f,↓M1,M1,Mb,reduceIte];exact o _ O
 | true=>
 (try simp only[↓M1,M1,Mb,reduceIte])
 refine Sz n y Z ?_;cases k:H8 (Q3 l) b with
 | false=>
  have O:Vd (Q3 l) a b=false:=by unfold Vd;simp[k]
  have f:decide (a=b)=false:=by
   rw[decide_eq_false_iff_not];rintro rfl;rw[g] at k;cases k
  simp only[f,↓M1,M1,Mb,reduceIte];exact o _ O
 | true=>
 (try simp only[↓M1,M1,Mb,reduceIte])
 by_cases e:a=b
 .have f:decide (a=b)=true:=by simpa using e
  simp only[f,↓M1,M1,Mb,reduceIte];refine Sz n y Q ?_;rw[g]
  (try simp only[↓M1,M1,Mb,reduceIte])
  exact o _ (z.sub_iff.2 ⟨g,k, .inl e⟩)
 have f:decide (a=b)=false:=by simpa using e
 simp only[f,↓M1,M1,Mb,reduceIte];refine Bk _ ?_
 have c:(∀(_:plain a=false/\plain b=false/\(a=G4\/(elem a≠[]/\b=M3)\/(lk (Q3 l) a≠none/\Hm.Reach (lk (Q3 l)) a b))),False)->K (.bool false) w:=fun hx=>o _ (eq_false_of_ne_true fun ht=>by
  obtain ⟨_,_,h3⟩:=z.sub_iff.1 ht
  rcases h3 with h3 | h3
  .exact e h3
  .exact hx h3)
 cases t:plain a with
 | true=>(try simp only[↓M1,M1,Mb,reduceIte]);exact c fun hx=>by rw[t] at hx;cases hx.1
 | false=>
 (try simp only[↓M1,M1,Mb,reduceIte])
 refine Bk _ ?_;cases J:plain b with
 | true=>(try simp only[↓M1,M1,Mb,reduceIte]);exact c fun hx=>by rw[J] at hx;cases hx.2.1
 | false=>
 (try simp only[↓M1,M1,Mb,reduceIte])
 by_cases H:b=G4
 .have f:decide (b=[110,117,108,108])=true:=by rw[decide_eq_true_eq];exact H
  simp only[f,↓M1,M1,Mb,reduceIte];refine c fun ⟨_,_,hx⟩=>?_
  rcases hx with hx | ⟨_,hx⟩ | ⟨_,hx⟩
  .exact e (hx.trans H.symm)
  .rw[H] at hx;exact absurd hx W3
  .obtain ⟨d,A⟩:=hx.right
   rw[H,z.none_null] at A;cases A
 have U:decide (b=[110,117,108,108])=false:=by rw[decide_eq_false_iff_not];exact H
 simp only[U,↓M1,M1,Mb,reduceIte]
 by_cases m:a=G4
 .have f:decide (a=[110,117,108,108])=true:=by rw[decide_eq_true_eq];exact m
  simp only[f,↓M1,M1,Mb,reduceIte];exact o _ (z.sub_iff.2 ⟨g,k, .inr ⟨t,J, .inl m⟩⟩)
 have B:decide (a=[110,117,108,108])=false:=by rw[decide_eq_false_iff_not];exact m
 simp only[B,↓M1,M1,Mb,reduceIte]
 by_cases L:b=M3
 .have f:decide (b=[79,98,106,101,99,116])=true:=by rw[decide_eq_true_eq];exact L
  simp only[f,↓M1,M1,Mb,reduceIte];exact o _ (by rw[L];exact z.sub_root g t)
 have V:decide (b=[79,98,106,101,99,116])=false:=by rw[decide_eq_false_iff_not];exact L
 simp only[V,↓M1,M1,Mb,reduceIte];refine Xa n y ?_;refine Xa n y ?_;refine A0 ?_;rw[Yl];cases p:U1 (Q3 l) a with
 | none=>
  simp only[Option.isSome_none,↓M1,M1,Mb,reduceIte];refine c fun ⟨_,_,hx⟩=>?_
  rcases hx with hx | ⟨_,hx⟩ | ⟨hx,_⟩
  .exact m hx
  .exact L hx
  .exact hx (by unfold lk;rw[p];rfl)
 | some i=>
 simp only[Option.isSome_some,↓M1,M1,Mb,reduceIte];cases C:U1 (Q3 l) b with
 | none=>
  simp only[Yl,Option.isSome_none,↓M1,M1,Mb,reduceIte];refine c fun ⟨_,_,hx⟩=>?_
  rcases hx with hx | ⟨_,hx⟩ | ⟨_,hx⟩
  .exact m hx
  .exact L hx
  .obtain ⟨d,A⟩:=hx.right
   unfold lk at A;rw[C] at A;cases A
 | some j=>
 obtain ⟨hi,W⟩:=I8 p;obtain ⟨hj,X⟩:=I8 C;simp only[Yl,Option.isSome_some,↓M1,M1,Mb,reduceIte];simp only[H2];refine Q3G n y z.own Q5 E ok.sm fun v1 w1 σ1 s N=>?_;have q:i<(Qv (Q3 l)).length:=by rw[X22];exact hi
 refine Z1 N q ?_;obtain ⟨u,p1,Y⟩:=Sl.elB N q;refine Y6 s.sat p1 rfl ?_;rw[X3c q] at Y;have D:j<((List.range (Q3 l).length).map fun j=>Jl (Q3 l) (J1 (Q3 l) i) (J1 (Q3 l) j)).length:=by simpa using hj
 refine Z1 Y D ?_;refine Y6 s.sat (Sl.elb Y D) rfl ?_
 (try simp only[↓M1,M1,Mb,reduceIte])
 simp only[List.getElem_map,List.getElem_range,W,X]
 have M:Vd (Q3 l) a b=Jl (Q3 l) a b:=by
  obtain ⟨ca,R,_⟩:=Vp p;rw[Bool.eq_iff_iff,z.sub_class R,Lp,Q3F];constructor
  .rintro (⟨hx,_⟩ | hx)
   .exact absurd hx e
   .exact hx
  .exact .inr
 rw[<-M];exact h _ _ s)
end Go.Proofs.Y
namespace Go.Emb
open Go.RowKit Go.Hm
def D6 (σ:Q2) (x:List Cla×Int×List Cel) (ds:List Value):Prop:= ∃b a,ds=[b,I x.2.1,a]/\Sl 8 M8 σ b x.1/\Sl 2 Xi σ a x.2.2
instance:Rep D6:=⟨fun hk ⟨lv,cv,h1,h2,h3⟩=>⟨lv,cv,h1,h2.le hk,h3.le hk⟩,fun ⟨lv,cv,h1,h2,h3⟩ u hu=>by
 rw[h1] at hu;simp at hu;rcases hu with rfl | rfl | rfl
 .exact Xp h2
 .rfl
 .exact Xp h3⟩
theorem U9 {σ σ':Q2} {x:List Cla×Int×List Cel} {cs:List Value} (h:D6 σ x cs) (k:SLe σ σ'):D6 σ' x cs:=Rep.up k.le h
theorem D6.out {σ:Q2} {l:List Cla} {room:Int} {cs:List Cel} {ds:List Value} (h:D6 σ (l,room,cs) ds): ∃b a,ds=[b,I room,a]/\Sl 8 M8 σ b l/\Sl 2 Xi σ a cs:=h
end Go.Emb
namespace Go.Proofs.Y
open Go.Emb Go.RowKit Go.Kd Go.Hm
variable {w w' : World} {K : Value -> World -> Prop} {σ σ' : Q2} {ds : List Value} {room : Int} {cs : List Cel} {l : List Cla}
theorem X4d {k:X2} (O:X7 w σ) (h: ∀w' σ',Stp w σ w' σ'->K (.agg [I (H5 k).sort,I (H5 k).n,S (H5 k).s,I (H5 k).ref].toArray) w'):Q0 P F.b0 [S k] w K:=Q2q (by
 unfold Sb;simp only[N0];unfold V5;refine D3 O fun b w1 σ1 W t v=>?_;have hB:=C6 W (Stp.refl O);refine N3 (cells:= #[I 0,I 0,S [],I 0]) X8 ?_;refine D3 t.sat fun A w2 M D u y=>?_;have C:=t.trans u;have j:=C6 D t;have o:b≠A:=by have:=v.lt;omega
 refine Vk (ds:=[I 0,I 0,S [],I 0]) y rfl rfl (by rw[List.all_toArray];exact List.all_eq_true.2 Bm) fun Z Q a=>?_
 have m:=Q.stp C j y.1;have c:=(v.up u).upd Q o
 have g: ∀(n:Int) (f:World),Y8 M f A [I n,I 0,S [],I 0]->Y8 M f b [I 0,I 0,S [],I 0]->Stp w σ f M->(∀w' σ',Stp w σ w' σ'->K (.agg [I n,I 0,S [],I 0].toArray) w')->Q6 P T.d (.pointer (some ⟨A,0,none⟩)) f fun L w=>
  J9 P T.d (.pointer (some ⟨b,0,none⟩)) L w fun _u w=>
  J5 P T.d (.pointer (some ⟨b,0,none⟩)) w fun Y=>K Y w:=fun n f r p V U=>
  Bq r rfl (Qs p V hB rfl rfl Bm fun w5 E H=>M4 H rfl (U _ _ E.stp))
 have R:decide (k=[105,110,116])=decide (k=Yz):=rfl;have N:decide (k=[98,111,111,108])=decide (k=Wi):=rfl;have B:decide (k=[116,101,120,116])=decide (k=B8):=rfl;unfold H5 at h;refine M9 ?_;refine Qu ?_;rw[R]
 by_cases p:k=Yz
 .simp only[if_pos p] at h
  have X:decide (k=Wi)=false:=by subst p;decide
  have J:decide (k=B8)=false:=by subst p;decide
  rw[decide_eq_true p];refine Z3 ?_;refine J4 ?_;refine Yj (i:=0) a U5 rfl rfl fun f q e=>?_;intro d;refine M9 ?_;refine Qu ?_;rw[N,X];refine Z7 ?_;intro d;refine M9 ?_;refine Qu ?_;rw[B,J];refine Z7 ?_;intro d;exact g 1 f e (c.upd q o) (q.stp m j a.1) h
 simp only[if_neg p] at h;rw[decide_eq_false p];refine Z7 ?_;intro d;refine M9 ?_;refine Qu ?_;rw[N]
 by_cases r:k=Wi
 .simp only[if_pos r] at h
  have J:decide (k=B8)=false:=by subst r;decide
  rw[decide_eq_true r];refine Z3 ?_;refine J4 ?_;refine Yj (i:=0) a U5 rfl rfl fun f q e=>?_;intro d;refine M9 ?_;refine Qu ?_;rw[B,J];refine Z7 ?_;intro d;exact g 2 f e (c.upd q o) (q.stp m j a.1) h
 simp only[if_neg r] at h;rw[decide_eq_false r];refine Z7 ?_;intro d;refine M9 ?_;refine Qu ?_;rw[B]
 by_cases z:k=B8
 .simp only[if_pos z] at h
  rw[decide_eq_true z];refine Z3 ?_;refine J4 ?_;refine Yj (i:=0) a U5 rfl rfl fun f q e=>?_;intro d;exact g 3 f e (c.upd q o) (q.stp m j a.1) h
 .simp only[if_neg z] at h
  rw[decide_eq_false z];refine Z7 ?_;intro d;exact g 0 Z a c m h)
theorem X4b (o:X7 w σ) (hh:D6 σ (l,room,cs) ds) (k:0<=D0 room cs) (v:room<=1048576) (h: ∀w' σ',Stp w σ w' σ'->K (I (D0 room cs)) w'):Q0 P F.aZ [.agg ds.toArray] w K:=Q2p (by
 obtain ⟨D,s,rfl,B,m⟩:=D6.out hh;unfold Sa Y1 Y0 X4 X5;refine Z4 o fun q w1 σ1 g j=>?_;have c:=g.sat;have b:=m.up g;refine J4 ?_;refine ld c j rfl ?_;unfold D0 at h k;refine C4 cs.length (fun n x w'=>w'=w1/\x=I (room-U4 (cs.take n))) ⟨rfl,by simp[U4]⟩ fun n x J d C i=>?_
 obtain ⟨rfl,rfl⟩:=i;have e:U4 cs=U4 (cs.take n)+U4 (cs.drop n):=by rw[<-Zu,List.take_append_drop]
 have y:=C0 (cs.take n);have z:=C0 (cs.drop n);refine J4 ?_;refine ld c j rfl ?_;refine Q7 b ?_;refine J0 ?_;refine Q4 (fun f=>?_) (fun f=>?_)
 .have a:n<cs.length:=by simpa using f
  obtain ⟨H,p,r,E⟩:=Sl.elO b a;refine J4 ?_;refine ld c j rfl ?_;refine Z1 b a ?_;refine J4 ?_;refine ld c p rfl ?_;refine Q7 r ?_
  have t:U4 (cs.drop n)=(1+(cs[n].vals.length:Int))+U4 (cs.drop (n+1)):=by
   rw[List.drop_eq_getElem_cons a];simp only[U4,List.map_cons,List.sum_cons]
  have A:=C0 (cs.drop (n+1))
  have u:U4 (cs.take (n+1))=U4 (cs.take n)+(1+(cs[n].vals.length:Int)):=by
   rw[List.take_add_one,List.getElem?_eq_getElem a,Zu];simp[U4]
  refine Zd ⟨by omega,by omega⟩ ?_
  refine Vs ⟨by omega,by omega⟩ ?_
  refine R5 ?_;refine V2 b.max a ⟨rfl,?_⟩
  congr 1;omega
 .have a: ¬n<cs.length:=by simpa using f
  rw[List.take_of_length_le Q5];exact h _ _ g)
theorem X4c {n:X2} {j:Value} (g:X7 w σ) (e:Sl 8 M8 σ j l) (h:K (.bool (Yq l n)) w):Q0 P F.bf [j,S n] w K:=Ts (by
 unfold Nv Z8 X6 X4;refine Xa g e ?_;refine A0 ?_;rw[Yl];unfold Yq at h;cases b:lk l n with
 | none=>
  rw[b] at h;rw[find_none b];simp only[Option.isSome_none,↓M1,M1,Mb,reduceIte];exact h
 | some c=>
  rw[b] at h;obtain ⟨_,_,i,o,f⟩:=O9 b;obtain ⟨a,d⟩:=List.getElem?_eq_some_iff.1 f;obtain ⟨p,m,q,k,_⟩:=e.elC a;rw[d] at k;rw[o];simp only[Option.isSome_some,H2,↓M1,M1,Mb,reduceIte];refine Z1 e a ?_
  (try simp only[↓M1,M1,Mb,reduceIte])
  refine ld g k rfl ?_
  (try simp only[↓M1,M1,Mb,reduceIte])
  exact h)
theorem X1D {r i:Int} (t:X7 w σ) (hh:D6 σ (l,room,cs) ds) (h: ∀w' σ',Stp w σ w' σ'->K (I (C7 cs r i)) w'):Q0 P F.aO [.agg ds.toArray,I r,I i] w K:=Q1r (by
 obtain ⟨A,y,rfl,z,c⟩:=D6.out hh;unfold Hi Z8 X6 Y0 X4 X5;refine Z4 t fun q w1 σ1 a p=>?_;have d:=a.sat;have k:=c.up a;refine J0 ?_;unfold C7 at h
 have b:M5 cs r=false->K (I 92) w1:=fun e=>by
  have:=h _ _ a;rw[e] at this;exact this
 by_cases m:r<0
 .rw[decide_eq_true m]
  (try simp only[↓M1,M1,Mb,reduceIte])
  exact b (by simp only[M5,Bool.and_eq_false_iff,decide_eq_false_iff_not];left;omega)
 rw[decide_eq_false m]
 (try simp only[↓M1,M1,Mb,reduceIte])
 refine ld d p rfl ?_;refine Q7 k ?_;refine A0 ?_
 (try simp only[↓M1,M1,Mb,reduceIte])
 by_cases n:(cs.length:Int)<=r
 .rw[decide_eq_true n]
  refine Z3 ?_;exact b (by simp only[M5,Bool.and_eq_false_iff,decide_eq_false_iff_not];right;omega)
 rw[decide_eq_false n];refine Z7 ?_;have s:M5 cs r=true:=by simp only[M5,Bool.and_eq_true,decide_eq_true_eq];omega
 obtain ⟨j,rfl,g⟩:=W9.1 s;rw[s,L4 g] at h;obtain ⟨B,u,v,_⟩:=Sl.elO k g
 by_cases o:i<0
 .rw[decide_eq_true o]
  (try simp only[↓M1,M1,Mb,reduceIte])
  have:=h _ _ a;rw[if_pos rfl,if_neg Q5] at this;exact this
 .rw[decide_eq_false o]
  (try simp only[↓M1,M1,Mb,reduceIte])
  refine ld d p rfl ?_;refine Z1 k g ?_
  (try simp only[↓M1,M1,Mb,reduceIte])
  refine ld d u rfl ?_;refine Q7 v ?_;refine A0 ?_
  (try simp only[↓M1,M1,Mb,reduceIte])
  have f:=h _ _ a;refine Q4 (fun c=>?_) (fun c=>?_)
  .have c:(cs[j].vals.length:Int)<=i:=by simpa using c
   rw[if_pos rfl,if_neg Q5] at f;exact f
  .have c: ¬(cs[j].vals.length:Int)<=i:=by simpa using c
   rw[if_pos rfl,if_pos Q5] at f;exact f)
theorem X95 {r i:Int} (M:X7 w σ) (hh:D6 σ (l,room,cs) ds) (h: ∀w' σ',Stp w σ w' σ'->K (.tuple #[.agg [I (Na cs r i).sort,I (Na cs r i).n,S (Na cs r i).s,I (Na cs r i).ref].toArray,I (C7 cs r i)]) w'):Q0 P F.c2 [.agg ds.toArray,I r,I i] w K:=Q3A (by
 have y:=hh;obtain ⟨W,U,rfl,V,L⟩:=D6.out hh;unfold Bd Y1 V1 X4;refine Z4 M fun q w0 σ0 g C=>?_;refine D3 g.sat fun b w1 σ1 J a B=>?_;have t:=g.trans a;have hB:=C6 J g;have v:=C.up a;refine Y7 a.sat v rfl ?_;refine X1D a.sat (U9 y ⟨t.le⟩) fun Y Z c=>?_;have d:=t.trans c;have o:=c.sat;have u:=B.up c;have D:=v.up c;refine P8 ?_;unfold Na at h
 by_cases p:C7 cs r i=0
 .have e:decide (C7 cs r i=0)=true:=decide_eq_true p
  rw[if_pos p,p] at h;simp only[e,Bool.not_true,↓M1,M1,Mb,reduceIte];obtain ⟨j,m,rfl,rfl,z,A⟩:=Dr p;rw[L4 z,Int.toNat_natCast] at h;have E:=L.up d;obtain ⟨X,N,H,_⟩:=Sl.elO E z;obtain ⟨O,Q⟩:=Sl.elV H A;refine ld o D rfl ?_;refine Z1 E z ?_
  (try simp only[↓M1,M1,Mb,reduceIte])
  refine ld o N rfl ?_;refine Z1 H A ?_;refine Y7 o O rfl ?_;refine Qs u d hB rfl rfl (Rep.one Q) fun R f k=>?_;refine M4 k rfl ?_;have e:cs[j].vals.getD m Val.zero=cs[j].vals[m]:=by rw[List.getD_eq_getElem?_getD,List.getElem?_eq_getElem A];rfl
  rw[e] at h;exact h _ _ f.stp
 .have e:decide (C7 cs r i=0)=false:=by simpa using p
  rw[if_neg p] at h;simp only[e,Bool.not_false,↓M1,M1,Mb,reduceIte];refine N3 (cells:= #[I 0,I 0,S [],I 0]) X8 ?_;refine Qs (ds:=[I 0,I 0,S [],I 0]) u d hB rfl rfl Bm fun R f k=>?_;refine M4 k rfl ?_;exact h _ _ f.stp)
theorem X8p (s:X7 w σ) (hh:D6 σ (l,room,cs) ds) (ok:Ok l) (f:l.length<=1000) {k:X2} {u:Value} {i:Nat} (p:k.length<=W6) (j:elem k=[]->i<(U6 l k).length)
 (h: ∀w' σ',Stp w σ w' σ'->K (S (Wl l k i)) w'):Q0 P F.bM [.agg ds.toArray, .agg [S k,u].toArray,I i] w K:=Q2r (by
 obtain ⟨z,v,rfl,r,y⟩:=D6.out hh;unfold Sc Y1 V5;refine Z4 s fun A w0 σ0 c m=>?_;refine Z4 c.sat fun q w1 σ1 a n=>?_;have b:=c.trans a;refine J4 ?_;refine ld (i:=0) a.sat n rfl ?_;refine Q9R k (Nat.le_trans p W3) ?_;refine Jn ?_;unfold Wl at h
 by_cases e:elem k=[]
 .simp only[if_pos e] at h
  rw[decide_eq_true e]
  (try simp only[↓M1,M1,Mb,reduceIte])
  refine ld (i:=0) a.sat (m.up a) rfl ?_;refine ld (i:=0) a.sat n rfl ?_;refine Gf a.sat (r.up b) ok.acy f ok.sm fun B C D d g=>?_;refine Z1 g (j e) ?_;obtain ⟨t,_⟩:=g.elF (j e)
  (try simp only[↓M1,M1,Mb,reduceIte])
  refine ld d.sat t rfl ?_;have o:(U6 l k).getD i Fld.zero=(U6 l k)[i]'(j e):=by rw[List.getD_eq_getElem?_getD,List.getElem?_eq_getElem (j e)];rfl
  rw[o] at h;exact h _ _ (b.trans d)
 .simp only[if_neg e] at h
  rw[decide_eq_false e]
  (try simp only[↓M1,M1,Mb,reduceIte])
  exact h _ _ b)
theorem X8U {ok:X2->Bool} {b d:Int} {c:X2}:Qd ok cs ⟨0,b,c,d⟩=if b=0/\c=[]/\d=0 then G4 else []:=by
 simp[Qd,Val.zero]
theorem X8V {ok:X2->Bool} {b d:Int} {c:X2}:Qd ok cs ⟨1,b,c,d⟩=if c=[]/\d=0 then Yz else []:=by
 simp[Qd,Val.zero]
theorem X8W {ok:X2->Bool} {b d:Int} {c:X2}:Qd ok cs ⟨2,b,c,d⟩=if (c=[]/\d=0)/\(b=0\/b=1) then Wi else []:=by
 simp[Qd,Val.zero]
theorem X8X {ok:X2->Bool} {b d:Int} {c:X2}:Qd ok cs ⟨3,b,c,d⟩=if (b=0/\d=0)/\ok c=true then B8 else []:=by
 simp[Qd,Val.zero]
theorem X8Y {ok:X2->Bool} {b d:Int} {c:X2}:Qd ok cs ⟨4,b,c,d⟩=if b=0/\c=[] then L5 cs d else []:=by
 simp[Qd,Val.zero]
theorem X8Z {ok:X2->Bool} {a b d:Int} {c:X2} (e:a≠0) (f:a≠1) (g:a≠2) (h:a≠3) (i:a≠4):Qd ok cs ⟨a,b,c,d⟩=[]:=by
 simp[Qd,Val.zero,e,f,g,h,i]
set_option maxHeartbeats 2000000 in
theorem X5v {v:Val} (hs:X7 w σ) (hh:D6 σ (l,room,cs) ds) (hb:v.s.length<=W6) (h: ∀w' σ',Stp w σ w' σ'->K (S (Qd W4 cs v)) w'):Q0 P F.aI [.agg ds.toArray, .agg [I v.sort,I v.n,S v.s,I v.ref].toArray] w K:=Q4y (by
 obtain ⟨lv,cv,rfl,hl,hc⟩:=D6.out hh;unfold Fb Z8 Y1 X6 Y0 X4 V5 X5;refine Z4 hs fun q0 w0 σ0 L C=>?_;refine Z4 L.sat fun q w1 σ1 E t=>?_;have f:=L.trans E;have g:=E.sat;have C:=C.up E;have Z:=hc.up f
 have k: ∀{w2:World} {σ2:Q2} {x:X2},Stp w σ w2 σ2->Qd W4 cs v=x->K (S x) w2:=fun hS e=>by
  have:=h _ _ hS;rw[e] at this;exact this
 obtain ⟨a,b,c,d⟩:=v;simp only at hb t;have M: ∀r,M5 cs r=false->L5 cs r=[]:=fun r e=>by unfold L5;rw[e];rfl
 refine J4 ?_;refine ld g t rfl ?_;refine B1 ?_
 have B: ∀{A:Value->World->Prop},(∀p:Bool,p=(decide (d=0)&&decide (c=[]))->A (.bool p) w1)->Q1 (.bool (decide (d=0))) true w1 (fieldAddr P T.d (.pointer (some q)) 2) (fun aa w=>
  Q1 (.bool (decide (d=0))) true w (Q6 P T.b aa) fun ab w=>
  Q1 (.bool (decide (d=0))) true w (Z9 P .eql T.b (.tmp 11) (.const (.string ⟨#[]⟩)) ab (.string ⟨#[]⟩)) fun ac w=>
  pick P (.bool (decide (d=0))) ac (.bool false) w A):=fun {A} hA=>by
  cases hd:decide (d=0) with
  | false=>(try simp only[↓M1,M1,Mb,reduceIte]);exact hA false (by simp[hd])
  | true=>
   (try simp only[↓M1,M1,Mb,reduceIte])
   refine ld g t rfl ?_
   (try simp only[↓M1,M1,Mb,reduceIte])
   exact hA _ (by simp[hd])
 refine B fun p hp=>?_;refine Yu (fun _ w'=>Stp w σ w' σ1/\Qd W4 cs ⟨a,b,c,d⟩=[]) ?_ (fun _ d' w' hz=>k hz.1 hz.2);refine J4 ?_;refine ld (i:=0) g t rfl ?_;refine B1 ?_;have z:(p=true)↔(c=[]/\d=0):=by rw[hp];simp[and_comm]
 have H:p=false-> ¬(c=[]/\d=0):=fun e h=>by rw[z.2 h] at e;cases e
 by_cases Q:a=0
 .subst Q
  rw[X8U] at*;rw[decide_eq_true rfl];refine Z3 ?_;cases o:p with
  | false=>
   (try simp only[↓M1,M1,Mb,reduceIte])
   exact ⟨f,if_neg fun e=>H o e.2⟩
  | true=>
   have y:=z.1 o
   (try simp only[↓M1,M1,Mb,reduceIte])
   refine ld g t rfl ?_
   (try simp only[↓M1,M1,Mb,reduceIte])
   by_cases m:b=0
   .rw[decide_eq_true m]
    (try simp only[↓M1,M1,Mb,reduceIte])
    exact k f (if_pos ⟨m,y⟩)
   .rw[decide_eq_false m]
    (try simp only[↓M1,M1,Mb,reduceIte])
    exact ⟨f,if_neg fun e=>m e.1⟩
 rw[decide_eq_false Q];refine Z7 ?_;refine B1 ?_
 by_cases R:a=1
 .subst R
  rw[X8V] at*;rw[decide_eq_true rfl];refine Z3 ?_;cases o:p with
  | false=>exact Z7 ⟨f,if_neg (H o)⟩
  | true=>exact Z3 (k f (if_pos (z.1 o)))
 rw[decide_eq_false R];refine Z7 ?_;refine B1 ?_
 by_cases U:a=2
 .subst U
  rw[X8W] at*;rw[decide_eq_true rfl];refine Z3 ?_;cases o:p with
  | false=>
   (try simp only[↓M1,M1,Mb,reduceIte])
   exact ⟨f,if_neg fun e=>H o e.1⟩
  | true=>
   have y:=z.1 o
   (try simp only[↓M1,M1,Mb,reduceIte])
   refine ld g t rfl ?_
   (try simp only[↓M1,M1,Mb,reduceIte])
   by_cases m:b=0
   .rw[decide_eq_true m]
    (try simp only[↓M1,M1,Mb,reduceIte])
    exact k f (if_pos ⟨y, .inl m⟩)
   .rw[decide_eq_false m]
    (try simp only[↓M1,M1,Mb,reduceIte])
    refine ld g t rfl ?_
    (try simp only[↓M1,M1,Mb,reduceIte])
    by_cases N:b=1
    .rw[decide_eq_true N]
     (try simp only[↓M1,M1,Mb,reduceIte])
     exact k f (if_pos ⟨y, .inr N⟩)
    .rw[decide_eq_false N]
     (try simp only[↓M1,M1,Mb,reduceIte])
     exact ⟨f,if_neg fun e=>e.2.elim m N⟩
 rw[decide_eq_false U];refine Z7 ?_;refine B1 ?_
 by_cases V:a=3
 .subst V
  rw[X8X] at*;rw[decide_eq_true rfl];refine Z3 ?_;refine J4 ?_;refine ld g t rfl ?_;refine B1 ?_
  by_cases m:b=0
  case neg=>
   rw[decide_eq_false m]
   (try simp only[↓M1,M1,Mb,reduceIte])
   exact ⟨f,if_neg fun e=>m e.1.1⟩
  rw[decide_eq_true m]
  (try simp only[↓M1,M1,Mb,reduceIte])
  refine ld g t rfl ?_
  (try simp only[↓M1,M1,Mb,reduceIte])
  by_cases u:d=0
  case neg=>
   rw[decide_eq_false u]
   (try simp only[↓M1,M1,Mb,reduceIte])
   exact ⟨f,if_neg fun e=>u e.1.2⟩
  rw[decide_eq_true u]
  (try simp only[↓M1,M1,Mb,reduceIte])
  refine ld g t rfl ?_;refine Q0c Z2 ?_;refine Q8u ?_
  by_cases D:c.length<=4096
  case neg=>
   rw[decide_eq_false (show¬(c.length:Int)<=4096 by omega)]
   (try simp only[↓M1,M1,Mb,reduceIte])
   exact ⟨f,if_neg fun e=>D (by have:=e.2;simp only[W4,Bool.and_eq_true,decide_eq_true_eq] at this;exact this.1)⟩
  rw[decide_eq_true (show (c.length:Int)<=4096 by omega)]
  (try simp only[↓M1,M1,Mb,reduceIte])
  refine ld g t rfl ?_;refine Q7V hb g fun w2 X=>?_;have J:=f.trans (Stp.of_below g X);cases hv:Lib.validD c with
  | true=>
   (try simp only[↓M1,M1,Mb,reduceIte])
   exact k J (if_pos ⟨⟨m,u⟩,by simp[W4,hv,D]⟩)
  | false=>
   (try simp only[↓M1,M1,Mb,reduceIte])
   exact ⟨J,if_neg fun e=>by have:=e.2;simp[W4,hv] at this⟩
 rw[decide_eq_false V];refine Z7 ?_;refine B1 ?_
 by_cases W:a=4
 case neg=>
  rw[decide_eq_false W];exact Z7 ⟨f,X8Z Q R U V W⟩
 subst W;rw[X8Y] at*;rw[decide_eq_true rfl];refine Z3 ?_;refine J4 ?_;refine ld g t rfl ?_;refine B1 ?_
 by_cases m:b=0
 case neg=>
  rw[decide_eq_false m]
  (try simp only[↓M1,M1,Mb,reduceIte])
  exact ⟨f,if_neg fun e=>m e.1⟩
 rw[decide_eq_true m]
 (try simp only[↓M1,M1,Mb,reduceIte])
 refine ld g t rfl ?_
 (try simp only[↓M1,M1,Mb,reduceIte])
 by_cases D:c=[]
 case neg=>
  rw[decide_eq_false D]
  (try simp only[↓M1,M1,Mb,reduceIte])
  exact ⟨f,if_neg fun e=>D e.2⟩
 rw[decide_eq_true D]
 (try simp only[↓M1,M1,Mb,reduceIte])
 refine ld g t rfl ?_;refine A0 ?_;rw[if_pos ⟨m,D⟩] at*
 by_cases u:0<=d
 case neg=>
  rw[decide_eq_false u]
  (try simp only[↓M1,M1,Mb,reduceIte])
  exact ⟨f,M d (by simp[M5,u])⟩
 rw[decide_eq_true u]
 (try simp only[↓M1,M1,Mb,reduceIte])
 refine ld g t rfl ?_;refine ld g C rfl ?_;refine Q7 Z ?_;refine J0 ?_
 (try simp only[↓M1,M1,Mb,reduceIte])
 by_cases O:d<(cs.length:Int)
 case neg=>
  rw[decide_eq_false O];exact Z7 ⟨f,M d (by simp[M5,O])⟩
 rw[decide_eq_true O];refine Z3 ?_;obtain ⟨j,rfl,Y⟩:=W9.1 (show M5 cs d=true by simp[M5,u,O])
 obtain ⟨vv,p1,p2,_⟩:=Sl.elO Z Y;refine ld g C rfl ?_;refine ld g t rfl ?_;refine Z1 Z Y ?_
 (try simp only[↓M1,M1,Mb,reduceIte])
 refine ld g p1 rfl ?_;exact k f (Qn Y))
end Go.Proofs.Y
namespace Go.Emb
open Go.RowKit Go.Hm
variable {α : Type} {P : Program} {R R' : Q2 -> α -> List Value -> Prop} {sz : Nat} {e : TypeId} {σ σ0 σ' : Q2} {v u : Value} {xs ys : List α} {w w0 w' : World} {K : Value -> World -> Prop}
theorem X4I {t B:TypeId} {p:Nat} {z:Value} {cs:List Bool} [ts:TS P t e] [tz:TZ P e sz p z] [hr:Rep R] [hr':Rep R'] (D:Stp w0 σ0 w σ) (ha:W7 w0.heap.size e sz R σ w v xs) (M:X7 w σ') (W:Sl sz R' σ' u ys) (hR: ∀x cs,R' σ' x cs->R σ x cs) (O:(z.cells.size==sz&&decide (0<sz))=true)
 (hb:(xs.length+ys.length)*p<=140737488355328) (hm:xs.length+ys.length<=9223372036854775807)
 (h: ∀f w',w.grownBy w' v.ownBlock->Stp w0 σ0 w' σ->W7 w0.heap.size e sz R σ w' f (xs++ys)->(f.ownBlock=v.ownBlock\/ ∀k,f.ownBlock=some k->w.heap.size<=k)->K f w'):V0 P .append [t,t] B cs [v,u] w K:=by
 obtain ⟨cells,y,U,h3⟩:=ha;obtain ⟨a,m,c,rfl,X,Y,n3,n4,n5⟩:=W.cells M;obtain ⟨i,J,N,E,s⟩:=tz.info
 have q: ∀f w',(Builtin.append_ #[t,t] B #[v, .slice a ys.length m]).run P w= .ok f w'->w'.ownsRow w0.heap.size e sz f (xs.length+ys.length) (cells++c)->w.grownBy w' v.ownBlock->(f.ownBlock=v.ownBlock\/f.ownBlock=some w.heap.size)->V0 P .append [t,t] B cs [v, .slice a ys.length m] w K:=by
  intro f w' A d n hat
  have r:(builtin .append #[t,t] B cs.toArray #[v, .slice a ys.length m]).run P w= .ok (.value f) w':=by
   simp[builtin,A]
  unfold V0;rw[Yw];unfold Yd;rw[r];refine h f w' n (Stp.turn n D fun k o=>⟨(y.lt k o).1,U k o⟩) ⟨cells++c,by rw[List.length_append];exact d,?_,?_⟩ ?_
  .intro k o
   rcases hat with hat | hat
   .exact U k (hat▸o)
   .rw[hat] at o;cases o;exact D.sat.none (Nat.le_refl _)
  .intro j x C
   by_cases V:j<xs.length
   .rw[List.getElem?_append_left V] at C
    rw[Oq cells c xs.length j y.1 V];exact h3 j x C
   .rw[List.getElem?_append_right Q5] at C
    have:=hR _ _ (n5 _ _ C);rw[show j*sz=cells.length+(j-xs.length)*sz by rw[y.1,<-Nat.add_mul];congr 1;omega,List.drop_append]
    simpa [List.drop_eq_nil_of_le] using this
  .rcases hat with hat | hat
   .exact .inl hat
   .right;intro k o;rw[hat] at o;cases o;exact Nat.le_refl _
 simp only[Bool.and_eq_true,beq_iff_eq,decide_eq_true_eq] at O;cases a with
 | some b=>
  obtain ⟨f,w',g1,g2,g3,_,g5⟩:=run_append_own_at (P:=P) w w0.heap.size t B e i z sz p ts.h J s N E O.1 O.2 v xs.length cells y b ys.length m c Y (n3 b rfl) n4 (by simp only[maxLen];omega) hb D.bel.size
  exact q f w' g1 g2 g3 g5
 | none=>
  have hy:ys=[]:=List.eq_nil_of_length_eq_zero (by obtain ⟨a',Q,e',q1,_,q3,_⟩:=W;injection e' with _ e2 e3;have:=X rfl;subst e3;omega)
  have H:=X rfl;subst hy H;have hn:c=[]:=List.eq_nil_of_length_eq_zero (by simpa using Y)
  subst hn;have d:=y
  rcases y.2 with ⟨rfl,h0⟩ | ⟨g,m,Z,rfl,ak,hg,L,_⟩
  .refine q (.slice none 0 0) w ?_ (by simpa using d) (World.grownBy.refl w _) (.inl rfl)
   simp[Builtin.append_,run_underlying ts.h,sizeOf,typeInfo,J,Builtin.lenOf,Builtin.firstCells]
  .refine q _ w ?_ (by simpa using d) (World.grownBy.refl w _) (.inl rfl)
   simp[Builtin.append_,run_underlying ts.h,sizeOf,typeInfo,J,Builtin.lenOf,Builtin.firstCells,L,storeCells]
def Q8w {α:Type} (c:α) (ds:List Value) (_:Q2) (x:α) (cs:List Value):Prop:=x=c/\cs=ds/\ ∀u∈ds,u.oneCell'=true
instance {α:Type} (c:α) (ds:List Value):Rep (Q8w c ds):=⟨fun _ h=>h,fun h u hu=>h.2.2 u (h.2.1▸hu)⟩
end Go.Emb
namespace Go.Proofs.Y
open Go.Emb Go.RowKit Go.Kd Go.Hm
variable {w w' : World} {K : Value -> World -> Prop} {σ σ' : Q2} {ds : List Value} {room : Int} {cs : List Cel} {l : List Cla}
theorem X0E {b:Value} (d:Sl 2 Xi σ b cs) (r:Int):(L5 cs r).length<=W6:=by
 unfold L5
 split
 .rename_i c
  obtain ⟨i,rfl,a⟩:=W9.1 c;rw[L4 a];exact (Sl.elO d a).choose_spec.2.2
 .exact Nat.zero_le _
theorem X5j {a:Value} (b:Sl 2 Xi σ a cs) (v:Val):(Qd W4 cs v).length<=W6:=by
 unfold Qd
 split
 .decide
 split
 .decide
 split
 .decide
 split
 .decide
 split
 .exact X0E b _
 .exact Nat.zero_le _
theorem X8o {v:Val} {k:X2} (D:X7 w σ) (hh:D6 σ (Q3 l,room,cs) ds) (H:Wf l) (ok:Ok (Q3 l)) (j:(Q3 l).length<=1000) (y:v.s.length<=W6) (A:k.length<=W6) (h: ∀w' σ',Stp w σ w' σ'->K (.bool (K3 W4 (Q3 l) cs v k)) w'):Q0 P F.bL [.agg ds.toArray, .agg [I v.sort,I v.n,S v.s,I v.ref].toArray,S k] w K:=Q2o (by
 have o:=hh;obtain ⟨L,J,rfl,B,z⟩:=D6.out hh;unfold Rz Z8 X6 V5;refine Z4 D fun M w0 σ0 g t=>?_;refine Z4 g.sat fun q w1 σ1 c C=>?_;have f:=g.trans c;have d:=c.sat;have m:=t.up c;refine Y7 d m rfl ?_;refine Y7 d C rfl ?_;refine X5v d (U9 o ⟨f.le⟩) y fun N Q a=>?_;have b:=f.trans a;refine Jn ?_;unfold K3 at h;have r:=X5j z v;generalize Qd W4 cs v=E at*
 by_cases e:E=[]
 .rw[decide_eq_true e] at h⊢
  (try simp only[↓M1,M1,Mb,reduceIte])
  exact h _ _ b
 .rw[decide_eq_false e] at h⊢
  (try simp only[↓M1,M1,Mb,reduceIte])
  refine ld (i:=0) a.sat (m.up a) rfl ?_;refine X7h a.sat (B.up b) H ok j r A fun O U p=>?_
  (try simp only[↓M1,M1,Mb,reduceIte])
  exact h _ _ (b.trans p))
theorem Fw {m a:Nat} {c b:Value} {e:Int} {o:List Value} {w1:World} {σ1:Q2} (p:Stp w σ w1 σ1) (g:Y8 σ1 w1 m [c,I room,b]) (j:Y8 σ1 w1 a o) (q:o.length=3) (d:w.heap.size<=a) (n:D6 σ1 (l,room,cs) [c,I room,b]) (h: ∀w' σ',Stp w σ w' σ'->D6 σ' (l,room,cs) [c,I room,b]->K (.tuple #[.agg [c,I room,b].toArray,I e]) w'):
 Q6 P T.a (.pointer (some ⟨m,0,none⟩)) w1 fun k w=>
 J9 P T.a (.pointer (some ⟨a,0,none⟩)) k w fun _u w=>
 J5 P T.a (.pointer (some ⟨a,0,none⟩)) w fun r=>
 K (.tuple #[r,(.int .i64 e)]) w:=
 Bq g rfl (Qs j p d q rfl (Rep.one n) fun s f i=>M4 i rfl (h s σ1 f.stp n))
set_option maxHeartbeats 1000000 in
theorem X4e {p H b7:Nat} {X cv x:Value} {k:X2} {vals:List Val} {zs:List Value} {w1:World} {σ1:Q2} (hS:Stp w σ w1 σ1) (L:Y8 σ1 w1 p [X,I room,cv]) (ag:Y8 σ1 w1 H zs) (a5:Y8 σ1 w1 b7 [S k,x]) (hz:zs.length=3) (aw:w.heap.size<=p) (ax:w.heap.size<=H) (ac:p≠H) (hl:Sl 8 M8 σ1 X l) (hc:Sl 2 Xi σ1 cv cs) (hx:Sl 4 E4 σ1 x vals) (hk:k.length<=W6) (bo:cs.length<=10000000)
 (h: ∀Z w' σ',Stp w σ w' σ'->D6 σ' (l,room,cs++[⟨k,vals⟩]) [X,I room,Z]->K (.tuple #[.agg [X,I room,Z].toArray,I 0]) w'):
 dr w1 fun m E=>
 J3 m (fun s=> ∀w,E w->fieldAddr P T.a (.pointer (some ⟨p,0,none⟩)) 2 w (dk m s w)) fun s=>
 J3 m (fun r=> ∀w,E w->buildSlice P T.g 0 [] w (dk m r w)) fun r=>
 J3 m (fun t=> ∀f w,E w->s f w->Q6 P T.g f w (dk m t w)) fun t=>
 J3 m (fun U=> ∀d g w,E w->r d w->t g w->V0 P .append [T.g,T.g] T.g [false,false] [d,g] w (dk m U w)) fun U=>
 J3 m (fun z=> ∀w,E w->Q6 P T.n (.pointer (some ⟨b7,0,none⟩)) w (dk m z w)) fun z=>
 J3 m (fun W=> ∀i w,E w->z i w->buildSlice P T.g 1 [(0,i)] w (dk m W w)) fun W=>
 ∀f d g O i Q w,E w->s f w->r d w->t g w->U O w->z i w->W Q w->
 V0 P .append [T.g,T.g] T.g [false,false] [O,Q] w fun ba w=>
 fieldAddr P T.a (.pointer (some ⟨p,0,none⟩)) 2 w fun bb w=>
 J9 P T.g bb ba w fun _u w=>
 Q6 P T.a (.pointer (some ⟨p,0,none⟩)) w fun bc w=>
 J9 P T.a (.pointer (some ⟨H,0,none⟩)) bc w fun _u w=>
 J5 P T.a (.pointer (some ⟨H,0,none⟩)) w fun r0=>
 K (.tuple #[r0,(.int .i64 0)]) w:=by
 have a8:=hS.sat;have aj:Xi σ1 ⟨k,vals⟩ [S k,x]:=⟨x,rfl,hx,hk⟩;have bs:x.cells= #[x]:=by obtain ⟨a,c,rfl,_⟩:=hx;rfl
 have a6: ∀{w':World} {K:Value->World->Prop},Hst w1 σ1 w' σ1->K cv w'->Q6 P T.g (.pointer (some ((⟨p,0,none⟩:Addr).add 2))) w' K:=fun N hK=>I1 (L.up N.stp) rfl hK;have a7: ∀{w':World} {K:Value->World->Prop},Hst w1 σ1 w' σ1->K (.agg [S k,x].toArray) w'->Q6 P T.n (.pointer (some ⟨b7,0,none⟩)) w' K:=fun N hK=>Bq (a5.up N.stp) rfl hK;refine U8 a8 ?_
 (repeat refine X0 Vf ?_)
 refine Q5F (R:=Xi) W3 ?_;refine X0 (V:=cv) (fun f w n e=>?_) ?_
 .subst e;exact a6 n (Q8 rfl)
 refine Q3Z (w:=w1) (σ:=σ1) (R:=Xi) (sz:=2) (e:=T.n) cs (fun d g w n aq ar=>?_) ?_
 .obtain ⟨k1,a1,e1⟩:=aq
  subst ar;exact X8t k1 a1 e1 (hc.up n.stp) rfl Q5 Q5 fun v' w' hk ha=>Q5D n hk ha
 refine X0 (V:= .agg [S k,x].toArray) (fun w n=>?_) ?_
 .exact a7 n (Q8 rfl)
 refine Um (w:=w1) (σ:=σ1) (Φ:=fun σ' v=>Sl 2 (Q8w (⟨k,vals⟩:Cel) [S k,x]) σ' v [⟨k,vals⟩]) (fun i w n e=>?_) ?_
 .subst e
  refine P4 (R:=Q8w (⟨k,vals⟩:Cel) [S k,x]) (sz:=2) n.sat [.agg [S k,x].toArray] [⟨k,vals⟩] rfl rfl (by simp[Value.cells]) rfl ⟨⟨rfl,rfl,Rep.one (R:=Xi) aj⟩,trivial⟩ fun v w2 σ2 a4 a9=>Eb n a4 a9
 rintro f d g O i Q w2 bm rfl _ rfl ⟨av,ao⟩ rfl ⟨σ3,k3,s3⟩;refine X4I av ao k3.sat s3 (fun y ds hy=>by obtain ⟨rfl,rfl,_⟩:=hy;exact aj) rfl (by simp;omega) (by simp;omega) fun v3 w3 bp a2 J _=>?_
 have hN:Stp w1 σ1 w3 σ1:=a2;have A:=L.up hN;have ah:=ag.up hN;have ak:=Wr J;refine J4 ?_;refine Yj A U5 ak.1 ak.2 fun Y u4 B=>?_;have ae:=L.lt;have ab:W7 w1.heap.size T.n 2 Xi σ1 Y v3 (cs++[⟨k,vals⟩]):=J.kp (D:=fun j=>j=p) (.of_upd u4 rfl) fun j hj e=>by have:=(J.mem j hj).1;omega
 have C:=ah.upd u4 (fun e=>ac e.symm);have q:Stp w σ Y σ1:=u4.stp (hS.trans hN) aw A.1;have aa:X7 Y σ1:=q.sat;obtain ⟨σ5,s5,l5,f5,o5⟩:=(V6.of_acc ab).freeze aa;have M: ∀j,j<w1.heap.size->σ5 j=σ1 j:=fun j hj=>o5 j fun e=>by have:=(ab.mem j e.symm).1;omega
 have af:Y8 σ5 Y p [X,I room,v3]:=⟨(M p ae).trans B.1,B.2⟩;have ai:Y8 σ5 Y H zs:=⟨(M H ag.lt).trans C.1,C.2⟩;have a3:Stp w σ Y σ5:=⟨q.bel,s5,fun b o e=>l5.le b o (q.le b o e),fun b n=>(M b (Nat.lt_of_lt_of_le n hS.bel.size)).trans (q.old b n)⟩;exact Fw a3 af ai hz ax ⟨X,v3,rfl,hl.lift l5,f5⟩ fun w' σ' hk hr=>h v3 w' σ' hk hr
set_option maxRecDepth 9999 in
set_option maxHeartbeats 1000000 in
theorem X5u {k:X2} (hs:X7 w σ) (hh:D6 σ (l,room,cs) ds) (ok:Ok l) (hlen:l.length<=1000) (hk:k.length<=W6) (h0:0<=D0 room cs) (h1:room<=1048576)
 (h: ∀ds' w' σ',Stp w σ w' σ'->D6 σ' (l,room,(Uu l room cs k).1) ds'->K (.tuple #[.agg ds'.toArray,I (Uu l room cs k).2]) w'):Q0 P F.bm [.agg ds.toArray,S k] w K:=Q04 (by
 have hcl:=Yf cs;obtain ⟨lv,cv,rfl,hl,hc⟩:=D6.out hh;unfold Dm;simp only[Y3,X3,L9,N0];unfold Y1 V3 Y0 X5;refine Rd hs fun b0 w1 σ1 hb0 hk1 hm0=>?_;refine D3 hk1.sat fun b4 w2 σ2 hb4 hk2 hm4=>?_;have hS2:=hk1.trans hk2;have hB4:=C6 hb4 hk1;have hb04:b0≠b4:=by have:=hm0.lt;omega
 have hm02:=hm0.up hk2;have hl2:=hl.up hS2;have hh2:=U9 hh ⟨hS2.le⟩;unfold D0 at h0;refine J4 ?_;refine I1 (i:=0) hm02 rfl ?_;refine X4c hk2.sat hl2 ?_;refine Zv ?_;unfold Uu at h;cases ho:Yq l k with
 | false=>
  rw[ho] at h;simp only[if_pos] at h;refine Z3 ?_;exact Fw hS2 hm02 hm4 rfl hB4 hh2 fun w' σ' hk hr=>h _ w' σ' hk hr
 | true=>
  rw[ho] at h;simp only[Bool.true_eq_false,if_false] at h;refine Z7 ?_;refine J4 ?_;refine I1 (i:=0) hm02 rfl ?_;refine Gf hk2.sat hl2 ok.acy hlen ok.sm fun fv w3 σ3 hk3 hf=>?_;have hS3:=hS2.trans hk3;have hfl:=hf.max;have hfl2:=Q2P ok.sm ok.len k;refine Q7 hf ?_;refine Zd ⟨by omega,by omega⟩ ?_
  refine Bq (hm02.up hk3) rfl ?_;refine X4b hk3.sat (U9 hh2 ⟨hk3.le⟩) (by unfold D0;exact h0) h1 fun w4 σ4 hk4=>?_
  have hk34:=hk3.trans hk4;have hS4:=hS3.trans hk4;have hm04:=hm02.up hk34;have hm44:=hm4.up hk34;have hh4:=U9 hh2 ⟨hk34.le⟩;have hf4:=hf.up hk4;rw[Gj]
  by_cases hg:D0 room cs<1+((U6 l k).length:Int)
  .rw[if_pos hg] at h
   have e:decide (1+((U6 l k).length:Int)>D0 room cs)=true:=decide_eq_true hg;rw[e];refine Z3 ?_;exact Fw hS4 hm04 hm44 rfl hB4 hh4 fun w' σ' hk hr=>h _ w' σ' hk hr
  rw[if_neg hg] at h;have e:decide (1+((U6 l k).length:Int)>D0 room cs)=false:=decide_eq_false hg;rw[e];refine Z7 ?_;unfold D0 at hg;refine N3 (cells:= #[S k, .slice none 0 0]) X8 ?_;refine D3 hk4.sat fun b7 w5 σ5 hb7 hk5 hm7=>?_;have hS5:=hS4.trans hk5;have hB7:=C6 hb7 hS4;refine Vk (ds:=[S k, .slice none 0 0]) hm7 rfl rfl (by rw[List.all_toArray];rfl) fun w6 u6 hm76=>?_
  have hS6:=u6.stp hS5 hB7 hm7.1;have hb07:b0≠b7:=by have:=hm04.lt;omega
  have hb47:b4≠b7:=by have:=hm44.lt;omega
  have hm06:=(hm04.up hk5).upd u6 hb07;have hm46:=(hm44.up hk5).upd u6 hb47;have hf6:=(hf4.up hk5);have hc6:Sl 2 Xi σ5 cv cs:=hc.up hS5;have hl6:Sl 8 M8 σ5 lv l:=hl.up hS5
  refine V7 (U6 l k).length (fun n w'=> ∃σ' x,Stp w σ w' σ'/\SLe σ5 σ'/\Y8 σ' w' b0 [lv,I room,cv]/\Y8 σ' w' b4 _/\Y8 σ' w' b7 [S k,x]/\W7 w.heap.size T.d 4 E4 σ' w' x (((U6 l k).take n).map fun f=>H5 f.kind)/\x.ownBlock≠some b0/\x.ownBlock≠some b4/\x.ownBlock≠some b7)
   ⟨σ5, .slice none 0 0,hS6,SLe.refl _,hm06,hm46,hm76,W7.nil,by simp[Value.ownBlock],by simp[Value.ownBlock],by simp[Value.ownBlock]⟩ fun n w7 d hn hinv=>?_
  obtain ⟨σ7,x,hS7,le7,hm07,hm47,hm77,ha7,hx0,hx4,hx7⟩:=hinv;have hf7:=hf6.lift le7;have hs7:=hS7.sat;refine Q7 hf7 ?_;refine J0 ?_;refine Q4 (fun hcc=>?_) (fun hcc=>?_)
  .have hn':n<(U6 l k).length:=by simpa using hcc
   obtain ⟨p1,r1⟩:=hf7.elF hn';have hrd: ∀{w':World} {K:Value->World->Prop},Hst w7 σ7 w' σ7->K x w'->Q6 P T.l (.pointer (some ((⟨b7,0,none⟩:Addr).add 1))) w' K:=fun hst hK=>I1 (hm77.up hst.stp) rfl hK;refine U8 hs7 ?_
   (repeat (apply X0;(· intros;(repeat (rename_i hx;subst hx));(repeat' (first | (with_reducible exact Q8 rfl) | (with_reducible exact B5 (Stp.bel (by (repeat (first | exact Stp.refl (by (first | assumption | exact Stp.sat Q9 | exact Hst.sat Q9)) | assumption | refine Stp.trans ?_ (by first | assumption | exact Hst.stp Q9))))) rfl) | (with_reducible intro _) | (simp only[↓M2,M2,Mb,reduceIte]) | (with_reducible refine hrd au ?_) | (with_reducible show Q6 _ _ _ _ _;first | refine Y6 aS aL aR ?_ | refine Y7 aS aL aR ?_ | refine ld aS aL aR ?_) | (with_reducible show indexAddr _ _ _ _ _ _;refine Z1 aL au ?_) | (with_reducible show V0 _ _ _ _ _ _ _ _;refine Q7 aL ?_) | (with_reducible show Xj _ _ _ _ _ _;refine W2 aR ?_) | (with_reducible show pick _ _ _ _ _ _;refine F3 ?_) | (with_reducible show Q0 _ _ _ _ _;first | refine X4d au ?_) | (apply Zn;intro hh;(try simp only[hh,reduceIte,↓M2,M2,Mb,reduceIte]))));done)))
   refine Um (w:=w7) (σ:=σ7) (Φ:=fun σ' v=>Sl 4 E4 σ' v [H5 (U6 l k)[n].kind]) (fun t41 w hb e=>?_) ?_
   .subst e
    exact P4 (R:=E4) (sz:=4) hb.sat [_] [H5 (U6 l k)[n].kind] rfl rfl (by simp[Value.cells]) rfl ⟨Q0d _,trivial⟩ fun v w2 σ2 hk2 hv2=>Eb hb hk2 hv2
   rintro t34 t38 t39 t35 t40 t41 t42 w8 hb8 rfl rfl rfl rfl rfl rfl ⟨σ8,hk8,s8⟩;refine X4I (w0:=w) (hS7.trans hb8.stp) (ha7.up hb8.stp) hk8.sat s8 (fun y ds hy=>hy) rfl (by simp;omega) (by simp;omega) fun x9 w9 hg9 hS9 ha9 hat9=>?_
   have hm08:=(hm07.up hb8.stp).turn hg9 fun e=>hx0 e.symm;have hm48:=(hm47.up hb8.stp).turn hg9 fun e=>hx4 e.symm;have hm78:=(hm77.up hb8.stp).turn hg9 fun e=>hx7 e.symm;have hsz:=hb8.stp.bel.size
   have hnew: ∀b,b<w7.heap.size->x.ownBlock≠some b->x9.ownBlock≠some b:=fun b hb hxb e=>by
    rcases hat9 with e2 | e2
    .exact hxb (e2▸e)
    .have:=e2 b e;omega
   have hsh:=Wr ha9;refine J4 ?_;refine Yj hm78 U5 hsh.1 hsh.2 fun w10 u10 hm710=>?_;refine R5 ?_;have hx97:=hnew b7 hm77.lt hx7;refine Z5 hfl hn' ⟨σ7,x9,u10.stp hS9 hB7 hm78.1,le7,hm08.upd u10 hb07,hm48.upd u10 hb47,hm710,?_,hnew b0 hm07.lt hx0,hnew b4 hm47.lt hx4,hx97⟩;have:=ha9.kp (D:=fun j=>j=b7) (.of_upd u10 rfl) fun j hj e=>hx97 (e▸hj);rw[List.take_add_one,List.getElem?_eq_getElem hn',List.map_append];exact this
  .have hn': ¬n<(U6 l k).length:=by simpa using hcc
   rw[List.take_of_length_le Q5] at ha7;obtain ⟨σ9,hS9,hx9,le9,o9⟩:=ha7.keep hS7;have mk: ∀{b:Nat} {zs:List Value},Y8 σ7 w7 b zs->x.ownBlock≠some b->Y8 σ9 w7 b zs:=fun hm hne=>⟨(o9 _ fun e=>hne e.symm).trans hm.1,hm.2⟩;have le59:SLe σ5 σ9:=le7.more ⟨le9⟩;refine X4e hS9 (mk hm07 hx0) (mk hm47 hx4) (mk hm77 hx7) rfl hb0 hB4 hb04 (hl6.lift le59) (hc6.lift le59) hx9 hk Q5 fun cv' w' σ' hk' hr=>h _ w' σ' hk' hr)
set_option maxRecDepth 9999 in
set_option maxHeartbeats 1000000 in
theorem X7c {k:X2} {n:Int} (hs:X7 w σ) (hh:D6 σ (l,room,cs) ds) (hk:k.length<=W6) (h0:0<=D0 room cs) (h1:room<=1048576)
 (h: ∀ds' w' σ',Stp w σ w' σ'->D6 σ' (l,room,(Ws l room cs k n).1) ds'->K (.tuple #[.agg ds'.toArray,I (Ws l room cs k n).2]) w'):Q0 P F.bD [.agg ds.toArray,S k,I n] w K:=Q1q (by
 have hcl:=Yf cs;have htn:=C0 cs;obtain ⟨lv,cv,rfl,hl,hc⟩:=D6.out hh;unfold Hh;simp only[Y3,X3,L9,N0];unfold Z8 X6 X4 V5 X5;refine Rd hs fun b0 w1 σ1 hb0 hk1 hm0=>?_;refine D3 hk1.sat fun b4 w2 σ2 hb4 hk2 hm4=>?_;have hS2:=hk1.trans hk2;have hB4:=C6 hb4 hk1;have hb04:b0≠b4:=by have:=hm0.lt;omega
 have hm02:=hm0.up hk2;have hl2:=hl.up hS2;have hh2:=U9 hh ⟨hS2.le⟩;unfold D0 at h0;unfold Ws at h
 have hbad:Qh l k=false->Q6 P T.a (.pointer (some ⟨b0,0,none⟩)) w2 fun t14 w=>
  J9 P T.a (.pointer (some ⟨b4,0,none⟩)) t14 w fun _u w=>
  J5 P T.a (.pointer (some ⟨b4,0,none⟩)) w fun r0=>
  K (.tuple #[r0,(.int .i64 91)]) w:=fun ho=>by
  rw[ho] at h;simp only[if_pos] at h;exact Fw hS2 hm02 hm4 rfl hB4 hh2 fun w' σ' hk hr=>h _ w' σ' hk hr
 refine Qu ?_
 by_cases hnull:k=G4
 .rw[show decide (k=[110,117,108,108])=true from decide_eq_true hnull]
  (try simp only[F2,O3,G1,V9,D2,E3,H3,F0,I0,Bool.not_true,Bool.not_false])
  exact hbad (by simp[Qh,hnull])
 rw[show decide (k=[110,117,108,108])=false from decide_eq_false hnull]
 (try simp only[F2,O3,G1,V9,D2,E3,H3,F0,I0,Bool.not_true,Bool.not_false])
 refine J4 ?_;refine I1 (i:=0) hm02 rfl ?_;refine Sz hk2.sat hl2 hk ?_;refine Zv ?_;cases hkm:H8 l k with
 | false=>
  (try simp only[F2,O3,G1,V9,D2,E3,H3,F0,I0,Bool.not_true,Bool.not_false])
  exact hbad (by simp[Qh,hkm])
 | true=>
  (try simp only[F2,O3,G1,V9,D2,E3,H3,F0,I0,Bool.not_true,Bool.not_false])
  refine Kf k (Nat.le_trans hk W3) ?_
  have hr:right k=true:=by
   have:=hkm;simp only[H8,Bool.or_eq_true,Bool.and_eq_true,decide_eq_true_eq] at this
   rcases this with h1 | h1
   .exact absurd h1 hnull
   .exact h1.1
  have hdp:Jp k=(base k).2:=by unfold Jp;rw[if_pos hr]
  have hel:Qh l k=decide ((base k).2<=2):=by
   unfold Qh;rw[hkm,decide_eq_false hnull,hdp];rfl
  refine Q4h ?_
  by_cases hd2:(2:Int)<((base k).2:Int)
  .rw[decide_eq_true hd2]
   refine Z3 ?_;exact hbad (by rw[hel,decide_eq_false_iff_not];omega)
  rw[decide_eq_false hd2];refine Z7 ?_;have ho:Qh l k=true:=by rw[hel,decide_eq_true_eq];omega
  rw[ho] at h;simp only[Bool.true_eq_false,if_false] at h;refine J0 ?_
  by_cases hn0:n<0
  .rw[if_pos hn0] at h
   rw[decide_eq_true hn0];refine Z3 ?_;exact Fw hS2 hm02 hm4 rfl hB4 hh2 fun w' σ' hk hr=>h _ w' σ' hk hr
  rw[if_neg hn0] at h;rw[decide_eq_false hn0];refine Z7 ?_;refine Q4h ?_
  have hbad2: ∀{w3 σ3},Stp w2 σ2 w3 σ3->D0 room cs<=n->Q6 P T.a (.pointer (some ⟨b0,0,none⟩)) w3 fun t14 w=>
   J9 P T.a (.pointer (some ⟨b4,0,none⟩)) t14 w fun _u w=>
   J5 P T.a (.pointer (some ⟨b4,0,none⟩)) w fun r0=>
   K (.tuple #[r0,(.int .i64 90)]) w:=fun {w3 σ3} hS hle=>by
   rw[if_pos hle] at h;exact Fw (hS2.trans hS) (hm02.up hS) (hm4.up hS) rfl hB4 (U9 hh2 ⟨hS.le⟩) fun w' σ' hk hr=>h _ w' σ' hk hr
  by_cases hbig:(1048576:Int)<n
  .rw[decide_eq_true hbig]
   (try simp only[F2,O3,G1,V9,D2,E3,H3,F0,I0,Bool.not_true,Bool.not_false])
   exact hbad2 (Stp.refl hk2.sat) (by unfold D0;omega)
  rw[decide_eq_false hbig]
  (try simp only[F2,O3,G1,V9,D2,E3,H3,F0,I0,Bool.not_true,Bool.not_false])
  refine Zd ⟨by omega,by omega⟩ ?_
  refine Bq hm02 rfl ?_;refine X4b hk2.sat hh2 (by unfold D0;exact h0) h1 fun w4 σ4 hk4=>?_
  rw[Gj]
  by_cases hg:D0 room cs<=n
  .rw[show decide (1+n>D0 room cs)=true from decide_eq_true Q5]
   refine Z3 ?_;exact hbad2 hk4 hg
  rw[if_neg hg] at h;rw[show decide (1+n>D0 room cs)=false from decide_eq_false Q5]
  refine Z7 ?_;have hS4:=hS2.trans hk4;have hm04:=hm02.up hk4;have hm44:=hm4.up hk4;obtain ⟨m,rfl⟩:=Int.eq_ofNat_of_zero_le (Int.not_lt.1 hn0);rw[Int.toNat_natCast] at h;unfold D0 at hg;have hr38:=Q05 hr;refine Gi (by simp only[List.length_cons,List.length_nil];omega) ?_
  refine N3 (cells:= #[S (k++[91,93]), .slice none 0 0]) X8 ?_;refine D3 hk4.sat fun b7 w5 σ5 hb7 hk5 hm7=>?_;have hS5:=hS4.trans hk5;have hB7:=C6 hb7 hS4;refine Vk (ds:=[S (k++[91,93]), .slice none 0 0]) hm7 rfl rfl (by rw[List.all_toArray];rfl) fun w6 u6 hm76=>?_
  have hS6:=u6.stp hS5 hB7 hm7.1;have hb07:b0≠b7:=by have:=hm04.lt;omega
  have hb47:b4≠b7:=by have:=hm44.lt;omega
  have hm06:=(hm04.up hk5).upd u6 hb07;have hm46:=(hm44.up hk5).upd u6 hb47;have hc6:Sl 2 Xi σ5 cv cs:=hc.up hS5;have hl6:Sl 8 M8 σ5 lv l:=hl.up hS5
  refine V7 m (fun n w'=> ∃σ' x,Stp w σ w' σ'/\SLe σ5 σ'/\Y8 σ' w' b0 [lv,I room,cv]/\Y8 σ' w' b4 _/\Y8 σ' w' b7 [S (k++[91,93]),x]/\W7 w.heap.size T.d 4 E4 σ' w' x (List.replicate n (H5 k))/\x.ownBlock≠some b0/\x.ownBlock≠some b4/\x.ownBlock≠some b7)
   ⟨σ5, .slice none 0 0,hS6,SLe.refl _,hm06,hm46,hm76,W7.nil,by simp[Value.ownBlock],by simp[Value.ownBlock],by simp[Value.ownBlock]⟩ fun n w7 d hn hinv=>?_
  obtain ⟨σ7,x,hS7,le7,hm07,hm47,hm77,ha7,hx0,hx4,hx7⟩:=hinv;have hs7:=hS7.sat;refine J0 ?_;refine Q4 (fun hcc=>?_) (fun hcc=>?_)
  .have hn':n<m:=by simpa using hcc
   have hrd: ∀{w':World} {K:Value->World->Prop},Hst w7 σ7 w' σ7->K x w'->Q6 P T.l (.pointer (some ((⟨b7,0,none⟩:Addr).add 1))) w' K:=fun hst hK=>I1 (hm77.up hst.stp) rfl hK;refine U8 hs7 ?_
   (repeat (apply X0;(· intros;(repeat (rename_i hx;subst hx));(repeat' (first | (with_reducible exact Q8 rfl) | (with_reducible exact B5 (Stp.bel (by (repeat (first | exact Stp.refl (by (first | assumption | exact Stp.sat Q9 | exact Hst.sat Q9)) | assumption | refine Stp.trans ?_ (by first | assumption | exact Hst.stp Q9))))) rfl) | (with_reducible intro _) | (simp only[↓M2,M2,Mb,reduceIte]) | (with_reducible refine hrd au ?_) | (with_reducible show Q6 _ _ _ _ _;first | refine Y6 aS aL aR ?_ | refine Y7 aS aL aR ?_ | refine ld aS aL aR ?_) | (with_reducible show indexAddr _ _ _ _ _ _;refine Z1 aL au ?_) | (with_reducible show V0 _ _ _ _ _ _ _ _;refine Q7 aL ?_) | (with_reducible show Xj _ _ _ _ _ _;refine W2 aR ?_) | (with_reducible show pick _ _ _ _ _ _;refine F3 ?_) | (with_reducible show Q0 _ _ _ _ _;first | refine X4d au ?_) | (apply Zn;intro hh;(try simp only[hh,reduceIte,↓M2,M2,Mb,reduceIte]))));done)))
   refine Um (w:=w7) (σ:=σ7) (Φ:=fun σ' v=>Sl 4 E4 σ' v [H5 k]) (fun t41 w hb e=>?_) ?_
   .subst e
    exact P4 (R:=E4) (sz:=4) hb.sat [_] [H5 k] rfl rfl (by simp[Value.cells]) rfl ⟨Q0d _,trivial⟩ fun v w2 σ2 hk2 hv2=>Eb hb hk2 hv2
   rintro t46 t47 t49 t50 w8 hb8 rfl rfl rfl ⟨σ8,hk8,s8⟩;refine X4I (w0:=w) (hS7.trans hb8.stp) (ha7.up hb8.stp) hk8.sat s8 (fun y ds hy=>hy) rfl (by simp;omega) (by simp;omega) fun x9 w9 hg9 hS9 ha9 hat9=>?_
   have hm08:=(hm07.up hb8.stp).turn hg9 fun e=>hx0 e.symm;have hm48:=(hm47.up hb8.stp).turn hg9 fun e=>hx4 e.symm;have hm78:=(hm77.up hb8.stp).turn hg9 fun e=>hx7 e.symm;have hsz:=hb8.stp.bel.size
   have hnew: ∀b,b<w7.heap.size->x.ownBlock≠some b->x9.ownBlock≠some b:=fun b hb hxb e=>by
    rcases hat9 with e2 | e2
    .exact hxb (e2▸e)
    .have:=e2 b e;omega
   have hsh:=Wr ha9;refine J4 ?_;refine Yj hm78 U5 hsh.1 hsh.2 fun w10 u10 hm710=>?_;refine R5 ?_;have hx97:=hnew b7 hm77.lt hx7;refine Z5 Q5 hn' ⟨σ7,x9,u10.stp hS9 hB7 hm78.1,le7,hm08.upd u10 hb07,hm48.upd u10 hb47,hm710,?_,hnew b0 hm07.lt hx0,hnew b4 hm47.lt hx4,hx97⟩;have:=ha9.kp (D:=fun j=>j=b7) (.of_upd u10 rfl) fun j hj e=>hx97 (e▸hj);rw[List.replicate_succ'];exact this
  .have hn': ¬n<m:=by simpa using hcc
   have hnm:n=m:=by omega
   subst hnm;obtain ⟨σ9,hS9,hx9,le9,o9⟩:=ha7.keep hS7;have mk: ∀{b:Nat} {zs:List Value},Y8 σ7 w7 b zs->x.ownBlock≠some b->Y8 σ9 w7 b zs:=fun hm hne=>⟨(o9 _ fun e=>hne e.symm).trans hm.1,hm.2⟩;have le59:SLe σ5 σ9:=le7.more ⟨le9⟩;refine X4e hS9 (mk hm07 hx0) (mk hm47 hx4) (mk hm77 hx7) rfl hb0 hB4 hb04 (hl6.lift le59) (hc6.lift le59) hx9 (Nat.le_trans (show (k++[91,93]).length<=40 by simp only[List.length_append,List.length_cons,List.length_nil];omega) W3) Q5 fun cv' w' σ' hk' hr=>h _ w' σ' hk' hr)
end Go.Proofs.Y
namespace Go.Emb
open Go.RowKit Go.Hm
variable {α : Type} {P : Program} {R : Q2 -> α -> List Value -> Prop} {B sz : Nat} {e : TypeId} {σ σ0 : Q2} {v u : Value} {xs : List α} {w w0 w' : World} {K : Value -> World -> Prop}
theorem X6g {t:TypeId} {b:Nat} {z:Value} [TS P t e] [TZ P e sz b z] (h:V6 B e sz R σ w v xs) {n:Nat} (p:n<xs.length) (i:K (.pointer (some (K9 sz v n))) w):indexAddr P t v (I n) w K:=by
 obtain ⟨a,c,rfl,m,o,j,f⟩:=h;obtain ⟨g,k,d,rfl,q⟩:=f Q5;rw[Ih Q5 Q5]
 simpa [K9] using i
theorem V6.elQ (h:V6 B e sz R σ w v xs) {n:Nat} (k:n<xs.length): ∃cs,cs.length=sz/\R σ xs[n] cs/\ ∀j u,cs[j]? =some u->w.cell? ((K9 sz v n).add j)=some u:=by
 obtain ⟨a,c,rfl,q,r,m,i⟩:=h;obtain ⟨g,b,f,rfl,s,t,o,y,p⟩:=i Q5;have hh:n*sz+sz<=c*sz:=by rw[<-Nat.succ_mul];exact Nat.mul_le_mul_right _ Q5
 refine ⟨(f.toList.drop (b+n*sz)).take sz,by rw[List.length_take,List.length_drop,Array.length_toList];omega,p n _ (by simp[k]),fun j u d=>?_⟩
 rw[List.getElem?_take] at d
 split at d
 .rw[List.getElem?_drop] at d
  have e:K9 sz (.slice (some ⟨g,b,none⟩) xs.length c) n=(⟨g,b,none⟩:Addr).add (n*sz):=rfl;rw[e];unfold World.cell?;rw[K0,K0,Za,Za,Qz (Qz rfl _)];simp only[o]
  simpa using d
 .cases d
theorem X9y {t:TypeId} {c:Nat} {z:Value} [tz:TZ P t 1 c z] {b i:Nat} {cs:List Value} {v:Value} (d:w.heap[b]? =some (.cells cs.toArray e (0,0))) (k:i<cs.length) (j:v.cells= #[v]) (g:v.oneCell'=true)
 (h: ∀w',Upd w b w'->w'.heap[b]? =some (.cells (cs.set i v).toArray e (0,0))->K undef w'):J9 P t (.pointer (some ((⟨b,0,none⟩:Addr).add i))) v w K:=by
 unfold J9;have a:(⟨b,0,none⟩:Addr).add i=⟨b,i,none⟩:=by unfold Addr.add;split<;>simp_all
 have:=run_storeCells_at P b i e [v] 0 cs.toArray w d (by simp;omega) (by simpa using g)
 simp only[Nat.add_zero] at this;obtain ⟨m,hh⟩:=Rc (cs:=(cs.set i v).toArray) d
 have f:(List.take i cs.toArray.toList++[v]++List.drop (i+[v].length) cs.toArray.toList).toArray=(cs.set i v).toArray:=by
  rw[<-X1J k];simp
 rw[f] at this;rw[Jy (w':=w.setRow b (cs.set i v).toArray) (by simp[Instr.storeAt,Instr.sureAddr,a,storeVar,E8 tz,j,this])]
 exact h _ m hh
theorem X8B {t:TypeId} {r n c:Nat} {z:Value} {x:α} [tz:TZ P t 1 r z] (V:Stp w0 σ0 w σ) (W:V6 w0.heap.size e sz R σ w v xs) (hn:n<xs.length) (hc:c<sz) (hu:u.cells= #[u]) (U:u.oneCell'=true) (hx: ∀cs,cs.length=sz->R σ xs[n] cs->R σ x (cs.set c u))
 (h: ∀w',Kpt (fun k=>v.ownBlock=some k) w w'->Stp w0 σ0 w' σ->V6 w0.heap.size e sz R σ w' v (xs.set n x)->K undef w'):J9 P t (.pointer (some ((K9 sz v n).add c))) u w K:=by
 obtain ⟨a,f,rfl,M,N,i,O⟩:=W;obtain ⟨g,d,m,rfl,H,C,J,q4,L⟩:=O Q5;have hh:n*sz+sz<=f*sz:=by rw[<-Nat.succ_mul];exact Nat.mul_le_mul_right _ Q5
 have hm:Y8 σ w g m.toList:=⟨C,e,by simpa using J⟩
 have X:=Array.length_toList (xs:=m)
 have Q:(K9 sz (.slice (some ⟨g,d,none⟩) xs.length f) n).add c=(⟨g,0,none⟩:Addr).add (d+n*sz+c):=by
  simp only[K9,Q6z];unfold Addr.add
  split<;>split<;>simp_all<;>omega
 rw[Q];refine X9y (e:=e) (by simpa using J) Q5 hu U fun w' D Y=>?_
 refine h w' (Kpt.of_upd D rfl) (D.stp V H C) ⟨_,f,by rw[List.length_set],by rw[List.length_set];exact M,N,fun b q=>⟨(i b q).1,(i b q).2.1,by rw[D.size];exact (i b q).2.2.1,(i b q).2.2.2⟩,fun _=>⟨g,d,_,rfl,H,C,Y,by simp;omega,fun j y p=>?_⟩⟩
 rw[List.toList_toArray];have o:j<xs.length:=by have:=(List.getElem?_eq_some_iff.1 p).1;simpa using this
 have Z:j*sz+sz<=f*sz:=by rw[<-Nat.succ_mul];exact Nat.mul_le_mul_right _ Q5
 rw[List.drop_set]
 by_cases E:j=n
 .subst E
  rw[List.getElem?_set_self o] at p;cases p;rw[if_neg Q5,List.take_set,show d+j*sz+c-(d+j*sz)=c by omega]
  exact hx _ (by rw[List.length_take,List.length_drop];omega) (L j _ (by simp[o]))
 .rw[List.getElem?_set_ne Q5] at p
  have:=L j y p
  rcases Nat.lt_or_gt_of_ne E with A | hgt
  .have s:j*sz+sz<=n*sz:=by rw[<-Nat.succ_mul];exact Nat.mul_le_mul_right _ A
   rw[if_neg Q5,List.take_set,List.set_eq_of_length_le (by rw[List.length_take];omega)]
   exact this
  .have s:n*sz+sz<=j*sz:=by rw[<-Nat.succ_mul];exact Nat.mul_le_mul_right _ hgt
   rw[if_pos Q5];exact this
end Go.Emb
namespace Go.Proofs.Y
open Go.Emb Go.RowKit Go.Kd Go.Hm
variable {w w' : World} {K : Value -> World -> Prop} {σ σ' : Q2} {ds : List Value} {room : Int} {cs : List Cel} {l : List Cla}
theorem X0e (f:U4 cs<=1048576) {j:Nat} (a:j<cs.length):(cs[j].vals.length:Int)<=1048576:=by
 have e:U4 cs=U4 (cs.take j)+U4 (cs.drop j):=by rw[<-Zu,List.take_append_drop]
 have b:U4 (cs.drop j)=(1+(cs[j].vals.length:Int))+U4 (cs.drop (j+1)):=by
  rw[List.drop_eq_getElem_cons a];simp only[U4,List.map_cons,List.sum_cons]
 have c:=C0 (cs.take j);have d:=C0 (cs.drop (j+1));omega
theorem X99 {d g:Nat} {p cv x:Value} {m:List Cel} {X:List Value} {w0 w1:World} {σ0 σ1:Q2} (Y:Stp w σ w0 σ0) (O:Stp w0 σ0 w1 σ1) (t:Y8 σ1 w1 d [p,I room,cv]) (Q:Y8 σ1 w1 g X) (hz:X.length=3) (H:d<w0.heap.size) (J:g<w0.heap.size) (L:w.heap.size<=d) (M:w.heap.size<=g) (s:d≠g) (hl:Sl 8 M8 σ1 p l) (U:V6 w0.heap.size T.n 2 Xi σ1 w1 x m)
 (h: ∀q w' σ',Stp w σ w' σ'->D6 σ' (l,room,m) [p,I room,q]->K (.tuple #[.agg [p,I room,q].toArray,I 0]) w'):
 J9 P T.g (.pointer (some ((⟨d,0,none⟩:Addr).add 2))) x w1 fun _u w=>
 Q6 P T.a (.pointer (some ⟨d,0,none⟩)) w fun V w=>
 J9 P T.a (.pointer (some ⟨g,0,none⟩)) V w fun _u w=>
 J5 P T.a (.pointer (some ⟨g,0,none⟩)) w fun r0=>
 K (.tuple #[r0,(.int .i64 0)]) w:=by
 have A:x.cells= #[x]/\x.oneCell'=true:=by obtain ⟨a,c,rfl,_⟩:=U;exact ⟨rfl,rfl⟩
 refine Yj t U5 A.1 A.2 fun C W i=>?_;have r:V6 w0.heap.size T.n 2 Xi σ1 C x m:=U.kp (D:=fun j=>j=d) (.of_upd W rfl) fun j hj e=>by have:=(U.mem hj).1;omega
 have k:=Q.upd W (fun e=>s e.symm);have f:Stp w σ C σ1:=W.stp (Y.trans O) L t.1;obtain ⟨E,s5,l5,f5,o5⟩:=r.freeze f.sat;have n: ∀j,j<w0.heap.size->E j=σ1 j:=fun j hj=>o5 j fun e=>by have:=(r.mem e.symm).1;omega
 have y:Y8 E C d [p,I room,x]:=⟨(n d H).trans i.1,i.2⟩;have z:Y8 E C g X:=⟨(n g J).trans k.1,k.2⟩;have N:Stp w σ C E:=⟨f.bel,s5,fun b o e=>l5.le b o (f.le b o e),fun b Z=>(n b (Nat.lt_of_lt_of_le Z Y.bel.size)).trans (f.old b Z)⟩;exact Fw N y z hz M ⟨p,x,rfl,hl.lift l5,f5⟩ fun w' σ' O hr=>h x w' σ' O hr
set_option maxHeartbeats 2000000 in
theorem X96 {r i:Int} {v:Val} (hs:X7 w σ) (hh:D6 σ (Q3 l,room,cs) ds) (wf:Wf l) (ok:Ok (Q3 l)) (hlen:(Q3 l).length<=1000) (good: ∀c∈cs,GoodC W4 (Q3 l) cs c) (hl1:U4 cs<=1048576) (hv:E4 σ v [I v.sort,I v.n,S v.s,I v.ref])
 (h: ∀ds' w' σ',Stp w σ w' σ'->D6 σ' (Q3 l,room,(H9 W4 (Q3 l) cs r i v).1) ds'->K (.tuple #[.agg ds'.toArray,I (H9 W4 (Q3 l) cs r i v).2]) w'):Q0 P F.c3 [.agg ds.toArray,I r,I i, .agg [I v.sort,I v.n,S v.s,I v.ref].toArray] w K:=Q3B (by
 have hcl:=Yf cs;obtain ⟨lv,cv,rfl,hl,hc⟩:=D6.out hh;unfold Be;simp only[Y3,X3,L9];unfold Y1 X4;refine Rd hs fun b0 w1 σ1 hb0 hk1 hm0=>?_;refine Z4 hk1.sat fun q w2 σ2 hk2 hq=>?_;have hS2:=hk1.trans hk2;refine D3 hk2.sat fun b4 w3 σ3 hb4 hk3 hm4=>?_;have hS3:=hS2.trans hk3;have hB4:=C6 hb4 hS2;have hm02:=hm0.up hk2;have hb04:b0≠b4:=by have:=hm02.lt;omega
 have hm03:=hm02.up hk3;have hh3:=U9 hh ⟨hS3.le⟩;have hq3:=hq.up hk3;refine Bq hm03 rfl ?_;refine X1D hk3.sat hh3 fun w4 σ4 hk4=>?_;have hS4:=hS3.trans hk4;have hm04:=hm03.up hk4;have hm44:=hm4.up hk4;have hh4:=U9 hh3 ⟨hk4.le⟩;have hq4:=hq3.up hk4;unfold H9 at h;refine P8 ?_
 by_cases h0:C7 cs r i=0
 case neg=>
  rw[decide_eq_false h0];rw[if_pos h0] at h;refine Z3 ?_;exact Fw hS4 hm04 hm44 rfl hB4 hh4 fun w' σ' hk hr=>h _ w' σ' hk hr
 rw[decide_eq_true h0];rw[if_neg (fun hn=>hn h0)] at h;refine Z7 ?_;obtain ⟨j,m,rfl,rfl,hj,hm⟩:=Dr h0;rw[L4 hj,Int.toNat_natCast] at h;have hc4:=hc.up hS4;obtain ⟨vv,p1,p2,p3⟩:=Sl.elO hc4 hj;have hgc:=good cs[j] (List.getElem_mem hj)
 have hif:elem cs[j].kind=[]->m<(U6 (Q3 l) cs[j].kind).length:=fun e=>by
  rcases hgc.is with h | h
  .exact absurd e h
  .rw[<-h.2];exact hm
 have hs4:=hk4.sat;have hr0: ∀{w':World} {K:Value->World->Prop},Hst w4 σ4 w' σ4->K (.agg [lv,I room,cv].toArray) w'->Q6 P T.a (.pointer (some ⟨b0,0,none⟩)) w' K:=fun hst hK=>Bq (hm04.up hst.stp) rfl hK;have hr1: ∀{w':World} {K:Value->World->Prop},Hst w4 σ4 w' σ4->K cv w'->Q6 P T.g (.pointer (some ((⟨b0,0,none⟩:Addr).add 2))) w' K:=fun hst hK=>I1 (hm04.up hst.stp) rfl hK;refine U8 hs4 ?_
 (repeat (apply X0;(· intros;(repeat (rename_i hx;subst hx));(repeat' (first | (with_reducible exact Q8 rfl) | (with_reducible exact B5 (Stp.bel (by (repeat (first | exact Stp.refl (by (first | assumption | exact Stp.sat Q9 | exact Hst.sat Q9)) | assumption | refine Stp.trans ?_ (by first | assumption | exact Hst.stp Q9))))) rfl) | (with_reducible intro _) | (simp only[↓M2,M2,Mb,reduceIte]) | (with_reducible refine hr0 au ?_) | (with_reducible refine hr1 au ?_) | (with_reducible show Q6 _ _ _ _ _;first | refine Y6 aS aL aR ?_ | refine Y7 aS aL aR ?_ | refine ld aS aL aR ?_) | (with_reducible show indexAddr _ _ _ _ _ _;refine Z1 aL au ?_) | (with_reducible show V0 _ _ _ _ _ _ _ _;refine Q7 aL ?_) | (with_reducible show Xj _ _ _ _ _ _;refine W2 aR ?_) | (with_reducible show pick _ _ _ _ _ _;refine F3 ?_) | (with_reducible show Q0 _ _ _ _ _;first | refine X8p au au au au au au ?_) | (apply Zn;intro hh;(try simp only[hh,reduceIte,↓M2,M2,Mb,reduceIte]))));done)))
 (intros;(repeat (rename_i hx;subst hx)))
 rename_i w5 hb5;have hS5:=hS4.trans hb5.stp;refine X8o hb5.sat hh4 wf ok hlen hv.2.2.2.1 (X08 ok p3 m) fun wA σA hkA=>?_;have hk4A:=hb5.stp.trans hkA;have hSA:=hS4.trans hk4A;have hm0A:=hm04.up hk4A;have hm4A:=hm44.up hk4A;have hhA:=U9 hh4 ⟨hk4A.le⟩;have hqA:=hq4.up hk4A;have hsA:=hkA.sat;refine Zv ?_;cases hf:K3 W4 (Q3 l) cs v (Wl (Q3 l) cs[j].kind m) with
 | false=>
  rw[hf] at h;simp only[Bool.false_eq_true,if_false] at h;refine Z3 ?_;exact Fw hSA hm0A hm4A rfl hB4 hhA fun w' σ' hk hr=>h _ w' σ' hk hr
 | true=>
  rw[hf] at h;simp only[if_true] at h;refine Z7 ?_;have hcA:=hc.up hSA;have hlA:=hl.up hSA;have hvl:=X0e hl1 hj;refine Ci (R:=Xi) (e:=T.n) (Stp.refl hsA) W3 fun x1 wA1 hkA1 ha1 _=>?_;refine J4 ?_;refine I1 (hm0A.up hkA1) rfl ?_;refine Jm hkA1 ha1 (hcA.up hkA1) rfl (by simp;omega) (by simp;omega) fun x2 wB _ hkB ha2 _=>?_
  rw[List.nil_append] at ha2;have hsB:=hkB.sat;refine Ci (R:=E4) (e:=T.d) (Stp.refl hsB) W3 fun y1 wB1 hkB1 hy1 _=>?_;have hq2:=V6.of_acc (ha2.up hkB1);refine X6g hq2 hj ?_;obtain ⟨cs5,hl5,⟨vv5,rfl,p5,_⟩,hcell⟩:=hq2.elQ hj;refine J4 ?_;refine Zb (hcell 1 vv5 rfl) ?_;refine Jm hkB1 hy1 p5 rfl (by simp;omega) (by simp;omega) fun y2 wB2 _ hkB2 hy2 _=>?_
  rw[List.nil_append] at hy2;refine Y7 hkB2.sat ((hqA.up hkB).up hkB2) rfl ?_;refine Q67 (x:=v) hkB2 (V6.of_acc hy2) hm rfl (show E4 σA v _ from hv) (Rep.one (R:=E4) (σ:=σA) hv) fun p u w6 _ hb6 hy6=>?_
  obtain ⟨σ7,hk7,hs7,le7,_⟩:=hy6.keep hb6.stp;have hkA7:=hkB.trans hk7;have hq7:=V6.of_acc (ha2.up hk7);refine X6g hq7 hj ?_;refine J4 ?_;have hysh:y2.cells= #[y2]/\y2.oneCell'=true:=Wr hy2
  refine X8B (x:=(⟨cs[j].kind,cs[j].vals.set m v⟩:Cel)) hkA7 hq7 hj W3 hysh.1 hysh.2 (fun es _ hes=>by
   obtain ⟨v0,rfl,_,hkl⟩:=hes;exact ⟨y2,rfl,hs7,hkl⟩) fun w8 _ hk8 hq8=>?_
  refine J4 ?_;have hsv:Qc cs j m v=cs.set j ⟨cs[j].kind,cs[j].vals.set m v⟩:=by unfold Qc;rw[L4 hj,Int.toNat_natCast,Int.toNat_natCast]
  rw[hsv] at h;exact X99 hSA hk8 (hm0A.up hk8) (hm4A.up hk8) rfl hm0A.lt hm4A.lt hb0 hB4 hb04 (hlA.up hk8) hq8 fun cv' w' σ' hk hr=>h _ w' σ' hk hr)
theorem Q9A {k a:Nat} {c b:Value} {n:List Value} {w1:World} {σ1:Q2} (o:Stp w σ w1 σ1) (f:Y8 σ1 w1 k [c,I room,b]) (i:Y8 σ1 w1 a n) (p:n.length=3) (d:w.heap.size<=a) (m:D6 σ1 (l,room,cs) [c,I room,b]) (h: ∀w' σ',Stp w σ w' σ'->D6 σ' (l,room,cs) [c,I room,b]->K (.agg [c,I room,b].toArray) w'):
 Q6 P T.a (.pointer (some ⟨k,0,none⟩)) w1 fun j w=>
 J9 P T.a (.pointer (some ⟨a,0,none⟩)) j w fun _u w=>
 J5 P T.a (.pointer (some ⟨a,0,none⟩)) w fun q=>
 K q w:=
 Bq f rfl (Qs i o d p rfl (Rep.one m) fun r e g=>M4 g rfl (h r σ1 e.stp m))
set_option maxHeartbeats 2000000 in
theorem X93 {n:Int} (hs:X7 w σ) (hh:D6 σ (l,room,cs) ds) (a6:U4 cs<=1048576) (hn:Xv n)
 (h: ∀ag w' σ',Stp w σ w' σ'->D6 σ' (l,room,Q0o cs n) ag->K (.agg ag.toArray) w'):Q0 P F.c0 [.agg ds.toArray,I n] w K:=Q3y (by
 have b2:=Yf cs;obtain ⟨lv,cv,rfl,hl,hc⟩:=D6.out hh;unfold Bb;simp only[N0];unfold Z8 Y1 V1 V3 X6 Y0 X4 X5;refine Rd hs fun M w1 σ1 a4 Z ak=>?_;refine D3 Z.sat fun b4 w2 σ2 a5 aa J=>?_;have a0:=Z.trans aa;have V:=C6 a5 Z;have aj:M≠b4:=by have:=ak.lt;omega
 have al:=ak.up aa;have a9:=aa.sat;refine Yu (fun z w'=>z=I (max n 0)/\w'=w2) ?_ ?_
 .refine J0 ?_
  by_cases e:n<0
  .rw[decide_eq_true e]
   exact Z3 ⟨by rw[show max n 0=0 by omega],rfl⟩
  .rw[decide_eq_false e]
   exact Z7 ⟨by rw[show max n 0=n by omega],rfl⟩
 rintro z d0 w3 ⟨rfl,rfl⟩;unfold Q0o at h;obtain ⟨m,am⟩:=Int.eq_ofNat_of_zero_le (show 0<=max n 0 by omega)
 rw[am,Int.toNat_natCast] at h;rw[am];have b6:(m:Int)<=9223372036854775807:=by have:=hn.2;omega
 refine V7 (min m cs.length) (fun i w'=> ∃σ',Stp w3 σ2 w' σ'/\(cs.take i).any (fun c=>c.vals.any (Qp m))=false) ⟨σ2,Stp.refl a9,rfl⟩ fun i w4 d hi y=>?_;obtain ⟨σ4,q,ac⟩:=y;have a:=al.up q;have s:=a0.trans q;have H:=hc.up s;refine J0 ?_
 have Y: ¬i<min m cs.length->(cs.take m).any (fun c=>c.vals.any (Qp m))=false/\(m<cs.length->i=m):=fun an=>by
  by_cases a7:m<=cs.length
  .have:i=m:=by omega
   subst this;exact ⟨ac,fun _=>rfl⟩
  .have e:cs.take m=cs.take i:=by rw[List.take_of_length_le Q5,List.take_of_length_le Q5]
   rw[e];exact ⟨ac,fun h=>by omega⟩
 have N: ¬i<min m cs.length->jn (α:=Unit) w4 (fun af w=>
  fieldAddr P T.a (.pointer (some ⟨M,0,none⟩)) 2 w fun bc w=>
  Q6 P T.g bc w fun bd w=>
  V0 P .len [T.g] T.f [false] [bd] w fun be w=>
  Z9 P .lss T.f (.tmp 52) (.tmp 55) (I (m:Int)) be w fun bf w=>
  X1 bf (
   buildSlice P T.g 0 [] w fun bg w=>
   fieldAddr P T.a (.pointer (some ⟨M,0,none⟩)) 2 w fun bh w=>
   Q6 P T.g bh w fun bi w=>
   I3 P T.g bi none (some (I (m:Int))) none w fun bj w=>
   V0 P .append [T.g,T.g] T.g [false,false] [bg,bj] w fun bk w=>
   fieldAddr P T.a (.pointer (some ⟨M,0,none⟩)) 2 w fun bl w=>
   J9 P T.g bl bk w fun _u w=>
   af () w) (
   af () w)) fun ci d_ w=>
  Q6 P T.a (.pointer (some ⟨M,0,none⟩)) w fun bm w=>
  J9 P T.a (.pointer (some ⟨b4,0,none⟩)) bm w fun _u w=>
  J5 P T.a (.pointer (some ⟨b4,0,none⟩)) w fun r0=>
  K r0 w:=fun an=>by
  obtain ⟨t,_⟩:=Y an;rw[if_neg (by rw[t];simp)] at h
  refine M9 ?_;refine J4 ?_;refine I1 a rfl ?_;refine Q7 H ?_;refine J0 ?_
  by_cases a7:m<cs.length
  .rw[decide_eq_true (show (m:Int)<(cs.length:Int) by omega)]
   refine Z3 ?_;have ba:=q.sat;refine Ci (R:=Xi) (e:=T.n) (Stp.refl ba) W3 fun x1 w5 f a3 _=>?_;refine J4 ?_;refine I1 (a.up f) rfl ?_;refine Bn (H.up f) none (some (I m)) 0 m (.inl ⟨rfl,rfl⟩) (.inr rfl) (Nat.zero_le _) Q5 fun v3 ar=>?_;rw[List.drop_zero,Nat.sub_zero] at ar;refine Jm f a3 ar rfl (by simp;omega) (by simp;omega) fun x2 w6 _ g E _=>?_
   rw[List.nil_append] at E;have aq:=Wr E;have O:=a.up g;refine J4 ?_;refine Yj O U5 aq.1 aq.2 fun w7 u7 Q=>?_;intro d;have ai:V6 w4.heap.size T.n 2 Xi σ4 w7 x2 (cs.take m):=(V6.of_acc E).kp (D:=fun j=>j=M) (.of_upd u7 rfl) fun j hj e=>by have:=(E.mem j hj).1;have:=a.lt;omega
   have U:=((J.up q).up g).upd u7 (fun e=>aj e.symm);have C:Stp w σ w7 σ4:=u7.stp (s.trans g) a4 O.1;obtain ⟨σ8,s8,l8,f8,o8⟩:=ai.freeze C.sat;have ab: ∀j,j<w4.heap.size->σ8 j=σ4 j:=fun j hj=>o8 j fun e=>by have:=(ai.mem e.symm).1;omega
   have a2:Stp w σ w7 σ8:=⟨C.bel,s8,fun b o e=>l8.le b o (C.le b o e),fun b hb=>(ab b (Nat.lt_of_lt_of_le hb s.bel.size)).trans (C.old b hb)⟩;exact Q9A a2 (cs:=cs.take m) (l:=l) (show Y8 σ8 w7 M [lv,I room,x2] from ⟨(ab M a.lt).trans Q.1,Q.2⟩) ⟨(ab b4 (J.up q).lt).trans U.1,U.2⟩ rfl V ⟨lv,x2,rfl,(hl.up s).lift l8,f8⟩ fun w' σ' hk hr=>h _ w' σ' hk hr
  .rw[decide_eq_false (show¬(m:Int)<(cs.length:Int) by omega)]
   refine Z7 ?_;intro d;rw[List.take_of_length_le Q5] at h;exact Q9A s a (J.up q) rfl V (U9 hh ⟨s.le⟩) fun w' σ' hk hr=>h _ w' σ' hk hr
 by_cases b3:i<m
 case neg=>
  rw[decide_eq_false (show¬(i:Int)<(m:Int) by omega)]
  (try simp only[F2,O3,G1,V9,D2,E3,H3,F0,I0,Bool.not_true,Bool.not_false])
  exact N Q5
 rw[decide_eq_true (show (i:Int)<(m:Int) by omega)]
 (try simp only[F2,O3,G1,V9,D2,E3,H3,F0,I0,Bool.not_true,Bool.not_false])
 refine J4 ?_;refine I1 a rfl ?_;refine Q7 H ?_;refine J0 ?_
 by_cases v:i<cs.length
 case neg=>
  rw[decide_eq_false (show¬(i:Int)<(cs.length:Int) by omega)]
  refine Z7 ?_;exact N Q5
 rw[decide_eq_true (show (i:Int)<(cs.length:Int) by omega)]
 refine Z3 ?_;have b9:=X0e a6 v;refine V7 cs[i].vals.length (fun k w'=> ∃σ',Stp w4 σ4 w' σ'/\(cs[i].vals.take k).any (Qp m)=false) ⟨σ4,Stp.refl q.sat,rfl⟩ fun k w5 d hk y=>?_;obtain ⟨σ5,f,B⟩:=y;have A:=a.up f;have W:=H.up f;have a1:=s.trans f;have L:=f.sat;obtain ⟨vv,p1,p2,p3⟩:=Sl.elO W v;refine J4 ?_;refine I1 A rfl ?_;refine Z1 W v ?_;refine J4 ?_;refine ld L p1 rfl ?_;refine Q7 p2 ?_;refine J0 ?_;refine Q4 (fun X=>?_) (fun X=>?_)
 .have r:k<cs[i].vals.length:=by simpa using X
  obtain ⟨p4,r4⟩:=Sl.elV p2 r;refine J4 ?_;refine I1 A rfl ?_;refine Z1 W v ?_;refine J4 ?_;refine ld L p1 rfl ?_;refine Z1 p2 r ?_;refine Y7 L p4 rfl ?_;refine J6 L (by rfl) rfl (Rep.one r4) fun q6 w6 σ6 g ao=>?_
  have ah:=a1.trans g;have a8:=E7 (p:=Qp m) r;refine J4 ?_;refine ld (i:=0) g.sat ao rfl ?_;refine B1 ?_;have u:Qp m cs[i].vals[k]=false-> ∃σ',Stp w4 σ4 w6 σ'/\(cs[i].vals.take (k+1)).any (Qp m)=false:=fun e=>⟨σ6,f.trans g,by rw[a8,B,e];rfl⟩
  by_cases e4:cs[i].vals[k].sort=4
  .rw[decide_eq_true e4]
   (try simp only[F2,O3,G1,V9,D2,E3,H3,F0,I0,Bool.not_true,Bool.not_false])
   refine J4 ?_;refine ld g.sat ao rfl ?_;refine A0 ?_
   by_cases eg:(m:Int)<=cs[i].vals[k].ref
   .rw[decide_eq_true eg]
    refine Z3 ?_
    have t:(cs.take m).any (fun c=>c.vals.any (Qp m))=true:=by
     refine List.any_eq_true.2 ⟨cs[i],List.mem_take_iff_getElem.2 ⟨i,by omega,rfl⟩,K2 r (by simp[Qp,e4,eg])⟩
    rw[if_pos t] at h;exact Q9A ah (A.up g) ((J.up q).up (f.trans g)) rfl V (U9 hh ⟨ah.le⟩) fun w' σ' hk hr=>h _ w' σ' hk hr
   .rw[decide_eq_false eg]
    refine Z7 ?_;refine R5 ?_;exact Z5 Q5 r (u (by simp[Qp,eg]))
  .rw[decide_eq_false e4]
   (try simp only[F2,O3,G1,V9,D2,E3,H3,F0,I0,Bool.not_true,Bool.not_false])
   refine R5 ?_;exact Z5 Q5 r (u (by simp[Qp,e4]))
 .have r: ¬k<cs[i].vals.length:=by simpa using X
  rw[B4 r] at B;refine R5 ?_;refine Z5 Q5 Q5 ⟨σ5,q.trans f,?_⟩;rw[E7 v,ac,B];rfl)
variable {hp tv : Value}
theorem HeapIs.mono {B c:Nat} {D:Nat->Prop} (h:HeapIs B D σ w hp tv room cs) (hB:c<=B):HeapIs c D σ w hp tv room cs:=by
 obtain ⟨b,o,E,k,j,n,⟨vs,m,d,g,hD⟩,hE,a⟩:=h.ex;exact ⟨b,o,E,k,Nat.le_trans hB j,n,⟨vs,m.mono hB,⟨d.1,fun i e f=>(d.2 i e f).mono hB⟩,g,hD⟩,hE,a⟩
theorem X7J {a:Addr} {n:Int} (j:X7 w σ)
 (g:(n<0\/1048576<n)->K (.tuple #[.pointer none,I 90]) w)
 (h:0<=n->n<=1048576-> ∀b w' σ' D,Stp w σ w' σ'->HeapIs w.heap.size D σ' w' (.pointer (some ⟨b,0,none⟩)) (.pointer (some a)) n []->K (.tuple #[.pointer (some ⟨b,0,none⟩),I 0]) w'):Q0 P F.cZ [.pointer (some a),I n] w K:=X2I (by
 unfold Q5O X6 X4;refine J0 ?_
 by_cases e:n<0
 .rw[decide_eq_true e]
  (try simp only[F2,O3,G1,V9,D2,E3,H3,F0,I0,Bool.not_true,Bool.not_false])
  exact g (.inl e)
 rw[decide_eq_false e]
 (try simp only[F2,O3,G1,V9,D2,E3,H3,F0,I0,Bool.not_true,Bool.not_false])
 refine Q4h ?_
 by_cases c:(1048576:Int)<n
 .rw[decide_eq_true c]
  exact Z3 (g (.inr c))
 rw[decide_eq_false c];refine Z7 ?_;refine N3 (cells:= #[.pointer (some a),I n,I 0, .slice none 0 0]) X8 ?_;refine Rd (cs:=[.pointer (some a),I n,I 0, .slice none 0 0]) j fun b w1 σ1 i d f=>?_;exact h Q5 Q5 b w1 σ1 _ d ⟨b,_,_,rfl,i,f,RowsIs.nil,id,fun k=>Iff.rfl⟩)
theorem X5I:P.underlying T.ay=some (.int .u16):=by kernel_rfl
set_option maxHeartbeats 1000000 in
theorem Q75 {r:Int} (hs:X7 w σ) (hg:Glb σ) (hr:0<=r)
 (h: ∀b a D ds w' σ',Stp w σ w' σ'->HeapIs w.heap.size D σ' w' (.pointer (some ⟨b,0,none⟩)) (.pointer (some a)) (r % 301) []->D6 σ' (Q3 W8,r % 301,[]) ds->Tab σ' (.pointer (some a)) (Q3 W8)->Ok (Q3 W8)->K (.tuple #[.pointer (some ⟨b,0,none⟩), .agg ds.toArray]) w'):Q0 P F.aj [.int .u16 r] w K:=Q18 (by
 have hr0:=Int.emod_nonneg r (show (301:Int)≠0 by decide)
 have hr1:=Int.emod_lt_of_pos r (show (0:Int)<301 by decide)
 unfold En;simp only[D9];unfold X6 X4;refine D3 hs fun b3 w1 σ1 hb3 hk1 hm1=>?_;refine Q7S hk1.sat fun v w2 σ2 hk2 hv2=>?_;refine X8G hk2.sat (hg.lift ⟨(hk1.trans hk2).le⟩) hv2 W3 X6y (fun i e _ _ hn=>by rw[Q59] at hn;cases hn) fun tv w3 σ3 _ hk3 ht ok _=>?_
 obtain ⟨a,_,_,_,rfl,_⟩:=ht.ex;have hS3:=(hk1.trans hk2).trans hk3;refine J8 (vs:=[_,_,_]) rfl ?_;refine J8 (vs:=[_,_,_]) rfl ?_;refine J8 (vs:=[_,_,_]) rfl ?_;refine Q7S hk3.sat fun v4 w4 σ4 hk4 hv4=>?_;refine X7f hk4.sat hv4 W3 (fun i e _ _ hn=>by rw[Q59] at hn;cases hn) fun lv w5 σ5 _ hk5 hlv ok5 _=>?_
 have hk35:=hk4.trans hk5;have hS5:=hS3.trans hk35;refine J8 (vs:=[_,_,_]) rfl ?_;refine J8 (vs:=[_,_,_]) rfl ?_;refine J8 (vs:=[_,_,_]) rfl ?_;refine X0g ⟨by decide,hr⟩ ?_
 rw[Q0n X5I Rb];have ew:IntKind.i64.wrap (r % 301)=r % 301:=Qr (n:=r % 301) Q5 Q5;rw[ew];simp only[decide_true,Bool.not_true,Bool.false_eq_true,reduceIte,↓M1,M1,Mb,reduceIte];refine X8A ?_;simp only[decide_true,Bool.not_true,Bool.false_eq_true,reduceIte,↓M1,M1,Mb,reduceIte];refine X7J (n:=r % 301) hk5.sat (fun hx=>absurd hx Q5) fun _ _ b6 w6 σ6 D hk6 h6=>?_;refine J8 (vs:=[_,_]) rfl ?_;refine J8 (vs:=[_,_]) rfl ?_;simp only[decide_true,Bool.not_true,↓M1,M1,Mb,reduceIte];refine N3 (cells:= #[lv,I (r % 301), .slice none 0 0]) (by obtain ⟨a5,c5,hle,_⟩:=id hlv;generalize (Q3 W8).length=n5 at hle;subst hle;kernel_rfl) ?_
 have hm6:=hm1.up ((hk2.trans hk3).trans (hk35.trans hk6));have hrh:D6 σ6 (Q3 W8,r % 301,[]) [lv,I (r % 301), .slice none 0 0]:=⟨_,_,rfl,hlv.up hk6,Sl.nil⟩;refine Vk (ds:=[lv,I (r % 301), .slice none 0 0]) hm6 rfl rfl (by rw[List.all_toArray];exact List.all_eq_true.2 (Rep.one hrh)) fun w7 u7 hm7=>?_
 refine M4 hm7 rfl ?_;have hS6:=hS5.trans hk6;have hB3:=C6 hb3 (Stp.refl hs);have hS7:=u7.stp hS6 hB3 hm6.1
 have hb35:b3<w5.heap.size:=by
  have:=(hm1.up ((hk2.trans hk3).trans hk35)).lt;exact this
 exact h b6 a D _ w7 σ6 hS7 ((h6.nx (Nxt.of_upd hk6.sat u7 hm6.1) fun k hk e=>by have:=(h6.mem hk).1;omega).mono hS5.bel.size) hrh (ht.lift ⟨(hk35.trans hk6).le⟩) ok)
theorem X94 {x:ActH} {ds:List Value} (g:X7 w σ) (d:Gn σ x ds) (h: ∀w',Below w.heap.size w w'->K (.bool (decide (x.s.length<=100)&&decide (x.v.s.length<=5000))) w'):Q0 P F.c1 [.agg ds.toArray] w K:=Q3z (by
 have j:=d;obtain ⟨rfl,k,m⟩:=d;unfold Bc Z8 Y1 Y0 X4;refine Z4 g fun q w1 σ1 a c=>?_;refine J4 ?_;refine ld (i:=1) a.sat c rfl ?_;refine Q0c X8 ?_;refine Q8u ?_;cases e:decide ((x.s.length:Int)<=100) with
 | false=>
  have b:decide (x.s.length<=100)=false:=by rw[<-e];congr 1;simp only[eq_iff_iff];omega
  rw[b] at h
  (try simp only[↓M1,M1,Mb,reduceIte])
  exact h _ a.bel
 | true=>
  have b:decide (x.s.length<=100)=true:=by rw[<-e];congr 1;simp only[eq_iff_iff];omega
  rw[b] at h
  (try simp only[F2,O3,G1,V9,D2,E3,H3,F0,I0,Bool.not_true,Bool.not_false])
  (repeat refine Hd.h ?_)
  refine ld (i:=6) a.sat c rfl ?_
  (repeat refine Hd.h ?_)
  refine Q0c X8 ?_
  (repeat refine Hd.h ?_)
  refine Q8u ?_
  (repeat refine Hd.h ?_)
  have f:decide ((x.v.s.length:Int)<=5000)=decide (x.v.s.length<=5000):=by congr 1;simp only[eq_iff_iff];omega
  rw[f];exact h _ a.bel)
end Go.Proofs.Y
namespace Go.Hm
open Go.Kd
variable {cs : List Cel} {v : Val}
theorem X4w:Fi cs v=ixO (W1 cs v):=by
 unfold Fi W1
 split
 .rename_i h
  obtain ⟨i,e,a⟩:=W9.1 h.2;rw[e];rfl
 .rfl
end Go.Hm
namespace Go.Proofs.Y
open Go.Emb Go.RowKit Go.Kd Go.Hm
variable {w w' w0 : World} {K : Value -> World -> Prop} {σ σ' σ0 : Q2} {room : Int} {cs : List Cel} {ds : List Value} {l : List Cla}
set_option maxHeartbeats 1000000 in
theorem Q5o {r:Int} (hs:X7 w σ) (hh:D6 σ (l,room,cs) ds) (ok:Ok l) (L:l.length<=1000) (C: ∀c∈cs,GoodC W4 l cs c) (hN:Yk cs r<=1000000000000)
 (h: ∀v' w' σ',Stp w σ w' σ'->Sl 1 H6 σ' v' (ints (N1 l cs r))->K v' w'):Q0 P F.au [.agg ds.toArray,I r] w K:=Q2s (by
 obtain ⟨lv,cv,rfl,hl,hc⟩:=D6.out hh;unfold Sd;simp only[N0];unfold Z8 Y1 V1 X6 Y0 X4 V5 X5;have s:=fun i (hi:i<Yk cs r) o=>Q6q (ok:=W4) C hi o;refine Z4 hs fun q w1 σ1 X hq=>?_;refine Zh (R:=H6) (sz:=1) (Stp.refl X.sat) [] [] rfl rfl U5 (by rfl) trivial fun v2 w2 f E _=>?_
 have S2:=X.trans f;have p:=hq.up f;have m:=hc.up S2;have ae:=hl.up S2
 have A:M5 cs r=false->K v2 w2:=fun e=>by
  obtain ⟨σ3,S3,af,_⟩:=E.keep f;refine h v2 w2 σ3 (X.trans S3) ?_;unfold N1 Yk Lx;rw[e];exact af
 refine J0 ?_
 by_cases e0:r<0
 .rw[decide_eq_true e0]
  (repeat refine Hd.h ?_)
  refine Z3 ?_;exact A (by simp only[M5,Bool.and_eq_false_iff,decide_eq_false_iff_not];left;omega)
 rw[decide_eq_false e0]
 (repeat refine Hd.h ?_)
 refine ld (i:=2) f.sat p rfl ?_
 (repeat refine Hd.h ?_)
 refine Q7 m ?_
 (repeat refine Hd.h ?_)
 refine A0 ?_
 (repeat refine Hd.h ?_)
 by_cases V:(cs.length:Int)<=r
 .rw[decide_eq_true V]
  refine Z3 ?_;exact A (by simp only[M5,Bool.and_eq_false_iff,decide_eq_false_iff_not];right;omega)
 rw[decide_eq_false V];refine Z7 ?_;have hr:M5 cs r=true:=by simp only[M5,Bool.and_eq_true,decide_eq_true_eq];omega
 obtain ⟨j,rfl,W⟩:=W9.1 hr;obtain ⟨vv,p1,N,p3⟩:=Sl.elO m W;have ek:L5 cs (j:Int)=cs[j].kind:=Qn W;have en:Yk cs (j:Int)=cs[j].vals.length:=by unfold Yk Lx;rw[if_pos hr,L4 W];simp
 unfold N1 at h;rw[en] at hN s h;rw[ek] at s h;have a5:=N.max;generalize cs[j].kind=k at*;generalize cs[j].vals=vals at*;refine J4 ?_;refine ld (i:=2) f.sat p rfl ?_;refine Z1 m W ?_;refine Y7 f.sat p1 rfl ?_;refine J6 (sz:=2) f.sat rfl rfl (by simp;exact ⟨rfl,Xp N⟩) fun q6 w3 σ3 g D=>?_
 refine J4 ?_;refine ld (i:=0) g.sat (p.up g) rfl ?_;refine J4 ?_;refine ld (i:=0) g.sat D rfl ?_;refine Gf g.sat (ae.up g) ok.acy L ok.sm fun fv w4 O Y hf=>?_;have S4:=(f.trans g).trans Y;have A4:=(E.up g).up Y;have D:=D.up Y;have N:=(N.up g).up Y;refine C4 vals.length (fun i x w'=> ∃σ',SLe O σ'/\Stp w1 σ1 w' σ'/\W7 w1.heap.size T.f 1 H6 σ' w' x (ints ((List.range i).filter (K6 l k)))) ⟨O,SLe.refl _,S4,A4⟩ fun i x w5 d hi J=>?_;obtain ⟨σ5,y,U,A5⟩:=J;have Z:=U.sat;refine J4 ?_;refine ld (i:=1) Z (D.lift y) rfl ?_;refine Q7 (N.lift y) ?_;refine J0 ?_;refine Q4 (fun n=>?_) (fun n=>?_)
 .have H:i<vals.length:=by simpa using n
  have a3:((List.range i).filter (K6 l k)).length<=i:=Nat.le_trans (List.length_filter_le _ _) U5
  have V:ints ((List.range (i+1)).filter (K6 l k))=ints ((List.range i).filter (K6 l k))++(if K6 l k i=true then [(i:Int)] else []):=by
   rw[Fg];unfold ints;rw[List.map_append]
   congr 1
   split<;>rfl
  refine Yu (fun z w'=> ∃σ',SLe O σ'/\Stp w1 σ1 w' σ'/\W7 w1.heap.size T.f 1 H6 σ' w' z (ints ((List.range (i+1)).filter (K6 l k)))) ?_ (fun z dd w6 hz=>?_)
  .refine J4 ?_
   refine ld (i:=0) Z (D.lift y) rfl ?_;refine Q9R k (by unfold W6 at p3;omega) ?_
   refine Jn (u:=[]) ?_
   have B: ∀q,K6 l k i=q->X1 (.bool q) (buildSlice P T.q 1 [(0,I i)] w5 fun ag w=>V0 P .append [T.q,T.q] T.q [false,false] [x,ag] w fun z w'=> ∃σ',SLe O σ'/\Stp w1 σ1 w' σ'/\W7 w1.heap.size T.f 1 H6 σ' w' z (ints ((List.range (i+1)).filter (K6 l k)))) (∃σ',SLe O σ'/\Stp w1 σ1 w5 σ'/\W7 w1.heap.size T.f 1 H6 σ' w5 x (ints ((List.range (i+1)).filter (K6 l k)))):=fun q eq=>by
    rw[V,eq];cases q with
    | false=>exact Z7 ⟨σ5,y,U,by simpa using A5⟩
    | true=>
     refine Z3 ?_;refine P4 (R:=H6) (sz:=1) Z [I i] [(i:Int)] rfl rfl (by simp;rfl) rfl ⟨⟨rfl,by omega,by omega⟩,trivial⟩ fun v6 w6 Q M t=>?_
     refine Jm (U.trans M) (A5.up M) t (by rfl) (by simp[ints];omega) (by simp[ints];omega) fun v7 w7 _ S7 A7 _=>?_
     exact ⟨Q,y.more ⟨M.le⟩,S7,by simpa using A7⟩
   by_cases o:elem k=[]
   .rw[decide_eq_true o,Bool.not_true]
    have b:=s i H o
    (repeat refine Hd.h ?_)
    refine Q5W (hf.lift y) b fun a ha _=>?_
    (repeat refine Hd.h ?_)
    refine ld (i:=2) Z ha rfl ?_
    (repeat refine Hd.h ?_)
    have eq:K6 l k i= !((U6 l k)[i].tr):=by
     unfold K6;rw[decide_eq_true o,Bool.not_true,Bool.false_or,List.getD_eq_getElem?_getD,List.getElem?_eq_getElem b];rfl
    exact B _ eq
   .rw[decide_eq_false o,Bool.not_false]
    (repeat refine Hd.h ?_)
    exact B true (by unfold K6;rw[decide_eq_false o];rfl)
  .obtain ⟨Q,M,S6,A6⟩:=hz
   (try simp only[↓M1,M1,Mb,reduceIte])
   exact V2 Q5 H ⟨Q,M,S6,A6⟩
 .have:i=vals.length:=by simp at n;omega
  subst this;obtain ⟨Q,S6,t,_⟩:=A5.keep U;exact h x w5 Q (X.trans S6) t)
theorem Q6i {v:Val} (u:X7 w σ) (hh:D6 σ (l,room,cs) ds) (h: ∀w' σ',Stp w σ w' σ'->K (I (Fi cs v)) w'):Q0 P F.an [.agg ds.toArray, .agg [I v.sort,I v.n,S v.s,I v.ref].toArray] w K:=Q4z (by
 obtain ⟨A,y,rfl,z,r⟩:=D6.out hh;unfold Fc Z8 Y1 Y0 X4 X5;refine Z4 u fun q w1 σ1 o t=>?_;refine Z4 o.sat fun p B C j d=>?_;have a:=o.trans j;have g:=t.up j;have f:=r.up a;have b:=j.sat;refine J4 ?_;refine ld (i:=0) b d rfl ?_;refine P8 ?_
 by_cases c:v.sort=4
 case neg=>
  rw[decide_eq_false c,Bool.not_false]
  (repeat refine Hd.h ?_)
  refine Z3 ?_;have:=h _ _ a
  rwa [Fi,if_neg (fun e=>c e.1)] at this
 rw[decide_eq_true c,Bool.not_true]
 (repeat refine Hd.h ?_)
 refine ld (i:=3) b d rfl ?_
 (repeat refine Hd.h ?_)
 refine J0 ?_
 (repeat refine Hd.h ?_)
 by_cases k:v.ref<0
 .rw[decide_eq_true k]
  (repeat refine Hd.h ?_)
  refine Z3 ?_;have:=h _ _ a
  rwa [Fi,if_neg] at this
  rintro ⟨_,e⟩;simp only[M5,Bool.and_eq_true,decide_eq_true_eq] at e;omega
 rw[decide_eq_false k]
 (repeat refine Hd.h ?_)
 refine ld (i:=3) b d rfl ?_
 (repeat refine Hd.h ?_)
 refine ld (i:=2) b g rfl ?_
 (repeat refine Hd.h ?_)
 refine Q7 f ?_
 (repeat refine Hd.h ?_)
 refine A0 ?_
 (repeat refine Hd.h ?_)
 by_cases m:(cs.length:Int)<=v.ref
 .rw[decide_eq_true m]
  refine Z3 ?_;have:=h _ _ a
  rwa [Fi,if_neg] at this
  rintro ⟨_,e⟩;simp only[M5,Bool.and_eq_true,decide_eq_true_eq] at e;omega
 rw[decide_eq_false m];refine Z7 ?_;refine J4 ?_;refine ld (i:=3) b d rfl ?_;have:=h _ _ a
 rwa [Fi,if_pos ⟨c,by simp only[M5,Bool.and_eq_true,decide_eq_true_eq];omega⟩] at this)
theorem Q9V {o:Option Nat} {xs:List Nat} {v:Value} (S0:Stp w0 σ0 w σ) (A:W7 w0.heap.size T.f 1 H6 σ w v (ints xs)) (Q:xs.length<=1048576) (D: ∀x,o=some x->x<=1048576)
 (h: ∀t w' σ',Stp w0 σ0 w' σ'->SLe σ σ'->W7 w0.heap.size T.f 1 H6 σ' w' t (ints (Ux xs o))->K t w'):Q0 P F.b5 [v,I (ixO o)] w K:=Q3C (by
 unfold Bf V1 V3 Y0 X4 X5;have s:=S0.sat;obtain ⟨X,H,E,j,_⟩:=(V6.of_acc A).freeze s;have r:(ints xs).length=xs.length:=by simp
 refine V7 xs.length (fun i w'=>w'=w/\ ∀y∈xs.take i,(y:Int)≠ixO o) ⟨rfl,by simp⟩ fun i w1 d O g=>?_
 obtain ⟨rfl,f⟩:=g;refine Q7 j ?_;rw[r];refine J0 ?_;refine Q4 (fun c=>?_) (fun c=>?_)
 .have b:i<xs.length:=by simpa using c
  refine E5 j (by rw[r];exact b) fun a N B _ C=>?_
  obtain ⟨rfl,_⟩:=C;refine Y6 H B rfl ?_;simp only[List.getElem_map];refine B1 ?_;refine Q4 (fun m=>?_) (fun m=>?_)
  .have e:(xs[i]:Int)=ixO o:=by simpa using m
   refine h v _ σ S0 (SLe.refl _) ?_
   have:Ux xs o=xs:=by
    cases o with
    | none=>rfl
    | some x=>
     have e:(xs[i]:Int)=(x:Int):=e;have:xs[i]=x:=by omega
     exact Q48 (this▸List.getElem_mem b)
   rw[this];exact A
  .have e: ¬(xs[i]:Int)=ixO o:=by simpa using m
   (try simp only[↓M1,M1,Mb,reduceIte])
   refine Z5 Q5 b ⟨rfl,fun y k=>?_⟩;rw[List.take_add_one,List.getElem?_eq_getElem b,Option.toList_some,List.mem_append,List.mem_singleton] at k
   rcases k with k | rfl
   .exact f y k
   .exact e
 .have b: ¬i<xs.length:=by simpa using c
  rw[List.take_of_length_le Q5] at f;refine J0 ?_;cases o with
  | none=>
   rw[show decide (ixO none<(0:Int))=true from rfl]
   refine Z3 ?_;exact h v _ σ S0 (SLe.refl _) A
  | some x=>
   have U:=D x rfl;have n:x∉xs:=fun e=>f x e rfl;rw[show decide (ixO (some x)<(0:Int))=false from decide_eq_false (by unfold ixO;simp only;omega)]
   refine Z7 ?_;rw[show ixO (some x)=(x:Int) from rfl]
   refine P4 (R:=H6) (sz:=1) s [I x] [(x:Int)] rfl rfl (by simp;rfl) rfl ⟨⟨rfl,by omega,by omega⟩,trivial⟩ fun V W M q p=>?_
   refine Jm (S0.trans q) (A.up q) p (by rfl) (by simp;omega) (by simp;omega) fun J L _ z u _=>?_
   refine h J L M z ⟨q.le⟩ ?_;rw[Sy n]
   simpa using u)
theorem X4l {xs:List Nat} {v:Value} {n:Int} (t:X7 w σ) (g:Sl 1 H6 σ v (ints xs)) (h:K (I (Ti xs n)) w):Q0 P F.bg [v,I n] w K:=Q4A (by
 unfold Fe V1 V3 Y0 X5;have p:(ints xs).length=xs.length:=by simp
 have o:=g.max;rw[p] at o;refine V7 xs.length (fun i w'=>w'=w/\ ∀y∈xs.take i,(y:Int)≠n) ⟨rfl,by simp⟩ fun i w1 d z m=>?_
 obtain ⟨rfl,c⟩:=m;refine Q7 g ?_;rw[p];refine J0 ?_;refine Q4 (fun f=>?_) (fun f=>?_)
 .have b:i<xs.length:=by simpa using f
  refine E5 g (by rw[p];exact b) fun a u r _ s=>?_
  obtain ⟨rfl,_⟩:=s;refine Y6 t r rfl ?_;simp only[List.getElem_map];refine B1 ?_;refine Q4 (fun q=>?_) (fun q=>?_)
  .have e:(xs[i]:Int)=n:=by simpa using q
   have:xs.findIdx? (fun (y:Nat)=>decide ((y:Int)=n))=some i:=by
    rw[List.findIdx?_eq_some_iff_getElem];refine ⟨b,by simpa using e,fun j A=>?_⟩
    simp only[decide_eq_true_eq,Bool.not_eq_true];refine fun e=>c _ ?_ e;rw[List.mem_take_iff_getElem];exact ⟨j,by omega,rfl⟩
   unfold Ti at h;rw[this] at h;exact h
  .have e: ¬(xs[i]:Int)=n:=by simpa using q
   (try simp only[↓M1,M1,Mb,reduceIte])
   refine Z5 o b ⟨rfl,fun y k=>?_⟩;rw[List.take_add_one,List.getElem?_eq_getElem b,Option.toList_some,List.mem_append,List.mem_singleton] at k
   rcases k with k | rfl
   .exact c y k
   .exact e
 .have b: ¬i<xs.length:=by simpa using f
  rw[List.take_of_length_le Q5] at c
  have:xs.findIdx? (fun (y:Nat)=>decide ((y:Int)=n))=none:=by
   rw[List.findIdx?_eq_none_iff];intro y k
   simpa using c y k
  unfold Ti at h;rw[this] at h;exact h)
end Go.Proofs.Y
namespace Go.Hm
open Go.Kd
variable {l : List Cla} {cs : List Cel}
theorem Ca {x:Nat} (b:x<cs.length) {j:Nat} (c:j<(N1 l cs x).length):(N1 l cs x)[j]<cs[x].vals.length:=by
 have a:(N1 l cs x)[j]∈N1 l cs x:=List.getElem_mem c;generalize (N1 l cs x)[j]=s at*;unfold N1 at a;have d:=List.mem_range.1 (List.mem_filter.1 a).1
 have en:Yk cs (x:Int)=cs[x].vals.length:=by
  unfold Yk Lx;rw[if_pos (W9.2 ⟨x,rfl,b⟩),L4 b];simp
 omega
theorem Q73 {x:Nat} (a:x<cs.length):(N1 l cs x).length=(Y9 l cs x).length:=by
 rw[<-Iq a]
 simp[I9]
theorem Q9w {x:Nat} (a:x<cs.length) {j:Nat} (b:j<(N1 l cs x).length) (c:j<(Y9 l cs x).length):(Y9 l cs x)[j]=cs[x].vals[(N1 l cs x)[j]]'(Ca a b):=by
 have f:=Ca a b;have e:My cs x=cs[x]:=by unfold My;rw[List.getD_eq_getElem?_getD,List.getElem?_eq_getElem a];rfl
 have d:(Y9 l cs x)[j]? =some (cs[x].vals[(N1 l cs x)[j]]):=by
  unfold Y9;rw[List.getElem?_map,<-Q3K a,List.getElem?_eq_getElem b,e];simp only[Option.map_some];rw[List.getD_eq_getElem?_getD,List.getElem?_eq_getElem f];rfl
 exact Option.some.inj ((List.getElem?_eq_getElem c).symm.trans d)
end Go.Hm
namespace Go.Proofs.Y
open Go.Emb Go.RowKit Go.Kd Go.Hm
variable {w w' : World} {K : Value -> World -> Prop} {σ σ' : Q2} {room : Int} {cs : List Cel} {ds : List Value} {l : List Cla}
set_option maxHeartbeats 2000000 in
theorem Q7U {v:Val} (hs:X7 w σ) (hh:D6 σ (l,room,cs) ds) (ok:Ok l) (an:l.length<=1000) (af: ∀c∈cs,GoodC W4 l cs c) (hc:cs.length<=1048576) (hN: ∀r,Yk cs r<=1000000000000)
 (h: ∀v' w' σ',Stp w σ w' σ'->Sl 1 H6 σ' v' (ints (L6 l cs v))->K v' w'):Q0 P F.aP [.agg ds.toArray, .agg [I v.sort,I v.n,S v.s,I v.ref].toArray] w K:=Q1t (by
 have av:=hh;obtain ⟨lv,cv,rfl,hl,ah⟩:=D6.out hh;unfold Hk;simp only[Y3,X3,L9];unfold Y0 X4 X5;refine Z4 hs fun q w1 σ1 k1 hq=>?_;refine Z4 k1.sat fun p w2 σ2 k2 hp=>?_;have S2:=k1.trans k2;refine Zh (R:=H6) (sz:=1) (Stp.refl k2.sat) [] [] rfl rfl U5 (by rfl) trivial fun v3 w3 C A3 _=>?_
 have W:=(hq.up k2).up C;have aq:=hp.up C;have Z:=U9 av ⟨(S2.trans C).le⟩;have H:=ah.up (S2.trans C);refine Y7 C.sat W rfl ?_;refine Y7 C.sat aq rfl ?_;refine Q6i C.sat Z fun w4 σ4 k4=>?_;rw[X4w];have ap: ∀p x,W1 cs p=some x->x<=1048576:=fun p x e=>by have:=Yt p x e;omega
 refine Q9V (xs:=[]) (C.trans k4) (A3.up k4) U5 (ap _) fun v5 w5 σ5 S5 ay A5=>?_;have u:SLe σ2 σ5:=(⟨k4.le⟩:SLe σ2 σ4).more ay;have ar:=W.lift u;have aw:=U9 Z u;have J:=H.lift u;clear hq hp W aq Z av hh hl ah H A3 k4 ay C;have A5:W7 w2.heap.size T.f 1 H6 σ5 w5 v5 (ints (Z6 (Y9 l cs) (W1 cs) v 0)):=A5;refine C4 cs.length (fun i x w'=> ∃σ',SLe σ5 σ'/\Stp w2 σ2 w' σ'/\W7 w2.heap.size T.f 1 H6 σ' w' x (ints (Z6 (Y9 l cs) (W1 cs) v i))) ⟨σ5,SLe.refl _,S5,A5⟩ fun i a w7 d hi k=>?_;obtain ⟨σ7,ab,S7,A7⟩:=k;have s7:=S7.sat;have ao:=Ps (out:=Y9 l cs) (tq:=W1 cs) (v:=v) Yt i;refine Fx (V6.of_acc A7) ?_;refine J0 ?_;refine Q4 (fun U=>?_) (fun U=>?_)
 .have A:i<(Z6 (Y9 l cs) (W1 cs) v i).length:=by simpa [ints] using U
  have o:=ao _ (List.getElem_mem A)
  have bl:Z6 (Y9 l cs) (W1 cs) v (i+1)=G3 (W1 cs) (Z6 (Y9 l cs) (W1 cs) v i) (Y9 l cs (Z6 (Y9 l cs) (W1 cs) v i)[i]):=by
   rw[Z6,List.getElem?_eq_getElem A]
  have bi:(Z6 (Y9 l cs) (W1 cs) v i).Nodup:=P2 i;have cp:=Ra (out:=Y9 l cs) (tq:=W1 cs) (v:=v) Yt i;generalize Z6 (Y9 l cs) (W1 cs) v i=X at*;have ak:i<(ints X).length:=by simpa using A
  obtain ⟨σf,sf,E,g,_⟩:=(V6.of_acc A7).freeze s7;obtain ⟨c0,e1,_,e3⟩:=g.el ak;obtain ⟨rfl,_⟩:=e3;have ex:(ints X)[i]=((X[i]:Nat):Int):=by simp
  rw[ex] at e1;have m:=(ar.lift ab).lift E;refine U8 sf ?_;refine X0 (V:= .pointer (some (K9 1 a i))) (fun w b=>Z1 (g.up b.stp) ak (Q8 rfl)) ?_;refine X0 (V:= .agg [lv,I room,cv].toArray) (fun w b=>Y7 b.sat (m.up b.stp) rfl (Q8 rfl)) ?_;refine X0 (V:=I (X[i]:Nat)) (fun t w b e=>by subst e;exact Y6 b.sat (e1.up b.stp) rfl (Q8 rfl)) ?_
  rintro _ _ _ w8 ag rfl rfl rfl;have k8:=Stp.of_below s7 ag.stp.bel;have A8:=A7.up k8;have S8:=S7.trans k8;clear g e1 m ag sf E;refine Q5o k8.sat (U9 aw ab) ok an af (hN _) fun sv w9 σ9 k9 aa=>?_;have S9:=S8.trans k9;have A9:=A8.up k9;have z:SLe σ5 σ9:=ab.more ⟨k9.le⟩;have hX:X[i]? =some X[i]:=List.getElem?_eq_getElem A;generalize hx:X[i]=x at*;have ol:(N1 l cs x).length=(Y9 l cs x).length:=Q73 o;have ax:=aa.max;obtain ⟨vv,p1,p2,_⟩:=Sl.elO (J.lift z) o;refine C4 (N1 l cs x).length (fun j y w'=> ∃σ',SLe σ9 σ'/\Stp w2 σ2 w' σ'/\W7 w2.heap.size T.f 1 H6 σ' w' y (ints (G3 (W1 cs) X ((Y9 l cs x).take j)))) ⟨σ9,SLe.refl _,S9,A9⟩ fun j y wA d2 hj k=>?_;obtain ⟨σA,D,SA,AA⟩:=k;have sA:=SA.sat;refine Q7 (aa.lift D) ?_;refine J0 ?_;refine Q4 (fun Q=>?_) (fun Q=>?_)
  .have B:j<(N1 l cs x).length:=by simpa using Q
   have al:j<(Y9 l cs x).length:=by omega
   have co:=Q65 (tq:=W1 cs) (vs:=(Y9 l cs x).take j) Yt bi ao;have bf:(G3 (W1 cs) X ((Y9 l cs x).take j))[i]? =some x:=Lq (Hx _ _) hX;have bj:=Q4U (tq:=W1 cs) (xs:=X) (vs:=Y9 l cs x) al;have O:=Q9w o B al;have M:=Ca o B;generalize G3 (W1 cs) X ((Y9 l cs x).take j)=Y at*;obtain ⟨bh,eY⟩:=List.getElem?_eq_some_iff.1 bf;have L:i<(ints Y).length:=by simpa using bh
   obtain ⟨σf,sf,E,g,_⟩:=(V6.of_acc AA).freeze sA;obtain ⟨c0,e1,_,e3⟩:=g.el L;obtain ⟨rfl,_⟩:=e3;have be:(ints Y)[i]=(x:Int):=by simp[eY]
   rw[be] at e1;have am:j<(ints (N1 l cs x)).length:=by simpa using B
   have f:=D.more E;have N:=aa.lift f;obtain ⟨c1,e4,_,e5⟩:=N.el am;obtain ⟨rfl,_⟩:=e5;have ae:(ints (N1 l cs x))[j]=(((N1 l cs x)[j]:Nat):Int):=by simp
   rw[ae] at e4;have m:=(ar.lift z).lift f;have ai:=(J.lift z).lift f;have br:=p1.lift f;have az:=p2.lift f;have g1:=(Sl.elV az M).1;rw[<-O] at g1;clear O ae;have bk:=U9 aw (z.more f);generalize (N1 l cs x)[j]=sj at*;generalize (Y9 l cs x)[j]=val at*;refine U8 sf ?_;refine X0 (fun w b=>J4 (Q8 rfl)) ?_;refine X0 (V:= .pointer (some (K9 1 y i))) (fun w b=>Z1 (g.up b.stp) L (Q8 rfl)) ?_;refine X0 (V:= .pointer (some (K9 1 sv j))) (fun w b=>Z1 (N.up b.stp) am (Q8 rfl)) ?_;refine X0 (V:= .agg [lv,I room,cv].toArray) (fun w b=>Y7 b.sat (m.up b.stp) rfl (Q8 rfl)) ?_;refine X0 (V:=cv) (fun t w b e=>by subst e;exact ld (i:=2) b.sat (m.up b.stp) rfl (Q8 rfl)) ?_
   refine X0 (V:=I x) (fun t w b e=>by subst e;exact Y6 b.sat (e1.up b.stp) rfl (Q8 rfl)) ?_
   refine X0 (V:= .pointer (some (K9 2 cv x))) (fun t t2 w b e e2=>by subst e;subst e2;exact Z1 (ai.up b.stp) o (Q8 rfl)) ?_
   refine X0 (fun t w b e=>by subst e;exact J4 (Q8 rfl)) ?_
   refine X0 (V:=vv) (fun t w b e=>by subst e;exact ld (i:=1) b.sat (br.up b.stp) rfl (Q8 rfl)) ?_
   refine X0 (V:=I sj) (fun t w b e=>by subst e;exact Y6 b.sat (e4.up b.stp) rfl (Q8 rfl)) ?_
   refine X0 (V:= .pointer (some (K9 4 vv sj))) (fun t t2 w b e e2=>by subst e;subst e2;exact Z1 (az.up b.stp) M (Q8 rfl)) ?_
   refine X0 (V:= .agg [I val.sort,I val.n,S val.s,I val.ref].toArray) (fun t w b e=>by subst e;exact Y7 b.sat (g1.up b.stp) rfl (Q8 rfl)) ?_
   refine X0 (V:=I (Fi cs val)) (fun t t2 w b e e2=>by subst e;subst e2;exact Q6i b.sat (U9 bk ⟨b.stp.le⟩) fun w' σ' hk=>B5 hk.bel rfl) ?_
   rintro _ _ _ _ _ _ _ _ _ _ _ _ _ wB bg rfl rfl rfl rfl rfl rfl rfl rfl rfl rfl rfl rfl rfl;have kB:=Stp.of_below sA bg.stp.bel;rw[X4w];refine Q9V (SA.trans kB) (AA.up kB) Q5 (ap _) fun v5 wC σC SC bq AC=>?_
   (try simp only[↓M1,M1,Mb,reduceIte])
   refine V2 (by simpa using ax) B ⟨σC,D.more bq,SC,?_⟩
   rw[bj];exact AC
  .have:j=(N1 l cs x).length:=by simp at Q;omega
   subst this;rw[ol,List.take_length] at AA
   (try simp only[↓M1,M1,Mb,reduceIte])
   refine V2 Q5 Q5 ⟨σA,z.more D,SA,?_⟩;rw[bl];exact AA
 .have aj:(Z6 (Y9 l cs) (W1 cs) v i).length<=i:=by simp[ints] at U;omega
  obtain ⟨σ8,S8,bm,_⟩:=A7.keep S7;refine h a w7 σ8 (S2.trans S8) ?_;unfold L6;rw[Zq aj hi];exact bm)
end Go.Proofs.Y
namespace Go.Emb
open Go.RowKit Go.Hm
def CA (ds:List Value) (o:Option Obj):Prop:= ∃e,o=some (.cells ds.toArray e (0,0))
structure TwoV (B : Nat) (ds : List Value) (p : Iv) (w w' : World) : Prop where
  kp : Kpt (fun k => B <= k /\ p.1 <= k /\ k < p.2) w w'
  fin : ∀ k, k < w.heap.size -> w'.heap[k]? = w.heap[k]? \/ CA ds (w'.heap[k]?)
variable {P : Program} {w w' w0 : World} {K : Value -> World -> Prop} {σ : Q2} {B : Nat} {zs ds : List Value} {p q : Iv} {v V a b c u : Value}
theorem TwoV.refl:TwoV B ds p w w:=⟨Kpt.refl,fun _ _=> .inl rfl⟩
theorem TwoV.of_below (h:Below w.heap.size w w'):TwoV B ds p w w':=⟨.of_below h,fun k d=> .inl (h.block k d)⟩
theorem X3z {A:((Nat->Iv)->World->World->Prop)->(World->Prop)->Prop} (ds:List Value) (i:Nat) (j:X7 w σ) (h:A (fun l=>TwoV w.heap.size ds (l i)) (fun w'=>Hst w σ w' σ)):drR w A:=
 X7X _ _ ⟨Stp.of_below j (Below.refl _ _).drew⟩ (fun l w1 m d f=>⟨Stp.of_below j ⟨f.kp.os.trans d.stp.bel.os,f.kp.tape.trans d.stp.bel.tape,f.kp.output.trans d.stp.bel.output,Nat.le_trans d.stp.bel.size f.kp.size,fun k g=>(f.kp.block k (Nat.lt_of_lt_of_le g d.stp.bel.size) fun e=>by have:=e.1;omega).trans (d.stp.bel.block k g)⟩⟩) (fun _ _ _ h=>h.kp.size) h
theorem G0 {T:(Nat->Iv)->World->World->Prop} {A d:(Value->World->Prop)->Prop} {V:Value} (h:A (fun v _=>V=v)) (e:d (fun v _=>V=v)):Qg T A d:=X6D _ (fun _ _ _ _ _ h _=>h) h e
theorem Wb (h:V=v):dk (TwoV B ds p) (fun v _=>V=v) w v w:=⟨.refl,h⟩
def Q0e (B:Nat) (zs ds:List Value) (p:Iv) (v:Value) (w:World):Prop:= ∃g,v= .pointer (some ⟨g,0,none⟩)/\B<=g/\p.1<=g/\g<p.2/\p.2<=w.heap.size/\(CA zs (w.heap[g]?)\/CA ds (w.heap[g]?))
def Q2C (B:Nat) (zs:List Value) (p:Iv) (v:Value) (w:World):Prop:= ∃g,v= .pointer (some ⟨g,0,none⟩)/\B<=g/\p.1<=g/\g<p.2/\p.2<=w.heap.size/\CA zs (w.heap[g]?)
def Q0f (ds xs:List Value) (_:Value) (w:World):Prop:= ∃g,xs.getD 0 undef= .pointer (some ⟨g,0,none⟩)/\CA ds (w.heap[g]?)
theorem Q0e.st:Xy (TwoV B ds p) (Q0e B zs ds p):=by
 rintro v w w' ⟨g,rfl,f,h,i,j,k⟩ d;refine ⟨g,rfl,f,h,i,Nat.le_trans j d.kp.size,?_⟩
 rcases d.fin g Q5 with e | e
 .rw[e];exact k
 .exact .inr e
theorem Q2C.st (h:p.2<=q.1\/q.2<=p.1):Xy (TwoV B ds p) (Q2C B zs q):=by
 rintro v w w' ⟨g,rfl,f,i,j,k,l⟩ d;refine ⟨g,rfl,f,i,j,Nat.le_trans k d.kp.size,?_⟩;rw[d.kp.block g Q5 fun e=>by omega]
 exact l
theorem CA.lt {k:Nat} (h:CA ds (w.heap[k]?)):k<w.heap.size:=by
 obtain ⟨e,h⟩:=h;exact (Array.getElem?_eq_some_iff.1 h).1
theorem Q0f.st {xs:List Value}:Xy (TwoV B ds p) (Q0f ds xs):=by
 rintro v w w' ⟨g,f,d⟩ h;refine ⟨g,f,?_⟩
 rcases h.fin g d.lt with e | e
 .rw[e];exact d
 .exact e
theorem X17 {t:TypeId} {sz d:Nat} {z:Value} [tz:TZ P t sz d z] (h:K (.pointer (some ⟨w.heap.size,0,none⟩)) (w.alloc (.cells z.cells t))):G9 P t w K:=by
 unfold G9
 have:(Instr.alloc t true (.tuple #[])).run P w= .ok (.pointer (some ⟨w.heap.size,0,none⟩)) (w.alloc (.cells z.cells t)):=by
  simp[Instr.alloc,Xh tz,newVar,newRow]
 rw[Z0 this];exact h
theorem X7Q {t:TypeId} {sz d:Nat} {z:Value} [tz:TZ P t sz d z] (e:B<=w.heap.size) (f:z.cells.toList=zs):G9 P t w (dkR (TwoV B ds p) (Q0e B zs ds) w):=by
 subst f;exact
 X17 ⟨.of_below ((Below.refl _ _).alloc (Nat.le_refl _) _),w.heap.size,rfl,e,Nat.le_refl _,(Array.getElem?_eq_some_iff.1 (heap_alloc_new w _)).1,Nat.le_refl _, .inl ⟨_,heap_alloc_new w _⟩⟩
theorem X7R {t:TypeId} {sz d:Nat} {z:Value} [tz:TZ P t sz d z] (e:B<=w.heap.size) (f:z.cells.toList=zs):G9 P t w (dkR (TwoV B ds p) (Q2C B zs) w):=by
 subst f;exact
 X17 ⟨.of_below ((Below.refl _ _).alloc (Nat.le_refl _) _),w.heap.size,rfl,e,Nat.le_refl _,(Array.getElem?_eq_some_iff.1 (heap_alloc_new w _)).1,Nat.le_refl _,⟨_,heap_alloc_new w _⟩⟩
theorem X7S {t:TypeId} {sz f:Nat} {z:Value} [tz:TZ P t sz f z] (s:X7 w0 σ) (C:Hst w0 σ w σ) (r:Q0e w0.heap.size zs ds p a w) (y:zs.length=sz) (h:ds.length=sz) (j: ∀u∈ds,u.oneCell'=true):
 J9 P t a (.agg ds.toArray) w (dk (TwoV w0.heap.size ds p) (Q0f ds [a,c]) w):=by
 obtain ⟨g,rfl,i,n,o,A,g5⟩:=r;have l:σ g=none:=s.none i
 have d: ∀w',Upd w g w'->Y8 σ w' g ds->dk (TwoV w0.heap.size ds p) (Q0f ds [.pointer (some ⟨g,0,none⟩),c]) w undef w':=fun w' u m=>by
  refine ⟨⟨Kpt.of_upd u ⟨i,n,o⟩,fun k D=>?_⟩,g,rfl,m.2⟩
  by_cases e:k=g
  .subst e;exact .inr m.2
  .exact .inl (u.block k e)
 rcases g5 with g5 | g5
 .exact Vk ⟨l,g5⟩ y h (by rw[List.all_toArray];exact List.all_eq_true.2 j) d
 .exact Vk ⟨l,g5⟩ h h (by rw[List.all_toArray];exact List.all_eq_true.2 j) d
theorem X1N {t:TypeId} {sz l:Nat} {z:Value} {n:Nat->Iv} {i j:Nat} [tz:TZ P t sz l z] (d:List Value) (hA:Ap n) (m:i≠j) (D:X7 w0 σ) (W:Hst w0 σ w σ) (Q:Q0e w0.heap.size zs ds (n i) a w) (R:Q2C w0.heap.size zs (n j) b w) (U:Q0f ds [a,c] u w)
 (Z:zs.length=sz) (X:d.length=sz) (Y: ∀u∈d,u.oneCell'=true):
 ∃g k,a= .pointer (some ⟨g,0,none⟩)/\b= .pointer (some ⟨k,0,none⟩)/\ ∀J:World->Prop,(∀w' A,Stp w0 σ w' A->J7 A ⟨g,0,none⟩ ds->J7 A ⟨k,0,none⟩ d->J w')->J9 P t b (.agg d.toArray) w fun _ w=>J w:=by
 obtain ⟨g,rfl,C,g2,g3,g4,_⟩:=Q;obtain ⟨k,rfl,o,k2,k3,k4,k5⟩:=R;obtain ⟨O,e,N⟩:=U;have e:Value.pointer (some ⟨g,0,none⟩)= .pointer (some ⟨O,0,none⟩):=e;cases e;refine ⟨g,k,rfl,rfl,fun J h=>?_⟩;have E:g≠k:=fun e=>by have:=hA i j m;omega
 have mg:Y8 σ w g ds:=⟨D.none C,N⟩;have mk:Y8 σ w k zs:=⟨D.none o,k5⟩;refine Vk mk Z X (by rw[List.all_toArray];exact List.all_eq_true.2 Y) fun w' u f=>?_
 have s:=mg.upd u E;have H:Stp w0 σ w' σ:=u.stp W.stp o mk.1;obtain ⟨σ1,L,l1,ad,o1⟩:=s.keep H C;have y:Y8 σ1 w' k d:=⟨(o1 k fun e=>E e.symm).trans f.1,f.2⟩;obtain ⟨σ2,M,l2,r,_⟩:=y.keep L o;exact h w' σ2 M (l1.lift ⟨r⟩) l2
end Go.Emb
namespace Go.Hm
theorem X36 {α:Type} {xs:List α} {f:α->Bool} {i:Nat} (a:i<xs.length) (h:f xs[i]=false):xs.all f=false:=by
 rw[List.all_eq_false];exact ⟨xs[i],List.getElem_mem a,by simp[h]⟩
theorem Q8D {α:Type} {xs:List α} {f:α->Bool} {i:Nat} (c:i<xs.length) (a:(xs.take i).all f=true) (b:f xs[i]=true):(xs.take (i+1)).all f=true:=by
 rw[List.take_add_one,List.getElem?_eq_getElem c,List.all_append,a]
 simp[b]
end Go.Hm
namespace Go.Proofs.Y
open Go.Emb Go.RowKit Go.Kd Go.Hm
variable {w w' : World} {K : Value -> World -> Prop} {σ σ' : Q2} {ra rb : Int} {ca cb : List Cel} {da db : List Value} {l : List Cla} {v u : Val}
theorem X1w {p:Val}: ∀u∈[I p.sort,I p.n,S p.s,I p.ref],u.oneCell'=true:=by
 intro u a
 simp at a
 rcases a with rfl | rfl | rfl | rfl<;>rfl
theorem X1v {k:X2} {v:Value} {xs:List Val} (h:Sl 4 E4 σ v xs): ∀u∈[S k,v],u.oneCell'=true:=by
 intro u a
 simp at a
 rcases a with rfl | rfl
 .rfl
 .exact Xp h
theorem X3p {x:Nat} {v:Value} {cs:List Cel} (h:Sl 2 Xi σ v cs) (b:x<cs.length): ∃a,J7 σ (K9 2 v x) [S (Uf cs x),a]/\Sl 4 E4 σ a cs[x].vals:=by
 obtain ⟨a,c,d,_⟩:=Sl.elO h b;refine ⟨a,?_,d⟩;unfold Uf My;rw[List.getD_eq_getElem?_getD,List.getElem?_eq_getElem b];exact c
set_option maxRecDepth 9999 in
set_option maxHeartbeats 4000000 in
theorem X2M (hs:X7 w σ) (bw:D6 σ (l,ra,ca) da) (bx:D6 σ (l,rb,cb) db) (ok:Ok l) (N:l.length<=1000) (ga: ∀c∈ca,GoodC W4 l ca c) (gb: ∀c∈cb,GoodC W4 l cb c) (ds:ca.length<=1048576) (e7:cb.length<=1048576) (na: ∀r,Yk ca r<=1000000000000) (nb: ∀r,Yk cb r<=1000000000000)
 (h: ∀w' σ',Stp w σ w' σ'->K (.bool (Q8q l ca cb v u)) w'):
 Q0 P F.am [.agg da.toArray, .agg [I v.sort,I v.n,S v.s,I v.ref].toArray, .agg db.toArray, .agg [I u.sort,I u.n,S u.s,I u.ref].toArray] w K:=Q1s (by
 have bg:=bw;have bi:=bx;obtain ⟨la,ab,rfl,_,cz⟩:=D6.out bw;obtain ⟨lb,ac,rfl,_,c3⟩:=D6.out bx;unfold Hj;simp only[Y3,X3,L9];unfold Z8 Y1 V3 X6 Y0 X4 X5;refine Z4 hs fun qa w1 σ1 k1 df=>?_;refine Z4 k1.sat fun qv w2 σ2 k2 dh=>?_;refine Z4 k2.sat fun qb w3 σ3 k3 dg=>?_;refine Z4 k3.sat fun qu w4 σ4 k4 a1=>?_;have S4:=((k1.trans k2).trans k3).trans k4;have ah:=((df.up k2).up k3).up k4;have O:=(dh.up k3).up k4;have aj:=dg.up k4;have ak:=U9 bg ⟨S4.le⟩;have al:=U9 bi ⟨S4.le⟩;have s4:=k4.sat;clear k1 k2 k3 k4 df dh dg bw bx bg bi;refine J4 ?_;refine ld (i:=0) s4 O rfl ?_;refine P8 ?_;unfold Q8q at h
 have plain:v.sort≠4\/u.sort≠4->Q6 P T.d (.pointer (some qv)) w4 fun fd w=>Q6 P T.d (.pointer (some qu)) w fun fe w=>Z9 P .eql T.d (.tmp 27) (.tmp 28) fd fe w fun ff w=>K ff w:=fun hp=>by
  rw[if_pos hp] at h;refine Y7 s4 O rfl ?_;refine Y7 s4 a1 rfl ?_;refine Mi ?_;exact h _ _ S4
 by_cases ev:v.sort=4
 case neg=>
  rw[decide_eq_false ev,Bool.not_false]
  (repeat refine Hd.h ?_)
  refine Z3 ?_;exact plain (.inl ev)
 rw[decide_eq_true ev,Bool.not_true]
 (repeat refine Hd.h ?_)
 refine ld (i:=0) s4 a1 rfl ?_
 (repeat refine Hd.h ?_)
 refine P8 ?_
 (repeat refine Hd.h ?_)
 by_cases eu:u.sort=4
 case neg=>
  rw[decide_eq_false eu,Bool.not_false];refine Z3 ?_;exact plain (.inr eu)
 rw[decide_eq_true eu,Bool.not_true];refine Z7 ?_;rw[if_neg (by rintro (e | e);exact e ev;exact e eu)] at h
 clear plain;refine U8 s4 ?_;refine X0 (V:= .agg [la,I ra,ab].toArray) (fun w a=>Y7 a.sat (ah.up a.stp) rfl (Q8 rfl)) ?_;refine X0 (V:= .agg [I v.sort,I v.n,S v.s,I v.ref].toArray) (fun w a=>Y7 a.sat (O.up a.stp) rfl (Q8 rfl)) ?_
 refine Um (w:=w4) (σ:=σ4) (Φ:=fun σ' v'=>Sl 1 H6 σ' v' (ints (L6 l ca v))) (fun t t2 w a e e2=>by
  subst e;subst e2;exact Q7U a.sat (U9 ak ⟨a.stp.le⟩) ok N ga ds na fun v' w' σ' hk b9=>Eb a hk b9) ?_
 refine X0 (V:= .agg [lb,I rb,ac].toArray) (fun w a=>Y7 a.sat (aj.up a.stp) rfl (Q8 rfl)) ?_;refine X0 (V:= .agg [I u.sort,I u.n,S u.s,I u.ref].toArray) (fun w a=>Y7 a.sat (a1.up a.stp) rfl (Q8 rfl)) ?_;rintro _ _ xv _ _ w5 es rfl rfl ⟨σ5,k5,hX⟩ rfl rfl;refine Q7U k5.sat (U9 al ⟨k5.le⟩) ok N gb e7 nb fun yv w6 σ6 k6 hY=>?_;have S6:=(S4.trans k5).trans k6;have aq:=k5.trans k6;have az:=hX.up k6;have bc:=ah.up aq;have be:=aj.up aq;have bh:=U9 ak ⟨aq.le⟩;have bj:=U9 al ⟨aq.le⟩;have c0:=cz.up S6;have c4:=c3.up S6;have em: ∀x∈L6 l ca v,x<ca.length:=fun x hx=>Q5n hx;have er: ∀x∈L6 l cb u,x<cb.length:=fun x hx=>Q5n hx;have f6:(L6 l ca v).length<=1048576:=Nat.le_trans Q1v ds;clear hX k5 k6 aq es ah O aj a1 ak al s4 cz c3 S4;generalize L6 l ca v=X at*;generalize L6 l cb u=Y at*;have bp:(ints X).length=X.length:=by simp
 have eg:(ints Y).length=Y.length:=by simp
 refine Q7 az ?_;refine Q7 hY ?_;rw[bp,eg];refine P8 ?_
 by_cases el:X.length=Y.length
 case neg=>
  rw[decide_eq_false (by omega: ¬(X.length:Int)=(Y.length:Int)),Bool.not_false]
  (repeat refine Hd.h ?_)
  refine Z3 ?_;rw[if_pos (.inl el)] at h;exact h _ _ S6
 rw[decide_eq_true (by omega:(X.length:Int)=(Y.length:Int)),Bool.not_true]
 (repeat refine Hd.h ?_)
 refine Q7 az ?_;rw[bp]
 (repeat refine Hd.h ?_)
 refine B1 ?_
 (repeat refine Hd.h ?_)
 by_cases b:X.length=0
 .rw[decide_eq_true (by omega:(X.length:Int)=0)]
  refine Z3 ?_;rw[if_pos (.inr b)] at h;exact h _ _ S6
 rw[decide_eq_false (by omega: ¬(X.length:Int)=0)]
 refine Z7 ?_;rw[if_neg (by rintro (e | e);exact e el;exact b e)] at h
 have s6:=S6.sat;have zl:(X.zip Y).length=X.length:=by simp[el]
 refine V7 X.length (fun i w'=> ∃σ',Stp w6 σ6 w' σ'/\((X.zip Y).take i).all (fun p=>Fk l X Y ca cb p.1 p.2)=true) ⟨σ6,Stp.refl s6,by simp⟩ fun i w9 d hi af=>?_
 obtain ⟨σ9,Z,ae⟩:=af;have s9:=Z.sat;have a0:=az.up Z;have bq:=hY.up Z;refine Q7 a0 ?_;rw[bp];refine J0 ?_;refine Q4 (fun bv=>?_) (fun bv=>?_)
 .have et:i<X.length:=by simpa using bv
  have ew:i<Y.length:=by omega
  have bz:i<(ints X).length:=by omega
  have b0:i<(ints Y).length:=by omega
  have c5:i<(X.zip Y).length:=by omega
  have bd:=bc.up Z;have bf:=be.up Z;have ba:=c0.up Z;have bb:=c4.up Z;obtain ⟨c1,ex,_,c2⟩:=a0.el bz;obtain ⟨rfl,_⟩:=c2;obtain ⟨c1,ey,_,c2⟩:=bq.el b0;obtain ⟨rfl,_⟩:=c2;have cs:(ints X)[i]=((X[i]:Nat):Int):=by simp
  have ct:(ints Y)[i]=((Y[i]:Nat):Int):=by simp
  rw[cs] at ex;rw[ct] at ey;have U:=em _ (List.getElem_mem et);have W:=er _ (List.getElem_mem ew)
  have aa: ∀w' σ',Stp w9 σ9 w' σ'->Fk l X Y ca cb X[i] Y[i]=false->K (.bool false) w':=fun w' σ' k e=>by
   have:=h w' σ' ((S6.trans Z).trans k)
   rwa [X36 (f:=fun p=>Fk l X Y ca cb p.1 p.2) c5 (by simpa using e)] at this
  have ad: ∀w' σ',Stp w9 σ9 w' σ'->Fk l X Y ca cb X[i] Y[i]=true-> ∃σ',Stp w6 σ6 w' σ'/\((X.zip Y).take (i+1)).all (fun p=>Fk l X Y ca cb p.1 p.2)=true:=fun w' σ' k e=>⟨σ',Z.trans k,Q8D c5 ae (by simpa using e)⟩
  clear cs ct;generalize X[i]=x at*;generalize Y[i]=y at*;obtain ⟨va,pa,dl⟩:=X3p ba U;obtain ⟨vb,pb,dm⟩:=X3p bb W;unfold Fk at aa ad;refine X3z [S (Uf ca x),va] 16 s9 ?_;refine G0 (fun g _ w a=>J4 (Wb rfl)) ?_;refine G0 (V:= .pointer (some (K9 1 xv i))) (fun g _ w a=>Z1 (a0.up a.stp) bz (Wb rfl)) ?_;refine G0 (fun g _ w a=>J4 (Wb rfl)) ?_;refine G0 (V:= .pointer (some (K9 1 yv i))) (fun g _ w a=>Z1 (bq.up a.stp) b0 (Wb rfl)) ?_;refine G0 (V:=ab) (fun J g _ w a b=>by subst b;exact ld (i:=2) a.sat (bd.up a.stp) rfl (Wb rfl)) ?_
  refine G0 (V:=I x) (fun J g _ w a b=>by subst b;exact Y6 a.sat (ex.up a.stp) rfl (Wb rfl)) ?_
  refine G0 (V:= .pointer (some (K9 2 ab x))) (fun J t1 g _ w a b e1=>by subst b;subst e1;exact Z1 (ba.up a.stp) U (Wb rfl)) ?_
  refine G0 (V:= .agg [S (Uf ca x),va].toArray) (fun J g _ w a b=>by subst b;exact Y7 a.sat (pa.up a.stp) rfl (Wb rfl)) ?_
  refine G0 (V:=ac) (fun J g _ w a b=>by subst b;exact ld (i:=2) a.sat (bf.up a.stp) rfl (Wb rfl)) ?_
  refine G0 (V:=I y) (fun J g _ w a b=>by subst b;exact Y6 a.sat (ey.up a.stp) rfl (Wb rfl)) ?_
  refine G0 (V:= .pointer (some (K9 2 ac y))) (fun J t1 g _ w a b e1=>by subst b;subst e1;exact Z1 (bb.up a.stp) W (Wb rfl)) ?_
  refine G0 (V:= .agg [S (Uf cb y),vb].toArray) (fun J g _ w a b=>by subst b;exact Y7 a.sat (pb.up a.stp) rfl (Wb rfl)) ?_
  refine Q3X (Q0e w9.heap.size [S [], .slice none 0 0] [S (Uf ca x),va]) (fun _ _=>Q0e.st) (fun g _ w a=>X7Q a.stp.bel.size rfl) ?_;refine Q3X (Q2C w9.heap.size [S [], .slice none 0 0]) (fun g hA=>Q2C.st (hA 16 17 W3)) (fun g _ w a=>X7R a.stp.bel.size rfl) ?_;refine Q91 (Q0f [S (Uf ca x),va]) (fun _ _ _=>Q0f.st) (fun t1 t2 g _ w a f e=>by subst e;exact X7S s9 a f rfl rfl (X1v dl)) ?_
  rintro _ _ _ _ _ _ _ _ _ _ _ _ gk gl fg g hA go a9 rfl rfl rfl rfl rfl rfl rfl rfl rfl rfl rfl rfl f1 f2 f3;obtain ⟨g1,g2,rfl,rfl,am⟩:=X1N (P:=P) (t:=T.n) [S (Uf cb y),vb] hA W3 s9 a9 f1 f2 f3 rfl rfl (X1v dm);refine am _ fun fh ch A lc bl=>?_;clear am;have dt:=A.sat;have a7:=a0.up A;have a8:=bq.up A;have ag:=bd.up A;have ai:=bf.up A;have a5:=ex.up A;have a6:=ey.up A;have b5:=U9 bh (⟨(Z.trans A).le⟩:SLe σ6 ch);have b7:=U9 bj (⟨(Z.trans A).le⟩:SLe σ6 ch);refine U8 dt ?_;refine X0 (V:= .pointer (some (K9 1 xv i))) (fun w a=>Z1 (a7.up a.stp) bz (Q8 rfl)) ?_;refine X0 (V:= .pointer (some (K9 1 yv i))) (fun w a=>Z1 (a8.up a.stp) b0 (Q8 rfl)) ?_;refine X0 (V:= .agg [la,I ra,ab].toArray) (fun w a=>Y7 a.sat (ag.up a.stp) rfl (Q8 rfl)) ?_;refine X0 (V:=I x) (fun J w a b=>by subst b;exact Y6 a.sat (a5.up a.stp) rfl (Q8 rfl)) ?_
  refine Um (w:=fh) (σ:=ch) (Φ:=fun σ' v'=>Sl 1 H6 σ' v' (ints (N1 l ca x))) (fun t t2 w a e e2=>by
   subst e;subst e2;exact Q5o a.sat (U9 b5 ⟨a.stp.le⟩) ok N ga (na _) fun v' w' σ' hk b9=>Eb a hk b9) ?_
  refine X0 (V:= .agg [lb,I rb,ac].toArray) (fun w a=>Y7 a.sat (ai.up a.stp) rfl (Q8 rfl)) ?_;refine X0 (V:=I y) (fun t w a e=>by subst e;exact Y6 a.sat (a6.up a.stp) rfl (Q8 rfl)) ?_
  rintro _ _ _ _ s1 _ _ gr cw rfl rfl rfl rfl ⟨gv,cc,di⟩ rfl rfl;refine Q5o cc.sat (U9 b7 ⟨cc.le⟩) ok N gb (nb _) fun s2 a2 ay cd dj=>?_;have ap:=cc.trans cd;have o:=di.up cd;have cf:=cd.sat;have H:=A.trans ap;have Q:=lc.up ap;have R:=bl.up ap;clear a9 cw di ex ey a5 a6 lc bl ag ai a7 a8 dt;refine J4 ?_;refine ld (i:=0) cf Q rfl ?_;refine J4 ?_;refine ld (i:=0) cf R rfl ?_;refine Jn ?_
  by_cases ek:Uf ca x=Uf cb y
  case neg=>
   rw[decide_eq_false ek,Bool.not_false]
   (repeat refine Hd.h ?_)
   refine Z3 ?_;exact aa _ _ H (by rw[decide_eq_false ek];rfl)
  rw[decide_eq_true ek,Bool.not_true]
  (repeat refine Hd.h ?_)
  have e9:(N1 l ca x).length=(Y9 l ca x).length:=Q73 U;have fb:(N1 l cb y).length=(Y9 l cb y).length:=Q73 W;refine Q7 o ?_
  (repeat refine Hd.h ?_)
  refine Q7 dj ?_
  (repeat refine Hd.h ?_)
  refine P8 ?_
  (repeat refine Hd.h ?_)
  have a4:(ints (N1 l ca x)).length=(Y9 l ca x).length:=by simp[e9]
  have cp:(ints (N1 l cb y)).length=(Y9 l cb y).length:=by simp[fb]
  have gc:=o.max;rw[a4,cp]
  by_cases en:(Y9 l ca x).length=(Y9 l cb y).length
  case neg=>
   rw[decide_eq_false (by omega: ¬((Y9 l ca x).length:Int)=((Y9 l cb y).length:Int)),Bool.not_false]
   refine Z3 ?_;exact aa _ _ H (by rw[decide_eq_false en];simp)
  rw[decide_eq_true (by omega:((Y9 l ca x).length:Int)=((Y9 l cb y).length:Int)),Bool.not_true]
  refine Z7 ?_;rw[decide_eq_true ek,decide_eq_true en] at aa ad;have gu:((Y9 l ca x).zip (Y9 l cb y)).length=(Y9 l ca x).length:=by simp[en]
  refine V7 (Y9 l ca x).length (fun j w'=> ∃σ',Stp a2 ay w' σ'/\(((Y9 l ca x).zip (Y9 l cb y)).take j).all (fun z=>prB X Y ca cb z.1 z.2)=true) ⟨ay,Stp.refl cf,by simp⟩ fun j ax d2 hj af=>?_
  obtain ⟨ci,C,L⟩:=af;have cg:=C.sat;have ar:=H.trans C;have o:=o.up C;have bk:=dj.up C;refine Q7 o ?_;rw[a4];refine J0 ?_;refine Q4 (fun bu=>?_) (fun bu=>?_)
  .have c8:j<(Y9 l ca x).length:=by simpa using bu
   have c9:j<(Y9 l cb y).length:=by omega
   have b1:j<(N1 l ca x).length:=by omega
   have b2:j<(N1 l cb y).length:=by omega
   have c6:j<(ints (N1 l ca x)).length:=by omega
   have c7:j<(ints (N1 l cb y)).length:=by omega
   have dc:j<((Y9 l ca x).zip (Y9 l cb y)).length:=by omega
   have Q:=Q.up C;have R:=R.up C;have an:=(dl.up H).up C;have ao:=(dm.up H).up C;obtain ⟨c1,cq,_,c2⟩:=o.el c6;obtain ⟨rfl,_⟩:=c2;obtain ⟨c1,cr,_,c2⟩:=bk.el c7;obtain ⟨rfl,_⟩:=c2;have ea:(ints (N1 l ca x))[j]=(((N1 l ca x)[j]:Nat):Int):=by simp
   have eb:(ints (N1 l cb y))[j]=(((N1 l cb y)[j]:Nat):Int):=by simp
   rw[ea] at cq;rw[eb] at cr;have gp:=(Sl.elV an (Ca U b1)).1;have gq:=(Sl.elV ao (Ca W b2)).1;rw[<-Q9w U b1 c8] at gp;rw[<-Q9w W b2 c9] at gq
   have D: ∀w' σ',Stp ax ci w' σ'->prB X Y ca cb (Y9 l ca x)[j] (Y9 l cb y)[j]=false->K (.bool false) w':=fun w' σ' k e=>
    aa w' σ' (ar.trans k) (by rw[X36 (f:=fun z=>prB X Y ca cb z.1 z.2) dc (by simpa using e)];rfl)
   have m: ∀w' σ',Stp ax ci w' σ'->prB X Y ca cb (Y9 l ca x)[j] (Y9 l cb y)[j]=true-> ∃σ',Stp a2 ay w' σ'/\(((Y9 l ca x).zip (Y9 l cb y)).take (j+1)).all (fun z=>prB X Y ca cb z.1 z.2)=true:=fun w' σ' k e=>⟨σ',C.trans k,Q8D dc L (by simpa using e)⟩
   generalize (Y9 l ca x)[j]=p at*;generalize (Y9 l cb y)[j]=q at*;unfold prB at D m;refine Yu (fun _ w'=> ∃σ',Stp a2 ay w' σ'/\(((Y9 l ca x).zip (Y9 l cb y)).take (j+1)).all (fun z=>prB X Y ca cb z.1 z.2)=true) ?_ (fun z dd fi hz=>?_)
   .refine X3z [I p.sort,I p.n,S p.s,I p.ref] 16 cg ?_
    refine G0 (fun g _ w a=>J4 (Wb rfl)) ?_;refine G0 (V:= .pointer (some (K9 1 s1 j))) (fun g _ w a=>Z1 (o.up a.stp) c6 (Wb rfl)) ?_;refine G0 (fun g _ w a=>J4 (Wb rfl)) ?_;refine G0 (V:= .pointer (some (K9 1 s2 j))) (fun g _ w a=>Z1 (bk.up a.stp) c7 (Wb rfl)) ?_;refine G0 (V:=va) (fun J g _ w a b=>by subst b;exact ld (i:=1) a.sat (Q.up a.stp) rfl (Wb rfl)) ?_
    refine G0 (V:=I (N1 l ca x)[j]) (fun J g _ w a b=>by subst b;exact Y6 a.sat (cq.up a.stp) rfl (Wb rfl)) ?_
    refine G0 (V:= .pointer (some (K9 4 va (N1 l ca x)[j]))) (fun J t1 g _ w a b e1=>by subst b;subst e1;exact Z1 (an.up a.stp) (Ca U b1) (Wb rfl)) ?_
    refine G0 (V:= .agg [I p.sort,I p.n,S p.s,I p.ref].toArray) (fun J g _ w a b=>by subst b;exact Y7 a.sat (gp.up a.stp) rfl (Wb rfl)) ?_
    refine G0 (V:=vb) (fun J g _ w a b=>by subst b;exact ld (i:=1) a.sat (R.up a.stp) rfl (Wb rfl)) ?_
    refine G0 (V:=I (N1 l cb y)[j]) (fun J g _ w a b=>by subst b;exact Y6 a.sat (cr.up a.stp) rfl (Wb rfl)) ?_
    refine G0 (V:= .pointer (some (K9 4 vb (N1 l cb y)[j]))) (fun J t1 g _ w a b e1=>by subst b;subst e1;exact Z1 (ao.up a.stp) (Ca W b2) (Wb rfl)) ?_
    refine G0 (V:= .agg [I q.sort,I q.n,S q.s,I q.ref].toArray) (fun J g _ w a b=>by subst b;exact Y7 a.sat (gq.up a.stp) rfl (Wb rfl)) ?_
    refine Q3X (Q0e ax.heap.size [I 0,I 0,S [],I 0] [I p.sort,I p.n,S p.s,I p.ref]) (fun _ _=>Q0e.st) (fun g _ w a=>X7Q a.stp.bel.size rfl) ?_;refine Q3X (Q2C ax.heap.size [I 0,I 0,S [],I 0]) (fun g hA=>Q2C.st (hA 16 17 W3)) (fun g _ w a=>X7R a.stp.bel.size rfl) ?_;refine Q91 (Q0f [I p.sort,I p.n,S p.s,I p.ref]) (fun _ _ _=>Q0f.st) (fun t1 t2 g _ w a f e=>by subst e;exact X7S cg a f rfl rfl X1w) ?_
    rintro _ _ _ _ _ _ _ _ _ _ _ _ gm gn fg g hA fi cx rfl rfl rfl rfl rfl rfl rfl rfl rfl rfl rfl rfl f1 f2 f3;obtain ⟨g3,g4,rfl,rfl,am⟩:=X1N (P:=P) (t:=T.d) [I q.sort,I q.n,S q.s,I q.ref] hA W3 cg cx f1 f2 f3 rfl rfl X1w;refine am _ fun fj a3 E lp lq=>?_;clear am;have aw:=E.sat;refine J4 ?_;refine ld (i:=0) aw lp rfl ?_;refine B1 ?_
    have av: ¬(p.sort=4/\q.sort=4)->Q6 P T.d (.pointer (some ⟨g3,0,none⟩)) fj fun dv w=>Q6 P T.d (.pointer (some ⟨g4,0,none⟩)) w fun dw w=>Z9 P .neq T.d (.tmp 133) (.tmp 134) dv dw w fun dx w=>X1 dx (K (.bool false) w) (∃σ',Stp a2 ay w σ'/\(((Y9 l ca x).zip (Y9 l cb y)).take (j+1)).all (fun z=>prB X Y ca cb z.1 z.2)=true):=fun hn=>by
     rw[if_neg hn] at D m;refine Y7 aw lp rfl ?_;refine Y7 aw lq rfl ?_;refine X7v ?_
     by_cases e:p=q
     .rw[decide_eq_true (show (⟨p.sort,p.n,p.s,p.ref⟩:Val)=⟨q.sort,q.n,q.s,q.ref⟩ from e),Bool.not_true]
      exact Z7 (m _ _ E (decide_eq_true e))
     .rw[decide_eq_false (show¬(⟨p.sort,p.n,p.s,p.ref⟩:Val)=⟨q.sort,q.n,q.s,q.ref⟩ from e),Bool.not_false]
      exact Z3 (D _ _ E (decide_eq_false e))
    by_cases ep:p.sort=4
    case neg=>
     rw[decide_eq_false ep]
     (repeat refine Hd.h ?_)
     refine Z7 ?_;exact av fun e=>ep e.1
    rw[decide_eq_true ep]
    (repeat refine Hd.h ?_)
    refine ld (i:=0) aw lq rfl ?_
    (repeat refine Hd.h ?_)
    refine B1 ?_
    (repeat refine Hd.h ?_)
    by_cases eq:q.sort=4
    case neg=>
     rw[decide_eq_false eq];refine Z7 ?_;exact av fun e=>eq e.2
    rw[decide_eq_true eq];refine Z3 ?_;rw[if_pos ⟨ep,eq⟩] at D m;have B:=(Z.trans ar).trans E;have b3:=bc.up B;have b4:=be.up B;have cu:=az.up B;have cv:=hY.up B;have b6:=U9 bh (⟨B.le⟩:SLe σ6 a3);have b8:=U9 bj (⟨B.le⟩:SLe σ6 a3);refine U8 aw ?_;refine X0 (V:= .agg [la,I ra,ab].toArray) (fun w a=>Y7 a.sat (b3.up a.stp) rfl (Q8 rfl)) ?_;refine X0 (V:= .agg [I p.sort,I p.n,S p.s,I p.ref].toArray) (fun w a=>Y7 a.sat (lp.up a.stp) rfl (Q8 rfl)) ?_;refine X0 (V:=I (Fi ca p)) (fun t t2 w a e e2=>by subst e;subst e2;exact Q6i a.sat (U9 b6 ⟨a.stp.le⟩) fun w' σ' hk=>B5 hk.bel rfl) ?_
    refine X0 (V:=I (Ti X (Fi ca p))) (fun t w a e=>by subst e;exact X4l a.sat (cu.up a.stp) (Q8 rfl)) ?_
    refine X0 (V:= .agg [lb,I rb,ac].toArray) (fun w a=>Y7 a.sat (b4.up a.stp) rfl (Q8 rfl)) ?_;refine X0 (V:= .agg [I q.sort,I q.n,S q.s,I q.ref].toArray) (fun w a=>Y7 a.sat (lq.up a.stp) rfl (Q8 rfl)) ?_;rintro _ _ _ _ _ _ gs cy rfl rfl rfl rfl rfl rfl;have ce:=cy.stp;refine Q6i ce.sat (U9 b8 ⟨ce.le⟩) fun gt gw dn=>?_;have M:=ce.trans dn;refine X4l dn.sat (cv.up M) ?_;refine P8 ?_;cases ee:decide (Ti X (Fi ca p)=Ti Y (Fi cb q)) with
    | true=>exact Z7 (m _ _ (E.trans M) ee)
    | false=>exact Z3 (D _ _ (E.trans M) ee)
   .obtain ⟨a3,E,br⟩:=hz
    (try simp only[↓M1,M1,Mb,reduceIte])
    exact Z5 Q5 c8 ⟨a3,E,br⟩
  .have:j=(Y9 l ca x).length:=by simp at bu;omega
   subst this;rw[List.take_of_length_le Q5] at L;obtain ⟨fk,e4,bs⟩:=ad ax ci ar (by rw[L];rfl)
   (try simp only[↓M1,M1,Mb,reduceIte])
   exact Z5 Q5 Q5 ⟨fk,e4,bs⟩
 .have:i=X.length:=by simp at bv;omega
  subst this;rw[List.take_of_length_le Q5] at ae;have:=h _ _ (S6.trans Z)
  rwa [ae] at this)
theorem Q71:W4 []=true:=by decide+kernel
theorem X9z:P.underlying T.a1=some (.pointer T.t):=by kernel_rfl
theorem X03 (d:Nat) (o:Option Addr):(Op.equalIn (d+1) T.a1 (.pointer o) (.pointer none)).run P w= .ok o.isNone w:=by
 cases o<;>simp[Op.equalIn,run_underlying X9z]
theorem Q6x {a:Addr} {b c:Operand} (h:K (.bool false) w):Z9 P .eql T.a1 b c (.pointer (some a)) (.pointer none) w K:=by
 have e:(Op.equal T.a1 (.pointer (some a)) (.pointer none)).run P w= .ok false w:=X03 9999 _;unfold Z9;rw[Z0 (v:= .bool false) (w':=w) (by simp[eqGuard,Go.binOp,e])]
 exact h
theorem Q6M {a:Nat} {f g:World} {d:Q2} {x:List Cla×Int×List Cel} {c p:List Value} (n:Stp w σ f d) (hB:w.heap.size<=a) (o:Y8 d f a p) (u:Upd f a g) (e:Y8 d g a c):
 ∃b,Stp w σ g b/\J7 b ⟨a,0,none⟩ c/\SLe d b/\ ∀k,k≠a->b k=d k:=by
 obtain ⟨b,h,i,j,m⟩:=e.keep (u.stp n hB o.1) hB;exact ⟨b,h,i,⟨j⟩,m⟩
variable {w0 w1 : World} {σ0 : Q2} {ds : List Value} {room : Int} {cs cs' : List Cel} {hp tv : Value} {B b : Nat} {D : Nat -> Prop} {V v : Value}
theorem X5D {ok:X2->Bool} {r i:Int} {v:Val}:H9 ok l (H9 ok l cs r i v).1 r i v=H9 ok l cs r i v:=by
 by_cases f:C7 cs r i=0
 case neg=>
  have e:H9 ok l cs r i v=(cs,C7 cs r i):=by unfold H9;rw[if_pos f]
  rw[e];exact e
 cases k:K3 ok l cs v (Wl l (Oc cs r).kind i.toNat) with
 | false=>
  have e:H9 ok l cs r i v=(cs,91):=by unfold H9;rw[if_neg (fun h=>h f),k];rfl
  rw[e];exact e
 | true=>
  have e:H9 ok l cs r i v=(Qc cs r i v,0):=by unfold H9;rw[if_neg (fun h=>h f),k];rfl
  rw[e];obtain ⟨j,m,rfl,rfl,a,y⟩:=Dr f;have u:M5 cs (j:Int)=true:=W9.2 ⟨j,rfl,a⟩;have d:Qc cs j m v=cs.set j ⟨cs[j].kind,cs[j].vals.set m v⟩:=by unfold Qc;rw[L4 a,Int.toNat_natCast,Int.toNat_natCast]
  have t:(Qc cs j m v).length=cs.length:=by rw[d];simp
  have c:j<(Qc cs j m v).length:=by rw[t];exact a
  have g:Oc (Qc cs j m v) j=⟨cs[j].kind,cs[j].vals.set m v⟩:=by
   rw[L4 c];simp only[d,List.getElem_set_self]
  have p:M5 (Qc cs j m v) (j:Int)=true:=W9.2 ⟨j,rfl,c⟩
  have q:C7 (Qc cs j m v) j m=0:=by
   unfold C7;rw[p,g];simp only[if_true,List.length_set];rw[if_pos ⟨by omega,by omega⟩]
  have o:K3 ok l (Qc cs j m v) v (Wl l (Oc (Qc cs j m v) j).kind (m:Int).toNat)=true:=by
   rw[g];rw[L4 a] at k;exact Fo (fun _ _=>Q5X u) k
  have s:Qc (Qc cs j m v) j m v=Qc cs j m v:=by
   unfold Qc at g⊢;rw[g];simp only[Int.toNat_natCast,List.set_set];rw[L4 a]
  unfold H9;rw[if_neg (fun h=>h q),o,s];rfl
theorem RowsIs.down {d:Value} (h:RowsIs B D σ' w d cs) (c:SLe σ σ'):RowsIs B D σ w d cs:=by
 obtain ⟨vs,j,a,g,hD⟩:=h.ex;exact ⟨vs,j.down c fun _ _ h=>h,⟨a.1,fun i e f=>(a.2 i e f).down c fun _ _ h=>h⟩,g,hD⟩
theorem HeapIs.down (h:HeapIs B D σ' w hp tv room cs) (c:SLe σ σ'):HeapIs B D σ w hp tv room cs:=by
 obtain ⟨b,f,E,rfl,hB,a,d,hE,hD⟩:=h.ex;refine ⟨b,f,E,rfl,hB,⟨?_,a.2⟩,d.down c,hE,hD⟩;cases e:σ b with
 | none=>rfl
 | some o=>have:=c.le b o e;rw[a.1] at this;cases this
structure SetT (B : Nat) (D : Nat -> Prop) (σ : Q2) (hp tv : Value) (room : Int) (cs' : List Cel) (b : Nat) (ds : List Value) (w w' : World) : Prop where
  kp : Kpt (fun j => j = b \/ D j) w w'
  var : (b < w.heap.size -> w'.heap[b]? = w.heap[b]?) \/ ∃ e, w'.heap[b]? = some (.cells ds.toArray e (0, 0))
  hp : (∀ j, D j -> j < w.heap.size -> w'.heap[j]? = w.heap[j]?) \/ HeapIs B D σ w' hp tv room cs'
structure SetB (B : Nat) (D : Nat -> Prop) (hp tv : Value) (room : Int) (cs cs' : List Cel) (w0 : World) (σ0 : Q2) (w1 : World) (σ : Q2) (b n : Nat) (w' : World) : Prop where
  hst : Hst w0 σ0 w' σ
  kp : Kpt (fun j => j = b \/ D j) w1 w'
  var : ∃ zs, zs.length = n /\ Y8 σ w' b zs
  hp : HeapIs B D σ w' hp tv room cs \/ HeapIs B D σ w' hp tv room cs'
theorem SetB.hs {n:Nat} (h:SetB B D hp tv room cs cs' w0 σ0 w1 σ b n w):Hst w0 σ0 w σ:=h.hst
theorem SetT.of_below (h:Below w.heap.size w w'):SetT B D σ hp tv room cs' b ds w w':=⟨.of_below h, .inl fun a=>h.block b a, .inl fun j _ c=>h.block j c⟩
theorem HeapIs.same (h:HeapIs B D σ w hp tv room cs) (k:Kpt (fun j=>j=b\/D j) w w') (g:X7 w' σ) (c: ¬D b) (d: ∀j,D j->j<w.heap.size->w'.heap[j]? =w.heap[j]?):HeapIs B D σ w' hp tv room cs:=
 h.nx (F:=fun j=>j=b) ⟨⟨k.os,k.tape,k.output,k.size,fun j a f=>by
  by_cases e:D j
  .exact d j e a
  .exact k.block j a fun h=>h.elim f e⟩,SLe.refl _,fun _ _=>rfl,g⟩ fun j a e=>c (e▸a)
theorem SetB.step {n:Nat} (i:w0.heap.size<=b) (hB:w0.heap.size<=B) (d: ¬D b) (m:ds.length=n) (h:SetB B D hp tv room cs cs' w0 σ0 w1 σ b n w) (k:SetT B D σ hp tv room cs' b ds w w'):SetB B D hp tv room cs cs' w0 σ0 w1 σ b n w':=by
 obtain ⟨o,g,c⟩:=h.var
 have f: ∀j,D j->w0.heap.size<=j/\σ j=none:=fun j hj=>by
  rcases h.hp with h | h
  .exact ⟨Nat.le_trans hB (h.mem hj).1,(h.mem hj).2.2⟩
  .exact ⟨Nat.le_trans hB (h.mem hj).1,(h.mem hj).2.2⟩
 have a:Stp w0 σ0 w' σ:=h.hst.stp.kp k.kp fun j hj=>by
  rcases hj with rfl | hj
  .exact ⟨i,c.1⟩
  .exact f j hj
 refine ⟨⟨a⟩,h.kp.trans k.kp,?_,?_⟩
 .rcases k.var with e | e
  .exact ⟨o,g,c.1,by rw[e c.lt];exact c.2⟩
  .exact ⟨ds,m,c.1,e⟩
 .rcases k.hp with e | e
  .rcases h.hp with h3 | h3
   .exact .inl (h3.same k.kp a.sat d e)
   .exact .inr (h3.same k.kp a.sat d e)
  .exact .inr e
theorem X7Z {n:Nat} {A:(World->World->Prop)->(World->Prop)->Prop} (cs':List Cel) (ds:List Value) {d:List Value} (a:Stp w0 σ0 w σ) (g:w0.heap.size<=b) (hB:w0.heap.size<=B) (c: ¬D b) (k:Y8 σ w b d) (j:d.length=n) (i:ds.length=n) (hh:HeapIs B D σ w hp tv room cs)
 (h:A (SetT B D σ hp tv room cs' b ds) (SetB B D hp tv room cs cs' w0 σ0 w σ b n)):dr w A:=
 Pe _ _ ⟨⟨a.trans (Stp.of_below a.sat (Below.refl _ _).drew)⟩, .of_below (Below.refl _ _).drew,⟨d,j,k⟩, .inl (hh.up (Stp.of_below a.sat (Below.refl _ _).drew))⟩ (fun _ _ e f=>e.step g hB c i f) h
theorem Q8X (h:V=v):dk (SetT B D σ hp tv room cs' b ds) (fun v _=>V=v) w v w:=⟨.of_below (Below.refl _ _),h⟩
theorem X6C (a:Below w.heap.size w w') (h:V=v):dk (SetT B D σ hp tv room cs' b ds) (fun v _=>V=v) w v w':=⟨.of_below a,h⟩
theorem X4Y {n:Nat} {t:TypeId} {c:Nat} {z:Value} [tz:TZ P t n c z] {a:(List Value->Value->World->Prop)->Prop} {φ:Value->World->Prop} (r:ds.length=n) (m: ∀u∈ds,u.oneCell'=true) (E: ∀v w,φ v w-> .agg ds.toArray=v)
 (A:a (fun _ _ w=>Y8 σ w b ds)) (i:σ b=none) (d: ¬D b):Gv (SetT B D σ hp tv room cs' b ds) (fun G=> ∀x w,SetB B D hp tv room cs cs' w0 σ0 w1 σ b n w->φ x w->J9 P t (.pointer (some ⟨b,0,none⟩)) x w (dk (SetT B D σ hp tv room cs' b ds) (G [x]) w)) a:=by
 refine Q6Q _ (fun xs v w w' h k=>?_) (fun x w q C=>?_) A
 .rcases k.var with e | e
  .exact ⟨i,by rw[e h.lt];exact h.2⟩
  .exact ⟨i,e⟩
 .have:=E x w C
  subst this;obtain ⟨H,o,p⟩:=q.var;exact Vk p o r (by rw[List.all_toArray];exact List.all_eq_true.2 m) fun w' g f=>⟨⟨.of_upd g (.inl rfl), .inr f.2, .inl fun j s y=>g.block j fun e=>d (e▸s)⟩,f⟩
theorem X6F {n:Nat} {x:Val} {r i:Int} {a:(Value->World->Prop)->Prop} {O Q R:Value->World->Prop} (J:Glb σ) (L:Tab σ tv l) (ok:Ok l) (q: ∀c∈cs,GoodC W4 l cs c) (f: ∀c∈(H9 W4 l cs r i x).1,GoodC W4 l (H9 W4 l cs r i x).1 c) (M:E4 σ x [I x.sort,I x.n,S x.s,I x.ref]) (t: ¬D b) (hσ:σ b=none)
 (X: ∀v w,O v w->I r=v) (Y: ∀v w,Q v w->I i=v) (Z: ∀v w,R v w->Value.agg [I x.sort,I x.n,S x.s,I x.ref].toArray=v)
 (hr:a (fun v w=>I (H9 W4 l cs r i x).2=v/\X7 w σ/\HeapIs B D σ w hp tv room (H9 W4 l cs r i x).1)):
 J3 (SetT B D σ hp tv room (H9 W4 l cs r i x).1 b ds) (fun G=> ∀C E H w,SetB B D hp tv room cs (H9 W4 l cs r i x).1 w0 σ0 w1 σ b n w->O C w->Q E w->R H w->Q0 P F.u [hp,C,E,H] w (dk (SetT B D σ hp tv room (H9 W4 l cs r i x).1 b ds) G w)) a:=by
 refine R3 _ (fun v w w' h k=>?_) (fun C E H w A U e2 W=>?_) hr
 .obtain ⟨e,hs,h4⟩:=h
  have m:X7 w' σ:=Kpt.sat hs k.kp fun j y=>y.elim (fun e=>e▸hσ) fun y=>(h4.mem y).2.2
  rcases k.hp with e2 | e2
  .exact ⟨e,m,h4.same k.kp m t e2⟩
  .exact ⟨e,m,e2⟩
 .have:=X _ _ U
  have:=Y _ _ e2;have:=Z _ _ W
  subst_vars
  have p: ∀{d z},Nxt D w σ d z->HeapIs B D z d hp tv room (H9 W4 l cs r i x).1->SetT B D σ hp tv room (H9 W4 l cs r i x).1 b ds w d/\I (H9 W4 l cs r i x).2=I (H9 W4 l cs r i x).2/\X7 d σ/\HeapIs B D σ d hp tv room (H9 W4 l cs r i x).1:=fun {d z} N h4=>by
   have g:=h4.down N.le;have u:b<w.heap.size:=by obtain ⟨zs,_,hm⟩:=A.var;exact hm.lt
   exact ⟨⟨N.kp.mono fun _ _ y=> .inr y, .inl fun _=>N.kp.block b u t, .inr g⟩,rfl,fun k o e=>N.sat k o (N.le.le k o e),g⟩
  rcases A.hp with h4 | h4
  .exact X24 A.hst.sat J h4 L ok q M fun d z N g=>p N g
  .have hi:=X5D (ok:=W4) (l:=l) (cs:=cs) (r:=r) (i:=i) (v:=x)
   refine X24 A.hst.sat J h4 L ok f M fun d z N g=>?_;rw[hi] at g⊢;exact p N g
theorem Ni {B d:Nat} {D i:Nat->Prop} {m c:World} {b:Q2} {h g:List Cel} {a:List Value} {G:Bool->Prop} {f:Bool} (hG:G f) (N:Nxt D w σ m b) (t:HeapIs B i b m hp tv room h) (n: ∀j,i j->D j\/w.heap.size<=j) (p: ¬i d) (u:w.heap.size<=d)
 (A:Kpt (fun j=>j=d) m c) (q:X7 c b) (y:Y8 b c d a) (o:a.length=3) (z:D6 b (Q3 l,room,g) a)
 (hh: ∀a f w' σ' r,G f->Nxt D w σ w' σ'->HeapIs B r σ' w' hp tv room h->(∀j,r j->D j\/w.heap.size<=j)->D6 σ' (Q3 l,room,g) a->K (.tuple #[.agg a.toArray, .bool f]) w'):
 J5 P T.a (.pointer (some ⟨d,0,none⟩)) c fun C=>K (.tuple #[C, .bool f]) c:=by
 refine M4 y o ?_;have s:Nxt (fun j=>j=d) m b c b:=⟨A,SLe.refl _,fun _ _=>rfl,q⟩;exact hh a f c b i hG (N.chain s fun j E e=>by omega) (t.nx s fun k v e=>p (e▸v)) n z
set_option maxRecDepth 9999 in
set_option maxHeartbeats 2000000 in
theorem X9p {B:Nat} {D:Nat->Prop} {x:ActH} {xs:List Value} {cr:List Cel} (hs:X7 w σ) (hg:Glb σ) (hB:B<=w.heap.size) (h:HeapIs B D σ w hp tv room cs) (hr:D6 σ (Q3 l,room,cr) ds) (ht:Tab σ tv (Q3 l)) (wf:Wf l) (ok:Ok (Q3 l)) (hlen:(Q3 l).length<=1000)
 (good:GoodH W4 (Q3 l) room cs) (goodr:GoodH W4 (Q3 l) room cr) (h1:room<=1048576) (hx:Gn σ x xs) (hD0: ∀k,D k->B<=k)
 (hh: ∀ds' bb w' σ' D',(cr=cs->bb=true)->Nxt D w σ w' σ'->HeapIs B D' σ' w' hp tv room (T4 W4 (Q3 l) room cs x)->(∀j,D' j->D j\/w.heap.size<=j)->D6 σ' (Q3 l,room,T4 W4 (Q3 l) room cr x) ds'->K (.tuple #[.agg ds'.toArray, .bool bb]) w'):Q0 P F.bd [hp, .agg ds.toArray, .agg xs.toArray] w K:=Q4x (by
 have hx0:=hx;have hr0:=hr;obtain ⟨lv,cv,rfl,hl,hc⟩:=D6.out hr;obtain ⟨rfl,⟨b1,b2,b3,b4⟩,hv⟩:=hx;have hcl:=Yf cs;have hlf:=good.left;unfold D0 at hlf;have hclr:=Yf cr;have hlr:=goodr.left;unfold D0 at hlr;unfold Fa;simp only[Y3,X3,L9,Xq,N0,D9];unfold Y1 V8 Wn Y0 X4 X5;refine Z4 hs fun q4 w1 σ1 hk1 hq4=>?_;refine Z4 hk1.sat fun q5 w2 σ2 hk2 hq5=>?_;have hS2:=hk1.trans hk2;refine D3 hk2.sat fun b6 w3 σ3 hb6 hk3 hm6=>?_;have hS3:=hS2.trans hk3;have hB6:=C6 hb6 hS2;have hq43:=(hq4.up hk2).up hk3;have hq53:=hq5.up hk3;have h3:=h.up hS3;have hr3:=U9 hr0 ⟨hS3.le⟩;have ht3:=ht.lift ⟨hS3.le⟩;have hg3:=hg.lift ⟨hS3.le⟩;refine J4 ?_;refine ld (i:=0) hk3.sat hq53 rfl ?_;refine B1 ?_;have hDl: ∀k,D k->k<w.heap.size:=fun k hk=>(h.mem hk).2.1;have htk:U4 cs<=1048576:=by omega
 have htr:U4 cr<=1048576:=by omega
 by_cases e0:x.kind=0
 .rw[decide_eq_true e0]
  have ea:T4 W4 (Q3 l) room cs x=(Uu (Q3 l) room cs x.s).1:=by unfold T4;rw[if_pos e0]
  have er:T4 W4 (Q3 l) room cr x=(Uu (Q3 l) room cr x.s).1:=by unfold T4;rw[if_pos e0]
  rw[ea,er] at hh;refine Z3 ?_;refine Y7 hk3.sat hq43 rfl ?_;refine J4 ?_;refine ld (i:=1) hk3.sat hq53 rfl ?_;refine X5u hk3.sat hr3 ok hlen b2 goodr.left h1 fun ds' w4 σ4 hk4 hr4=>?_;refine J8 (vs:=[_,_]) rfl ?_;refine J8 (vs:=[_,_]) rfl ?_;have hS4:=hS3.trans hk4;refine D3 hk4.sat fun b8 w5 σ5 hb8 hk5 hm8=>?_;have hS5:=hS4.trans hk5;have hB8:=C6 hb8 hS4;have hr5:=U9 hr4 ⟨hk5.le⟩;obtain ⟨lv',cv',hde,_,_⟩:=D6.out hr4;subst hde;refine Vk (ds:=[lv',I room,cv']) hm8 rfl rfl (by rw[List.all_toArray];exact List.all_eq_true.2 (Rep.one hr5)) fun w6 u6 hm86=>?_
  obtain ⟨σ7,hS7,hq8,l57,o7⟩:=Q6M (x:=(Q3 l,room,(Uu (Q3 l) room cr x.s).1)) hS5 hB8 hm8 u6 hm86;have l37:SLe σ3 σ7:=(SLe.more ⟨hk4.le⟩ ⟨hk5.le⟩).more l57;have hb68:b6≠b8:=by have:=(hm6.up hk4).lt;omega
  have hm66:=((hm6.up hk4).up hk5).upd u6 hb68;have hm67:Y8 σ7 w6 b6 _:=⟨(o7 b6 hb68).trans hm66.1,hm66.2⟩;have hq57:=hq53.lift l37;have hq47:=hq43.lift l37;refine J4 ?_;refine ld (i:=1) hS7.sat hq57 rfl ?_;refine Q8J hS7.sat (Nat.le_trans hB hS7.bel.size) (h.up hS7) (ht.lift ⟨hS7.le⟩) ok b2 good.left h1 fun w8 σ8 D8 N8 h8 hD8=>?_;refine J8 (vs:=[_,_]) rfl ?_;refine J8 (vs:=[_,_]) rfl ?_;have N:=(Nxt.of_stp (D:=D) hS7).chain N8 fun k _ e=>e;have hm68:=hm67.nx N8 fun e=>by have:=hDl _ e;omega
  have hne8: ¬D8 b6:=fun e=>by
   have:=hm67.lt
   rcases hD8 _ e with e | e
   .have:=hDl _ e;omega
   .omega
  have hD8': ∀j,D8 j->D j\/w.heap.size<=j:=fun j hj=>(hD8 j hj).imp id fun e=>Nat.le_trans hS7.bel.size e;have hq48:=hq47.lift N8.le;have hq88:=hq8.lift N8.le;have hc8:Sl 2 Xi σ8 cv cr:=hc.lift N.le;have hr8:=U9 hr5 (l57.more N8.le);have hsame:cr=cs->(Uu (Q3 l) room cr x.s).2=(Uu (Q3 l) room cs x.s).2:=fun h=>by rw[h]
  generalize (Uu (Q3 l) room cs x.s).2=e at*;generalize (Uu (Q3 l) room cr x.s).2=f at*;refine Q93 (w0:=Q0i w8) (σ0:=fun _=>none) (n:=3) [lv',I room,cv'] (Uj N8.sat) (Nat.zero_le _) hm68 rfl rfl ?_;unfold atM
  by_cases hfe:f=e
  case neg=>
   have hz0:decide (f=e)=false:=decide_eq_false hfe
   (repeat (apply X0;(· intros;(have hzz:=VarB.hs Q9);(repeat (rename_i hx;subst hx));(try simp only[hz0,decide_true,Bool.not_true,Bool.not_false,Bool.false_eq_true,Bool.true_eq_false,reduceIte,↓M2,M2,Mb,reduceIte]);(repeat' (first | (with_reducible exact Qf rfl) | (with_reducible exact Vm (Stp.bel (by (repeat (first | exact Stp.refl (by (first | assumption | exact Stp.sat Q9 | exact Hst.sat Q9)) | assumption | refine Stp.trans ?_ (by first | assumption | exact Hst.stp Q9))))) rfl) | (with_reducible intro _) | (simp only[↓M2,M2,Mb,reduceIte]) | (with_reducible show Q6 _ _ _ _ _;first | refine Y6 aS aL aR ?_ | refine Y7 aS aL aR ?_ | refine ld aS aL aR ?_) | (with_reducible show indexAddr _ _ _ _ _ _;refine Z1 aL au ?_) | (with_reducible show V0 _ _ _ _ _ _ _ _;refine Q7 aL ?_) | (with_reducible show Xj _ _ _ _ _ _;refine W2 aR ?_) | (with_reducible show pick _ _ _ _ _ _;refine F3 ?_) | (apply Nw;intro hh;(try simp only[hh,reduceIte,↓M2,M2,Mb,reduceIte]))));done)))
   refine Wx (φ:=fun v _=>Value.agg [lv',I room,cv'].toArray=v) rfl (Rep.one hr5) (fun v w h=>h) ?_ hm68.1;intros;rename_i hm9
   (repeat (rename_i hx;subst hx))
   rename_i w9 hb9;exact Ni (G:=fun b=>cr=cs->b=true) (fun h=>absurd (hsame h) hfe) N h8 hD8' hne8 hB6 hb9.kp hb9.hst.sat hm9 rfl hr8 hh
  subst hfe
  by_cases e1:f=0
  .subst e1
   simp only[reduceIte];have hz0:decide True=true:=decide_true _
   (repeat (apply X0;(· intros;(have hzz:=VarB.hs Q9);(repeat (rename_i hx;subst hx));(try simp only[hz0,decide_true,Bool.not_true,Bool.not_false,Bool.false_eq_true,Bool.true_eq_false,reduceIte,↓M2,M2,Mb,reduceIte]);(repeat' (first | (with_reducible exact Qf rfl) | (with_reducible exact Vm (Stp.bel (by (repeat (first | exact Stp.refl (by (first | assumption | exact Stp.sat Q9 | exact Hst.sat Q9)) | assumption | refine Stp.trans ?_ (by first | assumption | exact Hst.stp Q9))))) rfl) | (with_reducible intro _) | (simp only[↓M2,M2,Mb,reduceIte]) | (with_reducible show Q6 _ _ _ _ _;first | refine Y6 aS aL aR ?_ | refine Y7 aS aL aR ?_ | refine ld aS aL aR ?_) | (with_reducible show indexAddr _ _ _ _ _ _;refine Z1 aL au ?_) | (with_reducible show V0 _ _ _ _ _ _ _ _;refine Q7 aL ?_) | (with_reducible show Xj _ _ _ _ _ _;refine W2 aR ?_) | (with_reducible show pick _ _ _ _ _ _;refine F3 ?_) | (apply Nw;intro hh;(try simp only[hh,reduceIte,↓M2,M2,Mb,reduceIte]))));done)))
   refine Wx (φ:=fun v _=>Value.agg [lv',I room,cv'].toArray=v) rfl (Rep.one hr5) (fun v w h=>h) ?_ hm68.1;intros;rename_i hm9
   (repeat (rename_i hx;subst hx))
   rename_i w9 hb9;exact Ni (G:=fun b=>cr=cs->b=true) (fun h=>by rw[h];exact decide_eq_true rfl) N h8 hD8' hne8 hB6 hb9.kp hb9.hst.sat hm9 rfl hr8 hh
  .simp only[if_neg e1]
   have hz0:decide (f=0)=false:=decide_eq_false e1
   (repeat (apply X0;(· intros;(have hzz:=VarB.hs Q9);(repeat (rename_i hx;subst hx));(try simp only[hz0,decide_true,Bool.not_true,Bool.not_false,Bool.false_eq_true,Bool.true_eq_false,reduceIte,↓M2,M2,Mb,reduceIte]);(repeat' (first | (with_reducible exact Qf rfl) | (with_reducible exact Vm (Stp.bel (by (repeat (first | exact Stp.refl (by (first | assumption | exact Stp.sat Q9 | exact Hst.sat Q9)) | assumption | refine Stp.trans ?_ (by first | assumption | exact Hst.stp Q9))))) rfl) | (with_reducible intro _) | (simp only[↓M2,M2,Mb,reduceIte]) | (with_reducible show Q6 _ _ _ _ _;first | refine Y6 aS aL aR ?_ | refine Y7 aS aL aR ?_ | refine ld aS aL aR ?_) | (with_reducible show indexAddr _ _ _ _ _ _;refine Z1 aL au ?_) | (with_reducible show V0 _ _ _ _ _ _ _ _;refine Q7 aL ?_) | (with_reducible show Xj _ _ _ _ _ _;refine W2 aR ?_) | (with_reducible show pick _ _ _ _ _ _;refine F3 ?_) | (apply Nw;intro hh;(try simp only[hh,reduceIte,↓M2,M2,Mb,reduceIte]))));done)))
   refine Wx (φ:=fun v _=>Value.agg [lv',I room,cv'].toArray=v) rfl (Rep.one hr5) (fun v w h=>h) ?_ hm68.1;intros;rename_i hm9
   (repeat (rename_i hx;subst hx))
   rename_i w9 hb9;exact Ni (G:=fun b=>cr=cs->b=true) (fun _=>rfl) N h8 hD8' hne8 hB6 hb9.kp hb9.hst.sat hm9 rfl hr8 hh
 rw[decide_eq_false e0];refine Z7 ?_;refine B1 ?_
 by_cases e1k:x.kind=1
 .rw[decide_eq_true e1k]
  have ea:T4 W4 (Q3 l) room cs x=(Ws (Q3 l) room cs x.s x.n).1:=by unfold T4;rw[if_neg e0,if_pos e1k]
  have er:T4 W4 (Q3 l) room cr x=(Ws (Q3 l) room cr x.s x.n).1:=by unfold T4;rw[if_neg e0,if_pos e1k]
  rw[ea,er] at hh;refine Z3 ?_;refine Y7 hk3.sat hq43 rfl ?_;refine J4 ?_;refine ld (i:=1) hk3.sat hq53 rfl ?_;refine J4 ?_;refine ld (i:=2) hk3.sat hq53 rfl ?_;refine X7c hk3.sat hr3 b2 goodr.left h1 fun ds' w4 σ4 hk4 hr4=>?_;refine J8 (vs:=[_,_]) rfl ?_;refine J8 (vs:=[_,_]) rfl ?_;have hS4:=hS3.trans hk4;refine D3 hk4.sat fun b8 w5 σ5 hb8 hk5 hm8=>?_;have hS5:=hS4.trans hk5;have hB8:=C6 hb8 hS4;have hr5:=U9 hr4 ⟨hk5.le⟩;obtain ⟨lv',cv',hde,_,_⟩:=D6.out hr4;subst hde;refine Vk (ds:=[lv',I room,cv']) hm8 rfl rfl (by rw[List.all_toArray];exact List.all_eq_true.2 (Rep.one hr5)) fun w6 u6 hm86=>?_
  obtain ⟨σ7,hS7,hq8,l57,o7⟩:=Q6M (x:=(Q3 l,room,(Ws (Q3 l) room cr x.s x.n).1)) hS5 hB8 hm8 u6 hm86;have l37:SLe σ3 σ7:=(SLe.more ⟨hk4.le⟩ ⟨hk5.le⟩).more l57;have hb68:b6≠b8:=by have:=(hm6.up hk4).lt;omega
  have hm66:=((hm6.up hk4).up hk5).upd u6 hb68;have hm67:Y8 σ7 w6 b6 _:=⟨(o7 b6 hb68).trans hm66.1,hm66.2⟩;have hq57:=hq53.lift l37;have hq47:=hq43.lift l37;refine J4 ?_;refine ld (i:=1) hS7.sat hq57 rfl ?_;refine J4 ?_;refine ld (i:=2) hS7.sat hq57 rfl ?_;refine X6l hS7.sat (Nat.le_trans hB hS7.bel.size) (h.up hS7) (ht.lift ⟨hS7.le⟩) b2 good.left h1 fun w8 σ8 D8 N8 h8 hD8=>?_;refine J8 (vs:=[_,_]) rfl ?_;refine J8 (vs:=[_,_]) rfl ?_;have N:=(Nxt.of_stp (D:=D) hS7).chain N8 fun k _ e=>e;have hm68:=hm67.nx N8 fun e=>by have:=hDl _ e;omega
  have hne8: ¬D8 b6:=fun e=>by
   have:=hm67.lt
   rcases hD8 _ e with e | e
   .have:=hDl _ e;omega
   .omega
  have hD8': ∀j,D8 j->D j\/w.heap.size<=j:=fun j hj=>(hD8 j hj).imp id fun e=>Nat.le_trans hS7.bel.size e;have hq48:=hq47.lift N8.le;have hq88:=hq8.lift N8.le;have hc8:Sl 2 Xi σ8 cv cr:=hc.lift N.le;have hr8:=U9 hr5 (l57.more N8.le);have hsame:cr=cs->(Ws (Q3 l) room cr x.s x.n).2=(Ws (Q3 l) room cs x.s x.n).2:=fun h=>by rw[h]
  generalize (Ws (Q3 l) room cs x.s x.n).2=e at*;generalize (Ws (Q3 l) room cr x.s x.n).2=f at*;refine Q93 (w0:=Q0i w8) (σ0:=fun _=>none) (n:=3) [lv',I room,cv'] (Uj N8.sat) (Nat.zero_le _) hm68 rfl rfl ?_;unfold atM
  by_cases hfe:f=e
  case neg=>
   have hz0:decide (f=e)=false:=decide_eq_false hfe
   (repeat (apply X0;(· intros;(have hzz:=VarB.hs Q9);(repeat (rename_i hx;subst hx));(try simp only[hz0,decide_true,Bool.not_true,Bool.not_false,Bool.false_eq_true,Bool.true_eq_false,reduceIte,↓M2,M2,Mb,reduceIte]);(repeat' (first | (with_reducible exact Qf rfl) | (with_reducible exact Vm (Stp.bel (by (repeat (first | exact Stp.refl (by (first | assumption | exact Stp.sat Q9 | exact Hst.sat Q9)) | assumption | refine Stp.trans ?_ (by first | assumption | exact Hst.stp Q9))))) rfl) | (with_reducible intro _) | (simp only[↓M2,M2,Mb,reduceIte]) | (with_reducible show Q6 _ _ _ _ _;first | refine Y6 aS aL aR ?_ | refine Y7 aS aL aR ?_ | refine ld aS aL aR ?_) | (with_reducible show indexAddr _ _ _ _ _ _;refine Z1 aL au ?_) | (with_reducible show V0 _ _ _ _ _ _ _ _;refine Q7 aL ?_) | (with_reducible show Xj _ _ _ _ _ _;refine W2 aR ?_) | (with_reducible show pick _ _ _ _ _ _;refine F3 ?_) | (apply Nw;intro hh;(try simp only[hh,reduceIte,↓M2,M2,Mb,reduceIte]))));done)))
   refine Wx (φ:=fun v _=>Value.agg [lv',I room,cv'].toArray=v) rfl (Rep.one hr5) (fun v w h=>h) ?_ hm68.1;intros;rename_i hm9
   (repeat (rename_i hx;subst hx))
   rename_i w9 hb9;exact Ni (G:=fun b=>cr=cs->b=true) (fun h=>absurd (hsame h) hfe) N h8 hD8' hne8 hB6 hb9.kp hb9.hst.sat hm9 rfl hr8 hh
  subst hfe
  by_cases e1:f=0
  .subst e1
   simp only[reduceIte];have hz0:decide True=true:=decide_true _
   (repeat (apply X0;(· intros;(have hzz:=VarB.hs Q9);(repeat (rename_i hx;subst hx));(try simp only[hz0,decide_true,Bool.not_true,Bool.not_false,Bool.false_eq_true,Bool.true_eq_false,reduceIte,↓M2,M2,Mb,reduceIte]);(repeat' (first | (with_reducible exact Qf rfl) | (with_reducible exact Vm (Stp.bel (by (repeat (first | exact Stp.refl (by (first | assumption | exact Stp.sat Q9 | exact Hst.sat Q9)) | assumption | refine Stp.trans ?_ (by first | assumption | exact Hst.stp Q9))))) rfl) | (with_reducible intro _) | (simp only[↓M2,M2,Mb,reduceIte]) | (with_reducible show Q6 _ _ _ _ _;first | refine Y6 aS aL aR ?_ | refine Y7 aS aL aR ?_ | refine ld aS aL aR ?_) | (with_reducible show indexAddr _ _ _ _ _ _;refine Z1 aL au ?_) | (with_reducible show V0 _ _ _ _ _ _ _ _;refine Q7 aL ?_) | (with_reducible show Xj _ _ _ _ _ _;refine W2 aR ?_) | (with_reducible show pick _ _ _ _ _ _;refine F3 ?_) | (apply Nw;intro hh;(try simp only[hh,reduceIte,↓M2,M2,Mb,reduceIte]))));done)))
   refine Wx (φ:=fun v _=>Value.agg [lv',I room,cv'].toArray=v) rfl (Rep.one hr5) (fun v w h=>h) ?_ hm68.1;intros;rename_i hm9
   (repeat (rename_i hx;subst hx))
   rename_i w9 hb9;exact Ni (G:=fun b=>cr=cs->b=true) (fun h=>by rw[h];exact decide_eq_true rfl) N h8 hD8' hne8 hB6 hb9.kp hb9.hst.sat hm9 rfl hr8 hh
  .simp only[if_neg e1]
   have hz0:decide (f=0)=false:=decide_eq_false e1
   (repeat (apply X0;(· intros;(have hzz:=VarB.hs Q9);(repeat (rename_i hx;subst hx));(try simp only[hz0,decide_true,Bool.not_true,Bool.not_false,Bool.false_eq_true,Bool.true_eq_false,reduceIte,↓M2,M2,Mb,reduceIte]);(repeat' (first | (with_reducible exact Qf rfl) | (with_reducible exact Vm (Stp.bel (by (repeat (first | exact Stp.refl (by (first | assumption | exact Stp.sat Q9 | exact Hst.sat Q9)) | assumption | refine Stp.trans ?_ (by first | assumption | exact Hst.stp Q9))))) rfl) | (with_reducible intro _) | (simp only[↓M2,M2,Mb,reduceIte]) | (with_reducible show Q6 _ _ _ _ _;first | refine Y6 aS aL aR ?_ | refine Y7 aS aL aR ?_ | refine ld aS aL aR ?_) | (with_reducible show indexAddr _ _ _ _ _ _;refine Z1 aL au ?_) | (with_reducible show V0 _ _ _ _ _ _ _ _;refine Q7 aL ?_) | (with_reducible show Xj _ _ _ _ _ _;refine W2 aR ?_) | (with_reducible show pick _ _ _ _ _ _;refine F3 ?_) | (apply Nw;intro hh;(try simp only[hh,reduceIte,↓M2,M2,Mb,reduceIte]))));done)))
   refine Wx (φ:=fun v _=>Value.agg [lv',I room,cv'].toArray=v) rfl (Rep.one hr5) (fun v w h=>h) ?_ hm68.1;intros;rename_i hm9
   (repeat (rename_i hx;subst hx))
   rename_i w9 hb9;exact Ni (G:=fun b=>cr=cs->b=true) (fun _=>rfl) N h8 hD8' hne8 hB6 hb9.kp hb9.hst.sat hm9 rfl hr8 hh
 rw[decide_eq_false e1k];refine Z7 ?_;refine B1 ?_;have hv43:J7 σ3 (q5.add 4) [I x.v.sort,I x.v.n,S x.v.s,I x.v.ref]:=hq53.tail (xs:=[_,_,_,_]);have hvr:E4 σ x.v [I x.v.sort,I x.v.n,S x.v.s,I x.v.ref]:=⟨rfl,hv⟩
 by_cases e2k:x.kind=2
 .rw[decide_eq_true e2k]
  have ea:T4 W4 (Q3 l) room cs x=(H9 W4 (Q3 l) cs x.ref x.n x.v).1:=by unfold T4;rw[if_neg e0,if_neg e1k,if_pos e2k]
  have er:T4 W4 (Q3 l) room cr x=(H9 W4 (Q3 l) cr x.ref x.n x.v).1:=by unfold T4;rw[if_neg e0,if_neg e1k,if_pos e2k]
  rw[ea,er] at hh;have good':=(GoodH.set good x.ref x.n x.v).cells;refine Z3 ?_;refine Y7 hk3.sat hq43 rfl ?_;refine J4 ?_;refine ld (i:=3) hk3.sat hq53 rfl ?_;refine J4 ?_;refine ld (i:=2) hk3.sat hq53 rfl ?_;refine J4 ?_;refine Y7 hk3.sat hv43 rfl ?_;refine X96 hk3.sat hr3 wf ok hlen goodr.cells htr ⟨rfl,hv⟩ fun ds' w4 σ4 hk4 hr4=>?_;refine J8 (vs:=[_,_]) rfl ?_;refine J8 (vs:=[_,_]) rfl ?_;have hS4:=hS3.trans hk4;refine D3 hk4.sat fun b8 w5 σ5 hb8 hk5 hm8=>?_;have hS5:=hS4.trans hk5;have hB8:=C6 hb8 hS4;have hr5:=U9 hr4 ⟨hk5.le⟩;obtain ⟨lv',cv',hde,_,_⟩:=D6.out hr4;subst hde;refine Vk (ds:=[lv',I room,cv']) hm8 rfl rfl (by rw[List.all_toArray];exact List.all_eq_true.2 (Rep.one hr5)) fun w6 u6 hm86=>?_
  obtain ⟨σ7,hS7,hq8,l57,o7⟩:=Q6M (x:=(Q3 l,room,(H9 W4 (Q3 l) cr x.ref x.n x.v).1)) hS5 hB8 hm8 u6 hm86;have l37:SLe σ3 σ7:=(SLe.more ⟨hk4.le⟩ ⟨hk5.le⟩).more l57;have hb68:b6≠b8:=by have:=(hm6.up hk4).lt;omega
  have hm66:=((hm6.up hk4).up hk5).upd u6 hb68;have hm67:Y8 σ7 w6 b6 _:=⟨(o7 b6 hb68).trans hm66.1,hm66.2⟩;have hq57:=hq53.lift l37;have hv47:=hv43.lift l37;have hr7:=U9 hr5 l57;have hbD: ¬D b6:=fun e=>by have:=hDl _ e;omega
  refine X7Z (w0:=Q0i w6) (σ0:=fun _=>none) (n:=3) (H9 W4 (Q3 l) cs x.ref x.n x.v).1 [lv',I room,cv'] (Uj hS7.sat) (Nat.zero_le _) (Nat.zero_le _) hbD hm67 rfl rfl (h.up hS7) ?_
  (repeat (apply X0;(· intros;(have hzz:=SetB.hs Q9);(repeat (rename_i hx;subst hx));(repeat' (first | (with_reducible exact Q8X rfl) | (with_reducible exact X6C (Stp.bel (by (repeat (first | exact Stp.refl (by (first | assumption | exact Stp.sat Q9 | exact Hst.sat Q9)) | assumption | refine Stp.trans ?_ (by first | assumption | exact Hst.stp Q9))))) rfl) | (with_reducible intro _) | (simp only[↓M2,M2,Mb,reduceIte]) | (with_reducible show Q6 _ _ _ _ _;first | refine Y6 aS aL aR ?_ | refine Y7 aS aL aR ?_ | refine ld aS aL aR ?_) | (with_reducible show indexAddr _ _ _ _ _ _;refine Z1 aL au ?_) | (with_reducible show V0 _ _ _ _ _ _ _ _;refine Q7 aL ?_) | (with_reducible show Xj _ _ _ _ _ _;refine W2 aR ?_) | (with_reducible show pick _ _ _ _ _ _;refine F3 ?_)));done)))
  refine X6F (hg.lift ⟨hS7.le⟩) (ht.lift ⟨hS7.le⟩) ok good.cells good' ⟨rfl,hv⟩ hbD hm67.1 (fun _ _ h=>h) (fun _ _ h=>h) (fun _ _ h=>h) ?_;refine X0 (V:= .bool (decide ((H9 W4 (Q3 l) cs x.ref x.n x.v).2=(H9 W4 (Q3 l) cr x.ref x.n x.v).2))) (fun t w hb ht=>?_) ?_
  .obtain ⟨rfl,_,_⟩:=ht
   refine B1 ?_;exact Q8X rfl
  refine X4Y (φ:=fun v _=>Value.agg [lv',I room,cv'].toArray=v) rfl (Rep.one hr5) (fun v w h=>h) ?_ hm67.1 hbD;intros;rename_i hm9
  (repeat (rename_i hx;subst hx))
  rename_i hset
  (repeat (rename_i hx;subst hx))
  rename_i w9 hb9;obtain ⟨_,hs9,h9⟩:=hset;refine M4 hm9 rfl ?_;have Nb:Nxt (fun j=>j=b6\/D j) w6 σ7 w9 σ7:=⟨hb9.kp,SLe.refl _,fun _ _=>rfl,hs9⟩;exact hh _ _ w9 σ7 D (fun h=>by rw[h];exact decide_eq_true rfl) ((Nxt.of_stp (D:=D) hS7).chain Nb fun j hj e=>e.elim (fun e=>by omega) id) h9 (fun j hj=> .inl hj) hr7
 rw[decide_eq_false e2k];refine Z7 ?_;refine B1 ?_
 by_cases e3k:x.kind=3
 .rw[decide_eq_true e3k]
  have ea:T4 W4 (Q3 l) room cs x=cs:=by unfold T4;rw[if_neg e0,if_neg e1k,if_neg e2k,if_neg Q5]
  have er:T4 W4 (Q3 l) room cr x=cr:=by unfold T4;rw[if_neg e0,if_neg e1k,if_neg e2k,if_neg Q5]
  rw[ea,er] at hh;refine Z3 ?_;refine Y7 hk3.sat hq43 rfl ?_;refine J4 ?_;refine ld (i:=3) hk3.sat hq53 rfl ?_;refine J4 ?_;refine ld (i:=2) hk3.sat hq53 rfl ?_;refine X95 hk3.sat hr3 fun w4 σ4 hk4=>?_;refine J8 (vs:=[_,_]) rfl ?_;refine J8 (vs:=[_,_]) rfl ?_;refine J6 (sz:=4) hk4.sat aR aR Bm fun q8 w5 σ5 hk5 hq8=>?_;have hk35:=hk4.trans hk5;have hS5:=hS3.trans hk35;have h5:=h.up hS5;have hq55:=hq53.lift ⟨hk35.le⟩;refine J4 ?_;refine ld (i:=3) hk35.sat hq55 rfl ?_;refine J4 ?_;refine ld (i:=2) hk35.sat hq55 rfl ?_;obtain ⟨σf,sf,lef,hsl,of⟩:=h5.freeze hk35.sat;refine X3k sf hsl fun w6 σ6 hk6=>?_;refine J8 (vs:=[_,_]) rfl ?_;refine J8 (vs:=[_,_]) rfl ?_;refine J6 (sz:=4) hk6.sat aR aR Bm fun q9 w7 σ7 hk7 hq9=>?_;have hk57:=hk6.trans hk7;have hS57:=hk57.weak lef.le;have hS7:=hS5.trans hS57;have l57:SLe σ5 σ7:=lef.more ⟨hk57.le⟩;have hbD: ¬D b6:=fun e=>by have:=hDl _ e;omega
  have hm65:=hm6.up hk35;have hm6f:Y8 σf w5 b6 _:=⟨(of b6 hbD).trans hm65.1,hm65.2⟩;have hm67:=hm6f.up hk57;have hq47:=(hq43.lift ⟨hk35.le⟩).lift l57;have hq87:=hq8.lift l57;refine Q93 (w0:=Q0i w7) (σ0:=fun _=>none) (n:=3) [lv,I room,cv] (Uj hk57.sat) (Nat.zero_le _) hm67 rfl rfl ?_;have n5:σ5 b6=none:=hm65.1;have hq97:=hq9
  by_cases hge:Na cr x.ref x.n=Na cs x.ref x.n
  .have hz0:decide True=true:=decide_true _
   (repeat (apply X0;(· intros;(have hzz:=VarB.hs Q9);(repeat (rename_i hx;subst hx));(try simp only[hz0,decide_true,Bool.not_true,Bool.not_false,Bool.false_eq_true,Bool.true_eq_false,reduceIte,↓M2,M2,Mb,reduceIte]);(repeat' (first | (with_reducible exact Qf rfl) | (with_reducible exact Vm (Stp.bel (by (repeat (first | exact Stp.refl (by (first | assumption | exact Stp.sat Q9 | exact Hst.sat Q9)) | assumption | refine Stp.trans ?_ (by first | assumption | exact Hst.stp Q9))))) rfl) | (with_reducible intro _) | (simp only[↓M2,M2,Mb,reduceIte]) | (with_reducible show Q6 _ _ _ _ _;first | refine Y6 aS aL aR ?_ | refine Y7 aS aL aR ?_ | refine ld aS aL aR ?_) | (with_reducible show indexAddr _ _ _ _ _ _;refine Z1 aL au ?_) | (with_reducible show V0 _ _ _ _ _ _ _ _;refine Q7 aL ?_) | (with_reducible show Xj _ _ _ _ _ _;refine W2 aR ?_) | (with_reducible show pick _ _ _ _ _ _;refine F3 ?_) | (apply Nw;intro hh;(try simp only[hh,reduceIte,↓M2,M2,Mb,reduceIte]))));done)))
   refine X0 (V:= .bool true) (by
    intros
    (repeat (rename_i hx;subst hx))
    refine Mi ?_;exact Qf (by rw[hge,decide_eq_true rfl])) ?_
   (repeat (apply X0;(· intros;(have hzz:=VarB.hs Q9);(repeat (rename_i hx;subst hx));(try simp only[hz0,decide_true,Bool.not_true,Bool.not_false,Bool.false_eq_true,Bool.true_eq_false,reduceIte,↓M2,M2,Mb,reduceIte]);(repeat' (first | (with_reducible exact Qf rfl) | (with_reducible exact Vm (Stp.bel (by (repeat (first | exact Stp.refl (by (first | assumption | exact Stp.sat Q9 | exact Hst.sat Q9)) | assumption | refine Stp.trans ?_ (by first | assumption | exact Hst.stp Q9))))) rfl) | (with_reducible intro _) | (simp only[↓M2,M2,Mb,reduceIte]) | (with_reducible show Q6 _ _ _ _ _;first | refine Y6 aS aL aR ?_ | refine Y7 aS aL aR ?_ | refine ld aS aL aR ?_) | (with_reducible show indexAddr _ _ _ _ _ _;refine Z1 aL au ?_) | (with_reducible show V0 _ _ _ _ _ _ _ _;refine Q7 aL ?_) | (with_reducible show Xj _ _ _ _ _ _;refine W2 aR ?_) | (with_reducible show pick _ _ _ _ _ _;refine F3 ?_) | (apply Nw;intro hh;(try simp only[hh,reduceIte,↓M2,M2,Mb,reduceIte]))));done)))
   refine Wx (φ:=fun v _=>Value.agg [lv,I room,cv].toArray=v) rfl (Rep.one hr3) (fun v w h=>h) ?_ hm67.1;intros;rename_i hm9
   (repeat (rename_i hx;subst hx))
   rename_i w9 hb9;exact Ni (G:=fun b=>cr=cs->b=true) (fun h=>by rw[h];exact decide_eq_true rfl) (Nxt.of_stp (D:=D) hS7) (h5.up hS57) (fun j hj=> .inl hj) hbD hB6 hb9.kp (fun k o e=>hb9.hst.sat k o (l57.le k o e)) ⟨n5,hm9.2⟩ rfl (U9 hr0 ⟨hS7.le⟩) hh
  .have hz0:decide True=true:=decide_true _
   (repeat (apply X0;(· intros;(have hzz:=VarB.hs Q9);(repeat (rename_i hx;subst hx));(try simp only[hz0,decide_true,Bool.not_true,Bool.not_false,Bool.false_eq_true,Bool.true_eq_false,reduceIte,↓M2,M2,Mb,reduceIte]);(repeat' (first | (with_reducible exact Qf rfl) | (with_reducible exact Vm (Stp.bel (by (repeat (first | exact Stp.refl (by (first | assumption | exact Stp.sat Q9 | exact Hst.sat Q9)) | assumption | refine Stp.trans ?_ (by first | assumption | exact Hst.stp Q9))))) rfl) | (with_reducible intro _) | (simp only[↓M2,M2,Mb,reduceIte]) | (with_reducible show Q6 _ _ _ _ _;first | refine Y6 aS aL aR ?_ | refine Y7 aS aL aR ?_ | refine ld aS aL aR ?_) | (with_reducible show indexAddr _ _ _ _ _ _;refine Z1 aL au ?_) | (with_reducible show V0 _ _ _ _ _ _ _ _;refine Q7 aL ?_) | (with_reducible show Xj _ _ _ _ _ _;refine W2 aR ?_) | (with_reducible show pick _ _ _ _ _ _;refine F3 ?_) | (apply Nw;intro hh;(try simp only[hh,reduceIte,↓M2,M2,Mb,reduceIte]))));done)))
   refine X0 (V:= .bool false) (by
    intros
    (repeat (rename_i hx;subst hx))
    refine Mi ?_;exact Qf (by rw[decide_eq_false hge])) ?_
   (repeat (apply X0;(· intros;(have hzz:=VarB.hs Q9);(repeat (rename_i hx;subst hx));(try simp only[hz0,decide_true,Bool.not_true,Bool.not_false,Bool.false_eq_true,Bool.true_eq_false,reduceIte,↓M2,M2,Mb,reduceIte]);(repeat' (first | (with_reducible exact Qf rfl) | (with_reducible exact Vm (Stp.bel (by (repeat (first | exact Stp.refl (by (first | assumption | exact Stp.sat Q9 | exact Hst.sat Q9)) | assumption | refine Stp.trans ?_ (by first | assumption | exact Hst.stp Q9))))) rfl) | (with_reducible intro _) | (simp only[↓M2,M2,Mb,reduceIte]) | (with_reducible show Q6 _ _ _ _ _;first | refine Y6 aS aL aR ?_ | refine Y7 aS aL aR ?_ | refine ld aS aL aR ?_) | (with_reducible show indexAddr _ _ _ _ _ _;refine Z1 aL au ?_) | (with_reducible show V0 _ _ _ _ _ _ _ _;refine Q7 aL ?_) | (with_reducible show Xj _ _ _ _ _ _;refine W2 aR ?_) | (with_reducible show pick _ _ _ _ _ _;refine F3 ?_) | (apply Nw;intro hh;(try simp only[hh,reduceIte,↓M2,M2,Mb,reduceIte]))));done)))
   refine Wx (φ:=fun v _=>Value.agg [lv,I room,cv].toArray=v) rfl (Rep.one hr3) (fun v w h=>h) ?_ hm67.1;intros;rename_i hm9
   (repeat (rename_i hx;subst hx))
   rename_i w9 hb9;exact Ni (G:=fun b=>cr=cs->b=true) (fun h=>absurd (by rw[h]) hge) (Nxt.of_stp (D:=D) hS7) (h5.up hS57) (fun j hj=> .inl hj) hbD hB6 hb9.kp (fun k o e=>hb9.hst.sat k o (l57.le k o e)) ⟨n5,hm9.2⟩ rfl (U9 hr0 ⟨hS7.le⟩) hh
 rw[decide_eq_false e3k];refine Z7 ?_;refine B1 ?_
 by_cases e4k:x.kind=4
 .rw[decide_eq_true e4k]
  have ea:T4 W4 (Q3 l) room cs x=Q0o cs x.ref:=by unfold T4;rw[if_neg e0,if_neg e1k,if_neg e2k,if_pos e4k]
  have er:T4 W4 (Q3 l) room cr x=Q0o cr x.ref:=by unfold T4;rw[if_neg e0,if_neg e1k,if_neg e2k,if_pos e4k]
  rw[ea,er] at hh;refine Z3 ?_;refine J4 ?_;refine ld (i:=3) hk3.sat hq53 rfl ?_;refine X8F hk3.sat h3 htk b4 fun w4 σ4 D4 N4 h4 hD4=>?_;have hq54:=hq53.lift N4.le;have hq44:=hq43.lift N4.le;refine Y7 N4.sat hq44 rfl ?_;refine J4 ?_;refine ld (i:=3) N4.sat hq54 rfl ?_;refine X93 N4.sat (U9 hr3 N4.le) htr b4 fun ds' w5 σ5 hk5 hr5=>?_;have hbD: ¬D b6:=fun e=>by have:=hDl _ e;omega
  have hm65:=(hm6.nx N4 hbD).up hk5;obtain ⟨lv',cv',hde,_,_⟩:=D6.out hr5;subst hde;refine Vk (ds:=[lv',I room,cv']) hm65 rfl rfl (by rw[List.all_toArray];exact List.all_eq_true.2 (Rep.one hr5)) fun w6 u6 hm66=>?_
  have N:=(Nxt.of_stp (D:=D) hS3).chain (N4.trans (Nxt.of_stp hk5)) fun j _ e=>e;exact Ni (G:=fun b=>cr=cs->b=true) (fun _=>rfl) N (h4.up hk5) (fun j hj=> .inl (hD4 j hj)) (fun e=>hbD (hD4 _ e)) hB6 (Kpt.of_upd u6 rfl) (u6.stp (Uj hk5.sat) (Nat.zero_le _) hm65.1).sat hm66 rfl hr5 hh
 rw[decide_eq_false e4k];refine Z7 ?_;have ea:T4 W4 (Q3 l) room cs x=cs:=by unfold T4;rw[if_neg e0,if_neg e1k,if_neg e2k,if_neg e4k]
 have er:T4 W4 (Q3 l) room cr x=cr:=by unfold T4;rw[if_neg e0,if_neg e1k,if_neg e2k,if_neg e4k]
 rw[ea,er] at hh;refine Y7 hk3.sat hq43 rfl ?_;refine Vk (ds:=[lv,I room,cv]) hm6 rfl rfl (by rw[List.all_toArray];exact List.all_eq_true.2 (Rep.one hr3)) fun w6 u6 hm66=>?_
 have hbD: ¬D b6:=fun e=>by have:=hDl _ e;omega
 exact Ni (G:=fun b=>cr=cs->b=true) (fun _=>rfl) (Nxt.of_stp (D:=D) hS3) h3 (fun j hj=> .inl hj) hbD hB6 (Kpt.of_upd u6 rfl) (u6.stp (Uj hk3.sat) (Nat.zero_le _) hm6.1).sat hm66 rfl hr3 hh)
end Go.Proofs.Y
namespace Go.Emb
theorem X9B {w:World} {A:World->Prop} (h:A w.drew):sq w A:=by rw[X2U];exact h
end Go.Emb
namespace Go.Proofs.Y
open Go.Emb Go.RowKit Go.Kd Go.Hm
variable {w w' w0 : World} {K : Value -> World -> Prop} {σ σ' σ0 : Q2} {room : Int} {cs cr : List Cel} {hp tv : Value} {b6 : Nat}
structure RunG (w0 : World) (σ0 : Q2) (w : World) (σ : Q2) (hp tv : Value) (b6 : Nat) (room : Int) (cs cr : List Cel) : Prop where
  stp : Stp w0 σ0 w σ
  ex : ∃ D ds, HeapIs w0.heap.size D σ w hp tv room cs /\ ¬ D b6 /\ Y8 σ w b6 ds /\ D6 σ (Q3 W8, room, cr) ds
  bge : w0.heap.size <= b6
  tab : Tab σ tv (Q3 W8)
  ok : Ok (Q3 W8)
  good : GoodH W4 (Q3 W8) room cs
  goodr : GoodH W4 (Q3 W8) room cr
  rm : room <= 1048576
abbrev Run (w0:World) (σ0:Q2) (w:World) (σ:Q2) (hp tv:Value) (b6:Nat) (room:Int) (cs:List Cel):Prop:=RunG w0 σ0 w σ hp tv b6 room cs cs
theorem RunG.up (R:RunG w0 σ0 w σ hp tv b6 room cs cr) (k:Stp w σ w' σ'):RunG w0 σ0 w' σ' hp tv b6 room cs cr:=by
 obtain ⟨D,ds,a,b,c,d⟩:=R.ex;exact ⟨R.stp.trans k,⟨D,ds,a.up k,b,c.up k,U9 d ⟨k.le⟩⟩,R.bge,R.tab.lift ⟨k.le⟩,R.ok,R.good,R.goodr,R.rm⟩
theorem RunG.below (R:RunG w0 σ0 w σ hp tv b6 room cs cr) (k:Below w.heap.size w w'):RunG w0 σ0 w' σ hp tv b6 room cs cr:=R.up (Stp.of_below R.stp.sat k)
theorem RunG.act {x:ActH} {m ds:List Value} {D:Nat->Prop} (R:RunG w0 σ0 w σ hp tv b6 room cs cr) (s:Glb σ0) (d:HeapIs w0.heap.size D σ w hp tv room cs) (n: ¬D b6) (o:Y8 σ w b6 ds) (q:D6 σ (Q3 W8,room,cr) ds) (u:Gn σ x m)
 (h: ∀a b w' σ' l,HeapIs w0.heap.size l σ' w' hp tv room (T4 W4 (Q3 W8) room cs x)-> ¬l b6->Y8 σ' w' b6 ds->D6 σ' (Q3 W8,room,T4 W4 (Q3 W8) room cr x) a->Stp w0 σ0 w' σ'->SLe σ σ'->(cr=cs->b=true)->K (.tuple #[.agg a.toArray, .bool b]) w'):Q0 P F.bd [hp, .agg ds.toArray, .agg m.toArray] w K:=by
 refine X9p R.stp.sat (s.lift ⟨R.stp.le⟩) R.stp.bel.size d q R.tab Q3U R.ok W3 R.good R.goodr R.rm u (fun k i=>(d.mem i).1) fun a b v y p g c r f j=>?_;have t:=o.lt;exact h a b v y p r (fun e=>(f _ e).elim n fun e=>by omega) (o.nx c n) j (c.stp' R.stp fun k i=>(d.mem i).1) c.le g
end Go.Proofs.Y
namespace Go.Hm
open Go.Kd
def gA:X2:=[65]
def rV (n:Int):Val:=⟨4,0,[],n⟩
def Ul (n:Int):Cel:=⟨gA,[⟨1,0,[],0⟩,rV n]⟩
def Pa:Cel:=⟨gA,[⟨1,0,[],0⟩,Val.zero]⟩
set_option maxRecDepth 100000 in
theorem X8c {room:Int} {cs:List Cel} (h:3<=D0 room cs):Uu (Q3 W8) room cs gA=(cs++[Pa],0):=by
 have a:Yq (Q3 W8) gA=true:=by decide+kernel
 have b:U6 (Q3 W8) gA=[⟨[120],Yz,false⟩,⟨[110,101,120,116],gA,false⟩]:=by decide+kernel
 unfold Uu;rw[a,b];rw[if_neg (by simp),if_neg (by simp;omega)]
 rfl
set_option maxRecDepth 100000 in
theorem X6R:H9 (fun _=>true) (Q3 W8) [Pa] 0 1 (rV 0)=([Ul 0],0):=by decide+kernel
set_option maxRecDepth 100000 in
theorem X6S:H9 (fun _=>true) (Q3 W8) [Pa,Pa] 0 1 (rV 1)=([Ul 1,Pa],0):=by decide+kernel
set_option maxRecDepth 100000 in
theorem X6T:H9 (fun _=>true) (Q3 W8) [Ul 1,Pa] 1 1 (rV 0)=([Ul 1,Ul 0],0):=by decide+kernel
set_option maxRecDepth 100000 in
theorem X6U:H9 (fun _=>true) (Q3 W8) [Ul 1,Ul 0,Pa] 2 1 (rV 2)=([Ul 1,Ul 0,Ul 2],0):=by decide+kernel
def gxB:List Cel:=[Ul 1,Ul 0,Ul 2]
set_option maxRecDepth 100000 in
theorem X58:Xz (Q3 W8) [Ul 0] gxB (rV 0) (rV 2)=true:=by decide+kernel
set_option maxRecDepth 100000 in
theorem X8b:Xz (Q3 W8) [Ul 0] gxB (rV 0) (rV 0)=false:=by decide+kernel
set_option maxRecDepth 100000 in
theorem X59:Q8T (Q3 W8) gxB (rV 0)=true:=by decide+kernel
set_option maxRecDepth 100000 in
theorem X5a:(L6 (Q3 W8) gxB (rV 0)).length=2:=by decide+kernel
set_option maxRecDepth 100000 in
theorem X6Q:(Pv (Q3 W8) (Ul 1)).length=2:=by decide+kernel
def X84 (x:ActH):Bool:=decide (x.s.length<=100)&&decide (x.v.s.length<=5000)
theorem Q7Z: ∀(cs:List Cel) {c:Cel},c∈cs->(c.vals.length:Int)<=U4 cs
 | [],c,h=>by cases h
 | d::cs,c,h=>by
  have e:U4 (d::cs)=1+(d.vals.length:Int)+U4 cs:=by simp[U4]
  have:=C0 cs
  rcases List.mem_cons.1 h with rfl | h
  .omega
  .have:=Q7Z cs h;omega
theorem X7n {cs:List Cel} {n:Nat} (h:U4 cs<=(n:Int)) (r:Int):Yk cs r<=n:=by
 unfold Yk Lx
 split
 .rename_i b
  obtain ⟨i,rfl,a⟩:=W9.1 b;rw[L4 a];have:=Q7Z cs (List.getElem_mem a)
  simp;omega
 .simp
end Go.Hm
namespace Go.Proofs.Y
open Go.Emb Go.RowKit Go.Kd Go.Hm
variable {w w' w0 : World} {K : Value -> World -> Prop} {σ σ' σ0 : Q2} {room : Int} {cs cr : List Cel} {hp tv : Value} {b6 : Nat}
def Oi (room:Int) (cs:List Cel) (x:ActH):List Cel:=if X84 x then T4 W4 (Q3 W8) room cs x else cs
def Dw (xs:List ActH):List Cel:=(xs.take 40).foldl (Oi 300) []
theorem X3O {room:Int} {cs:List Cel} (a:W4 []=true) (b:Wf W8) (h:GoodH W4 (Q3 W8) room cs) (x:ActH):GoodH W4 (Q3 W8) room (Oi room cs x):=by
 unfold Oi
 split
 .exact GoodH.act b a h x
 .exact h
theorem Q7C {room:Int} (a:W4 []=true) (b:Wf W8): ∀(xs:List ActH) {cs:List Cel},GoodH W4 (Q3 W8) room cs->GoodH W4 (Q3 W8) room (xs.foldl (Oi room) cs)
 | [],_,h=>h
 | x::xs,_,h=>Q7C a b xs (X3O a b h x)
theorem X23 (xs:List ActH):GoodH W4 (Q3 W8) 300 (Dw xs):=Q7C Q71 Q3U _ (GoodH.empty W3)
structure Fit (cs : List Cel) : Prop where
  good : ∀ c ∈ cs, GoodC W4 (Q3 W8) cs c
  len : cs.length <= 1048576
  sz : ∀ r, Yk cs r <= 1000000000000
  refs : Tv cs
theorem X3K {room:Int} (h:GoodH W4 (Q3 W8) room cs) (c:room<=300):Fit cs:=by
 have a:=h.left;unfold D0 at a;have b:=Yf cs;exact ⟨h.cells,by omega,fun r=>Nat.le_trans (X7n (n:=300) Q5 r) W3,X3N h.cells⟩
theorem Q7y (xs:List ActH):Fit (Dw xs):=X3K (X23 xs) W3
theorem X8y {a:Addr} {b c:Operand} (h:K (.bool true) w):Z9 P .neq T.a1 b c (.pointer (some a)) (.pointer none) w K:=by
 have e:(Op.equal T.a1 (.pointer (some a)) (.pointer none)).run P w= .ok false w:=X03 9999 _;unfold Z9;rw[Z0 (v:= .bool true) (w':=w) (by simp[eqGuard,Go.binOp,e])]
 exact h
theorem RunG.fix (R:RunG w0 σ0 w σ hp tv b6 room cs cr): ∃c ds,Stp w0 σ0 w c/\SLe σ c/\O7 c hp tv room cs/\Y8 c w b6 ds/\D6 c (Q3 W8,room,cr) ds/\Tab c tv (Q3 W8):=by
 obtain ⟨D,ds,f,h,g,i⟩:=R.ex;obtain ⟨c,l,a,d,of⟩:=f.freeze R.stp.sat;refine ⟨c,ds,⟨R.stp.bel,l,fun b o e=>a.le _ _ (R.stp.le b o e),fun k j=>(of k fun e=>?_).trans (R.stp.old k j)⟩,a,d,⟨(of b6 h).trans g.1,g.2⟩,U9 i a,R.tab.lift a⟩;have:=(f.mem e).1;omega
set_option maxHeartbeats 1000000 in
theorem X6m {xs:List ActH} {v:Value} (hs:X7 w σ) (hg:Glb σ) (hv:Sl 8 Gn σ v xs)
 (h: ∀a tv ds w' σ',Stp w σ w' σ'->O7 σ' (.pointer (some a)) tv 300 (Dw xs)->D6 σ' (Q3 W8,300,Dw xs) ds->Tab σ' tv (Q3 W8)->Ok (Q3 W8)->K (.tuple #[.pointer (some a), .agg ds.toArray]) w'):Q0 P F.ak [v] w K:=Q19 (by
 unfold Eo;simp only[Y3,N0,D9];unfold V1 V3 X6 Y0 X4 X5;refine D3 hs fun b3 w1 σ1 af X ag=>?_;have L:=hg.lift ⟨X.le⟩;refine Q75 X.sat L W3 fun b a D ds w2 σ2 Y W g O ok=>?_;rw[show (300 % 301:Int)=300 from rfl] at W g
 refine J8 (vs:=[_,_]) rfl ?_;refine J8 (vs:=[_,_]) rfl ?_;refine D3 Y.sat fun U w3 σ3 q k3 f=>?_;have ae:=C6 q Y;refine Vk f rfl (by obtain ⟨B,A,rfl,_⟩:=D6.out g;rfl) (by rw[List.all_toArray];exact List.all_eq_true.2 (Rep.one g)) fun w4 u4 p=>?_
 have m:Stp w2 σ2 w4 σ3:=u4.stp k3 q f.1;have R4:Run w1 σ1 w4 σ3 (.pointer (some ⟨b,0,none⟩)) (.pointer (some a)) U 300 []:=⟨Y.trans m,⟨D,ds,W.up m,fun e=>by have:=(W.mem e).2.1;omega,p,U9 g ⟨m.le⟩⟩,ae,O.lift ⟨m.le⟩,ok,GoodH.empty W3,GoodH.empty W3,by decide⟩
 have am:=hv.up X;clear Y k3 m W g O f p u4 q;refine V7 xs.length (fun i w'=>i<=40/\ ∃σ',Run w1 σ1 w' σ' (.pointer (some ⟨b,0,none⟩)) (.pointer (some a)) U 300 ((xs.take i).foldl (Oi 300) [])) ⟨by decide,σ3,R4⟩ fun i w5 d hi M=>?_
 obtain ⟨ad,σ5,C⟩:=M;have s5:=C.stp.sat;have l:=am.up C.stp;have aj:=l.max
 have E:i=xs.length\/i=40->dr w5 fun Tr Br=>J3 Tr (fun y=> ∀w,Br w->Q6 P T.a (.pointer (some ⟨U,0,none⟩)) w (dk Tr y w)) fun y=> ∀Q w,Br w->y Q w->J9 P T.a (.pointer (some ⟨b3,0,none⟩)) Q w fun _u w=>J5 P T.a (.pointer (some ⟨b3,0,none⟩)) w fun r1=>K (.tuple #[.pointer (some ⟨b,0,none⟩),r1]) w:=fun hf=>by
  have e:(xs.take i).foldl (Oi 300) []=Dw xs:=by
   unfold Dw
   rcases hf with rfl | rfl
   .rw[List.take_of_length_le (Nat.le_refl _),List.take_of_length_le ad]
   .rfl
  rw[e] at C;obtain ⟨σf,ab,Z,bp,ak,f,j,al⟩:=C.fix;have o:=ag.up Z;refine U8 Z.sat ?_;refine X0 (V:= .agg ab.toArray) (fun w hb=>Bq (f.up hb.stp) (by obtain ⟨B,A,rfl,_⟩:=D6.out j;rfl) (Q8 rfl)) ?_
  rintro _ w6 r rfl;have k6:=r.stp;refine Vk (o.up k6) rfl (by obtain ⟨B,A,rfl,_⟩:=D6.out j;rfl) (by rw[List.all_toArray];exact List.all_eq_true.2 (Rep.one j)) fun w7 u7 ah=>?_
  refine M4 ah (by obtain ⟨B,A,rfl,_⟩:=D6.out j;rfl) ?_
  have S7:Stp w σ w7 σf:=u7.stp (X.trans (Z.trans k6)) af o.1;exact h _ _ _ _ _ S7 ak j al ok
 refine X8y ?_
 (repeat refine Hd.h ?_)
 refine Q7 l ?_
 (repeat refine Hd.h ?_)
 refine J0 ?_
 (repeat refine Hd.h ?_)
 cases hd:decide ((i:Int)<(xs.length:Nat)) with
 | false=>
  (repeat refine Hd.h ?_)
  refine Z7 ?_;exact E (.inl (by simp at hd;omega))
 | true=>
  have c:i<xs.length:=by simpa using hd
  (repeat refine Hd.h ?_)
  refine J0 ?_
  (repeat refine Hd.h ?_)
  cases J:decide ((i:Int)<40) with
  | false=>
   refine Z7 ?_;exact E (.inr (by simp at J;omega))
  | true=>
   refine Z3 ?_;have bg:i<40:=by simp at J;omega
   refine Yu (fun _ w'=> ∃σ',Run w1 σ1 w' σ' (.pointer (some ⟨b,0,none⟩)) (.pointer (some a)) U 300 ((xs.take (i+1)).foldl (Oi 300) [])) ?_ (fun z dd w6 hz=>?_)
   .have es:(xs.take (i+1)).foldl (Oi 300) []=Oi 300 ((xs.take i).foldl (Oi 300) []) xs[i]:=by
     rw[List.take_add_one,List.getElem?_eq_getElem c,Option.toList_some,List.foldl_append];rfl
    rw[es];generalize (xs.take i).foldl (Oi 300) []=cs at*;obtain ⟨c0,p1,p2,p3⟩:=l.el c;refine Z1 l c ?_;refine Y7 s5 p1 p2 ?_;refine X94 s5 p3 fun w6 r=>?_;have R:=C.below r;unfold Oi X84;cases bj:(decide (xs[i].s.length<=100)&&decide (xs[i].v.s.length<=5000)) with
    | false=>
     refine Z7 ?_;rw[if_neg U5];exact ⟨_,R⟩
    | true=>
     refine Z3 ?_;rw[if_pos rfl];refine X9B ?_;have n:=R.below (Below.refl _ _).drew;obtain ⟨D7,ba,g1,g2,g3,g4⟩:=n.ex;refine Z1 l c ?_;refine Bq g3 (by obtain ⟨B,A,rfl,_⟩:=D6.out g4;rfl) ?_
     refine Y7 n.stp.sat p1 p2 ?_;refine n.act L g1 g2 g3 g4 p3 fun aa bb w8 σ8 D8 g5 N t u H an _=>?_;refine J8 (vs:=[_,_]) rfl ?_;refine J8 (vs:=[_,_]) rfl ?_;refine Vk t (by obtain ⟨B,A,rfl,_⟩:=D6.out g4;rfl) (by obtain ⟨B,A,rfl,_⟩:=D6.out u;rfl) (by rw[List.all_toArray];exact List.all_eq_true.2 (Rep.one u)) fun w9 u9 ai=>?_
     have G:=GoodH.act Q3U Q71 n.good xs[i];exact ⟨σ8,u9.stp H n.bge t.1,⟨D8,aa,g5.nx (Nxt.of_upd H.sat u9 t.1) fun k hk e=>N (e▸hk),N,ai,u⟩,n.bge,n.tab.lift an,n.ok,G,G,n.rm⟩
   .obtain ⟨σ6,R⟩:=hz
    (try simp only[↓M1,M1,Mb,reduceIte])
    exact Z5 aj c ⟨by omega,σ6,R⟩)
theorem Xs {n:Int} (e:X7 w σ) (h: ∀w' σ',Stp w σ w' σ'->K (.agg [I (rV n).sort,I (rV n).n,S (rV n).s,I (rV n).ref].toArray) w'):Q0 P F.c [I n] w K:=Q3r (by
 unfold Cu;refine D3 e fun b w1 σ1 d f c=>?_;refine N3 (cells:= #[I 4,I 0,S [],I n]) X8 ?_;refine Vk (ds:=[I 4,I 0,S [],I n]) c rfl rfl (by rw[List.all_toArray];exact List.all_eq_true.2 Bm) fun i g a=>?_
 refine M4 a rfl ?_;exact h _ _ (g.stp f d c.1))
end Go.Proofs.Y
