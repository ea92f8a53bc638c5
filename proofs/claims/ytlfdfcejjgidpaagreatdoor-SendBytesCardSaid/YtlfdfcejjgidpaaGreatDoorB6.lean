/- Parts of a proof about the given program: its functions as texts of their own, what each computes, plain laws of that. The conditions of each stand in its statement. -/
import Derived.Test.YtlfdfcejjgidpaaGreatDoorB5
import Derived.Test.YtlfdfcejjgidpaaGreatDoorB4
import Derived.Test.YtlfdfcejjgidpaaGreatDoorB3
set_option linter.unnecessarySimpa false
set_option linter.defProp false
set_option linter.unusedSectionVars false
set_option linter.unusedVariables false
set_option linter.unusedSimpArgs false
namespace Go.Hm
open Go.Kd
def Rp (c:Cla) (i:Nat):Bool:=C6 (c.like.getD i [])&& !decide (c.like.getD i []=c.name)
def Ze (c:Cla) (i k:Nat):Bool:= !decide (c.like.getD k []=c.like.getD i [])
def Tt (c:Cla) (i:Nat):Fld:=c.fields.getD i Fld.zero
def Ii (c:Cla) (i:Nat):Hm.Met:=c.methods.getD i Hm.Met.zero
def Ct (c:Cla) (i:Nat):Bool:=B5 (Tt c i).name&&right (Tt c i).kind&& !c.iface
def Ua (c:Cla) (i k:Nat):Bool:= !decide ((Tt c k).name=(Tt c i).name)
def X3P (c:Cla):Bool:=(!c.iface||(c.abs&&decide (c.super=L3)))&& !(c.abs&&c.fin)
def Ud (c:Cla) (i k:Nat):Bool:= !decide ((Ii c k).name=(Ii c i).name)
theorem Dm {p:Nat->Bool} {n:Nat}:(List.range (n+1)).all p=((List.range n).all p&&p n):=by rw[List.range_succ,List.all_append];simp
theorem P5 {α:Type} {xs:List α} {i:Nat} {d:α} (h:i<xs.length):xs.getD i d=xs[i]:=by rw[List.getD_eq_getElem?_getD,List.getElem?_eq_getElem h];rfl
end Go.Hm
namespace Go.Proofs.Y
open Go.Emb Go.RowKit Go.Kd Go.Hm
variable {w : World} {K : Value -> World -> Prop}
def Rq (c:Cla) (i:Nat):Bool:=Ye (Ii c i)&&(!(Ii c i).abs||c.abs)&&(!c.iface||(Ii c i).abs)
set_option maxHeartbeats 2000000 in
theorem Q8j {c:Cla} {lv fv mv:Value} {w1:World} {σ1:Q2} {q:Addr} {ok:Bool} (ac:X3 w1 σ1) (hq:U0 σ1 q [S c.name,S c.super,lv, .bool c.iface, .bool c.abs, .bool c.fin,fv,mv]) {i:Nat} {N m0:Nat} {M:Nat->Value->World->Prop} (g1:Sl 1 L1 σ1 lv c.like) (hi:i<c.like.length)
 (h: ∀w' σ',Stp w1 σ1 w' σ'->Ai N M (Value.bool (ok&&(List.range i).all (Ze c i)), .int .i64 (IntKind.i64.wrap (i+1))) w'/\Ej N (Value.bool (ok&&(List.range i).all (Ze c i)), .int .i64 (IntKind.i64.wrap (i+1)))<m0):
 lp (
  α:=Value×Value) (Value.bool ok,(.int .i64 0)) w1 fun g b d_ w=>
  Z2 P .lss T.e (.tmp 52) (.tmp 53) b.2 (I i) w fun ae w=>
  X0 ae (
   dr w fun e f=>
   V2 e (fun u=> ∀w:World,f w->Q1 b.1 true w (fieldAddr P T.c (.pointer (some q)) 2) (dk e u w)) fun u=>
   V2 e (fun y=> ∀w:World,f w->Q1 b.1 true w (fun w J=>J b.2 w) (dk e y w)) fun y=>
   V2 e (fun A=> ∀w:World,f w->Q1 b.1 true w (fieldAddr P T.c (.pointer (some q)) 2) (dk e A w)) fun A=>
   V2 e (fun C=> ∀w:World,f w->Q1 b.1 true w (fun w J=>J (I i) w) (dk e C w)) fun C=>
   V2 e (fun v=> ∀l:Value,∀w:World,f w->u l w->Q1 b.1 true w (Q7 P T.h l) (dk e v w)) fun v=>
   V2 e (fun z=> ∀m:Value,∀n:Value,∀w:World,f w->v m w->y n w->Q1 b.1 true w (indexAddr P T.h m n) (dk e z w)) fun z=>
   V2 e (fun H=> ∀o:Value,∀w:World,f w->z o w->Q1 b.1 true w (Q7 P T.b o) (dk e H w)) fun H=>
   V2 e (fun B=> ∀p:Value,∀w:World,f w->A p w->Q1 b.1 true w (Q7 P T.h p) (dk e B w)) fun B=>
   V2 e (fun D=> ∀r:Value,∀s:Value,∀w:World,f w->B r w->C s w->Q1 b.1 true w (indexAddr P T.h r s) (dk e D w)) fun D=>
   V2 e (fun L=> ∀t:Value,∀w:World,f w->D t w->Q1 b.1 true w (Q7 P T.b t) (dk e L w)) fun L=>
   ∀l:Value,∀n:Value,∀p:Value,∀s:Value,∀m:Value,∀o:Value,∀V:Value,∀r:Value,∀t:Value,∀W:Value,∀w:World,f w->u l w->y n w->A p w->C s w->v m w->z o w->H V w->B r w->D t w->L W w->
   Q1 b.1 true w (Z2 P .neq T.b (.tmp 63) (.tmp 68) V W) fun ag w=>
   pick P b.1 ag (.bool false) w fun ah w=>
   Z2 P .add T.e (.tmp 55) (.const (.int .i64 1)) b.2 (.int .i64 1) w fun af w=>
   g (ah,af) w) (
   Z2 P .add T.e (.tmp 31) (.const (.int .i64 1)) (I i) (.int .i64 1) w fun U w=>
   (Ai N M (b.1,U) w/\Ej N (b.1,U)<m0)):=by
 have am:=g1.max;refine O4 (a:=Value.bool ok) i (fun k x w'=> ∃σ',Stp w1 σ1 w' σ'/\x=Value.bool (ok&&(List.range k).all (Ze c i))) ⟨σ1,Stp.refl ac,by simp⟩ fun k x w2 d hk Q=>?_
 obtain ⟨σ2,j,rfl⟩:=Q;have ar:=hq.up j;have O:=g1.up j;have ad:=j.sat;refine Y9 ?_;refine Q4 (fun X=>?_) (fun X=>?_)
 .have aa:k<i:=by simpa using X
  have R:k<c.like.length:=by omega
  have E:(ok&&(List.range (k+1)).all (Ze c i))=((ok&&(List.range k).all (Ze c i))&&Ze c i k):=by rw[Dm,Bool.and_assoc]
  have hQ:Ze c i k= !decide (c.like[k]=c.like[i]):=by unfold Ze;rw[P5 R,P5 hi]
  rw[hQ] at E;obtain ⟨p1,_⟩:=O.elS R;obtain ⟨p2,_⟩:=O.elS hi;generalize (ok&&(List.range k).all (Ze c i))=Y at E⊢;clear h hQ X;cases Y
  all_goals
   refine V3 ad ?_
   (repeat refine Y3 Vq ?_)
   (intros;(repeat (rename_i hx;subst hx));(try simp only[↓M2,M2,Mb,reduceIte]))
   rename_i w3 Z;exact Z8 Q5 aa ⟨σ2,j.trans Z.stp,by rw[E];rfl⟩
 .have ab:k=i:=by
   have: ¬k<i:=by simpa using X
   omega
  subst ab
  (try simp only[↓M1,M1,Mb,reduceIte])
  exact h _ _ j
set_option maxHeartbeats 4000000 in
theorem X6S {c:Cla} {lv fv mv:Value} {w1:World} {σ1:Q2} {q:Addr} {ok:Bool} (hs1:X3 w1 σ1) (hq:U0 σ1 q [S c.name,S c.super,lv, .bool c.iface, .bool c.abs, .bool c.fin,fv,mv]) {J:Value->World->Prop} (hn:c.name.length<=V4) (g1:Sl 1 L1 σ1 lv c.like)
 (h: ∀w' σ',Stp w1 σ1 w' σ'->J (.bool (ok&&(List.range c.like.length).all fun i=>Rp c i&&(List.range i).all (Ze c i))) w'):
 lp (α:=Value×Value) (Value.bool ok,(.int .i64 0)) w1 fun again4 x4 d_ w=>
 fieldAddr P T.c (.pointer (some q)) 2 w fun t27 w=>
 Q7 P T.h t27 w fun t28 w=>
 U4 P .len [T.h] T.e [false] [t28] w fun t29 w=>
 Z2 P .lss T.e (.tmp 26) (.tmp 29) x4.2 t29 w fun t30 w=>
 X0 t30 (
  dr w fun Tr Br=>
  V2 Tr (fun φ35=> ∀w:World,Br w->Q1 x4.1 true w (fieldAddr P T.c (.pointer (some q)) 2) (dk Tr φ35 w)) fun φ35=>
  V2 Tr (fun φ37=> ∀w:World,Br w->Q1 x4.1 true w (fun w J=>J x4.2 w) (dk Tr φ37 w)) fun φ37=>
  V2 Tr (fun φ36=> ∀t35:Value,∀w:World,Br w->φ35 t35 w->Q1 x4.1 true w (Q7 P T.h t35) (dk Tr φ36 w)) fun φ36=>
  V2 Tr (fun φ38=> ∀t36:Value,∀t37:Value,∀w:World,Br w->φ36 t36 w->φ37 t37 w->Q1 x4.1 true w (indexAddr P T.h t36 t37) (dk Tr φ38 w)) fun φ38=>
  V2 Tr (fun φ39=> ∀t38:Value,∀w:World,Br w->φ38 t38 w->Q1 x4.1 true w (Q7 P T.b t38) (dk Tr φ39 w)) fun φ39=>
  V2 Tr (fun φ40=> ∀t39:Value,∀w:World,Br w->φ39 t39 w->Q1 x4.1 true w (Q0 P F.d [t39]) (dk Tr φ40 w)) fun φ40=>
  V2 Tr (fun φ41=> ∀t40:Value,∀w:World,Br w->φ40 t40 w->pick P x4.1 t40 (.bool false) w (dk Tr φ41 w)) fun φ41=>
  V2 Tr (fun φ43=> ∀t41:Value,∀w:World,Br w->φ41 t41 w->Q1 t41 true w (fieldAddr P T.c (.pointer (some q)) 2) (dk Tr φ43 w)) fun φ43=>
  V2 Tr (fun φ45=> ∀t41:Value,∀w:World,Br w->φ41 t41 w->Q1 t41 true w (fun w J=>J x4.2 w) (dk Tr φ45 w)) fun φ45=>
  V2 Tr (fun φ48=> ∀t41:Value,∀w:World,Br w->φ41 t41 w->Q1 t41 true w (fieldAddr P T.c (.pointer (some q)) 0) (dk Tr φ48 w)) fun φ48=>
  V2 Tr (fun φ44=> ∀t41:Value,∀t43:Value,∀w:World,Br w->φ41 t41 w->φ43 t43 w->Q1 t41 true w (Q7 P T.h t43) (dk Tr φ44 w)) fun φ44=>
  V2 Tr (fun φ46=> ∀t41:Value,∀t44:Value,∀t45:Value,∀w:World,Br w->φ41 t41 w->φ44 t44 w->φ45 t45 w->Q1 t41 true w (indexAddr P T.h t44 t45) (dk Tr φ46 w)) fun φ46=>
  V2 Tr (fun φ47=> ∀t41:Value,∀t46:Value,∀w:World,Br w->φ41 t41 w->φ46 t46 w->Q1 t41 true w (Q7 P T.b t46) (dk Tr φ47 w)) fun φ47=>
  V2 Tr (fun φ49=> ∀t41:Value,∀t48:Value,∀w:World,Br w->φ41 t41 w->φ48 t48 w->Q1 t41 true w (Q7 P T.b t48) (dk Tr φ49 w)) fun φ49=>
  ∀t35:Value,∀t37:Value,∀t36:Value,∀t38:Value,∀t39:Value,∀t40:Value,∀t41:Value,∀t43:Value,∀t45:Value,∀t48:Value,∀t44:Value,∀t46:Value,∀t47:Value,∀t49:Value,∀w:World,Br w->φ35 t35 w->φ37 t37 w->φ36 t36 w->φ38 t38 w->φ39 t39 w->φ40 t40 w->φ41 t41 w->φ43 t43 w->φ45 t45 w->φ48 t48 w->φ44 t44 w->φ46 t46 w->φ47 t47 w->φ49 t49 w->
  Q1 t41 true w (Z2 P .neq T.b (.tmp 47) (.tmp 49) t47 t49) fun t50 w=>
  pick P t41 t50 (.bool false) w fun t51 w=>
  lp (α:=Value×Value) (t51,(.int .i64 0)) w fun again10 x10 d_ w=>
   Z2 P .lss T.e (.tmp 52) (.tmp 53) x10.2 x4.2 w fun t54 w=>
   X0 t54 (
    dr w fun Tr Br=>
    V2 Tr (fun φ59=> ∀w:World,Br w->Q1 x10.1 true w (fieldAddr P T.c (.pointer (some q)) 2) (dk Tr φ59 w)) fun φ59=>
    V2 Tr (fun φ61=> ∀w:World,Br w->Q1 x10.1 true w (fun w J=>J x10.2 w) (dk Tr φ61 w)) fun φ61=>
    V2 Tr (fun φ64=> ∀w:World,Br w->Q1 x10.1 true w (fieldAddr P T.c (.pointer (some q)) 2) (dk Tr φ64 w)) fun φ64=>
    V2 Tr (fun φ66=> ∀w:World,Br w->Q1 x10.1 true w (fun w J=>J x4.2 w) (dk Tr φ66 w)) fun φ66=>
    V2 Tr (fun φ60=> ∀t59:Value,∀w:World,Br w->φ59 t59 w->Q1 x10.1 true w (Q7 P T.h t59) (dk Tr φ60 w)) fun φ60=>
    V2 Tr (fun φ62=> ∀t60:Value,∀t61:Value,∀w:World,Br w->φ60 t60 w->φ61 t61 w->Q1 x10.1 true w (indexAddr P T.h t60 t61) (dk Tr φ62 w)) fun φ62=>
    V2 Tr (fun φ63=> ∀t62:Value,∀w:World,Br w->φ62 t62 w->Q1 x10.1 true w (Q7 P T.b t62) (dk Tr φ63 w)) fun φ63=>
    V2 Tr (fun φ65=> ∀t64:Value,∀w:World,Br w->φ64 t64 w->Q1 x10.1 true w (Q7 P T.h t64) (dk Tr φ65 w)) fun φ65=>
    V2 Tr (fun φ67=> ∀t65:Value,∀t66:Value,∀w:World,Br w->φ65 t65 w->φ66 t66 w->Q1 x10.1 true w (indexAddr P T.h t65 t66) (dk Tr φ67 w)) fun φ67=>
    V2 Tr (fun φ68=> ∀t67:Value,∀w:World,Br w->φ67 t67 w->Q1 x10.1 true w (Q7 P T.b t67) (dk Tr φ68 w)) fun φ68=>
    ∀t59:Value,∀t61:Value,∀t64:Value,∀t66:Value,∀t60:Value,∀t62:Value,∀t63:Value,∀t65:Value,∀t67:Value,∀t68:Value,∀w:World,Br w->φ59 t59 w->φ61 t61 w->φ64 t64 w->φ66 t66 w->φ60 t60 w->φ62 t62 w->φ63 t63 w->φ65 t65 w->φ67 t67 w->φ68 t68 w->
    Q1 x10.1 true w (Z2 P .neq T.b (.tmp 63) (.tmp 68) t63 t68) fun t69 w=>
    pick P x10.1 t69 (.bool false) w fun t70 w=>
    Z2 P .add T.e (.tmp 55) (.const (.int .i64 1)) x10.2 (.int .i64 1) w fun t56 w=>
    again10 (t70,t56) w) (
    Z2 P .add T.e (.tmp 31) (.const (.int .i64 1)) x4.2 (.int .i64 1) w fun t32 w=>
    again4 (x10.1,t32) w)) (
  J x4.1 w):=by
 have hmax:=g1.max;refine O4 (a:=Value.bool ok) c.like.length (fun n x w'=> ∃σ',Stp w1 σ1 w' σ'/\x=Value.bool (ok&&(List.range n).all fun i=>Rp c i&&(List.range i).all (Ze c i))) ⟨σ1,Stp.refl hs1,by simp⟩ fun n x w2 d hn2 hinv=>?_
 obtain ⟨σ2,hk2,rfl⟩:=hinv;have hq2:=hq.up hk2;have g12:=g1.up hk2;have hs2:=hk2.sat
 (repeat refine Hd.h ?_)
 refine ld hs2 hq2 rfl ?_;refine Q6 g12 ?_;refine Y9 ?_;refine Q4 (fun hc=>?_) (fun hc=>?_)
 .have hn':n<c.like.length:=by simpa using hc
  have hnx:(ok&&(List.range (n+1)).all fun i=>Rp c i&&(List.range i).all (Ze c i))=((ok&&(List.range n).all fun i=>Rp c i&&(List.range i).all (Ze c i))&&(Rp c n&&(List.range n).all (Ze c n))):=by rw[Dm,Bool.and_assoc]
  have hP:Rp c n=(C6 c.like[n]&& !decide (c.like[n]=c.name)):=by unfold Rp;rw[P5 hn']
  obtain ⟨p1,p2⟩:=g12.elS hn';have p2:c.like[n].length<=140737488355328:=by simp only[V4] at p2;omega
  generalize (ok&&(List.range n).all fun i=>Rp c i&&(List.range i).all (Ze c i))=acc at hnx⊢;clear h hc;cases hacc:acc with
  | false=>
   refine V3 hs2 ?_
   (repeat refine Y3 Vq ?_)
   intros;(repeat (rename_i hx;subst hx))
   rename_i w3 hb3
   (repeat refine Hd.h ?_)
   refine Q8j hb3.sat hq2 g12 hn' fun w4 σ4 hk4=>?_;exact Z8 hmax hn' ⟨σ4,hk2.trans (hb3.stp.trans hk4),by rw[hnx,hacc];rfl⟩
  | true=>
   cases hcl:C6 c.like[n] with
   | false=>
    refine V3 hs2 ?_;have hrc: ∀{w':World} {K:Value->World->Prop},K (.bool false) w'->Q0 P F.d [S c.like[n]] w' K:=fun hK=>Ut _ p2 (by rw[hcl];exact hK)
    (repeat (apply Y3;(· intros;(repeat (rename_i hx;subst hx));(repeat' (first | (with_reducible exact X9 rfl) | (with_reducible exact F7 (Stp.bel (by (repeat (first | exact Stp.refl (by (first | assumption | exact Stp.sat Q8 | exact Hst.sat Q8)) | assumption | refine Stp.trans ?_ (by first | assumption | exact Hst.stp Q8))))) rfl) | (with_reducible intro _) | (simp only[↓M2,M2,Mb,reduceIte]) | (with_reducible refine hrc ?_) | (with_reducible show Q7 _ _ _ _ _;first | refine Y6 aS aL aR ?_ | refine Z3 aS aL aR ?_ | refine ld aS aL aR ?_) | (with_reducible show indexAddr _ _ _ _ _ _;refine Y7 aL au ?_) | (with_reducible show U4 _ _ _ _ _ _ _ _;refine Q6 aL ?_) | (with_reducible show Xv _ _ _ _ _ _;refine W3 aR ?_) | (with_reducible show pick _ _ _ _ _ _;refine F6 ?_) | (apply Zv;intro hh;(try simp only[hh,reduceIte,↓M2,M2,Mb,reduceIte]))));done)))
    intros;(repeat (rename_i hx;subst hx))
    rename_i w3 hb3
    (repeat refine Hd.h ?_)
    refine Q8j hb3.sat hq2 g12 hn' fun w4 σ4 hk4=>?_;exact Z8 hmax hn' ⟨σ4,hk2.trans (hb3.stp.trans hk4),by rw[hnx,hacc,hP,hcl];rfl⟩
   | true=>
    refine V3 hs2 ?_;have hrc: ∀{w':World} {K:Value->World->Prop},K (.bool true) w'->Q0 P F.d [S c.like[n]] w' K:=fun hK=>Ut _ p2 (by rw[hcl];exact hK)
    (repeat (apply Y3;(· intros;(repeat (rename_i hx;subst hx));(repeat' (first | (with_reducible exact X9 rfl) | (with_reducible exact F7 (Stp.bel (by (repeat (first | exact Stp.refl (by (first | assumption | exact Stp.sat Q8 | exact Hst.sat Q8)) | assumption | refine Stp.trans ?_ (by first | assumption | exact Hst.stp Q8))))) rfl) | (with_reducible intro _) | (simp only[↓M2,M2,Mb,reduceIte]) | (with_reducible refine hrc ?_) | (with_reducible show Q7 _ _ _ _ _;first | refine Y6 aS aL aR ?_ | refine Z3 aS aL aR ?_ | refine ld aS aL aR ?_) | (with_reducible show indexAddr _ _ _ _ _ _;refine Y7 aL au ?_) | (with_reducible show U4 _ _ _ _ _ _ _ _;refine Q6 aL ?_) | (with_reducible show Xv _ _ _ _ _ _;refine W3 aR ?_) | (with_reducible show pick _ _ _ _ _ _;refine F6 ?_) | (apply Zv;intro hh;(try simp only[hh,reduceIte,↓M2,M2,Mb,reduceIte]))));done)))
    intros;(repeat (rename_i hx;subst hx))
    rename_i w3 hb3
    (repeat refine Hd.h ?_)
    refine Jb ?_
    (repeat refine Hd.h ?_)
    refine Q8j hb3.sat hq2 g12 hn' fun w4 σ4 hk4=>?_;exact Z8 hmax hn' ⟨σ4,hk2.trans (hb3.stp.trans hk4),by rw[hnx,hacc,hP,hcl];simp⟩
 .have hn': ¬n<c.like.length:=by simpa using hc
  obtain rfl:n=c.like.length:=by omega
  exact h _ _ hk2
set_option maxHeartbeats 2000000 in
theorem Q6W {c:Cla} {lv fv mv:Value} {w1:World} {σ1:Q2} {q:Addr} {ok:Bool} (ak:X3 w1 σ1) (hq:U0 σ1 q [S c.name,S c.super,lv, .bool c.iface, .bool c.abs, .bool c.fin,fv,mv]) {i:Nat} {N m0:Nat} {W:Nat->Value->World->Prop} (g2:Sl 3 K3 σ1 fv c.fields) (hi:i<c.fields.length)
 (h: ∀w' σ',Stp w1 σ1 w' σ'->Ai N W (Value.bool (ok&&(List.range i).all (Ua c i)), .int .i64 (IntKind.i64.wrap (i+1))) w'/\Ej N (Value.bool (ok&&(List.range i).all (Ua c i)), .int .i64 (IntKind.i64.wrap (i+1)))<m0):
 lp (α:=Value×Value) (Value.bool ok,(.int .i64 0)) w1 fun L b d_ w=>
  Z2 P .lss T.e (.tmp 102) (.tmp 103) b.2 (I i) w fun aa w=>
  X0 aa (
   dr w fun e H=>
   V2 e (fun t=> ∀w:World,H w->Q1 b.1 true w (fieldAddr P T.c (.pointer (some q)) 6) (dk e t w)) fun t=>
   V2 e (fun v=> ∀w:World,H w->Q1 b.1 true w (fun w J=>J b.2 w) (dk e v w)) fun v=>
   V2 e (fun A=> ∀w:World,H w->Q1 b.1 true w (fieldAddr P T.c (.pointer (some q)) 6) (dk e A w)) fun A=>
   V2 e (fun C=> ∀w:World,H w->Q1 b.1 true w (fun w J=>J (I i) w) (dk e C w)) fun C=>
   V2 e (fun u=> ∀f:Value,∀w:World,H w->t f w->Q1 b.1 true w (Q7 P T.j f) (dk e u w)) fun u=>
   V2 e (fun y=> ∀g:Value,∀j:Value,∀w:World,H w->u g w->v j w->Q1 b.1 true w (indexAddr P T.j g j) (dk e y w)) fun y=>
   V2 e (fun z=> ∀l:Value,∀w:World,H w->y l w->Q1 b.1 true w (fieldAddr P T.m l 0) (dk e z w)) fun z=>
   V2 e (fun O=> ∀m:Value,∀w:World,H w->z m w->Q1 b.1 true w (Q7 P T.b m) (dk e O w)) fun O=>
   V2 e (fun B=> ∀n:Value,∀w:World,H w->A n w->Q1 b.1 true w (Q7 P T.j n) (dk e B w)) fun B=>
   V2 e (fun D=> ∀o:Value,∀p:Value,∀w:World,H w->B o w->C p w->Q1 b.1 true w (indexAddr P T.j o p) (dk e D w)) fun D=>
   V2 e (fun E=> ∀r:Value,∀w:World,H w->D r w->Q1 b.1 true w (fieldAddr P T.m r 0) (dk e E w)) fun E=>
   V2 e (fun Q=> ∀s:Value,∀w:World,H w->E s w->Q1 b.1 true w (Q7 P T.b s) (dk e Q w)) fun Q=>
   ∀f:Value,∀j:Value,∀n:Value,∀p:Value,∀g:Value,∀l:Value,∀m:Value,∀R:Value,∀o:Value,∀r:Value,∀s:Value,∀U:Value,∀w:World,H w->t f w->v j w->A n w->C p w->u g w->y l w->z m w->O R w->B o w->D r w->E s w->Q U w->
   Q1 b.1 true w (Z2 P .neq T.b (.tmp 114) (.tmp 120) R U) fun ac w=>
   pick P b.1 ac (.bool false) w fun ad w=>
   Z2 P .add T.e (.tmp 105) (.const (.int .i64 1)) b.2 (.int .i64 1) w fun ab w=>
   L (ad,ab) w) (
   Z2 P .add T.e (.tmp 76) (.const (.int .i64 1)) (I i) (.int .i64 1) w fun ae w=>
   (Ai N W (b.1,ae) w/\Ej N (b.1,ae)<m0)):=by
 have ar:=g2.max;refine O4 (a:=Value.bool ok) i (fun k x w'=> ∃σ',Stp w1 σ1 w' σ'/\x=Value.bool (ok&&(List.range k).all (Ua c i))) ⟨σ1,Stp.refl ak,by simp⟩ fun k x w2 d hk Y=>?_
 obtain ⟨σ2,M,rfl⟩:=Y;have ax:=hq.up M;have X:=g2.up M;have al:=M.sat;refine Y9 ?_;refine Q4 (fun hc=>?_) (fun hc=>?_)
 .have ai:k<i:=by simpa using hc
  have Z:k<c.fields.length:=by omega
  have V:(ok&&(List.range (k+1)).all (Ua c i))=((ok&&(List.range k).all (Ua c i))&&Ua c i k):=by rw[Dm,Bool.and_assoc]
  have hQ:Ua c i k= !decide (c.fields[k].name=c.fields[i].name):=by unfold Ua Tt;rw[P5 Z,P5 hi]
  rw[hQ] at V;obtain ⟨p1,_⟩:=X.elF Z;obtain ⟨p2,_⟩:=X.elF hi;generalize (ok&&(List.range k).all (Ua c i))=ag at V⊢;clear h hQ hc;cases ag
  all_goals
   refine V3 al ?_
   (repeat refine Y3 Vq ?_)
   (intros;(repeat (rename_i hx;subst hx));(try simp only[↓M2,M2,Mb,reduceIte]))
   rename_i w3 ah;exact Z8 Q5 ai ⟨σ2,M.trans ah.stp,by rw[V];rfl⟩
 .have aj:k=i:=by
   have: ¬k<i:=by simpa using hc
   omega
  subst aj
  (try simp only[↓M1,M1,Mb,reduceIte])
  exact h _ _ M
set_option maxHeartbeats 4000000 in
theorem X8A {c:Cla} {lv fv mv:Value} {w1:World} {σ1:Q2} {q:Addr} {ok:Bool} (aw:X3 w1 σ1) (hq:U0 σ1 q [S c.name,S c.super,lv, .bool c.iface, .bool c.abs, .bool c.fin,fv,mv]) {J:Value->World->Prop} (g2:Sl 3 K3 σ1 fv c.fields)
 (h: ∀w' σ',Stp w1 σ1 w' σ'->J (.bool (ok&&(List.range c.fields.length).all fun i=>Ct c i&&(List.range i).all (Ua c i))) w'):
 lp (
  α:=Value×Value) (Value.bool ok,(.int .i64 0)) w1 fun Z g d_ w=>
  fieldAddr P T.c (.pointer (some q)) 6 w fun ax w=>
  Q7 P T.j ax w fun ay w=>
  U4 P .len [T.j] T.e [false] [ay] w fun az w=>
  Z2 P .lss T.e (.tmp 71) (.tmp 74) g.2 az w fun a0 w=>
  X0 a0 (
   Q1 g.1 true w (fieldAddr P T.c (.pointer (some q)) 6) fun a2 w=>
   Q1 g.1 true w (Q7 P T.j a2) fun a3 w=>
   Q1 g.1 true w (fun w J=>J g.2 w) fun a4 w=>
   Q1 g.1 true w (indexAddr P T.j a3 a4) fun a5 w=>
   Q1 g.1 true w (fieldAddr P T.m a5 0) fun a6 w=>
   Q1 g.1 true w (Q7 P T.b a6) fun a7 w=>
   Q1 g.1 true w (Q0 P F.w [a7]) fun a8 w=>
   pick P g.1 a8 (.bool false) w fun r w=>
   Q1 r true w (fieldAddr P T.c (.pointer (some q)) 6) fun a9 w=>
   Q1 r true w (Q7 P T.j a9) fun ba w=>
   Q1 r true w (fun w J=>J g.2 w) fun bb w=>
   Q1 r true w (indexAddr P T.j ba bb) fun bc w=>
   Q1 r true w (fieldAddr P T.m bc 1) fun bd w=>
   Q1 r true w (Q7 P T.b bd) fun be w=>
   Q1 r true w (Q0 P F.f [be]) fun bf w=>
   pick P r bf (.bool false) w fun ae w=>
   Q1 ae true w (fieldAddr P T.c (.pointer (some q)) 3) fun bg w=>
   Q1 ae true w (Q7 P T.s bg) fun bh w=>
   Q1 ae true w (W2 P .not bh) fun ak w=>
   pick P ae ak (.bool false) w fun al w=>
   lp (α:=Value×Value) (al,(.int .i64 0)) w fun aa f d_ w=>
    Z2 P .lss T.e (.tmp 102) (.tmp 103) f.2 g.2 w fun am w=>
    X0 am (
     dr w fun k Y=>
     V2 k (fun L=> ∀w:World,Y w->Q1 f.1 true w (fieldAddr P T.c (.pointer (some q)) 6) (dk k L w)) fun L=>
     V2 k (fun N=> ∀w:World,Y w->Q1 f.1 true w (fun w J=>J f.2 w) (dk k N w)) fun N=>
     V2 k (fun R=> ∀w:World,Y w->Q1 f.1 true w (fieldAddr P T.c (.pointer (some q)) 6) (dk k R w)) fun R=>
     V2 k (fun V=> ∀w:World,Y w->Q1 f.1 true w (fun w J=>J g.2 w) (dk k V w)) fun V=>
     V2 k (fun M=> ∀u:Value,∀w:World,Y w->L u w->Q1 f.1 true w (Q7 P T.j u) (dk k M w)) fun M=>
     V2 k (fun O=> ∀v:Value,∀y:Value,∀w:World,Y w->M v w->N y w->Q1 f.1 true w (indexAddr P T.j v y) (dk k O w)) fun O=>
     V2 k (fun Q=> ∀z:Value,∀w:World,Y w->O z w->Q1 f.1 true w (fieldAddr P T.m z 0) (dk k Q w)) fun Q=>
     V2 k (fun ac=> ∀A:Value,∀w:World,Y w->Q A w->Q1 f.1 true w (Q7 P T.b A) (dk k ac w)) fun ac=>
     V2 k (fun U=> ∀B:Value,∀w:World,Y w->R B w->Q1 f.1 true w (Q7 P T.j B) (dk k U w)) fun U=>
     V2 k (fun W=> ∀C:Value,∀D:Value,∀w:World,Y w->U C w->V D w->Q1 f.1 true w (indexAddr P T.j C D) (dk k W w)) fun W=>
     V2 k (fun X=> ∀E:Value,∀w:World,Y w->W E w->Q1 f.1 true w (fieldAddr P T.m E 0) (dk k X w)) fun X=>
     V2 k (fun ad=> ∀H:Value,∀w:World,Y w->X H w->Q1 f.1 true w (Q7 P T.b H) (dk k ad w)) fun ad=>
     ∀u:Value,∀y:Value,∀B:Value,∀D:Value,∀v:Value,∀z:Value,∀A:Value,∀af:Value,∀C:Value,∀E:Value,∀H:Value,∀ag:Value,∀w:World,Y w->L u w->N y w->R B w->V D w->M v w->O z w->Q A w->ac af w->U C w->W E w->X H w->ad ag w->
     Q1 f.1 true w (Z2 P .neq T.b (.tmp 114) (.tmp 120) af ag) fun ao w=>
     pick P f.1 ao (.bool false) w fun ap w=>
     Z2 P .add T.e (.tmp 105) (.const (.int .i64 1)) f.2 (.int .i64 1) w fun an w=>
     aa (ap,an) w) (
     Z2 P .add T.e (.tmp 76) (.const (.int .i64 1)) g.2 (.int .i64 1) w fun a1 w=>
     Z (f.1,a1) w)) (
   J g.1 w):=by
 have t:=g2.max;refine O4 (a:=Value.bool ok) c.fields.length (fun n x w'=> ∃σ',Stp w1 σ1 w' σ'/\x=Value.bool (ok&&(List.range n).all fun i=>Ct c i&&(List.range i).all (Ua c i))) ⟨σ1,Stp.refl aw,by simp⟩ fun n x w2 d bs aj=>?_
 obtain ⟨σ2,o,rfl⟩:=aj;have p:=hq.up o;have m:=g2.up o;have l:=o.sat
 (repeat refine Hd.h ?_)
 refine ld l p rfl ?_;refine Q6 m ?_;refine Y9 ?_;refine Q4 (fun hc=>?_) (fun hc=>?_)
 .have j:n<c.fields.length:=by simpa using hc
  have ab:(ok&&(List.range (n+1)).all fun i=>Ct c i&&(List.range i).all (Ua c i))=((ok&&(List.range n).all fun i=>Ct c i&&(List.range i).all (Ua c i))&&(Ct c n&&(List.range n).all (Ua c n))):=by rw[Dm,Bool.and_assoc]
  have hP:Ct c n=(B5 c.fields[n].name&&right c.fields[n].kind&& !c.iface):=by unfold Ct Tt;rw[P5 j]
  obtain ⟨p1,r1⟩:=m.elF j;have b1:c.fields[n].name.length<=140737488355328:=by have:=r1.2.1;simp only[V4] at this;omega
  have b2:c.fields[n].kind.length<=140737488355328:=by have:=r1.2.2;simp only[V4] at this;omega
  generalize (ok&&(List.range n).all fun i=>Ct c i&&(List.range i).all (Ua c i))=ah at ab⊢;clear h hc;have step: ∀b,b=(ah&&Ct c n)->(ah&&(Ct c n&&(List.range n).all (Ua c n)))=(b&&(List.range n).all (Ua c n)):=fun b e=>by rw[e,Bool.and_assoc]
  cases ah with
  | false=>
   (repeat refine Hd.h ?_)
   refine Q6W l p m j fun w4 σ4 s=>?_;exact Z8 t j ⟨σ4,o.trans s,by rw[ab];rfl⟩
  | true=>
   (repeat refine Hd.h ?_)
   refine ld l p rfl ?_
   (repeat refine Hd.h ?_)
   refine Y7 m j ?_
   (repeat refine Hd.h ?_)
   refine ld l p1 rfl ?_
   (repeat refine Hd.h ?_)
   refine Q2s _ b1 ?_;cases d1:B5 c.fields[n].name with
   | false=>
    (repeat refine Hd.h ?_)
    refine Q6W l p m j fun w4 σ4 s=>?_;exact Z8 t j ⟨σ4,o.trans s,by rw[ab,step false (by rw[hP,d1];rfl)]⟩
   | true=>
    (repeat refine Hd.h ?_)
    refine ld l p rfl ?_
    (repeat refine Hd.h ?_)
    refine Y7 m j ?_
    (repeat refine Hd.h ?_)
    refine ld l p1 rfl ?_
    (repeat refine Hd.h ?_)
    refine Mq _ b2 ?_;cases d2:right c.fields[n].kind with
    | false=>
     (repeat refine Hd.h ?_)
     refine Q6W l p m j fun w4 σ4 s=>?_;exact Z8 t j ⟨σ4,o.trans s,by rw[ab,step false (by rw[hP,d1,d2];rfl)]⟩
    | true=>
     (repeat refine Hd.h ?_)
     refine ld l p rfl ?_
     (repeat refine Hd.h ?_)
     refine Q6W l p m j fun w4 σ4 s=>?_;exact Z8 t j ⟨σ4,o.trans s,by rw[ab,step (!c.iface) (by rw[hP,d1,d2];rfl)]⟩
 .have j: ¬n<c.fields.length:=by simpa using hc
  obtain rfl:n=c.fields.length:=by omega
  exact h _ _ o
set_option maxHeartbeats 2000000 in
theorem Pb {c:Cla} {lv fv mv:Value} {w1:World} {σ1:Q2} {q:Addr} {ok:Bool} (ad:X3 w1 σ1) (hq:U0 σ1 q [S c.name,S c.super,lv, .bool c.iface, .bool c.abs, .bool c.fin,fv,mv]) {i:Nat} {q9:Addr} {pv cv hv:Value} {N m0:Nat} {L:Nat->Value->World->Prop} (g3:Sl 7 F9 σ1 mv c.methods) (hi:i<c.methods.length) (ac:U0 σ1 q9 [S c.methods[i].name,pv,S c.methods[i].result, .bool c.methods[i].abs,I c.methods[i].locals,cv,hv])
 (h: ∀w' σ',Stp w1 σ1 w' σ'->Ai N L (Value.bool (ok&&(List.range i).all (Ud c i)), .int .i64 (IntKind.i64.wrap (i+1))) w'/\Ej N (Value.bool (ok&&(List.range i).all (Ud c i)), .int .i64 (IntKind.i64.wrap (i+1)))<m0):
 lp (α:=Value×Value) (Value.bool ok,(.int .i64 0)) w1 fun y b d_ w=>
  Z2 P .lss T.e (.tmp 158) (.tmp 159) b.2 (I i) w fun Q w=>
  X0 Q (
   dr w fun e B=>
   V2 e (fun o=> ∀w:World,B w->Q1 b.1 true w (fieldAddr P T.c (.pointer (some q)) 7) (dk e o w)) fun o=>
   V2 e (fun r=> ∀w:World,B w->Q1 b.1 true w (fun w J=>J b.2 w) (dk e r w)) fun r=>
   V2 e (fun u=> ∀w:World,B w->Q1 b.1 true w (fieldAddr P T.d (.pointer (some q9)) 0) (dk e u w)) fun u=>
   V2 e (fun p=> ∀f:Value,∀w:World,B w->o f w->Q1 b.1 true w (Q7 P T.k f) (dk e p w)) fun p=>
   V2 e (fun s=> ∀g:Value,∀j:Value,∀w:World,B w->p g w->r j w->Q1 b.1 true w (indexAddr P T.k g j) (dk e s w)) fun s=>
   V2 e (fun t=> ∀l:Value,∀w:World,B w->s l w->Q1 b.1 true w (fieldAddr P T.d l 0) (dk e t w)) fun t=>
   V2 e (fun z=> ∀m:Value,∀w:World,B w->t m w->Q1 b.1 true w (Q7 P T.b m) (dk e z w)) fun z=>
   V2 e (fun A=> ∀n:Value,∀w:World,B w->u n w->Q1 b.1 true w (Q7 P T.b n) (dk e A w)) fun A=>
   ∀f:Value,∀j:Value,∀n:Value,∀g:Value,∀l:Value,∀m:Value,∀D:Value,∀E:Value,∀w:World,B w->o f w->r j w->u n w->p g w->s l w->t m w->z D w->A E w->
   Q1 b.1 true w (Z2 P .neq T.b (.tmp 170) (.tmp 172) D E) fun U w=>
   pick P b.1 U (.bool false) w fun V w=>
   Z2 P .add T.e (.tmp 161) (.const (.int .i64 1)) b.2 (.int .i64 1) w fun R w=>
   y (V,R) w) (
   Z2 P .add T.e (.tmp 128) (.const (.int .i64 1)) (I i) (.int .i64 1) w fun C w=>
   (Ai N L (b.1,C) w/\Ej N (b.1,C)<m0)):=by
 have ai:=g3.max;refine O4 (a:=Value.bool ok) i (fun k x w'=> ∃σ',Stp w1 σ1 w' σ'/\x=Value.bool (ok&&(List.range k).all (Ud c i))) ⟨σ1,Stp.refl ad,by simp⟩ fun k x w2 d hk M=>?_
 obtain ⟨σ2,v,rfl⟩:=M;have ar:=hq.up v;have aj:=ac.up v;have Y:=g3.up v;have ae:=v.sat;refine Y9 ?_;refine Q4 (fun W=>?_) (fun W=>?_)
 .have aa:k<i:=by simpa using W
  have O:k<c.methods.length:=by omega
  have H:(ok&&(List.range (k+1)).all (Ud c i))=((ok&&(List.range k).all (Ud c i))&&Ud c i k):=by rw[Dm,Bool.and_assoc]
  have hQ:Ud c i k= !decide (c.methods[k].name=c.methods[i].name):=by unfold Ud Ii;rw[P5 O,P5 hi]
  rw[hQ] at H;obtain ⟨az,an,aw,p1,_⟩:=Y.elM O;generalize (ok&&(List.range k).all (Ud c i))=X at H⊢;clear h hQ W;cases X
  all_goals
   refine V3 ae ?_
   (repeat refine Y3 Vq ?_)
   (intros;(repeat (rename_i hx;subst hx));(try simp only[↓M2,M2,Mb,reduceIte]))
   rename_i w3 Z;exact Z8 Q5 aa ⟨σ2,v.trans Z.stp,by rw[H];rfl⟩
 .have ab:k=i:=by
   have: ¬k<i:=by simpa using W
   omega
  subst ab
  (try simp only[↓M1,M1,Mb,reduceIte])
  exact h _ _ v
set_option maxHeartbeats 4000000 in
theorem X8K {c:Cla} {lv fv mv:Value} {w1:World} {σ1:Q2} {q:Addr} {ok:Bool} (bu:X3 w1 σ1) (hq:U0 σ1 q [S c.name,S c.super,lv, .bool c.iface, .bool c.abs, .bool c.fin,fv,mv]) {J:Value->World->Prop} (g3:Sl 7 F9 σ1 mv c.methods)
 (h: ∀w' σ',Stp w1 σ1 w' σ'->J (.bool (ok&&(List.range c.methods.length).all fun i=>Rq c i&&(List.range i).all (Ud c i))) w'):
 lp (α:=Value×Value) (Value.bool ok,(.int .i64 0)) w1 fun V v d_ w=>
  fieldAddr P T.c (.pointer (some q)) 7 w fun ax w=>
  Q7 P T.k ax w fun ay w=>
  U4 P .len [T.k] T.e [false] [ay] w fun az w=>
  Z2 P .lss T.e (.tmp 123) (.tmp 126) v.2 az w fun a0 w=>
  X0 a0 (
   fieldAddr P T.c (.pointer (some q)) 7 w fun a2 w=>
   Q7 P T.k a2 w fun a3 w=>
   indexAddr P T.k a3 v.2 w fun a4 w=>
   Q7 P T.d a4 w fun a5 w=>
   Qa P T.d w fun t9 w=>
   U8 P T.d t9 a5 w fun _u w=>
   Q1 v.1 true w (Q7 P T.d t9) fun a6 w=>
   Q1 v.1 true w (Q0 P F.a9 [a6]) fun a7 w=>
   pick P v.1 a7 (.bool false) w fun r w=>
   Q1 r true w (fieldAddr P T.d t9 3) fun a8 w=>
   Q1 r true w (Q7 P T.s a8) fun a9 w=>
   Q1 r true w (W2 P .not a9) fun ba w=>
   Q1 r true w (fun w J=>J ba w) fun aa w=>
   Q1 aa false w (fieldAddr P T.c (.pointer (some q)) 4) fun bb w=>
   Q1 aa false w (Q7 P T.s bb) fun bc w=>
   Q1 r true w (pick P aa (.bool true) bc) fun bd w=>
   pick P r bd (.bool false) w fun s w=>
   Q1 s true w (fieldAddr P T.c (.pointer (some q)) 3) fun be w=>
   Q1 s true w (Q7 P T.s be) fun bf w=>
   Q1 s true w (W2 P .not bf) fun bg w=>
   Q1 s true w (fun w J=>J bg w) fun ab w=>
   Q1 ab false w (fieldAddr P T.d t9 3) fun bh w=>
   Q1 ab false w (Q7 P T.s bh) fun bi w=>
   Q1 s true w (pick P ab (.bool true) bi) fun bj w=>
   pick P s bj (.bool false) w fun bk w=>
   lp (α:=Value×Value) (bk,(.int .i64 0)) w fun W k d_ w=>
    Z2 P .lss T.e (.tmp 158) (.tmp 159) k.2 v.2 w fun bl w=>
    X0 bl (
     dr w fun y Br=>
     V2 y (fun H=> ∀w:World,Br w->Q1 k.1 true w (fieldAddr P T.c (.pointer (some q)) 7) (dk y H w)) fun H=>
     V2 y (fun M=> ∀w:World,Br w->Q1 k.1 true w (fun w J=>J k.2 w) (dk y M w)) fun M=>
     V2 y (fun Q=> ∀w:World,Br w->Q1 k.1 true w (fieldAddr P T.d t9 0) (dk y Q w)) fun Q=>
     V2 y (fun L=> ∀z:Value,∀w:World,Br w->H z w->Q1 k.1 true w (Q7 P T.k z) (dk y L w)) fun L=>
     V2 y (fun N=> ∀A:Value,∀B:Value,∀w:World,Br w->L A w->M B w->Q1 k.1 true w (indexAddr P T.k A B) (dk y N w)) fun N=>
     V2 y (fun O=> ∀C:Value,∀w:World,Br w->N C w->Q1 k.1 true w (fieldAddr P T.d C 0) (dk y O w)) fun O=>
     V2 y (fun ac=> ∀D:Value,∀w:World,Br w->O D w->Q1 k.1 true w (Q7 P T.b D) (dk y ac w)) fun ac=>
     V2 y (fun ad=> ∀E:Value,∀w:World,Br w->Q E w->Q1 k.1 true w (Q7 P T.b E) (dk y ad w)) fun ad=>
     ∀z:Value,∀B:Value,∀E:Value,∀A:Value,∀C:Value,∀D:Value,∀ai:Value,∀aj:Value,∀w:World,Br w->H z w->M B w->Q E w->L A w->N C w->O D w->ac ai w->ad aj w->
     Q1 k.1 true w (Z2 P .neq T.b (.tmp 170) (.tmp 172) ai aj) fun bn w=>
     pick P k.1 bn (.bool false) w fun bo w=>
     Z2 P .add T.e (.tmp 161) (.const (.int .i64 1)) k.2 (.int .i64 1) w fun bm w=>
     W (bo,bm) w) (
     Z2 P .add T.e (.tmp 128) (.const (.int .i64 1)) v.2 (.int .i64 1) w fun a1 w=>
     V (k.1,a1) w)) (
   J v.1 w):=by
 have o:=g3.max;refine O4 (a:=Value.bool ok) c.methods.length (fun n x w'=> ∃σ',Stp w1 σ1 w' σ'/\x=Value.bool (ok&&(List.range n).all fun i=>Rq c i&&(List.range i).all (Ud c i))) ⟨σ1,Stp.refl bu,by simp⟩ fun n x w2 d b4 av=>?_
 obtain ⟨σ2,X,rfl⟩:=av;have am:=hq.up X;have af:=g3.up X;have ag:=X.sat
 (repeat refine Hd.h ?_)
 refine ld ag am rfl ?_;refine Q6 af ?_;refine Y9 ?_;refine Q4 (fun hc=>?_) (fun hc=>?_)
 .have f:n<c.methods.length:=by simpa using hc
  have u:(ok&&(List.range (n+1)).all fun i=>Rq c i&&(List.range i).all (Ud c i))=((ok&&(List.range n).all fun i=>Rq c i&&(List.range i).all (Ud c i))&&(Rq c n&&(List.range n).all (Ud c n))):=by rw[Dm,Bool.and_assoc]
  have hP:Rq c n=(Ye c.methods[n]&&(!c.methods[n].abs||c.abs)&&(!c.iface||c.methods[n].abs)):=by unfold Rq Ii;rw[P5 f]
  obtain ⟨pv,cv,hv,p1,r1⟩:=af.elM f;generalize (ok&&(List.range n).all fun i=>Rq c i&&(List.range i).all (Ud c i))=ak at u⊢;clear h hc;have step: ∀b,b=(ak&&Rq c n)->(ak&&(Rq c n&&(List.range n).all (Ud c n)))=(b&&(List.range n).all (Ud c n)):=fun b e=>by rw[e,Bool.and_assoc]
  (repeat refine Hd.h ?_)
  refine ld ag am rfl ?_;refine Y7 af f ?_;refine Z3 ag p1 rfl ?_;refine Z9 ag (by rfl) rfl (Rep.one r1) fun q9 w3 σ3 Y an=>?_
  have ao:=Y.sat;have aw:=am.up Y;have ar:=af.up Y;have r3:=RMe_lift r1 ⟨Y.le⟩;have ah:=X.trans Y;cases ak with
  | false=>
   (repeat refine Hd.h ?_)
   refine Pb ao aw ar f an fun w4 U l=>?_;exact Z8 o f ⟨U,ah.trans l,by rw[u];rfl⟩
  | true=>
   (repeat refine Hd.h ?_)
   refine Z3 ao an rfl ?_
   (repeat refine Hd.h ?_)
   refine X4u ao r3 fun w5 σ5 Z=>?_;have m:=Z.sat;have t:=aw.up Z;have g:=an.up Z;have R:=ar.up Z;have p:=ah.trans Z;cases d1:Ye c.methods[n] with
   | false=>
    (repeat refine Hd.h ?_)
    refine Pb m t R f g fun w4 U l=>?_;exact Z8 o f ⟨U,p.trans l,by rw[u,step false (by rw[hP,d1];rfl)]⟩
   | true=>
    (repeat refine Hd.h ?_)
    refine ld m g rfl ?_
    (repeat refine Hd.h ?_)
    have j: ∀b1:Bool,b1=(!c.methods[n].abs||c.abs)->Rq c n=(b1&&(!c.iface||c.methods[n].abs)):=fun b1 e=>by rw[hP,d1,e];rfl
    cases d2:c.methods[n].abs with
    | false=>
     rw[d2] at j g;simp only[Bool.not_true,Bool.not_false]
     (repeat refine Hd.h ?_)
     refine ld m t rfl ?_
     (repeat refine Hd.h ?_)
     cases d4:c.iface with
     | false=>
      simp only[Bool.not_true,Bool.not_false]
      (repeat refine Hd.h ?_)
      refine Pb m t R f (by rw[d2];exact g) fun w4 U l=>?_
      exact Z8 o f ⟨U,p.trans l,by rw[u,step true (by rw[j true rfl,d4];rfl)]⟩
     | true=>
      simp only[Bool.not_true,Bool.not_false]
      (repeat refine Hd.h ?_)
      refine ld m g rfl ?_
      (repeat refine Hd.h ?_)
      refine Pb m t R f (by rw[d2];exact g) fun w4 U l=>?_
      exact Z8 o f ⟨U,p.trans l,by rw[u,step false (by rw[j true rfl,d4];rfl)]⟩
    | true=>
     rw[d2] at j g;simp only[Bool.not_true,Bool.not_false]
     (repeat refine Hd.h ?_)
     refine ld m t rfl ?_;cases d3:c.abs with
     | false=>
      (repeat refine Hd.h ?_)
      refine Pb m t R f (by rw[d2];exact g) fun w4 U l=>?_
      exact Z8 o f ⟨U,p.trans l,by rw[u,step false (by rw[j false (by rw[d3];rfl)];rfl)]⟩
     | true=>
      (repeat refine Hd.h ?_)
      refine ld m t rfl ?_
      (repeat refine Hd.h ?_)
      cases d4:c.iface with
      | false=>
       simp only[Bool.not_true,Bool.not_false]
       (repeat refine Hd.h ?_)
       refine Pb m t R f (by rw[d2];exact g) fun w4 U l=>?_
       exact Z8 o f ⟨U,p.trans l,by rw[u,step true (by rw[j true (by rw[d3];rfl),d4];rfl)]⟩
      | true=>
       simp only[Bool.not_true,Bool.not_false]
       (repeat refine Hd.h ?_)
       refine ld m g rfl ?_
       (repeat refine Hd.h ?_)
       refine Pb m t R f (by rw[d2];exact g) fun w4 U l=>?_
       exact Z8 o f ⟨U,p.trans l,by rw[u,step true (by rw[j true (by rw[d3];rfl),d4];rfl)]⟩
 .have f: ¬n<c.methods.length:=by simpa using hc
  obtain rfl:n=c.methods.length:=by omega
  exact h _ _ X
theorem X8x {c:Cla} {M L mv:Value} {w1:World} {σ1:Q2} {q:Addr} {ok:Bool} (d:X3 w1 σ1) (g:U0 σ1 q [S c.name,S c.super,M, .bool c.iface, .bool c.abs, .bool c.fin,L,mv]) (h:K (.bool (ok&&X3P c)) w1):
 Q1 (Value.bool ok) true w1 (fieldAddr P T.c (.pointer (some q)) 3) fun j w=>
  Q1 (Value.bool ok) true w (Q7 P T.s j) fun k w=>
  Q1 (Value.bool ok) true w (W2 P .not k) fun l w=>
  Q1 (Value.bool ok) true w (fun w J=>J l w) fun b w=>
  Q1 b false w (fieldAddr P T.c (.pointer (some q)) 4) fun m w=>
  Q1 b false w (Q7 P T.s m) fun n w=>
  Q1 b false w (fun w J=>J n w) fun e w=>
  Q1 e true w (fieldAddr P T.c (.pointer (some q)) 1) fun o w=>
  Q1 e true w (Q7 P T.b o) fun p w=>
  Q1 e true w (Z2 P .eql T.b (.tmp 185) (.const (.string ⟨#[79,98,106,101,99,116]⟩)) p (.string ⟨#[79,98,106,101,99,116]⟩)) fun r w=>
  Q1 b false w (pick P e r (.bool false)) fun s w=>
  Q1 (Value.bool ok) true w (pick P b (.bool true) s) fun t w=>
  pick P (Value.bool ok) t (.bool false) w fun a w=>
  Q1 a true w (fieldAddr P T.c (.pointer (some q)) 4) fun u w=>
  Q1 a true w (Q7 P T.s u) fun v w=>
  Q1 a true w (fun w J=>J v w) fun f w=>
  Q1 f true w (fieldAddr P T.c (.pointer (some q)) 5) fun y w=>
  Q1 f true w (Q7 P T.s y) fun z w=>
  Q1 a true w (pick P f z (.bool false)) fun A w=>
  Q1 a true w (W2 P .not A) fun B w=>
  pick P a B (.bool false) w fun C w=>
  K C w:=by
 unfold X3P at h;have H:decide (c.super=L3)=decide (c.super=[79,98,106,101,99,116]):=rfl;rw[H] at h;cases ok with
 | false=>(try simp only[↓M1,M1,Mb,reduceIte]);simpa using h
 | true=>
  (try simp only[↓M1,M1,Mb,reduceIte])
  refine ld d g rfl ?_
  (try simp only[↓M1,M1,Mb,reduceIte])
  cases D:c.iface with
  | false=>
   rw[D] at h
   (try simp only[↓M1,M1,Mb,reduceIte])
   refine ld d g rfl ?_;cases i:c.abs with
   | false=>rw[i] at h;(try simp only[↓M1,M1,Mb,reduceIte]);simpa using h
   | true=>
    rw[i] at h
    (try simp only[↓M1,M1,Mb,reduceIte])
    refine ld d g rfl ?_
    (try simp only[↓M1,M1,Mb,reduceIte])
    simpa using h
  | true=>
   rw[D] at h
   (try simp only[↓M1,M1,Mb,reduceIte])
   refine ld d g rfl ?_;cases i:c.abs with
   | false=>rw[i] at h;(try simp only[↓M1,M1,Mb,reduceIte]);simpa using h
   | true=>
    rw[i] at h
    (try simp only[↓M1,M1,Mb,reduceIte])
    refine ld d g rfl ?_
    (try simp only[↓M1,M1,Mb,reduceIte])
    cases E:decide (c.super=[79,98,106,101,99,116]) with
    | false=>rw[E] at h;(try simp only[↓M1,M1,Mb,reduceIte]);simpa using h
    | true=>
     rw[E] at h
     (try simp only[↓M1,M1,Mb,reduceIte])
     refine ld d g rfl ?_;simp only[i,↓M1,M1,Mb,reduceIte];refine ld d g rfl ?_
     (try simp only[↓M1,M1,Mb,reduceIte])
     simpa using h
variable {σ : Q2}
def X1B (c:Cla):Bool:=((((C6 c.name&&C6 c.super&& !decide (c.name=c.super))&&(List.range c.like.length).all fun i=>Rp c i&&(List.range i).all (Ze c i))&&(List.range c.fields.length).all fun i=>Ct c i&&(List.range i).all (Ua c i))&&(List.range c.methods.length).all fun i=>Rq c i&&(List.range i).all (Ud c i))&&X3P c
theorem X70 {α:Type} {f:α->Q9}: ∀(xs a:List α),Qw f a xs=true↔(xs.map f).Nodup/\ ∀x∈xs,∀y∈a,f y≠f x:=by
 intro xs
 induction xs with
 | nil=>intro a;simp[Qw]
 | cons x r h=>
  intro a;simp only[Qw,Bool.and_eq_true,h,Bool.not_eq_true',List.map_cons,List.nodup_cons];rw[<-Bool.not_eq_true,List.any_eq_true];simp only[decide_eq_true_eq,not_exists,not_and,List.mem_append,List.mem_cons,List.not_mem_nil,or_false,List.mem_map];constructor
  .rintro ⟨d,g,c⟩
   refine ⟨⟨fun y hy e=>c y hy x (.inr rfl) e.symm,g⟩,fun y hy z b=>?_⟩
   rcases hy with rfl | hy
   .exact d z b
   .exact c y hy z (.inl b)
  .rintro ⟨⟨d,g⟩,c⟩
   refine ⟨fun y hy=>c x (.inl rfl) y hy,g,fun y hy z b=>?_⟩
   rcases b with b | rfl
   .exact c y (.inr hy) z b
   .exact fun e=>d y hy e.symm
theorem Q4S {α:Type} {f:α->Q9} {xs:List α} {p:α->Bool} {P:Nat->Bool} {Q:Nat->Nat->Bool} (c: ∀i (h:i<xs.length),P i=p xs[i]) (d: ∀i (h:i<xs.length) k (o:k<xs.length),Q i k= !decide (f xs[k]=f xs[i])):
 ((List.range xs.length).all fun i=>P i&&(List.range i).all (Q i))=true↔(∀x∈xs,p x=true)/\Qw f [] xs=true:=by
 rw[X70,List.all_eq_true];simp only[List.mem_range,Bool.and_eq_true,List.all_eq_true,List.not_mem_nil,false_implies,implies_true,and_true];rw[List.nodup_iff_pairwise_ne,List.pairwise_iff_getElem];simp only[List.length_map,List.getElem_map];constructor
 .intro h
  refine ⟨fun x n=>?_,fun i j a e b=>?_⟩
  .obtain ⟨i,a,rfl⟩:=List.getElem_of_mem n
   rw[<-c i a];exact (h i a).1
  .have:=(h j e).2 i b
   rw[d j e i a] at this
   simpa using this
 .rintro ⟨g,l⟩ i a
  refine ⟨by rw[c i a];exact g _ (List.getElem_mem a),fun k m=>?_⟩
  rw[d i a k Q5]
  simpa using l k i Q5 a m
theorem X7e (c:Cla):X1B c=Gc c:=by
 have A:=Q4S (f:=id) (xs:=c.like) (p:=fun y=>C6 y&& !decide (y=c.name)) (P:=Rp c) (Q:=Ze c) (fun i h=>by unfold Rp;rw[P5 h]) (fun i h k l=>by unfold Ze;rw[P5 h,P5 l];rfl)
 have g:=Q4S (f:=Fld.name) (xs:=c.fields) (p:=fun f=>B5 f.name&&right f.kind&& !c.iface) (P:=Ct c) (Q:=Ua c) (fun i h=>by unfold Ct Tt;rw[P5 h]) (fun i h k l=>by unfold Ua Tt;rw[P5 h,P5 l])
 have d:=Q4S (f:=Hm.Met.name) (xs:=c.methods) (p:=fun m=>Ye m&&(!m.abs||c.abs)&&(!c.iface||m.abs)) (P:=Rq c) (Q:=Ud c) (fun i h=>by unfold Rq Ii;rw[P5 h]) (fun i h k l=>by unfold Ud Ii;rw[P5 h,P5 l])
 rw[Bool.eq_iff_iff];unfold X1B Gc X3P;simp only[Bool.and_eq_true,A,g,d];simp only[Bool.and_eq_true,Bool.not_eq_true',Bool.or_eq_true,Bool.and_eq_false_iff,Bool.or_eq_false_iff,decide_eq_true_eq,decide_eq_false_iff_not,List.all_eq_true,List.mem_cons,List.any_eq_false,Kq,Bool.not_eq_false'];constructor
 .rintro ⟨⟨⟨⟨⟨⟨n,o⟩,r⟩,a,s⟩,h6,t⟩,j,u⟩,b,q⟩
  refine ⟨⟨⟨⟨⟨⟨⟨⟨?_,?_⟩,s⟩,?_⟩,q,?_⟩,t⟩,u⟩,?_⟩,fun m d=>(j m d).1.1⟩
  .rintro x (rfl | rfl | hx)
   .exact n
   .exact o
   .exact (a x hx).1
  .rintro x (rfl | hx)
   .exact r
   .exact fun e=>(a x hx).2 e.symm
  .cases z:c.iface with
   | false=>exact .inl rfl
   | true=>
    rw[z] at b h6 j;have b:=b.resolve_left L7;refine .inr ⟨⟨b,?_⟩,fun m d e=>?_⟩
    .rw[List.eq_nil_iff_forall_not_mem]
     intro f g;exact absurd (h6 f g).2 L7
    .have:=(j m d).2.resolve_left L7
     rw[this] at e;cases e
  .cases v:c.abs with
   | true=>exact .inr rfl
   | false=>
    rw[v] at j;refine .inl fun m d e=>?_;have:=(j m d).1.2.resolve_right L7;rw[this] at e;cases e
  .exact fun f g=>(h6 f g).1
 .rintro ⟨⟨⟨⟨⟨⟨⟨⟨n,o⟩,r⟩,a⟩,s,h6⟩,t⟩,j⟩,u⟩,b⟩
  refine ⟨⟨⟨⟨⟨⟨n _ (.inl rfl),n _ (.inr (.inl rfl))⟩,o _ (.inl rfl)⟩,fun x hx=>⟨n x (.inr (.inr hx)),fun e=>o x (.inr hx) e.symm⟩,r⟩,fun f g=>⟨u f g,?_⟩,t⟩,fun m d=>⟨⟨b m d,?_⟩,?_⟩,j⟩,?_,s⟩
  .rcases a with a | ⟨⟨_,a⟩,_⟩
   .exact a
   .rw[a] at g;simp at g
  .rcases h6 with h6 | h6
   .left;exact eq_false_of_ne_true (h6 m d)
   .exact .inr h6
  .rcases a with a | ⟨_,a⟩
   .exact .inl a
   .right
    cases hx:m.abs with
    | true=>rfl
    | false=>exact absurd hx (a m d)
  .rcases a with a | ⟨⟨a,_⟩,_⟩
   .exact .inl a
   .exact .inr a
set_option maxRecDepth 9999 in
set_option maxHeartbeats 4000000 in
theorem X5Z {c:Cla} {cs:List Value} (hs:X3 w σ) (hc:M8 σ c cs) (h: ∀w' σ',Stp w σ w' σ'->K (.bool (X1B c)) w'):Q0 P F.bP [.agg cs.toArray] w K:=Q2a (by
 unfold Hv;simp only[Y5,X5,N2,Jn,L9];unfold J1 X6 J3 X8 W9 X4 X2 J9 X1;obtain ⟨lv,fv,mv,rfl,f1,f2,f3,f4,f5⟩:=hc;have cr:c.name.length<=140737488355328:=by simp only[V4] at f4;omega
 have ct:c.super.length<=140737488355328:=by simp only[V4] at f5;omega
 refine Z6 hs fun q w1 σ1 bd hq=>?_;have g1:=f1.up bd;have g2:=f2.up bd;have g3:=f3.up bd;have bf:=bd.sat
 have ch: ∀ok:Bool,ok=(C6 c.name&&C6 c.super&& !decide (c.name=c.super))->_:=fun ok e=>
  X6S (w1:=w1) (σ1:=σ1) (ok:=ok) bf hq (J:=fun v w=>lp (α:=Value×Value) (v,(.int .i64 0)) w fun bb o d_ w=>
   fieldAddr P T.c (.pointer (some q)) 6 w fun cu w=>
   Q7 P T.j cu w fun cv w=>
   U4 P .len [T.j] T.e [false] [cv] w fun cw w=>
   Z2 P .lss T.e (.tmp 71) (.tmp 74) o.2 cw w fun cx w=>
   X0 cx (
    Q1 o.1 true w (fieldAddr P T.c (.pointer (some q)) 6) fun cz w=>
    Q1 o.1 true w (Q7 P T.j cz) fun c0 w=>
    Q1 o.1 true w (fun w J=>J o.2 w) fun c1 w=>
    Q1 o.1 true w (indexAddr P T.j c0 c1) fun c2 w=>
    Q1 o.1 true w (fieldAddr P T.m c2 0) fun c3 w=>
    Q1 o.1 true w (Q7 P T.b c3) fun c4 w=>
    Q1 o.1 true w (Q0 P F.w [c4]) fun c5 w=>
    pick P o.1 c5 (.bool false) w fun am w=>
    Q1 am true w (fieldAddr P T.c (.pointer (some q)) 6) fun c6 w=>
    Q1 am true w (Q7 P T.j c6) fun c7 w=>
    Q1 am true w (fun w J=>J o.2 w) fun c8 w=>
    Q1 am true w (indexAddr P T.j c7 c8) fun c9 w=>
    Q1 am true w (fieldAddr P T.m c9 1) fun da w=>
    Q1 am true w (Q7 P T.b da) fun db w=>
    Q1 am true w (Q0 P F.f [db]) fun dc w=>
    pick P am dc (.bool false) w fun cd w=>
    Q1 cd true w (fieldAddr P T.c (.pointer (some q)) 3) fun dd w=>
    Q1 cd true w (Q7 P T.s dd) fun de w=>
    Q1 cd true w (W2 P .not de) fun ck w=>
    pick P cd ck (.bool false) w fun cl w=>
    lp (α:=Value×Value) (cl,(.int .i64 0)) w fun bc l d_ w=>
     Z2 P .lss T.e (.tmp 102) (.tmp 103) l.2 o.2 w fun cm w=>
     X0 cm (
      dr w fun d n=>
      V2 d (fun a1=> ∀w:World,n w->Q1 l.1 true w (fieldAddr P T.c (.pointer (some q)) 6) (dk d a1 w)) fun a1=>
      V2 d (fun a3=> ∀w:World,n w->Q1 l.1 true w (fun w J=>J l.2 w) (dk d a3 w)) fun a3=>
      V2 d (fun a6=> ∀w:World,n w->Q1 l.1 true w (fieldAddr P T.c (.pointer (some q)) 6) (dk d a6 w)) fun a6=>
      V2 d (fun a8=> ∀w:World,n w->Q1 l.1 true w (fun w J=>J o.2 w) (dk d a8 w)) fun a8=>
      V2 d (fun a2=> ∀ao:Value,∀w:World,n w->a1 ao w->Q1 l.1 true w (Q7 P T.j ao) (dk d a2 w)) fun a2=>
      V2 d (fun a4=> ∀ap:Value,∀aq:Value,∀w:World,n w->a2 ap w->a3 aq w->Q1 l.1 true w (indexAddr P T.j ap aq) (dk d a4 w)) fun a4=>
      V2 d (fun a5=> ∀ar:Value,∀w:World,n w->a4 ar w->Q1 l.1 true w (fieldAddr P T.m ar 0) (dk d a5 w)) fun a5=>
      V2 d (fun cb=> ∀av:Value,∀w:World,n w->a5 av w->Q1 l.1 true w (Q7 P T.b av) (dk d cb w)) fun cb=>
      V2 d (fun a7=> ∀aw:Value,∀w:World,n w->a6 aw w->Q1 l.1 true w (Q7 P T.j aw) (dk d a7 w)) fun a7=>
      V2 d (fun a9=> ∀ax:Value,∀ay:Value,∀w:World,n w->a7 ax w->a8 ay w->Q1 l.1 true w (indexAddr P T.j ax ay) (dk d a9 w)) fun a9=>
      V2 d (fun ba=> ∀az:Value,∀w:World,n w->a9 az w->Q1 l.1 true w (fieldAddr P T.m az 0) (dk d ba w)) fun ba=>
      V2 d (fun cc=> ∀a0:Value,∀w:World,n w->ba a0 w->Q1 l.1 true w (Q7 P T.b a0) (dk d cc w)) fun cc=>
      ∀ao:Value,∀aq:Value,∀aw:Value,∀ay:Value,∀ap:Value,∀ar:Value,∀av:Value,∀cf:Value,∀ax:Value,∀az:Value,∀a0:Value,∀cg:Value,∀w:World,n w->a1 ao w->a3 aq w->a6 aw w->a8 ay w->a2 ap w->a4 ar w->a5 av w->cb cf w->a7 ax w->a9 az w->ba a0 w->cc cg w->
      Q1 l.1 true w (Z2 P .neq T.b (.tmp 114) (.tmp 120) cf cg) fun co w=>
      pick P l.1 co (.bool false) w fun cp w=>
      Z2 P .add T.e (.tmp 105) (.const (.int .i64 1)) l.2 (.int .i64 1) w fun cn w=>
      bc (cp,cn) w) (
      Z2 P .add T.e (.tmp 76) (.const (.int .i64 1)) o.2 (.int .i64 1) w fun cy w=>
      bb (l.1,cy) w)) (
    lp (α:=Value×Value) (o.1,(.int .i64 0)) w fun H f d_ w=>
     fieldAddr P T.c (.pointer (some q)) 7 w fun bg w=>
     Q7 P T.k bg w fun bh w=>
     U4 P .len [T.k] T.e [false] [bh] w fun bi w=>
     Z2 P .lss T.e (.tmp 123) (.tmp 126) f.2 bi w fun bj w=>
     X0 bj (
      fieldAddr P T.c (.pointer (some q)) 7 w fun bl w=>
      Q7 P T.k bl w fun bm w=>
      indexAddr P T.k bm f.2 w fun bn w=>
      Q7 P T.d bn w fun bo w=>
      Qa P T.d w fun t9 w=>
      U8 P T.d t9 bo w fun _u w=>
      Q1 f.1 true w (Q7 P T.d t9) fun bp w=>
      Q1 f.1 true w (Q0 P F.a9 [bp]) fun bq w=>
      pick P f.1 bq (.bool false) w fun j w=>
      Q1 j true w (fieldAddr P T.d t9 3) fun br w=>
      Q1 j true w (Q7 P T.s br) fun bs w=>
      Q1 j true w (W2 P .not bs) fun bu w=>
      Q1 j true w (fun w J=>J bu w) fun M w=>
      Q1 M false w (fieldAddr P T.c (.pointer (some q)) 4) fun bv w=>
      Q1 M false w (Q7 P T.s bv) fun bw w=>
      Q1 j true w (pick P M (.bool true) bw) fun bx w=>
      pick P j bx (.bool false) w fun k w=>
      Q1 k true w (fieldAddr P T.c (.pointer (some q)) 3) fun bz w=>
      Q1 k true w (Q7 P T.s bz) fun b0 w=>
      Q1 k true w (W2 P .not b0) fun b1 w=>
      Q1 k true w (fun w J=>J b1 w) fun N w=>
      Q1 N false w (fieldAddr P T.d t9 3) fun b2 w=>
      Q1 N false w (Q7 P T.s b2) fun b3 w=>
      Q1 k true w (pick P N (.bool true) b3) fun b4 w=>
      pick P k b4 (.bool false) w fun b5 w=>
      lp (α:=Value×Value) (b5,(.int .i64 0)) w fun L b d_ w=>
       Z2 P .lss T.e (.tmp 158) (.tmp 159) b.2 f.2 w fun b6 w=>
       X0 b6 (
        dr w fun d n=>
        V2 d (fun z=> ∀w:World,n w->Q1 b.1 true w (fieldAddr P T.c (.pointer (some q)) 7) (dk d z w)) fun z=>
        V2 d (fun B=> ∀w:World,n w->Q1 b.1 true w (fun w J=>J b.2 w) (dk d B w)) fun B=>
        V2 d (fun E=> ∀w:World,n w->Q1 b.1 true w (fieldAddr P T.d t9 0) (dk d E w)) fun E=>
        V2 d (fun A=> ∀p:Value,∀w:World,n w->z p w->Q1 b.1 true w (Q7 P T.k p) (dk d A w)) fun A=>
        V2 d (fun C=> ∀r:Value,∀s:Value,∀w:World,n w->A r w->B s w->Q1 b.1 true w (indexAddr P T.k r s) (dk d C w)) fun C=>
        V2 d (fun D=> ∀t:Value,∀w:World,n w->C t w->Q1 b.1 true w (fieldAddr P T.d t 0) (dk d D w)) fun D=>
        V2 d (fun O=> ∀u:Value,∀w:World,n w->D u w->Q1 b.1 true w (Q7 P T.b u) (dk d O w)) fun O=>
        V2 d (fun Q=> ∀y:Value,∀w:World,n w->E y w->Q1 b.1 true w (Q7 P T.b y) (dk d Q w)) fun Q=>
        ∀p:Value,∀s:Value,∀y:Value,∀r:Value,∀t:Value,∀u:Value,∀R:Value,∀U:Value,∀w:World,n w->z p w->B s w->E y w->A r w->C t w->D u w->O R w->Q U w->
        Q1 b.1 true w (Z2 P .neq T.b (.tmp 170) (.tmp 172) R U) fun b8 w=>
        pick P b.1 b8 (.bool false) w fun b9 w=>
        Z2 P .add T.e (.tmp 161) (.const (.int .i64 1)) b.2 (.int .i64 1) w fun b7 w=>
        L (b9,b7) w) (
        Z2 P .add T.e (.tmp 128) (.const (.int .i64 1)) f.2 (.int .i64 1) w fun bk w=>
        H (b.1,bk) w)) (
      Q1 f.1 true w (fieldAddr P T.c (.pointer (some q)) 3) fun V w=>
      Q1 f.1 true w (Q7 P T.s V) fun W w=>
      Q1 f.1 true w (W2 P .not W) fun X w=>
      Q1 f.1 true w (fun w J=>J X w) fun g w=>
      Q1 g false w (fieldAddr P T.c (.pointer (some q)) 4) fun Y w=>
      Q1 g false w (Q7 P T.s Y) fun Z w=>
      Q1 g false w (fun w J=>J Z w) fun i w=>
      Q1 i true w (fieldAddr P T.c (.pointer (some q)) 1) fun aa w=>
      Q1 i true w (Q7 P T.b aa) fun ab w=>
      Q1 i true w (Z2 P .eql T.b (.tmp 185) (.const (.string ⟨#[79,98,106,101,99,116]⟩)) ab (.string ⟨#[79,98,106,101,99,116]⟩)) fun ac w=>
      Q1 g false w (pick P i ac (.bool false)) fun ad w=>
      Q1 f.1 true w (pick P g (.bool true) ad) fun ae w=>
      pick P f.1 ae (.bool false) w fun a w=>
      Q1 a true w (fieldAddr P T.c (.pointer (some q)) 4) fun af w=>
      Q1 a true w (Q7 P T.s af) fun ag w=>
      Q1 a true w (fun w J=>J ag w) fun m w=>
      Q1 m true w (fieldAddr P T.c (.pointer (some q)) 5) fun ah w=>
      Q1 m true w (Q7 P T.s ah) fun ai w=>
      Q1 a true w (pick P m ai (.bool false)) fun aj w=>
      Q1 a true w (W2 P .not aj) fun ak w=>
      pick P a ak (.bool false) w fun al w=>
      K al w))) f4 g1 fun w2 σ2 an=>
  X8A (J:=fun v w=>lp (α:=Value×Value) (v,(.int .i64 0)) w fun H f d_ w=>
   fieldAddr P T.c (.pointer (some q)) 7 w fun bg w=>
   Q7 P T.k bg w fun bh w=>
   U4 P .len [T.k] T.e [false] [bh] w fun bi w=>
   Z2 P .lss T.e (.tmp 123) (.tmp 126) f.2 bi w fun bj w=>
   X0 bj (
    fieldAddr P T.c (.pointer (some q)) 7 w fun bl w=>
    Q7 P T.k bl w fun bm w=>
    indexAddr P T.k bm f.2 w fun bn w=>
    Q7 P T.d bn w fun bo w=>
    Qa P T.d w fun t9 w=>
    U8 P T.d t9 bo w fun _u w=>
    Q1 f.1 true w (Q7 P T.d t9) fun bp w=>
    Q1 f.1 true w (Q0 P F.a9 [bp]) fun bq w=>
    pick P f.1 bq (.bool false) w fun j w=>
    Q1 j true w (fieldAddr P T.d t9 3) fun br w=>
    Q1 j true w (Q7 P T.s br) fun bs w=>
    Q1 j true w (W2 P .not bs) fun bu w=>
    Q1 j true w (fun w J=>J bu w) fun M w=>
    Q1 M false w (fieldAddr P T.c (.pointer (some q)) 4) fun bv w=>
    Q1 M false w (Q7 P T.s bv) fun bw w=>
    Q1 j true w (pick P M (.bool true) bw) fun bx w=>
    pick P j bx (.bool false) w fun k w=>
    Q1 k true w (fieldAddr P T.c (.pointer (some q)) 3) fun bz w=>
    Q1 k true w (Q7 P T.s bz) fun b0 w=>
    Q1 k true w (W2 P .not b0) fun b1 w=>
    Q1 k true w (fun w J=>J b1 w) fun N w=>
    Q1 N false w (fieldAddr P T.d t9 3) fun b2 w=>
    Q1 N false w (Q7 P T.s b2) fun b3 w=>
    Q1 k true w (pick P N (.bool true) b3) fun b4 w=>
    pick P k b4 (.bool false) w fun b5 w=>
    lp (α:=Value×Value) (b5,(.int .i64 0)) w fun L b d_ w=>
     Z2 P .lss T.e (.tmp 158) (.tmp 159) b.2 f.2 w fun b6 w=>
     X0 b6 (
      dr w fun d n=>
      V2 d (fun z=> ∀w:World,n w->Q1 b.1 true w (fieldAddr P T.c (.pointer (some q)) 7) (dk d z w)) fun z=>
      V2 d (fun B=> ∀w:World,n w->Q1 b.1 true w (fun w J=>J b.2 w) (dk d B w)) fun B=>
      V2 d (fun E=> ∀w:World,n w->Q1 b.1 true w (fieldAddr P T.d t9 0) (dk d E w)) fun E=>
      V2 d (fun A=> ∀p:Value,∀w:World,n w->z p w->Q1 b.1 true w (Q7 P T.k p) (dk d A w)) fun A=>
      V2 d (fun C=> ∀r:Value,∀s:Value,∀w:World,n w->A r w->B s w->Q1 b.1 true w (indexAddr P T.k r s) (dk d C w)) fun C=>
      V2 d (fun D=> ∀t:Value,∀w:World,n w->C t w->Q1 b.1 true w (fieldAddr P T.d t 0) (dk d D w)) fun D=>
      V2 d (fun O=> ∀u:Value,∀w:World,n w->D u w->Q1 b.1 true w (Q7 P T.b u) (dk d O w)) fun O=>
      V2 d (fun Q=> ∀y:Value,∀w:World,n w->E y w->Q1 b.1 true w (Q7 P T.b y) (dk d Q w)) fun Q=>
      ∀p:Value,∀s:Value,∀y:Value,∀r:Value,∀t:Value,∀u:Value,∀R:Value,∀U:Value,∀w:World,n w->z p w->B s w->E y w->A r w->C t w->D u w->O R w->Q U w->
      Q1 b.1 true w (Z2 P .neq T.b (.tmp 170) (.tmp 172) R U) fun b8 w=>
      pick P b.1 b8 (.bool false) w fun b9 w=>
      Z2 P .add T.e (.tmp 161) (.const (.int .i64 1)) b.2 (.int .i64 1) w fun b7 w=>
      L (b9,b7) w) (
      Z2 P .add T.e (.tmp 128) (.const (.int .i64 1)) f.2 (.int .i64 1) w fun bk w=>
      H (b.1,bk) w)) (
    Q1 f.1 true w (fieldAddr P T.c (.pointer (some q)) 3) fun V w=>
    Q1 f.1 true w (Q7 P T.s V) fun W w=>
    Q1 f.1 true w (W2 P .not W) fun X w=>
    Q1 f.1 true w (fun w J=>J X w) fun g w=>
    Q1 g false w (fieldAddr P T.c (.pointer (some q)) 4) fun Y w=>
    Q1 g false w (Q7 P T.s Y) fun Z w=>
    Q1 g false w (fun w J=>J Z w) fun i w=>
    Q1 i true w (fieldAddr P T.c (.pointer (some q)) 1) fun aa w=>
    Q1 i true w (Q7 P T.b aa) fun ab w=>
    Q1 i true w (Z2 P .eql T.b (.tmp 185) (.const (.string ⟨#[79,98,106,101,99,116]⟩)) ab (.string ⟨#[79,98,106,101,99,116]⟩)) fun ac w=>
    Q1 g false w (pick P i ac (.bool false)) fun ad w=>
    Q1 f.1 true w (pick P g (.bool true) ad) fun ae w=>
    pick P f.1 ae (.bool false) w fun a w=>
    Q1 a true w (fieldAddr P T.c (.pointer (some q)) 4) fun af w=>
    Q1 a true w (Q7 P T.s af) fun ag w=>
    Q1 a true w (fun w J=>J ag w) fun m w=>
    Q1 m true w (fieldAddr P T.c (.pointer (some q)) 5) fun ah w=>
    Q1 m true w (Q7 P T.s ah) fun ai w=>
    Q1 a true w (pick P m ai (.bool false)) fun aj w=>
    Q1 a true w (W2 P .not aj) fun ak w=>
    pick P a ak (.bool false) w fun al w=>
    K al w)) an.sat (hq.up an) (g2.up an) fun w3 σ3 be=>
  X8K (J:=fun v w=>Q1 v true w (fieldAddr P T.c (.pointer (some q)) 3) fun V w=>
   Q1 v true w (Q7 P T.s V) fun W w=>
   Q1 v true w (W2 P .not W) fun X w=>
   Q1 v true w (fun w J=>J X w) fun g w=>
   Q1 g false w (fieldAddr P T.c (.pointer (some q)) 4) fun Y w=>
   Q1 g false w (Q7 P T.s Y) fun Z w=>
   Q1 g false w (fun w J=>J Z w) fun i w=>
   Q1 i true w (fieldAddr P T.c (.pointer (some q)) 1) fun aa w=>
   Q1 i true w (Q7 P T.b aa) fun ab w=>
   Q1 i true w (Z2 P .eql T.b (.tmp 185) (.const (.string ⟨#[79,98,106,101,99,116]⟩)) ab (.string ⟨#[79,98,106,101,99,116]⟩)) fun ac w=>
   Q1 g false w (pick P i ac (.bool false)) fun ad w=>
   Q1 v true w (pick P g (.bool true) ad) fun ae w=>
   pick P v ae (.bool false) w fun a w=>
   Q1 a true w (fieldAddr P T.c (.pointer (some q)) 4) fun af w=>
   Q1 a true w (Q7 P T.s af) fun ag w=>
   Q1 a true w (fun w J=>J ag w) fun m w=>
   Q1 m true w (fieldAddr P T.c (.pointer (some q)) 5) fun ah w=>
   Q1 m true w (Q7 P T.s ah) fun ai w=>
   Q1 a true w (pick P m ai (.bool false)) fun aj w=>
   Q1 a true w (W2 P .not aj) fun ak w=>
   pick P a ak (.bool false) w fun al w=>
   K al w) be.sat ((hq.up an).up be) ((g3.up an).up be) fun w4 σ4 ci=>
  X8x (K:=K) ci.sat (((hq.up an).up be).up ci) (by rw[e];exact h _ _ (bd.trans (an.trans (be.trans ci))))
 (repeat refine Hd.h ?_)
 refine ld bf hq rfl ?_;refine Ut c.name cr ?_;cases d1:C6 c.name with
 | false=>(repeat refine Hd.h ?_);exact ch false (by rw[d1];rfl)
 | true=>
  (repeat refine Hd.h ?_)
  refine ld bf hq rfl ?_
  (repeat refine Hd.h ?_)
  refine Ut c.super ct ?_;cases d2:C6 c.super with
  | false=>(repeat refine Hd.h ?_);exact ch false (by rw[d1,d2];rfl)
  | true=>
   (repeat refine Hd.h ?_)
   refine ld bf hq rfl ?_
   (repeat refine Hd.h ?_)
   refine ld bf hq rfl ?_
   (repeat refine Hd.h ?_)
   refine Jb ?_
   (repeat refine Hd.h ?_)
   exact ch _ (by rw[d1,d2];rfl))
theorem Q8u {c:Cla} {cs:List Value} (r:X3 w σ) (d:M8 σ c cs) (h: ∀w' t,Stp w σ w' t->K (I (F2 c)) w'):Q0 P F.bO [.agg cs.toArray] w K:=Q29 (by
 unfold Hu;have g:=Rep.one (R:=M8) d;obtain ⟨s,p,mv,rfl,k,l,m,n,o⟩:=d;have d:M8 σ c _:=⟨s,p,mv,rfl,k,l,m,n,o⟩;refine Z6 r fun q w1 σ1 a i=>?_;unfold F2 at h;refine Z3 a.sat i rfl ?_;refine X7c a.sat (RCl_lift d ⟨a.le⟩) fun u y b=>?_;cases f:Wi c with
 | true=>simp only[f,if_true] at h;(try simp only[↓M1,M1,Mb,reduceIte]);exact h _ _ (a.trans b)
 | false=>
  simp only[f,Bool.false_eq_true,if_false] at h
  (try simp only[↓M1,M1,Mb,reduceIte])
  refine Z3 b.sat (i.up b) rfl ?_;refine X5Z b.sat (RCl_lift d ⟨(a.trans b).le⟩) fun v z e=>?_;rw[X7e];cases j:Gc c with
  | true=>simp only[j,if_true] at h;(try simp only[↓M1,M1,Mb,reduceIte]);exact h _ _ (a.trans (b.trans e))
  | false=>simp only[j,Bool.false_eq_true,if_false] at h;(try simp only[↓M1,M1,Mb,reduceIte]);exact h _ _ (a.trans (b.trans e)))
end Go.Proofs.Y
namespace Go.Hm
open Go.Kd
theorem X3R {a:List Cla} {m:Nat} (b:m<a.length):U2 a (J0 a m)=some m↔U2 (a.take m) (J0 a m)=none:=by
 have g:J0 a m=a[m].name:=by unfold J0;rw[List.getD_eq_getElem?_getD,List.getElem?_eq_getElem b];rfl
 unfold U2;rw[List.findIdx?_eq_some_iff_getElem,List.findIdx?_eq_none_iff];constructor
 .rintro ⟨i,k,d⟩ c e
  obtain ⟨j,f,rfl⟩:=List.mem_take_iff_getElem.1 e
  simpa using d j (by omega)
 .intro h
  refine ⟨b,by simp[g],fun j f=>?_⟩
  simpa using h a[j] (List.mem_take_iff_getElem.2 ⟨j,by omega,rfl⟩)
theorem X4d {a:List Cla} (d:Yr a) {m:Nat} (b:m<a.length):Jv a (J0 a m) (J0 a m)=Yk a a[m]:=by
 have c:J0 a m=a[m].name:=by unfold J0;rw[List.getD_eq_getElem?_getD,List.getElem?_eq_getElem b];rfl
 unfold Jv Yk;rw[Us d b,List.getD_eq_getElem?_getD,List.getElem?_eq_getElem b];simp only[Option.getD_some,c]
end Go.Hm
namespace Go.Proofs.Y
open Go.Emb Go.RowKit Go.Kd Go.Hm
variable {w : World} {K : Value -> World -> Prop} {σ : Q2} {l : List Cla}
theorem X3V: ∀c∈Xr,Wi c=false:=by decide
theorem X3G {c:Cla} (h:F2 c=0):Wi c=false:=by
 unfold F2 at h
 split at h
 .cases h
 .rename_i a;exact eq_false_of_ne_true a
set_option maxRecDepth 9999 in
set_option maxHeartbeats 4000000 in
theorem X8V {lv:Value} (hs:X3 w σ) (hl:Sl 8 M8 σ lv l) (cw:l.length<=900)
 (C: ∀i e w' B,Pe F2 l=some (i,e)->Stp w σ w' B->K (.tuple #[.slice none 0 0,I i,I e]) w')
 (h0: ∀v w' B,Pe F2 l=none->Stp w σ w' B->Sl 8 M8 B v (Q3 l)->Ok (Q3 l)->Yr (Q3 l)->K (.tuple #[v,I 0,I 0]) w'):Q0 P F.cl [lv] w K:=Q4I (by
 unfold Fh;simp only[Y5];unfold X6 J3 V1 X4 X2 X1;have t:Xr.length=8:=rfl;have c8:(Q3 l).length=8+l.length:=by simp[Q3,t]
 refine X5S hs fun x0 w1 σ1 bu be=>?_;refine X3s be ?_;rw[t]
 refine O4 l.length (fun n x w'=> ∃B,Stp w σ w' B/\W4 w.heap.size T.c 8 M8 B w' x (Xr++l.take n)/\B3 F2 l 0=B3 F2 (l.drop n) n)
  ⟨σ1,bu,by simpa using be,rfl⟩ fun n x w4 d H f=>?_
 obtain ⟨σ4,Y,ay,D⟩:=f;have ab:=hl.up Y;refine Q6 ab ?_;refine Y9 ?_;refine Q4 (fun hh=>?_) (fun hh=>?_)
 .have a:n<l.length:=by simpa using hh
  obtain ⟨b9,bk,ca,p1,r1⟩:=ab.elC a;refine Y7 ab a ?_;refine Z3 Y.sat p1 rfl ?_;refine Q8u Y.sat r1 fun w6 σ6 aa=>?_;have bn:=Y.trans aa;have Q:=Da a D;refine Lb ?_;refine Q4 (fun m=>?_) (fun m=>?_)
  .have A: ¬F2 l[n]=0:=by simpa using m
   rw[if_neg A] at Q;refine C _ _ _ _ ?_ bn;unfold Pe;rw[Q]
  .have hz:F2 l[n]=0:=by simpa using m
   rw[if_pos hz] at Q;refine Y7 (ab.up aa) a ?_;refine Z3 aa.sat (p1.up aa) rfl ?_;have cj:=ay.up aa;have r6:=RCl_lift r1 ⟨aa.le⟩;refine Un (R:=M8) (x:=l[n]) bn cj (by simpa [Value.cells] using r6) rfl rfl rfl (by simp[t];omega) (by simp[t];omega) fun s v' w9 σ9 db p ck az=>?_
   refine C2 ?_;refine Z8 ab.max a ⟨σ9,p,?_,Q⟩;rw[List.take_add_one,List.getElem?_eq_getElem a,<-List.append_assoc];exact ck
 have a: ¬n<l.length:=by simpa using hh
 rw[List.take_of_length_le Q5] at ay;rw[List.drop_eq_nil_of_le Q5] at D;have D:B3 F2 l 0=none:=D;have bp:=Yg D;have bf: ∀c∈l,Yy c/\Nm c/\c.name≠[]:=fun c hc=>An (bp c hc)
 have q: ∀c∈Q3 l,Yy c:=fun c hc=>by
  rcases List.mem_append.1 hc with hc | hc
  .exact (Eb c hc).1
  .exact (bf c hc).1
 have a3: ∀c∈Q3 l,Nm c:=fun c hc=>by
  rcases List.mem_append.1 hc with hc | hc
  .exact (Eb c hc).2.1
  .exact (bf c hc).2.1
 have ac: ∀c∈Q3 l,Wi c=false:=fun c hc=>by
  rcases List.mem_append.1 hc with hc | hc
  .exact X3V c hc
  .exact X3G (bp c hc)
 have av:(Q3 l).length<=100000:=by omega
 unfold Pe at C h0;rw[D] at C h0;simp only at C h0;obtain ⟨σ5,o,J,df,cz⟩:=ay.keep Y;change Sl 8 M8 σ5 x (Q3 l) at J;clear ay Y ab a hh H D be bu
 have r: ∀{n:Nat} (H:n<l.length),∃(h:8+n<(Q3 l).length),(Q3 l)[8+n]=l[n]:=fun {n} H=>⟨by omega,by
  unfold Q3;rw[List.getElem_append_right (by rw[t];omega)]
  congr 1
  rw[t];omega⟩
 have bx: ∀{n:Nat} (H:n<l.length),J0 (Q3 l) (8+n)=l[n].name:=fun {n} H=>by
  obtain ⟨C,h2⟩:=r H;rw[Q1G C,h2]
 have br: ∀j,j<8->(U2 ((Q3 l).take j) (J0 (Q3 l) j)).isSome=false:=by
  have hd: ∀j,j<8->(U2 (Xr.take j) (J0 Xr j)).isSome=false:=by decide
  intro j hj;have e1:(Q3 l).take j=Xr.take j:=by unfold Q3;rw[List.take_append_of_le_length (by rw[t];omega)]
  have e2:J0 (Q3 l) j=J0 Xr j:=by
   unfold J0 Q3;rw[List.getD_eq_getElem?_getD,List.getD_eq_getElem?_getD,List.getElem?_append_left (by rw[t];omega)]
  rw[e1,e2];exact hd j hj
 refine V7 l.length (fun n w'=>Stp w σ w' σ5/\ ∀j,j<8+n->(U2 ((Q3 l).take j) (J0 (Q3 l) j)).isSome=false) ⟨o,by simpa using br⟩ fun n w5 d H f=>?_
 clear o;obtain ⟨o,a2⟩:=f;have aq:=hl.up o;refine Q6 aq ?_;refine Y9 ?_;refine Q4 (fun hh=>?_) (fun hh=>?_)
 .have a:n<l.length:=by simpa using hh
  obtain ⟨b9,bk,ca,p1,r1⟩:=aq.elC a;refine Y7 aq a ?_
  (try simp only[↓M1,M1,Mb,reduceIte])
  refine ld o.sat p1 rfl ?_;refine Xl o.sat J ?_;rw[Qi Q5 Q5];refine Lb ?_;obtain ⟨L,e8⟩:=r a;rw[<-bx a];have bq:=X3R L;cases ai:U2 ((Q3 l).take (8+n)) (J0 (Q3 l) (8+n)) with
  | none=>
   rw[bq.2 ai];have e:decide (E1 (some (8+n))=(8:Nat)+(n:Int))=true:=by simp[E1]
   rw[e]
   (try simp only[↓M1,M1,Mb,reduceIte])
   refine Z4 aq.max a ⟨o,fun j hj=>?_⟩
   by_cases ej:j=8+n
   .rw[ej,ai];rfl
   .exact a2 j Q5
  | some i=>
   have A:U2 (Q3 l) (J0 (Q3 l) (8+n))≠some (8+n):=fun e=>by rw[bq.1 e] at ai;cases ai
   have e:decide (E1 (U2 (Q3 l) (J0 (Q3 l) (8+n)))=(8:Nat)+(n:Int))=false:=by
    rw[decide_eq_false_iff_not];intro e;cases hf:U2 (Q3 l) (J0 (Q3 l) (8+n)) with
    | none=>rw[hf] at e;simp only[E1] at e;omega
    | some k=>
     rw[hf] at e A;simp only[E1] at e;apply A
     congr 1;omega
   rw[e]
   (try simp only[↓M1,M1,Mb,reduceIte])
   have O:Kp (Q3 l)=some (8+n):=by
    unfold Kp;rw[List.find?_range_eq_some];refine ⟨by rw[ai];rfl,by simpa using L,fun j hj=>by rw[a2 j hj];rfl⟩
   refine C _ _ _ _ ?_ o;rw[O];have:((8+n:Nat):Int)-8=n:=by omega
   simp only[this]
 have a: ¬n<l.length:=by simpa using hh
 have O:Kp (Q3 l)=none:=by
  unfold Kp;rw[List.find?_eq_none];intro j hj;rw[a2 j (by have:=List.mem_range.1 hj;omega)];simp
 rw[O] at C h0;simp only at C h0;have g:=Q1I O;clear a2 hh a H aq br;refine V7 l.length (fun n w'=> ∃B,Stp w σ w' B/\SLe σ5 B/\B3 (fun c=>(B8 (Q3 l) c:Int)) l 0=B3 (fun c=>(B8 (Q3 l) c:Int)) (l.drop n) n) ⟨σ5,o,SLe.refl _,rfl⟩ fun n w6 d H f=>?_;obtain ⟨σ9,p,ax,Z⟩:=f;have ar:=hl.up p;refine Q6 ar ?_;refine Y9 ?_;refine Q4 (fun hh=>?_) (fun hh=>?_)
 .have a:n<l.length:=by simpa using hh
  obtain ⟨b9,bk,ca,p1,r1⟩:=ar.elC a;refine Y7 ar a ?_;refine Z3 p.sat p1 rfl ?_;have U:=Da a Z;refine X4v p.sat (J.lift ax) r1 fun w8 ct an=>?_;refine Lb ?_;refine Q4 (fun m=>?_) (fun m=>?_)
  .have A: ¬(B8 (Q3 l) l[n]:Int)=0:=by simpa using m
   rw[if_neg A] at U;refine C _ _ _ _ ?_ (p.trans an);rw[U]
  .have hz:(B8 (Q3 l) l[n]:Int)=0:=by simpa using m
   rw[if_pos hz] at U;refine C2 ?_;exact Z4 ar.max a ⟨ct,p.trans an,ax.more ⟨an.le⟩,U⟩
 have a: ¬n<l.length:=by simpa using hh
 rw[List.drop_eq_nil_of_le Q5] at Z;have Z:B3 (fun c=>(B8 (Q3 l) c:Int)) l 0=none:=Z;rw[Z] at C h0;simp only at C h0;have b3:=Yg Z;clear hh a H o ar;refine Q4V p.sat (J.lift ax) g Q5 Q5 q fun vb di cd am ag=>?_;have b:=p.trans am;have bc:=ax.more ⟨am.le⟩;have a0:(Xf (Q3 l)).length=(Q3 l).length:=by simp[Xf]
 refine V7 l.length (fun n w'=>Stp w σ w' cd/\ ∀j (hj:j<l.length),j<n->Yk (Q3 l) l[j]=false) ⟨b,fun j _ h=>by omega⟩ fun n dj d H f=>?_
 clear b;obtain ⟨b,a1⟩:=f;have ao:=hl.up b;refine Q6 ao ?_;refine Y9 ?_;refine Q4 (fun hh=>?_) (fun hh=>?_)
 .have a:n<l.length:=by simpa using hh
  obtain ⟨L,e8⟩:=r a;refine Zm ⟨by omega,by omega⟩ ?_
  have ec:((8:Nat):Int)+(n:Int)=((8+n:Nat):Int):=by omega
  rw[ec];obtain ⟨c2,pb,_,rv,rfl,rb⟩:=ag.el (i:=8+n) (by rw[a0];exact L)
  have b2:(Xf (Q3 l))[8+n]'(by rw[a0];exact L)=(List.range (Q3 l).length).map fun j=>Jv (Q3 l) (J0 (Q3 l) (8+n)) (J0 (Q3 l) j):=by simp[Xf]
  rw[b2] at rb;obtain ⟨ci,bh,_,ah⟩:=rb.el (i:=8+n) (by simpa using L)
  have ah:ci=_:=ah;subst ah;simp only[List.getElem_map,List.getElem_range] at bh;rw[X4d g L,e8] at bh;refine Y7 ag (by rw[a0];exact L) ?_
  refine Y6 b.sat pb rfl ?_;refine Zm ⟨by omega,by omega⟩ ?_
  rw[ec];refine Y7 rb (by simpa using L) ?_
  refine Y6 b.sat bh rfl ?_;cases bw:Yk (Q3 l) l[n] with
  | true=>
   (try simp only[↓M1,M1,Mb,reduceIte])
   have bg:l.findIdx? (Yk (Q3 l))=some n:=by
    rw[List.findIdx?_eq_some_iff_getElem];exact ⟨a,bw,fun j hj=>by simpa using a1 j Q5 hj⟩
   refine C _ _ _ _ ?_ b;rw[bg]
  | false=>
   (try simp only[↓M1,M1,Mb,reduceIte])
   refine Z4 ao.max a ⟨b,fun j hj da=>?_⟩
   by_cases e:j=n
   .subst e;exact bw
   .exact a1 j hj Q5
 have a: ¬n<l.length:=by simpa using hh
 have ba: ∀c∈l,Yk (Q3 l) c=false:=fun c hc=>by
  obtain ⟨j,hj,rfl⟩:=List.getElem_of_mem hc;exact a1 j hj Q5
 have bg:l.findIdx? (Yk (Q3 l))=none:=by
  rw[List.findIdx?_eq_none_iff];exact ba
 rw[bg] at C h0;simp only at C h0;clear a1 hh a H ao ag am p a0;have af:=X01 g (fun c hc=>(bf c hc).2.2) ba
 have ak:X6g (Q3 l):=fun c hc u hu=>by
  rcases List.mem_append.1 hc with hc | hc
  .rw[(Eb c hc).2.2] at hu;simp at hu
  .have:=b3 c hc
   unfold B8 at this
   split at this
   .simp at this
   .split at this
    .simp at this
    .rename_i z
     have z:c.like.any (I9 (Q3 l))=false:=eq_false_of_ne_true z;have:=List.any_eq_false.1 z u hu;unfold I9 at this;cases hd:lk (Q3 l) u with
     | none=>rw[hd] at this;simp at this
     | some d=>exact ⟨d,rfl⟩
 have b0:Ok (Q3 l):=⟨af,av,q,ak,a3⟩
 have b4: ∀i (hi:i<(Q3 l).length),8<=i-> ∀u∈M6 (Q3 l)[i],∃j,U2 (Q3 l) u=some j:=fun i hi L u hu=>by
  have al:i-8<l.length:=by omega
  obtain ⟨c7,e8⟩:=r al;have cm:(Q3 l)[i]=l[i-8]:=by rw[<-e8];congr 1;omega
  rw[cm] at hu;have bb:=List.getElem_mem al
  rcases List.mem_cons.1 hu with hu | hu
  .have:=b3 _ bb
   unfold B8 at this
   split at this
   .simp at this
   .rename_i z
    unfold Ji at z;rw[<-hu] at z;cases hd:lk (Q3 l) u with
    | none=>rw[hd] at z;simp at z
    | some d=>obtain ⟨_,_,j,hj,_⟩:=N1 hd;exact ⟨j,hj⟩
  .obtain ⟨d,hd⟩:=ak _ (List.mem_append_right _ bb) u hu
   obtain ⟨_,_,j,hj,_⟩:=N1 hd;exact ⟨j,hj⟩
 refine Bm (R:=O5) (e:=T.e) b L7 fun dt dl a9 a6 _=>?_
 refine O4 l.length (fun n x' w'=> ∃B out,Stp w σ w' B/\SLe σ5 B/\W4 w.heap.size T.e 1 O5 B w' x' (ints out)/\Few (Q3 l) out/\out=(((List.range (Q3 l).length).drop 8).take n).foldl (fun out i=>Uh (Q3 l) 8 out i) [])
  ⟨cd,[],b.trans a9,bc,a6,⟨List.nodup_nil,by simp⟩,rfl⟩ fun n x' dm d H f=>?_
 clear a6 a9 b bc ax;obtain ⟨dv,out,M,W,ae,aj,aw⟩:=f;have ap:=hl.up M;refine Q6 ap ?_;refine Y9 ?_;refine Q4 (fun hh=>?_) (fun hh=>?_)
 .have a:n<l.length:=by simpa using hh
  obtain ⟨L,e8⟩:=r a;refine Zm ⟨by omega,by omega⟩ ?_
  have ec:((8:Nat):Int)+(n:Int)=((8+n:Nat):Int):=by omega
  rw[ec];refine X8Z af g Q5 q Q5 b4 ((Q3 l).length+1) L (Nat.lt_succ_of_le (Q0I _ _)) aj M (J.lift W) ae fun du dn cu bl b7 bo=>?_;refine C2 ?_;refine Z8 ap.max a ⟨cu,_,bl,W.more b7,bo,Q1M af g Q5 _ _ _ L aj,?_⟩;rw[List.take_add_one,List.getElem?_drop,List.getElem?_range L,List.foldl_append,<-aw];rfl
 have a: ¬n<l.length:=by simpa using hh
 have cn:n=l.length:=by omega
 subst cn
 have b1:out=O9 (Q3 l) 8:=by
  rw[aw,List.take_of_length_le (by rw[List.length_drop,List.length_range];omega)];rfl
 subst b1;clear aw hh a H;have dc:=aj.len;have co:=X71 g;obtain ⟨ce,bm,b5,bd,_⟩:=ae.keep M;have b8:=W.more ⟨bd⟩;clear ae M bd W ap;have al:(ints (O9 (Q3 l) 8)).length=(O9 (Q3 l) 8).length:=by simp
 refine V7 (O9 (Q3 l) 8).length (fun n w'=> ∃B,Stp w σ w' B/\SLe ce B/\ ∀j∈(O9 (Q3 l) 8).take n,O7 (Q3 l) ((Q3 l).getD j Cla.zero)=0) ⟨ce,bm,SLe.refl _,by simp⟩ fun n dp d H f=>?_
 obtain ⟨dw,N,X,a4⟩:=f;have V:=b5.lift X;refine Q6 V ?_;rw[al];refine Y9 ?_;refine Q4 (fun hh=>?_) (fun hh=>?_)
 .have a:n<(O9 (Q3 l) 8).length:=by simpa using hh
  have bz:n<(ints (O9 (Q3 l) 8)).length:=by rw[al];exact a
  refine Y7 V bz ?_;obtain ⟨cs,pc,_,cl⟩:=V.el bz;obtain ⟨rfl,_⟩:=cl;simp only[List.getElem_map] at pc;refine Y6 N.sat pc rfl ?_;have bs:=(co _ (List.getElem_mem a)).2;have az:(Q3 l).getD (O9 (Q3 l) 8)[n] Cla.zero=(Q3 l)[(O9 (Q3 l) 8)[n]]:=by rw[List.getD_eq_getElem?_getD,List.getElem?_eq_getElem bs];rfl
  refine X2A N.sat (J.lift (b8.more X)) b0 g Q5 ac bs fun dq cf y=>?_;have a5:=N.trans y;refine Lb ?_;refine Q4 (fun m=>?_) (fun m=>?_)
  .have A: ¬O7 (Q3 l) (Q3 l)[(O9 (Q3 l) 8)[n]]=0:=by simpa using m
   have cx:=V.up y;have cb:=pc.up y;refine V3 y.sat ?_
   (repeat refine Y3 Vq ?_)
   (intros;(repeat (rename_i hx;subst hx));(try simp only[↓M2,M2,Mb,reduceIte]))
   rename_i cr a7;refine Y6 a7.sat cb rfl ?_;refine Wh ⟨by omega,by omega⟩ ?_
   have E:(O9 (Q3 l) 8).find? (fun j=> !decide (O7 (Q3 l) ((Q3 l).getD j Cla.zero)=0))=some (O9 (Q3 l) 8)[n]:=by
    rw[List.find?_eq_some_iff_getElem];refine ⟨by rw[az];simpa using A,n,a,rfl,fun j hj=>?_⟩
    have:=a4 _ (List.mem_take_iff_getElem.2 ⟨j,by omega,rfl⟩)
    rw[this];simp
   have:=C (((O9 (Q3 l) 8)[n]:Int)-8) (O7 (Q3 l) (Q3 l)[(O9 (Q3 l) 8)[n]]) cr cf (by rw[E];simp only[az]) (a5.trans a7.stp)
   exact this
  .have hz:O7 (Q3 l) (Q3 l)[(O9 (Q3 l) 8)[n]]=0:=by simpa using m
   refine C2 ?_;refine Z4 Q5 a ⟨cf,a5,X.more ⟨y.le⟩,fun j hj=>?_⟩;rw[List.take_add_one,List.getElem?_eq_getElem a] at hj
   rcases List.mem_append.1 hj with hj | hj
   .exact a4 j hj
   .simp at hj;subst hj;rw[az];exact hz
 .have a: ¬n<(O9 (Q3 l) 8).length:=by simpa using hh
  rw[List.take_of_length_le Q5] at a4
  have E:(O9 (Q3 l) 8).find? (fun j=> !decide (O7 (Q3 l) ((Q3 l).getD j Cla.zero)=0))=none:=by
   rw[List.find?_eq_none];intro j hj;rw[a4 j hj];simp
  rw[E] at h0;exact h0 _ _ _ rfl N (J.lift (b8.more X)) b0 g)
end Go.Proofs.Y
namespace Go.Hm
open Go.Kd
def X3Y:Ins:=⟨[105,110,116],1,[]⟩
def Q4e:Ins:=⟨[114,101,116,117,114,110],0,[]⟩
def kA:Q9:=[65]
def fX:Fld:=⟨[120],Zh,false⟩
def Q59:Fld:=⟨[110,101,120,116],kA,false⟩
def fL:Fld:=⟨[108],[65,91,93],false⟩
def mF:Hm.Met:=⟨[102],[Zh,kA],Zh,false,3,[X3Y,Q4e],[]⟩
def mG:Hm.Met:=⟨[103],[],[],false,1,[Q4e],[]⟩
def cA:Cla:=⟨kA,L3,[],false,false,false,[fX,Q59],[mF,mG]⟩
def cB:Cla:=⟨[66],kA,[[73]],false,false,false,[fL],[]⟩
def cI:Cla:=⟨[73],L3,[],true,true,false,[],[]⟩
def cD:Cla:=⟨[68],L3,[],false,true,false,[],[]⟩
def W6:List Cla:=[cA,cB,cI,cD]
end Go.Hm
namespace Go.Proofs.Y
open Go.Emb Go.RowKit Go.Kd Go.Hm
variable {w w' : World} {K : Value -> World -> Prop} {σ σ' : Q2}
set_option maxRecDepth 100000 in
theorem Q6n:Pe F2 W6=none:=by decide+kernel
theorem X8f: ∀c∈W6,Yy c:=X9O L7
theorem Q56:Wf W6:=Y18 Q6n
set_option maxHeartbeats 1000000 in
theorem Q9h (Y:X3 w σ) (h: ∀v w' σ',Stp w σ w' σ'->Sl 8 M8 σ' v W6->K v w'):Q0 P F.aG [] w K:=Q03 (by
 unfold On;refine M9 (cells:= #[S X3Y.op,I 1,S []]) X7 ?_;refine M9 (cells:= #[S Q4e.op,I 0,S []]) X7 ?_;refine C1 (R:=Zn) (sz:=3) Y [.agg #[S X3Y.op,I 1,S []], .agg #[S Q4e.op,I 0,S []]] [X3Y,Q4e] rfl rfl (by simp;exact ⟨rfl,rfl⟩) rfl ⟨⟨rfl,by decide,by decide,by decide⟩,⟨rfl,by decide,by decide,by decide⟩,trivial⟩ fun Z w1 σ1 j e=>?_
 refine M9 (cells:= #[S fX.name,S fX.kind, .bool false]) X7 ?_;refine M9 (cells:= #[S Q59.name,S Q59.kind, .bool false]) X7 ?_;refine C1 (R:=K3) (sz:=3) j.sat [.agg #[S fX.name,S fX.kind, .bool false], .agg #[S Q59.name,S Q59.kind, .bool false]] [fX,Q59] rfl rfl (by simp;exact ⟨rfl,rfl⟩) rfl ⟨⟨rfl,by decide,by decide⟩,⟨rfl,by decide,by decide⟩,trivial⟩ fun v2 w2 σ2 g f=>?_
 refine C1 (R:=L1) (sz:=1) g.sat [S Zh,S kA] [Zh,kA] rfl rfl (by simp;exact ⟨rfl,rfl⟩) rfl ⟨⟨rfl,by decide⟩,⟨rfl,by decide⟩,trivial⟩ fun v3 w3 σ3 c n=>?_
 have k:=e;have m:=f;have o:=n;obtain ⟨C,N,rfl,_⟩:=k;obtain ⟨D,O,rfl,_⟩:=m;obtain ⟨E,Q,rfl,_⟩:=o;have e:=(e.up g).up c;have f:=f.up c;refine M9 (cells:= #[S mF.name, .slice E 2 Q,S Zh, .bool false,I 3, .slice C 2 N, .slice none 0 0]) X7 ?_;refine M9 (cells:= #[S Q4e.op,I 0,S []]) X7 ?_;refine C1 (R:=Zn) (sz:=3) c.sat [.agg #[S Q4e.op,I 0,S []]] [Q4e] rfl rfl (by simp;rfl) rfl ⟨⟨rfl,by decide,by decide,by decide⟩,trivial⟩ fun v4 w4 σ4 a p=>?_
 have q:=p;obtain ⟨H,U,rfl,_⟩:=q;refine M9 (cells:= #[S mG.name, .slice none 0 0,S [], .bool false,I 1, .slice H 1 U, .slice none 0 0]) X7 ?_
 refine C1 (R:=F9) (sz:=7) a.sat [.agg #[S mF.name, .slice E 2 Q,S Zh, .bool false,I 3, .slice C 2 N, .slice none 0 0], .agg #[S mG.name, .slice none 0 0,S [], .bool false,I 1, .slice H 1 U, .slice none 0 0]] [mF,mG] rfl rfl (by simp;exact ⟨rfl,rfl⟩) rfl
  ⟨⟨_,_,_,rfl,n.up a,e.up a,Sl.nil,by decide,by decide,by decide⟩,⟨_,_,_,rfl,Sl.nil,p,Sl.nil,by decide,by decide,by decide⟩,trivial⟩ fun v5 w5 σ5 i r=>?_
 have s:=r;obtain ⟨J,V,rfl,_⟩:=s;refine M9 (cells:= #[S kA,S L3, .slice none 0 0, .bool false, .bool false, .bool false, .slice D 2 O, .slice J 2 V]) X7 ?_;refine C1 (R:=L1) (sz:=1) i.sat [S [73]] [[73]] rfl rfl (by simp;rfl) rfl ⟨⟨rfl,by decide⟩,trivial⟩ fun v6 w6 σ6 d t=>?_
 have u:=t;obtain ⟨L,W,rfl,_⟩:=u;refine M9 (cells:= #[S fL.name,S fL.kind, .bool false]) X7 ?_;refine C1 (R:=K3) (sz:=3) d.sat [.agg #[S fL.name,S fL.kind, .bool false]] [fL] rfl rfl (by simp;rfl) rfl ⟨⟨rfl,by decide,by decide⟩,trivial⟩ fun v7 w7 σ7 b y=>?_
 have z:=y;obtain ⟨M,X,rfl,_⟩:=z;refine M9 (cells:= #[S cB.name,S kA, .slice L 1 W, .bool false, .bool false, .bool false, .slice M 1 X, .slice none 0 0]) X7 ?_;refine M9 (cells:= #[S cI.name,S L3, .slice none 0 0, .bool true, .bool true, .bool false, .slice none 0 0, .slice none 0 0]) X7 ?_;refine M9 (cells:= #[S cD.name,S L3, .slice none 0 0, .bool false, .bool true, .bool false, .slice none 0 0, .slice none 0 0]) X7 ?_
 refine C1 (R:=M8) (sz:=8) b.sat [.agg #[S kA,S L3, .slice none 0 0, .bool false, .bool false, .bool false, .slice D 2 O, .slice J 2 V], .agg #[S cB.name,S kA, .slice L 1 W, .bool false, .bool false, .bool false, .slice M 1 X, .slice none 0 0], .agg #[S cI.name,S L3, .slice none 0 0, .bool true, .bool true, .bool false, .slice none 0 0, .slice none 0 0], .agg #[S cD.name,S L3, .slice none 0 0, .bool false, .bool true, .bool false, .slice none 0 0, .slice none 0 0]] W6 rfl rfl (by simp;exact ⟨rfl,rfl,rfl,rfl⟩) rfl
  ⟨⟨_,_,_,rfl,Sl.nil,(((f.up a).up i).up d).up b,(r.up d).up b,by decide,by decide⟩,⟨_,_,_,rfl,t.up b,y,Sl.nil,by decide,by decide⟩,⟨_,_,_,rfl,Sl.nil,Sl.nil,Sl.nil,by decide,by decide⟩,⟨_,_,_,rfl,Sl.nil,Sl.nil,Sl.nil,by decide,by decide⟩,trivial⟩ fun v8 w8 σ8 A B=>?_
 exact h _ _ _ ((((((((j.trans g).trans c).trans a).trans i).trans d).trans b)).trans A) B)
variable {hp tv : Value} {room : Int} {cs : List Cel} {l : List Cla}
def part (m n:Nat) (z:Val):List Val:=(List.range m).map fun i=>if i<n then z else Val.zero
theorem X5I (m:Nat) (z:Val):part m 0 z=List.replicate m Val.zero:=by
 refine List.ext_getElem (by simp[part]) fun i a b=>by simp[part]
theorem X75 (m:Nat) (z:Val):part m m z=List.replicate m z:=by
 refine List.ext_getElem (by simp[part]) fun i a b=>?_
 have:i<m:=by simpa [part] using a
 simp[part,this]
theorem X76 {m n:Nat} (z:Val):(part m n z).set n z=part m (n+1) z:=by
 refine List.ext_getElem (by simp[part]) fun i a b=>?_
 simp only[part,List.getElem_set,List.getElem_map,List.getElem_range]
 by_cases e:n=i
 .subst e;simp
 .rw[if_neg e]
  by_cases h:i<n
  .simp[h,Nat.lt_succ_of_lt h]
  .have: ¬i<n+1:=by omega
   simp[h,this]
theorem X0x {e:Q9} (h:Qm l e=true):right e=true:=by
 simp only[Qm,Bool.and_eq_true,Bool.not_eq_true',decide_eq_false_iff_not] at h;have:=h.1.2;simp only[H7,Bool.or_eq_true,Bool.and_eq_true,decide_eq_true_eq] at this
 rcases this with h1 | h1
 .exact absurd h1 h.1.1
 .exact h1.1
theorem X8g {e:Q9} (h:right e=true):Jx e<=3:=by
 unfold Jx;rw[if_pos h];simp only[right,Bool.and_eq_true,decide_eq_true_eq] at h;exact h.1
set_option maxHeartbeats 1000000 in
theorem X7X {B:Nat} {D:Nat->Prop} {e:Q9} {n:Int} (hs:X3 w σ) (hB:B<=w.heap.size) (h:HeapIs B D σ w hp tv room cs) (ht:Tab σ tv l) (hk:e.length<=V4) (h0:0<=D9 room cs) (h1:room<=1048576)
 (hh: ∀w' σ' D',Nxt D w σ w' σ'->HeapIs B D' σ' w' hp tv room (Lg l room cs e n).1->(∀j,D' j->D j\/w.heap.size<=j)->K (.tuple #[I (atM cs (Lg l room cs e n).2),I (Lg l room cs e n).2]) w'):Q0 P F.bZ [hp,S e,I n] w K:=Q35 (by
 obtain ⟨b,lv,E,rfl,hm,hr⟩:=h.tab;unfold Sh;simp only[D0];unfold J1 V1 X8 X4 X2 J9 X1;refine Y1v e (Nat.le_trans hk L7) fun w1 ac=>?_;have y:=Stp.of_below hs ac;unfold Lg at hh
 have g: ∀{L H},Stp w σ L H->Qm l e=false->K (.tuple #[I 0,I 91]) L:=fun {L H} hS W=>by
  rw[W] at hh;simp only[if_pos] at hh;exact hh L H D (.of_stp hS) (h.up hS) fun j t=> .inl t
 cases z:(right e&&decide (Jx e≠3)) with
 | false=>
  have W:Qm l e=false:=by
   cases hx:Qm l e with
   | false=>rfl
   | true=>
    have hr:=X0x hx;simp only[Qm,Bool.and_eq_true,decide_eq_true_eq] at hx;rw[hr,Bool.true_and,decide_eq_false_iff_not] at z;omega
  simp only[Bool.false_eq_true,if_false]
  (try simp only[↓M1,M1,Mb,reduceIte])
  simp only[show decide ((30:Int)=0)=false from by decide,Bool.not_false,↓M1,M1,Mb,reduceIte]
  exact g y W
 | true=>
  simp only[if_true]
  (try simp only[↓M1,M1,Mb,reduceIte])
  simp only[decide_true,Bool.not_true,↓M1,M1,Mb,reduceIte];refine Yj (i:=0) (hm.up y) rfl ?_;refine Q6N y.sat ht hk fun L H O=>?_;have a:=y.trans O;simp only[Bool.and_eq_true,decide_eq_true_eq] at z;have aw:=X8g z.1
  have k:Qm l e=(!decide (e=I1)&&H7 l e):=by
   unfold Qm;have:decide (Jx e<=2)=true:=decide_eq_true Q5;rw[this,Bool.and_true]
  have en:decide (e=[110,117,108,108])=decide (e=I1):=rfl;cases V:H7 l e with
  | false=>
   (try simp only[↓M1,M1,Mb,reduceIte])
   exact g a (by rw[k,V,Bool.and_false])
  | true=>
   (try simp only[↓M1,M1,Mb,reduceIte])
   by_cases c:e=I1
   .have:decide (e=[110,117,108,108])=true:=decide_eq_true c
    rw[this]
    (try simp only[↓M1,M1,Mb,reduceIte])
    exact g a (by rw[k,decide_eq_true c];rfl)
   have:decide (e=[110,117,108,108])=false:=decide_eq_false c;rw[this]
   (try simp only[↓M1,M1,Mb,reduceIte])
   have W:Qm l e=true:=by rw[k,V,decide_eq_false c];rfl
   rw[W] at hh;simp only[Bool.true_eq_false,if_false] at hh
   by_cases o:n<0
   .rw[if_pos o] at hh
    rw[decide_eq_true o]
    (try simp only[↓M1,M1,Mb,reduceIte])
    exact hh L H D (.of_stp a) (h.up a) fun j t=> .inl t
   rw[if_neg o] at hh;rw[decide_eq_false o]
   (try simp only[↓M1,M1,Mb,reduceIte])
   refine X0c O.sat (h.up a) h0 h1 fun w3 Q=>?_;have q:=a.trans Q;refine T2 ?_
   by_cases M:D9 room cs<=n
   .rw[if_pos M] at hh
    rw[decide_eq_true M];refine Z1 ?_;exact hh w3 H D (.of_stp q) (h.up q) fun j t=> .inl t
   rw[if_neg M] at hh;rw[decide_eq_false M];refine Z0 ?_;obtain ⟨m,rfl⟩:=Int.eq_ofNat_of_zero_le (Int.not_lt.1 o);have ag:(m:Int)<D9 room cs:=Int.not_le.1 M;have a1:=C4 cs;unfold D9 at ag h0;have A:=q.bel.size;have am:=Q0J z.1;refine Y00 (sz:=4) (R:=O6) (x0:=Val.zero) Q.sat rfl L7 ⟨rfl,by decide⟩ Q5 Q5 fun v w4 af ab C=>?_
   have X:=J7.of_acc ab;refine Rw X ?_;rw[List.length_replicate];refine V7 m (fun i w'=> ∃σ',Stp w3 H w' σ'/\J7 w3.heap.size T.f 4 O6 σ' w' v (part m i (R9 e))) ⟨H,af,by rw[X5I];exact X⟩ fun i w5 d hi N=>?_
   obtain ⟨σ5,r,J⟩:=N;refine Y9 ?_;refine Q4 (fun hc=>?_) (fun hc=>?_)
   .have s:i<m:=by simpa using hc
    refine X4W r.sat fun w6 σ6 U=>?_;have aa:=r.trans U;refine Q7p (x:=R9 e) aa (J.up U) (by simpa [part] using s) rfl (Q0T e) (Rep.one (R:=O6) (Q0T (σ:=σ6) e)) fun p u w7 ax ad Y=>?_
    refine C2 ?_;rw[X76] at Y;exact Z4 Q5 s ⟨σ6,ad.stp,Y⟩
   .have s:i=m:=by
     have: ¬i<m:=by simpa using hc
     omega
    subst s;rw[X75] at J;have f:=q.trans r
    refine X7x r.sat (Nat.le_trans hB f.bel.size) (h.up f) (J.mono (Nat.le_trans hB A)) (fun j t hD=>by
     have:=(h.mem hD).2.1;have:=C j t;omega) (Nat.le_trans (show (e++[91,93]).length<=40 by simp only[List.length_append,List.length_cons,List.length_nil];omega) L7) (by rw[List.length_replicate];omega) fun w7 σ7 D' N7 h7 Z=>?_
    refine J5 (vs:=[_,_]) rfl ?_;refine J5 (vs:=[_,_]) rfl ?_;rw[Int.toNat_natCast] at hh;refine hh w7 σ7 D' ((Nxt.of_stp f).chain N7 fun j _ e=>e) h7 fun j t=>?_
    rcases Z j t with e | e | e
    .exact .inl e
    .right;have:=C j e;omega
    .right;have:=f.bel.size;omega)
end Go.Proofs.Y
namespace Go.Emb
open Go.RowKit Go.Hm
variable {w w' : World} {σ σ1 σ2 : Q2}
theorem Stp.weak (h:Stp w σ1 w' σ2) (a: ∀b o,σ b=some o->σ1 b=some o):Stp w σ w' σ:=
 ⟨h.bel,fun b o e=>h.sat b o (h.le b o (a b o e)),fun _ _ e=>e,fun _ _=>rfl⟩
end Go.Emb
namespace Go.Proofs.Y
open Go.Emb Go.RowKit Go.Kd Go.Hm
variable {w w' : World} {K : Value -> World -> Prop} {σ σ' : Q2} {hp tv : Value} {room : Int} {cs : List Cel} {l : List Cla}
theorem RowsIs.rows {B:Nat} {D:Nat->Prop} {m:Value} (h:RowsIs B D σ w m cs) (A:X3 w σ): ∃vs σ',vs.length=cs.length/\X3 w σ'/\SLe σ σ'/\Sl 2 Q7S σ' m (Jf vs cs)/\(∀i (h:i<vs.length) (y:i<cs.length),J7 B T.f 4 O6 σ w vs[i] cs[i].vals/\ ∀k,vs[i].ownBlock=some k->D k)/\(∀k,¬D k->σ' k=σ k)/\
 ∀i (h:i<vs.length) (y:i<cs.length) vals' n,Kpt (fun k=>vs[i].ownBlock=some k) w n->J7 B T.f 4 O6 σ n vs[i] vals'->RowsIs B D σ n m (cs.set i ⟨cs[i].kind,vals'⟩):=by
 obtain ⟨vs,u,g,t,hD⟩:=h.ex;obtain ⟨o,p⟩:=List.pairwise_cons.1 t;obtain ⟨σ',E,C,v,o1⟩:=u.freeze A;refine ⟨vs,σ',g.1,E,C,v,fun i b d=>⟨g.2 i b d,fun k c=>(hD k).2 ⟨vs[i],by simp[List.getElem_mem b],c⟩⟩,fun k c=>o1 k fun e=>c ((hD k).2 ⟨m,by simp,e.symm⟩),fun i b d vals' n c z=>⟨vs,?_,⟨by simpa using g.1,fun j q r=>?_⟩,t,hD⟩⟩
 .have e:Jf vs (cs.set i ⟨cs[i].kind,vals'⟩)=Jf vs cs:=by
   refine List.ext_getElem (by simp[Jf]) fun j H J=>?_
   simp only[Jf,List.getElem_zipWith,List.getElem_set]
   split
   .rename_i e;subst e;rfl
   .rfl
  rw[e];exact u.kp c fun k a f=>o _ (List.getElem_mem b) k a f
 .have s:j<cs.length:=by simpa using r
  simp only[List.getElem_set]
  by_cases e:i=j
  .subst e;simp only[if_pos];exact z
  .simp only[if_neg e]
   refine (g.2 j q s).kp c fun k a f=>?_;have hp:=List.pairwise_iff_getElem.1 p
   rcases Nat.lt_or_gt_of_ne e with hlt | hlt
   .exact hp i j b q hlt k f a
   .exact hp j i q b hlt k a f
theorem X66 {i:Nat} (b:i<cs.length) {vals':List Val} (h:vals'.length=cs[i].vals.length):U9 (cs.set i ⟨cs[i].kind,vals'⟩)=U9 cs:=by
 unfold U9;rw[List.map_set];simp only[h];have a:1+(cs[i].vals.length:Int)=(cs.map (fun c=>1+(c.vals.length:Int)))[i]'(by simpa using b):=by simp
 rw[a,List.set_getElem_self]
set_option maxHeartbeats 1000000 in
theorem X7v {B:Nat} {D:Nat->Prop} {r i:Int} {v:Val} (hs:X3 w σ) (hg:Glb σ) (h:HeapIs B D σ w hp tv room cs) (ht:Tab σ tv l) (ok:Ok l) (good: ∀c∈cs,GoodC V8 l cs c) (hv:O6 σ v [I v.sort,I v.n,S v.s,I v.ref])
 (hh: ∀w' σ',Nxt D w σ w' σ'->HeapIs B D σ' w' hp tv room (G5 V8 l cs r i v).1->K (I (G5 V8 l cs r i v).2) w'):Q0 P F.bh [hp,I r,I i, .agg [I v.sort,I v.n,S v.s,I v.ref].toArray] w K:=Q5F (by
 unfold Gq;simp only[Y5,X5];unfold X2;refine Z6 hs fun q w1 σ1 hk1 hq=>?_;have h1:=h.up hk1;have hs1:=hk1.sat;obtain ⟨σf,sf,lef,hsl,_⟩:=h1.freeze hs1;refine X2P sf hsl ?_;unfold G5 at hh;refine Lb ?_
 by_cases h0:C9 cs r i=0
 case neg=>
  have e:decide (C9 cs r i=0)=false:=decide_eq_false h0;rw[if_pos h0] at hh;rw[e];refine Z1 ?_;exact hh _ _ (.of_stp hk1) h1
 have e:decide (C9 cs r i=0)=true:=decide_eq_true h0;rw[if_neg (fun hn=>hn h0)] at hh;rw[e];refine Z0 ?_;obtain ⟨j,m,rfl,rfl,hj,hm⟩:=Ee h0;rw[L5 hj,Int.toNat_natCast] at hh;have hsl0:=hsl;obtain ⟨a,lv,rfl,la,ls⟩:=hsl;obtain ⟨vv,p1,p2,p3⟩:=Sl.elO ls hj;have hqf:=hq.lift lef;have lesf:SLe σ σf:=SLe.more ⟨hk1.le⟩ lef;have htf:=ht.lift lesf;have hone:vv.cells= #[vv]/\vv.oneCell'=true:=by obtain ⟨a,c,rfl,_⟩:=p2;exact ⟨rfl,rfl⟩
 have hgc:=good cs[j] (List.getElem_mem hj)
 have hif:elem cs[j].kind=[]->m<(V0 l cs[j].kind).length:=fun e=>by
  rcases hgc.is with h | h
  .exact absurd e h
  .rw[<-h.2];exact hm
 refine V3 sf ?_
 (repeat (apply Y3;(· intros;(repeat (rename_i hx;subst hx));(repeat' (first | (with_reducible exact X9 rfl) | (with_reducible exact F7 (Stp.bel (by (repeat (first | exact Stp.refl (by (first | assumption | exact Stp.sat Q8 | exact Hst.sat Q8)) | assumption | refine Stp.trans ?_ (by first | assumption | exact Hst.stp Q8))))) rfl) | (with_reducible intro _) | (simp only[↓M2,M2,Mb,reduceIte]) | (with_reducible show Q7 _ _ _ _ _;first | refine Y6 aS aL aR ?_ | refine Z3 aS aL aR ?_ | refine ld aS aL aR ?_) | (with_reducible show indexAddr _ _ _ _ _ _;refine Y7 aL au ?_) | (with_reducible show U4 _ _ _ _ _ _ _ _;refine Q6 aL ?_) | (with_reducible show Xv _ _ _ _ _ _;refine W3 aR ?_) | (with_reducible show pick _ _ _ _ _ _;refine F6 ?_) | (with_reducible show Q0 _ _ _ _ _;first | refine X9w au au au au au au au ?_) | (apply Zv;intro hh;(try simp only[hh,reduceIte,↓M2,M2,Mb,reduceIte]))));done)))
 (intros;(repeat (rename_i hx;subst hx)))
 rename_i w2 hb2;refine X9p hb2.sat (hg.lift lesf) hsl0 htf ok hv.2.2.2.1 (X1I ok p3 m) fun w3 σ3 hk3=>?_;have hk13:=(hb2.stp.trans hk3).weak lef.le;have h3:=h1.up hk13;have hS3:=hk1.trans hk13;have hs3:=hk13.sat;refine Nj ?_;cases hf:P1 V8 l cs v (Wz l cs[j].kind m) with
 | false=>
  rw[hf] at hh;simp only[Bool.false_eq_true,if_false] at hh;refine Z1 ?_;exact hh _ _ (.of_stp hS3) h3
 | true=>
  rw[hf] at hh;simp only[if_true] at hh;refine Z0 ?_;obtain ⟨b,lv',E,hpe,hbB,hm3,hr3,hE,hD⟩:=h3.ex;obtain ⟨vs,σg,hvl,sg,leg,slg,hrow,hog,hset⟩:=hr3.rows hs3;obtain ⟨σh,sh,leh,lih,_⟩:=(show Z7 σg w3 b _ from ⟨(hog b hE).trans hm3.1,hm3.2⟩).freeze sg
  cases hpe;have slh:=slg.lift leh;have hqh:=(hq.up hk13).lift (leg.more leh);have hjv:j<vs.length:=by rw[hvl];exact hj
  have hjo:j<(Jf vs cs).length:=by rw[Cy hvl];exact hj
  obtain ⟨cs5,p5,_,r5⟩:=slh.el hjo;have eo:(Jf vs cs)[j]=(cs[j].kind,vs[j]):=by simp[Jf]
  rw[eo] at r5;obtain ⟨rfl,_⟩:=r5;refine V3 sh ?_
  (repeat refine Y3 Vq ?_)
  (intros;(repeat (rename_i hx;subst hx)))
  rename_i w4 hb4;have hk34:=Stp.of_below hs3 hb4.stp.bel;have N34:Nxt (fun _=>False) w3 σ1 w4 σ1:= .of_stp hk34;obtain ⟨hrj,hrD⟩:=hrow j hjv hj;have hrj4:=hrj.up hk34;have hv1:O6 σ1 v [I v.sort,I v.n,S v.s,I v.ref]:=hv;refine Q7p (w0:=Q0W w4) (σ0:=fun _=>none) (x:=v) (Uu hk34.sat) (hrj4.mono (Nat.zero_le B)) hm rfl hv1 (Rep.one hv1) fun p u w5 hkp hb5 hq5=>?_;have hkp5:Kpt (fun k=>vs[j].ownBlock=some k) w3 w5:=(Kpt.of_below hk34.bel).trans hkp;have hr5:=hset j hjv hj _ w5 hkp5 (hq5.raise fun k hk=>(hrj.mem hk).1);have N35:Nxt (fun k=>vs[j].ownBlock=some k) w3 σ1 w5 σ1:=⟨hkp5,SLe.refl _,fun _ _=>rfl,hb5.sat⟩;have hm5:=hm3.nx N35 fun e=>hE (hrD b e);have hsv:Qh cs j m v=cs.set j ⟨cs[j].kind,cs[j].vals.set m v⟩:=by unfold Qh;rw[L5 hj,Int.toNat_natCast,Int.toNat_natCast]
  rw[hsv] at hh;have htk:=X66 hj (vals':=cs[j].vals.set m v) V5;refine hh w5 σ1 ((Nxt.of_stp hS3).chain N35 fun k _ e=>(hD k).2 (.inr (hrD k e))) ⟨b,lv',E,rfl,hbB,?_,hr5,hE,hD⟩;rw[htk];exact hm5)
end Go.Proofs.Y
namespace Go.Emb
open Go.RowKit Go.Hm
variable {P : Program} {w : World} {K : Value -> World -> Prop} {σ : Q2}
theorem Y12 {α:Type} {R:Q2->α->List Value->Prop} {B sz:Nat} {e:TypeId} {v:Value} {xs ys:List α} {t:TypeId} {d:Nat} {z:Value} [ts:TS P t e] [tz:TZ P e sz d z] (h:J7 B e sz R σ w v (xs++ys))
 (m: ∀f,J7 B e sz R σ w f xs->f.ownBlock=v.ownBlock->K f w):I7 P t v none (some (I xs.length)) none w K:=by
 have j:=h;obtain ⟨a,b,rfl,k,p,n,q⟩:=j;rw[List.length_append] at k;have c:J7 B e sz R σ w (.slice a xs.length b) xs:=h.pre rfl;generalize (xs++ys).length=N at*
 have hh: ∀w:World,(Instr.sliceBounds true N b none (some (I xs.length)) none).run P w= .ok (0,xs.length,b) w:=by
  intro w;have o:(xs.length:Int)<=b:=by omega
  have g:xs.length<=b:=by omega
  simp[Instr.sliceBounds,Instr.sliceBound,asIntOf,g]
  try (intros;omega)
 unfold I7
 have:(Instr.sliceAt t (.slice a N b) none (some (I xs.length)) none).run P w= .ok (.slice (if b=0 then a else a.map (·.add (0*sz))) (xs.length-0) (b-0)) w:=by
  simp[Instr.sliceAt,run_underlying ts.h,Instr.slice,hh,H2 tz]
 rw[Y8 this]
 have i:(if b=0 then a else a.map (·.add (0*sz)))=a:=by
  split
  .rfl
  .cases a<;>simp[add_zero]
 rw[i,Nat.sub_zero,Nat.sub_zero];exact m _ c (by cases a<;>rfl)
end Go.Emb
namespace Go.Proofs.Y
open Go.Emb Go.RowKit Go.Kd Go.Hm
variable {w w' : World} {K : Value -> World -> Prop} {σ σ' : Q2} {hp tv : Value} {room : Int} {cs : List Cel}
theorem X9o {v:Val} {ds:List Value} {n:Int} {q:Addr} (f:X3 w σ) (d:O6 σ v ds) (c:U0 σ q [I n]) (h: ∀w',Below w.heap.size w w'->K (.bool (Qx n v)) w'):Q0 P F.c0 [.agg ds.toArray, .pointer (some q)] w K:=Q36 (by
 obtain ⟨rfl,_⟩:=d;unfold Si J1 X6 X2 X1;refine Z6 f fun g w1 σ1 a b=>?_;unfold Qx at h;refine U7 ?_;refine ld a.sat b rfl ?_;refine E7 ?_
 by_cases e:v.sort=4
 .rw[decide_eq_true e] at h⊢
  (try simp only[↓M1,M1,Mb,reduceIte])
  refine ld a.sat b rfl ?_;refine Y6 a.sat (c.up a) rfl ?_
  (try simp only[↓M1,M1,Mb,reduceIte])
  exact h _ a.bel
 .rw[decide_eq_false e] at h⊢
  (try simp only[↓M1,M1,Mb,reduceIte])
  exact h _ a.bel)
theorem X5D {vs:List Value} {c:Cel} (h:vs.length=cs.length+1): ∃v,Jf vs (cs++[c])=Jf (vs.take cs.length) cs++[(c.kind,v)]:=by
 refine ⟨vs[cs.length],?_⟩
 have e:vs=vs.take cs.length++[vs[cs.length]]:=by
  rw[List.take_append_getElem Q5];rw[List.take_of_length_le Q5]
 conv=>lhs;rw[e]
 unfold Jf;rw[List.zipWith_append (by simp;omega)]
 rfl
theorem Y1i {B n:Nat} {D:Nat->Prop} {p:Value} {c:Cel} (A:n=cs.length) (h:RowsIs B D σ w p (cs++[c])) (y: ∀a D',RowsIs B D' σ w a cs->(∀j,D' j->D j)->K a w):I7 P T.g p none (some (I n)) none w K:=by
 subst A;obtain ⟨vs,r,s,z,hD⟩:=h.ex;have b:vs.length=cs.length+1:=by rw[s.1];simp
 obtain ⟨E,t⟩:=X5D (c:=c) b;rw[t] at r;have u:cs.length=(Jf (vs.take cs.length) cs).length:=by rw[Cy (by simp[b])]
 rw[u];refine Y12 r fun a o q=>?_;refine y a (fun k=> ∃v∈a::vs.take cs.length,v.ownBlock=some k) ⟨vs.take cs.length,o,⟨by simp[b],fun i C g=>?_⟩,?_,fun k=>Iff.rfl⟩ ?_
 .have m:i<vs.length:=by omega
  have:=s.2 i m (by simp;omega)
  rw[List.getElem_append_left g] at this
  simpa using this
 .obtain ⟨e,f⟩:=List.pairwise_cons.1 z
  exact List.pairwise_cons.2 ⟨fun v hv k d=>e v (List.mem_of_mem_take hv) k (q▸d),f.sublist (List.take_sublist _ _)⟩
 .rintro k ⟨v,hv,d⟩
  rcases List.mem_cons.1 hv with rfl | hv
  .exact (hD k).2 ⟨p,by simp,q▸d⟩
  .exact (hD k).2 ⟨v,by simp[List.mem_of_mem_take hv],d⟩
set_option maxRecDepth 9999 in
set_option maxHeartbeats 2000000 in
theorem Y0u {B:Nat} {D:Nat->Prop} {n:Int} (hs:X3 w σ) (h:HeapIs B D σ w hp tv room cs) (hl:U9 cs<=1048576) (hn:Qj n)
 (hh: ∀w' σ' D',Nxt D w σ w' σ'->HeapIs B D' σ' w' hp tv room (Q10 cs n)->(∀j,D' j->D j)->K (.tuple #[]) w'):Q0 P F.cw [hp,I n] w K:=Q5D (by
 have hcl:=Xs cs;unfold Gn;simp only[Y5,X5,N2,L9];unfold X6 J3 V1 X4 X2 X1;refine X08 hs fun b0 w1 hb0 hk1 hm1=>?_;have hm1:Z7 σ w1 b0 [I n]:=hm1;refine Q4j hm1 rfl ?_;refine Y1c ?_;refine st0 hm1 V5 rfl rfl fun w2 u2 hm2=>?_;have hm2:Z7 σ w2 b0 [I (max n 0)]:=hm2;unfold Q10 at hh;obtain ⟨m,hmE⟩:=Int.eq_ofNat_of_zero_le (show 0<=max n 0 by omega)
 rw[hmE] at hm2 hh;have hmx:(m:Int)<=9223372036854775807:=by have:=hn.2;omega
 have hk2:Stp w σ w2 σ:=u2.stp hk1 hb0 hm1.1;obtain ⟨σ2,hS2,hq2,le2,_⟩:=hm2.keep hk2 hb0;have h2:=h.up hS2;have hs2:=hS2.sat;obtain ⟨σf,sf,lef,hsl,_⟩:=h2.freeze hs2;rw[Int.toNat_natCast] at hh;obtain ⟨a,lv,rfl,la,ls⟩:=hsl;have hqf:=hq2.le lef.le;refine V3 sf ?_
 (repeat (apply Y3;(· intros;(repeat (rename_i hx;subst hx));(repeat' (first | (with_reducible exact X9 rfl) | (with_reducible exact F7 (Stp.bel (by (repeat (first | exact Stp.refl (by (first | assumption | exact Stp.sat Q8 | exact Hst.sat Q8)) | assumption | refine Stp.trans ?_ (by first | assumption | exact Hst.stp Q8))))) rfl) | (with_reducible intro _) | (simp only[↓M2,M2,Mb,reduceIte]) | (with_reducible refine Y1d ?_) | (with_reducible show Q7 _ _ _ _ _;first | refine Y6 aS aL aR ?_ | refine Z3 aS aL aR ?_ | refine ld aS aL aR ?_) | (with_reducible show indexAddr _ _ _ _ _ _;refine Y7 aL au ?_) | (with_reducible show U4 _ _ _ _ _ _ _ _;refine Q6 aL ?_) | (with_reducible show Xv _ _ _ _ _ _;refine W3 aR ?_) | (with_reducible show pick _ _ _ _ _ _;refine F6 ?_) | (apply Zv;intro hh;(try simp only[hh,reduceIte,↓M2,M2,Mb,reduceIte]))));done)))
 (intros;(repeat (rename_i hx;subst hx)))
 rename_i w3 hb3;have hmin:min (m:Int) (cs.length:Int)=((min m cs.length:Nat):Int):=by omega
 rw[hmin];refine Gf ls none (some (I (min m cs.length:Nat))) 0 (min m cs.length) (.inl ⟨rfl,rfl⟩) (.inr rfl) (Nat.zero_le _) (Nat.min_le_right _ _) fun v3 hv3=>?_;rw[List.drop_zero,Nat.sub_zero,List.take_eq_take_min.symm] at hv3;refine Q6 hv3 ?_;have hk23: ∀{w' σ'},Stp w3 σf w' σ'->Stp w2 σ2 w' σ2:=fun hk=>(hb3.stp.trans hk).weak lef.le;refine V7 (cs.take m).length (fun i w'=> ∃σ',Stp w3 σf w' σ'/\((cs.take m).take i).any (fun c=>c.vals.any (Qx m))=false) ⟨σf,Stp.refl hb3.sat,rfl⟩ fun i w4 d hi hinv=>?_;obtain ⟨σ4,hk4,hno⟩:=hinv;refine Y9 ?_;refine Q4 (fun hc=>?_) (fun hc=>?_)
 .have hi':i<(cs.take m).length:=by simpa using hc
  have hv4:=hv3.up hk4;obtain ⟨vv,p1,p2,p3⟩:=Sl.elO hv4 hi';refine Y7 hv4 hi' ?_;refine Z3 hk4.sat p1 rfl ?_;refine Z9 hk4.sat (by rfl) rfl (Rep.one (R:=Xt) ⟨vv,rfl,p2,p3⟩) fun q5 w5 σ5 hk5 hq5=>?_
  rw[fa];refine ld hk5.sat hq5 rfl ?_;rw[Zl];have hq5f:=hqf.lift (SLe.more ⟨hk4.le⟩ ⟨hk5.le⟩);refine Li (Qx m) hk5.sat (p2.up hk5) (fun v ds w6 K hv hs6 hr hlen hK=>J8 (first:=[]) (caps:=[.pointer (some ⟨b0,0,none⟩)]) (X9o hs6 hr hq5f hK)) fun w6 hb6=>?_
  have hk6:=(hk4.trans hk5).trans (Stp.of_below hk5.sat hb6);have hnx:=E8 (p:=fun c:Cel=>c.vals.any (Qx m)) hi';cases hany:(cs.take m)[i].vals.any (Qx m) with
  | true=>
   refine Z1 ?_;rw[if_pos (P0 hi' hany)] at hh;have hS:=hS2.trans (hk23 hk6);exact hh _ _ D (.of_stp hS) (h.up hS) fun j hj=>hj
  | false=>
   refine Z0 ?_;refine C2 ?_;refine Z4 hv3.max hi' ⟨σ5,hk6,?_⟩;rw[hnx,hno,hany];rfl
 have hi': ¬i<(cs.take m).length:=by simpa using hc
 rw[B7 hi'] at hno;rw[if_neg (by rw[hno];simp)] at hh
 have hS4:=hS2.trans (hk23 hk4);have h4:=h.up hS4;refine Q1b (fun k (_:Unit) w'=> ∃D',Nxt D w σ w' σ2/\HeapIs B D' σ2 w' (.pointer (some a)) tv room (cs.take k)/\(∀j,D' j->D j)/\k<=cs.length/\(m<=k\/k=cs.length)) cs.length ⟨D, .of_stp hS4,by rw[List.take_length];exact h4,fun j hj=>hj,Nat.le_refl _, .inr rfl⟩ ?_
 rintro again k x d w5 ⟨D5,N5,h5,hD5,hkl,hmk⟩ hag;have hs5:=N5.sat
 have htk:U9 (cs.take k)<=1048576:=by
  have e:U9 cs=U9 (cs.take k)+U9 (cs.drop k):=by rw[<-Ja,List.take_append_drop]
  have:=C4 (cs.drop k);omega
 obtain ⟨σg,sg,leg,hslg,_⟩:=h5.freeze hs5;obtain ⟨ag,lvg,hpe,lag,lsg⟩:=hslg;cases hpe;have hqg:=(show U0 σ2 ⟨b0,0,none⟩ [I (m:Int)] from hq2).lift leg
 have hlk:(cs.take k).length=k:=by rw[List.length_take];omega
 refine V3 sg ?_
 (repeat refine Y3 Vq ?_)
 (intros;(repeat (rename_i hx;subst hx)))
 rename_i w6 hb6;have hk56:Stp w5 σ2 w6 σ2:=hb6.stp.weak leg.le;have h6:=h5.up hk56;have N6:=N5.chain (Nxt.of_stp (D:=fun _=>False) hk56) fun j _ e=>e.elim;rw[hlk];refine Vo ?_
 by_cases hgt:m<k
 case neg=>
  rw[decide_eq_false (show¬(m:Int)<(k:Int) by omega)]
  refine Z0 ?_
  have e:cs.take m=cs.take k:=by
   rcases hmk with e | e
   .rw[show m=k by omega]
   .rw[e,List.take_length,List.take_of_length_le Q5]
  rw[e] at hh;exact hh w6 σ2 D5 N6 h6 hD5
 rw[decide_eq_true (show (m:Int)<(k:Int) by omega)]
 refine Z1 ?_;obtain ⟨k1,rfl⟩: ∃k1,k=k1+1:=⟨k-1,by omega⟩
 have hk1l:k1<cs.length:=by omega
 have esnoc:cs.take (k1+1)=cs.take k1++[cs[k1]]:=by rw[List.take_append_getElem hk1l]
 have hk1t:(cs.take k1).length=k1:=by rw[List.length_take];omega
 obtain ⟨σh,sh,leh,hslh,_⟩:=h6.freeze hk56.sat;obtain ⟨b,lv6,E6,hpb,hbB,hm6,hr6,hE6,hDe6⟩:=h6.ex;cases hpb;obtain ⟨ah,lvh,hpe,lah,lsh⟩:=hslh;cases hpe;rw[C0,fa];refine Yj hm6 rfl ?_;obtain ⟨al,capl,hle⟩:=hr6.len;rw[hlk] at hle;subst hle;rw[Q5f];refine Wh ⟨by omega,by omega⟩ ?_
 have ek:((k1+1:Nat):Int)-1=(k1:Int):=by omega
 rw[ek];have hkk:k1<(cs.take (k1+1)).length:=by omega
 obtain ⟨vvk,pk,pk2,_⟩:=Sl.elO lsh hkk;have evk:((cs.take (k1+1))[k1]'hkk).vals=cs[k1].vals:=by simp
 rw[evk] at pk2;refine V3 sh ?_
 (repeat refine Y3 Vq ?_)
 (intros;(repeat (rename_i hx;subst hx)))
 rename_i w7 hb7;have hk67:Stp w6 σ2 w7 σ2:=hb7.stp.weak leh.le;have htn:=C4 (cs.take k1)
 have etk:U9 (cs.take (k1+1))=U9 (cs.take k1)+(1+(cs[k1].vals.length:Int)):=by
  rw[esnoc,Ja];simp[U9]
 rw[Qi Q5 Q5];refine Wh ⟨by omega,by omega⟩ ?_
 have eu:U9 (cs.take (k1+1))-(1+(cs[k1].vals.length:Int))=U9 (cs.take k1):=by omega
 rw[eu];have hm7:=hm6.up hk67;have hr7:=hr6.up hk67;rw[C0,fa];refine Vy hm7 V5 rfl rfl fun w8 u8 hm8=>?_;have N78:=Nxt.of_upd hk67.sat u8 hm7.1;have hr8:=hr7.nx N78 fun j hj e=>hE6 (e▸hj);rw[C0,fa];refine Yj hm8 rfl ?_;rw[esnoc] at hr8;refine Y1i hk1t.symm hr8 fun lv9 E9 hr9 hE9=>?_;rw[C0,fa];refine Vy hm8 V5 hr9.shape.1 hr9.shape.2 fun w9 u9 hm9=>?_;have N89:=Nxt.of_upd N78.sat u9 hm8.1;have hE9b: ¬E9 b:=fun e=>hE6 (hE9 b e);have hr9':=hr9.nx N89 fun j hj e=>hE9b (e▸hj);have hDb:D5 b:=(hDe6 b).2 (.inl rfl);have N9:Nxt D w σ w9 σ2:=((N6.chain (Nxt.of_stp (D:=fun _=>False) hk67) fun j _ e=>e.elim).chain N78 fun j _ e=>e▸hD5 b hDb).chain N89 fun j _ e=>e▸hD5 b hDb;refine hag k1 _ _ (Nat.lt_succ_self _) ⟨fun j=>j=b\/E9 j,N9,⟨b,lv9,E9,rfl,hbB,hm9,hr9',hE9b,fun j=>Iff.rfl⟩,fun j hj=>?_,by omega, .inl Q5⟩
 rcases hj with rfl | hj
 .exact hD5 _ hDb
 .exact hD5 j ((hDe6 j).2 (.inr (hE9 j hj))))
end Go.Proofs.Y
namespace Go.Emb
open Go.RowKit Go.Hm
variable {w w' w0 : World} {σ σ' σ0 : Q2}
theorem Nxt.stp' {D:Nat->Prop} (N:Nxt D w σ w' σ') (a:Stp w0 σ0 w σ) (f: ∀k,D k->w0.heap.size<=k):Stp w0 σ0 w' σ':=
 ⟨⟨N.kp.os.trans a.bel.os,N.kp.tape.trans a.bel.tape,N.kp.output.trans a.bel.output,Nat.le_trans a.bel.size N.kp.size,fun k d=>(N.kp.block k (Nat.lt_of_lt_of_le d a.bel.size) fun h=>absurd (f k h) Q5).trans (a.bel.block k d)⟩,N.sat,fun b o e=>N.le.le b o (a.le b o e),fun b c=>(N.old b (Nat.lt_of_lt_of_le c a.bel.size)).trans (a.old b c)⟩
end Go.Emb
namespace Go.Proofs.Y
open Go.Emb Go.RowKit Go.Kd Go.Hm
variable {w : World} {σ : Q2}
theorem RowsIs.nil {B:Nat}:RowsIs B (fun _=>False) σ w (.slice none 0 0) []:=
 ⟨[],J7.of_acc W4.nil,⟨rfl,fun i h=>absurd h (Nat.not_lt_zero i)⟩,List.pairwise_singleton _ _,fun k=>by simp[Value.ownBlock]⟩
variable {K : Value -> World -> Prop} {l : List Cla} {v : Value}
theorem X3y:(Xf l).length=l.length:=by simp[Xf]
theorem X4P {i:Nat} (a:i<(Xf l).length):(Xf l)[i]=(List.range l.length).map fun j=>Jv l (J0 l i) (J0 l j):=by simp[Xf]
theorem Sl.elB {xs:List (List Bool)} {v:Value} (h:Sl 1 Q9X σ v xs) {i:Nat} (c:i<xs.length): ∃u,U0 σ (K4 1 v i) [u]/\Sl 1 Q0U σ u xs[i]:=by
 obtain ⟨cs,a,d,u,rfl,b⟩:=h.el c;exact ⟨u,a,b⟩
theorem Sl.elb {xs:List Bool} {v:Value} (h:Sl 1 Q0U σ v xs) {i:Nat} (c:i<xs.length):U0 σ (K4 1 v i) [.bool xs[i]]:=by
 obtain ⟨cs,b,d,a⟩:=h.el c;have a:cs=_:=a;subst a;exact b
theorem X8X {a b:Q9} (n:X3 w σ) (y:Sl 8 M8 σ v (Q3 l)) (z:Wf l) (ok:Ok (Q3 l)) (E:(Q3 l).length<=1000) (Q:a.length<=V4) (Z:b.length<=V4) (h: ∀w' σ',Stp w σ w' σ'->K (.bool (Vm (Q3 l) a b)) w'):Q0 P F.cm [v,S a,S b] w K:=Q4J (by
 unfold Fi zhi X8 X2 J9 X1;have o: ∀r,Vm (Q3 l) a b=r->K (.bool r) w:=fun r e=>by rw[<-e];exact h _ _ (Stp.refl n)
 refine Bc n y Q ?_;cases g:H7 (Q3 l) a with
 | false=>
  have O:Vm (Q3 l) a b=false:=by unfold Vm;simp[g]
  (try simp only[↓M1,M1,Mb,reduceIte])
  by_cases e:a=b
  .have f:decide (a=b)=true:=by simpa using e
   simp only[f,↓M1,M1,Mb,reduceIte];refine Bc n y Q ?_;rw[g]
   (try simp only[↓M1,M1,Mb,reduceIte])
   exact o _ O
  .have f:decide (a=b)=false:=by simpa using e
   simp only[f,↓M1,M1,Mb,reduceIte];exact o _ O
 | true=>
 (try simp only[↓M1,M1,Mb,reduceIte])
 refine Bc n y Z ?_;cases k:H7 (Q3 l) b with
 | false=>
  have O:Vm (Q3 l) a b=false:=by unfold Vm;simp[k]
  have f:decide (a=b)=false:=by
   rw[decide_eq_false_iff_not];rintro rfl;rw[g] at k;cases k
  simp only[f,↓M1,M1,Mb,reduceIte];exact o _ O
 | true=>
 (try simp only[↓M1,M1,Mb,reduceIte])
 by_cases e:a=b
 .have f:decide (a=b)=true:=by simpa using e
  simp only[f,↓M1,M1,Mb,reduceIte];refine Bc n y Q ?_;rw[g]
  (try simp only[↓M1,M1,Mb,reduceIte])
  exact o _ (z.sub_iff.2 ⟨g,k, .inl e⟩)
 have f:decide (a=b)=false:=by simpa using e
 simp only[f,↓M1,M1,Mb,reduceIte];refine Gb _ ?_
 have c:(∀(_:plain a=false/\plain b=false/\(a=I1\/(elem a≠[]/\b=L3)\/(lk (Q3 l) a≠none/\Hm.Reach (lk (Q3 l)) a b))),False)->K (.bool false) w:=fun hx=>o _ (eq_false_of_ne_true fun ht=>by
  obtain ⟨_,_,h3⟩:=z.sub_iff.1 ht
  rcases h3 with h3 | h3
  .exact e h3
  .exact hx h3)
 cases t:plain a with
 | true=>(try simp only[↓M1,M1,Mb,reduceIte]);exact c fun hx=>by rw[t] at hx;cases hx.1
 | false=>
 (try simp only[↓M1,M1,Mb,reduceIte])
 refine Gb _ ?_;cases J:plain b with
 | true=>(try simp only[↓M1,M1,Mb,reduceIte]);exact c fun hx=>by rw[J] at hx;cases hx.2.1
 | false=>
 (try simp only[↓M1,M1,Mb,reduceIte])
 by_cases H:b=I1
 .have f:decide (b=[110,117,108,108])=true:=by rw[decide_eq_true_eq];exact H
  simp only[f,↓M1,M1,Mb,reduceIte];refine c fun ⟨_,_,hx⟩=>?_
  rcases hx with hx | ⟨_,hx⟩ | ⟨_,hx⟩
  .exact e (hx.trans H.symm)
  .rw[H] at hx;exact absurd hx L7
  .obtain ⟨d,A⟩:=hx.right
   rw[H,z.none_null] at A;cases A
 have U:decide (b=[110,117,108,108])=false:=by rw[decide_eq_false_iff_not];exact H
 simp only[U,↓M1,M1,Mb,reduceIte]
 by_cases m:a=I1
 .have f:decide (a=[110,117,108,108])=true:=by rw[decide_eq_true_eq];exact m
  simp only[f,↓M1,M1,Mb,reduceIte];exact o _ (z.sub_iff.2 ⟨g,k, .inr ⟨t,J, .inl m⟩⟩)
 have B:decide (a=[110,117,108,108])=false:=by rw[decide_eq_false_iff_not];exact m
 simp only[B,↓M1,M1,Mb,reduceIte]
 by_cases L:b=L3
 .have f:decide (b=[79,98,106,101,99,116])=true:=by rw[decide_eq_true_eq];exact L
  simp only[f,↓M1,M1,Mb,reduceIte];exact o _ (by rw[L];exact z.sub_root g t)
 have V:decide (b=[79,98,106,101,99,116])=false:=by rw[decide_eq_false_iff_not];exact L
 simp only[V,↓M1,M1,Mb,reduceIte];refine Xl n y ?_;refine Xl n y ?_;refine T2 ?_;rw[Yw];cases p:U2 (Q3 l) a with
 | none=>
  simp only[Option.isSome_none,↓M1,M1,Mb,reduceIte];refine c fun ⟨_,_,hx⟩=>?_
  rcases hx with hx | ⟨_,hx⟩ | ⟨hx,_⟩
  .exact m hx
  .exact L hx
  .exact hx (by unfold lk;rw[p];rfl)
 | some i=>
 simp only[Option.isSome_some,↓M1,M1,Mb,reduceIte];cases C:U2 (Q3 l) b with
 | none=>
  simp only[Yw,Option.isSome_none,↓M1,M1,Mb,reduceIte];refine c fun ⟨_,_,hx⟩=>?_
  rcases hx with hx | ⟨_,hx⟩ | ⟨_,hx⟩
  .exact m hx
  .exact L hx
  .obtain ⟨d,A⟩:=hx.right
   unfold lk at A;rw[C] at A;cases A
 | some j=>
 obtain ⟨hi,W⟩:=K6 p;obtain ⟨hj,X⟩:=K6 C;simp only[Yw,Option.isSome_some,↓M1,M1,Mb,reduceIte];simp only[E1];refine Q4V n y z.own Q5 E ok.sm fun v1 w1 σ1 s N=>?_;have q:i<(Xf (Q3 l)).length:=by rw[X3y];exact hi
 refine Y7 N q ?_;obtain ⟨u,p1,Y⟩:=Sl.elB N q;refine Y6 s.sat p1 rfl ?_;rw[X4P q] at Y;have D:j<((List.range (Q3 l).length).map fun j=>Jv (Q3 l) (J0 (Q3 l) i) (J0 (Q3 l) j)).length:=by simpa using hj
 refine Y7 Y D ?_;refine Y6 s.sat (Sl.elb Y D) rfl ?_
 (try simp only[↓M1,M1,Mb,reduceIte])
 simp only[List.getElem_map,List.getElem_range,W,X]
 have M:Vm (Q3 l) a b=Jv (Q3 l) a b:=by
  obtain ⟨ca,R,_⟩:=Wc p;rw[Bool.eq_iff_iff,z.sub_class R,Mh,Q4U];constructor
  .rintro (⟨hx,_⟩ | hx)
   .exact absurd hx e
   .exact hx
  .exact .inr
 rw[<-M];exact h _ _ s)
theorem X4t (ok:Ok l): ∀(k:Nat) {n:Q9} {w:World} {σ:Q2} {K:Value->World->Prop},(lk l n=none\/A0 l n<k)->n.length<=V4->X3 w σ->Sl 8 M8 σ v l->(∀w' H,Stp w σ w' H->K (S (E3 l n)) w')->Q0 P F.ac [v,S n] w K:=by
 have m: ∀{n:Q9} {w:World} {σ:Q2} {K:Value->World->Prop},lk l n=none->X3 w σ->Sl 8 M8 σ v l->(∀w' H,Stp w σ w' H->K (S (E3 l n)) w')->Q0 P F.ac [v,S n] w K:=by
  intro n w σ K o p q h;refine Sa ?_;unfold Uy;simp only[L9];unfold X6 J3 X8 X4 X2 J9 X1;rw[Aw o] at h;refine Af p q o ?_;simp only[X4a,↓M1,M1,Mb,reduceIte];exact h _ _ (Stp.refl p)
 intro k
 induction k with
 | zero=>
  intro n w σ K hk hl p q h;exact m (hk.resolve_right Q5) p q h
 | succ k ih=>
  intro n w σ K hk hl p q h;cases o:lk l n with
  | none=>exact m o p q h
  | some c=>
   refine Sa ?_;unfold Uy;simp only[L9];unfold X6 J3 X8 X4 X2 J9 X1;have B:=Q9f ok.acy n;rw[o] at B;simp only at B;obtain ⟨J,u,_⟩:=N1 o;have z:=ok.nm c u;have W:=ok.sm c u;have aa:=Q7l ok c.super;refine Ga p q o fun i hi hf=>?_;obtain ⟨r,N⟩:=List.getElem?_eq_some_iff.1 hi;simp only[Q7j,↓M1,M1,Mb,reduceIte];refine Q4 (fun hh=>?_) (fun hh=>?_)
   .have:n=L3:=of_decide_eq_true hh
    rw[if_pos this] at B;rw[B] at h;exact h _ _ (Stp.refl p)
   have: ¬n=L3:=of_decide_eq_false hh;rw[if_neg this] at B;obtain ⟨lv,fv,mv,X,r1⟩:=q.elC r;rw[N] at X r1;obtain ⟨_,Z,_,_,f5⟩:=r1.parts;have U:n.length<=100:=by rw[<-J];exact z.1
   refine H4 (by simp only[List.length_cons,List.length_nil];omega) ?_
   refine Y7 q r ?_
   (try simp only[↓M1,M1,Mb,reduceIte])
   refine ld p X rfl ?_
   have O:lk l c.super=none\/A0 l c.super<k:=by
    cases L:lk l c.super with
    | none=>exact .inl rfl
    | some e=>
     right;have:=Yf ok.acy o (by simp[M6]) L
     rcases hk with hk | hk
     .rw[hk] at o;cases o
     .omega
   refine ih O f5 p q fun w3 σ3 Q=>?_;refine H4 (by simp only[List.length_append,List.length_cons,List.length_nil];omega) ?_
   refine H4 (by simp only[List.length_append,List.length_cons,List.length_nil];omega) ?_
   refine O4 c.fields.length (fun i a w'=> ∃H,Stp w σ w' H/\a=S (n++[40]++E3 l c.super++[41]++(c.fields.take i).flatMap I8)) ⟨σ3,Q,by simp⟩ fun j a w4 d hj C=>?_
   obtain ⟨σ4,b,rfl⟩:=C;have M:=Q2z z W j;have E:=q.up b;have p4:=X.up b;have y:=Z.up b;have s:=b.sat;refine Y7 E r ?_
   (try simp only[↓M1,M1,Mb,reduceIte])
   refine ld s p4 rfl ?_;refine Q6 y ?_;refine Y9 ?_;refine Q4 (fun hh=>?_) (fun hh=>?_)
   .have f:j<c.fields.length:=by simpa using hh
    have af:=z.2.1 _ (List.getElem_mem f);have t:c.fields.length<=9223372036854775807:=Z.max;refine M0 ?_;refine Y7 E r ?_
    (try simp only[↓M1,M1,Mb,reduceIte])
    refine ld s p4 rfl ?_;refine Y7 y f ?_;obtain ⟨R,V⟩:=y.elF f;refine Z3 s R rfl ?_;refine Z9 s (by rfl) rfl (Rep.one V) fun q5 w5 σ5 g A=>?_
    (try simp only[↓M1,M1,Mb,reduceIte])
    refine ld g.sat A rfl ?_
    have Y:(c.fields.take (j+1)).flatMap I8=(c.fields.take j).flatMap I8++I8 c.fields[j]:=by
     rw[List.take_add_one,List.getElem?_eq_getElem f,List.flatMap_append];simp
    cases D:c.fields[j].tr with
    | true=>
     simp only[↓M1,M1,Mb,reduceIte];intro _;refine Z8 t f ⟨σ5,b.trans g,?_⟩;rw[Y];simp[I8,D]
    | false=>
     simp only[↓M1,M1,Mb,reduceIte];refine ld g.sat A rfl ?_;refine H4 (by simp only[List.length_append,List.length_cons,List.length_nil];omega) ?_
     refine H4 (by simp only[List.length_append,List.length_cons,List.length_nil];omega) ?_
     (try simp only[↓M1,M1,Mb,reduceIte])
     refine ld g.sat A rfl ?_;refine H4 (by simp only[List.length_append,List.length_cons,List.length_nil];omega) ?_
     refine H4 (by simp only[List.length_append,List.length_cons,List.length_nil];omega) ?_
     intro _
     (try simp only[↓M1,M1,Mb,reduceIte])
     refine Z8 t f ⟨σ5,b.trans g,?_⟩;rw[Y];simp[I8,D]
   .have f: ¬j<c.fields.length:=by simpa using hh
    rw[List.take_of_length_le Q5] at M⊢;refine H4 (by simp only[List.length_append,List.length_cons,List.length_nil];omega) ?_
    rw[B] at h;exact h _ _ b
theorem X5U {n:Q9} (b:X3 w σ) (c:Sl 8 M8 σ v l) (ok:Ok l) (a:n.length<=V4) (h: ∀w' d,Stp w σ w' d->K (S (E3 l n)) w'):Q0 P F.ac [v,S n] w K:=
 X4t ok _ (.inr (Nat.lt_succ_self _)) a b c h
end Go.Proofs.Y
namespace Go.Emb
open Go.RowKit Go.Hm
def E0 (σ:Q2) (x:List Cla×Int×List Cel) (ds:List Value):Prop:= ∃b a,ds=[b,I x.2.1,a]/\Sl 8 M8 σ b x.1/\Sl 2 Xt σ a x.2.2
instance:Rep E0:=⟨fun hk ⟨lv,cv,h1,h2,h3⟩=>⟨lv,cv,h1,h2.le hk,h3.le hk⟩,fun ⟨lv,cv,h1,h2,h3⟩ u hu=>by
 rw[h1] at hu;simp at hu;rcases hu with rfl | rfl | rfl
 .exact Yl h2
 .rfl
 .exact Yl h3⟩
theorem W0 {σ σ':Q2} {x:List Cla×Int×List Cel} {cs:List Value} (h:E0 σ x cs) (k:SLe σ σ'):E0 σ' x cs:=Rep.up k.le h
theorem E0.out {σ:Q2} {l:List Cla} {room:Int} {cs:List Cel} {ds:List Value} (h:E0 σ (l,room,cs) ds): ∃b a,ds=[b,I room,a]/\Sl 8 M8 σ b l/\Sl 2 Xt σ a cs:=h
end Go.Emb
namespace Go.Proofs.Y
open Go.Emb Go.RowKit Go.Kd Go.Hm
variable {w w' : World} {K : Value -> World -> Prop} {σ σ' : Q2} {ds : List Value} {room : Int} {cs : List Cel} {l : List Cla}
theorem X5M {k:Q9} (O:X3 w σ) (h: ∀w' σ',Stp w σ w' σ'->K (.agg [I (R9 k).sort,I (R9 k).n,S (R9 k).s,I (R9 k).ref].toArray) w'):Q0 P F.b6 [S k] w K:=Q3t (by
 unfold Cg;simp only[L9];unfold J9;refine E5 O fun b w1 σ1 W t v=>?_;have hB:=C7 W (Stp.refl O);refine M9 (cells:= #[I 0,I 0,S [],I 0]) X7 ?_;refine E5 t.sat fun A w2 M D u y=>?_;have C:=t.trans u;have j:=C7 D t;have o:b≠A:=by have:=v.lt;omega
 refine Ms (ds:=[I 0,I 0,S [],I 0]) y rfl rfl (by rw[List.all_toArray];exact List.all_eq_true.2 Ge) fun Z Q a=>?_
 have m:=Q.stp C j y.1;have c:=(v.up u).upd Q o
 have g: ∀(n:Int) (f:World),Z7 M f A [I n,I 0,S [],I 0]->Z7 M f b [I 0,I 0,S [],I 0]->Stp w σ f M->(∀w' σ',Stp w σ w' σ'->K (.agg [I n,I 0,S [],I 0].toArray) w')->Q7 P T.f (.pointer (some ⟨A,0,none⟩)) f fun L w=>
  U8 P T.f (.pointer (some ⟨b,0,none⟩)) L w fun _u w=>
  J4 P T.f (.pointer (some ⟨b,0,none⟩)) w fun Y=>K Y w:=fun n f r p V U=>
  Gi r rfl (Qz p V hB rfl rfl Ge fun w5 E H=>M5 H rfl (U _ _ E.stp))
 have R:decide (k=[105,110,116])=decide (k=Zh):=rfl;have N:decide (k=[98,111,111,108])=decide (k=Ww):=rfl;have B:decide (k=[116,101,120,116])=decide (k=B9):=rfl;unfold R9 at h;refine M0 ?_;refine K2 ?_;rw[R]
 by_cases p:k=Zh
 .simp only[if_pos p] at h
  have X:decide (k=Ww)=false:=by subst p;decide
  have J:decide (k=B9)=false:=by subst p;decide
  rw[decide_eq_true p];refine Z1 ?_;refine U7 ?_;refine Vy (i:=0) a V5 rfl rfl fun f q e=>?_;intro d;refine M0 ?_;refine K2 ?_;rw[N,X];refine Z0 ?_;intro d;refine M0 ?_;refine K2 ?_;rw[B,J];refine Z0 ?_;intro d;exact g 1 f e (c.upd q o) (q.stp m j a.1) h
 simp only[if_neg p] at h;rw[decide_eq_false p];refine Z0 ?_;intro d;refine M0 ?_;refine K2 ?_;rw[N]
 by_cases r:k=Ww
 .simp only[if_pos r] at h
  have J:decide (k=B9)=false:=by subst r;decide
  rw[decide_eq_true r];refine Z1 ?_;refine U7 ?_;refine Vy (i:=0) a V5 rfl rfl fun f q e=>?_;intro d;refine M0 ?_;refine K2 ?_;rw[B,J];refine Z0 ?_;intro d;exact g 2 f e (c.upd q o) (q.stp m j a.1) h
 simp only[if_neg r] at h;rw[decide_eq_false r];refine Z0 ?_;intro d;refine M0 ?_;refine K2 ?_;rw[B]
 by_cases z:k=B9
 .simp only[if_pos z] at h
  rw[decide_eq_true z];refine Z1 ?_;refine U7 ?_;refine Vy (i:=0) a V5 rfl rfl fun f q e=>?_;intro d;exact g 3 f e (c.upd q o) (q.stp m j a.1) h
 .simp only[if_neg z] at h
  rw[decide_eq_false z];refine Z0 ?_;intro d;exact g 0 Z a c m h)
theorem X5K (o:X3 w σ) (hh:E0 σ (l,room,cs) ds) (k:0<=D9 room cs) (v:room<=1048576) (h: ∀w' σ',Stp w σ w' σ'->K (I (D9 room cs)) w'):Q0 P F.b5 [.agg ds.toArray] w K:=Q3s (by
 obtain ⟨D,s,rfl,B,m⟩:=E0.out hh;unfold Cf X6 X4 X2 X1;refine Z6 o fun q w1 σ1 g j=>?_;have c:=g.sat;have b:=m.up g;refine U7 ?_;refine ld c j rfl ?_;unfold D9 at h k;refine O4 cs.length (fun n x w'=>w'=w1/\x=I (room-U9 (cs.take n))) ⟨rfl,by simp[U9]⟩ fun n x J d C i=>?_
 obtain ⟨rfl,rfl⟩:=i;have e:U9 cs=U9 (cs.take n)+U9 (cs.drop n):=by rw[<-Ja,List.take_append_drop]
 have y:=C4 (cs.take n);have z:=C4 (cs.drop n);refine U7 ?_;refine ld c j rfl ?_;refine Q6 b ?_;refine Y9 ?_;refine Q4 (fun f=>?_) (fun f=>?_)
 .have a:n<cs.length:=by simpa using f
  obtain ⟨H,p,r,E⟩:=Sl.elO b a;refine U7 ?_;refine ld c j rfl ?_;refine Y7 b a ?_;refine U7 ?_;refine ld c p rfl ?_;refine Q6 r ?_
  have t:U9 (cs.drop n)=(1+(cs[n].vals.length:Int))+U9 (cs.drop (n+1)):=by
   rw[List.drop_eq_getElem_cons a];simp only[U9,List.map_cons,List.sum_cons]
  have A:=C4 (cs.drop (n+1))
  have u:U9 (cs.take (n+1))=U9 (cs.take n)+(1+(cs[n].vals.length:Int)):=by
   rw[List.take_add_one,List.getElem?_eq_getElem a,Ja];simp[U9]
  refine Zm ⟨by omega,by omega⟩ ?_
  refine Wh ⟨by omega,by omega⟩ ?_
  refine C2 ?_;refine Z8 b.max a ⟨rfl,?_⟩
  congr 1;omega
 .have a: ¬n<cs.length:=by simpa using f
  rw[List.take_of_length_le Q5];exact h _ _ g)
theorem X5L {n:Q9} {j:Value} (g:X3 w σ) (e:Sl 8 M8 σ j l) (h:K (.bool (Za l n)) w):Q0 P F.bp [j,S n] w K:=Q05 (by
 unfold Oq J1 X8 X2;refine Xl g e ?_;refine T2 ?_;rw[Yw];unfold Za at h;cases b:lk l n with
 | none=>
  rw[b] at h;rw[Q3U b];simp only[Option.isSome_none,↓M1,M1,Mb,reduceIte];exact h
 | some c=>
  rw[b] at h;obtain ⟨_,_,i,o,f⟩:=N1 b;obtain ⟨a,d⟩:=List.getElem?_eq_some_iff.1 f;obtain ⟨p,m,q,k,_⟩:=e.elC a;rw[d] at k;rw[o];simp only[Option.isSome_some,E1,↓M1,M1,Mb,reduceIte];refine Y7 e a ?_
  (try simp only[↓M1,M1,Mb,reduceIte])
  refine ld g k rfl ?_
  (try simp only[↓M1,M1,Mb,reduceIte])
  exact h)
theorem X3d {r i:Int} (t:X3 w σ) (hh:E0 σ (l,room,cs) ds) (h: ∀w' σ',Stp w σ w' σ'->K (I (C9 cs r i)) w'):Q0 P F.aS [.agg ds.toArray,I r,I i] w K:=Q2h (by
 obtain ⟨A,y,rfl,z,c⟩:=E0.out hh;unfold Rc J1 X8 X4 X2 X1;refine Z6 t fun q w1 σ1 a p=>?_;have d:=a.sat;have k:=c.up a;refine Y9 ?_;unfold C9 at h
 have b:M4 cs r=false->K (I 92) w1:=fun e=>by
  have:=h _ _ a;rw[e] at this;exact this
 by_cases m:r<0
 .rw[decide_eq_true m]
  (try simp only[↓M1,M1,Mb,reduceIte])
  exact b (by simp only[M4,Bool.and_eq_false_iff,decide_eq_false_iff_not];left;omega)
 rw[decide_eq_false m]
 (try simp only[↓M1,M1,Mb,reduceIte])
 refine ld d p rfl ?_;refine Q6 k ?_;refine T2 ?_
 (try simp only[↓M1,M1,Mb,reduceIte])
 by_cases n:(cs.length:Int)<=r
 .rw[decide_eq_true n]
  refine Z1 ?_;exact b (by simp only[M4,Bool.and_eq_false_iff,decide_eq_false_iff_not];right;omega)
 rw[decide_eq_false n];refine Z0 ?_;have s:M4 cs r=true:=by simp only[M4,Bool.and_eq_true,decide_eq_true_eq];omega
 obtain ⟨j,rfl,g⟩:=W7.1 s;rw[s,L5 g] at h;obtain ⟨B,u,v,_⟩:=Sl.elO k g
 by_cases o:i<0
 .rw[decide_eq_true o]
  (try simp only[↓M1,M1,Mb,reduceIte])
  have:=h _ _ a;rw[if_pos rfl,if_neg Q5] at this;exact this
 .rw[decide_eq_false o]
  (try simp only[↓M1,M1,Mb,reduceIte])
  refine ld d p rfl ?_;refine Y7 k g ?_
  (try simp only[↓M1,M1,Mb,reduceIte])
  refine ld d u rfl ?_;refine Q6 v ?_;refine T2 ?_
  (try simp only[↓M1,M1,Mb,reduceIte])
  have f:=h _ _ a;refine Q4 (fun c=>?_) (fun c=>?_)
  .have c:(cs[j].vals.length:Int)<=i:=by simpa using c
   rw[if_pos rfl,if_neg Q5] at f;exact f
  .have c: ¬(cs[j].vals.length:Int)<=i:=by simpa using c
   rw[if_pos rfl,if_pos Q5] at f;exact f)
theorem Y0Z {r i:Int} (M:X3 w σ) (hh:E0 σ (l,room,cs) ds) (h: ∀w' σ',Stp w σ w' σ'->K (.tuple #[.agg [I (Lz cs r i).sort,I (Lz cs r i).n,S (Lz cs r i).s,I (Lz cs r i).ref].toArray,I (C9 cs r i)]) w'):Q0 P F.cp [.agg ds.toArray,I r,I i] w K:=Q4O (by
 have y:=hh;obtain ⟨W,U,rfl,V,L⟩:=E0.out hh;unfold Fo X6 J3 X2;refine Z6 M fun q w0 σ0 g C=>?_;refine E5 g.sat fun b w1 σ1 J a B=>?_;have t:=g.trans a;have hB:=C7 J g;have v:=C.up a;refine Z3 a.sat v rfl ?_;refine X3d a.sat (W0 y ⟨t.le⟩) fun Y Z c=>?_;have d:=t.trans c;have o:=c.sat;have u:=B.up c;have D:=v.up c;refine Lb ?_;unfold Lz at h
 by_cases p:C9 cs r i=0
 .have e:decide (C9 cs r i=0)=true:=decide_eq_true p
  rw[if_pos p,p] at h;simp only[e,Bool.not_true,↓M1,M1,Mb,reduceIte];obtain ⟨j,m,rfl,rfl,z,A⟩:=Ee p;rw[L5 z,Int.toNat_natCast] at h;have E:=L.up d;obtain ⟨X,N,H,_⟩:=Sl.elO E z;obtain ⟨O,Q⟩:=Sl.elV H A;refine ld o D rfl ?_;refine Y7 E z ?_
  (try simp only[↓M1,M1,Mb,reduceIte])
  refine ld o N rfl ?_;refine Y7 H A ?_;refine Z3 o O rfl ?_;refine Qz u d hB rfl rfl (Rep.one Q) fun R f k=>?_;refine M5 k rfl ?_;have e:cs[j].vals.getD m Val.zero=cs[j].vals[m]:=by rw[List.getD_eq_getElem?_getD,List.getElem?_eq_getElem A];rfl
  rw[e] at h;exact h _ _ f.stp
 .have e:decide (C9 cs r i=0)=false:=by simpa using p
  rw[if_neg p] at h;simp only[e,Bool.not_false,↓M1,M1,Mb,reduceIte];refine M9 (cells:= #[I 0,I 0,S [],I 0]) X7 ?_;refine Qz (ds:=[I 0,I 0,S [],I 0]) u d hB rfl rfl Ge fun R f k=>?_;refine M5 k rfl ?_;exact h _ _ f.stp)
theorem Y0d (s:X3 w σ) (hh:E0 σ (l,room,cs) ds) (ok:Ok l) (f:l.length<=1000) {k:Q9} {u:Value} {i:Nat} (p:k.length<=V4) (j:elem k=[]->i<(V0 l k).length)
 (h: ∀w' σ',Stp w σ w' σ'->K (S (Wz l k i)) w'):Q0 P F.c6 [.agg ds.toArray, .agg [S k,u].toArray,I i] w K:=Q3u (by
 obtain ⟨z,v,rfl,r,y⟩:=E0.out hh;unfold Ch X6 J9;refine Z6 s fun q0 w0 σ0 c m=>?_;refine Z6 c.sat fun q w1 σ1 a n=>?_;have b:=c.trans a;refine U7 ?_;refine ld (i:=0) a.sat n rfl ?_;refine Q6A k (Nat.le_trans p L7) ?_;refine Jb ?_;unfold Wz at h
 by_cases e:elem k=[]
 .simp only[if_pos e] at h
  rw[decide_eq_true e]
  (try simp only[↓M1,M1,Mb,reduceIte])
  refine ld (i:=0) a.sat (m.up a) rfl ?_;refine ld (i:=0) a.sat n rfl ?_;refine Iy a.sat (r.up b) ok.acy f ok.sm fun A B C d g=>?_;refine Y7 g (j e) ?_;obtain ⟨t,_⟩:=g.elF (j e)
  (try simp only[↓M1,M1,Mb,reduceIte])
  refine ld d.sat t rfl ?_;have o:(V0 l k).getD i Fld.zero=(V0 l k)[i]'(j e):=by rw[List.getD_eq_getElem?_getD,List.getElem?_eq_getElem (j e)];rfl
  rw[o] at h;exact h _ _ (b.trans d)
 .simp only[if_neg e] at h
  rw[decide_eq_false e]
  (try simp only[↓M1,M1,Mb,reduceIte])
  exact h _ _ b)
theorem Y0O {ok:Q9->Bool} {b d:Int} {c:Q9}:K5 ok cs ⟨0,b,c,d⟩=if b=0/\c=[]/\d=0 then I1 else []:=by
 simp[K5,Val.zero]
theorem Y0P {ok:Q9->Bool} {b d:Int} {c:Q9}:K5 ok cs ⟨1,b,c,d⟩=if c=[]/\d=0 then Zh else []:=by
 simp[K5,Val.zero]
theorem Y0Q {ok:Q9->Bool} {b d:Int} {c:Q9}:K5 ok cs ⟨2,b,c,d⟩=if (c=[]/\d=0)/\(b=0\/b=1) then Ww else []:=by
 simp[K5,Val.zero]
theorem Y0R {ok:Q9->Bool} {b d:Int} {c:Q9}:K5 ok cs ⟨3,b,c,d⟩=if (b=0/\d=0)/\ok c=true then B9 else []:=by
 simp[K5,Val.zero]
theorem Y0S {ok:Q9->Bool} {b d:Int} {c:Q9}:K5 ok cs ⟨4,b,c,d⟩=if b=0/\c=[] then O8 cs d else []:=by
 simp[K5,Val.zero]
theorem Y0T {ok:Q9->Bool} {a b d:Int} {c:Q9} (e:a≠0) (f:a≠1) (g:a≠2) (h:a≠3) (i:a≠4):K5 ok cs ⟨a,b,c,d⟩=[]:=by
 simp[K5,Val.zero,e,f,g,h,i]
set_option maxHeartbeats 2000000 in
theorem Y0b {v:Val} (hs:X3 w σ) (hh:E0 σ (l,room,cs) ds) (hb:v.s.length<=V4) (h: ∀w' σ',Stp w σ w' σ'->K (S (K5 V8 cs v)) w'):Q0 P F.bq [.agg ds.toArray, .agg [I v.sort,I v.n,S v.s,I v.ref].toArray] w K:=Q5J (by
 obtain ⟨lv,cv,rfl,hl,hc⟩:=E0.out hh;unfold Gu J1 X6 X8 X4 X2 J9 X1;refine Z6 hs fun q0 w0 σ0 L C=>?_;refine Z6 L.sat fun q w1 σ1 E t=>?_;have f:=L.trans E;have g:=E.sat;have C:=C.up E;have Z:=hc.up f
 have k: ∀{w2:World} {σ2:Q2} {x:Q9},Stp w σ w2 σ2->K5 V8 cs v=x->K (S x) w2:=fun hS e=>by
  have:=h _ _ hS;rw[e] at this;exact this
 obtain ⟨a,b,c,d⟩:=v;simp only at hb t;have M: ∀r,M4 cs r=false->O8 cs r=[]:=fun r e=>by unfold O8;rw[e];rfl
 refine U7 ?_;refine ld g t rfl ?_;refine E7 ?_
 have B: ∀{A:Value->World->Prop},(∀p:Bool,p=(decide (d=0)&&decide (c=[]))->A (.bool p) w1)->Q1 (.bool (decide (d=0))) true w1 (fieldAddr P T.f (.pointer (some q)) 2) (fun aa w=>
  Q1 (.bool (decide (d=0))) true w (Q7 P T.b aa) fun ab w=>
  Q1 (.bool (decide (d=0))) true w (Z2 P .eql T.b (.tmp 11) (.const (.string ⟨#[]⟩)) ab (.string ⟨#[]⟩)) fun ac w=>
  pick P (.bool (decide (d=0))) ac (.bool false) w A):=fun {A} hA=>by
  cases hd:decide (d=0) with
  | false=>(try simp only[↓M1,M1,Mb,reduceIte]);exact hA false (by simp[hd])
  | true=>
   (try simp only[↓M1,M1,Mb,reduceIte])
   refine ld g t rfl ?_
   (try simp only[↓M1,M1,Mb,reduceIte])
   exact hA _ (by simp[hd])
 refine B fun p hp=>?_;refine Qt (fun _ w'=>Stp w σ w' σ1/\K5 V8 cs ⟨a,b,c,d⟩=[]) ?_ (fun _ d' w' hz=>k hz.1 hz.2);refine U7 ?_;refine ld (i:=0) g t rfl ?_;refine E7 ?_;have z:(p=true)↔(c=[]/\d=0):=by rw[hp];simp[and_comm]
 have H:p=false-> ¬(c=[]/\d=0):=fun e h=>by rw[z.2 h] at e;cases e
 by_cases Q:a=0
 .subst Q
  rw[Y0O] at*;rw[decide_eq_true rfl];refine Z1 ?_;cases o:p with
  | false=>
   (try simp only[↓M1,M1,Mb,reduceIte])
   exact ⟨f,if_neg fun e=>H o e.2⟩
  | true=>
   have y:=z.1 o
   (try simp only[↓M1,M1,Mb,reduceIte])
   refine ld g t rfl ?_
   (try simp only[↓M1,M1,Mb,reduceIte])
   by_cases m:b=0
   .rw[decide_eq_true m]
    (try simp only[↓M1,M1,Mb,reduceIte])
    exact k f (if_pos ⟨m,y⟩)
   .rw[decide_eq_false m]
    (try simp only[↓M1,M1,Mb,reduceIte])
    exact ⟨f,if_neg fun e=>m e.1⟩
 rw[decide_eq_false Q];refine Z0 ?_;refine E7 ?_
 by_cases R:a=1
 .subst R
  rw[Y0P] at*;rw[decide_eq_true rfl];refine Z1 ?_;cases o:p with
  | false=>exact Z0 ⟨f,if_neg (H o)⟩
  | true=>exact Z1 (k f (if_pos (z.1 o)))
 rw[decide_eq_false R];refine Z0 ?_;refine E7 ?_
 by_cases U:a=2
 .subst U
  rw[Y0Q] at*;rw[decide_eq_true rfl];refine Z1 ?_;cases o:p with
  | false=>
   (try simp only[↓M1,M1,Mb,reduceIte])
   exact ⟨f,if_neg fun e=>H o e.1⟩
  | true=>
   have y:=z.1 o
   (try simp only[↓M1,M1,Mb,reduceIte])
   refine ld g t rfl ?_
   (try simp only[↓M1,M1,Mb,reduceIte])
   by_cases m:b=0
   .rw[decide_eq_true m]
    (try simp only[↓M1,M1,Mb,reduceIte])
    exact k f (if_pos ⟨y, .inl m⟩)
   .rw[decide_eq_false m]
    (try simp only[↓M1,M1,Mb,reduceIte])
    refine ld g t rfl ?_
    (try simp only[↓M1,M1,Mb,reduceIte])
    by_cases N:b=1
    .rw[decide_eq_true N]
     (try simp only[↓M1,M1,Mb,reduceIte])
     exact k f (if_pos ⟨y, .inr N⟩)
    .rw[decide_eq_false N]
     (try simp only[↓M1,M1,Mb,reduceIte])
     exact ⟨f,if_neg fun e=>e.2.elim m N⟩
 rw[decide_eq_false U];refine Z0 ?_;refine E7 ?_
 by_cases V:a=3
 .subst V
  rw[Y0R] at*;rw[decide_eq_true rfl];refine Z1 ?_;refine U7 ?_;refine ld g t rfl ?_;refine E7 ?_
  by_cases m:b=0
  case neg=>
   rw[decide_eq_false m]
   (try simp only[↓M1,M1,Mb,reduceIte])
   exact ⟨f,if_neg fun e=>m e.1.1⟩
  rw[decide_eq_true m]
  (try simp only[↓M1,M1,Mb,reduceIte])
  refine ld g t rfl ?_
  (try simp only[↓M1,M1,Mb,reduceIte])
  by_cases u:d=0
  case neg=>
   rw[decide_eq_false u]
   (try simp only[↓M1,M1,Mb,reduceIte])
   exact ⟨f,if_neg fun e=>u e.1.2⟩
  rw[decide_eq_true u]
  (try simp only[↓M1,M1,Mb,reduceIte])
  refine ld g t rfl ?_;refine Oy Z5 ?_;refine Q9U ?_
  by_cases D:c.length<=4096
  case neg=>
   rw[decide_eq_false (show¬(c.length:Int)<=4096 by omega)]
   (try simp only[↓M1,M1,Mb,reduceIte])
   exact ⟨f,if_neg fun e=>D (by have:=e.2;simp only[V8,Bool.and_eq_true,decide_eq_true_eq] at this;exact this.1)⟩
  rw[decide_eq_true (show (c.length:Int)<=4096 by omega)]
  (try simp only[↓M1,M1,Mb,reduceIte])
  refine ld g t rfl ?_;refine Q9l hb g fun w2 X=>?_;have J:=f.trans (Stp.of_below g X);cases hv:Lib.validD c with
  | true=>
   (try simp only[↓M1,M1,Mb,reduceIte])
   exact k J (if_pos ⟨⟨m,u⟩,by simp[V8,hv,D]⟩)
  | false=>
   (try simp only[↓M1,M1,Mb,reduceIte])
   exact ⟨J,if_neg fun e=>by have:=e.2;simp[V8,hv] at this⟩
 rw[decide_eq_false V];refine Z0 ?_;refine E7 ?_
 by_cases W:a=4
 case neg=>
  rw[decide_eq_false W];exact Z0 ⟨f,Y0T Q R U V W⟩
 subst W;rw[Y0S] at*;rw[decide_eq_true rfl];refine Z1 ?_;refine U7 ?_;refine ld g t rfl ?_;refine E7 ?_
 by_cases m:b=0
 case neg=>
  rw[decide_eq_false m]
  (try simp only[↓M1,M1,Mb,reduceIte])
  exact ⟨f,if_neg fun e=>m e.1⟩
 rw[decide_eq_true m]
 (try simp only[↓M1,M1,Mb,reduceIte])
 refine ld g t rfl ?_
 (try simp only[↓M1,M1,Mb,reduceIte])
 by_cases D:c=[]
 case neg=>
  rw[decide_eq_false D]
  (try simp only[↓M1,M1,Mb,reduceIte])
  exact ⟨f,if_neg fun e=>D e.2⟩
 rw[decide_eq_true D]
 (try simp only[↓M1,M1,Mb,reduceIte])
 refine ld g t rfl ?_;refine T2 ?_;rw[if_pos ⟨m,D⟩] at*
 by_cases u:0<=d
 case neg=>
  rw[decide_eq_false u]
  (try simp only[↓M1,M1,Mb,reduceIte])
  exact ⟨f,M d (by simp[M4,u])⟩
 rw[decide_eq_true u]
 (try simp only[↓M1,M1,Mb,reduceIte])
 refine ld g t rfl ?_;refine ld g C rfl ?_;refine Q6 Z ?_;refine Y9 ?_
 (try simp only[↓M1,M1,Mb,reduceIte])
 by_cases O:d<(cs.length:Int)
 case neg=>
  rw[decide_eq_false O];exact Z0 ⟨f,M d (by simp[M4,O])⟩
 rw[decide_eq_true O];refine Z1 ?_;obtain ⟨j,rfl,Y⟩:=W7.1 (show M4 cs d=true by simp[M4,u,O])
 obtain ⟨vv,p1,p2,_⟩:=Sl.elO Z Y;refine ld g C rfl ?_;refine ld g t rfl ?_;refine Y7 Z Y ?_
 (try simp only[↓M1,M1,Mb,reduceIte])
 refine ld g p1 rfl ?_;exact k f (Qu Y))
end Go.Proofs.Y
namespace Go.Emb
open Go.RowKit Go.Hm
variable {α : Type} {P : Program} {R R' : Q2 -> α -> List Value -> Prop} {sz : Nat} {e : TypeId} {σ σ0 σ' : Q2} {v u : Value} {xs ys : List α} {w w0 w' : World} {K : Value -> World -> Prop}
theorem X6l {t A:TypeId} {o:Nat} {z:Value} {cs:List Bool} [ts:TS P t e] [tz:TZ P e sz o z] [hr:Rep R] [hr':Rep R'] (C:Stp w0 σ0 w σ) (ha:W4 w0.heap.size e sz R σ w v xs) (L:X3 w σ') (V:Sl sz R' σ' u ys) (hR: ∀x cs,R' σ' x cs->R σ x cs) (N:(z.cells.size==sz&&decide (0<sz))=true)
 (hb:(xs.length+ys.length)*o<=140737488355328) (hm:xs.length+ys.length<=9223372036854775807)
 (h: ∀d w',w.grownBy w' v.ownBlock->Stp w0 σ0 w' σ->W4 w0.heap.size e sz R σ w' d (xs++ys)->(d.ownBlock=v.ownBlock\/ ∀k,d.ownBlock=some k->w.heap.size<=k)->K d w'):U4 P .append [t,t] A cs [v,u] w K:=by
 obtain ⟨cells,s,Q,h3⟩:=ha;obtain ⟨a,f,news,rfl,W,X,n3,n4,n5⟩:=V.cells L;obtain ⟨i,H,M,D,r⟩:=tz.info
 have p: ∀d w',(Builtin.append_ #[t,t] A #[v, .slice a ys.length f]).run P w= .ok d w'->w'.ownsRow w0.heap.size e sz d (xs.length+ys.length) (cells++news)->w.grownBy w' v.ownBlock->(d.ownBlock=v.ownBlock\/d.ownBlock=some w.heap.size)->U4 P .append [t,t] A cs [v, .slice a ys.length f] w K:=by
  intro d w' y c m hat
  have q:(builtin .append #[t,t] A cs.toArray #[v, .slice a ys.length f]).run P w= .ok (.value d) w':=by
   simp[builtin,y]
  unfold U4;rw[Zf];unfold Yp;rw[q];refine h d w' m (Stp.turn m C fun k n=>⟨(s.lt k n).1,Q k n⟩) ⟨cells++news,by rw[List.length_append];exact c,?_,?_⟩ ?_
  .intro k n
   rcases hat with hat | hat
   .exact Q k (hat▸n)
   .rw[hat] at n;cases n;exact C.sat.none (Nat.le_refl _)
  .intro j x B
   by_cases U:j<xs.length
   .rw[List.getElem?_append_left U] at B
    rw[Di cells news xs.length j s.1 U];exact h3 j x B
   .rw[List.getElem?_append_right Q5] at B
    have:=hR _ _ (n5 _ _ B);rw[show j*sz=cells.length+(j-xs.length)*sz by rw[s.1,<-Nat.add_mul];congr 1;omega,List.drop_append]
    simpa [List.drop_eq_nil_of_le] using this
  .rcases hat with hat | hat
   .exact .inl hat
   .right;intro k n;rw[hat] at n;cases n;exact Nat.le_refl _
 simp only[Bool.and_eq_true,beq_iff_eq,decide_eq_true_eq] at N;cases a with
 | some b=>
  obtain ⟨d,w',g1,g2,g3,_,g5⟩:=run_append_own_at (P:=P) w w0.heap.size t A e i z sz o ts.h H r M D N.1 N.2 v xs.length cells s b ys.length f news X (n3 b rfl) n4 (by simp only[maxLen];omega) hb C.bel.size
  exact p d w' g1 g2 g3 g5
 | none=>
  have hy:ys=[]:=List.eq_nil_of_length_eq_zero (by obtain ⟨a',O,Z,q1,_,q3,_⟩:=V;injection Z with _ e2 e3;have:=W rfl;subst e3;omega)
  have E:=W rfl;subst hy E;have hn:news=[]:=List.eq_nil_of_length_eq_zero (by simpa using X)
  subst hn;have c:=s
  rcases s.2 with ⟨rfl,h0⟩ | ⟨g,f,Y,rfl,aj,hg,J,_⟩
  .refine p (.slice none 0 0) w ?_ (by simpa using c) (World.grownBy.refl w _) (.inl rfl)
   simp[Builtin.append_,run_underlying ts.h,sizeOf,typeInfo,H,Builtin.lenOf,Builtin.firstCells]
  .refine p _ w ?_ (by simpa using c) (World.grownBy.refl w _) (.inl rfl)
   simp[Builtin.append_,run_underlying ts.h,sizeOf,typeInfo,H,Builtin.lenOf,Builtin.firstCells,J,storeCells]
def Q9Y {α:Type} (c:α) (ds:List Value) (_:Q2) (x:α) (cs:List Value):Prop:=x=c/\cs=ds/\ ∀u∈ds,u.oneCell'=true
instance {α:Type} (c:α) (ds:List Value):Rep (Q9Y c ds):=⟨fun _ h=>h,fun h u hu=>h.2.2 u (h.2.1▸hu)⟩
end Go.Emb
namespace Go.Proofs.Y
open Go.Emb Go.RowKit Go.Kd Go.Hm
variable {w w' : World} {K : Value -> World -> Prop} {σ σ' : Q2} {ds : List Value} {room : Int} {cs : List Cel} {l : List Cla}
theorem X2g {b:Value} (d:Sl 2 Xt σ b cs) (r:Int):(O8 cs r).length<=V4:=by
 unfold O8
 split
 .rename_i c
  obtain ⟨i,rfl,a⟩:=W7.1 c;rw[L5 a];exact (Sl.elO d a).choose_spec.2.2
 .exact Nat.zero_le _
theorem X6X {a:Value} (b:Sl 2 Xt σ a cs) (v:Val):(K5 V8 cs v).length<=V4:=by
 unfold K5
 split
 .decide
 split
 .decide
 split
 .decide
 split
 .decide
 split
 .exact X2g b _
 .exact Nat.zero_le _
theorem Y0a {v:Val} {k:Q9} (D:X3 w σ) (hh:E0 σ (Q3 l,room,cs) ds) (H:Wf l) (ok:Ok (Q3 l)) (j:(Q3 l).length<=1000) (y:v.s.length<=V4) (A:k.length<=V4) (h: ∀w' σ',Stp w σ w' σ'->K (.bool (P1 V8 (Q3 l) cs v k)) w'):Q0 P F.c5 [.agg ds.toArray, .agg [I v.sort,I v.n,S v.s,I v.ref].toArray,S k] w K:=Q3r (by
 have o:=hh;obtain ⟨L,J,rfl,B,z⟩:=E0.out hh;unfold Ce J1 X8 J9;refine Z6 D fun q0 w0 σ0 g t=>?_;refine Z6 g.sat fun q w1 σ1 c C=>?_;have f:=g.trans c;have d:=c.sat;have m:=t.up c;refine Z3 d m rfl ?_;refine Z3 d C rfl ?_;refine Y0b d (W0 o ⟨f.le⟩) y fun M O a=>?_;have b:=f.trans a;refine Jb ?_;unfold P1 at h;have r:=X6X z v;generalize K5 V8 cs v=E at*
 by_cases e:E=[]
 .rw[decide_eq_true e] at h⊢
  (try simp only[↓M1,M1,Mb,reduceIte])
  exact h _ _ b
 .rw[decide_eq_false e] at h⊢
  (try simp only[↓M1,M1,Mb,reduceIte])
  refine ld (i:=0) a.sat (m.up a) rfl ?_;refine X8X a.sat (B.up b) H ok j r A fun N Q p=>?_
  (try simp only[↓M1,M1,Mb,reduceIte])
  exact h _ _ (b.trans p))
theorem Im {m a:Nat} {c b:Value} {e:Int} {zs:List Value} {w1:World} {σ1:Q2} (o:Stp w σ w1 σ1) (g:Z7 σ1 w1 m [c,I room,b]) (j:Z7 σ1 w1 a zs) (p:zs.length=3) (d:w.heap.size<=a) (n:E0 σ1 (l,room,cs) [c,I room,b]) (h: ∀w' σ',Stp w σ w' σ'->E0 σ' (l,room,cs) [c,I room,b]->K (.tuple #[.agg [c,I room,b].toArray,I e]) w'):
 Q7 P T.a (.pointer (some ⟨m,0,none⟩)) w1 fun k w=>
 U8 P T.a (.pointer (some ⟨a,0,none⟩)) k w fun _u w=>
 J4 P T.a (.pointer (some ⟨a,0,none⟩)) w fun q=>
 K (.tuple #[q,(.int .i64 e)]) w:=
 Gi g rfl (Qz j o d p rfl (Rep.one n) fun r f i=>M5 i rfl (h r σ1 f.stp n))
set_option maxHeartbeats 1000000 in
theorem X5O {p H b7:Nat} {X cv x:Value} {k:Q9} {vals:List Val} {zs:List Value} {w1:World} {σ1:Q2} (hS:Stp w σ w1 σ1) (L:Z7 σ1 w1 p [X,I room,cv]) (ag:Z7 σ1 w1 H zs) (a5:Z7 σ1 w1 b7 [S k,x]) (hz:zs.length=3) (aw:w.heap.size<=p) (ax:w.heap.size<=H) (ac:p≠H) (hl:Sl 8 M8 σ1 X l) (hc:Sl 2 Xt σ1 cv cs) (hx:Sl 4 O6 σ1 x vals) (hk:k.length<=V4) (bn:cs.length<=10000000)
 (h: ∀Z w' σ',Stp w σ w' σ'->E0 σ' (l,room,cs++[⟨k,vals⟩]) [X,I room,Z]->K (.tuple #[.agg [X,I room,Z].toArray,I 0]) w'):
 dr w1 fun m E=>
 V2 m (fun s=> ∀w,E w->fieldAddr P T.a (.pointer (some ⟨p,0,none⟩)) 2 w (dk m s w)) fun s=>
 V2 m (fun r=> ∀w,E w->buildSlice P T.g 0 [] w (dk m r w)) fun r=>
 V2 m (fun t=> ∀f w,E w->s f w->Q7 P T.g f w (dk m t w)) fun t=>
 V2 m (fun U=> ∀d g w,E w->r d w->t g w->U4 P .append [T.g,T.g] T.g [false,false] [d,g] w (dk m U w)) fun U=>
 V2 m (fun z=> ∀w,E w->Q7 P T.p (.pointer (some ⟨b7,0,none⟩)) w (dk m z w)) fun z=>
 V2 m (fun W=> ∀i w,E w->z i w->buildSlice P T.g 1 [(0,i)] w (dk m W w)) fun W=>
 ∀f d g O i Q w,E w->s f w->r d w->t g w->U O w->z i w->W Q w->
 U4 P .append [T.g,T.g] T.g [false,false] [O,Q] w fun ba w=>
 fieldAddr P T.a (.pointer (some ⟨p,0,none⟩)) 2 w fun bb w=>
 U8 P T.g bb ba w fun _u w=>
 Q7 P T.a (.pointer (some ⟨p,0,none⟩)) w fun bc w=>
 U8 P T.a (.pointer (some ⟨H,0,none⟩)) bc w fun _u w=>
 J4 P T.a (.pointer (some ⟨H,0,none⟩)) w fun r0=>
 K (.tuple #[r0,(.int .i64 0)]) w:=by
 have a8:=hS.sat;have aj:Xt σ1 ⟨k,vals⟩ [S k,x]:=⟨x,rfl,hx,hk⟩;have br:x.cells= #[x]:=by obtain ⟨a,c,rfl,_⟩:=hx;rfl
 have a6: ∀{w':World} {K:Value->World->Prop},Hst w1 σ1 w' σ1->K cv w'->Q7 P T.g (.pointer (some ((⟨p,0,none⟩:Addr).add 2))) w' K:=fun N hK=>Yj (L.up N.stp) rfl hK;have a7: ∀{w':World} {K:Value->World->Prop},Hst w1 σ1 w' σ1->K (.agg [S k,x].toArray) w'->Q7 P T.p (.pointer (some ⟨b7,0,none⟩)) w' K:=fun N hK=>Gi (a5.up N.stp) rfl hK;refine V3 a8 ?_
 (repeat refine Y3 Vq ?_)
 refine Q11 (R:=Xt) L7 ?_;refine Y3 (V:=cv) (fun f w n e=>?_) ?_
 .subst e;exact a6 n (X9 rfl)
 refine Q0f (w:=w1) (σ:=σ1) (R:=Xt) (sz:=2) (e:=T.p) cs (fun d g w n aq ar=>?_) ?_
 .obtain ⟨k1,a1,e1⟩:=aq
  subst ar;exact X6c k1 a1 e1 (hc.up n.stp) rfl Q5 Q5 fun v' w' hk ha=>Q3O n hk ha
 refine Y3 (V:= .agg [S k,x].toArray) (fun w n=>?_) ?_
 .exact a7 n (X9 rfl)
 refine Zq (w:=w1) (σ:=σ1) (Φ:=fun σ' v=>Sl 2 (Q9Y (⟨k,vals⟩:Cel) [S k,x]) σ' v [⟨k,vals⟩]) (fun i w n e=>?_) ?_
 .subst e
  refine C1 (R:=Q9Y (⟨k,vals⟩:Cel) [S k,x]) (sz:=2) n.sat [.agg [S k,x].toArray] [⟨k,vals⟩] rfl rfl (by simp[Value.cells]) rfl ⟨⟨rfl,rfl,Rep.one (R:=Xt) aj⟩,trivial⟩ fun v w2 σ2 a4 a9=>Er n a4 a9
 rintro f d g O i Q w2 bl rfl _ rfl ⟨av,ao⟩ rfl ⟨σ3,k3,s3⟩;refine X6l av ao k3.sat s3 (fun y ds hy=>by obtain ⟨rfl,rfl,_⟩:=hy;exact aj) rfl (by simp;omega) (by simp;omega) fun v3 w3 bo a2 J _=>?_
 have hN:Stp w1 σ1 w3 σ1:=a2;have A:=L.up hN;have ah:=ag.up hN;have ak:=Lf J;refine U7 ?_;refine Vy A V5 ak.1 ak.2 fun Y u4 B=>?_;have ae:=L.lt;have ab:W4 w1.heap.size T.p 2 Xt σ1 Y v3 (cs++[⟨k,vals⟩]):=J.kp (D:=fun j=>j=p) (.of_upd u4 rfl) fun j hj e=>by have:=(J.mem j hj).1;omega
 have C:=ah.upd u4 (fun e=>ac e.symm);have q:Stp w σ Y σ1:=u4.stp (hS.trans hN) aw A.1;have aa:X3 Y σ1:=q.sat;obtain ⟨σ5,s5,l5,f5,o5⟩:=(J7.of_acc ab).freeze aa;have M: ∀j,j<w1.heap.size->σ5 j=σ1 j:=fun j hj=>o5 j fun e=>by have:=(ab.mem j e.symm).1;omega
 have af:Z7 σ5 Y p [X,I room,v3]:=⟨(M p ae).trans B.1,B.2⟩;have ai:Z7 σ5 Y H zs:=⟨(M H ag.lt).trans C.1,C.2⟩;have a3:Stp w σ Y σ5:=⟨q.bel,s5,fun b o e=>l5.le b o (q.le b o e),fun b n=>(M b (Nat.lt_of_lt_of_le n hS.bel.size)).trans (q.old b n)⟩;exact Im a3 af ai hz ax ⟨X,v3,rfl,hl.lift l5,f5⟩ fun w' σ' hk hr=>h v3 w' σ' hk hr
set_option maxRecDepth 9999 in
set_option maxHeartbeats 1000000 in
theorem X79 {k:Q9} (hs:X3 w σ) (hh:E0 σ (l,room,cs) ds) (ok:Ok l) (hlen:l.length<=1000) (hk:k.length<=V4) (h0:0<=D9 room cs) (h1:room<=1048576)
 (h: ∀ds' w' σ',Stp w σ w' σ'->E0 σ' (l,room,(Vf l room cs k).1) ds'->K (.tuple #[.agg ds'.toArray,I (Vf l room cs k).2]) w'):Q0 P F.bA [.agg ds.toArray,S k] w K:=Q0H (by
 have hcl:=Xs cs;obtain ⟨lv,cv,rfl,hl,hc⟩:=E0.out hh;unfold Ea;simp only[Y5,X5,N2,L9];unfold X6 V1 X4 X1;refine Sc hs fun b0 w1 σ1 hb0 hk1 hm0=>?_;refine E5 hk1.sat fun b4 w2 σ2 hb4 hk2 hm4=>?_;have hS2:=hk1.trans hk2;have hB4:=C7 hb4 hk1;have hb04:b0≠b4:=by have:=hm0.lt;omega
 have hm02:=hm0.up hk2;have hl2:=hl.up hS2;have hh2:=W0 hh ⟨hS2.le⟩;unfold D9 at h0;refine U7 ?_;refine Yj (i:=0) hm02 rfl ?_;refine X5L hk2.sat hl2 ?_;refine Nj ?_;unfold Vf at h;cases ho:Za l k with
 | false=>
  rw[ho] at h;simp only[if_pos] at h;refine Z1 ?_;exact Im hS2 hm02 hm4 rfl hB4 hh2 fun w' σ' hk hr=>h _ w' σ' hk hr
 | true=>
  rw[ho] at h;simp only[Bool.true_eq_false,if_false] at h;refine Z0 ?_;refine U7 ?_;refine Yj (i:=0) hm02 rfl ?_;refine Iy hk2.sat hl2 ok.acy hlen ok.sm fun fv w3 σ3 hk3 hf=>?_;have hS3:=hS2.trans hk3;have hfl:=hf.max;have hfl2:=Q3R ok.sm ok.len k;refine Q6 hf ?_;refine Zm ⟨by omega,by omega⟩ ?_
  refine Gi (hm02.up hk3) rfl ?_;refine X5K hk3.sat (W0 hh2 ⟨hk3.le⟩) (by unfold D9;exact h0) h1 fun w4 σ4 hk4=>?_
  have hk34:=hk3.trans hk4;have hS4:=hS3.trans hk4;have hm04:=hm02.up hk34;have hm44:=hm4.up hk34;have hh4:=W0 hh2 ⟨hk34.le⟩;have hf4:=hf.up hk4;rw[Kc]
  by_cases hg:D9 room cs<1+((V0 l k).length:Int)
  .rw[if_pos hg] at h
   have e:decide (1+((V0 l k).length:Int)>D9 room cs)=true:=decide_eq_true hg;rw[e];refine Z1 ?_;exact Im hS4 hm04 hm44 rfl hB4 hh4 fun w' σ' hk hr=>h _ w' σ' hk hr
  rw[if_neg hg] at h;have e:decide (1+((V0 l k).length:Int)>D9 room cs)=false:=decide_eq_false hg;rw[e];refine Z0 ?_;unfold D9 at hg;refine M9 (cells:= #[S k, .slice none 0 0]) X7 ?_;refine E5 hk4.sat fun b7 w5 σ5 hb7 hk5 hm7=>?_;have hS5:=hS4.trans hk5;have hB7:=C7 hb7 hS4;refine Ms (ds:=[S k, .slice none 0 0]) hm7 rfl rfl (by rw[List.all_toArray];rfl) fun w6 u6 hm76=>?_
  have hS6:=u6.stp hS5 hB7 hm7.1;have hb07:b0≠b7:=by have:=hm04.lt;omega
  have hb47:b4≠b7:=by have:=hm44.lt;omega
  have hm06:=(hm04.up hk5).upd u6 hb07;have hm46:=(hm44.up hk5).upd u6 hb47;have hf6:=(hf4.up hk5);have hc6:Sl 2 Xt σ5 cv cs:=hc.up hS5;have hl6:Sl 8 M8 σ5 lv l:=hl.up hS5
  refine V7 (V0 l k).length (fun n w'=> ∃σ' x,Stp w σ w' σ'/\SLe σ5 σ'/\Z7 σ' w' b0 [lv,I room,cv]/\Z7 σ' w' b4 _/\Z7 σ' w' b7 [S k,x]/\W4 w.heap.size T.f 4 O6 σ' w' x (((V0 l k).take n).map fun f=>R9 f.kind)/\x.ownBlock≠some b0/\x.ownBlock≠some b4/\x.ownBlock≠some b7)
   ⟨σ5, .slice none 0 0,hS6,SLe.refl _,hm06,hm46,hm76,W4.nil,by simp[Value.ownBlock],by simp[Value.ownBlock],by simp[Value.ownBlock]⟩ fun n w7 d hn hinv=>?_
  obtain ⟨σ7,x,hS7,le7,hm07,hm47,hm77,ha7,hx0,hx4,hx7⟩:=hinv;have hf7:=hf6.lift le7;have hs7:=hS7.sat;refine Q6 hf7 ?_;refine Y9 ?_;refine Q4 (fun hcc=>?_) (fun hcc=>?_)
  .have hn':n<(V0 l k).length:=by simpa using hcc
   obtain ⟨p1,r1⟩:=hf7.elF hn';have hrd: ∀{w':World} {K:Value->World->Prop},Hst w7 σ7 w' σ7->K x w'->Q7 P T.l (.pointer (some ((⟨b7,0,none⟩:Addr).add 1))) w' K:=fun hst hK=>Yj (hm77.up hst.stp) rfl hK;refine V3 hs7 ?_
   (repeat (apply Y3;(· intros;(repeat (rename_i hx;subst hx));(repeat' (first | (with_reducible exact X9 rfl) | (with_reducible exact F7 (Stp.bel (by (repeat (first | exact Stp.refl (by (first | assumption | exact Stp.sat Q8 | exact Hst.sat Q8)) | assumption | refine Stp.trans ?_ (by first | assumption | exact Hst.stp Q8))))) rfl) | (with_reducible intro _) | (simp only[↓M2,M2,Mb,reduceIte]) | (with_reducible refine hrd au ?_) | (with_reducible show Q7 _ _ _ _ _;first | refine Y6 aS aL aR ?_ | refine Z3 aS aL aR ?_ | refine ld aS aL aR ?_) | (with_reducible show indexAddr _ _ _ _ _ _;refine Y7 aL au ?_) | (with_reducible show U4 _ _ _ _ _ _ _ _;refine Q6 aL ?_) | (with_reducible show Xv _ _ _ _ _ _;refine W3 aR ?_) | (with_reducible show pick _ _ _ _ _ _;refine F6 ?_) | (with_reducible show Q0 _ _ _ _ _;first | refine X5M au ?_) | (apply Zv;intro hh;(try simp only[hh,reduceIte,↓M2,M2,Mb,reduceIte]))));done)))
   refine Zq (w:=w7) (σ:=σ7) (Φ:=fun σ' v=>Sl 4 O6 σ' v [R9 (V0 l k)[n].kind]) (fun t41 w hb e=>?_) ?_
   .subst e
    exact C1 (R:=O6) (sz:=4) hb.sat [_] [R9 (V0 l k)[n].kind] rfl rfl (by simp[Value.cells]) rfl ⟨Q0T _,trivial⟩ fun v w2 σ2 hk2 hv2=>Er hb hk2 hv2
   rintro t34 t38 t39 t35 t40 t41 t42 w8 hb8 rfl rfl rfl rfl rfl rfl ⟨σ8,hk8,s8⟩;refine X6l (w0:=w) (hS7.trans hb8.stp) (ha7.up hb8.stp) hk8.sat s8 (fun y ds hy=>hy) rfl (by simp;omega) (by simp;omega) fun x9 w9 hg9 hS9 ha9 hat9=>?_
   have hm08:=(hm07.up hb8.stp).turn hg9 fun e=>hx0 e.symm;have hm48:=(hm47.up hb8.stp).turn hg9 fun e=>hx4 e.symm;have hm78:=(hm77.up hb8.stp).turn hg9 fun e=>hx7 e.symm;have hsz:=hb8.stp.bel.size
   have hnew: ∀b,b<w7.heap.size->x.ownBlock≠some b->x9.ownBlock≠some b:=fun b hb hxb e=>by
    rcases hat9 with e2 | e2
    .exact hxb (e2▸e)
    .have:=e2 b e;omega
   have hsh:=Lf ha9;refine U7 ?_;refine Vy hm78 V5 hsh.1 hsh.2 fun w10 u10 hm710=>?_;refine C2 ?_;have hx97:=hnew b7 hm77.lt hx7;refine Z4 hfl hn' ⟨σ7,x9,u10.stp hS9 hB7 hm78.1,le7,hm08.upd u10 hb07,hm48.upd u10 hb47,hm710,?_,hnew b0 hm07.lt hx0,hnew b4 hm47.lt hx4,hx97⟩;have:=ha9.kp (D:=fun j=>j=b7) (.of_upd u10 rfl) fun j hj e=>hx97 (e▸hj);rw[List.take_add_one,List.getElem?_eq_getElem hn',List.map_append];exact this
  .have hn': ¬n<(V0 l k).length:=by simpa using hcc
   rw[List.take_of_length_le Q5] at ha7;obtain ⟨σ9,hS9,hx9,le9,o9⟩:=ha7.keep hS7;have mk: ∀{b:Nat} {zs:List Value},Z7 σ7 w7 b zs->x.ownBlock≠some b->Z7 σ9 w7 b zs:=fun hm hne=>⟨(o9 _ fun e=>hne e.symm).trans hm.1,hm.2⟩;have le59:SLe σ5 σ9:=le7.more ⟨le9⟩;refine X5O hS9 (mk hm07 hx0) (mk hm47 hx4) (mk hm77 hx7) rfl hb0 hB4 hb04 (hl6.lift le59) (hc6.lift le59) hx9 hk Q5 fun cv' w' σ' hk' hr=>h _ w' σ' hk' hr)
set_option maxRecDepth 9999 in
set_option maxHeartbeats 1000000 in
theorem X8R {k:Q9} {n:Int} (hs:X3 w σ) (hh:E0 σ (l,room,cs) ds) (hk:k.length<=V4) (h0:0<=D9 room cs) (h1:room<=1048576)
 (h: ∀ds' w' σ',Stp w σ w' σ'->E0 σ' (l,room,(Lg l room cs k n).1) ds'->K (.tuple #[.agg ds'.toArray,I (Lg l room cs k n).2]) w'):Q0 P F.bT [.agg ds.toArray,S k,I n] w K:=Q2g (by
 have hcl:=Xs cs;have htn:=C4 cs;obtain ⟨lv,cv,rfl,hl,hc⟩:=E0.out hh;unfold Rb;simp only[Y5,X5,N2,L9];unfold J1 X8 X2 J9 X1;refine Sc hs fun b0 w1 σ1 hb0 hk1 hm0=>?_;refine E5 hk1.sat fun b4 w2 σ2 hb4 hk2 hm4=>?_;have hS2:=hk1.trans hk2;have hB4:=C7 hb4 hk1;have hb04:b0≠b4:=by have:=hm0.lt;omega
 have hm02:=hm0.up hk2;have hl2:=hl.up hS2;have hh2:=W0 hh ⟨hS2.le⟩;unfold D9 at h0;unfold Lg at h
 have hbad:Qm l k=false->Q7 P T.a (.pointer (some ⟨b0,0,none⟩)) w2 fun t14 w=>
  U8 P T.a (.pointer (some ⟨b4,0,none⟩)) t14 w fun _u w=>
  J4 P T.a (.pointer (some ⟨b4,0,none⟩)) w fun r0=>
  K (.tuple #[r0,(.int .i64 91)]) w:=fun ho=>by
  rw[ho] at h;simp only[if_pos] at h;exact Im hS2 hm02 hm4 rfl hB4 hh2 fun w' σ' hk hr=>h _ w' σ' hk hr
 refine K2 ?_
 by_cases hnull:k=I1
 .rw[show decide (k=[110,117,108,108])=true from decide_eq_true hnull]
  (try simp only[G3,G8,Qs,H0,C3,C8,F5,F3,I5,Bool.not_true,Bool.not_false])
  exact hbad (by simp[Qm,hnull])
 rw[show decide (k=[110,117,108,108])=false from decide_eq_false hnull]
 (try simp only[G3,G8,Qs,H0,C3,C8,F5,F3,I5,Bool.not_true,Bool.not_false])
 refine U7 ?_;refine Yj (i:=0) hm02 rfl ?_;refine Bc hk2.sat hl2 hk ?_;refine Nj ?_;cases hkm:H7 l k with
 | false=>
  (try simp only[G3,G8,Qs,H0,C3,C8,F5,F3,I5,Bool.not_true,Bool.not_false])
  exact hbad (by simp[Qm,hkm])
 | true=>
  (try simp only[G3,G8,Qs,H0,C3,C8,F5,F3,I5,Bool.not_true,Bool.not_false])
  refine Pt k (Nat.le_trans hk L7) ?_
  have hr:right k=true:=by
   have:=hkm;simp only[H7,Bool.or_eq_true,Bool.and_eq_true,decide_eq_true_eq] at this
   rcases this with h1 | h1
   .exact absurd h1 hnull
   .exact h1.1
  have hdp:Jx k=(base k).2:=by unfold Jx;rw[if_pos hr]
  have hel:Qm l k=decide ((base k).2<=2):=by
   unfold Qm;rw[hkm,decide_eq_false hnull,hdp];rfl
  refine Vo ?_
  by_cases hd2:(2:Int)<((base k).2:Int)
  .rw[decide_eq_true hd2]
   refine Z1 ?_;exact hbad (by rw[hel,decide_eq_false_iff_not];omega)
  rw[decide_eq_false hd2];refine Z0 ?_;have ho:Qm l k=true:=by rw[hel,decide_eq_true_eq];omega
  rw[ho] at h;simp only[Bool.true_eq_false,if_false] at h;refine Y9 ?_
  by_cases hn0:n<0
  .rw[if_pos hn0] at h
   rw[decide_eq_true hn0];refine Z1 ?_;exact Im hS2 hm02 hm4 rfl hB4 hh2 fun w' σ' hk hr=>h _ w' σ' hk hr
  rw[if_neg hn0] at h;rw[decide_eq_false hn0];refine Z0 ?_;refine Vo ?_
  have hbad2: ∀{w3 σ3},Stp w2 σ2 w3 σ3->D9 room cs<=n->Q7 P T.a (.pointer (some ⟨b0,0,none⟩)) w3 fun t14 w=>
   U8 P T.a (.pointer (some ⟨b4,0,none⟩)) t14 w fun _u w=>
   J4 P T.a (.pointer (some ⟨b4,0,none⟩)) w fun r0=>
   K (.tuple #[r0,(.int .i64 90)]) w:=fun {w3 σ3} hS hle=>by
   rw[if_pos hle] at h;exact Im (hS2.trans hS) (hm02.up hS) (hm4.up hS) rfl hB4 (W0 hh2 ⟨hS.le⟩) fun w' σ' hk hr=>h _ w' σ' hk hr
  by_cases hbig:(1048576:Int)<n
  .rw[decide_eq_true hbig]
   (try simp only[G3,G8,Qs,H0,C3,C8,F5,F3,I5,Bool.not_true,Bool.not_false])
   exact hbad2 (Stp.refl hk2.sat) (by unfold D9;omega)
  rw[decide_eq_false hbig]
  (try simp only[G3,G8,Qs,H0,C3,C8,F5,F3,I5,Bool.not_true,Bool.not_false])
  refine Zm ⟨by omega,by omega⟩ ?_
  refine Gi hm02 rfl ?_;refine X5K hk2.sat hh2 (by unfold D9;exact h0) h1 fun w4 σ4 hk4=>?_
  rw[Kc]
  by_cases hg:D9 room cs<=n
  .rw[show decide (1+n>D9 room cs)=true from decide_eq_true Q5]
   refine Z1 ?_;exact hbad2 hk4 hg
  rw[if_neg hg] at h;rw[show decide (1+n>D9 room cs)=false from decide_eq_false Q5]
  refine Z0 ?_;have hS4:=hS2.trans hk4;have hm04:=hm02.up hk4;have hm44:=hm4.up hk4;obtain ⟨m,rfl⟩:=Int.eq_ofNat_of_zero_le (Int.not_lt.1 hn0);rw[Int.toNat_natCast] at h;unfold D9 at hg;have hr38:=Q0J hr;refine H4 (by simp only[List.length_cons,List.length_nil];omega) ?_
  refine M9 (cells:= #[S (k++[91,93]), .slice none 0 0]) X7 ?_;refine E5 hk4.sat fun b7 w5 σ5 hb7 hk5 hm7=>?_;have hS5:=hS4.trans hk5;have hB7:=C7 hb7 hS4;refine Ms (ds:=[S (k++[91,93]), .slice none 0 0]) hm7 rfl rfl (by rw[List.all_toArray];rfl) fun w6 u6 hm76=>?_
  have hS6:=u6.stp hS5 hB7 hm7.1;have hb07:b0≠b7:=by have:=hm04.lt;omega
  have hb47:b4≠b7:=by have:=hm44.lt;omega
  have hm06:=(hm04.up hk5).upd u6 hb07;have hm46:=(hm44.up hk5).upd u6 hb47;have hc6:Sl 2 Xt σ5 cv cs:=hc.up hS5;have hl6:Sl 8 M8 σ5 lv l:=hl.up hS5
  refine V7 m (fun n w'=> ∃σ' x,Stp w σ w' σ'/\SLe σ5 σ'/\Z7 σ' w' b0 [lv,I room,cv]/\Z7 σ' w' b4 _/\Z7 σ' w' b7 [S (k++[91,93]),x]/\W4 w.heap.size T.f 4 O6 σ' w' x (List.replicate n (R9 k))/\x.ownBlock≠some b0/\x.ownBlock≠some b4/\x.ownBlock≠some b7)
   ⟨σ5, .slice none 0 0,hS6,SLe.refl _,hm06,hm46,hm76,W4.nil,by simp[Value.ownBlock],by simp[Value.ownBlock],by simp[Value.ownBlock]⟩ fun n w7 d hn hinv=>?_
  obtain ⟨σ7,x,hS7,le7,hm07,hm47,hm77,ha7,hx0,hx4,hx7⟩:=hinv;have hs7:=hS7.sat;refine Y9 ?_;refine Q4 (fun hcc=>?_) (fun hcc=>?_)
  .have hn':n<m:=by simpa using hcc
   have hrd: ∀{w':World} {K:Value->World->Prop},Hst w7 σ7 w' σ7->K x w'->Q7 P T.l (.pointer (some ((⟨b7,0,none⟩:Addr).add 1))) w' K:=fun hst hK=>Yj (hm77.up hst.stp) rfl hK;refine V3 hs7 ?_
   (repeat (apply Y3;(· intros;(repeat (rename_i hx;subst hx));(repeat' (first | (with_reducible exact X9 rfl) | (with_reducible exact F7 (Stp.bel (by (repeat (first | exact Stp.refl (by (first | assumption | exact Stp.sat Q8 | exact Hst.sat Q8)) | assumption | refine Stp.trans ?_ (by first | assumption | exact Hst.stp Q8))))) rfl) | (with_reducible intro _) | (simp only[↓M2,M2,Mb,reduceIte]) | (with_reducible refine hrd au ?_) | (with_reducible show Q7 _ _ _ _ _;first | refine Y6 aS aL aR ?_ | refine Z3 aS aL aR ?_ | refine ld aS aL aR ?_) | (with_reducible show indexAddr _ _ _ _ _ _;refine Y7 aL au ?_) | (with_reducible show U4 _ _ _ _ _ _ _ _;refine Q6 aL ?_) | (with_reducible show Xv _ _ _ _ _ _;refine W3 aR ?_) | (with_reducible show pick _ _ _ _ _ _;refine F6 ?_) | (with_reducible show Q0 _ _ _ _ _;first | refine X5M au ?_) | (apply Zv;intro hh;(try simp only[hh,reduceIte,↓M2,M2,Mb,reduceIte]))));done)))
   refine Zq (w:=w7) (σ:=σ7) (Φ:=fun σ' v=>Sl 4 O6 σ' v [R9 k]) (fun t41 w hb e=>?_) ?_
   .subst e
    exact C1 (R:=O6) (sz:=4) hb.sat [_] [R9 k] rfl rfl (by simp[Value.cells]) rfl ⟨Q0T _,trivial⟩ fun v w2 σ2 hk2 hv2=>Er hb hk2 hv2
   rintro t46 t47 t49 t50 w8 hb8 rfl rfl rfl ⟨σ8,hk8,s8⟩;refine X6l (w0:=w) (hS7.trans hb8.stp) (ha7.up hb8.stp) hk8.sat s8 (fun y ds hy=>hy) rfl (by simp;omega) (by simp;omega) fun x9 w9 hg9 hS9 ha9 hat9=>?_
   have hm08:=(hm07.up hb8.stp).turn hg9 fun e=>hx0 e.symm;have hm48:=(hm47.up hb8.stp).turn hg9 fun e=>hx4 e.symm;have hm78:=(hm77.up hb8.stp).turn hg9 fun e=>hx7 e.symm;have hsz:=hb8.stp.bel.size
   have hnew: ∀b,b<w7.heap.size->x.ownBlock≠some b->x9.ownBlock≠some b:=fun b hb hxb e=>by
    rcases hat9 with e2 | e2
    .exact hxb (e2▸e)
    .have:=e2 b e;omega
   have hsh:=Lf ha9;refine U7 ?_;refine Vy hm78 V5 hsh.1 hsh.2 fun w10 u10 hm710=>?_;refine C2 ?_;have hx97:=hnew b7 hm77.lt hx7;refine Z4 Q5 hn' ⟨σ7,x9,u10.stp hS9 hB7 hm78.1,le7,hm08.upd u10 hb07,hm48.upd u10 hb47,hm710,?_,hnew b0 hm07.lt hx0,hnew b4 hm47.lt hx4,hx97⟩;have:=ha9.kp (D:=fun j=>j=b7) (.of_upd u10 rfl) fun j hj e=>hx97 (e▸hj);rw[List.replicate_succ'];exact this
  .have hn': ¬n<m:=by simpa using hcc
   have hnm:n=m:=by omega
   subst hnm;obtain ⟨σ9,hS9,hx9,le9,o9⟩:=ha7.keep hS7;have mk: ∀{b:Nat} {zs:List Value},Z7 σ7 w7 b zs->x.ownBlock≠some b->Z7 σ9 w7 b zs:=fun hm hne=>⟨(o9 _ fun e=>hne e.symm).trans hm.1,hm.2⟩;have le59:SLe σ5 σ9:=le7.more ⟨le9⟩;refine X5O hS9 (mk hm07 hx0) (mk hm47 hx4) (mk hm77 hx7) rfl hb0 hB4 hb04 (hl6.lift le59) (hc6.lift le59) hx9 (Nat.le_trans (show (k++[91,93]).length<=40 by simp only[List.length_append,List.length_cons,List.length_nil];omega) L7) Q5 fun cv' w' σ' hk' hr=>h _ w' σ' hk' hr)
end Go.Proofs.Y
namespace Go.Emb
open Go.RowKit Go.Hm
variable {α : Type} {P : Program} {R : Q2 -> α -> List Value -> Prop} {B sz : Nat} {e : TypeId} {σ σ0 : Q2} {v u : Value} {xs : List α} {w w0 w' : World} {K : Value -> World -> Prop}
theorem X7U {t:TypeId} {b:Nat} {z:Value} [TS P t e] [TZ P e sz b z] (h:J7 B e sz R σ w v xs) {n:Nat} (p:n<xs.length) (i:K (.pointer (some (K4 sz v n))) w):indexAddr P t v (I n) w K:=by
 obtain ⟨a,c,rfl,m,o,j,f⟩:=h;obtain ⟨g,k,d,rfl,q⟩:=f Q5;rw[Kz Q5 Q5]
 simpa [K4] using i
theorem J7.elQ (h:J7 B e sz R σ w v xs) {n:Nat} (k:n<xs.length): ∃cs,cs.length=sz/\R σ xs[n] cs/\ ∀j u,cs[j]? =some u->w.cell? ((K4 sz v n).add j)=some u:=by
 obtain ⟨a,c,rfl,q,r,m,i⟩:=h;obtain ⟨g,b,f,rfl,s,t,o,y,p⟩:=i Q5;have hh:n*sz+sz<=c*sz:=by rw[<-Nat.succ_mul];exact Nat.mul_le_mul_right _ Q5
 refine ⟨(f.toList.drop (b+n*sz)).take sz,by rw[List.length_take,List.length_drop,Array.length_toList];omega,p n _ (by simp[k]),fun j u d=>?_⟩
 rw[List.getElem?_take] at d
 split at d
 .rw[List.getElem?_drop] at d
  have e:K4 sz (.slice (some ⟨g,b,none⟩) xs.length c) n=(⟨g,b,none⟩:Addr).add (n*sz):=rfl;rw[e];unfold World.cell?;rw[K8,K8,Zi,Zi,Xj (Xj rfl _)];simp only[o]
  simpa using d
 .cases d
theorem Y1w {t:TypeId} {c:Nat} {z:Value} [tz:TZ P t 1 c z] {b i:Nat} {cs:List Value} {v:Value} (d:w.heap[b]? =some (.cells cs.toArray e (0,0))) (k:i<cs.length) (j:v.cells= #[v]) (g:v.oneCell'=true)
 (h: ∀w',Upd w b w'->w'.heap[b]? =some (.cells (cs.set i v).toArray e (0,0))->K undef w'):U8 P t (.pointer (some ((⟨b,0,none⟩:Addr).add i))) v w K:=by
 unfold U8;have a:(⟨b,0,none⟩:Addr).add i=⟨b,i,none⟩:=by unfold Addr.add;split<;>simp_all
 have:=run_storeCells_at P b i e [v] 0 cs.toArray w d (by simp;omega) (by simpa using g)
 simp only[Nat.add_zero] at this;obtain ⟨m,hh⟩:=Sb (cs:=(cs.set i v).toArray) d
 have f:(List.take i cs.toArray.toList++[v]++List.drop (i+[v].length) cs.toArray.toList).toArray=(cs.set i v).toArray:=by
  rw[<-X3j k];simp
 rw[f] at this;rw[Wg (w':=w.setRow b (cs.set i v).toArray) (by simp[Instr.storeAt,Instr.sureAddr,a,storeVar,H2 tz,j,this])]
 exact h _ m hh
theorem Y0p {t:TypeId} {r n c:Nat} {z:Value} {x:α} [tz:TZ P t 1 r z] (V:Stp w0 σ0 w σ) (W:J7 w0.heap.size e sz R σ w v xs) (hn:n<xs.length) (hc:c<sz) (hu:u.cells= #[u]) (U:u.oneCell'=true) (hx: ∀cs,cs.length=sz->R σ xs[n] cs->R σ x (cs.set c u))
 (h: ∀w',Kpt (fun k=>v.ownBlock=some k) w w'->Stp w0 σ0 w' σ->J7 w0.heap.size e sz R σ w' v (xs.set n x)->K undef w'):U8 P t (.pointer (some ((K4 sz v n).add c))) u w K:=by
 obtain ⟨a,f,rfl,M,N,i,O⟩:=W;obtain ⟨g,d,m,rfl,H,C,J,q4,L⟩:=O Q5;have hh:n*sz+sz<=f*sz:=by rw[<-Nat.succ_mul];exact Nat.mul_le_mul_right _ Q5
 have hm:Z7 σ w g m.toList:=⟨C,e,by simpa using J⟩
 have X:=Array.length_toList (xs:=m)
 have Q:(K4 sz (.slice (some ⟨g,d,none⟩) xs.length f) n).add c=(⟨g,0,none⟩:Addr).add (d+n*sz+c):=by
  simp only[K4,Q7T];unfold Addr.add
  split<;>split<;>simp_all<;>omega
 rw[Q];refine Y1w (e:=e) (by simpa using J) Q5 hu U fun w' D Y=>?_
 refine h w' (Kpt.of_upd D rfl) (D.stp V H C) ⟨_,f,by rw[List.length_set],by rw[List.length_set];exact M,N,fun b q=>⟨(i b q).1,(i b q).2.1,by rw[D.size];exact (i b q).2.2.1,(i b q).2.2.2⟩,fun _=>⟨g,d,_,rfl,H,C,Y,by simp;omega,fun j y p=>?_⟩⟩
 rw[List.toList_toArray];have o:j<xs.length:=by have:=(List.getElem?_eq_some_iff.1 p).1;simpa using this
 have Z:j*sz+sz<=f*sz:=by rw[<-Nat.succ_mul];exact Nat.mul_le_mul_right _ Q5
 rw[List.drop_set]
 by_cases E:j=n
 .subst E
  rw[List.getElem?_set_self o] at p;cases p;rw[if_neg Q5,List.take_set,show d+j*sz+c-(d+j*sz)=c by omega]
  exact hx _ (by rw[List.length_take,List.length_drop];omega) (L j _ (by simp[o]))
 .rw[List.getElem?_set_ne Q5] at p
  have:=L j y p
  rcases Nat.lt_or_gt_of_ne E with A | hgt
  .have s:j*sz+sz<=n*sz:=by rw[<-Nat.succ_mul];exact Nat.mul_le_mul_right _ A
   rw[if_neg Q5,List.take_set,List.set_eq_of_length_le (by rw[List.length_take];omega)]
   exact this
  .have s:n*sz+sz<=j*sz:=by rw[<-Nat.succ_mul];exact Nat.mul_le_mul_right _ hgt
   rw[if_pos Q5];exact this
end Go.Emb
namespace Go.Proofs.Y
open Go.Emb Go.RowKit Go.Kd Go.Hm
variable {w w' : World} {K : Value -> World -> Prop} {σ σ' : Q2} {ds : List Value} {room : Int} {cs : List Cel} {l : List Cla}
theorem X1P (f:U9 cs<=1048576) {j:Nat} (a:j<cs.length):(cs[j].vals.length:Int)<=1048576:=by
 have e:U9 cs=U9 (cs.take j)+U9 (cs.drop j):=by rw[<-Ja,List.take_append_drop]
 have b:U9 (cs.drop j)=(1+(cs[j].vals.length:Int))+U9 (cs.drop (j+1)):=by
  rw[List.drop_eq_getElem_cons a];simp only[U9,List.map_cons,List.sum_cons]
 have c:=C4 (cs.take j);have d:=C4 (cs.drop (j+1));omega
theorem Y13 {d g:Nat} {p cv x:Value} {m:List Cel} {zs:List Value} {w0 w1:World} {σ0 σ1:Q2} (X:Stp w σ w0 σ0) (O:Stp w0 σ0 w1 σ1) (t:Z7 σ1 w1 d [p,I room,cv]) (Q:Z7 σ1 w1 g zs) (hz:zs.length=3) (H:d<w0.heap.size) (J:g<w0.heap.size) (L:w.heap.size<=d) (M:w.heap.size<=g) (s:d≠g) (hl:Sl 8 M8 σ1 p l) (U:J7 w0.heap.size T.p 2 Xt σ1 w1 x m)
 (h: ∀q w' σ',Stp w σ w' σ'->E0 σ' (l,room,m) [p,I room,q]->K (.tuple #[.agg [p,I room,q].toArray,I 0]) w'):
 U8 P T.g (.pointer (some ((⟨d,0,none⟩:Addr).add 2))) x w1 fun _u w=>
 Q7 P T.a (.pointer (some ⟨d,0,none⟩)) w fun V w=>
 U8 P T.a (.pointer (some ⟨g,0,none⟩)) V w fun _u w=>
 J4 P T.a (.pointer (some ⟨g,0,none⟩)) w fun r0=>
 K (.tuple #[r0,(.int .i64 0)]) w:=by
 have A:x.cells= #[x]/\x.oneCell'=true:=by obtain ⟨a,c,rfl,_⟩:=U;exact ⟨rfl,rfl⟩
 refine Vy t V5 A.1 A.2 fun C W i=>?_;have r:J7 w0.heap.size T.p 2 Xt σ1 C x m:=U.kp (D:=fun j=>j=d) (.of_upd W rfl) fun j Z e=>by have:=(U.mem Z).1;omega
 have k:=Q.upd W (fun e=>s e.symm);have f:Stp w σ C σ1:=W.stp (X.trans O) L t.1;obtain ⟨E,s5,l5,f5,o5⟩:=r.freeze f.sat;have n: ∀j,j<w0.heap.size->E j=σ1 j:=fun j Z=>o5 j fun e=>by have:=(r.mem e.symm).1;omega
 have y:Z7 E C d [p,I room,x]:=⟨(n d H).trans i.1,i.2⟩;have z:Z7 E C g zs:=⟨(n g J).trans k.1,k.2⟩;have N:Stp w σ C E:=⟨f.bel,s5,fun b o e=>l5.le b o (f.le b o e),fun b Y=>(n b (Nat.lt_of_lt_of_le Y X.bel.size)).trans (f.old b Y)⟩;exact Im N y z hz M ⟨p,x,rfl,hl.lift l5,f5⟩ fun w' σ' O hr=>h x w' σ' O hr
set_option maxHeartbeats 2000000 in
theorem Y10 {r i:Int} {v:Val} (hs:X3 w σ) (hh:E0 σ (Q3 l,room,cs) ds) (wf:Wf l) (ok:Ok (Q3 l)) (hlen:(Q3 l).length<=1000) (good: ∀c∈cs,GoodC V8 (Q3 l) cs c) (hl1:U9 cs<=1048576) (hv:O6 σ v [I v.sort,I v.n,S v.s,I v.ref])
 (h: ∀ds' w' σ',Stp w σ w' σ'->E0 σ' (Q3 l,room,(G5 V8 (Q3 l) cs r i v).1) ds'->K (.tuple #[.agg ds'.toArray,I (G5 V8 (Q3 l) cs r i v).2]) w'):Q0 P F.cq [.agg ds.toArray,I r,I i, .agg [I v.sort,I v.n,S v.s,I v.ref].toArray] w K:=Q4P (by
 have hcl:=Xs cs;obtain ⟨lv,cv,rfl,hl,hc⟩:=E0.out hh;unfold Fp;simp only[Y5,X5,N2];unfold X6 X2;refine Sc hs fun b0 w1 σ1 hb0 hk1 hm0=>?_;refine Z6 hk1.sat fun q w2 σ2 hk2 hq=>?_;have hS2:=hk1.trans hk2;refine E5 hk2.sat fun b4 w3 σ3 hb4 hk3 hm4=>?_;have hS3:=hS2.trans hk3;have hB4:=C7 hb4 hS2;have hm02:=hm0.up hk2;have hb04:b0≠b4:=by have:=hm02.lt;omega
 have hm03:=hm02.up hk3;have hh3:=W0 hh ⟨hS3.le⟩;have hq3:=hq.up hk3;refine Gi hm03 rfl ?_;refine X3d hk3.sat hh3 fun w4 σ4 hk4=>?_;have hS4:=hS3.trans hk4;have hm04:=hm03.up hk4;have hm44:=hm4.up hk4;have hh4:=W0 hh3 ⟨hk4.le⟩;have hq4:=hq3.up hk4;unfold G5 at h;refine Lb ?_
 by_cases h0:C9 cs r i=0
 case neg=>
  rw[decide_eq_false h0];rw[if_pos h0] at h;refine Z1 ?_;exact Im hS4 hm04 hm44 rfl hB4 hh4 fun w' σ' hk hr=>h _ w' σ' hk hr
 rw[decide_eq_true h0];rw[if_neg (fun hn=>hn h0)] at h;refine Z0 ?_;obtain ⟨j,m,rfl,rfl,hj,hm⟩:=Ee h0;rw[L5 hj,Int.toNat_natCast] at h;have hc4:=hc.up hS4;obtain ⟨vv,p1,p2,p3⟩:=Sl.elO hc4 hj;have hgc:=good cs[j] (List.getElem_mem hj)
 have hif:elem cs[j].kind=[]->m<(V0 (Q3 l) cs[j].kind).length:=fun e=>by
  rcases hgc.is with h | h
  .exact absurd e h
  .rw[<-h.2];exact hm
 have hs4:=hk4.sat;have hr0: ∀{w':World} {K:Value->World->Prop},Hst w4 σ4 w' σ4->K (.agg [lv,I room,cv].toArray) w'->Q7 P T.a (.pointer (some ⟨b0,0,none⟩)) w' K:=fun hst hK=>Gi (hm04.up hst.stp) rfl hK;have hr1: ∀{w':World} {K:Value->World->Prop},Hst w4 σ4 w' σ4->K cv w'->Q7 P T.g (.pointer (some ((⟨b0,0,none⟩:Addr).add 2))) w' K:=fun hst hK=>Yj (hm04.up hst.stp) rfl hK;refine V3 hs4 ?_
 (repeat (apply Y3;(· intros;(repeat (rename_i hx;subst hx));(repeat' (first | (with_reducible exact X9 rfl) | (with_reducible exact F7 (Stp.bel (by (repeat (first | exact Stp.refl (by (first | assumption | exact Stp.sat Q8 | exact Hst.sat Q8)) | assumption | refine Stp.trans ?_ (by first | assumption | exact Hst.stp Q8))))) rfl) | (with_reducible intro _) | (simp only[↓M2,M2,Mb,reduceIte]) | (with_reducible refine hr0 au ?_) | (with_reducible refine hr1 au ?_) | (with_reducible show Q7 _ _ _ _ _;first | refine Y6 aS aL aR ?_ | refine Z3 aS aL aR ?_ | refine ld aS aL aR ?_) | (with_reducible show indexAddr _ _ _ _ _ _;refine Y7 aL au ?_) | (with_reducible show U4 _ _ _ _ _ _ _ _;refine Q6 aL ?_) | (with_reducible show Xv _ _ _ _ _ _;refine W3 aR ?_) | (with_reducible show pick _ _ _ _ _ _;refine F6 ?_) | (with_reducible show Q0 _ _ _ _ _;first | refine Y0d au au au au au au ?_) | (apply Zv;intro hh;(try simp only[hh,reduceIte,↓M2,M2,Mb,reduceIte]))));done)))
 (intros;(repeat (rename_i hx;subst hx)))
 rename_i w5 hb5;have hS5:=hS4.trans hb5.stp;refine Y0a hb5.sat hh4 wf ok hlen hv.2.2.2.1 (X1I ok p3 m) fun wA σA hkA=>?_;have hk4A:=hb5.stp.trans hkA;have hSA:=hS4.trans hk4A;have hm0A:=hm04.up hk4A;have hm4A:=hm44.up hk4A;have hhA:=W0 hh4 ⟨hk4A.le⟩;have hqA:=hq4.up hk4A;have hsA:=hkA.sat;refine Nj ?_;cases hf:P1 V8 (Q3 l) cs v (Wz (Q3 l) cs[j].kind m) with
 | false=>
  rw[hf] at h;simp only[Bool.false_eq_true,if_false] at h;refine Z1 ?_;exact Im hSA hm0A hm4A rfl hB4 hhA fun w' σ' hk hr=>h _ w' σ' hk hr
 | true=>
  rw[hf] at h;simp only[if_true] at h;refine Z0 ?_;have hcA:=hc.up hSA;have hlA:=hl.up hSA;have hvl:=X1P hl1 hj;refine Bm (R:=Xt) (e:=T.p) (Stp.refl hsA) L7 fun x1 wA1 hkA1 ha1 _=>?_;refine U7 ?_;refine Yj (hm0A.up hkA1) rfl ?_;refine Vn hkA1 ha1 (hcA.up hkA1) rfl (by simp;omega) (by simp;omega) fun x2 wB _ hkB ha2 _=>?_
  rw[List.nil_append] at ha2;have hsB:=hkB.sat;refine Bm (R:=O6) (e:=T.f) (Stp.refl hsB) L7 fun y1 wB1 hkB1 hy1 _=>?_;have hq2:=J7.of_acc (ha2.up hkB1);refine X7U hq2 hj ?_;obtain ⟨cs5,hl5,⟨vv5,rfl,p5,_⟩,hcell⟩:=hq2.elQ hj;refine U7 ?_;refine Zk (hcell 1 vv5 rfl) ?_;refine Vn hkB1 hy1 p5 rfl (by simp;omega) (by simp;omega) fun y2 wB2 _ hkB2 hy2 _=>?_
  rw[List.nil_append] at hy2;refine Z3 hkB2.sat ((hqA.up hkB).up hkB2) rfl ?_;refine Q7p (x:=v) hkB2 (J7.of_acc hy2) hm rfl (show O6 σA v _ from hv) (Rep.one (R:=O6) (σ:=σA) hv) fun p u w6 _ hb6 hy6=>?_
  obtain ⟨σ7,hk7,hs7,le7,_⟩:=hy6.keep hb6.stp;have hkA7:=hkB.trans hk7;have hq7:=J7.of_acc (ha2.up hk7);refine X7U hq7 hj ?_;refine U7 ?_;have hysh:y2.cells= #[y2]/\y2.oneCell'=true:=Lf hy2
  refine Y0p (x:=(⟨cs[j].kind,cs[j].vals.set m v⟩:Cel)) hkA7 hq7 hj L7 hysh.1 hysh.2 (fun es _ hes=>by
   obtain ⟨v0,rfl,_,hkl⟩:=hes;exact ⟨y2,rfl,hs7,hkl⟩) fun w8 _ hk8 hq8=>?_
  refine U7 ?_;have hsv:Qh cs j m v=cs.set j ⟨cs[j].kind,cs[j].vals.set m v⟩:=by unfold Qh;rw[L5 hj,Int.toNat_natCast,Int.toNat_natCast]
  rw[hsv] at h;exact Y13 hSA hk8 (hm0A.up hk8) (hm4A.up hk8) rfl hm0A.lt hm4A.lt hb0 hB4 hb04 (hlA.up hk8) hq8 fun cv' w' σ' hk hr=>h _ w' σ' hk hr)
theorem X14 {k a:Nat} {c b:Value} {zs:List Value} {w1:World} {σ1:Q2} (n:Stp w σ w1 σ1) (f:Z7 σ1 w1 k [c,I room,b]) (i:Z7 σ1 w1 a zs) (o:zs.length=3) (d:w.heap.size<=a) (m:E0 σ1 (l,room,cs) [c,I room,b]) (h: ∀w' σ',Stp w σ w' σ'->E0 σ' (l,room,cs) [c,I room,b]->K (.agg [c,I room,b].toArray) w'):
 Q7 P T.a (.pointer (some ⟨k,0,none⟩)) w1 fun j w=>
 U8 P T.a (.pointer (some ⟨a,0,none⟩)) j w fun _u w=>
 J4 P T.a (.pointer (some ⟨a,0,none⟩)) w fun p=>
 K p w:=
 Gi f rfl (Qz i n d o rfl (Rep.one m) fun q e g=>M5 g rfl (h q σ1 e.stp m))
set_option maxHeartbeats 2000000 in
theorem Y0X {n:Int} (hs:X3 w σ) (hh:E0 σ (l,room,cs) ds) (a6:U9 cs<=1048576) (hn:Qj n)
 (h: ∀ag w' σ',Stp w σ w' σ'->E0 σ' (l,room,Q10 cs n) ag->K (.agg ag.toArray) w'):Q0 P F.cn [.agg ds.toArray,I n] w K:=Q4M (by
 have b2:=Xs cs;obtain ⟨lv,cv,rfl,hl,hc⟩:=E0.out hh;unfold Fl;simp only[L9];unfold J1 X6 J3 V1 X8 X4 X2 X1;refine Sc hs fun M w1 σ1 a4 Z ak=>?_;refine E5 Z.sat fun b4 w2 σ2 a5 aa J=>?_;have a0:=Z.trans aa;have V:=C7 a5 Z;have aj:M≠b4:=by have:=ak.lt;omega
 have al:=ak.up aa;have a9:=aa.sat;refine Qt (fun z w'=>z=I (max n 0)/\w'=w2) ?_ ?_
 .refine Y9 ?_
  by_cases e:n<0
  .rw[decide_eq_true e]
   exact Z1 ⟨by rw[show max n 0=0 by omega],rfl⟩
  .rw[decide_eq_false e]
   exact Z0 ⟨by rw[show max n 0=n by omega],rfl⟩
 rintro z d0 w3 ⟨rfl,rfl⟩;unfold Q10 at h;obtain ⟨m,am⟩:=Int.eq_ofNat_of_zero_le (show 0<=max n 0 by omega)
 rw[am,Int.toNat_natCast] at h;rw[am];have b6:(m:Int)<=9223372036854775807:=by have:=hn.2;omega
 refine V7 (min m cs.length) (fun i w'=> ∃σ',Stp w3 σ2 w' σ'/\(cs.take i).any (fun c=>c.vals.any (Qx m))=false) ⟨σ2,Stp.refl a9,rfl⟩ fun i w4 d hi y=>?_;obtain ⟨σ4,q,ac⟩:=y;have a:=al.up q;have s:=a0.trans q;have H:=hc.up s;refine Y9 ?_
 have Y: ¬i<min m cs.length->(cs.take m).any (fun c=>c.vals.any (Qx m))=false/\(m<cs.length->i=m):=fun an=>by
  by_cases a7:m<=cs.length
  .have:i=m:=by omega
   subst this;exact ⟨ac,fun _=>rfl⟩
  .have e:cs.take m=cs.take i:=by rw[List.take_of_length_le Q5,List.take_of_length_le Q5]
   rw[e];exact ⟨ac,fun h=>by omega⟩
 have N: ¬i<min m cs.length->jn (α:=Unit) w4 (fun af w=>
  fieldAddr P T.a (.pointer (some ⟨M,0,none⟩)) 2 w fun bc w=>
  Q7 P T.g bc w fun bd w=>
  U4 P .len [T.g] T.e [false] [bd] w fun be w=>
  Z2 P .lss T.e (.tmp 52) (.tmp 55) (I (m:Int)) be w fun bf w=>
  X0 bf (
   buildSlice P T.g 0 [] w fun bg w=>
   fieldAddr P T.a (.pointer (some ⟨M,0,none⟩)) 2 w fun bh w=>
   Q7 P T.g bh w fun bi w=>
   I7 P T.g bi none (some (I (m:Int))) none w fun bj w=>
   U4 P .append [T.g,T.g] T.g [false,false] [bg,bj] w fun bk w=>
   fieldAddr P T.a (.pointer (some ⟨M,0,none⟩)) 2 w fun bl w=>
   U8 P T.g bl bk w fun _u w=>
   af () w) (
   af () w)) fun ci d_ w=>
  Q7 P T.a (.pointer (some ⟨M,0,none⟩)) w fun bm w=>
  U8 P T.a (.pointer (some ⟨b4,0,none⟩)) bm w fun _u w=>
  J4 P T.a (.pointer (some ⟨b4,0,none⟩)) w fun r0=>
  K r0 w:=fun an=>by
  obtain ⟨t,_⟩:=Y an;rw[if_neg (by rw[t];simp)] at h
  refine M0 ?_;refine U7 ?_;refine Yj a rfl ?_;refine Q6 H ?_;refine Y9 ?_
  by_cases a7:m<cs.length
  .rw[decide_eq_true (show (m:Int)<(cs.length:Int) by omega)]
   refine Z1 ?_;have ba:=q.sat;refine Bm (R:=Xt) (e:=T.p) (Stp.refl ba) L7 fun x1 w5 f a3 _=>?_;refine U7 ?_;refine Yj (a.up f) rfl ?_;refine Gf (H.up f) none (some (I m)) 0 m (.inl ⟨rfl,rfl⟩) (.inr rfl) (Nat.zero_le _) Q5 fun v3 ar=>?_;rw[List.drop_zero,Nat.sub_zero] at ar;refine Vn f a3 ar rfl (by simp;omega) (by simp;omega) fun x2 w6 _ g E _=>?_
   rw[List.nil_append] at E;have aq:=Lf E;have O:=a.up g;refine U7 ?_;refine Vy O V5 aq.1 aq.2 fun w7 u7 Q=>?_;intro d;have ai:J7 w4.heap.size T.p 2 Xt σ4 w7 x2 (cs.take m):=(J7.of_acc E).kp (D:=fun j=>j=M) (.of_upd u7 rfl) fun j hj e=>by have:=(E.mem j hj).1;have:=a.lt;omega
   have U:=((J.up q).up g).upd u7 (fun e=>aj e.symm);have C:Stp w σ w7 σ4:=u7.stp (s.trans g) a4 O.1;obtain ⟨σ8,s8,l8,f8,o8⟩:=ai.freeze C.sat;have ab: ∀j,j<w4.heap.size->σ8 j=σ4 j:=fun j hj=>o8 j fun e=>by have:=(ai.mem e.symm).1;omega
   have a2:Stp w σ w7 σ8:=⟨C.bel,s8,fun b o e=>l8.le b o (C.le b o e),fun b hb=>(ab b (Nat.lt_of_lt_of_le hb s.bel.size)).trans (C.old b hb)⟩;exact X14 a2 (cs:=cs.take m) (l:=l) (show Z7 σ8 w7 M [lv,I room,x2] from ⟨(ab M a.lt).trans Q.1,Q.2⟩) ⟨(ab b4 (J.up q).lt).trans U.1,U.2⟩ rfl V ⟨lv,x2,rfl,(hl.up s).lift l8,f8⟩ fun w' σ' hk hr=>h _ w' σ' hk hr
  .rw[decide_eq_false (show¬(m:Int)<(cs.length:Int) by omega)]
   refine Z0 ?_;intro d;rw[List.take_of_length_le Q5] at h;exact X14 s a (J.up q) rfl V (W0 hh ⟨s.le⟩) fun w' σ' hk hr=>h _ w' σ' hk hr
 by_cases b3:i<m
 case neg=>
  rw[decide_eq_false (show¬(i:Int)<(m:Int) by omega)]
  (try simp only[G3,G8,Qs,H0,C3,C8,F5,F3,I5,Bool.not_true,Bool.not_false])
  exact N Q5
 rw[decide_eq_true (show (i:Int)<(m:Int) by omega)]
 (try simp only[G3,G8,Qs,H0,C3,C8,F5,F3,I5,Bool.not_true,Bool.not_false])
 refine U7 ?_;refine Yj a rfl ?_;refine Q6 H ?_;refine Y9 ?_
 by_cases v:i<cs.length
 case neg=>
  rw[decide_eq_false (show¬(i:Int)<(cs.length:Int) by omega)]
  refine Z0 ?_;exact N Q5
 rw[decide_eq_true (show (i:Int)<(cs.length:Int) by omega)]
 refine Z1 ?_;have b9:=X1P a6 v;refine V7 cs[i].vals.length (fun k w'=> ∃σ',Stp w4 σ4 w' σ'/\(cs[i].vals.take k).any (Qx m)=false) ⟨σ4,Stp.refl q.sat,rfl⟩ fun k w5 d hk y=>?_;obtain ⟨σ5,f,B⟩:=y;have A:=a.up f;have W:=H.up f;have a1:=s.trans f;have L:=f.sat;obtain ⟨vv,p1,p2,p3⟩:=Sl.elO W v;refine U7 ?_;refine Yj A rfl ?_;refine Y7 W v ?_;refine U7 ?_;refine ld L p1 rfl ?_;refine Q6 p2 ?_;refine Y9 ?_;refine Q4 (fun X=>?_) (fun X=>?_)
 .have r:k<cs[i].vals.length:=by simpa using X
  obtain ⟨p4,r4⟩:=Sl.elV p2 r;refine U7 ?_;refine Yj A rfl ?_;refine Y7 W v ?_;refine U7 ?_;refine ld L p1 rfl ?_;refine Y7 p2 r ?_;refine Z3 L p4 rfl ?_;refine Z9 L (by rfl) rfl (Rep.one r4) fun q6 w6 σ6 g ao=>?_
  have ah:=a1.trans g;have a8:=E8 (p:=Qx m) r;refine U7 ?_;refine ld (i:=0) g.sat ao rfl ?_;refine E7 ?_;have u:Qx m cs[i].vals[k]=false-> ∃σ',Stp w4 σ4 w6 σ'/\(cs[i].vals.take (k+1)).any (Qx m)=false:=fun e=>⟨σ6,f.trans g,by rw[a8,B,e];rfl⟩
  by_cases e4:cs[i].vals[k].sort=4
  .rw[decide_eq_true e4]
   (try simp only[G3,G8,Qs,H0,C3,C8,F5,F3,I5,Bool.not_true,Bool.not_false])
   refine U7 ?_;refine ld g.sat ao rfl ?_;refine T2 ?_
   by_cases eg:(m:Int)<=cs[i].vals[k].ref
   .rw[decide_eq_true eg]
    refine Z1 ?_
    have t:(cs.take m).any (fun c=>c.vals.any (Qx m))=true:=by
     refine List.any_eq_true.2 ⟨cs[i],List.mem_take_iff_getElem.2 ⟨i,by omega,rfl⟩,P0 r (by simp[Qx,e4,eg])⟩
    rw[if_pos t] at h;exact X14 ah (A.up g) ((J.up q).up (f.trans g)) rfl V (W0 hh ⟨ah.le⟩) fun w' σ' hk hr=>h _ w' σ' hk hr
   .rw[decide_eq_false eg]
    refine Z0 ?_;refine C2 ?_;exact Z4 Q5 r (u (by simp[Qx,eg]))
  .rw[decide_eq_false e4]
   (try simp only[G3,G8,Qs,H0,C3,C8,F5,F3,I5,Bool.not_true,Bool.not_false])
   refine C2 ?_;exact Z4 Q5 r (u (by simp[Qx,e4]))
 .have r: ¬k<cs[i].vals.length:=by simpa using X
  rw[B7 r] at B;refine C2 ?_;refine Z4 Q5 Q5 ⟨σ5,q.trans f,?_⟩;rw[E8 v,ac,B];rfl)
variable {hp tv : Value}
theorem HeapIs.mono {B B':Nat} {D:Nat->Prop} (h:HeapIs B D σ w hp tv room cs) (hB:B'<=B):HeapIs B' D σ w hp tv room cs:=by
 obtain ⟨b,n,E,j,g,m,⟨vs,k,c,f,hD⟩,hE,a⟩:=h.ex;exact ⟨b,n,E,j,Nat.le_trans hB g,m,⟨vs,k.mono hB,⟨c.1,fun i d e=>(c.2 i d e).mono hB⟩,f,hD⟩,hE,a⟩
theorem X9t {a:Addr} {n:Int} (j:X3 w σ)
 (g:(n<0\/1048576<n)->K (.tuple #[.pointer none,I 90]) w)
 (h:0<=n->n<=1048576-> ∀b w' σ' D,Stp w σ w' σ'->HeapIs w.heap.size D σ' w' (.pointer (some ⟨b,0,none⟩)) (.pointer (some a)) n []->K (.tuple #[.pointer (some ⟨b,0,none⟩),I 0]) w'):Q0 P F.ds [.pointer (some a),I n] w K:=X4h (by
 unfold Q71 X8 X2;refine Y9 ?_
 by_cases e:n<0
 .rw[decide_eq_true e]
  (try simp only[G3,G8,Qs,H0,C3,C8,F5,F3,I5,Bool.not_true,Bool.not_false])
  exact g (.inl e)
 rw[decide_eq_false e]
 (try simp only[G3,G8,Qs,H0,C3,C8,F5,F3,I5,Bool.not_true,Bool.not_false])
 refine Vo ?_
 by_cases c:(1048576:Int)<n
 .rw[decide_eq_true c]
  exact Z1 (g (.inr c))
 rw[decide_eq_false c];refine Z0 ?_;refine M9 (cells:= #[.pointer (some a),I n,I 0, .slice none 0 0]) X7 ?_;refine Sc (cs:=[.pointer (some a),I n,I 0, .slice none 0 0]) j fun b w1 σ1 i d f=>?_;exact h Q5 Q5 b w1 σ1 _ d ⟨b,_,_,rfl,i,f,RowsIs.nil,id,fun k=>Iff.rfl⟩)
theorem X7m:P.underlying T.aC=some (.int .u16):=by kernel_rfl
set_option maxHeartbeats 1000000 in
theorem X3c {r:Int} (hs:X3 w σ) (hg:Glb σ) (hr:0<=r)
 (h: ∀b a D ds w' σ',Stp w σ w' σ'->HeapIs w.heap.size D σ' w' (.pointer (some ⟨b,0,none⟩)) (.pointer (some a)) (r % 301) []->E0 σ' (Q3 W6,r % 301,[]) ds->Tab σ' (.pointer (some a)) (Q3 W6)->Ok (Q3 W6)->K (.tuple #[.pointer (some ⟨b,0,none⟩), .agg ds.toArray]) w'):Q0 P F.aO [.int .u16 r] w K:=Q1X (by
 have hr0:=Int.emod_nonneg r (show (301:Int)≠0 by decide)
 have hr1:=Int.emod_lt_of_pos r (show (0:Int)<301 by decide)
 unfold Hh;simp only[D0];unfold X8 X2;refine E5 hs fun b3 w1 σ1 hb3 hk1 hm1=>?_;refine Q9h hk1.sat fun v w2 σ2 hk2 hv2=>?_;refine Y0v hk2.sat (hg.lift ⟨(hk1.trans hk2).le⟩) hv2 L7 X8f (fun i e _ _ hn=>by rw[Q6n] at hn;cases hn) fun tv w3 σ3 _ hk3 ht ok _=>?_
 obtain ⟨a,_,_,_,rfl,_⟩:=ht.ex;have hS3:=(hk1.trans hk2).trans hk3;refine J5 (vs:=[_,_,_]) rfl ?_;refine J5 (vs:=[_,_,_]) rfl ?_;refine J5 (vs:=[_,_,_]) rfl ?_;refine Q9h hk3.sat fun v4 w4 σ4 hk4 hv4=>?_;refine X8V hk4.sat hv4 L7 (fun i e _ _ hn=>by rw[Q6n] at hn;cases hn) fun lv w5 σ5 _ hk5 hlv ok5 _=>?_
 have hk35:=hk4.trans hk5;have hS5:=hS3.trans hk35;refine J5 (vs:=[_,_,_]) rfl ?_;refine J5 (vs:=[_,_,_]) rfl ?_;refine J5 (vs:=[_,_,_]) rfl ?_;refine Q7Q ⟨by decide,hr⟩ ?_
 rw[Jc X7m La];have ew:IntKind.i64.wrap (r % 301)=r % 301:=Qi (n:=r % 301) Q5 Q5;rw[ew];simp only[decide_true,Bool.not_true,Bool.false_eq_true,reduceIte,↓M1,M1,Mb,reduceIte];refine Y0o ?_;simp only[decide_true,Bool.not_true,Bool.false_eq_true,reduceIte,↓M1,M1,Mb,reduceIte];refine X9t (n:=r % 301) hk5.sat (fun hx=>absurd hx Q5) fun _ _ b6 w6 σ6 D hk6 h6=>?_;refine J5 (vs:=[_,_]) rfl ?_;refine J5 (vs:=[_,_]) rfl ?_;simp only[decide_true,Bool.not_true,↓M1,M1,Mb,reduceIte];refine M9 (cells:= #[lv,I (r % 301), .slice none 0 0]) (by obtain ⟨a5,c5,hle,_⟩:=id hlv;generalize (Q3 W6).length=n5 at hle;subst hle;kernel_rfl) ?_
 have hm6:=hm1.up ((hk2.trans hk3).trans (hk35.trans hk6));have hrh:E0 σ6 (Q3 W6,r % 301,[]) [lv,I (r % 301), .slice none 0 0]:=⟨_,_,rfl,hlv.up hk6,Sl.nil⟩;refine Ms (ds:=[lv,I (r % 301), .slice none 0 0]) hm6 rfl rfl (by rw[List.all_toArray];exact List.all_eq_true.2 (Rep.one hrh)) fun w7 u7 hm7=>?_
 refine M5 hm7 rfl ?_;have hS6:=hS5.trans hk6;have hB3:=C7 hb3 (Stp.refl hs);have hS7:=u7.stp hS6 hB3 hm6.1
 have hb35:b3<w5.heap.size:=by
  have:=(hm1.up ((hk2.trans hk3).trans hk35)).lt;exact this
 exact h b6 a D _ w7 σ6 hS7 ((h6.nx (Nxt.of_upd hk6.sat u7 hm6.1) fun k hk e=>by have:=(h6.mem hk).1;omega).mono hS5.bel.size) hrh (ht.lift ⟨(hk35.trans hk6).le⟩) ok)
theorem Y0Y {x:ActH} {ds:List Value} (g:X3 w σ) (d:Ah σ x ds) (h: ∀w',Below w.heap.size w w'->K (.bool (decide (x.s.length<=100)&&decide (x.v.s.length<=5000))) w'):Q0 P F.co [.agg ds.toArray] w K:=Q4N (by
 have j:=d;obtain ⟨rfl,k,m⟩:=d;unfold Fm J1 X6 X4 X2;refine Z6 g fun q w1 σ1 a c=>?_;refine U7 ?_;refine ld (i:=1) a.sat c rfl ?_;refine Oy X7 ?_;refine Q9U ?_;cases e:decide ((x.s.length:Int)<=100) with
 | false=>
  have b:decide (x.s.length<=100)=false:=by rw[<-e];congr 1;simp only[eq_iff_iff];omega
  rw[b] at h
  (try simp only[↓M1,M1,Mb,reduceIte])
  exact h _ a.bel
 | true=>
  have b:decide (x.s.length<=100)=true:=by rw[<-e];congr 1;simp only[eq_iff_iff];omega
  rw[b] at h
  (try simp only[G3,G8,Qs,H0,C3,C8,F5,F3,I5,Bool.not_true,Bool.not_false])
  (repeat refine Hd.h ?_)
  refine ld (i:=6) a.sat c rfl ?_
  (repeat refine Hd.h ?_)
  refine Oy X7 ?_
  (repeat refine Hd.h ?_)
  refine Q9U ?_
  (repeat refine Hd.h ?_)
  have f:decide ((x.v.s.length:Int)<=5000)=decide (x.v.s.length<=5000):=by congr 1;simp only[eq_iff_iff];omega
  rw[f];exact h _ a.bel)
theorem Q8m:V8 []=true:=by decide+kernel
theorem Y1x:P.underlying T.a5=some (.pointer T.t):=by kernel_rfl
theorem X1C (d:Nat) (o:Option Addr):(Op.equalIn (d+1) T.a5 (.pointer o) (.pointer none)).run P w= .ok o.isNone w:=by
 cases o<;>simp[Op.equalIn,run_underlying Y1x]
theorem X6d {a:Addr} {b c:Operand} (h:K (.bool false) w):Z2 P .eql T.a5 b c (.pointer (some a)) (.pointer none) w K:=by
 have e:(Op.equal T.a5 (.pointer (some a)) (.pointer none)).run P w= .ok false w:=X1C 9999 _;unfold Z2;rw[Y8 (v:= .bool false) (w':=w) (by simp[eqGuard,Go.binOp,e])]
 exact h
theorem Q88 {a:Nat} {f g:World} {d:Q2} {x:List Cla×Int×List Cel} {c zs:List Value} (n:Stp w σ f d) (hB:w.heap.size<=a) (o:Z7 d f a zs) (u:Upd f a g) (e:Z7 d g a c):
 ∃b,Stp w σ g b/\U0 b ⟨a,0,none⟩ c/\SLe d b/\ ∀k,k≠a->b k=d k:=by
 obtain ⟨b,h,i,j,m⟩:=e.keep (u.stp n hB o.1) hB;exact ⟨b,h,i,⟨j⟩,m⟩
variable {w0 w1 : World} {σ0 : Q2} {cs' : List Cel} {B b : Nat} {D : Nat -> Prop} {V v : Value}
theorem X7h {ok:Q9->Bool} {r i:Int} {v:Val}:G5 ok l (G5 ok l cs r i v).1 r i v=G5 ok l cs r i v:=by
 by_cases f:C9 cs r i=0
 case neg=>
  have e:G5 ok l cs r i v=(cs,C9 cs r i):=by unfold G5;rw[if_pos f]
  rw[e];exact e
 cases k:P1 ok l cs v (Wz l (Oz cs r).kind i.toNat) with
 | false=>
  have e:G5 ok l cs r i v=(cs,91):=by unfold G5;rw[if_neg (fun h=>h f),k];rfl
  rw[e];exact e
 | true=>
  have e:G5 ok l cs r i v=(Qh cs r i v,0):=by unfold G5;rw[if_neg (fun h=>h f),k];rfl
  rw[e];obtain ⟨j,m,rfl,rfl,a,y⟩:=Ee f;have u:M4 cs (j:Int)=true:=W7.2 ⟨j,rfl,a⟩;have d:Qh cs j m v=cs.set j ⟨cs[j].kind,cs[j].vals.set m v⟩:=by unfold Qh;rw[L5 a,Int.toNat_natCast,Int.toNat_natCast]
  have t:(Qh cs j m v).length=cs.length:=by rw[d];simp
  have c:j<(Qh cs j m v).length:=by rw[t];exact a
  have g:Oz (Qh cs j m v) j=⟨cs[j].kind,cs[j].vals.set m v⟩:=by
   rw[L5 c];simp only[d,List.getElem_set_self]
  have p:M4 (Qh cs j m v) (j:Int)=true:=W7.2 ⟨j,rfl,c⟩
  have q:C9 (Qh cs j m v) j m=0:=by
   unfold C9;rw[p,g];simp only[if_true,List.length_set];rw[if_pos ⟨by omega,by omega⟩]
  have o:P1 ok l (Qh cs j m v) v (Wz l (Oz (Qh cs j m v) j).kind (m:Int).toNat)=true:=by
   rw[g];rw[L5 a] at k;exact Ig (fun _ _=>Q7d u) k
  have s:Qh (Qh cs j m v) j m v=Qh cs j m v:=by
   unfold Qh at g⊢;rw[g];simp only[Int.toNat_natCast,List.set_set];rw[L5 a]
  unfold G5;rw[if_neg (fun h=>h q),o,s];rfl
theorem RowsIs.down {d:Value} (h:RowsIs B D σ' w d cs) (c:SLe σ σ'):RowsIs B D σ w d cs:=by
 obtain ⟨vs,j,a,g,hD⟩:=h.ex;exact ⟨vs,j.down c fun _ _ h=>h,⟨a.1,fun i e f=>(a.2 i e f).down c fun _ _ h=>h⟩,g,hD⟩
theorem HeapIs.down (h:HeapIs B D σ' w hp tv room cs) (c:SLe σ σ'):HeapIs B D σ w hp tv room cs:=by
 obtain ⟨b,f,E,rfl,hB,a,d,hE,hD⟩:=h.ex;refine ⟨b,f,E,rfl,hB,⟨?_,a.2⟩,d.down c,hE,hD⟩;cases e:σ b with
 | none=>rfl
 | some o=>have:=c.le b o e;rw[a.1] at this;cases this
structure SetT (B : Nat) (D : Nat -> Prop) (σ : Q2) (hp tv : Value) (room : Int) (cs' : List Cel) (b : Nat) (ds : List Value) (w w' : World) : Prop where
  kp : Kpt (fun j => j = b \/ D j) w w'
  var : (b < w.heap.size -> w'.heap[b]? = w.heap[b]?) \/ ∃ e, w'.heap[b]? = some (.cells ds.toArray e (0, 0))
  hp : (∀ j, D j -> j < w.heap.size -> w'.heap[j]? = w.heap[j]?) \/ HeapIs B D σ w' hp tv room cs'
structure SetB (B : Nat) (D : Nat -> Prop) (hp tv : Value) (room : Int) (cs cs' : List Cel) (w0 : World) (σ0 : Q2) (w1 : World) (σ : Q2) (b n : Nat) (w' : World) : Prop where
  hst : Hst w0 σ0 w' σ
  kp : Kpt (fun j => j = b \/ D j) w1 w'
  var : ∃ zs, zs.length = n /\ Z7 σ w' b zs
  hp : HeapIs B D σ w' hp tv room cs \/ HeapIs B D σ w' hp tv room cs'
theorem SetB.hs {n:Nat} (h:SetB B D hp tv room cs cs' w0 σ0 w1 σ b n w):Hst w0 σ0 w σ:=h.hst
theorem SetT.of_below (h:Below w.heap.size w w'):SetT B D σ hp tv room cs' b ds w w':=⟨.of_below h, .inl fun a=>h.block b a, .inl fun j _ c=>h.block j c⟩
theorem HeapIs.same (h:HeapIs B D σ w hp tv room cs) (k:Kpt (fun j=>j=b\/D j) w w') (g:X3 w' σ) (c: ¬D b) (d: ∀j,D j->j<w.heap.size->w'.heap[j]? =w.heap[j]?):HeapIs B D σ w' hp tv room cs:=
 h.nx (F:=fun j=>j=b) ⟨⟨k.os,k.tape,k.output,k.size,fun j a f=>by
  by_cases e:D j
  .exact d j e a
  .exact k.block j a fun h=>h.elim f e⟩,SLe.refl _,fun _ _=>rfl,g⟩ fun j a e=>c (e▸a)
theorem SetB.step {n:Nat} (i:w0.heap.size<=b) (hB:w0.heap.size<=B) (d: ¬D b) (m:ds.length=n) (h:SetB B D hp tv room cs cs' w0 σ0 w1 σ b n w) (k:SetT B D σ hp tv room cs' b ds w w'):SetB B D hp tv room cs cs' w0 σ0 w1 σ b n w':=by
 obtain ⟨zs,g,c⟩:=h.var
 have f: ∀j,D j->w0.heap.size<=j/\σ j=none:=fun j hj=>by
  rcases h.hp with h | h
  .exact ⟨Nat.le_trans hB (h.mem hj).1,(h.mem hj).2.2⟩
  .exact ⟨Nat.le_trans hB (h.mem hj).1,(h.mem hj).2.2⟩
 have a:Stp w0 σ0 w' σ:=h.hst.stp.kp k.kp fun j hj=>by
  rcases hj with rfl | hj
  .exact ⟨i,c.1⟩
  .exact f j hj
 refine ⟨⟨a⟩,h.kp.trans k.kp,?_,?_⟩
 .rcases k.var with e | e
  .exact ⟨zs,g,c.1,by rw[e c.lt];exact c.2⟩
  .exact ⟨ds,m,c.1,e⟩
 .rcases k.hp with e | e
  .rcases h.hp with h3 | h3
   .exact .inl (h3.same k.kp a.sat d e)
   .exact .inr (h3.same k.kp a.sat d e)
  .exact .inr e
theorem X9H {n:Nat} {A:(World->World->Prop)->(World->Prop)->Prop} (cs':List Cel) (ds:List Value) {zs:List Value} (a:Stp w0 σ0 w σ) (f:w0.heap.size<=b) (hB:w0.heap.size<=B) (c: ¬D b) (j:Z7 σ w b zs) (i:zs.length=n) (g:ds.length=n) (hh:HeapIs B D σ w hp tv room cs)
 (h:A (SetT B D σ hp tv room cs' b ds) (SetB B D hp tv room cs cs' w0 σ0 w σ b n)):dr w A:=
 Q13 _ _ ⟨⟨a.trans (Stp.of_below a.sat (Below.refl _ _).drew)⟩, .of_below (Below.refl _ _).drew,⟨zs,i,j⟩, .inl (hh.up (Stp.of_below a.sat (Below.refl _ _).drew))⟩ (fun _ _ d e=>d.step f hB c g e) h
theorem X0r (h:V=v):dk (SetT B D σ hp tv room cs' b ds) (fun v _=>V=v) w v w:=⟨.of_below (Below.refl _ _),h⟩
theorem X8j (a:Below w.heap.size w w') (h:V=v):dk (SetT B D σ hp tv room cs' b ds) (fun v _=>V=v) w v w':=⟨.of_below a,h⟩
theorem X6G {n:Nat} {t:TypeId} {c:Nat} {z:Value} [tz:TZ P t n c z] {a:(List Value->Value->World->Prop)->Prop} {φ:Value->World->Prop} (r:ds.length=n) (m: ∀u∈ds,u.oneCell'=true) (E: ∀v w,φ v w-> .agg ds.toArray=v)
 (A:a (fun _ _ w=>Z7 σ w b ds)) (i:σ b=none) (d: ¬D b):Ko (SetT B D σ hp tv room cs' b ds) (fun G=> ∀x w,SetB B D hp tv room cs cs' w0 σ0 w1 σ b n w->φ x w->U8 P t (.pointer (some ⟨b,0,none⟩)) x w (dk (SetT B D σ hp tv room cs' b ds) (G [x]) w)) a:=by
 refine Q8c _ (fun xs v w w' h k=>?_) (fun x w q C=>?_) A
 .rcases k.var with e | e
  .exact ⟨i,by rw[e h.lt];exact h.2⟩
  .exact ⟨i,e⟩
 .have:=E x w C
  subst this;obtain ⟨zs,o,p⟩:=q.var;exact Ms p o r (by rw[List.all_toArray];exact List.all_eq_true.2 m) fun w' g f=>⟨⟨.of_upd g (.inl rfl), .inr f.2, .inl fun j s y=>g.block j fun e=>d (e▸s)⟩,f⟩
theorem X8o {n:Nat} {x:Val} {r i:Int} {a:(Value->World->Prop)->Prop} {O Q R:Value->World->Prop} (J:Glb σ) (L:Tab σ tv l) (ok:Ok l) (q: ∀c∈cs,GoodC V8 l cs c) (f: ∀c∈(G5 V8 l cs r i x).1,GoodC V8 l (G5 V8 l cs r i x).1 c) (M:O6 σ x [I x.sort,I x.n,S x.s,I x.ref]) (t: ¬D b) (hσ:σ b=none)
 (X: ∀v w,O v w->I r=v) (Y: ∀v w,Q v w->I i=v) (Z: ∀v w,R v w->Value.agg [I x.sort,I x.n,S x.s,I x.ref].toArray=v)
 (hr:a (fun v w=>I (G5 V8 l cs r i x).2=v/\X3 w σ/\HeapIs B D σ w hp tv room (G5 V8 l cs r i x).1)):
 V2 (SetT B D σ hp tv room (G5 V8 l cs r i x).1 b ds) (fun G=> ∀C E H w,SetB B D hp tv room cs (G5 V8 l cs r i x).1 w0 σ0 w1 σ b n w->O C w->Q E w->R H w->Q0 P F.bh [hp,C,E,H] w (dk (SetT B D σ hp tv room (G5 V8 l cs r i x).1 b ds) G w)) a:=by
 refine F4 _ (fun v w w' h k=>?_) (fun C E H w A U e2 W=>?_) hr
 .obtain ⟨e,hs,h4⟩:=h
  have m:X3 w' σ:=Kpt.sat hs k.kp fun j y=>y.elim (fun e=>e▸hσ) fun y=>(h4.mem y).2.2
  rcases k.hp with e2 | e2
  .exact ⟨e,m,h4.same k.kp m t e2⟩
  .exact ⟨e,m,e2⟩
 .have:=X _ _ U
  have:=Y _ _ e2;have:=Z _ _ W
  subst_vars
  have p: ∀{d z},Nxt D w σ d z->HeapIs B D z d hp tv room (G5 V8 l cs r i x).1->SetT B D σ hp tv room (G5 V8 l cs r i x).1 b ds w d/\I (G5 V8 l cs r i x).2=I (G5 V8 l cs r i x).2/\X3 d σ/\HeapIs B D σ d hp tv room (G5 V8 l cs r i x).1:=fun {d z} N h4=>by
   have g:=h4.down N.le;have u:b<w.heap.size:=by obtain ⟨zs,_,hm⟩:=A.var;exact hm.lt
   exact ⟨⟨N.kp.mono fun _ _ y=> .inr y, .inl fun _=>N.kp.block b u t, .inr g⟩,rfl,fun k o e=>N.sat k o (N.le.le k o e),g⟩
  rcases A.hp with h4 | h4
  .exact X7v A.hst.sat J h4 L ok q M fun d z N g=>p N g
  .have hi:=X7h (ok:=V8) (l:=l) (cs:=cs) (r:=r) (i:=i) (v:=x)
   refine X7v A.hst.sat J h4 L ok f M fun d z N g=>?_;rw[hi] at g⊢;exact p N g
theorem Oe {B d:Nat} {D i:Nat->Prop} {m c:World} {b:Q2} {h g:List Cel} {a:List Value} {G:Bool->Prop} {f:Bool} (hG:G f) (N:Nxt D w σ m b) (s:HeapIs B i b m hp tv room h) (n: ∀j,i j->D j\/w.heap.size<=j) (p: ¬i d) (t:w.heap.size<=d)
 (z:Kpt (fun j=>j=d) m c) (q:X3 c b) (v:Z7 b c d a) (o:a.length=3) (y:E0 b (Q3 l,room,g) a)
 (hh: ∀a f w' σ' D',G f->Nxt D w σ w' σ'->HeapIs B D' σ' w' hp tv room h->(∀j,D' j->D j\/w.heap.size<=j)->E0 σ' (Q3 l,room,g) a->K (.tuple #[.agg a.toArray, .bool f]) w'):
 J4 P T.a (.pointer (some ⟨d,0,none⟩)) c fun A=>K (.tuple #[A, .bool f]) c:=by
 refine M5 v o ?_;have r:Nxt (fun j=>j=d) m b c b:=⟨z,SLe.refl _,fun _ _=>rfl,q⟩;exact hh a f c b i hG (N.chain r fun j C e=>by omega) (s.nx r fun k u e=>p (e▸u)) n y
set_option maxRecDepth 9999 in
set_option maxHeartbeats 2000000 in
theorem Y1n {B:Nat} {D:Nat->Prop} {x:ActH} {xs:List Value} {cr:List Cel} (hs:X3 w σ) (hg:Glb σ) (hB:B<=w.heap.size) (h:HeapIs B D σ w hp tv room cs) (hr:E0 σ (Q3 l,room,cr) ds) (ht:Tab σ tv (Q3 l)) (wf:Wf l) (ok:Ok (Q3 l)) (hlen:(Q3 l).length<=1000)
 (good:GoodH V8 (Q3 l) room cs) (goodr:GoodH V8 (Q3 l) room cr) (h1:room<=1048576) (hx:Ah σ x xs) (hD0: ∀k,D k->B<=k)
 (hh: ∀ds' bb w' σ' D',(cr=cs->bb=true)->Nxt D w σ w' σ'->HeapIs B D' σ' w' hp tv room (T8 V8 (Q3 l) room cs x)->(∀j,D' j->D j\/w.heap.size<=j)->E0 σ' (Q3 l,room,T8 V8 (Q3 l) room cr x) ds'->K (.tuple #[.agg ds'.toArray, .bool bb]) w'):Q0 P F.bn [hp, .agg ds.toArray, .agg xs.toArray] w K:=Q5I (by
 have hx0:=hx;have hr0:=hr;obtain ⟨lv,cv,rfl,hl,hc⟩:=E0.out hr;obtain ⟨rfl,⟨b1,b2,b3,b4⟩,hv⟩:=hx;have hcl:=Xs cs;have hlf:=good.left;unfold D9 at hlf;have hclr:=Xs cr;have hlr:=goodr.left;unfold D9 at hlr;unfold Gt;simp only[Y5,X5,N2,Jn,L9,D0];unfold X6 W9 Se X4 X2 X1;refine Z6 hs fun q4 w1 σ1 hk1 hq4=>?_;refine Z6 hk1.sat fun q5 w2 σ2 hk2 hq5=>?_;have hS2:=hk1.trans hk2;refine E5 hk2.sat fun b6 w3 σ3 hb6 hk3 hm6=>?_;have hS3:=hS2.trans hk3;have hB6:=C7 hb6 hS2;have hq43:=(hq4.up hk2).up hk3;have hq53:=hq5.up hk3;have h3:=h.up hS3;have hr3:=W0 hr0 ⟨hS3.le⟩;have ht3:=ht.lift ⟨hS3.le⟩;have hg3:=hg.lift ⟨hS3.le⟩;refine U7 ?_;refine ld (i:=0) hk3.sat hq53 rfl ?_;refine E7 ?_;have hDl: ∀k,D k->k<w.heap.size:=fun k hk=>(h.mem hk).2.1;have htk:U9 cs<=1048576:=by omega
 have htr:U9 cr<=1048576:=by omega
 by_cases e0:x.kind=0
 .rw[decide_eq_true e0]
  have ea:T8 V8 (Q3 l) room cs x=(Vf (Q3 l) room cs x.s).1:=by unfold T8;rw[if_pos e0]
  have er:T8 V8 (Q3 l) room cr x=(Vf (Q3 l) room cr x.s).1:=by unfold T8;rw[if_pos e0]
  rw[ea,er] at hh;refine Z1 ?_;refine Z3 hk3.sat hq43 rfl ?_;refine U7 ?_;refine ld (i:=1) hk3.sat hq53 rfl ?_;refine X79 hk3.sat hr3 ok hlen b2 goodr.left h1 fun ds' w4 σ4 hk4 hr4=>?_;refine J5 (vs:=[_,_]) rfl ?_;refine J5 (vs:=[_,_]) rfl ?_;have hS4:=hS3.trans hk4;refine E5 hk4.sat fun b8 w5 σ5 hb8 hk5 hm8=>?_;have hS5:=hS4.trans hk5;have hB8:=C7 hb8 hS4;have hr5:=W0 hr4 ⟨hk5.le⟩;obtain ⟨lv',cv',hde,_,_⟩:=E0.out hr4;subst hde;refine Ms (ds:=[lv',I room,cv']) hm8 rfl rfl (by rw[List.all_toArray];exact List.all_eq_true.2 (Rep.one hr5)) fun w6 u6 hm86=>?_
  obtain ⟨σ7,hS7,hq8,l57,o7⟩:=Q88 (x:=(Q3 l,room,(Vf (Q3 l) room cr x.s).1)) hS5 hB8 hm8 u6 hm86;have l37:SLe σ3 σ7:=(SLe.more ⟨hk4.le⟩ ⟨hk5.le⟩).more l57;have hb68:b6≠b8:=by have:=(hm6.up hk4).lt;omega
  have hm66:=((hm6.up hk4).up hk5).upd u6 hb68;have hm67:Z7 σ7 w6 b6 _:=⟨(o7 b6 hb68).trans hm66.1,hm66.2⟩;have hq57:=hq53.lift l37;have hq47:=hq43.lift l37;refine U7 ?_;refine ld (i:=1) hS7.sat hq57 rfl ?_;refine X09 hS7.sat (Nat.le_trans hB hS7.bel.size) (h.up hS7) (ht.lift ⟨hS7.le⟩) ok b2 good.left h1 fun w8 σ8 D8 N8 h8 hD8=>?_;refine J5 (vs:=[_,_]) rfl ?_;refine J5 (vs:=[_,_]) rfl ?_;have N:=(Nxt.of_stp (D:=D) hS7).chain N8 fun k _ e=>e;have hm68:=hm67.nx N8 fun e=>by have:=hDl _ e;omega
  have hne8: ¬D8 b6:=fun e=>by
   have:=hm67.lt
   rcases hD8 _ e with e | e
   .have:=hDl _ e;omega
   .omega
  have hD8': ∀j,D8 j->D j\/w.heap.size<=j:=fun j hj=>(hD8 j hj).imp id fun e=>Nat.le_trans hS7.bel.size e;have hq48:=hq47.lift N8.le;have hq88:=hq8.lift N8.le;have hc8:Sl 2 Xt σ8 cv cr:=hc.lift N.le;have hr8:=W0 hr5 (l57.more N8.le);have hsame:cr=cs->(Vf (Q3 l) room cr x.s).2=(Vf (Q3 l) room cs x.s).2:=fun h=>by rw[h]
  generalize (Vf (Q3 l) room cs x.s).2=e at*;generalize (Vf (Q3 l) room cr x.s).2=f at*;refine X0v (w0:=Q0W w8) (σ0:=fun _=>none) (n:=3) [lv',I room,cv'] (Uu N8.sat) (Nat.zero_le _) hm68 rfl rfl ?_;unfold atM
  by_cases hfe:f=e
  case neg=>
   have hz0:decide (f=e)=false:=decide_eq_false hfe
   (repeat (apply Y3;(· intros;(have hzz:=VarB.hs Q8);(repeat (rename_i hx;subst hx));(try simp only[hz0,decide_true,Bool.not_true,Bool.not_false,Bool.false_eq_true,Bool.true_eq_false,reduceIte,↓M2,M2,Mb,reduceIte]);(repeat' (first | (with_reducible exact Ql rfl) | (with_reducible exact Vz (Stp.bel (by (repeat (first | exact Stp.refl (by (first | assumption | exact Stp.sat Q8 | exact Hst.sat Q8)) | assumption | refine Stp.trans ?_ (by first | assumption | exact Hst.stp Q8))))) rfl) | (with_reducible intro _) | (simp only[↓M2,M2,Mb,reduceIte]) | (with_reducible show Q7 _ _ _ _ _;first | refine Y6 aS aL aR ?_ | refine Z3 aS aL aR ?_ | refine ld aS aL aR ?_) | (with_reducible show indexAddr _ _ _ _ _ _;refine Y7 aL au ?_) | (with_reducible show U4 _ _ _ _ _ _ _ _;refine Q6 aL ?_) | (with_reducible show Xv _ _ _ _ _ _;refine W3 aR ?_) | (with_reducible show pick _ _ _ _ _ _;refine F6 ?_) | (apply Ot;intro hh;(try simp only[hh,reduceIte,↓M2,M2,Mb,reduceIte]))));done)))
   refine Ll (φ:=fun v _=>Value.agg [lv',I room,cv'].toArray=v) rfl (Rep.one hr5) (fun v w h=>h) ?_ hm68.1;intros;rename_i hm9
   (repeat (rename_i hx;subst hx))
   rename_i w9 hb9;exact Oe (G:=fun b=>cr=cs->b=true) (fun h=>absurd (hsame h) hfe) N h8 hD8' hne8 hB6 hb9.kp hb9.hst.sat hm9 rfl hr8 hh
  subst hfe
  by_cases e1:f=0
  .subst e1
   simp only[reduceIte];have hz0:decide True=true:=decide_true _
   (repeat (apply Y3;(· intros;(have hzz:=VarB.hs Q8);(repeat (rename_i hx;subst hx));(try simp only[hz0,decide_true,Bool.not_true,Bool.not_false,Bool.false_eq_true,Bool.true_eq_false,reduceIte,↓M2,M2,Mb,reduceIte]);(repeat' (first | (with_reducible exact Ql rfl) | (with_reducible exact Vz (Stp.bel (by (repeat (first | exact Stp.refl (by (first | assumption | exact Stp.sat Q8 | exact Hst.sat Q8)) | assumption | refine Stp.trans ?_ (by first | assumption | exact Hst.stp Q8))))) rfl) | (with_reducible intro _) | (simp only[↓M2,M2,Mb,reduceIte]) | (with_reducible show Q7 _ _ _ _ _;first | refine Y6 aS aL aR ?_ | refine Z3 aS aL aR ?_ | refine ld aS aL aR ?_) | (with_reducible show indexAddr _ _ _ _ _ _;refine Y7 aL au ?_) | (with_reducible show U4 _ _ _ _ _ _ _ _;refine Q6 aL ?_) | (with_reducible show Xv _ _ _ _ _ _;refine W3 aR ?_) | (with_reducible show pick _ _ _ _ _ _;refine F6 ?_) | (apply Ot;intro hh;(try simp only[hh,reduceIte,↓M2,M2,Mb,reduceIte]))));done)))
   refine Ll (φ:=fun v _=>Value.agg [lv',I room,cv'].toArray=v) rfl (Rep.one hr5) (fun v w h=>h) ?_ hm68.1;intros;rename_i hm9
   (repeat (rename_i hx;subst hx))
   rename_i w9 hb9;exact Oe (G:=fun b=>cr=cs->b=true) (fun h=>by rw[h];exact decide_eq_true rfl) N h8 hD8' hne8 hB6 hb9.kp hb9.hst.sat hm9 rfl hr8 hh
  .simp only[if_neg e1]
   have hz0:decide (f=0)=false:=decide_eq_false e1
   (repeat (apply Y3;(· intros;(have hzz:=VarB.hs Q8);(repeat (rename_i hx;subst hx));(try simp only[hz0,decide_true,Bool.not_true,Bool.not_false,Bool.false_eq_true,Bool.true_eq_false,reduceIte,↓M2,M2,Mb,reduceIte]);(repeat' (first | (with_reducible exact Ql rfl) | (with_reducible exact Vz (Stp.bel (by (repeat (first | exact Stp.refl (by (first | assumption | exact Stp.sat Q8 | exact Hst.sat Q8)) | assumption | refine Stp.trans ?_ (by first | assumption | exact Hst.stp Q8))))) rfl) | (with_reducible intro _) | (simp only[↓M2,M2,Mb,reduceIte]) | (with_reducible show Q7 _ _ _ _ _;first | refine Y6 aS aL aR ?_ | refine Z3 aS aL aR ?_ | refine ld aS aL aR ?_) | (with_reducible show indexAddr _ _ _ _ _ _;refine Y7 aL au ?_) | (with_reducible show U4 _ _ _ _ _ _ _ _;refine Q6 aL ?_) | (with_reducible show Xv _ _ _ _ _ _;refine W3 aR ?_) | (with_reducible show pick _ _ _ _ _ _;refine F6 ?_) | (apply Ot;intro hh;(try simp only[hh,reduceIte,↓M2,M2,Mb,reduceIte]))));done)))
   refine Ll (φ:=fun v _=>Value.agg [lv',I room,cv'].toArray=v) rfl (Rep.one hr5) (fun v w h=>h) ?_ hm68.1;intros;rename_i hm9
   (repeat (rename_i hx;subst hx))
   rename_i w9 hb9;exact Oe (G:=fun b=>cr=cs->b=true) (fun _=>rfl) N h8 hD8' hne8 hB6 hb9.kp hb9.hst.sat hm9 rfl hr8 hh
 rw[decide_eq_false e0];refine Z0 ?_;refine E7 ?_
 by_cases e1k:x.kind=1
 .rw[decide_eq_true e1k]
  have ea:T8 V8 (Q3 l) room cs x=(Lg (Q3 l) room cs x.s x.n).1:=by unfold T8;rw[if_neg e0,if_pos e1k]
  have er:T8 V8 (Q3 l) room cr x=(Lg (Q3 l) room cr x.s x.n).1:=by unfold T8;rw[if_neg e0,if_pos e1k]
  rw[ea,er] at hh;refine Z1 ?_;refine Z3 hk3.sat hq43 rfl ?_;refine U7 ?_;refine ld (i:=1) hk3.sat hq53 rfl ?_;refine U7 ?_;refine ld (i:=2) hk3.sat hq53 rfl ?_;refine X8R hk3.sat hr3 b2 goodr.left h1 fun ds' w4 σ4 hk4 hr4=>?_;refine J5 (vs:=[_,_]) rfl ?_;refine J5 (vs:=[_,_]) rfl ?_;have hS4:=hS3.trans hk4;refine E5 hk4.sat fun b8 w5 σ5 hb8 hk5 hm8=>?_;have hS5:=hS4.trans hk5;have hB8:=C7 hb8 hS4;have hr5:=W0 hr4 ⟨hk5.le⟩;obtain ⟨lv',cv',hde,_,_⟩:=E0.out hr4;subst hde;refine Ms (ds:=[lv',I room,cv']) hm8 rfl rfl (by rw[List.all_toArray];exact List.all_eq_true.2 (Rep.one hr5)) fun w6 u6 hm86=>?_
  obtain ⟨σ7,hS7,hq8,l57,o7⟩:=Q88 (x:=(Q3 l,room,(Lg (Q3 l) room cr x.s x.n).1)) hS5 hB8 hm8 u6 hm86;have l37:SLe σ3 σ7:=(SLe.more ⟨hk4.le⟩ ⟨hk5.le⟩).more l57;have hb68:b6≠b8:=by have:=(hm6.up hk4).lt;omega
  have hm66:=((hm6.up hk4).up hk5).upd u6 hb68;have hm67:Z7 σ7 w6 b6 _:=⟨(o7 b6 hb68).trans hm66.1,hm66.2⟩;have hq57:=hq53.lift l37;have hq47:=hq43.lift l37;refine U7 ?_;refine ld (i:=1) hS7.sat hq57 rfl ?_;refine U7 ?_;refine ld (i:=2) hS7.sat hq57 rfl ?_;refine X7X hS7.sat (Nat.le_trans hB hS7.bel.size) (h.up hS7) (ht.lift ⟨hS7.le⟩) b2 good.left h1 fun w8 σ8 D8 N8 h8 hD8=>?_;refine J5 (vs:=[_,_]) rfl ?_;refine J5 (vs:=[_,_]) rfl ?_;have N:=(Nxt.of_stp (D:=D) hS7).chain N8 fun k _ e=>e;have hm68:=hm67.nx N8 fun e=>by have:=hDl _ e;omega
  have hne8: ¬D8 b6:=fun e=>by
   have:=hm67.lt
   rcases hD8 _ e with e | e
   .have:=hDl _ e;omega
   .omega
  have hD8': ∀j,D8 j->D j\/w.heap.size<=j:=fun j hj=>(hD8 j hj).imp id fun e=>Nat.le_trans hS7.bel.size e;have hq48:=hq47.lift N8.le;have hq88:=hq8.lift N8.le;have hc8:Sl 2 Xt σ8 cv cr:=hc.lift N.le;have hr8:=W0 hr5 (l57.more N8.le);have hsame:cr=cs->(Lg (Q3 l) room cr x.s x.n).2=(Lg (Q3 l) room cs x.s x.n).2:=fun h=>by rw[h]
  generalize (Lg (Q3 l) room cs x.s x.n).2=e at*;generalize (Lg (Q3 l) room cr x.s x.n).2=f at*;refine X0v (w0:=Q0W w8) (σ0:=fun _=>none) (n:=3) [lv',I room,cv'] (Uu N8.sat) (Nat.zero_le _) hm68 rfl rfl ?_;unfold atM
  by_cases hfe:f=e
  case neg=>
   have hz0:decide (f=e)=false:=decide_eq_false hfe
   (repeat (apply Y3;(· intros;(have hzz:=VarB.hs Q8);(repeat (rename_i hx;subst hx));(try simp only[hz0,decide_true,Bool.not_true,Bool.not_false,Bool.false_eq_true,Bool.true_eq_false,reduceIte,↓M2,M2,Mb,reduceIte]);(repeat' (first | (with_reducible exact Ql rfl) | (with_reducible exact Vz (Stp.bel (by (repeat (first | exact Stp.refl (by (first | assumption | exact Stp.sat Q8 | exact Hst.sat Q8)) | assumption | refine Stp.trans ?_ (by first | assumption | exact Hst.stp Q8))))) rfl) | (with_reducible intro _) | (simp only[↓M2,M2,Mb,reduceIte]) | (with_reducible show Q7 _ _ _ _ _;first | refine Y6 aS aL aR ?_ | refine Z3 aS aL aR ?_ | refine ld aS aL aR ?_) | (with_reducible show indexAddr _ _ _ _ _ _;refine Y7 aL au ?_) | (with_reducible show U4 _ _ _ _ _ _ _ _;refine Q6 aL ?_) | (with_reducible show Xv _ _ _ _ _ _;refine W3 aR ?_) | (with_reducible show pick _ _ _ _ _ _;refine F6 ?_) | (apply Ot;intro hh;(try simp only[hh,reduceIte,↓M2,M2,Mb,reduceIte]))));done)))
   refine Ll (φ:=fun v _=>Value.agg [lv',I room,cv'].toArray=v) rfl (Rep.one hr5) (fun v w h=>h) ?_ hm68.1;intros;rename_i hm9
   (repeat (rename_i hx;subst hx))
   rename_i w9 hb9;exact Oe (G:=fun b=>cr=cs->b=true) (fun h=>absurd (hsame h) hfe) N h8 hD8' hne8 hB6 hb9.kp hb9.hst.sat hm9 rfl hr8 hh
  subst hfe
  by_cases e1:f=0
  .subst e1
   simp only[reduceIte];have hz0:decide True=true:=decide_true _
   (repeat (apply Y3;(· intros;(have hzz:=VarB.hs Q8);(repeat (rename_i hx;subst hx));(try simp only[hz0,decide_true,Bool.not_true,Bool.not_false,Bool.false_eq_true,Bool.true_eq_false,reduceIte,↓M2,M2,Mb,reduceIte]);(repeat' (first | (with_reducible exact Ql rfl) | (with_reducible exact Vz (Stp.bel (by (repeat (first | exact Stp.refl (by (first | assumption | exact Stp.sat Q8 | exact Hst.sat Q8)) | assumption | refine Stp.trans ?_ (by first | assumption | exact Hst.stp Q8))))) rfl) | (with_reducible intro _) | (simp only[↓M2,M2,Mb,reduceIte]) | (with_reducible show Q7 _ _ _ _ _;first | refine Y6 aS aL aR ?_ | refine Z3 aS aL aR ?_ | refine ld aS aL aR ?_) | (with_reducible show indexAddr _ _ _ _ _ _;refine Y7 aL au ?_) | (with_reducible show U4 _ _ _ _ _ _ _ _;refine Q6 aL ?_) | (with_reducible show Xv _ _ _ _ _ _;refine W3 aR ?_) | (with_reducible show pick _ _ _ _ _ _;refine F6 ?_) | (apply Ot;intro hh;(try simp only[hh,reduceIte,↓M2,M2,Mb,reduceIte]))));done)))
   refine Ll (φ:=fun v _=>Value.agg [lv',I room,cv'].toArray=v) rfl (Rep.one hr5) (fun v w h=>h) ?_ hm68.1;intros;rename_i hm9
   (repeat (rename_i hx;subst hx))
   rename_i w9 hb9;exact Oe (G:=fun b=>cr=cs->b=true) (fun h=>by rw[h];exact decide_eq_true rfl) N h8 hD8' hne8 hB6 hb9.kp hb9.hst.sat hm9 rfl hr8 hh
  .simp only[if_neg e1]
   have hz0:decide (f=0)=false:=decide_eq_false e1
   (repeat (apply Y3;(· intros;(have hzz:=VarB.hs Q8);(repeat (rename_i hx;subst hx));(try simp only[hz0,decide_true,Bool.not_true,Bool.not_false,Bool.false_eq_true,Bool.true_eq_false,reduceIte,↓M2,M2,Mb,reduceIte]);(repeat' (first | (with_reducible exact Ql rfl) | (with_reducible exact Vz (Stp.bel (by (repeat (first | exact Stp.refl (by (first | assumption | exact Stp.sat Q8 | exact Hst.sat Q8)) | assumption | refine Stp.trans ?_ (by first | assumption | exact Hst.stp Q8))))) rfl) | (with_reducible intro _) | (simp only[↓M2,M2,Mb,reduceIte]) | (with_reducible show Q7 _ _ _ _ _;first | refine Y6 aS aL aR ?_ | refine Z3 aS aL aR ?_ | refine ld aS aL aR ?_) | (with_reducible show indexAddr _ _ _ _ _ _;refine Y7 aL au ?_) | (with_reducible show U4 _ _ _ _ _ _ _ _;refine Q6 aL ?_) | (with_reducible show Xv _ _ _ _ _ _;refine W3 aR ?_) | (with_reducible show pick _ _ _ _ _ _;refine F6 ?_) | (apply Ot;intro hh;(try simp only[hh,reduceIte,↓M2,M2,Mb,reduceIte]))));done)))
   refine Ll (φ:=fun v _=>Value.agg [lv',I room,cv'].toArray=v) rfl (Rep.one hr5) (fun v w h=>h) ?_ hm68.1;intros;rename_i hm9
   (repeat (rename_i hx;subst hx))
   rename_i w9 hb9;exact Oe (G:=fun b=>cr=cs->b=true) (fun _=>rfl) N h8 hD8' hne8 hB6 hb9.kp hb9.hst.sat hm9 rfl hr8 hh
 rw[decide_eq_false e1k];refine Z0 ?_;refine E7 ?_;have hv43:U0 σ3 (q5.add 4) [I x.v.sort,I x.v.n,S x.v.s,I x.v.ref]:=hq53.tail (xs:=[_,_,_,_]);have hvr:O6 σ x.v [I x.v.sort,I x.v.n,S x.v.s,I x.v.ref]:=⟨rfl,hv⟩
 by_cases e2k:x.kind=2
 .rw[decide_eq_true e2k]
  have ea:T8 V8 (Q3 l) room cs x=(G5 V8 (Q3 l) cs x.ref x.n x.v).1:=by unfold T8;rw[if_neg e0,if_neg e1k,if_pos e2k]
  have er:T8 V8 (Q3 l) room cr x=(G5 V8 (Q3 l) cr x.ref x.n x.v).1:=by unfold T8;rw[if_neg e0,if_neg e1k,if_pos e2k]
  rw[ea,er] at hh;have good':=(GoodH.set good x.ref x.n x.v).cells;refine Z1 ?_;refine Z3 hk3.sat hq43 rfl ?_;refine U7 ?_;refine ld (i:=3) hk3.sat hq53 rfl ?_;refine U7 ?_;refine ld (i:=2) hk3.sat hq53 rfl ?_;refine U7 ?_;refine Z3 hk3.sat hv43 rfl ?_;refine Y10 hk3.sat hr3 wf ok hlen goodr.cells htr ⟨rfl,hv⟩ fun ds' w4 σ4 hk4 hr4=>?_;refine J5 (vs:=[_,_]) rfl ?_;refine J5 (vs:=[_,_]) rfl ?_;have hS4:=hS3.trans hk4;refine E5 hk4.sat fun b8 w5 σ5 hb8 hk5 hm8=>?_;have hS5:=hS4.trans hk5;have hB8:=C7 hb8 hS4;have hr5:=W0 hr4 ⟨hk5.le⟩;obtain ⟨lv',cv',hde,_,_⟩:=E0.out hr4;subst hde;refine Ms (ds:=[lv',I room,cv']) hm8 rfl rfl (by rw[List.all_toArray];exact List.all_eq_true.2 (Rep.one hr5)) fun w6 u6 hm86=>?_
  obtain ⟨σ7,hS7,hq8,l57,o7⟩:=Q88 (x:=(Q3 l,room,(G5 V8 (Q3 l) cr x.ref x.n x.v).1)) hS5 hB8 hm8 u6 hm86;have l37:SLe σ3 σ7:=(SLe.more ⟨hk4.le⟩ ⟨hk5.le⟩).more l57;have hb68:b6≠b8:=by have:=(hm6.up hk4).lt;omega
  have hm66:=((hm6.up hk4).up hk5).upd u6 hb68;have hm67:Z7 σ7 w6 b6 _:=⟨(o7 b6 hb68).trans hm66.1,hm66.2⟩;have hq57:=hq53.lift l37;have hv47:=hv43.lift l37;have hr7:=W0 hr5 l57;have hbD: ¬D b6:=fun e=>by have:=hDl _ e;omega
  refine X9H (w0:=Q0W w6) (σ0:=fun _=>none) (n:=3) (G5 V8 (Q3 l) cs x.ref x.n x.v).1 [lv',I room,cv'] (Uu hS7.sat) (Nat.zero_le _) (Nat.zero_le _) hbD hm67 rfl rfl (h.up hS7) ?_
  (repeat (apply Y3;(· intros;(have hzz:=SetB.hs Q8);(repeat (rename_i hx;subst hx));(repeat' (first | (with_reducible exact X0r rfl) | (with_reducible exact X8j (Stp.bel (by (repeat (first | exact Stp.refl (by (first | assumption | exact Stp.sat Q8 | exact Hst.sat Q8)) | assumption | refine Stp.trans ?_ (by first | assumption | exact Hst.stp Q8))))) rfl) | (with_reducible intro _) | (simp only[↓M2,M2,Mb,reduceIte]) | (with_reducible show Q7 _ _ _ _ _;first | refine Y6 aS aL aR ?_ | refine Z3 aS aL aR ?_ | refine ld aS aL aR ?_) | (with_reducible show indexAddr _ _ _ _ _ _;refine Y7 aL au ?_) | (with_reducible show U4 _ _ _ _ _ _ _ _;refine Q6 aL ?_) | (with_reducible show Xv _ _ _ _ _ _;refine W3 aR ?_) | (with_reducible show pick _ _ _ _ _ _;refine F6 ?_)));done)))
  refine X8o (hg.lift ⟨hS7.le⟩) (ht.lift ⟨hS7.le⟩) ok good.cells good' ⟨rfl,hv⟩ hbD hm67.1 (fun _ _ h=>h) (fun _ _ h=>h) (fun _ _ h=>h) ?_;refine Y3 (V:= .bool (decide ((G5 V8 (Q3 l) cs x.ref x.n x.v).2=(G5 V8 (Q3 l) cr x.ref x.n x.v).2))) (fun t w hb ht=>?_) ?_
  .obtain ⟨rfl,_,_⟩:=ht
   refine E7 ?_;exact X0r rfl
  refine X6G (φ:=fun v _=>Value.agg [lv',I room,cv'].toArray=v) rfl (Rep.one hr5) (fun v w h=>h) ?_ hm67.1 hbD;intros;rename_i hm9
  (repeat (rename_i hx;subst hx))
  rename_i hset
  (repeat (rename_i hx;subst hx))
  rename_i w9 hb9;obtain ⟨_,hs9,h9⟩:=hset;refine M5 hm9 rfl ?_;have Nb:Nxt (fun j=>j=b6\/D j) w6 σ7 w9 σ7:=⟨hb9.kp,SLe.refl _,fun _ _=>rfl,hs9⟩;exact hh _ _ w9 σ7 D (fun h=>by rw[h];exact decide_eq_true rfl) ((Nxt.of_stp (D:=D) hS7).chain Nb fun j hj e=>e.elim (fun e=>by omega) id) h9 (fun j hj=> .inl hj) hr7
 rw[decide_eq_false e2k];refine Z0 ?_;refine E7 ?_
 by_cases e3k:x.kind=3
 .rw[decide_eq_true e3k]
  have ea:T8 V8 (Q3 l) room cs x=cs:=by unfold T8;rw[if_neg e0,if_neg e1k,if_neg e2k,if_neg Q5]
  have er:T8 V8 (Q3 l) room cr x=cr:=by unfold T8;rw[if_neg e0,if_neg e1k,if_neg e2k,if_neg Q5]
  rw[ea,er] at hh;refine Z1 ?_;refine Z3 hk3.sat hq43 rfl ?_;refine U7 ?_;refine ld (i:=3) hk3.sat hq53 rfl ?_;refine U7 ?_;refine ld (i:=2) hk3.sat hq53 rfl ?_;refine Y0Z hk3.sat hr3 fun w4 σ4 hk4=>?_;refine J5 (vs:=[_,_]) rfl ?_;refine J5 (vs:=[_,_]) rfl ?_;refine Z9 (sz:=4) hk4.sat aR aR Ge fun q8 w5 σ5 hk5 hq8=>?_;have hk35:=hk4.trans hk5;have hS5:=hS3.trans hk35;have h5:=h.up hS5;have hq55:=hq53.lift ⟨hk35.le⟩;refine U7 ?_;refine ld (i:=3) hk35.sat hq55 rfl ?_;refine U7 ?_;refine ld (i:=2) hk35.sat hq55 rfl ?_;obtain ⟨σf,sf,lef,hsl,of⟩:=h5.freeze hk35.sat;refine X0a sf hsl fun w6 σ6 hk6=>?_;refine J5 (vs:=[_,_]) rfl ?_;refine J5 (vs:=[_,_]) rfl ?_;refine Z9 (sz:=4) hk6.sat aR aR Ge fun q9 w7 σ7 hk7 hq9=>?_;have hk57:=hk6.trans hk7;have hS57:=hk57.weak lef.le;have hS7:=hS5.trans hS57;have l57:SLe σ5 σ7:=lef.more ⟨hk57.le⟩;have hbD: ¬D b6:=fun e=>by have:=hDl _ e;omega
  have hm65:=hm6.up hk35;have hm6f:Z7 σf w5 b6 _:=⟨(of b6 hbD).trans hm65.1,hm65.2⟩;have hm67:=hm6f.up hk57;have hq47:=(hq43.lift ⟨hk35.le⟩).lift l57;have hq87:=hq8.lift l57;refine X0v (w0:=Q0W w7) (σ0:=fun _=>none) (n:=3) [lv,I room,cv] (Uu hk57.sat) (Nat.zero_le _) hm67 rfl rfl ?_;have n5:σ5 b6=none:=hm65.1;have hq97:=hq9
  by_cases hge:Lz cr x.ref x.n=Lz cs x.ref x.n
  .have hz0:decide True=true:=decide_true _
   (repeat (apply Y3;(· intros;(have hzz:=VarB.hs Q8);(repeat (rename_i hx;subst hx));(try simp only[hz0,decide_true,Bool.not_true,Bool.not_false,Bool.false_eq_true,Bool.true_eq_false,reduceIte,↓M2,M2,Mb,reduceIte]);(repeat' (first | (with_reducible exact Ql rfl) | (with_reducible exact Vz (Stp.bel (by (repeat (first | exact Stp.refl (by (first | assumption | exact Stp.sat Q8 | exact Hst.sat Q8)) | assumption | refine Stp.trans ?_ (by first | assumption | exact Hst.stp Q8))))) rfl) | (with_reducible intro _) | (simp only[↓M2,M2,Mb,reduceIte]) | (with_reducible show Q7 _ _ _ _ _;first | refine Y6 aS aL aR ?_ | refine Z3 aS aL aR ?_ | refine ld aS aL aR ?_) | (with_reducible show indexAddr _ _ _ _ _ _;refine Y7 aL au ?_) | (with_reducible show U4 _ _ _ _ _ _ _ _;refine Q6 aL ?_) | (with_reducible show Xv _ _ _ _ _ _;refine W3 aR ?_) | (with_reducible show pick _ _ _ _ _ _;refine F6 ?_) | (apply Ot;intro hh;(try simp only[hh,reduceIte,↓M2,M2,Mb,reduceIte]))));done)))
   refine Y3 (V:= .bool true) (by
    intros
    (repeat (rename_i hx;subst hx))
    refine Bh ?_;exact Ql (by rw[hge,decide_eq_true rfl])) ?_
   (repeat (apply Y3;(· intros;(have hzz:=VarB.hs Q8);(repeat (rename_i hx;subst hx));(try simp only[hz0,decide_true,Bool.not_true,Bool.not_false,Bool.false_eq_true,Bool.true_eq_false,reduceIte,↓M2,M2,Mb,reduceIte]);(repeat' (first | (with_reducible exact Ql rfl) | (with_reducible exact Vz (Stp.bel (by (repeat (first | exact Stp.refl (by (first | assumption | exact Stp.sat Q8 | exact Hst.sat Q8)) | assumption | refine Stp.trans ?_ (by first | assumption | exact Hst.stp Q8))))) rfl) | (with_reducible intro _) | (simp only[↓M2,M2,Mb,reduceIte]) | (with_reducible show Q7 _ _ _ _ _;first | refine Y6 aS aL aR ?_ | refine Z3 aS aL aR ?_ | refine ld aS aL aR ?_) | (with_reducible show indexAddr _ _ _ _ _ _;refine Y7 aL au ?_) | (with_reducible show U4 _ _ _ _ _ _ _ _;refine Q6 aL ?_) | (with_reducible show Xv _ _ _ _ _ _;refine W3 aR ?_) | (with_reducible show pick _ _ _ _ _ _;refine F6 ?_) | (apply Ot;intro hh;(try simp only[hh,reduceIte,↓M2,M2,Mb,reduceIte]))));done)))
   refine Ll (φ:=fun v _=>Value.agg [lv,I room,cv].toArray=v) rfl (Rep.one hr3) (fun v w h=>h) ?_ hm67.1;intros;rename_i hm9
   (repeat (rename_i hx;subst hx))
   rename_i w9 hb9;exact Oe (G:=fun b=>cr=cs->b=true) (fun h=>by rw[h];exact decide_eq_true rfl) (Nxt.of_stp (D:=D) hS7) (h5.up hS57) (fun j hj=> .inl hj) hbD hB6 hb9.kp (fun k o e=>hb9.hst.sat k o (l57.le k o e)) ⟨n5,hm9.2⟩ rfl (W0 hr0 ⟨hS7.le⟩) hh
  .have hz0:decide True=true:=decide_true _
   (repeat (apply Y3;(· intros;(have hzz:=VarB.hs Q8);(repeat (rename_i hx;subst hx));(try simp only[hz0,decide_true,Bool.not_true,Bool.not_false,Bool.false_eq_true,Bool.true_eq_false,reduceIte,↓M2,M2,Mb,reduceIte]);(repeat' (first | (with_reducible exact Ql rfl) | (with_reducible exact Vz (Stp.bel (by (repeat (first | exact Stp.refl (by (first | assumption | exact Stp.sat Q8 | exact Hst.sat Q8)) | assumption | refine Stp.trans ?_ (by first | assumption | exact Hst.stp Q8))))) rfl) | (with_reducible intro _) | (simp only[↓M2,M2,Mb,reduceIte]) | (with_reducible show Q7 _ _ _ _ _;first | refine Y6 aS aL aR ?_ | refine Z3 aS aL aR ?_ | refine ld aS aL aR ?_) | (with_reducible show indexAddr _ _ _ _ _ _;refine Y7 aL au ?_) | (with_reducible show U4 _ _ _ _ _ _ _ _;refine Q6 aL ?_) | (with_reducible show Xv _ _ _ _ _ _;refine W3 aR ?_) | (with_reducible show pick _ _ _ _ _ _;refine F6 ?_) | (apply Ot;intro hh;(try simp only[hh,reduceIte,↓M2,M2,Mb,reduceIte]))));done)))
   refine Y3 (V:= .bool false) (by
    intros
    (repeat (rename_i hx;subst hx))
    refine Bh ?_;exact Ql (by rw[decide_eq_false hge])) ?_
   (repeat (apply Y3;(· intros;(have hzz:=VarB.hs Q8);(repeat (rename_i hx;subst hx));(try simp only[hz0,decide_true,Bool.not_true,Bool.not_false,Bool.false_eq_true,Bool.true_eq_false,reduceIte,↓M2,M2,Mb,reduceIte]);(repeat' (first | (with_reducible exact Ql rfl) | (with_reducible exact Vz (Stp.bel (by (repeat (first | exact Stp.refl (by (first | assumption | exact Stp.sat Q8 | exact Hst.sat Q8)) | assumption | refine Stp.trans ?_ (by first | assumption | exact Hst.stp Q8))))) rfl) | (with_reducible intro _) | (simp only[↓M2,M2,Mb,reduceIte]) | (with_reducible show Q7 _ _ _ _ _;first | refine Y6 aS aL aR ?_ | refine Z3 aS aL aR ?_ | refine ld aS aL aR ?_) | (with_reducible show indexAddr _ _ _ _ _ _;refine Y7 aL au ?_) | (with_reducible show U4 _ _ _ _ _ _ _ _;refine Q6 aL ?_) | (with_reducible show Xv _ _ _ _ _ _;refine W3 aR ?_) | (with_reducible show pick _ _ _ _ _ _;refine F6 ?_) | (apply Ot;intro hh;(try simp only[hh,reduceIte,↓M2,M2,Mb,reduceIte]))));done)))
   refine Ll (φ:=fun v _=>Value.agg [lv,I room,cv].toArray=v) rfl (Rep.one hr3) (fun v w h=>h) ?_ hm67.1;intros;rename_i hm9
   (repeat (rename_i hx;subst hx))
   rename_i w9 hb9;exact Oe (G:=fun b=>cr=cs->b=true) (fun h=>absurd (by rw[h]) hge) (Nxt.of_stp (D:=D) hS7) (h5.up hS57) (fun j hj=> .inl hj) hbD hB6 hb9.kp (fun k o e=>hb9.hst.sat k o (l57.le k o e)) ⟨n5,hm9.2⟩ rfl (W0 hr0 ⟨hS7.le⟩) hh
 rw[decide_eq_false e3k];refine Z0 ?_;refine E7 ?_
 by_cases e4k:x.kind=4
 .rw[decide_eq_true e4k]
  have ea:T8 V8 (Q3 l) room cs x=Q10 cs x.ref:=by unfold T8;rw[if_neg e0,if_neg e1k,if_neg e2k,if_pos e4k]
  have er:T8 V8 (Q3 l) room cr x=Q10 cr x.ref:=by unfold T8;rw[if_neg e0,if_neg e1k,if_neg e2k,if_pos e4k]
  rw[ea,er] at hh;refine Z1 ?_;refine U7 ?_;refine ld (i:=3) hk3.sat hq53 rfl ?_;refine Y0u hk3.sat h3 htk b4 fun w4 σ4 D4 N4 h4 hD4=>?_;have hq54:=hq53.lift N4.le;have hq44:=hq43.lift N4.le;refine Z3 N4.sat hq44 rfl ?_;refine U7 ?_;refine ld (i:=3) N4.sat hq54 rfl ?_;refine Y0X N4.sat (W0 hr3 N4.le) htr b4 fun ds' w5 σ5 hk5 hr5=>?_;have hbD: ¬D b6:=fun e=>by have:=hDl _ e;omega
  have hm65:=(hm6.nx N4 hbD).up hk5;obtain ⟨lv',cv',hde,_,_⟩:=E0.out hr5;subst hde;refine Ms (ds:=[lv',I room,cv']) hm65 rfl rfl (by rw[List.all_toArray];exact List.all_eq_true.2 (Rep.one hr5)) fun w6 u6 hm66=>?_
  have N:=(Nxt.of_stp (D:=D) hS3).chain (N4.trans (Nxt.of_stp hk5)) fun j _ e=>e;exact Oe (G:=fun b=>cr=cs->b=true) (fun _=>rfl) N (h4.up hk5) (fun j hj=> .inl (hD4 j hj)) (fun e=>hbD (hD4 _ e)) hB6 (Kpt.of_upd u6 rfl) (u6.stp (Uu hk5.sat) (Nat.zero_le _) hm65.1).sat hm66 rfl hr5 hh
 rw[decide_eq_false e4k];refine Z0 ?_;have ea:T8 V8 (Q3 l) room cs x=cs:=by unfold T8;rw[if_neg e0,if_neg e1k,if_neg e2k,if_neg e4k]
 have er:T8 V8 (Q3 l) room cr x=cr:=by unfold T8;rw[if_neg e0,if_neg e1k,if_neg e2k,if_neg e4k]
 rw[ea,er] at hh;refine Z3 hk3.sat hq43 rfl ?_;refine Ms (ds:=[lv,I room,cv]) hm6 rfl rfl (by rw[List.all_toArray];exact List.all_eq_true.2 (Rep.one hr3)) fun w6 u6 hm66=>?_
 have hbD: ¬D b6:=fun e=>by have:=hDl _ e;omega
 exact Oe (G:=fun b=>cr=cs->b=true) (fun _=>rfl) (Nxt.of_stp (D:=D) hS3) h3 (fun j hj=> .inl hj) hbD hB6 (Kpt.of_upd u6 rfl) (u6.stp (Uu hk3.sat) (Nat.zero_le _) hm6.1).sat hm66 rfl hr3 hh)
end Go.Proofs.Y
namespace Go.Emb
theorem Y1z {w:World} {A:World->Prop} (h:A w.drew):sq w A:=by rw[X4y];exact h
end Go.Emb
namespace Go.Proofs.Y
open Go.Emb Go.RowKit Go.Kd Go.Hm
variable {w w' w0 : World} {K : Value -> World -> Prop} {σ σ' σ0 : Q2} {room : Int} {cs cr : List Cel} {hp tv : Value} {b6 : Nat}
structure RunG (w0 : World) (σ0 : Q2) (w : World) (σ : Q2) (hp tv : Value) (b6 : Nat) (room : Int) (cs cr : List Cel) : Prop where
  stp : Stp w0 σ0 w σ
  ex : ∃ D ds, HeapIs w0.heap.size D σ w hp tv room cs /\ ¬ D b6 /\ Z7 σ w b6 ds /\ E0 σ (Q3 W6, room, cr) ds
  bge : w0.heap.size <= b6
  tab : Tab σ tv (Q3 W6)
  ok : Ok (Q3 W6)
  good : GoodH V8 (Q3 W6) room cs
  goodr : GoodH V8 (Q3 W6) room cr
  rm : room <= 1048576
abbrev Run (w0:World) (σ0:Q2) (w:World) (σ:Q2) (hp tv:Value) (b6:Nat) (room:Int) (cs:List Cel):Prop:=RunG w0 σ0 w σ hp tv b6 room cs cs
theorem RunG.up (R:RunG w0 σ0 w σ hp tv b6 room cs cr) (k:Stp w σ w' σ'):RunG w0 σ0 w' σ' hp tv b6 room cs cr:=by
 obtain ⟨D,ds,a,b,c,d⟩:=R.ex;exact ⟨R.stp.trans k,⟨D,ds,a.up k,b,c.up k,W0 d ⟨k.le⟩⟩,R.bge,R.tab.lift ⟨k.le⟩,R.ok,R.good,R.goodr,R.rm⟩
theorem RunG.below (R:RunG w0 σ0 w σ hp tv b6 room cs cr) (k:Below w.heap.size w w'):RunG w0 σ0 w' σ hp tv b6 room cs cr:=R.up (Stp.of_below R.stp.sat k)
theorem RunG.act {x:ActH} {l ds:List Value} {D:Nat->Prop} (R:RunG w0 σ0 w σ hp tv b6 room cs cr) (r:Glb σ0) (d:HeapIs w0.heap.size D σ w hp tv room cs) (m: ¬D b6) (n:Z7 σ w b6 ds) (p:E0 σ (Q3 W6,room,cr) ds) (t:Ah σ x l)
 (h: ∀a b w' σ' D',HeapIs w0.heap.size D' σ' w' hp tv room (T8 V8 (Q3 W6) room cs x)-> ¬D' b6->Z7 σ' w' b6 ds->E0 σ' (Q3 W6,room,T8 V8 (Q3 W6) room cr x) a->Stp w0 σ0 w' σ'->SLe σ σ'->(cr=cs->b=true)->K (.tuple #[.agg a.toArray, .bool b]) w'):Q0 P F.bn [hp, .agg ds.toArray, .agg l.toArray] w K:=by
 refine Y1n R.stp.sat (r.lift ⟨R.stp.le⟩) R.stp.bel.size d p R.tab Q56 R.ok L7 R.good R.goodr R.rm t (fun k i=>(d.mem i).1) fun a b u v o g c q f j=>?_;have s:=n.lt;exact h a b u v o q (fun e=>(f _ e).elim m fun e=>by omega) (n.nx c m) j (c.stp' R.stp fun k i=>(d.mem i).1) c.le g
end Go.Proofs.Y
namespace Go.Hm
open Go.Kd
def X9N (x:ActH):Bool:=decide (x.s.length<=100)&&decide (x.v.s.length<=5000)
theorem Q4Y: ∀(cs:List Cel) {c:Cel},c∈cs->(c.vals.length:Int)<=U9 cs
 | [],c,h=>by cases h
 | d::cs,c,h=>by
  have e:U9 (d::cs)=1+(d.vals.length:Int)+U9 cs:=by simp[U9]
  have:=C4 cs
  rcases List.mem_cons.1 h with rfl | h
  .omega
  .have:=Q4Y cs h;omega
theorem X94 {cs:List Cel} {n:Nat} (h:U9 cs<=(n:Int)) (r:Int):Jm cs r<=n:=by
 unfold Jm Um
 split
 .rename_i b
  obtain ⟨i,rfl,a⟩:=W7.1 b;rw[L5 a];have:=Q4Y cs (List.getElem_mem a)
  simp;omega
 .simp
end Go.Hm
namespace Go.Proofs.Y
open Go.Emb Go.RowKit Go.Kd Go.Hm
variable {w w' w0 : World} {K : Value -> World -> Prop} {σ σ' σ0 : Q2} {room : Int} {cs cr : List Cel} {hp tv : Value} {b6 : Nat}
def Dd (room:Int) (cs:List Cel) (x:ActH):List Cel:=if X9N x then T8 V8 (Q3 W6) room cs x else cs
def Bn (xs:List ActH):List Cel:=(xs.take 40).foldl (Dd 300) []
theorem X5n {room:Int} {cs:List Cel} (a:V8 []=true) (b:Wf W6) (h:GoodH V8 (Q3 W6) room cs) (x:ActH):GoodH V8 (Q3 W6) room (Dd room cs x):=by
 unfold Dd
 split
 .exact GoodH.act b a h x
 .exact h
theorem Q8Z {room:Int} (a:V8 []=true) (b:Wf W6): ∀(xs:List ActH) {cs:List Cel},GoodH V8 (Q3 W6) room cs->GoodH V8 (Q3 W6) room (xs.foldl (Dd room) cs)
 | [],_,h=>h
 | x::xs,_,h=>Q8Z a b xs (X5n a b h x)
theorem Q6M (xs:List ActH):GoodH V8 (Q3 W6) 300 (Bn xs):=Q8Z Q8m Q56 _ (GoodH.empty L7)
structure Fit (cs : List Cel) : Prop where
  good : ∀ c ∈ cs, GoodC V8 (Q3 W6) cs c
  len : cs.length <= 1048576
  sz : ∀ r, Jm cs r <= 1000000000000
  refs : Q07 cs
theorem X5j {room:Int} (h:GoodH V8 (Q3 W6) room cs) (c:room<=300):Fit cs:=by
 have a:=h.left;unfold D9 at a;have b:=Xs cs;exact ⟨h.cells,by omega,fun r=>Nat.le_trans (X94 (n:=300) Q5 r) L7,X5m h.cells⟩
theorem X5i (xs:List ActH):Fit (Bn xs):=X5j (Q6M xs) L7
theorem Y0n {a:Addr} {b c:Operand} (h:K (.bool true) w):Z2 P .neq T.a5 b c (.pointer (some a)) (.pointer none) w K:=by
 have e:(Op.equal T.a5 (.pointer (some a)) (.pointer none)).run P w= .ok false w:=X1C 9999 _;unfold Z2;rw[Y8 (v:= .bool true) (w':=w) (by simp[eqGuard,Go.binOp,e])]
 exact h
theorem RunG.fix (R:RunG w0 σ0 w σ hp tv b6 room cs cr): ∃c ds,Stp w0 σ0 w c/\SLe σ c/\E2 c hp tv room cs/\Z7 c w b6 ds/\E0 c (Q3 W6,room,cr) ds/\Tab c tv (Q3 W6):=by
 obtain ⟨D,ds,f,h,g,i⟩:=R.ex;obtain ⟨c,l,a,d,of⟩:=f.freeze R.stp.sat;refine ⟨c,ds,⟨R.stp.bel,l,fun b o e=>a.le _ _ (R.stp.le b o e),fun k j=>(of k fun e=>?_).trans (R.stp.old k j)⟩,a,d,⟨(of b6 h).trans g.1,g.2⟩,W0 i a,R.tab.lift a⟩;have:=(f.mem e).1;omega
set_option maxHeartbeats 1000000 in
theorem X7Y {xs:List ActH} {v:Value} (hs:X3 w σ) (hg:Glb σ) (hv:Sl 8 Ah σ v xs)
 (h: ∀a tv ds w' σ',Stp w σ w' σ'->E2 σ' (.pointer (some a)) tv 300 (Bn xs)->E0 σ' (Q3 W6,300,Bn xs) ds->Tab σ' tv (Q3 W6)->Ok (Q3 W6)->K (.tuple #[.pointer (some a), .agg ds.toArray]) w'):Q0 P F.aP [v] w K:=Q1Y (by
 unfold Hi;simp only[Y5,L9,D0];unfold J3 V1 X8 X4 X2 X1;refine E5 hs fun b3 w1 σ1 ag Y ah=>?_;have M:=hg.lift ⟨Y.le⟩;refine X3c Y.sat M L7 fun b a D ds w2 σ2 Z X g Q ok=>?_;rw[show (300 % 301:Int)=300 from rfl] at X g
 refine J5 (vs:=[_,_]) rfl ?_;refine J5 (vs:=[_,_]) rfl ?_;refine E5 Z.sat fun W w3 σ3 r k3 f=>?_;have af:=C7 r Z;refine Ms f rfl (by obtain ⟨C,B,rfl,_⟩:=E0.out g;rfl) (by rw[List.all_toArray];exact List.all_eq_true.2 (Rep.one g)) fun w4 u4 p=>?_
 have m:Stp w2 σ2 w4 σ3:=u4.stp k3 r f.1;have R4:Run w1 σ1 w4 σ3 (.pointer (some ⟨b,0,none⟩)) (.pointer (some a)) W 300 []:=⟨Z.trans m,⟨D,ds,X.up m,fun e=>by have:=(X.mem e).2.1;omega,p,W0 g ⟨m.le⟩⟩,af,Q.lift ⟨m.le⟩,ok,GoodH.empty L7,GoodH.empty L7,by decide⟩
 have an:=hv.up Y;clear Z k3 m X g Q f p u4 r;refine V7 xs.length (fun i w'=>i<=40/\ ∃σ',Run w1 σ1 w' σ' (.pointer (some ⟨b,0,none⟩)) (.pointer (some a)) W 300 ((xs.take i).foldl (Dd 300) [])) ⟨by decide,σ3,R4⟩ fun i w5 d hi N=>?_
 obtain ⟨ae,σ5,E⟩:=N;have s5:=E.stp.sat;have l:=an.up E.stp;have ak:=l.max
 have H:i=xs.length\/i=40->dr w5 fun Tr Br=>V2 Tr (fun A=> ∀w,Br w->Q7 P T.a (.pointer (some ⟨W,0,none⟩)) w (dk Tr A w)) fun A=> ∀R w,Br w->A R w->U8 P T.a (.pointer (some ⟨b3,0,none⟩)) R w fun _u w=>J4 P T.a (.pointer (some ⟨b3,0,none⟩)) w fun r1=>K (.tuple #[.pointer (some ⟨b,0,none⟩),r1]) w:=fun hf=>by
  have e:(xs.take i).foldl (Dd 300) []=Bn xs:=by
   unfold Bn
   rcases hf with rfl | rfl
   .rw[List.take_of_length_le (Nat.le_refl _),List.take_of_length_le ae]
   .rfl
  rw[e] at E;obtain ⟨σf,ac,S5,bq,al,f,j,am⟩:=E.fix;have o:=ah.up S5;refine V3 S5.sat ?_;refine Y3 (V:= .agg ac.toArray) (fun w hb=>Gi (f.up hb.stp) (by obtain ⟨C,B,rfl,_⟩:=E0.out j;rfl) (X9 rfl)) ?_
  rintro _ w6 t rfl;have k6:=t.stp;refine Ms (o.up k6) rfl (by obtain ⟨C,B,rfl,_⟩:=E0.out j;rfl) (by rw[List.all_toArray];exact List.all_eq_true.2 (Rep.one j)) fun w7 u7 ai=>?_
  refine M5 ai (by obtain ⟨C,B,rfl,_⟩:=E0.out j;rfl) ?_
  have S7:Stp w σ w7 σf:=u7.stp (Y.trans (S5.trans k6)) ag o.1;exact h _ _ _ _ _ S7 al j am ok
 refine Y0n ?_
 (repeat refine Hd.h ?_)
 refine Q6 l ?_
 (repeat refine Hd.h ?_)
 refine Y9 ?_
 (repeat refine Hd.h ?_)
 cases hd:decide ((i:Int)<(xs.length:Nat)) with
 | false=>
  (repeat refine Hd.h ?_)
  refine Z0 ?_;exact H (.inl (by simp at hd;omega))
 | true=>
  have c:i<xs.length:=by simpa using hd
  (repeat refine Hd.h ?_)
  refine Y9 ?_
  (repeat refine Hd.h ?_)
  cases L:decide ((i:Int)<40) with
  | false=>
   refine Z0 ?_;exact H (.inr (by simp at L;omega))
  | true=>
   refine Z1 ?_;have bh:i<40:=by simp at L;omega
   refine Qt (fun _ w'=> ∃σ',Run w1 σ1 w' σ' (.pointer (some ⟨b,0,none⟩)) (.pointer (some a)) W 300 ((xs.take (i+1)).foldl (Dd 300) [])) ?_ (fun z dd w6 hz=>?_)
   .have es:(xs.take (i+1)).foldl (Dd 300) []=Dd 300 ((xs.take i).foldl (Dd 300) []) xs[i]:=by
     rw[List.take_add_one,List.getElem?_eq_getElem c,Option.toList_some,List.foldl_append];rfl
    rw[es];generalize (xs.take i).foldl (Dd 300) []=cs at*;obtain ⟨c0,p1,p2,p3⟩:=l.el c;refine Y7 l c ?_;refine Z3 s5 p1 p2 ?_;refine Y0Y s5 p3 fun w6 t=>?_;have U:=E.below t;unfold Dd X9N;cases bk:(decide (xs[i].s.length<=100)&&decide (xs[i].v.s.length<=5000)) with
    | false=>
     refine Z0 ?_;rw[if_neg V5];exact ⟨_,U⟩
    | true=>
     refine Z1 ?_;rw[if_pos rfl];refine Y1z ?_;have n:=U.below (Below.refl _ _).drew;obtain ⟨D7,bc,g1,g2,g3,g4⟩:=n.ex;refine Y7 l c ?_;refine Gi g3 (by obtain ⟨C,B,rfl,_⟩:=E0.out g4;rfl) ?_
     refine Z3 n.stp.sat p1 p2 ?_;refine n.act M g1 g2 g3 g4 p3 fun ab bb w8 σ8 D8 g5 O u y J ao _=>?_;refine J5 (vs:=[_,_]) rfl ?_;refine J5 (vs:=[_,_]) rfl ?_;refine Ms u (by obtain ⟨C,B,rfl,_⟩:=E0.out g4;rfl) (by obtain ⟨C,B,rfl,_⟩:=E0.out y;rfl) (by rw[List.all_toArray];exact List.all_eq_true.2 (Rep.one y)) fun w9 u9 aj=>?_
     have G:=GoodH.act Q56 Q8m n.good xs[i];exact ⟨σ8,u9.stp J n.bge u.1,⟨D8,ab,g5.nx (Nxt.of_upd J.sat u9 u.1) fun k hk e=>O (e▸hk),O,aj,y⟩,n.bge,n.tab.lift ao,n.ok,G,G,n.rm⟩
   .obtain ⟨σ6,U⟩:=hz
    (try simp only[↓M1,M1,Mb,reduceIte])
    exact Z4 ak c ⟨by omega,σ6,U⟩)
theorem X7n:P.built T.f []=some #[I 0,I 0,S [],I 0]:=by kernel_rfl
variable {q : Addr} {ds : List Value}
structure HS (σ : Q2) (hp tv : Value) (q : Addr) (ds : List Value) (cs : List Cel) : Prop where
  h : E2 σ hp tv 300 cs
  q : U0 σ q ds
  r : E0 σ (Q3 W6, 300, cs) ds
  t : Tab σ tv (Q3 W6)
theorem HS.lift (H:HS σ hp tv q ds cs) (a:SLe σ σ'):HS σ' hp tv q ds cs:=⟨H.h.lift a,H.q.lift a,W0 H.r a,H.t.lift a⟩
theorem HS.up (H:HS σ hp tv q ds cs) (k:Stp w σ w' σ'):HS σ' hp tv q ds cs:=H.lift ⟨k.le⟩
theorem Y1g {xs:List ActH} {v:Value} {A:Value->Value->World->Prop} (m:X3 w σ) (k:Glb σ) (n:Sl 8 Ah σ v xs)
 (h: ∀a tv q ds w' σ',Stp w σ w' σ'->Ok (Q3 W6)->HS σ' (.pointer (some a)) tv q ds (Bn xs)->A (.pointer (some a)) (.pointer (some q)) w'):
 Q0 P F.aP [v] w fun b w=>ext P b 0 w fun e w=>ext P b 1 w fun f w=>Qa P T.a w fun i w=>U8 P T.a i f w fun _u w=>A e i w:=by
 refine X7Y m k n fun a tv ds w1 σ1 g j d p ok=>?_;refine J5 (vs:=[_,_]) rfl ?_;refine J5 (vs:=[_,_]) rfl ?_;have o:=d;obtain ⟨u,t,rfl,_⟩:=E0.out d;refine Z9 (sz:=3) g.sat rfl rfl (Rep.one o) fun q r s c l=>?_;exact h a tv q _ r s (g.trans c) ok ⟨j.lift ⟨c.le⟩,l,W0 d ⟨c.le⟩,p.lift ⟨c.le⟩⟩
theorem X7F {K:Value->World->Prop} (a:X3 w σ) (H:HS σ hp tv q ds cs) (h:K (.agg ds.toArray) w):Q7 P T.a (.pointer (some q)) w K:=
 Z3 a H.q (by obtain ⟨c,b,rfl,_⟩:=E0.out H.r;rfl) h
end Go.Proofs.Y
namespace Go.Proofs.Y
open Go.Kd Go.Emb
theorem Q6K: ∀(n:Nat) (s:Q9),s.length<=n->s.length<=(base s).1.length+2*(base s).2
 | 0,s,h=>by omega
 | n+1,s,h=>by
  rw[Zj]
  split
  .rename_i a
   have b:2<=s.length:=by
    unfold arr at a;simp only[Bool.and_eq_true,decide_eq_true_eq] at a;exact a.1
   have c:(Kd.cutA s).length=s.length-2:=by unfold Kd.cutA;simp
   have:=Q6K n (Kd.cutA s) Q5;simp only;omega
  .simp
end Go.Proofs.Y
namespace Go.Hm
open Go.Kd Go.Proofs.Y
theorem X6Q {l:List Cla} {s:Q9} (h:H7 l s=true):s.length<=40:=by
 unfold H7 at h;simp only[Bool.or_eq_true,Bool.and_eq_true,decide_eq_true_eq] at h
 rcases h with rfl | ⟨h,_⟩
 .decide
 .unfold right at h
  simp only[Bool.and_eq_true,decide_eq_true_eq] at h;have a:=Q6v (Mf h.2);have b:=Q6K _ s (Nat.le_refl _);omega
set_option maxRecDepth 100000 in
theorem Y09: ∀c∈Q3 W6,(E3 (Q3 W6) c.name).length<=1000:=by decide+kernel
theorem Q9g (k:Q9):(E3 (Q3 W6) k).length<=1000:=by
 cases e:lk (Q3 W6) k with
 | none=>
  have:E3 (Q3 W6) k=[]:=by unfold E3 Ya;rw[e]
  rw[this];decide
 | some c=>
  obtain ⟨rfl,a,_⟩:=N1 e;exact Y09 c a
theorem My {α:Type} {f:α->Q9} {B:Nat}: ∀{xs:List α},(∀x∈xs,(f x).length<=B)->(xs.flatMap f).length<=xs.length*B
 | [],_=>by simp
 | x::xs,h=>by
  have b:=h x (by simp)
  have c:=My (xs:=xs) (B:=B) (f:=f) fun y a=>h y (by simp[a])
  rw[List.flatMap_cons,List.length_append,List.length_cons,Nat.add_mul];omega
theorem Q9c {ok:Q9->Bool} (b: ∀s,ok s=true->s.length<=4096) {cs:List Cel} {v:Val} (h:K5 ok cs v≠[]):v.s.length<=4096:=by
 have z: ∀{x:Val},v=x->x.s=[]->v.s.length<=4096:=fun e a=>by rw[e,a];decide
 unfold K5 at h
 split at h
 .rename_i e;exact z e rfl
 split at h
 .rename_i e;exact z e rfl
 split at h
 .rename_i e;exact z e.1 rfl
 split at h
 .rename_i e;exact b _ e.2
 split at h
 .rename_i e;exact z e rfl
 .exact absurd rfl h
theorem X1N {num:Int->Int} {v:Val} (a: -9223372036854775808<=v.n/\v.n<=9223372036854775807) (c:v.s.length<=4096):(H3 num v).length<=4200:=by
 have b:=G6 (Ng v.sort);unfold H3;rw[List.length_append]
 split
 .have:=G6 (Q5s a);omega
 split
 .have:(Et (decide (v.n=1))).length=1:=rfl
  omega
 split
 .have:=G6 (v:=v.s.length) (by omega)
  unfold M3;rw[List.length_append];omega
 split
 .have:=G6 (Ng (num v.ref));omega
 .simp;omega
end Go.Hm
namespace Go.Proofs.Y
open Go.Emb Go.RowKit Go.Kd Go.Hm
variable {σ : Q2} {room : Int} {cs : List Cel} {hp tv : Value}
theorem X32 (s:Q9) (h:V8 s=true):s.length<=4096:=by
 unfold V8 at h;simp only[Bool.and_eq_true,decide_eq_true_eq] at h;exact h.1
set_option maxHeartbeats 1000000 in
theorem Q8w (hh:E2 σ hp tv room cs) (g:GoodH V8 (Q3 W6) room cs) (d:room<=300) (ok:Ok (Q3 W6)):SendOk (Q3 W6) cs:=by
 have f:=X5j g d;have Q:=g.left;unfold D9 at Q;have E:=Xs cs;have i:cs.length<=300:=by omega
 have b: ∀c∈cs,c.vals.length<=300:=fun c s=>by have:=Q4Y cs s;omega
 refine ⟨ok,f.good,f.len,f.sz,fun k=>Nat.le_trans (Q9g k) L7,fun vs M a m=>?_⟩;have C:(L4 (Q3 W6) cs vs).length<=300:=Nat.le_trans (Q0R Fz fun x D=>Eg D) i;have l: ∀x∈L4 (Q3 W6) cs vs,x<cs.length:=fun x D=>Eg D;unfold Nd;generalize L4 (Q3 W6) cs vs=refs at*;have O:(U5 cs refs).length<=300:=Nat.le_trans Rn C;have R:=G6 (v:=(U5 cs refs).length) Q5;have V:=G6 (v:=refs.length) Q5;have Y:=G6 (v:=vs.length) Q5
 have u: ∀r∈refs,Ed cs r∈cs.map (·.kind):=fun r d=>by
  have h:=l r d;unfold Ed Xk;rw[List.getD_eq_getElem?_getD,List.getElem?_eq_getElem h];exact List.mem_map.2 ⟨_,List.getElem_mem h,rfl⟩
 have y: ∀k∈U5 cs refs,k.length<=40:=fun k q=>by
  unfold U5 at q
  rcases Ib.1 q with h | h
  .cases h
  .obtain ⟨r,d,rfl⟩:=List.mem_map.1 h
   obtain ⟨c,s,e⟩:=List.mem_map.1 (u r d);rw[<-e];exact X6Q (g.cells c s).kd
 have U:((U5 cs refs).flatMap (Zd (Q3 W6))).length<=(U5 cs refs).length*1060:=My fun k q=>by
  have J:=y k q;have L:=Q9g k;have h3:=G6 (v:=k.length) Q5;have h4:=G6 (v:=(E3 (Q3 W6) k).length) Q5;unfold Zd M3;simp only[List.length_append];omega
 have W:(refs.flatMap (Yh cs (U5 cs refs))).length<=refs.length*20:=My fun r d=>by
  have J:=G6 (Ng (E1 ((U5 cs refs).findIdx? fun k=>decide (k=Ed cs r))));unfold Yh;rw[List.length_append]
  split
  .simp;omega
  .have h:=l r d
   have L:(Xk cs r).vals.length<=300:=by
    unfold Xk;rw[List.getD_eq_getElem?_getD,List.getElem?_eq_getElem h];exact b _ (List.getElem_mem h)
   have:=G6 (v:=(Xk cs r).vals.length) Q5;omega
 have X:(refs.flatMap (fun r=>(N0 (Q3 W6) cs r).flatMap (H3 (Q1H refs)))).length<=refs.length*(300*4200):=My fun r d=>by
  have h:=l r d
  have A:(N0 (Q3 W6) cs r).length<=300:=by
   unfold N0 Q5j;rw[List.length_map];refine Nat.le_trans (List.length_filter_le _ _) ?_;rw[List.length_range];unfold Xk;rw[List.getD_eq_getElem?_getD,List.getElem?_eq_getElem h];exact b _ (List.getElem_mem h)
  refine Nat.le_trans (My (B:=4200) fun p hp=>?_) (Nat.mul_le_mul_right _ A);obtain ⟨_,o,n⟩:=X0X hp;have m:=X7S hh (List.getElem_mem o) n;obtain ⟨j,N,rfl⟩:=List.mem_iff_getElem.1 n;have t:=(g.cells _ (List.getElem_mem o)).fits j N;unfold P1 at t;simp only[Bool.and_eq_true,Bool.not_eq_true',decide_eq_false_iff_not] at t;exact X1N m.2.1 (Q9c X32 t.1)
 have Z:(vs.flatMap (H3 (Q1H refs))).length<=vs.length*4200:=My fun v H=>by
  have z:K5 V8 cs v≠[]:=fun e=>by
   unfold El at a;rw[List.any_eq_false] at a;exact a v H (by simpa using e)
  exact X1N (m v H).2.1 (Q9c X32 z)
 unfold Nc;simp only[List.length_append];omega
end Go.Proofs.Y
namespace Go.Hm
open Go.Kd
def gA:Q9:=[65]
def rV (n:Int):Val:=⟨4,0,[],n⟩
def Tm:Cel:=⟨gA,[⟨1,0,[],0⟩,Val.zero]⟩
set_option maxRecDepth 100000 in
theorem X9U {room:Int} {cs:List Cel} (h:3<=D9 room cs):Vf (Q3 W6) room cs gA=(cs++[Tm],0):=by
 have a:Za (Q3 W6) gA=true:=by decide+kernel
 have b:V0 (Q3 W6) gA=[⟨[120],Zh,false⟩,⟨[110,101,120,116],gA,false⟩]:=by decide+kernel
 unfold Vf;rw[a,b];rw[if_neg (by simp),if_neg (by simp;omega)]
 rfl
end Go.Hm
namespace Go.Hm
open Go.Kd Go.Emb Go.Proofs.Y
set_option maxRecDepth 100000 in
theorem X8u:Xe V8 (Q3 W6) [] [⟨1,5,[],0⟩] 1000 1048576=(0,[0,0,1,1,10]):=by decide+kernel
set_option maxRecDepth 100000 in
theorem X8v:Xe V8 (Q3 W6) [] [Val.zero] 1000 1048576=(0,[0,0,1,0]):=by decide+kernel
set_option maxRecDepth 100000 in
theorem X8w:(Xe V8 (Q3 W6) [Tm] [rV 0] 1000 1048576).1=0/\10<(Xe V8 (Q3 W6) [Tm] [rV 0] 1000 1048576).2.length:=by decide+kernel
set_option maxRecDepth 100000 in
theorem X9K:(Xb (Q3 W6) (U5 [Tm] (L4 (Q3 W6) [Tm] [rV 0]))).length=1:=by decide+kernel
end Go.Hm
namespace Go.Proofs.Y
open Go.Emb Go.RowKit Go.Kd Go.Hm
variable {w w' : World} {K : Value -> World -> Prop} {σ σ' : Q2} {room : Int} {cs : List Cel} {hp tv : Value} {l : List Cla} {vs : List Val}
theorem X6f {B:Nat} {v:Value} {xs:Q9} (b:X3 w σ) (h:J7 B T.a2 1 Ys σ w v xs) (a:K (S xs) w):conv P T.r T.b v w K:=by
 obtain ⟨e,d,_,c,_⟩:=h.freeze b;exact Q9V X1M Kb d c a
theorem X0h (e:X3 w σ) (h: ∀w' σ',Stp w σ w' σ'->K (.agg [I 1000,I 1048576].toArray) w'):Q0 P F.au [] w K:=Q3f (by
 unfold Ss;refine E5 e fun b w1 σ1 d f c=>?_;refine M9 (cells:= #[I 1000,I 1048576]) X7 ?_;refine Ms (ds:=[I 1000,I 1048576]) c rfl rfl (by rw[List.all_toArray];rfl) fun i g a=>?_
 refine M5 a rfl ?_;exact h _ _ (g.stp f d c.1))
theorem X2Q {n:Int} (e:X3 w σ) (h: ∀w' σ',Stp w σ w' σ'->K (.agg [I (rV n).sort,I (rV n).n,S (rV n).s,I (rV n).ref].toArray) w'):Q0 P F.bb [I n] w K:=Q4C (by
 unfold Fa;refine E5 e fun b w1 σ1 d f c=>?_;refine M9 (cells:= #[I 4,I 0,S [],I n]) X7 ?_;refine Ms (ds:=[I 4,I 0,S [],I n]) c rfl rfl (by rw[List.all_toArray];exact List.all_eq_true.2 Ge) fun i g a=>?_
 refine M5 a rfl ?_;exact h _ _ (g.stp f d c.1))
theorem X6r {v:Value} (j:X3 w σ) (hh:E2 σ hp tv room cs) (e:Tab σ tv l) (a:SendOk l cs) (k:Sl 4 O6 σ v vs)
 (h: ∀f w' σ',Stp w σ w' σ'->Sl 2 Bk σ' f (Xb l (U5 cs (L4 l cs vs)))->K f w'):Q0 P F.da [hp,v] w K:=Q9H (by
 unfold Q2I;simp only[D0];have b: ∀x∈L4 l cs vs,x<cs.length:=fun x m=>Eg m;refine X0g j hh e a.ok a.good a.len a.sz k fun u r t y z c d s i=>?_;refine J5 (vs:=[_,_]) rfl ?_;refine J5 (vs:=[_,_]) rfl ?_;exact X0f c.sat (hh.lift ⟨c.le⟩) (e.lift ⟨c.le⟩) a.ok a.len a.pr d b (Q0R Fz b) fun o p q n g=>h o p q (c.trans n) g)
theorem X1T {B:Nat} {D:Nat->Prop} {x:Val} {o b:Int} (j:X3 w σ) (f:Glb σ) (e:HeapIs B D σ w hp tv room cs) (m:Tab σ tv (Q3 W6)) (ok:Ok (Q3 W6)) (g:GoodH V8 (Q3 W6) room cs) (i:room<=300) (q:VB x)
 (h: ∀d w',Stp w σ w' σ->J7 w.heap.size T.a2 1 Ys σ w' d (Xe V8 (Q3 W6) cs [x] o b).2->K (.tuple #[d,I (Xe V8 (Q3 W6) cs [x] o b).1]) w'):
 Q0 P F.ch [hp, .agg [I x.sort,I x.n,S x.s,I x.ref].toArray, .agg [I o,I b].toArray] w K:=by
 obtain ⟨t,r,a,c,_⟩:=e.freeze j;refine Y0x r (f.lift a) c (m.lift a) (Q8w c g i ok) q fun d w' σ' k p=>?_;exact h d w' (k.weak a.le) (p.down (a.more ⟨k.le⟩) fun _ _ h=>h)
set_option maxHeartbeats 4000000 in
theorem X2L (hs:X3 w σ) (hg:Glb σ) (h: ∀w' σ',Stp w σ w' σ'->K (.bool true) w'):Q0 P F.am [] w K:=Q1Z (by
 unfold Hj;simp only[L9,D0];unfold X8 X4 X2 J9;refine X3c hs hg L7 fun b1 a1 D1 a4 w1 σ1 k1 W f t1 ok=>?_;rw[show (50 % 301:Int)=50 from rfl] at W f
 refine J5 (vs:=[_,_]) rfl ?_;refine J5 (vs:=[_,_]) rfl ?_;refine E5 k1.sat fun b2 w2 σ2 v k2 j=>?_;refine Ms j rfl (by obtain ⟨lv,cv,rfl,_⟩:=E0.out f;rfl) (by rw[List.all_toArray];exact List.all_eq_true.2 (Rep.one f)) fun w3 u3 ag=>?_
 have c:Stp w1 σ1 w3 σ2:=u3.stp k2 v j.1;have S3:=k1.trans c;have Z:=W.up c;have t3:=t1.lift (⟨c.le⟩:SLe σ1 σ2);clear k1 c W f t1 j ag u3 k2 v;refine X6d ?_;refine Z0 ?_;have V: ∀{w' σ'},Stp w σ w' σ'->Glb σ':=fun k=>hg.lift ⟨k.le⟩;refine M9 (cells:= #[I 1,I 5,S [],I 0]) X7 ?_;refine X0h S3.sat fun w4 σ4 o=>?_;have N:=S3.trans o;refine X1T (x:=⟨1,5,[],0⟩) N.sat (V N) (Z.up o) (t3.lift ⟨o.le⟩) ok (GoodH.empty L7) L7 ⟨by decide,by decide,by decide,by decide⟩ fun va w5 k5 ha=>?_
 rw[X8u] at ha⊢;have S5:=N.trans k5;refine J5 (vs:=[_,_]) rfl ?_;refine J5 (vs:=[_,_]) rfl ?_;refine M9 X7n ?_;refine X0h S5.sat fun w6 σ6 H=>?_;have O:=S5.trans H;have E:=((Z.up o).up k5).up H;have t6:=(t3.lift (⟨o.le⟩:SLe _ _)).lift ⟨H.le⟩;have ab:=ha.up H
 have af: ∀k,va.ownBlock=some k-> ¬D1 k:=fun k z e=>by
  have:=(ha.mem z).1;have:=((Z.up o).mem e).2.1;omega
 refine X1T (x:=Val.zero) O.sat (V O) E t6 ok (GoodH.empty L7) L7 Q8D fun vb w7 J hb=>?_;rw[X8v] at hb⊢;have Q:=O.trans J;refine J5 (vs:=[_,_]) rfl ?_;refine J5 (vs:=[_,_]) rfl ?_
 have y: ∀k,vb.ownBlock=some k-> ¬D1 k:=fun k z e=>by
  have:=(hb.mem z).1;have:=(E.mem e).2.1;omega
 have L:=GoodH.obj Q56 Q8m (GoodH.empty (ok:=V8) (l:=Q3 W6) (room:=50) L7) gA;refine X09 Q.sat Q.bel.size (E.up J) t6 ok (k:=gA) L7 L7 L7 fun w8 σ8 D8 D h8 a6=>?_;rw[X9U L7] at h8 L⊢;rw[show atM ([]:List Cel) 0=0 from rfl]
 have ac:=(ab.up J).nx D af;have ae:=hb.nx D y;have S8:Stp w σ w8 σ8:=D.stp' Q fun k z=>((E.up J).mem z).1;have t8:=t6.lift D.le;refine J5 (vs:=[_,_]) rfl ?_;refine J5 (vs:=[_,_]) rfl ?_;refine X2Q S8.sat fun w9 σ9 k9=>?_;refine X0h k9.sat fun bd bk aj=>?_;have a:=k9.trans aj;have i:=S8.trans a;have q:=h8.up a;have C:=t8.lift (⟨a.le⟩:SLe _ _);refine X1T (x:=rV 0) i.sat (V i) q C ok L L7 ⟨by decide,by decide,by decide,by decide⟩ fun vc be g hc=>?_
 obtain ⟨U,a5⟩:=X8w;simp only[List.nil_append] at hc⊢;rw[U];have d:=i.trans g;have r:=(ac.up a).up g;have t:=(ae.up a).up g;have X:=q.up g;refine J5 (vs:=[_,_]) rfl ?_;refine J5 (vs:=[_,_]) rfl ?_;refine X6f d.sat r ?_;refine K2 (s:=[0,0,1,1,10]) (u:=[0,0,1,1,10]) ?_;rw[decide_eq_true rfl]
 (repeat refine Hd.h ?_)
 refine E7 ?_;rw[show decide ((0:Int)=0)=true from rfl]
 (repeat refine Hd.h ?_)
 refine X6f d.sat t ?_
 (repeat refine Hd.h ?_)
 refine K2 (s:=[0,0,1,0]) (u:=[0,0,1,0]) ?_;rw[decide_eq_true rfl]
 (repeat refine Hd.h ?_)
 refine E7 ?_;rw[show decide ((0:Int)=0)=true from rfl]
 (repeat refine Hd.h ?_)
 refine E7 ?_;rw[show decide ((0:Int)=0)=true from rfl]
 (repeat refine Hd.h ?_)
 refine E7 ?_;rw[show decide ((0:Int)=0)=true from rfl]
 (repeat refine Hd.h ?_)
 refine Rw hc ?_
 (repeat refine Hd.h ?_)
 refine Vo ?_;rw[decide_eq_true (by omega:(10:Int)<((Xe V8 (Q3 W6) [Tm] [rV 0] 1000 1048576).2.length:Nat))]
 (repeat refine Hd.h ?_)
 refine X2Q d.sat fun bf bl B=>?_;have M:=d.trans B
 (repeat refine Hd.h ?_)
 refine C1 (R:=O6) (sz:=4) M.sat [.agg [I (rV 0).sort,I (rV 0).n,S (rV 0).s,I (rV 0).ref].toArray] [rV 0] rfl rfl (by simp;rfl) rfl ⟨⟨rfl,by decide,by decide,by decide,by decide⟩,trivial⟩ fun vl bg bm c ah=>?_
 have b:=B.trans c;have p:=d.trans b;obtain ⟨σf,sf,m,A,_⟩:=(X.up b).freeze p.sat
 (repeat refine Hd.h ?_)
 refine X6r sf A ((C.lift (⟨b.le⟩:SLe _ _)).lift m) (Q8w A L L7 ok) (ah.lift m) fun ba bh bn ak Y=>?_
 (repeat refine Hd.h ?_)
 refine Q6 Y ?_;simp only[List.nil_append];rw[show ((Xb (Q3 W6) (U5 [Tm] (L4 (Q3 W6) [Tm] [rV 0]))).length:Int)=1 by rw[X9K];rfl]
 (repeat refine Hd.h ?_)
 refine E7 ?_;rw[show decide ((1:Int)=1)=true from rfl]
 (repeat refine Hd.h ?_)
 exact h _ _ (p.trans (ak.weak m.le)))
theorem Q2v {n:Int} (h:0<=n/\n<18446744073709551616):IntKind.u64.wrap n=n:=by
 rw[IntKind.wrap_u64];omega
theorem X7p {t:TypeId} {a b:Operand} {n:Nat} (c:n<18446744073709551616) (h:K (.int .u64 ((n / 128:Nat):Int)) w):Z2 P .quo t a b (.int .u64 (n:Int)) (.int .u64 128) w K:=by
 unfold Z2
 rw[Y8 (v:= .int .u64 ((n / 128:Nat):Int)) (w':=w) (by
  have e:(n:Int).tdiv 128=((n / 128:Nat):Int):=by rw[Int.tdiv_eq_ediv_of_nonneg Q5];omega
  simp[eqGuard,Go.binOp,Op.intDiv,e]
  exact Q2v Q5)]
 exact h
theorem X8Y {n:Int} (a:Qj n) (h:K (.int .u64 ((Ob n:Nat):Int)) w):Q0 P F.cj [I n] w K:=Q4F (by
 obtain ⟨b,c⟩:=a;unfold Fe X2;unfold Ob at h;refine T2 ?_
 by_cases e:0<=n
 .rw[decide_eq_true e]
  rw[if_pos e] at h;refine Z1 ?_;rw[Jc Q9T Q5p,Q2v Q5];refine X7V ?_;rw[Q2v Q5];rw[show (((2*n).toNat:Nat):Int)=2*n by omega] at h
  exact h
 .rw[decide_eq_false e]
  rw[if_neg e] at h;refine Z0 ?_;refine Zm Q5 ?_;refine Y1e ?_;rw[Qi Q5 Q5];rw[Jc Q9T Q5p,Q2v Q5];refine X7V ?_;rw[Q2v Q5];refine C2 ?_;rw[Q2v Q5];rw[show (((2*(-(n+1))+1).toNat:Nat):Int)=2*(0-(n+1))+1 by omega] at h
  exact h)
theorem Q8v {n:Nat} (y:X3 w σ) (u:n<18446744073709551616) (h: ∀w' σ',Stp w σ w' σ'->K (S (U6 n)) w'):Q0 P F.aH [.int .u64 (n:Int)] w K:=Q4E (by
 unfold Fc X1;refine Wv (fun x w'=> ∃(m:Nat) (p:Q9) (σ':Q2),x.1= .int .u64 (m:Int)/\x.2=S p/\m<18446744073709551616/\p.length<=20-(U6 m).length/\Stp w σ w' σ'/\p++U6 m=U6 n) (fun x _=>match x.1 with | .int _ m=>m.toNat | _=>0) ⟨n,[],σ,rfl,rfl,u,by simp,Stp.refl y,rfl⟩ ?_
 rintro ⟨x,v⟩ d w1 ⟨m,p,σ1,q,c,l,o,g,e⟩;simp only at q c;subst q;subst c;refine T2 ?_;have k:=G6 l;have t:=X3o (v:=m);refine Q4 (fun i=>?_) (fun i=>?_)
 .have a:128<=m:=by have:=of_decide_eq_true i;omega
  refine Q7Q Q5 ?_;refine C2 ?_;rw[Q2v Q5,show (m:Int) % 128+128=((m % 128+128:Nat):Int) by omega]
  refine Q7R ?_;rw[show (m % 128+128) % 256=m % 128+128 by omega]
  rw[Q8B a] at e o k;simp only[List.length_cons] at o k;refine C1 (R:=Ys) (sz:=1) g.sat [.int .u8 ((m % 128+128:Nat):Int)] [UInt8.ofNat (m % 128+128)] rfl rfl (by simp;rfl) rfl ⟨by simp[Ys,Value.cells];omega,trivial⟩ fun s r j f b=>?_
  refine Q9V X1M Kb f.sat b ?_;refine H4 (by simp;omega) ?_
  refine X7p l ?_;exact ⟨⟨m / 128,_,j,rfl,rfl,by omega,by simp;omega,g.trans f,by simpa using e⟩,by simp;omega⟩
 .have a:m<128:=by have:=of_decide_eq_false i;omega
  refine Q7R ?_;rw[show m % 256=m by omega]
  rw[Q8C a] at e;refine C1 (R:=Ys) (sz:=1) g.sat [.int .u8 (m:Int)] [UInt8.ofNat m] rfl rfl (by simp;rfl) rfl ⟨by simp[Ys,Value.cells];omega,trivial⟩ fun s r j f b=>?_
  refine Q9V X1M Kb f.sat b ?_;refine H4 (by simp;omega) ?_
  rw[e];exact h r j (g.trans f))
theorem X8U {n:Int} (b:X3 w σ) (a:Qj n) (h: ∀w' σ',Stp w σ w' σ'->K (S (U6 (Ob n))) w'):Q0 P F.ci [I n] w K:=Q4D (by
 unfold Fb;refine X8Y a ?_;exact Q8v b (Q5s a) h)
theorem Q6B {s:Q9} (b:X3 w σ) (a:s.length<=V4) (h: ∀w' σ',Stp w σ w' σ'->K (S (M3 s)) w'):Q0 P F.av [S s] w K:=Q3h (by
 unfold Su X4 X1;unfold V4 at a;refine Oy Kb ?_;refine Kg ?_;rw[Q2u Q5];refine Q8v b Q5 fun w1 σ1 c=>?_;have:=G6 (v:=s.length) Q5;refine H4 Q5 ?_;exact h w1 σ1 c)
theorem X7a {b:Bool} (h:K (S (Et b)) w):Q0 P F.c2 [.bool b] w K:=Q3g (by
 unfold St;cases b with
 | true=>exact Z1 h
 | false=>exact Z0 h)
theorem X99 {o:Operand} {a:Addr} {A:Value->World->Prop} (i:X3 w σ) (g:Glb σ) (h: ∀w' σ',Stp w σ w' σ'->A (.bool false) w'):
 Q0 P F.am [] w fun c w=>W2 P .not c w fun b w=>Q1 b false w (fun w J=>J (.pointer (some a)) w) fun d w=>Q1 b false w (Z2 P .eql T.a5 o (.const (.pointer none)) d (.pointer none)) fun e w=>pick P b (.bool true) e w fun f w=>A f w:=by
 refine X2L i g fun w1 σ1 j=>?_;refine Nj ?_;rw[Bool.not_true]
 (repeat refine Hd.h ?_)
 refine X6d ?_
 (repeat refine Hd.h ?_)
 exact h _ _ j
variable {q : Addr} {ds : List Value}
theorem X9l {vs:List Val} {e:Value} {o b:Int} (i:X3 w σ) (g:Glb σ) (H:HS σ hp tv q ds cs) (j:SendOk (Q3 W6) cs) (c:Sl 4 O6 σ e vs)
 (h: ∀a w' σ',Stp w σ w' σ'->Sl 1 Ys σ' a (Xe V8 (Q3 W6) cs vs o b).2->K (.tuple #[a,I (Xe V8 (Q3 W6) cs vs o b).1]) w'):Q0 P F.cy [hp,e, .agg [I o,I b].toArray] w K:=
 X4V i g H.h H.t j c fun a w' σ' k c=>by
  obtain ⟨m,f,d,_⟩:=c.keep k;exact h a w' m f d
end Go.Proofs.Y
namespace Go.Hm
open Go.Kd
variable {cs : List Cel} {v : Val}
theorem X67:toI cs v=ixO (G4 cs v):=by
 unfold toI G4
 split
 .rename_i h
  obtain ⟨i,e,a⟩:=W7.1 h.2;rw[e];rfl
 .rfl
end Go.Hm
namespace Go.Proofs.Y
open Go.Emb Go.RowKit Go.Kd Go.Hm
variable {w w' w0 : World} {K : Value -> World -> Prop} {σ σ' σ0 : Q2} {room : Int} {cs : List Cel} {ds : List Value} {l : List Cla}
set_option maxHeartbeats 1000000 in
theorem X1s {r:Int} (hs:X3 w σ) (hh:E0 σ (l,room,cs) ds) (ok:Ok l) (L:l.length<=1000) (C: ∀c∈cs,GoodC V8 l cs c) (hN:Jm cs r<=1000000000000)
 (h: ∀v' w' σ',Stp w σ w' σ'->Sl 1 O5 σ' v' (ints (D3 l cs r))->K v' w'):Q0 P F.b7 [.agg ds.toArray,I r] w K:=Q3v (by
 obtain ⟨lv,cv,rfl,hl,hc⟩:=E0.out hh;unfold Ci;simp only[L9];unfold J1 X6 J3 X8 X4 X2 J9 X1;have s:=fun i (hi:i<Jm cs r) o=>Q7H (ok:=V8) C hi o;refine Z6 hs fun q w1 σ1 X hq=>?_;refine Xu (R:=O5) (sz:=1) (Stp.refl X.sat) [] [] rfl rfl V5 (by rfl) trivial fun v2 w2 f E _=>?_
 have S2:=X.trans f;have p:=hq.up f;have m:=hc.up S2;have ae:=hl.up S2
 have A:M4 cs r=false->K v2 w2:=fun e=>by
  obtain ⟨σ3,S3,af,_⟩:=E.keep f;refine h v2 w2 σ3 (X.trans S3) ?_;unfold D3 Jm Um;rw[e];exact af
 refine Y9 ?_
 by_cases e0:r<0
 .rw[decide_eq_true e0]
  (repeat refine Hd.h ?_)
  refine Z1 ?_;exact A (by simp only[M4,Bool.and_eq_false_iff,decide_eq_false_iff_not];left;omega)
 rw[decide_eq_false e0]
 (repeat refine Hd.h ?_)
 refine ld (i:=2) f.sat p rfl ?_
 (repeat refine Hd.h ?_)
 refine Q6 m ?_
 (repeat refine Hd.h ?_)
 refine T2 ?_
 (repeat refine Hd.h ?_)
 by_cases V:(cs.length:Int)<=r
 .rw[decide_eq_true V]
  refine Z1 ?_;exact A (by simp only[M4,Bool.and_eq_false_iff,decide_eq_false_iff_not];right;omega)
 rw[decide_eq_false V];refine Z0 ?_;have hr:M4 cs r=true:=by simp only[M4,Bool.and_eq_true,decide_eq_true_eq];omega
 obtain ⟨j,rfl,W⟩:=W7.1 hr;obtain ⟨vv,p1,N,p3⟩:=Sl.elO m W;have ek:O8 cs (j:Int)=cs[j].kind:=Qu W;have en:Jm cs (j:Int)=cs[j].vals.length:=by unfold Jm Um;rw[if_pos hr,L5 W];simp
 unfold D3 at h;rw[en] at hN s h;rw[ek] at s h;have a5:=N.max;generalize cs[j].kind=k at*;generalize cs[j].vals=vals at*;refine U7 ?_;refine ld (i:=2) f.sat p rfl ?_;refine Y7 m W ?_;refine Z3 f.sat p1 rfl ?_;refine Z9 (sz:=2) f.sat rfl rfl (by simp;exact ⟨rfl,Yl N⟩) fun q6 w3 σ3 g D=>?_
 refine U7 ?_;refine ld (i:=0) g.sat (p.up g) rfl ?_;refine U7 ?_;refine ld (i:=0) g.sat D rfl ?_;refine Iy g.sat (ae.up g) ok.acy L ok.sm fun fv w4 O Y hf=>?_;have S4:=(f.trans g).trans Y;have A4:=(E.up g).up Y;have D:=D.up Y;have N:=(N.up g).up Y;refine O4 vals.length (fun i x w'=> ∃σ',SLe O σ'/\Stp w1 σ1 w' σ'/\W4 w1.heap.size T.e 1 O5 σ' w' x (ints ((List.range i).filter (P4 l k)))) ⟨O,SLe.refl _,S4,A4⟩ fun i x w5 d hi J=>?_;obtain ⟨σ5,y,U,A5⟩:=J;have Z:=U.sat;refine U7 ?_;refine ld (i:=1) Z (D.lift y) rfl ?_;refine Q6 (N.lift y) ?_;refine Y9 ?_;refine Q4 (fun n=>?_) (fun n=>?_)
 .have H:i<vals.length:=by simpa using n
  have a3:((List.range i).filter (P4 l k)).length<=i:=Nat.le_trans (List.length_filter_le _ _) V5
  have V:ints ((List.range (i+1)).filter (P4 l k))=ints ((List.range i).filter (P4 l k))++(if P4 l k i=true then [(i:Int)] else []):=by
   rw[Gy];unfold ints;rw[List.map_append]
   congr 1
   split<;>rfl
  refine Qt (fun z w'=> ∃σ',SLe O σ'/\Stp w1 σ1 w' σ'/\W4 w1.heap.size T.e 1 O5 σ' w' z (ints ((List.range (i+1)).filter (P4 l k)))) ?_ (fun z dd w6 hz=>?_)
  .refine U7 ?_
   refine ld (i:=0) Z (D.lift y) rfl ?_;refine Q6A k (by unfold V4 at p3;omega) ?_
   refine Jb (u:=[]) ?_
   have B: ∀q,P4 l k i=q->X0 (.bool q) (buildSlice P T.o 1 [(0,I i)] w5 fun ag w=>U4 P .append [T.o,T.o] T.o [false,false] [x,ag] w fun z w'=> ∃σ',SLe O σ'/\Stp w1 σ1 w' σ'/\W4 w1.heap.size T.e 1 O5 σ' w' z (ints ((List.range (i+1)).filter (P4 l k)))) (∃σ',SLe O σ'/\Stp w1 σ1 w5 σ'/\W4 w1.heap.size T.e 1 O5 σ' w5 x (ints ((List.range (i+1)).filter (P4 l k)))):=fun q eq=>by
    rw[V,eq];cases q with
    | false=>exact Z0 ⟨σ5,y,U,by simpa using A5⟩
    | true=>
     refine Z1 ?_;refine C1 (R:=O5) (sz:=1) Z [I i] [(i:Int)] rfl rfl (by simp;rfl) rfl ⟨⟨rfl,by omega,by omega⟩,trivial⟩ fun v6 w6 Q M t=>?_
     refine Vn (U.trans M) (A5.up M) t (by rfl) (by simp[ints];omega) (by simp[ints];omega) fun v7 w7 _ S7 A7 _=>?_
     exact ⟨Q,y.more ⟨M.le⟩,S7,by simpa using A7⟩
   by_cases o:elem k=[]
   .rw[decide_eq_true o,Bool.not_true]
    have b:=s i H o
    (repeat refine Hd.h ?_)
    refine Q4i (hf.lift y) b fun a ha _=>?_
    (repeat refine Hd.h ?_)
    refine ld (i:=2) Z ha rfl ?_
    (repeat refine Hd.h ?_)
    have eq:P4 l k i= !((V0 l k)[i].tr):=by
     unfold P4;rw[decide_eq_true o,Bool.not_true,Bool.false_or,List.getD_eq_getElem?_getD,List.getElem?_eq_getElem b];rfl
    exact B _ eq
   .rw[decide_eq_false o,Bool.not_false]
    (repeat refine Hd.h ?_)
    exact B true (by unfold P4;rw[decide_eq_false o];rfl)
  .obtain ⟨Q,M,S6,A6⟩:=hz
   (try simp only[↓M1,M1,Mb,reduceIte])
   exact Z8 Q5 H ⟨Q,M,S6,A6⟩
 .have:i=vals.length:=by simp at n;omega
  subst this;obtain ⟨Q,S6,t,_⟩:=A5.keep U;exact h x w5 Q (X.trans S6) t)
theorem X5X {v:Val} (u:X3 w σ) (hh:E0 σ (l,room,cs) ds) (h: ∀w' σ',Stp w σ w' σ'->K (I (toI cs v)) w'):Q0 P F.br [.agg ds.toArray, .agg [I v.sort,I v.n,S v.s,I v.ref].toArray] w K:=Q5K (by
 obtain ⟨A,y,rfl,z,r⟩:=E0.out hh;unfold Gv J1 X6 X4 X2 X1;refine Z6 u fun q w1 σ1 o t=>?_;refine Z6 o.sat fun p B C j d=>?_;have a:=o.trans j;have g:=t.up j;have f:=r.up a;have b:=j.sat;refine U7 ?_;refine ld (i:=0) b d rfl ?_;refine Lb ?_
 by_cases c:v.sort=4
 case neg=>
  rw[decide_eq_false c,Bool.not_false]
  (repeat refine Hd.h ?_)
  refine Z1 ?_;have:=h _ _ a
  rwa [toI,if_neg (fun e=>c e.1)] at this
 rw[decide_eq_true c,Bool.not_true]
 (repeat refine Hd.h ?_)
 refine ld (i:=3) b d rfl ?_
 (repeat refine Hd.h ?_)
 refine Y9 ?_
 (repeat refine Hd.h ?_)
 by_cases k:v.ref<0
 .rw[decide_eq_true k]
  (repeat refine Hd.h ?_)
  refine Z1 ?_;have:=h _ _ a
  rwa [toI,if_neg] at this
  rintro ⟨_,e⟩;simp only[M4,Bool.and_eq_true,decide_eq_true_eq] at e;omega
 rw[decide_eq_false k]
 (repeat refine Hd.h ?_)
 refine ld (i:=3) b d rfl ?_
 (repeat refine Hd.h ?_)
 refine ld (i:=2) b g rfl ?_
 (repeat refine Hd.h ?_)
 refine Q6 f ?_
 (repeat refine Hd.h ?_)
 refine T2 ?_
 (repeat refine Hd.h ?_)
 by_cases m:(cs.length:Int)<=v.ref
 .rw[decide_eq_true m]
  refine Z1 ?_;have:=h _ _ a
  rwa [toI,if_neg] at this
  rintro ⟨_,e⟩;simp only[M4,Bool.and_eq_true,decide_eq_true_eq] at e;omega
 rw[decide_eq_false m];refine Z0 ?_;refine U7 ?_;refine ld (i:=3) b d rfl ?_;have:=h _ _ a
 rwa [toI,if_pos ⟨c,by simp only[M4,Bool.and_eq_true,decide_eq_true_eq];omega⟩] at this)
theorem X1v {o:Option Nat} {xs:List Nat} {v:Value} (S0:Stp w0 σ0 w σ) (A:W4 w0.heap.size T.e 1 O5 σ w v (ints xs)) (Q:xs.length<=1048576) (D: ∀x,o=some x->x<=1048576)
 (h: ∀t w' σ',Stp w0 σ0 w' σ'->SLe σ σ'->W4 w0.heap.size T.e 1 O5 σ' w' t (ints (Mi xs o))->K t w'):Q0 P F.bf [v,I (ixO o)] w K:=Q4Q (by
 unfold Fq J3 V1 X4 X2 X1;have s:=S0.sat;obtain ⟨X,H,E,j,_⟩:=(J7.of_acc A).freeze s;have r:(ints xs).length=xs.length:=by simp
 refine V7 xs.length (fun i w'=>w'=w/\ ∀y∈xs.take i,(y:Int)≠ixO o) ⟨rfl,by simp⟩ fun i w1 d O g=>?_
 obtain ⟨rfl,f⟩:=g;refine Q6 j ?_;rw[r];refine Y9 ?_;refine Q4 (fun c=>?_) (fun c=>?_)
 .have b:i<xs.length:=by simpa using c
  refine E4 j (by rw[r];exact b) fun a N B _ C=>?_
  obtain ⟨rfl,_⟩:=C;refine Y6 H B rfl ?_;simp only[List.getElem_map];refine E7 ?_;refine Q4 (fun m=>?_) (fun m=>?_)
  .have e:(xs[i]:Int)=ixO o:=by simpa using m
   refine h v _ σ S0 (SLe.refl _) ?_
   have:Mi xs o=xs:=by
    cases o with
    | none=>rfl
    | some x=>
     have e:(xs[i]:Int)=(x:Int):=e;have:xs[i]=x:=by omega
     exact X3a (this▸List.getElem_mem b)
   rw[this];exact A
  .have e: ¬(xs[i]:Int)=ixO o:=by simpa using m
   (try simp only[↓M1,M1,Mb,reduceIte])
   refine Z4 Q5 b ⟨rfl,fun y k=>?_⟩;rw[List.take_add_one,List.getElem?_eq_getElem b,Option.toList_some,List.mem_append,List.mem_singleton] at k
   rcases k with k | rfl
   .exact f y k
   .exact e
 .have b: ¬i<xs.length:=by simpa using c
  rw[List.take_of_length_le Q5] at f;refine Y9 ?_;cases o with
  | none=>
   rw[show decide (ixO none<(0:Int))=true from rfl]
   refine Z1 ?_;exact h v _ σ S0 (SLe.refl _) A
  | some x=>
   have U:=D x rfl;have n:x∉xs:=fun e=>f x e rfl;rw[show decide (ixO (some x)<(0:Int))=false from decide_eq_false (by unfold ixO;simp only;omega)]
   refine Z0 ?_;rw[show ixO (some x)=(x:Int) from rfl]
   refine C1 (R:=O5) (sz:=1) s [I x] [(x:Int)] rfl rfl (by simp;rfl) rfl ⟨⟨rfl,by omega,by omega⟩,trivial⟩ fun V W M q p=>?_
   refine Vn (S0.trans q) (A.up q) p (by rfl) (by simp;omega) (by simp;omega) fun J L _ z u _=>?_
   refine h J L M z ⟨q.le⟩ ?_;rw[X12 n]
   simpa using u)
end Go.Proofs.Y
namespace Go.Hm
open Go.Kd
variable {l : List Cla} {cs : List Cel}
theorem Q5k {x:Nat} (b:x<cs.length) {j:Nat} (c:j<(D3 l cs x).length):(D3 l cs x)[j]<cs[x].vals.length:=by
 have a:(D3 l cs x)[j]∈D3 l cs x:=List.getElem_mem c;generalize (D3 l cs x)[j]=s at*;unfold D3 at a;have d:=List.mem_range.1 (List.mem_filter.1 a).1
 have en:Jm cs (x:Int)=cs[x].vals.length:=by
  unfold Jm Um;rw[if_pos (W7.2 ⟨x,rfl,b⟩),L5 b];simp
 omega
theorem X34 {x:Nat} (a:x<cs.length):(D3 l cs x).length=(N0 l cs x).length:=by
 rw[<-Q6w a]
 simp[B4]
theorem X5G {x:Nat} (a:x<cs.length) {j:Nat} (b:j<(D3 l cs x).length) (c:j<(N0 l cs x).length):(N0 l cs x)[j]=cs[x].vals[(D3 l cs x)[j]]'(Q5k a b):=by
 have f:=Q5k a b;have e:Xk cs x=cs[x]:=by unfold Xk;rw[List.getD_eq_getElem?_getD,List.getElem?_eq_getElem a];rfl
 have d:(N0 l cs x)[j]? =some (cs[x].vals[(D3 l cs x)[j]]):=by
  unfold N0;rw[List.getElem?_map,<-Q9p a,List.getElem?_eq_getElem b,e];simp only[Option.map_some];rw[List.getD_eq_getElem?_getD,List.getElem?_eq_getElem f];rfl
 exact Option.some.inj ((List.getElem?_eq_getElem c).symm.trans d)
end Go.Hm
namespace Go.Proofs.Y
open Go.Emb Go.RowKit Go.Kd Go.Hm
variable {w w' : World} {K : Value -> World -> Prop} {σ σ' : Q2} {room : Int} {cs : List Cel} {ds : List Value} {l : List Cla}
set_option maxHeartbeats 2000000 in
theorem X5V {v:Val} (hs:X3 w σ) (hh:E0 σ (l,room,cs) ds) (ok:Ok l) (an:l.length<=1000) (af: ∀c∈cs,GoodC V8 l cs c) (hc:cs.length<=1048576) (hN: ∀r,Jm cs r<=1000000000000)
 (h: ∀v' w' σ',Stp w σ w' σ'->Sl 1 O5 σ' v' (ints (I6 l cs v))->K v' w'):Q0 P F.bU [.agg ds.toArray, .agg [I v.sort,I v.n,S v.s,I v.ref].toArray] w K:=Q2i (by
 have av:=hh;obtain ⟨lv,cv,rfl,hl,ah⟩:=E0.out hh;unfold Rd;simp only[Y5,X5,N2];unfold X4 X2 X1;refine Z6 hs fun q w1 σ1 k1 hq=>?_;refine Z6 k1.sat fun p w2 σ2 k2 hp=>?_;have S2:=k1.trans k2;refine Xu (R:=O5) (sz:=1) (Stp.refl k2.sat) [] [] rfl rfl V5 (by rfl) trivial fun v3 w3 C A3 _=>?_
 have W:=(hq.up k2).up C;have aq:=hp.up C;have Z:=W0 av ⟨(S2.trans C).le⟩;have H:=ah.up (S2.trans C);refine Z3 C.sat W rfl ?_;refine Z3 C.sat aq rfl ?_;refine X5X C.sat Z fun w4 σ4 k4=>?_;rw[X67];have ap: ∀p x,G4 cs p=some x->x<=1048576:=fun p x e=>by have:=Mt p x e;omega
 refine X1v (xs:=[]) (C.trans k4) (A3.up k4) V5 (ap _) fun v5 w5 σ5 S5 ay A5=>?_;have u:SLe σ2 σ5:=(⟨k4.le⟩:SLe σ2 σ4).more ay;have ar:=W.lift u;have aw:=W0 Z u;have J:=H.lift u;clear hq hp W aq Z av hh hl ah H A3 k4 ay C;have A5:W4 w2.heap.size T.e 1 O5 σ5 w5 v5 (ints (L2 (N0 l cs) (G4 cs) v 0)):=A5;refine O4 cs.length (fun i x w'=> ∃σ',SLe σ5 σ'/\Stp w2 σ2 w' σ'/\W4 w2.heap.size T.e 1 O5 σ' w' x (ints (L2 (N0 l cs) (G4 cs) v i))) ⟨σ5,SLe.refl _,S5,A5⟩ fun i a w7 d hi k=>?_;obtain ⟨σ7,ab,S7,A7⟩:=k;have s7:=S7.sat;have ao:=Ae (out:=N0 l cs) (tq:=G4 cs) (v:=v) Mt i;refine Rw (J7.of_acc A7) ?_;refine Y9 ?_;refine Q4 (fun U=>?_) (fun U=>?_)
 .have A:i<(L2 (N0 l cs) (G4 cs) v i).length:=by simpa [ints] using U
  have o:=ao _ (List.getElem_mem A)
  have bl:L2 (N0 l cs) (G4 cs) v (i+1)=Ym (G4 cs) (L2 (N0 l cs) (G4 cs) v i) (N0 l cs (L2 (N0 l cs) (G4 cs) v i)[i]):=by
   rw[L2,List.getElem?_eq_getElem A]
  have bi:(L2 (N0 l cs) (G4 cs) v i).Nodup:=Mo i;have cp:=Iu (out:=N0 l cs) (tq:=G4 cs) (v:=v) Mt i;generalize L2 (N0 l cs) (G4 cs) v i=X at*;have ak:i<(ints X).length:=by simpa using A
  obtain ⟨σf,sf,E,g,_⟩:=(J7.of_acc A7).freeze s7;obtain ⟨c0,e1,_,e3⟩:=g.el ak;obtain ⟨rfl,_⟩:=e3;have ex:(ints X)[i]=((X[i]:Nat):Int):=by simp
  rw[ex] at e1;have m:=(ar.lift ab).lift E;refine V3 sf ?_;refine Y3 (V:= .pointer (some (K4 1 a i))) (fun w b=>Y7 (g.up b.stp) ak (X9 rfl)) ?_;refine Y3 (V:= .agg [lv,I room,cv].toArray) (fun w b=>Z3 b.sat (m.up b.stp) rfl (X9 rfl)) ?_;refine Y3 (V:=I (X[i]:Nat)) (fun t w b e=>by subst e;exact Y6 b.sat (e1.up b.stp) rfl (X9 rfl)) ?_
  rintro _ _ _ w8 ag rfl rfl rfl;have k8:=Stp.of_below s7 ag.stp.bel;have A8:=A7.up k8;have S8:=S7.trans k8;clear g e1 m ag sf E;refine X1s k8.sat (W0 aw ab) ok an af (hN _) fun sv w9 σ9 k9 aa=>?_;have S9:=S8.trans k9;have A9:=A8.up k9;have z:SLe σ5 σ9:=ab.more ⟨k9.le⟩;have hX:X[i]? =some X[i]:=List.getElem?_eq_getElem A;generalize hx:X[i]=x at*;have ol:(D3 l cs x).length=(N0 l cs x).length:=X34 o;have ax:=aa.max;obtain ⟨vv,p1,p2,_⟩:=Sl.elO (J.lift z) o;refine O4 (D3 l cs x).length (fun j y w'=> ∃σ',SLe σ9 σ'/\Stp w2 σ2 w' σ'/\W4 w2.heap.size T.e 1 O5 σ' w' y (ints (Ym (G4 cs) X ((N0 l cs x).take j)))) ⟨σ9,SLe.refl _,S9,A9⟩ fun j y wA d2 hj k=>?_;obtain ⟨σA,D,SA,AA⟩:=k;have sA:=SA.sat;refine Q6 (aa.lift D) ?_;refine Y9 ?_;refine Q4 (fun Q=>?_) (fun Q=>?_)
  .have B:j<(D3 l cs x).length:=by simpa using Q
   have al:j<(N0 l cs x).length:=by omega
   have co:=Q7n (tq:=G4 cs) (vs:=(N0 l cs x).take j) Mt bi ao;have bf:(Ym (G4 cs) X ((N0 l cs x).take j))[i]? =some x:=X0Z (Q1K _ _) hX;have bj:=Q68 (tq:=G4 cs) (xs:=X) (vs:=N0 l cs x) al;have O:=X5G o B al;have M:=Q5k o B;generalize Ym (G4 cs) X ((N0 l cs x).take j)=Y at*;obtain ⟨bh,eY⟩:=List.getElem?_eq_some_iff.1 bf;have L:i<(ints Y).length:=by simpa using bh
   obtain ⟨σf,sf,E,g,_⟩:=(J7.of_acc AA).freeze sA;obtain ⟨c0,e1,_,e3⟩:=g.el L;obtain ⟨rfl,_⟩:=e3;have be:(ints Y)[i]=(x:Int):=by simp[eY]
   rw[be] at e1;have am:j<(ints (D3 l cs x)).length:=by simpa using B
   have f:=D.more E;have N:=aa.lift f;obtain ⟨c1,e4,_,e5⟩:=N.el am;obtain ⟨rfl,_⟩:=e5;have ae:(ints (D3 l cs x))[j]=(((D3 l cs x)[j]:Nat):Int):=by simp
   rw[ae] at e4;have m:=(ar.lift z).lift f;have ai:=(J.lift z).lift f;have br:=p1.lift f;have az:=p2.lift f;have g1:=(Sl.elV az M).1;rw[<-O] at g1;clear O ae;have bk:=W0 aw (z.more f);generalize (D3 l cs x)[j]=sj at*;generalize (N0 l cs x)[j]=val at*;refine V3 sf ?_;refine Y3 (fun w b=>U7 (X9 rfl)) ?_;refine Y3 (V:= .pointer (some (K4 1 y i))) (fun w b=>Y7 (g.up b.stp) L (X9 rfl)) ?_;refine Y3 (V:= .pointer (some (K4 1 sv j))) (fun w b=>Y7 (N.up b.stp) am (X9 rfl)) ?_;refine Y3 (V:= .agg [lv,I room,cv].toArray) (fun w b=>Z3 b.sat (m.up b.stp) rfl (X9 rfl)) ?_;refine Y3 (V:=cv) (fun t w b e=>by subst e;exact ld (i:=2) b.sat (m.up b.stp) rfl (X9 rfl)) ?_
   refine Y3 (V:=I x) (fun t w b e=>by subst e;exact Y6 b.sat (e1.up b.stp) rfl (X9 rfl)) ?_
   refine Y3 (V:= .pointer (some (K4 2 cv x))) (fun t t2 w b e e2=>by subst e;subst e2;exact Y7 (ai.up b.stp) o (X9 rfl)) ?_
   refine Y3 (fun t w b e=>by subst e;exact U7 (X9 rfl)) ?_
   refine Y3 (V:=vv) (fun t w b e=>by subst e;exact ld (i:=1) b.sat (br.up b.stp) rfl (X9 rfl)) ?_
   refine Y3 (V:=I sj) (fun t w b e=>by subst e;exact Y6 b.sat (e4.up b.stp) rfl (X9 rfl)) ?_
   refine Y3 (V:= .pointer (some (K4 4 vv sj))) (fun t t2 w b e e2=>by subst e;subst e2;exact Y7 (az.up b.stp) M (X9 rfl)) ?_
   refine Y3 (V:= .agg [I val.sort,I val.n,S val.s,I val.ref].toArray) (fun t w b e=>by subst e;exact Z3 b.sat (g1.up b.stp) rfl (X9 rfl)) ?_
   refine Y3 (V:=I (toI cs val)) (fun t t2 w b e e2=>by subst e;subst e2;exact X5X b.sat (W0 bk ⟨b.stp.le⟩) fun w' σ' hk=>F7 hk.bel rfl) ?_
   rintro _ _ _ _ _ _ _ _ _ _ _ _ _ wB bg rfl rfl rfl rfl rfl rfl rfl rfl rfl rfl rfl rfl rfl;have kB:=Stp.of_below sA bg.stp.bel;rw[X67];refine X1v (SA.trans kB) (AA.up kB) Q5 (ap _) fun v5 wC σC SC bq AC=>?_
   (try simp only[↓M1,M1,Mb,reduceIte])
   refine Z8 (by simpa using ax) B ⟨σC,D.more bq,SC,?_⟩
   rw[bj];exact AC
  .have:j=(D3 l cs x).length:=by simp at Q;omega
   subst this;rw[ol,List.take_length] at AA
   (try simp only[↓M1,M1,Mb,reduceIte])
   refine Z8 Q5 Q5 ⟨σA,z.more D,SA,?_⟩;rw[bl];exact AA
 .have aj:(L2 (N0 l cs) (G4 cs) v i).length<=i:=by simp[ints] at U;omega
  obtain ⟨σ8,S8,bm,_⟩:=A7.keep S7;refine h a w7 σ8 (S2.trans S8) ?_;unfold I6;rw[Q2p aj hi];exact bm)
end Go.Proofs.Y
namespace Go.Hm
open Go.Kd Go.Emb
theorem X0Y {rs:List Nat} {n:Int}:T9 rs n<0↔ ¬n∈ints rs:=by
 unfold T9;cases e:rs.findIdx? fun (x:Nat)=>decide ((x:Int)=n) with
 | none=>
  rw[List.findIdx?_eq_none_iff] at e;refine ⟨fun _ h=>?_,fun _=>by decide⟩
  obtain ⟨y,d,a⟩:=List.mem_map.1 h;have:=e y d
  simp[a] at this
 | some i=>
  obtain ⟨b,c,_⟩:=List.findIdx?_eq_some_iff_getElem.1 e;refine ⟨fun h=>?_,fun h=>absurd (List.mem_map.2 ⟨_,List.getElem_mem b,by simpa using c⟩) h⟩
  simp[ixO] at h
  omega
theorem X37 {rs:List Nat} {n:Int} (h:n∈ints rs):T9 rs n=Q1H rs n:=by
 have a: ¬T9 rs n<0:=fun e=>X0Y.1 e h;unfold T9 at a;unfold T9 Q1H;cases e:rs.findIdx? fun (x:Nat)=>decide ((x:Int)=n) with
 | none=>rw[e] at a;exact absurd L7 a
 | some i=>rfl
theorem Q7O {num a:Int->Int} {v:Val} (h:v.sort=4->num v.ref=a v.ref):H3 num v=H3 a v:=by
 unfold H3
 by_cases e:v.sort=4
 .rw[h e]
 .simp only[if_neg e]
theorem Ih {α:Type} {f g:α->Q9}: ∀{xs:List α},(∀x∈xs,f x=g x)->xs.flatMap f=xs.flatMap g
 | [],_=>rfl
 | x::xs,h=>by
  rw[List.flatMap_cons,List.flatMap_cons,h x V5,Ih fun y a=>h y (by simp[a])]
theorem X2E {num a:Int->Int} {l:List Cla} {cs:List Cel} {vs:List Val} {rs:List Nat} (b: ∀r∈rs,∀p∈N0 l cs r,p.sort=4->num p.ref=a p.ref) (c: ∀v∈vs,v.sort=4->num v.ref=a v.ref):Nc num l cs vs rs=Nc a l cs vs rs:=by
 unfold Nc;rw[Ih (f:=fun r=>(N0 l cs r).flatMap (H3 num)) fun r e=>Ih (g:=H3 a) fun p d=>Q7O (b r e p d),Ih (f:=H3 num) fun v h=>Q7O (c v h)]
theorem X6Y {ok:Q9->Bool} {cs:List Cel} {v:Val} (h:K5 ok cs v≠[]) (b:v.sort=4):M4 cs v.ref=true:=by
 have z: ∀{x:Val},v=x->x.sort≠4->False:=fun e a=>a (e▸b);unfold K5 at h
 split at h
 .rename_i e;exact (z e L7).elim
 split at h
 .rename_i e;exact (z e (show (1:Int)≠4 by decide)).elim
 split at h
 .rename_i e;exact (z e.1 (show (2:Int)≠4 by decide)).elim
 split at h
 .rename_i e;exact (z e.1 (show (3:Int)≠4 by decide)).elim
 split at h
 .unfold O8 at h
  by_cases e:M4 cs v.ref=true
  .exact e
  .rw[if_neg e] at h
   exact absurd rfl h
 .exact absurd rfl h
theorem X1F {ok:Q9->Bool} {l:List Cla} {cs:List Cel} {vs:List Val} (j:Q07 cs) (g:El ok cs vs=false):Nc (T9 (L4 l cs vs)) l cs vs (L4 l cs vs)=Nd l cs vs:=by
 unfold Nd;refine X2E (fun r m p k b=>X37 ?_) fun v c b=>X37 ?_
 .obtain ⟨v,c,i⟩:=Ix.1 m
  obtain ⟨a,d,f⟩:=Y07 j i k b;obtain ⟨_,e,_⟩:=X1K d;rw[e];exact List.mem_map.2 ⟨a,Ix.2 ⟨v,c,f⟩,rfl⟩
 .have h:K5 ok cs v≠[]:=fun e=>by
   unfold El at g;rw[List.any_eq_false] at g;exact g v c (by simpa using e)
  obtain ⟨a,e,d⟩:=W7.1 (X6Y h b);have n:G4 cs v=some a:=X97 b e d;rw[e];refine List.mem_map.2 ⟨a,Ix.2 ⟨v,c,?_⟩,rfl⟩;exact List.mem_of_getElem? (X2y n)
end Go.Hm
namespace Go.Proofs.Y
open Go.Emb Go.RowKit Go.Kd Go.Hm
variable {w w' : World} {K : Value -> World -> Prop} {σ σ' : Q2} {refs : List Nat}
theorem Bd {n:Int} (a:X3 w σ) (h: ∀w' σ',Stp w σ w' σ'->K (S (U6 (Wl n))) w'):Q0 P F.t [I n] w K:=Q4R (by
 unfold Fs;refine Kg ?_;exact Q8v a (Ng n) h)
theorem X1q {xs:List Nat} {v:Value} {n:Int} (t:X3 w σ) (g:Sl 1 O5 σ v (ints xs)) (h:K (I (T9 xs n)) w):Q0 P F.bs [v,I n] w K:=Q5L (by
 unfold Gw J3 V1 X4 X1;have p:(ints xs).length=xs.length:=by simp
 have o:=g.max;rw[p] at o;refine V7 xs.length (fun i w'=>w'=w/\ ∀y∈xs.take i,(y:Int)≠n) ⟨rfl,by simp⟩ fun i w1 d z m=>?_
 obtain ⟨rfl,c⟩:=m;refine Q6 g ?_;rw[p];refine Y9 ?_;refine Q4 (fun f=>?_) (fun f=>?_)
 .have b:i<xs.length:=by simpa using f
  refine E4 g (by rw[p];exact b) fun a u r _ s=>?_
  obtain ⟨rfl,_⟩:=s;refine Y6 t r rfl ?_;simp only[List.getElem_map];refine E7 ?_;refine Q4 (fun q=>?_) (fun q=>?_)
  .have e:(xs[i]:Int)=n:=by simpa using q
   have:xs.findIdx? (fun (y:Nat)=>decide ((y:Int)=n))=some i:=by
    rw[List.findIdx?_eq_some_iff_getElem];refine ⟨b,by simpa using e,fun j A=>?_⟩
    simp only[decide_eq_true_eq,Bool.not_eq_true];refine fun e=>c _ ?_ e;rw[List.mem_take_iff_getElem];exact ⟨j,by omega,rfl⟩
   unfold T9 at h;rw[this] at h;exact h
  .have e: ¬(xs[i]:Int)=n:=by simpa using q
   (try simp only[↓M1,M1,Mb,reduceIte])
   refine Z4 o b ⟨rfl,fun y k=>?_⟩;rw[List.take_add_one,List.getElem?_eq_getElem b,Option.toList_some,List.mem_append,List.mem_singleton] at k
   rcases k with k | rfl
   .exact c y k
   .exact e
 .have b: ¬i<xs.length:=by simpa using f
  rw[List.take_of_length_le Q5] at c
  have:xs.findIdx? (fun (y:Nat)=>decide ((y:Int)=n))=none:=by
   rw[List.findIdx?_eq_none_iff];intro y k
   simpa using c y k
  unfold T9 at h;rw[this] at h;exact h)
theorem Q9k {xs:List Q9} {v:Value} {n:Q9} (p:X3 w σ) (b:Sl 1 L1 σ v xs) (h:K (I (E1 (xs.findIdx? fun y=>decide (y=n)))) w):Q0 P F.aU [v,S n] w K:=Q2m (by
 unfold Ri J3 V1 X4 X1;have o:=b.max;refine V7 xs.length (fun i w'=>w'=w/\ ∀y∈xs.take i,y≠n) ⟨rfl,by simp⟩ fun i w1 d r k=>?_
 obtain ⟨rfl,f⟩:=k;refine Q6 b ?_;refine Y9 ?_;refine Q4 (fun c=>?_) (fun c=>?_)
 .have a:i<xs.length:=by simpa using c
  obtain ⟨q,_⟩:=b.elS a;refine Y7 b a ?_;refine Y6 p q rfl ?_;refine K2 ?_;refine Q4 (fun m=>?_) (fun m=>?_)
  .have e:xs[i]=n:=by simpa using m
   have:xs.findIdx? (fun y=>decide (y=n))=some i:=by
    rw[List.findIdx?_eq_some_iff_getElem];refine ⟨a,by simpa using e,fun j s=>?_⟩
    simp only[decide_eq_true_eq,Bool.not_eq_true];refine fun e=>f _ ?_ e;rw[List.mem_take_iff_getElem];exact ⟨j,by omega,rfl⟩
   rw[this] at h;exact h
  .have e: ¬xs[i]=n:=by simpa using m
   (try simp only[↓M1,M1,Mb,reduceIte])
   refine Z4 o a ⟨rfl,fun y g=>?_⟩;rw[List.take_add_one,List.getElem?_eq_getElem a,Option.toList_some,List.mem_append,List.mem_singleton] at g
   rcases g with g | rfl
   .exact f y g
   .exact e
 .have:xs.findIdx? (fun y=>decide (y=n))=none:=by
   rw[List.findIdx?_eq_none_iff];intro y g;have:=f y (by rw[List.take_of_length_le (by simp at c;omega)];exact g)
   simpa using this
  rw[this] at h;exact h)
theorem Q9m {x:Val} {v:Value} (y:X3 w σ) (z:Sl 1 O5 σ v (ints refs)) (A:VB x) (h: ∀w' σ',Stp w σ w' σ'->K (S (H3 (T9 refs) x)) w'):Q0 P F.aV [.agg [I x.sort,I x.n,S x.s,I x.ref].toArray,v] w K:=Q2n (by
 obtain ⟨B,m,t,C⟩:=A;unfold Rj X6 X2 X1;unfold H3 at h;refine Z6 y fun q w1 σ1 k o=>?_;refine U7 ?_;refine ld (i:=0) k.sat o rfl ?_;refine Bd k.sat fun D E b=>?_;have c:=k.trans b;have a:=o.up b;have u:=G6 (Ng x.sort);unfold V4 at t;refine U7 ?_;refine ld (i:=0) b.sat a rfl ?_;refine E7 ?_
 by_cases e:x.sort=1
 .rw[decide_eq_true e]
  rw[if_pos e] at h;refine Z1 ?_;refine U7 ?_;refine ld (i:=1) b.sat a rfl ?_;refine X8U b.sat m fun p r d=>?_;have:=G6 (Q5s m);refine H4 Q5 ?_;exact h _ _ (c.trans d)
 rw[decide_eq_false e];rw[if_neg e] at h;refine Z0 ?_;refine E7 ?_
 by_cases f:x.sort=2
 .rw[decide_eq_true f]
  rw[if_pos f] at h;refine Z1 ?_;refine U7 ?_;refine ld (i:=1) b.sat a rfl ?_;refine E7 ?_;refine X7a ?_;refine H4 (by unfold Et;simp;omega) ?_
  exact h _ _ c
 rw[decide_eq_false f];rw[if_neg f] at h;refine Z0 ?_;refine E7 ?_
 by_cases g:x.sort=3
 .rw[decide_eq_true g]
  rw[if_pos g] at h;refine Z1 ?_;refine U7 ?_;refine ld (i:=2) b.sat a rfl ?_;refine Q6B b.sat (by unfold V4;omega) fun p r d=>?_
  have:=G6 (v:=x.s.length) Q5;refine H4 (by unfold M3;rw[List.length_append];omega) ?_
  exact h _ _ (c.trans d)
 rw[decide_eq_false g];rw[if_neg g] at h;refine Z0 ?_;refine E7 ?_
 by_cases j:x.sort=4
 .rw[decide_eq_true j]
  rw[if_pos j] at h;refine Z1 ?_;refine U7 ?_;refine ld (i:=3) b.sat a rfl ?_;refine X1q b.sat (z.up c) ?_;refine Bd b.sat fun p r d=>?_;have:=G6 (Ng (T9 refs x.ref));refine H4 Q5 ?_;exact h _ _ (c.trans d)
 rw[decide_eq_false j];rw[if_neg j,List.append_nil] at h;refine Z0 ?_;exact h _ _ c)
end Go.Proofs.Y
