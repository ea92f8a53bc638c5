/- Parts of a proof about the given program: its functions as texts of their own, what each computes, plain laws of that. The conditions of each stand in its statement. -/
import Derived.Test.YtkllbfjojoncaaaGreatDoorB5
import Derived.Test.YtkllbfjojoncaaaGreatDoorB4
import Derived.Test.YtkllbfjojoncaaaGreatDoorB3
import Derived.ChangeKeysEq
import Derived.Test.YtkllbfjojoncaaaGreatDoorRows
import Derived.WalkKit
import Derived.ProofKit
import Derived.OpenShut
import Derived.ShutString
import Derived.ChangeOld
import Derived.Below
import Derived.SizedLaws
import Derived.Lay
import Derived.Carry
import Derived.MakeChecks
import Derived.PinnedBridge
set_option linter.unnecessarySimpa false
set_option linter.defProp false
set_option linter.unusedSectionVars false
set_option linter.unusedVariables false
set_option linter.unusedSimpArgs false
namespace Go.Hm
open Go.Kd
def Et (c:Cla) (i:Nat):Bool:=S1 (c.like.getD i [])&& !decide (c.like.getD i []=c.name)
def Yd (c:Cla) (i k:Nat):Bool:= !decide (c.like.getD k []=c.like.getD i [])
def Ix (c:Cla) (i:Nat):Fld:=c.fields.getD i Fld.zero
def Bi (c:Cla) (i:Nat):Hm.Met:=c.methods.getD i Hm.Met.zero
def Rr (c:Cla) (i:Nat):Bool:=C9 (Ix c i).name&&right (Ix c i).kind&& !c.iface
def Zz (c:Cla) (i k:Nat):Bool:= !decide ((Ix c k).name=(Ix c i).name)
def X12 (c:Cla):Bool:=(!c.iface||(c.abs&&decide (c.super=W7)))&& !(c.abs&&c.fin)
def Jc (c:Cla) (i k:Nat):Bool:= !decide ((Bi c k).name=(Bi c i).name)
theorem Oc {p:Nat->Bool} {n:Nat}:(List.range (n+1)).all p=((List.range n).all p&&p n):=by rw[List.range_succ,List.all_append];simp
theorem I8 {α:Type} {xs:List α} {i:Nat} {d:α} (h:i<xs.length):xs.getD i d=xs[i]:=by rw[List.getD_eq_getElem?_getD,List.getElem?_eq_getElem h];rfl
end Go.Hm
namespace Go.Proofs.Y
open Go.Emb Go.RowKit Go.Kd Go.Hm
variable {w : World} {K : Value -> World -> Prop}
def Eu (c:Cla) (i:Nat):Bool:=Xa (Bi c i)&&(!(Bi c i).abs||c.abs)&&(!c.iface||(Bi c i).abs)
set_option maxHeartbeats 2000000 in
theorem Q5Z {c:Cla} {lv fv mv:Value} {w1:World} {σ1:Q2} {q:Addr} {ok:Bool} (ac:X7 w1 σ1) (hq:J7 σ1 q [S c.name,S c.super,lv, .bool c.iface, .bool c.abs, .bool c.fin,fv,mv]) {i:Nat} {N m0:Nat} {M:Nat->Value->World->Prop} (g1:Sl 1 L6 σ1 lv c.like) (hi:i<c.like.length)
 (h: ∀w' σ',Stp w1 σ1 w' σ'->Kq N M (Value.bool (ok&&(List.range i).all (Yd c i)), .int .i64 (IntKind.i64.wrap (i+1))) w'/\Dc N (Value.bool (ok&&(List.range i).all (Yd c i)), .int .i64 (IntKind.i64.wrap (i+1)))<m0):
 lp (
  α:=Value×Value) (Value.bool ok,(.int .i64 0)) w1 fun g b d_ w=>
  Z2 P .lss T.f (.tmp 52) (.tmp 53) b.2 (I i) w fun ae w=>
  X1 ae (
   dr w fun e f=>
   Z7 e (fun u=> ∀w:World,f w->Q1 b.1 true w (fieldAddr P T.b (.pointer (some q)) 2) (dk e u w)) fun u=>
   Z7 e (fun y=> ∀w:World,f w->Q1 b.1 true w (fun w J=>J b.2 w) (dk e y w)) fun y=>
   Z7 e (fun A=> ∀w:World,f w->Q1 b.1 true w (fieldAddr P T.b (.pointer (some q)) 2) (dk e A w)) fun A=>
   Z7 e (fun C=> ∀w:World,f w->Q1 b.1 true w (fun w J=>J (I i) w) (dk e C w)) fun C=>
   Z7 e (fun v=> ∀l:Value,∀w:World,f w->u l w->Q1 b.1 true w (Q6 P T.h l) (dk e v w)) fun v=>
   Z7 e (fun z=> ∀m:Value,∀n:Value,∀w:World,f w->v m w->y n w->Q1 b.1 true w (indexAddr P T.h m n) (dk e z w)) fun z=>
   Z7 e (fun H=> ∀o:Value,∀w:World,f w->z o w->Q1 b.1 true w (Q6 P T.c o) (dk e H w)) fun H=>
   Z7 e (fun B=> ∀p:Value,∀w:World,f w->A p w->Q1 b.1 true w (Q6 P T.h p) (dk e B w)) fun B=>
   Z7 e (fun D=> ∀r:Value,∀s:Value,∀w:World,f w->B r w->C s w->Q1 b.1 true w (indexAddr P T.h r s) (dk e D w)) fun D=>
   Z7 e (fun L=> ∀t:Value,∀w:World,f w->D t w->Q1 b.1 true w (Q6 P T.c t) (dk e L w)) fun L=>
   ∀l:Value,∀n:Value,∀p:Value,∀s:Value,∀m:Value,∀o:Value,∀V:Value,∀r:Value,∀t:Value,∀W:Value,∀w:World,f w->u l w->y n w->A p w->C s w->v m w->z o w->H V w->B r w->D t w->L W w->
   Q1 b.1 true w (Z2 P .neq T.c (.tmp 63) (.tmp 68) V W) fun ag w=>
   pick P b.1 ag (.bool false) w fun ah w=>
   Z2 P .add T.f (.tmp 55) (.const (.int .i64 1)) b.2 (.int .i64 1) w fun af w=>
   g (ah,af) w) (
   Z2 P .add T.f (.tmp 31) (.const (.int .i64 1)) (I i) (.int .i64 1) w fun U w=>
   (Kq N M (b.1,U) w/\Dc N (b.1,U)<m0)):=by
 have am:=g1.max;refine B7 (a:=Value.bool ok) i (fun k x w'=> ∃σ',Stp w1 σ1 w' σ'/\x=Value.bool (ok&&(List.range k).all (Yd c i))) ⟨σ1,Stp.refl ac,by simp⟩ fun k x w2 d hk Q=>?_
 obtain ⟨σ2,j,rfl⟩:=Q;have ar:=hq.up j;have O:=g1.up j;have ad:=j.sat;refine J0 ?_;refine Q5 (fun X=>?_) (fun X=>?_)
 .have aa:k<i:=by simpa using X
  have R:k<c.like.length:=by omega
  have E:(ok&&(List.range (k+1)).all (Yd c i))=((ok&&(List.range k).all (Yd c i))&&Yd c i k):=by rw[Oc,Bool.and_assoc]
  have hQ:Yd c i k= !decide (c.like[k]=c.like[i]):=by unfold Yd;rw[I8 R,I8 hi]
  rw[hQ] at E;obtain ⟨p1,_⟩:=O.elS R;obtain ⟨p2,_⟩:=O.elS hi;generalize (ok&&(List.range k).all (Yd c i))=Y at E⊢;clear h hQ X;cases Y
  all_goals
   refine U9 ad ?_
   (repeat refine X2 Uk ?_)
   (intros;(repeat (rename_i hx;subst hx));(try simp only[↓M2,M2,Mb,reduceIte]))
   rename_i w3 Z;exact V1 Q4 aa ⟨σ2,j.trans Z.stp,by rw[E];rfl⟩
 .have ab:k=i:=by
   have: ¬k<i:=by simpa using X
   omega
  subst ab
  (try simp only[↓M1,M1,Mb,reduceIte])
  exact h _ _ j
set_option maxHeartbeats 4000000 in
theorem X40 {c:Cla} {lv fv mv:Value} {w1:World} {σ1:Q2} {q:Addr} {ok:Bool} (hs1:X7 w1 σ1) (hq:J7 σ1 q [S c.name,S c.super,lv, .bool c.iface, .bool c.abs, .bool c.fin,fv,mv]) {J:Value->World->Prop} (hn:c.name.length<=V9) (g1:Sl 1 L6 σ1 lv c.like)
 (h: ∀w' σ',Stp w1 σ1 w' σ'->J (.bool (ok&&(List.range c.like.length).all fun i=>Et c i&&(List.range i).all (Yd c i))) w'):
 lp (α:=Value×Value) (Value.bool ok,(.int .i64 0)) w1 fun again4 x4 d_ w=>
 fieldAddr P T.b (.pointer (some q)) 2 w fun t27 w=>
 Q6 P T.h t27 w fun t28 w=>
 U7 P .len [T.h] T.f [false] [t28] w fun t29 w=>
 Z2 P .lss T.f (.tmp 26) (.tmp 29) x4.2 t29 w fun t30 w=>
 X1 t30 (
  dr w fun Tr Br=>
  Z7 Tr (fun φ35=> ∀w:World,Br w->Q1 x4.1 true w (fieldAddr P T.b (.pointer (some q)) 2) (dk Tr φ35 w)) fun φ35=>
  Z7 Tr (fun φ37=> ∀w:World,Br w->Q1 x4.1 true w (fun w J=>J x4.2 w) (dk Tr φ37 w)) fun φ37=>
  Z7 Tr (fun φ36=> ∀t35:Value,∀w:World,Br w->φ35 t35 w->Q1 x4.1 true w (Q6 P T.h t35) (dk Tr φ36 w)) fun φ36=>
  Z7 Tr (fun φ38=> ∀t36:Value,∀t37:Value,∀w:World,Br w->φ36 t36 w->φ37 t37 w->Q1 x4.1 true w (indexAddr P T.h t36 t37) (dk Tr φ38 w)) fun φ38=>
  Z7 Tr (fun φ39=> ∀t38:Value,∀w:World,Br w->φ38 t38 w->Q1 x4.1 true w (Q6 P T.c t38) (dk Tr φ39 w)) fun φ39=>
  Z7 Tr (fun φ40=> ∀t39:Value,∀w:World,Br w->φ39 t39 w->Q1 x4.1 true w (Q0 P F.d [t39]) (dk Tr φ40 w)) fun φ40=>
  Z7 Tr (fun φ41=> ∀t40:Value,∀w:World,Br w->φ40 t40 w->pick P x4.1 t40 (.bool false) w (dk Tr φ41 w)) fun φ41=>
  Z7 Tr (fun φ43=> ∀t41:Value,∀w:World,Br w->φ41 t41 w->Q1 t41 true w (fieldAddr P T.b (.pointer (some q)) 2) (dk Tr φ43 w)) fun φ43=>
  Z7 Tr (fun φ45=> ∀t41:Value,∀w:World,Br w->φ41 t41 w->Q1 t41 true w (fun w J=>J x4.2 w) (dk Tr φ45 w)) fun φ45=>
  Z7 Tr (fun φ48=> ∀t41:Value,∀w:World,Br w->φ41 t41 w->Q1 t41 true w (fieldAddr P T.b (.pointer (some q)) 0) (dk Tr φ48 w)) fun φ48=>
  Z7 Tr (fun φ44=> ∀t41:Value,∀t43:Value,∀w:World,Br w->φ41 t41 w->φ43 t43 w->Q1 t41 true w (Q6 P T.h t43) (dk Tr φ44 w)) fun φ44=>
  Z7 Tr (fun φ46=> ∀t41:Value,∀t44:Value,∀t45:Value,∀w:World,Br w->φ41 t41 w->φ44 t44 w->φ45 t45 w->Q1 t41 true w (indexAddr P T.h t44 t45) (dk Tr φ46 w)) fun φ46=>
  Z7 Tr (fun φ47=> ∀t41:Value,∀t46:Value,∀w:World,Br w->φ41 t41 w->φ46 t46 w->Q1 t41 true w (Q6 P T.c t46) (dk Tr φ47 w)) fun φ47=>
  Z7 Tr (fun φ49=> ∀t41:Value,∀t48:Value,∀w:World,Br w->φ41 t41 w->φ48 t48 w->Q1 t41 true w (Q6 P T.c t48) (dk Tr φ49 w)) fun φ49=>
  ∀t35:Value,∀t37:Value,∀t36:Value,∀t38:Value,∀t39:Value,∀t40:Value,∀t41:Value,∀t43:Value,∀t45:Value,∀t48:Value,∀t44:Value,∀t46:Value,∀t47:Value,∀t49:Value,∀w:World,Br w->φ35 t35 w->φ37 t37 w->φ36 t36 w->φ38 t38 w->φ39 t39 w->φ40 t40 w->φ41 t41 w->φ43 t43 w->φ45 t45 w->φ48 t48 w->φ44 t44 w->φ46 t46 w->φ47 t47 w->φ49 t49 w->
  Q1 t41 true w (Z2 P .neq T.c (.tmp 47) (.tmp 49) t47 t49) fun t50 w=>
  pick P t41 t50 (.bool false) w fun t51 w=>
  lp (α:=Value×Value) (t51,(.int .i64 0)) w fun again10 x10 d_ w=>
   Z2 P .lss T.f (.tmp 52) (.tmp 53) x10.2 x4.2 w fun t54 w=>
   X1 t54 (
    dr w fun Tr Br=>
    Z7 Tr (fun φ59=> ∀w:World,Br w->Q1 x10.1 true w (fieldAddr P T.b (.pointer (some q)) 2) (dk Tr φ59 w)) fun φ59=>
    Z7 Tr (fun φ61=> ∀w:World,Br w->Q1 x10.1 true w (fun w J=>J x10.2 w) (dk Tr φ61 w)) fun φ61=>
    Z7 Tr (fun φ64=> ∀w:World,Br w->Q1 x10.1 true w (fieldAddr P T.b (.pointer (some q)) 2) (dk Tr φ64 w)) fun φ64=>
    Z7 Tr (fun φ66=> ∀w:World,Br w->Q1 x10.1 true w (fun w J=>J x4.2 w) (dk Tr φ66 w)) fun φ66=>
    Z7 Tr (fun φ60=> ∀t59:Value,∀w:World,Br w->φ59 t59 w->Q1 x10.1 true w (Q6 P T.h t59) (dk Tr φ60 w)) fun φ60=>
    Z7 Tr (fun φ62=> ∀t60:Value,∀t61:Value,∀w:World,Br w->φ60 t60 w->φ61 t61 w->Q1 x10.1 true w (indexAddr P T.h t60 t61) (dk Tr φ62 w)) fun φ62=>
    Z7 Tr (fun φ63=> ∀t62:Value,∀w:World,Br w->φ62 t62 w->Q1 x10.1 true w (Q6 P T.c t62) (dk Tr φ63 w)) fun φ63=>
    Z7 Tr (fun φ65=> ∀t64:Value,∀w:World,Br w->φ64 t64 w->Q1 x10.1 true w (Q6 P T.h t64) (dk Tr φ65 w)) fun φ65=>
    Z7 Tr (fun φ67=> ∀t65:Value,∀t66:Value,∀w:World,Br w->φ65 t65 w->φ66 t66 w->Q1 x10.1 true w (indexAddr P T.h t65 t66) (dk Tr φ67 w)) fun φ67=>
    Z7 Tr (fun φ68=> ∀t67:Value,∀w:World,Br w->φ67 t67 w->Q1 x10.1 true w (Q6 P T.c t67) (dk Tr φ68 w)) fun φ68=>
    ∀t59:Value,∀t61:Value,∀t64:Value,∀t66:Value,∀t60:Value,∀t62:Value,∀t63:Value,∀t65:Value,∀t67:Value,∀t68:Value,∀w:World,Br w->φ59 t59 w->φ61 t61 w->φ64 t64 w->φ66 t66 w->φ60 t60 w->φ62 t62 w->φ63 t63 w->φ65 t65 w->φ67 t67 w->φ68 t68 w->
    Q1 x10.1 true w (Z2 P .neq T.c (.tmp 63) (.tmp 68) t63 t68) fun t69 w=>
    pick P x10.1 t69 (.bool false) w fun t70 w=>
    Z2 P .add T.f (.tmp 55) (.const (.int .i64 1)) x10.2 (.int .i64 1) w fun t56 w=>
    again10 (t70,t56) w) (
    Z2 P .add T.f (.tmp 31) (.const (.int .i64 1)) x4.2 (.int .i64 1) w fun t32 w=>
    again4 (x10.1,t32) w)) (
  J x4.1 w):=by
 have hmax:=g1.max;refine B7 (a:=Value.bool ok) c.like.length (fun n x w'=> ∃σ',Stp w1 σ1 w' σ'/\x=Value.bool (ok&&(List.range n).all fun i=>Et c i&&(List.range i).all (Yd c i))) ⟨σ1,Stp.refl hs1,by simp⟩ fun n x w2 d hn2 hinv=>?_
 obtain ⟨σ2,hk2,rfl⟩:=hinv;have hq2:=hq.up hk2;have g12:=g1.up hk2;have hs2:=hk2.sat
 (repeat refine Hd.h ?_)
 refine ld hs2 hq2 rfl ?_;refine Q8 g12 ?_;refine J0 ?_;refine Q5 (fun hc=>?_) (fun hc=>?_)
 .have hn':n<c.like.length:=by simpa using hc
  have hnx:(ok&&(List.range (n+1)).all fun i=>Et c i&&(List.range i).all (Yd c i))=((ok&&(List.range n).all fun i=>Et c i&&(List.range i).all (Yd c i))&&(Et c n&&(List.range n).all (Yd c n))):=by rw[Oc,Bool.and_assoc]
  have hP:Et c n=(S1 c.like[n]&& !decide (c.like[n]=c.name)):=by unfold Et;rw[I8 hn']
  obtain ⟨p1,p2⟩:=g12.elS hn';have p2:c.like[n].length<=140737488355328:=by simp only[V9] at p2;omega
  generalize (ok&&(List.range n).all fun i=>Et c i&&(List.range i).all (Yd c i))=acc at hnx⊢;clear h hc;cases hacc:acc with
  | false=>
   refine U9 hs2 ?_
   (repeat refine X2 Uk ?_)
   intros;(repeat (rename_i hx;subst hx))
   rename_i w3 hb3
   (repeat refine Hd.h ?_)
   refine Q5Z hb3.sat hq2 g12 hn' fun w4 σ4 hk4=>?_;exact V1 hmax hn' ⟨σ4,hk2.trans (hb3.stp.trans hk4),by rw[hnx,hacc];rfl⟩
  | true=>
   cases hcl:S1 c.like[n] with
   | false=>
    refine U9 hs2 ?_;have hrc: ∀{w':World} {K:Value->World->Prop},K (.bool false) w'->Q0 P F.d [S c.like[n]] w' K:=fun hK=>Jo _ p2 (by rw[hcl];exact hK)
    (repeat (apply X2;(· intros;(repeat (rename_i hx;subst hx));(repeat' (first | (with_reducible exact Q9 rfl) | (with_reducible exact Qa (Stp.bel (by (repeat (first | exact Stp.refl (by (first | assumption | exact Stp.sat Q7 | exact Hst.sat Q7)) | assumption | refine Stp.trans ?_ (by first | assumption | exact Hst.stp Q7))))) rfl) | (with_reducible intro _) | (simp only[↓M2,M2,Mb,reduceIte]) | (with_reducible refine hrc ?_) | (with_reducible show Q6 _ _ _ _ _;first | refine Y6 aS aL aR ?_ | refine Z0 aS aL aR ?_ | refine ld aS aL aR ?_) | (with_reducible show indexAddr _ _ _ _ _ _;refine Z5 aL au ?_) | (with_reducible show U7 _ _ _ _ _ _ _ _;refine Q8 aL ?_) | (with_reducible show Qs _ _ _ _ _ _;refine V7 aR ?_) | (with_reducible show pick _ _ _ _ _ _;refine B8 ?_) | (apply Yu;intro hh;(try simp only[hh,reduceIte,↓M2,M2,Mb,reduceIte]))));done)))
    intros;(repeat (rename_i hx;subst hx))
    rename_i w3 hb3
    (repeat refine Hd.h ?_)
    refine Q5Z hb3.sat hq2 g12 hn' fun w4 σ4 hk4=>?_;exact V1 hmax hn' ⟨σ4,hk2.trans (hb3.stp.trans hk4),by rw[hnx,hacc,hP,hcl];rfl⟩
   | true=>
    refine U9 hs2 ?_;have hrc: ∀{w':World} {K:Value->World->Prop},K (.bool true) w'->Q0 P F.d [S c.like[n]] w' K:=fun hK=>Jo _ p2 (by rw[hcl];exact hK)
    (repeat (apply X2;(· intros;(repeat (rename_i hx;subst hx));(repeat' (first | (with_reducible exact Q9 rfl) | (with_reducible exact Qa (Stp.bel (by (repeat (first | exact Stp.refl (by (first | assumption | exact Stp.sat Q7 | exact Hst.sat Q7)) | assumption | refine Stp.trans ?_ (by first | assumption | exact Hst.stp Q7))))) rfl) | (with_reducible intro _) | (simp only[↓M2,M2,Mb,reduceIte]) | (with_reducible refine hrc ?_) | (with_reducible show Q6 _ _ _ _ _;first | refine Y6 aS aL aR ?_ | refine Z0 aS aL aR ?_ | refine ld aS aL aR ?_) | (with_reducible show indexAddr _ _ _ _ _ _;refine Z5 aL au ?_) | (with_reducible show U7 _ _ _ _ _ _ _ _;refine Q8 aL ?_) | (with_reducible show Qs _ _ _ _ _ _;refine V7 aR ?_) | (with_reducible show pick _ _ _ _ _ _;refine B8 ?_) | (apply Yu;intro hh;(try simp only[hh,reduceIte,↓M2,M2,Mb,reduceIte]))));done)))
    intros;(repeat (rename_i hx;subst hx))
    rename_i w3 hb3
    (repeat refine Hd.h ?_)
    refine Vs ?_
    (repeat refine Hd.h ?_)
    refine Q5Z hb3.sat hq2 g12 hn' fun w4 σ4 hk4=>?_;exact V1 hmax hn' ⟨σ4,hk2.trans (hb3.stp.trans hk4),by rw[hnx,hacc,hP,hcl];simp⟩
 .have hn': ¬n<c.like.length:=by simpa using hc
  obtain rfl:n=c.like.length:=by omega
  exact h _ _ hk2
set_option maxHeartbeats 2000000 in
theorem Q4U {c:Cla} {lv fv mv:Value} {w1:World} {σ1:Q2} {q:Addr} {ok:Bool} (ak:X7 w1 σ1) (hq:J7 σ1 q [S c.name,S c.super,lv, .bool c.iface, .bool c.abs, .bool c.fin,fv,mv]) {i:Nat} {N m0:Nat} {W:Nat->Value->World->Prop} (g2:Sl 3 G9 σ1 fv c.fields) (hi:i<c.fields.length)
 (h: ∀w' σ',Stp w1 σ1 w' σ'->Kq N W (Value.bool (ok&&(List.range i).all (Zz c i)), .int .i64 (IntKind.i64.wrap (i+1))) w'/\Dc N (Value.bool (ok&&(List.range i).all (Zz c i)), .int .i64 (IntKind.i64.wrap (i+1)))<m0):
 lp (α:=Value×Value) (Value.bool ok,(.int .i64 0)) w1 fun L b d_ w=>
  Z2 P .lss T.f (.tmp 102) (.tmp 103) b.2 (I i) w fun aa w=>
  X1 aa (
   dr w fun e H=>
   Z7 e (fun t=> ∀w:World,H w->Q1 b.1 true w (fieldAddr P T.b (.pointer (some q)) 6) (dk e t w)) fun t=>
   Z7 e (fun v=> ∀w:World,H w->Q1 b.1 true w (fun w J=>J b.2 w) (dk e v w)) fun v=>
   Z7 e (fun A=> ∀w:World,H w->Q1 b.1 true w (fieldAddr P T.b (.pointer (some q)) 6) (dk e A w)) fun A=>
   Z7 e (fun C=> ∀w:World,H w->Q1 b.1 true w (fun w J=>J (I i) w) (dk e C w)) fun C=>
   Z7 e (fun u=> ∀f:Value,∀w:World,H w->t f w->Q1 b.1 true w (Q6 P T.k f) (dk e u w)) fun u=>
   Z7 e (fun y=> ∀g:Value,∀j:Value,∀w:World,H w->u g w->v j w->Q1 b.1 true w (indexAddr P T.k g j) (dk e y w)) fun y=>
   Z7 e (fun z=> ∀l:Value,∀w:World,H w->y l w->Q1 b.1 true w (fieldAddr P T.n l 0) (dk e z w)) fun z=>
   Z7 e (fun O=> ∀m:Value,∀w:World,H w->z m w->Q1 b.1 true w (Q6 P T.c m) (dk e O w)) fun O=>
   Z7 e (fun B=> ∀n:Value,∀w:World,H w->A n w->Q1 b.1 true w (Q6 P T.k n) (dk e B w)) fun B=>
   Z7 e (fun D=> ∀o:Value,∀p:Value,∀w:World,H w->B o w->C p w->Q1 b.1 true w (indexAddr P T.k o p) (dk e D w)) fun D=>
   Z7 e (fun E=> ∀r:Value,∀w:World,H w->D r w->Q1 b.1 true w (fieldAddr P T.n r 0) (dk e E w)) fun E=>
   Z7 e (fun Q=> ∀s:Value,∀w:World,H w->E s w->Q1 b.1 true w (Q6 P T.c s) (dk e Q w)) fun Q=>
   ∀f:Value,∀j:Value,∀n:Value,∀p:Value,∀g:Value,∀l:Value,∀m:Value,∀R:Value,∀o:Value,∀r:Value,∀s:Value,∀U:Value,∀w:World,H w->t f w->v j w->A n w->C p w->u g w->y l w->z m w->O R w->B o w->D r w->E s w->Q U w->
   Q1 b.1 true w (Z2 P .neq T.c (.tmp 114) (.tmp 120) R U) fun ac w=>
   pick P b.1 ac (.bool false) w fun ad w=>
   Z2 P .add T.f (.tmp 105) (.const (.int .i64 1)) b.2 (.int .i64 1) w fun ab w=>
   L (ad,ab) w) (
   Z2 P .add T.f (.tmp 76) (.const (.int .i64 1)) (I i) (.int .i64 1) w fun ae w=>
   (Kq N W (b.1,ae) w/\Dc N (b.1,ae)<m0)):=by
 have ar:=g2.max;refine B7 (a:=Value.bool ok) i (fun k x w'=> ∃σ',Stp w1 σ1 w' σ'/\x=Value.bool (ok&&(List.range k).all (Zz c i))) ⟨σ1,Stp.refl ak,by simp⟩ fun k x w2 d hk Y=>?_
 obtain ⟨σ2,M,rfl⟩:=Y;have ax:=hq.up M;have X:=g2.up M;have al:=M.sat;refine J0 ?_;refine Q5 (fun hc=>?_) (fun hc=>?_)
 .have ai:k<i:=by simpa using hc
  have Z:k<c.fields.length:=by omega
  have V:(ok&&(List.range (k+1)).all (Zz c i))=((ok&&(List.range k).all (Zz c i))&&Zz c i k):=by rw[Oc,Bool.and_assoc]
  have hQ:Zz c i k= !decide (c.fields[k].name=c.fields[i].name):=by unfold Zz Ix;rw[I8 Z,I8 hi]
  rw[hQ] at V;obtain ⟨p1,_⟩:=X.elF Z;obtain ⟨p2,_⟩:=X.elF hi;generalize (ok&&(List.range k).all (Zz c i))=ag at V⊢;clear h hQ hc;cases ag
  all_goals
   refine U9 al ?_
   (repeat refine X2 Uk ?_)
   (intros;(repeat (rename_i hx;subst hx));(try simp only[↓M2,M2,Mb,reduceIte]))
   rename_i w3 ah;exact V1 Q4 ai ⟨σ2,M.trans ah.stp,by rw[V];rfl⟩
 .have aj:k=i:=by
   have: ¬k<i:=by simpa using hc
   omega
  subst aj
  (try simp only[↓M1,M1,Mb,reduceIte])
  exact h _ _ M
set_option maxHeartbeats 4000000 in
theorem X5y {c:Cla} {lv fv mv:Value} {w1:World} {σ1:Q2} {q:Addr} {ok:Bool} (aw:X7 w1 σ1) (hq:J7 σ1 q [S c.name,S c.super,lv, .bool c.iface, .bool c.abs, .bool c.fin,fv,mv]) {J:Value->World->Prop} (g2:Sl 3 G9 σ1 fv c.fields)
 (h: ∀w' σ',Stp w1 σ1 w' σ'->J (.bool (ok&&(List.range c.fields.length).all fun i=>Rr c i&&(List.range i).all (Zz c i))) w'):
 lp (
  α:=Value×Value) (Value.bool ok,(.int .i64 0)) w1 fun Z g d_ w=>
  fieldAddr P T.b (.pointer (some q)) 6 w fun ax w=>
  Q6 P T.k ax w fun ay w=>
  U7 P .len [T.k] T.f [false] [ay] w fun az w=>
  Z2 P .lss T.f (.tmp 71) (.tmp 74) g.2 az w fun a0 w=>
  X1 a0 (
   Q1 g.1 true w (fieldAddr P T.b (.pointer (some q)) 6) fun a2 w=>
   Q1 g.1 true w (Q6 P T.k a2) fun a3 w=>
   Q1 g.1 true w (fun w J=>J g.2 w) fun a4 w=>
   Q1 g.1 true w (indexAddr P T.k a3 a4) fun a5 w=>
   Q1 g.1 true w (fieldAddr P T.n a5 0) fun a6 w=>
   Q1 g.1 true w (Q6 P T.c a6) fun a7 w=>
   Q1 g.1 true w (Q0 P F.v [a7]) fun a8 w=>
   pick P g.1 a8 (.bool false) w fun r w=>
   Q1 r true w (fieldAddr P T.b (.pointer (some q)) 6) fun a9 w=>
   Q1 r true w (Q6 P T.k a9) fun ba w=>
   Q1 r true w (fun w J=>J g.2 w) fun bb w=>
   Q1 r true w (indexAddr P T.k ba bb) fun bc w=>
   Q1 r true w (fieldAddr P T.n bc 1) fun bd w=>
   Q1 r true w (Q6 P T.c bd) fun be w=>
   Q1 r true w (Q0 P F.e [be]) fun bf w=>
   pick P r bf (.bool false) w fun ae w=>
   Q1 ae true w (fieldAddr P T.b (.pointer (some q)) 3) fun bg w=>
   Q1 ae true w (Q6 P T.q bg) fun bh w=>
   Q1 ae true w (V4 P .not bh) fun ak w=>
   pick P ae ak (.bool false) w fun al w=>
   lp (α:=Value×Value) (al,(.int .i64 0)) w fun aa f d_ w=>
    Z2 P .lss T.f (.tmp 102) (.tmp 103) f.2 g.2 w fun am w=>
    X1 am (
     dr w fun k Y=>
     Z7 k (fun L=> ∀w:World,Y w->Q1 f.1 true w (fieldAddr P T.b (.pointer (some q)) 6) (dk k L w)) fun L=>
     Z7 k (fun N=> ∀w:World,Y w->Q1 f.1 true w (fun w J=>J f.2 w) (dk k N w)) fun N=>
     Z7 k (fun R=> ∀w:World,Y w->Q1 f.1 true w (fieldAddr P T.b (.pointer (some q)) 6) (dk k R w)) fun R=>
     Z7 k (fun V=> ∀w:World,Y w->Q1 f.1 true w (fun w J=>J g.2 w) (dk k V w)) fun V=>
     Z7 k (fun M=> ∀u:Value,∀w:World,Y w->L u w->Q1 f.1 true w (Q6 P T.k u) (dk k M w)) fun M=>
     Z7 k (fun O=> ∀v:Value,∀y:Value,∀w:World,Y w->M v w->N y w->Q1 f.1 true w (indexAddr P T.k v y) (dk k O w)) fun O=>
     Z7 k (fun Q=> ∀z:Value,∀w:World,Y w->O z w->Q1 f.1 true w (fieldAddr P T.n z 0) (dk k Q w)) fun Q=>
     Z7 k (fun ac=> ∀A:Value,∀w:World,Y w->Q A w->Q1 f.1 true w (Q6 P T.c A) (dk k ac w)) fun ac=>
     Z7 k (fun U=> ∀B:Value,∀w:World,Y w->R B w->Q1 f.1 true w (Q6 P T.k B) (dk k U w)) fun U=>
     Z7 k (fun W=> ∀C:Value,∀D:Value,∀w:World,Y w->U C w->V D w->Q1 f.1 true w (indexAddr P T.k C D) (dk k W w)) fun W=>
     Z7 k (fun X=> ∀E:Value,∀w:World,Y w->W E w->Q1 f.1 true w (fieldAddr P T.n E 0) (dk k X w)) fun X=>
     Z7 k (fun ad=> ∀H:Value,∀w:World,Y w->X H w->Q1 f.1 true w (Q6 P T.c H) (dk k ad w)) fun ad=>
     ∀u:Value,∀y:Value,∀B:Value,∀D:Value,∀v:Value,∀z:Value,∀A:Value,∀af:Value,∀C:Value,∀E:Value,∀H:Value,∀ag:Value,∀w:World,Y w->L u w->N y w->R B w->V D w->M v w->O z w->Q A w->ac af w->U C w->W E w->X H w->ad ag w->
     Q1 f.1 true w (Z2 P .neq T.c (.tmp 114) (.tmp 120) af ag) fun ao w=>
     pick P f.1 ao (.bool false) w fun ap w=>
     Z2 P .add T.f (.tmp 105) (.const (.int .i64 1)) f.2 (.int .i64 1) w fun an w=>
     aa (ap,an) w) (
     Z2 P .add T.f (.tmp 76) (.const (.int .i64 1)) g.2 (.int .i64 1) w fun a1 w=>
     Z (f.1,a1) w)) (
   J g.1 w):=by
 have t:=g2.max;refine B7 (a:=Value.bool ok) c.fields.length (fun n x w'=> ∃σ',Stp w1 σ1 w' σ'/\x=Value.bool (ok&&(List.range n).all fun i=>Rr c i&&(List.range i).all (Zz c i))) ⟨σ1,Stp.refl aw,by simp⟩ fun n x w2 d bs aj=>?_
 obtain ⟨σ2,o,rfl⟩:=aj;have p:=hq.up o;have m:=g2.up o;have l:=o.sat
 (repeat refine Hd.h ?_)
 refine ld l p rfl ?_;refine Q8 m ?_;refine J0 ?_;refine Q5 (fun hc=>?_) (fun hc=>?_)
 .have j:n<c.fields.length:=by simpa using hc
  have ab:(ok&&(List.range (n+1)).all fun i=>Rr c i&&(List.range i).all (Zz c i))=((ok&&(List.range n).all fun i=>Rr c i&&(List.range i).all (Zz c i))&&(Rr c n&&(List.range n).all (Zz c n))):=by rw[Oc,Bool.and_assoc]
  have hP:Rr c n=(C9 c.fields[n].name&&right c.fields[n].kind&& !c.iface):=by unfold Rr Ix;rw[I8 j]
  obtain ⟨p1,r1⟩:=m.elF j;have b1:c.fields[n].name.length<=140737488355328:=by have:=r1.2.1;simp only[V9] at this;omega
  have b2:c.fields[n].kind.length<=140737488355328:=by have:=r1.2.2;simp only[V9] at this;omega
  generalize (ok&&(List.range n).all fun i=>Rr c i&&(List.range i).all (Zz c i))=ah at ab⊢;clear h hc;have step: ∀b,b=(ah&&Rr c n)->(ah&&(Rr c n&&(List.range n).all (Zz c n)))=(b&&(List.range n).all (Zz c n)):=fun b e=>by rw[e,Bool.and_assoc]
  cases ah with
  | false=>
   (repeat refine Hd.h ?_)
   refine Q4U l p m j fun w4 σ4 s=>?_;exact V1 t j ⟨σ4,o.trans s,by rw[ab];rfl⟩
  | true=>
   (repeat refine Hd.h ?_)
   refine ld l p rfl ?_
   (repeat refine Hd.h ?_)
   refine Z5 m j ?_
   (repeat refine Hd.h ?_)
   refine ld l p1 rfl ?_
   (repeat refine Hd.h ?_)
   refine Q0U _ b1 ?_;cases d1:C9 c.fields[n].name with
   | false=>
    (repeat refine Hd.h ?_)
    refine Q4U l p m j fun w4 σ4 s=>?_;exact V1 t j ⟨σ4,o.trans s,by rw[ab,step false (by rw[hP,d1];rfl)]⟩
   | true=>
    (repeat refine Hd.h ?_)
    refine ld l p rfl ?_
    (repeat refine Hd.h ?_)
    refine Z5 m j ?_
    (repeat refine Hd.h ?_)
    refine ld l p1 rfl ?_
    (repeat refine Hd.h ?_)
    refine La _ b2 ?_;cases d2:right c.fields[n].kind with
    | false=>
     (repeat refine Hd.h ?_)
     refine Q4U l p m j fun w4 σ4 s=>?_;exact V1 t j ⟨σ4,o.trans s,by rw[ab,step false (by rw[hP,d1,d2];rfl)]⟩
    | true=>
     (repeat refine Hd.h ?_)
     refine ld l p rfl ?_
     (repeat refine Hd.h ?_)
     refine Q4U l p m j fun w4 σ4 s=>?_;exact V1 t j ⟨σ4,o.trans s,by rw[ab,step (!c.iface) (by rw[hP,d1,d2];rfl)]⟩
 .have j: ¬n<c.fields.length:=by simpa using hc
  obtain rfl:n=c.fields.length:=by omega
  exact h _ _ o
set_option maxHeartbeats 2000000 in
theorem Fv {c:Cla} {lv fv mv:Value} {w1:World} {σ1:Q2} {q:Addr} {ok:Bool} (ad:X7 w1 σ1) (hq:J7 σ1 q [S c.name,S c.super,lv, .bool c.iface, .bool c.abs, .bool c.fin,fv,mv]) {i:Nat} {q9:Addr} {pv cv hv:Value} {N m0:Nat} {L:Nat->Value->World->Prop} (g3:Sl 7 F2 σ1 mv c.methods) (hi:i<c.methods.length) (ac:J7 σ1 q9 [S c.methods[i].name,pv,S c.methods[i].result, .bool c.methods[i].abs,I c.methods[i].locals,cv,hv])
 (h: ∀w' σ',Stp w1 σ1 w' σ'->Kq N L (Value.bool (ok&&(List.range i).all (Jc c i)), .int .i64 (IntKind.i64.wrap (i+1))) w'/\Dc N (Value.bool (ok&&(List.range i).all (Jc c i)), .int .i64 (IntKind.i64.wrap (i+1)))<m0):
 lp (α:=Value×Value) (Value.bool ok,(.int .i64 0)) w1 fun y b d_ w=>
  Z2 P .lss T.f (.tmp 158) (.tmp 159) b.2 (I i) w fun Q w=>
  X1 Q (
   dr w fun e B=>
   Z7 e (fun o=> ∀w:World,B w->Q1 b.1 true w (fieldAddr P T.b (.pointer (some q)) 7) (dk e o w)) fun o=>
   Z7 e (fun r=> ∀w:World,B w->Q1 b.1 true w (fun w J=>J b.2 w) (dk e r w)) fun r=>
   Z7 e (fun u=> ∀w:World,B w->Q1 b.1 true w (fieldAddr P T.d (.pointer (some q9)) 0) (dk e u w)) fun u=>
   Z7 e (fun p=> ∀f:Value,∀w:World,B w->o f w->Q1 b.1 true w (Q6 P T.j f) (dk e p w)) fun p=>
   Z7 e (fun s=> ∀g:Value,∀j:Value,∀w:World,B w->p g w->r j w->Q1 b.1 true w (indexAddr P T.j g j) (dk e s w)) fun s=>
   Z7 e (fun t=> ∀l:Value,∀w:World,B w->s l w->Q1 b.1 true w (fieldAddr P T.d l 0) (dk e t w)) fun t=>
   Z7 e (fun z=> ∀m:Value,∀w:World,B w->t m w->Q1 b.1 true w (Q6 P T.c m) (dk e z w)) fun z=>
   Z7 e (fun A=> ∀n:Value,∀w:World,B w->u n w->Q1 b.1 true w (Q6 P T.c n) (dk e A w)) fun A=>
   ∀f:Value,∀j:Value,∀n:Value,∀g:Value,∀l:Value,∀m:Value,∀D:Value,∀E:Value,∀w:World,B w->o f w->r j w->u n w->p g w->s l w->t m w->z D w->A E w->
   Q1 b.1 true w (Z2 P .neq T.c (.tmp 170) (.tmp 172) D E) fun U w=>
   pick P b.1 U (.bool false) w fun V w=>
   Z2 P .add T.f (.tmp 161) (.const (.int .i64 1)) b.2 (.int .i64 1) w fun R w=>
   y (V,R) w) (
   Z2 P .add T.f (.tmp 128) (.const (.int .i64 1)) (I i) (.int .i64 1) w fun C w=>
   (Kq N L (b.1,C) w/\Dc N (b.1,C)<m0)):=by
 have ai:=g3.max;refine B7 (a:=Value.bool ok) i (fun k x w'=> ∃σ',Stp w1 σ1 w' σ'/\x=Value.bool (ok&&(List.range k).all (Jc c i))) ⟨σ1,Stp.refl ad,by simp⟩ fun k x w2 d hk M=>?_
 obtain ⟨σ2,v,rfl⟩:=M;have ar:=hq.up v;have aj:=ac.up v;have Y:=g3.up v;have ae:=v.sat;refine J0 ?_;refine Q5 (fun W=>?_) (fun W=>?_)
 .have aa:k<i:=by simpa using W
  have O:k<c.methods.length:=by omega
  have H:(ok&&(List.range (k+1)).all (Jc c i))=((ok&&(List.range k).all (Jc c i))&&Jc c i k):=by rw[Oc,Bool.and_assoc]
  have hQ:Jc c i k= !decide (c.methods[k].name=c.methods[i].name):=by unfold Jc Bi;rw[I8 O,I8 hi]
  rw[hQ] at H;obtain ⟨az,an,aw,p1,_⟩:=Y.elM O;generalize (ok&&(List.range k).all (Jc c i))=X at H⊢;clear h hQ W;cases X
  all_goals
   refine U9 ae ?_
   (repeat refine X2 Uk ?_)
   (intros;(repeat (rename_i hx;subst hx));(try simp only[↓M2,M2,Mb,reduceIte]))
   rename_i w3 Z;exact V1 Q4 aa ⟨σ2,v.trans Z.stp,by rw[H];rfl⟩
 .have ab:k=i:=by
   have: ¬k<i:=by simpa using W
   omega
  subst ab
  (try simp only[↓M1,M1,Mb,reduceIte])
  exact h _ _ v
set_option maxHeartbeats 4000000 in
theorem X5N {c:Cla} {lv fv mv:Value} {w1:World} {σ1:Q2} {q:Addr} {ok:Bool} (bu:X7 w1 σ1) (hq:J7 σ1 q [S c.name,S c.super,lv, .bool c.iface, .bool c.abs, .bool c.fin,fv,mv]) {J:Value->World->Prop} (g3:Sl 7 F2 σ1 mv c.methods)
 (h: ∀w' σ',Stp w1 σ1 w' σ'->J (.bool (ok&&(List.range c.methods.length).all fun i=>Eu c i&&(List.range i).all (Jc c i))) w'):
 lp (α:=Value×Value) (Value.bool ok,(.int .i64 0)) w1 fun V v d_ w=>
  fieldAddr P T.b (.pointer (some q)) 7 w fun ax w=>
  Q6 P T.j ax w fun ay w=>
  U7 P .len [T.j] T.f [false] [ay] w fun az w=>
  Z2 P .lss T.f (.tmp 123) (.tmp 126) v.2 az w fun a0 w=>
  X1 a0 (
   fieldAddr P T.b (.pointer (some q)) 7 w fun a2 w=>
   Q6 P T.j a2 w fun a3 w=>
   indexAddr P T.j a3 v.2 w fun a4 w=>
   Q6 P T.d a4 w fun a5 w=>
   T1 P T.d w fun t9 w=>
   J9 P T.d t9 a5 w fun _u w=>
   Q1 v.1 true w (Q6 P T.d t9) fun a6 w=>
   Q1 v.1 true w (Q0 P F.a9 [a6]) fun a7 w=>
   pick P v.1 a7 (.bool false) w fun r w=>
   Q1 r true w (fieldAddr P T.d t9 3) fun a8 w=>
   Q1 r true w (Q6 P T.q a8) fun a9 w=>
   Q1 r true w (V4 P .not a9) fun ba w=>
   Q1 r true w (fun w J=>J ba w) fun aa w=>
   Q1 aa false w (fieldAddr P T.b (.pointer (some q)) 4) fun bb w=>
   Q1 aa false w (Q6 P T.q bb) fun bc w=>
   Q1 r true w (pick P aa (.bool true) bc) fun bd w=>
   pick P r bd (.bool false) w fun s w=>
   Q1 s true w (fieldAddr P T.b (.pointer (some q)) 3) fun be w=>
   Q1 s true w (Q6 P T.q be) fun bf w=>
   Q1 s true w (V4 P .not bf) fun bg w=>
   Q1 s true w (fun w J=>J bg w) fun ab w=>
   Q1 ab false w (fieldAddr P T.d t9 3) fun bh w=>
   Q1 ab false w (Q6 P T.q bh) fun bi w=>
   Q1 s true w (pick P ab (.bool true) bi) fun bj w=>
   pick P s bj (.bool false) w fun bk w=>
   lp (α:=Value×Value) (bk,(.int .i64 0)) w fun W k d_ w=>
    Z2 P .lss T.f (.tmp 158) (.tmp 159) k.2 v.2 w fun bl w=>
    X1 bl (
     dr w fun y Br=>
     Z7 y (fun H=> ∀w:World,Br w->Q1 k.1 true w (fieldAddr P T.b (.pointer (some q)) 7) (dk y H w)) fun H=>
     Z7 y (fun M=> ∀w:World,Br w->Q1 k.1 true w (fun w J=>J k.2 w) (dk y M w)) fun M=>
     Z7 y (fun Q=> ∀w:World,Br w->Q1 k.1 true w (fieldAddr P T.d t9 0) (dk y Q w)) fun Q=>
     Z7 y (fun L=> ∀z:Value,∀w:World,Br w->H z w->Q1 k.1 true w (Q6 P T.j z) (dk y L w)) fun L=>
     Z7 y (fun N=> ∀A:Value,∀B:Value,∀w:World,Br w->L A w->M B w->Q1 k.1 true w (indexAddr P T.j A B) (dk y N w)) fun N=>
     Z7 y (fun O=> ∀C:Value,∀w:World,Br w->N C w->Q1 k.1 true w (fieldAddr P T.d C 0) (dk y O w)) fun O=>
     Z7 y (fun ac=> ∀D:Value,∀w:World,Br w->O D w->Q1 k.1 true w (Q6 P T.c D) (dk y ac w)) fun ac=>
     Z7 y (fun ad=> ∀E:Value,∀w:World,Br w->Q E w->Q1 k.1 true w (Q6 P T.c E) (dk y ad w)) fun ad=>
     ∀z:Value,∀B:Value,∀E:Value,∀A:Value,∀C:Value,∀D:Value,∀ai:Value,∀aj:Value,∀w:World,Br w->H z w->M B w->Q E w->L A w->N C w->O D w->ac ai w->ad aj w->
     Q1 k.1 true w (Z2 P .neq T.c (.tmp 170) (.tmp 172) ai aj) fun bn w=>
     pick P k.1 bn (.bool false) w fun bo w=>
     Z2 P .add T.f (.tmp 161) (.const (.int .i64 1)) k.2 (.int .i64 1) w fun bm w=>
     W (bo,bm) w) (
     Z2 P .add T.f (.tmp 128) (.const (.int .i64 1)) v.2 (.int .i64 1) w fun a1 w=>
     V (k.1,a1) w)) (
   J v.1 w):=by
 have o:=g3.max;refine B7 (a:=Value.bool ok) c.methods.length (fun n x w'=> ∃σ',Stp w1 σ1 w' σ'/\x=Value.bool (ok&&(List.range n).all fun i=>Eu c i&&(List.range i).all (Jc c i))) ⟨σ1,Stp.refl bu,by simp⟩ fun n x w2 d b4 av=>?_
 obtain ⟨σ2,X,rfl⟩:=av;have am:=hq.up X;have af:=g3.up X;have ag:=X.sat
 (repeat refine Hd.h ?_)
 refine ld ag am rfl ?_;refine Q8 af ?_;refine J0 ?_;refine Q5 (fun hc=>?_) (fun hc=>?_)
 .have f:n<c.methods.length:=by simpa using hc
  have u:(ok&&(List.range (n+1)).all fun i=>Eu c i&&(List.range i).all (Jc c i))=((ok&&(List.range n).all fun i=>Eu c i&&(List.range i).all (Jc c i))&&(Eu c n&&(List.range n).all (Jc c n))):=by rw[Oc,Bool.and_assoc]
  have hP:Eu c n=(Xa c.methods[n]&&(!c.methods[n].abs||c.abs)&&(!c.iface||c.methods[n].abs)):=by unfold Eu Bi;rw[I8 f]
  obtain ⟨pv,cv,hv,p1,r1⟩:=af.elM f;generalize (ok&&(List.range n).all fun i=>Eu c i&&(List.range i).all (Jc c i))=ak at u⊢;clear h hc;have step: ∀b,b=(ak&&Eu c n)->(ak&&(Eu c n&&(List.range n).all (Jc c n)))=(b&&(List.range n).all (Jc c n)):=fun b e=>by rw[e,Bool.and_assoc]
  (repeat refine Hd.h ?_)
  refine ld ag am rfl ?_;refine Z5 af f ?_;refine Z0 ag p1 rfl ?_;refine J1 ag (by rfl) rfl (Rep.one r1) fun q9 w3 σ3 Y an=>?_
  have ao:=Y.sat;have aw:=am.up Y;have ar:=af.up Y;have r3:=RMe_lift r1 ⟨Y.le⟩;have ah:=X.trans Y;cases ak with
  | false=>
   (repeat refine Hd.h ?_)
   refine Fv ao aw ar f an fun w4 U l=>?_;exact V1 o f ⟨U,ah.trans l,by rw[u];rfl⟩
  | true=>
   (repeat refine Hd.h ?_)
   refine Z0 ao an rfl ?_
   (repeat refine Hd.h ?_)
   refine X1A ao r3 fun w5 σ5 Z=>?_;have m:=Z.sat;have t:=aw.up Z;have g:=an.up Z;have R:=ar.up Z;have p:=ah.trans Z;cases d1:Xa c.methods[n] with
   | false=>
    (repeat refine Hd.h ?_)
    refine Fv m t R f g fun w4 U l=>?_;exact V1 o f ⟨U,p.trans l,by rw[u,step false (by rw[hP,d1];rfl)]⟩
   | true=>
    (repeat refine Hd.h ?_)
    refine ld m g rfl ?_
    (repeat refine Hd.h ?_)
    have j: ∀b1:Bool,b1=(!c.methods[n].abs||c.abs)->Eu c n=(b1&&(!c.iface||c.methods[n].abs)):=fun b1 e=>by rw[hP,d1,e];rfl
    cases d2:c.methods[n].abs with
    | false=>
     rw[d2] at j g;simp only[Bool.not_true,Bool.not_false]
     (repeat refine Hd.h ?_)
     refine ld m t rfl ?_
     (repeat refine Hd.h ?_)
     cases d4:c.iface with
     | false=>
      simp only[Bool.not_true,Bool.not_false]
      (repeat refine Hd.h ?_)
      refine Fv m t R f (by rw[d2];exact g) fun w4 U l=>?_
      exact V1 o f ⟨U,p.trans l,by rw[u,step true (by rw[j true rfl,d4];rfl)]⟩
     | true=>
      simp only[Bool.not_true,Bool.not_false]
      (repeat refine Hd.h ?_)
      refine ld m g rfl ?_
      (repeat refine Hd.h ?_)
      refine Fv m t R f (by rw[d2];exact g) fun w4 U l=>?_
      exact V1 o f ⟨U,p.trans l,by rw[u,step false (by rw[j true rfl,d4];rfl)]⟩
    | true=>
     rw[d2] at j g;simp only[Bool.not_true,Bool.not_false]
     (repeat refine Hd.h ?_)
     refine ld m t rfl ?_;cases d3:c.abs with
     | false=>
      (repeat refine Hd.h ?_)
      refine Fv m t R f (by rw[d2];exact g) fun w4 U l=>?_
      exact V1 o f ⟨U,p.trans l,by rw[u,step false (by rw[j false (by rw[d3];rfl)];rfl)]⟩
     | true=>
      (repeat refine Hd.h ?_)
      refine ld m t rfl ?_
      (repeat refine Hd.h ?_)
      cases d4:c.iface with
      | false=>
       simp only[Bool.not_true,Bool.not_false]
       (repeat refine Hd.h ?_)
       refine Fv m t R f (by rw[d2];exact g) fun w4 U l=>?_
       exact V1 o f ⟨U,p.trans l,by rw[u,step true (by rw[j true (by rw[d3];rfl),d4];rfl)]⟩
      | true=>
       simp only[Bool.not_true,Bool.not_false]
       (repeat refine Hd.h ?_)
       refine ld m g rfl ?_
       (repeat refine Hd.h ?_)
       refine Fv m t R f (by rw[d2];exact g) fun w4 U l=>?_
       exact V1 o f ⟨U,p.trans l,by rw[u,step true (by rw[j true (by rw[d3];rfl),d4];rfl)]⟩
 .have f: ¬n<c.methods.length:=by simpa using hc
  obtain rfl:n=c.methods.length:=by omega
  exact h _ _ X
theorem X5v {c:Cla} {M L mv:Value} {w1:World} {σ1:Q2} {q:Addr} {ok:Bool} (d:X7 w1 σ1) (g:J7 σ1 q [S c.name,S c.super,M, .bool c.iface, .bool c.abs, .bool c.fin,L,mv]) (h:K (.bool (ok&&X12 c)) w1):
 Q1 (Value.bool ok) true w1 (fieldAddr P T.b (.pointer (some q)) 3) fun j w=>
  Q1 (Value.bool ok) true w (Q6 P T.q j) fun k w=>
  Q1 (Value.bool ok) true w (V4 P .not k) fun l w=>
  Q1 (Value.bool ok) true w (fun w J=>J l w) fun b w=>
  Q1 b false w (fieldAddr P T.b (.pointer (some q)) 4) fun m w=>
  Q1 b false w (Q6 P T.q m) fun n w=>
  Q1 b false w (fun w J=>J n w) fun e w=>
  Q1 e true w (fieldAddr P T.b (.pointer (some q)) 1) fun o w=>
  Q1 e true w (Q6 P T.c o) fun p w=>
  Q1 e true w (Z2 P .eql T.c (.tmp 185) (.const (.string ⟨#[79,98,106,101,99,116]⟩)) p (.string ⟨#[79,98,106,101,99,116]⟩)) fun r w=>
  Q1 b false w (pick P e r (.bool false)) fun s w=>
  Q1 (Value.bool ok) true w (pick P b (.bool true) s) fun t w=>
  pick P (Value.bool ok) t (.bool false) w fun a w=>
  Q1 a true w (fieldAddr P T.b (.pointer (some q)) 4) fun u w=>
  Q1 a true w (Q6 P T.q u) fun v w=>
  Q1 a true w (fun w J=>J v w) fun f w=>
  Q1 f true w (fieldAddr P T.b (.pointer (some q)) 5) fun y w=>
  Q1 f true w (Q6 P T.q y) fun z w=>
  Q1 a true w (pick P f z (.bool false)) fun A w=>
  Q1 a true w (V4 P .not A) fun B w=>
  pick P a B (.bool false) w fun C w=>
  K C w:=by
 unfold X12 at h;have H:decide (c.super=W7)=decide (c.super=[79,98,106,101,99,116]):=rfl;rw[H] at h;cases ok with
 | false=>(try simp only[↓M1,M1,Mb,reduceIte]);simpa using h
 | true=>
  (try simp only[↓M1,M1,Mb,reduceIte])
  refine ld d g rfl ?_
  (try simp only[↓M1,M1,Mb,reduceIte])
  cases D:c.iface with
  | false=>
   rw[D] at h
   (try simp only[↓M1,M1,Mb,reduceIte])
   refine ld d g rfl ?_;cases i:c.abs with
   | false=>rw[i] at h;(try simp only[↓M1,M1,Mb,reduceIte]);simpa using h
   | true=>
    rw[i] at h
    (try simp only[↓M1,M1,Mb,reduceIte])
    refine ld d g rfl ?_
    (try simp only[↓M1,M1,Mb,reduceIte])
    simpa using h
  | true=>
   rw[D] at h
   (try simp only[↓M1,M1,Mb,reduceIte])
   refine ld d g rfl ?_;cases i:c.abs with
   | false=>rw[i] at h;(try simp only[↓M1,M1,Mb,reduceIte]);simpa using h
   | true=>
    rw[i] at h
    (try simp only[↓M1,M1,Mb,reduceIte])
    refine ld d g rfl ?_
    (try simp only[↓M1,M1,Mb,reduceIte])
    cases E:decide (c.super=[79,98,106,101,99,116]) with
    | false=>rw[E] at h;(try simp only[↓M1,M1,Mb,reduceIte]);simpa using h
    | true=>
     rw[E] at h
     (try simp only[↓M1,M1,Mb,reduceIte])
     refine ld d g rfl ?_;simp only[i,↓M1,M1,Mb,reduceIte];refine ld d g rfl ?_
     (try simp only[↓M1,M1,Mb,reduceIte])
     simpa using h
variable {σ : Q2}
def Q8R (c:Cla):Bool:=((((S1 c.name&&S1 c.super&& !decide (c.name=c.super))&&(List.range c.like.length).all fun i=>Et c i&&(List.range i).all (Yd c i))&&(List.range c.fields.length).all fun i=>Rr c i&&(List.range i).all (Zz c i))&&(List.range c.methods.length).all fun i=>Eu c i&&(List.range i).all (Jc c i))&&X12 c
theorem X46 {α:Type} {f:α->X0}: ∀(xs a:List α),A5 f a xs=true↔(xs.map f).Nodup/\ ∀x∈xs,∀y∈a,f y≠f x:=by
 intro xs
 induction xs with
 | nil=>intro a;simp[A5]
 | cons x r h=>
  intro a;simp only[A5,Bool.and_eq_true,h,Bool.not_eq_true',List.map_cons,List.nodup_cons];rw[<-Bool.not_eq_true,List.any_eq_true];simp only[decide_eq_true_eq,not_exists,not_and,List.mem_append,List.mem_cons,List.not_mem_nil,or_false,List.mem_map];constructor
  .rintro ⟨d,g,c⟩
   refine ⟨⟨fun y hy e=>c y hy x (.inr rfl) e.symm,g⟩,fun y hy z b=>?_⟩
   rcases hy with rfl | hy
   .exact d z b
   .exact c y hy z (.inl b)
  .rintro ⟨⟨d,g⟩,c⟩
   refine ⟨fun y hy=>c x (.inl rfl) y hy,g,fun y hy z b=>?_⟩
   rcases b with b | rfl
   .exact c y (.inr hy) z b
   .exact fun e=>d y hy e.symm
theorem Q2X {α:Type} {f:α->X0} {xs:List α} {p:α->Bool} {P:Nat->Bool} {Q:Nat->Nat->Bool} (c: ∀i (h:i<xs.length),P i=p xs[i]) (d: ∀i (h:i<xs.length) k (o:k<xs.length),Q i k= !decide (f xs[k]=f xs[i])):
 ((List.range xs.length).all fun i=>P i&&(List.range i).all (Q i))=true↔(∀x∈xs,p x=true)/\A5 f [] xs=true:=by
 rw[X46,List.all_eq_true];simp only[List.mem_range,Bool.and_eq_true,List.all_eq_true,List.not_mem_nil,false_implies,implies_true,and_true];rw[List.nodup_iff_pairwise_ne,List.pairwise_iff_getElem];simp only[List.length_map,List.getElem_map];constructor
 .intro h
  refine ⟨fun x n=>?_,fun i j a e b=>?_⟩
  .obtain ⟨i,a,rfl⟩:=List.getElem_of_mem n
   rw[<-c i a];exact (h i a).1
  .have:=(h j e).2 i b
   rw[d j e i a] at this
   simpa using this
 .rintro ⟨g,l⟩ i a
  refine ⟨by rw[c i a];exact g _ (List.getElem_mem a),fun k m=>?_⟩
  rw[d i a k Q4]
  simpa using l k i Q4 a m
theorem X4j (c:Cla):Q8R c=Cl c:=by
 have A:=Q2X (f:=id) (xs:=c.like) (p:=fun y=>S1 y&& !decide (y=c.name)) (P:=Et c) (Q:=Yd c) (fun i h=>by unfold Et;rw[I8 h]) (fun i h k l=>by unfold Yd;rw[I8 h,I8 l];rfl)
 have g:=Q2X (f:=Fld.name) (xs:=c.fields) (p:=fun f=>C9 f.name&&right f.kind&& !c.iface) (P:=Rr c) (Q:=Zz c) (fun i h=>by unfold Rr Ix;rw[I8 h]) (fun i h k l=>by unfold Zz Ix;rw[I8 h,I8 l])
 have d:=Q2X (f:=Hm.Met.name) (xs:=c.methods) (p:=fun m=>Xa m&&(!m.abs||c.abs)&&(!c.iface||m.abs)) (P:=Eu c) (Q:=Jc c) (fun i h=>by unfold Eu Bi;rw[I8 h]) (fun i h k l=>by unfold Jc Bi;rw[I8 h,I8 l])
 rw[Bool.eq_iff_iff];unfold Q8R Cl X12;simp only[Bool.and_eq_true,A,g,d];simp only[Bool.and_eq_true,Bool.not_eq_true',Bool.or_eq_true,Bool.and_eq_false_iff,Bool.or_eq_false_iff,decide_eq_true_eq,decide_eq_false_iff_not,List.all_eq_true,List.mem_cons,List.any_eq_false,Fj,Bool.not_eq_false'];constructor
 .rintro ⟨⟨⟨⟨⟨⟨n,o⟩,r⟩,a,s⟩,h6,t⟩,j,u⟩,b,q⟩
  refine ⟨⟨⟨⟨⟨⟨⟨⟨?_,?_⟩,s⟩,?_⟩,q,?_⟩,t⟩,u⟩,?_⟩,fun m d=>(j m d).1.1⟩
  .rintro x (rfl | rfl | hx)
   .exact n
   .exact o
   .exact (a x hx).1
  .rintro x (rfl | hx)
   .exact r
   .exact fun e=>(a x hx).2 e.symm
  .cases z:c.iface with
   | false=>exact .inl rfl
   | true=>
    rw[z] at b h6 j;have b:=b.resolve_left L2;refine .inr ⟨⟨b,?_⟩,fun m d e=>?_⟩
    .rw[List.eq_nil_iff_forall_not_mem]
     intro f g;exact absurd (h6 f g).2 L2
    .have:=(j m d).2.resolve_left L2
     rw[this] at e;cases e
  .cases v:c.abs with
   | true=>exact .inr rfl
   | false=>
    rw[v] at j;refine .inl fun m d e=>?_;have:=(j m d).1.2.resolve_right L2;rw[this] at e;cases e
  .exact fun f g=>(h6 f g).1
 .rintro ⟨⟨⟨⟨⟨⟨⟨⟨n,o⟩,r⟩,a⟩,s,h6⟩,t⟩,j⟩,u⟩,b⟩
  refine ⟨⟨⟨⟨⟨⟨n _ (.inl rfl),n _ (.inr (.inl rfl))⟩,o _ (.inl rfl)⟩,fun x hx=>⟨n x (.inr (.inr hx)),fun e=>o x (.inr hx) e.symm⟩,r⟩,fun f g=>⟨u f g,?_⟩,t⟩,fun m d=>⟨⟨b m d,?_⟩,?_⟩,j⟩,?_,s⟩
  .rcases a with a | ⟨⟨_,a⟩,_⟩
   .exact a
   .rw[a] at g;simp at g
  .rcases h6 with h6 | h6
   .left;exact eq_false_of_ne_true (h6 m d)
   .exact .inr h6
  .rcases a with a | ⟨_,a⟩
   .exact .inl a
   .right
    cases hx:m.abs with
    | true=>rfl
    | false=>exact absurd hx (a m d)
  .rcases a with a | ⟨⟨a,_⟩,_⟩
   .exact .inl a
   .exact .inr a
set_option maxRecDepth 9999 in
set_option maxHeartbeats 4000000 in
theorem X37 {c:Cla} {cs:List Value} (hs:X7 w σ) (hc:L7 σ c cs) (h: ∀w' σ',Stp w σ w' σ'->K (.bool (Q8R c)) w'):Q0 P F.br [.agg cs.toArray] w K:=Q0J (by
 unfold Eg;simp only[Y5,X3,L1,Qi,M9];unfold Z3 Y1 V0 X6 U6 Y2 X4 V2 X5;obtain ⟨lv,fv,mv,rfl,f1,f2,f3,f4,f5⟩:=hc;have cr:c.name.length<=140737488355328:=by simp only[V9] at f4;omega
 have ct:c.super.length<=140737488355328:=by simp only[V9] at f5;omega
 refine Z1 hs fun q w1 σ1 bd hq=>?_;have g1:=f1.up bd;have g2:=f2.up bd;have g3:=f3.up bd;have bf:=bd.sat
 have ch: ∀ok:Bool,ok=(S1 c.name&&S1 c.super&& !decide (c.name=c.super))->_:=fun ok e=>
  X40 (w1:=w1) (σ1:=σ1) (ok:=ok) bf hq (J:=fun v w=>lp (α:=Value×Value) (v,(.int .i64 0)) w fun bb o d_ w=>
   fieldAddr P T.b (.pointer (some q)) 6 w fun cu w=>
   Q6 P T.k cu w fun cv w=>
   U7 P .len [T.k] T.f [false] [cv] w fun cw w=>
   Z2 P .lss T.f (.tmp 71) (.tmp 74) o.2 cw w fun cx w=>
   X1 cx (
    Q1 o.1 true w (fieldAddr P T.b (.pointer (some q)) 6) fun cz w=>
    Q1 o.1 true w (Q6 P T.k cz) fun c0 w=>
    Q1 o.1 true w (fun w J=>J o.2 w) fun c1 w=>
    Q1 o.1 true w (indexAddr P T.k c0 c1) fun c2 w=>
    Q1 o.1 true w (fieldAddr P T.n c2 0) fun c3 w=>
    Q1 o.1 true w (Q6 P T.c c3) fun c4 w=>
    Q1 o.1 true w (Q0 P F.v [c4]) fun c5 w=>
    pick P o.1 c5 (.bool false) w fun am w=>
    Q1 am true w (fieldAddr P T.b (.pointer (some q)) 6) fun c6 w=>
    Q1 am true w (Q6 P T.k c6) fun c7 w=>
    Q1 am true w (fun w J=>J o.2 w) fun c8 w=>
    Q1 am true w (indexAddr P T.k c7 c8) fun c9 w=>
    Q1 am true w (fieldAddr P T.n c9 1) fun da w=>
    Q1 am true w (Q6 P T.c da) fun db w=>
    Q1 am true w (Q0 P F.e [db]) fun dc w=>
    pick P am dc (.bool false) w fun cd w=>
    Q1 cd true w (fieldAddr P T.b (.pointer (some q)) 3) fun dd w=>
    Q1 cd true w (Q6 P T.q dd) fun de w=>
    Q1 cd true w (V4 P .not de) fun ck w=>
    pick P cd ck (.bool false) w fun cl w=>
    lp (α:=Value×Value) (cl,(.int .i64 0)) w fun bc l d_ w=>
     Z2 P .lss T.f (.tmp 102) (.tmp 103) l.2 o.2 w fun cm w=>
     X1 cm (
      dr w fun d n=>
      Z7 d (fun a1=> ∀w:World,n w->Q1 l.1 true w (fieldAddr P T.b (.pointer (some q)) 6) (dk d a1 w)) fun a1=>
      Z7 d (fun a3=> ∀w:World,n w->Q1 l.1 true w (fun w J=>J l.2 w) (dk d a3 w)) fun a3=>
      Z7 d (fun a6=> ∀w:World,n w->Q1 l.1 true w (fieldAddr P T.b (.pointer (some q)) 6) (dk d a6 w)) fun a6=>
      Z7 d (fun a8=> ∀w:World,n w->Q1 l.1 true w (fun w J=>J o.2 w) (dk d a8 w)) fun a8=>
      Z7 d (fun a2=> ∀ao:Value,∀w:World,n w->a1 ao w->Q1 l.1 true w (Q6 P T.k ao) (dk d a2 w)) fun a2=>
      Z7 d (fun a4=> ∀ap:Value,∀aq:Value,∀w:World,n w->a2 ap w->a3 aq w->Q1 l.1 true w (indexAddr P T.k ap aq) (dk d a4 w)) fun a4=>
      Z7 d (fun a5=> ∀ar:Value,∀w:World,n w->a4 ar w->Q1 l.1 true w (fieldAddr P T.n ar 0) (dk d a5 w)) fun a5=>
      Z7 d (fun cb=> ∀av:Value,∀w:World,n w->a5 av w->Q1 l.1 true w (Q6 P T.c av) (dk d cb w)) fun cb=>
      Z7 d (fun a7=> ∀aw:Value,∀w:World,n w->a6 aw w->Q1 l.1 true w (Q6 P T.k aw) (dk d a7 w)) fun a7=>
      Z7 d (fun a9=> ∀ax:Value,∀ay:Value,∀w:World,n w->a7 ax w->a8 ay w->Q1 l.1 true w (indexAddr P T.k ax ay) (dk d a9 w)) fun a9=>
      Z7 d (fun ba=> ∀az:Value,∀w:World,n w->a9 az w->Q1 l.1 true w (fieldAddr P T.n az 0) (dk d ba w)) fun ba=>
      Z7 d (fun cc=> ∀a0:Value,∀w:World,n w->ba a0 w->Q1 l.1 true w (Q6 P T.c a0) (dk d cc w)) fun cc=>
      ∀ao:Value,∀aq:Value,∀aw:Value,∀ay:Value,∀ap:Value,∀ar:Value,∀av:Value,∀cf:Value,∀ax:Value,∀az:Value,∀a0:Value,∀cg:Value,∀w:World,n w->a1 ao w->a3 aq w->a6 aw w->a8 ay w->a2 ap w->a4 ar w->a5 av w->cb cf w->a7 ax w->a9 az w->ba a0 w->cc cg w->
      Q1 l.1 true w (Z2 P .neq T.c (.tmp 114) (.tmp 120) cf cg) fun co w=>
      pick P l.1 co (.bool false) w fun cp w=>
      Z2 P .add T.f (.tmp 105) (.const (.int .i64 1)) l.2 (.int .i64 1) w fun cn w=>
      bc (cp,cn) w) (
      Z2 P .add T.f (.tmp 76) (.const (.int .i64 1)) o.2 (.int .i64 1) w fun cy w=>
      bb (l.1,cy) w)) (
    lp (α:=Value×Value) (o.1,(.int .i64 0)) w fun H f d_ w=>
     fieldAddr P T.b (.pointer (some q)) 7 w fun bg w=>
     Q6 P T.j bg w fun bh w=>
     U7 P .len [T.j] T.f [false] [bh] w fun bi w=>
     Z2 P .lss T.f (.tmp 123) (.tmp 126) f.2 bi w fun bj w=>
     X1 bj (
      fieldAddr P T.b (.pointer (some q)) 7 w fun bl w=>
      Q6 P T.j bl w fun bm w=>
      indexAddr P T.j bm f.2 w fun bn w=>
      Q6 P T.d bn w fun bo w=>
      T1 P T.d w fun t9 w=>
      J9 P T.d t9 bo w fun _u w=>
      Q1 f.1 true w (Q6 P T.d t9) fun bp w=>
      Q1 f.1 true w (Q0 P F.a9 [bp]) fun bq w=>
      pick P f.1 bq (.bool false) w fun j w=>
      Q1 j true w (fieldAddr P T.d t9 3) fun br w=>
      Q1 j true w (Q6 P T.q br) fun bs w=>
      Q1 j true w (V4 P .not bs) fun bu w=>
      Q1 j true w (fun w J=>J bu w) fun M w=>
      Q1 M false w (fieldAddr P T.b (.pointer (some q)) 4) fun bv w=>
      Q1 M false w (Q6 P T.q bv) fun bw w=>
      Q1 j true w (pick P M (.bool true) bw) fun bx w=>
      pick P j bx (.bool false) w fun k w=>
      Q1 k true w (fieldAddr P T.b (.pointer (some q)) 3) fun bz w=>
      Q1 k true w (Q6 P T.q bz) fun b0 w=>
      Q1 k true w (V4 P .not b0) fun b1 w=>
      Q1 k true w (fun w J=>J b1 w) fun N w=>
      Q1 N false w (fieldAddr P T.d t9 3) fun b2 w=>
      Q1 N false w (Q6 P T.q b2) fun b3 w=>
      Q1 k true w (pick P N (.bool true) b3) fun b4 w=>
      pick P k b4 (.bool false) w fun b5 w=>
      lp (α:=Value×Value) (b5,(.int .i64 0)) w fun L b d_ w=>
       Z2 P .lss T.f (.tmp 158) (.tmp 159) b.2 f.2 w fun b6 w=>
       X1 b6 (
        dr w fun d n=>
        Z7 d (fun z=> ∀w:World,n w->Q1 b.1 true w (fieldAddr P T.b (.pointer (some q)) 7) (dk d z w)) fun z=>
        Z7 d (fun B=> ∀w:World,n w->Q1 b.1 true w (fun w J=>J b.2 w) (dk d B w)) fun B=>
        Z7 d (fun E=> ∀w:World,n w->Q1 b.1 true w (fieldAddr P T.d t9 0) (dk d E w)) fun E=>
        Z7 d (fun A=> ∀p:Value,∀w:World,n w->z p w->Q1 b.1 true w (Q6 P T.j p) (dk d A w)) fun A=>
        Z7 d (fun C=> ∀r:Value,∀s:Value,∀w:World,n w->A r w->B s w->Q1 b.1 true w (indexAddr P T.j r s) (dk d C w)) fun C=>
        Z7 d (fun D=> ∀t:Value,∀w:World,n w->C t w->Q1 b.1 true w (fieldAddr P T.d t 0) (dk d D w)) fun D=>
        Z7 d (fun O=> ∀u:Value,∀w:World,n w->D u w->Q1 b.1 true w (Q6 P T.c u) (dk d O w)) fun O=>
        Z7 d (fun Q=> ∀y:Value,∀w:World,n w->E y w->Q1 b.1 true w (Q6 P T.c y) (dk d Q w)) fun Q=>
        ∀p:Value,∀s:Value,∀y:Value,∀r:Value,∀t:Value,∀u:Value,∀R:Value,∀U:Value,∀w:World,n w->z p w->B s w->E y w->A r w->C t w->D u w->O R w->Q U w->
        Q1 b.1 true w (Z2 P .neq T.c (.tmp 170) (.tmp 172) R U) fun b8 w=>
        pick P b.1 b8 (.bool false) w fun b9 w=>
        Z2 P .add T.f (.tmp 161) (.const (.int .i64 1)) b.2 (.int .i64 1) w fun b7 w=>
        L (b9,b7) w) (
        Z2 P .add T.f (.tmp 128) (.const (.int .i64 1)) f.2 (.int .i64 1) w fun bk w=>
        H (b.1,bk) w)) (
      Q1 f.1 true w (fieldAddr P T.b (.pointer (some q)) 3) fun V w=>
      Q1 f.1 true w (Q6 P T.q V) fun W w=>
      Q1 f.1 true w (V4 P .not W) fun X w=>
      Q1 f.1 true w (fun w J=>J X w) fun g w=>
      Q1 g false w (fieldAddr P T.b (.pointer (some q)) 4) fun Y w=>
      Q1 g false w (Q6 P T.q Y) fun Z w=>
      Q1 g false w (fun w J=>J Z w) fun i w=>
      Q1 i true w (fieldAddr P T.b (.pointer (some q)) 1) fun aa w=>
      Q1 i true w (Q6 P T.c aa) fun ab w=>
      Q1 i true w (Z2 P .eql T.c (.tmp 185) (.const (.string ⟨#[79,98,106,101,99,116]⟩)) ab (.string ⟨#[79,98,106,101,99,116]⟩)) fun ac w=>
      Q1 g false w (pick P i ac (.bool false)) fun ad w=>
      Q1 f.1 true w (pick P g (.bool true) ad) fun ae w=>
      pick P f.1 ae (.bool false) w fun a w=>
      Q1 a true w (fieldAddr P T.b (.pointer (some q)) 4) fun af w=>
      Q1 a true w (Q6 P T.q af) fun ag w=>
      Q1 a true w (fun w J=>J ag w) fun m w=>
      Q1 m true w (fieldAddr P T.b (.pointer (some q)) 5) fun ah w=>
      Q1 m true w (Q6 P T.q ah) fun ai w=>
      Q1 a true w (pick P m ai (.bool false)) fun aj w=>
      Q1 a true w (V4 P .not aj) fun ak w=>
      pick P a ak (.bool false) w fun al w=>
      K al w))) f4 g1 fun w2 σ2 an=>
  X5y (J:=fun v w=>lp (α:=Value×Value) (v,(.int .i64 0)) w fun H f d_ w=>
   fieldAddr P T.b (.pointer (some q)) 7 w fun bg w=>
   Q6 P T.j bg w fun bh w=>
   U7 P .len [T.j] T.f [false] [bh] w fun bi w=>
   Z2 P .lss T.f (.tmp 123) (.tmp 126) f.2 bi w fun bj w=>
   X1 bj (
    fieldAddr P T.b (.pointer (some q)) 7 w fun bl w=>
    Q6 P T.j bl w fun bm w=>
    indexAddr P T.j bm f.2 w fun bn w=>
    Q6 P T.d bn w fun bo w=>
    T1 P T.d w fun t9 w=>
    J9 P T.d t9 bo w fun _u w=>
    Q1 f.1 true w (Q6 P T.d t9) fun bp w=>
    Q1 f.1 true w (Q0 P F.a9 [bp]) fun bq w=>
    pick P f.1 bq (.bool false) w fun j w=>
    Q1 j true w (fieldAddr P T.d t9 3) fun br w=>
    Q1 j true w (Q6 P T.q br) fun bs w=>
    Q1 j true w (V4 P .not bs) fun bu w=>
    Q1 j true w (fun w J=>J bu w) fun M w=>
    Q1 M false w (fieldAddr P T.b (.pointer (some q)) 4) fun bv w=>
    Q1 M false w (Q6 P T.q bv) fun bw w=>
    Q1 j true w (pick P M (.bool true) bw) fun bx w=>
    pick P j bx (.bool false) w fun k w=>
    Q1 k true w (fieldAddr P T.b (.pointer (some q)) 3) fun bz w=>
    Q1 k true w (Q6 P T.q bz) fun b0 w=>
    Q1 k true w (V4 P .not b0) fun b1 w=>
    Q1 k true w (fun w J=>J b1 w) fun N w=>
    Q1 N false w (fieldAddr P T.d t9 3) fun b2 w=>
    Q1 N false w (Q6 P T.q b2) fun b3 w=>
    Q1 k true w (pick P N (.bool true) b3) fun b4 w=>
    pick P k b4 (.bool false) w fun b5 w=>
    lp (α:=Value×Value) (b5,(.int .i64 0)) w fun L b d_ w=>
     Z2 P .lss T.f (.tmp 158) (.tmp 159) b.2 f.2 w fun b6 w=>
     X1 b6 (
      dr w fun d n=>
      Z7 d (fun z=> ∀w:World,n w->Q1 b.1 true w (fieldAddr P T.b (.pointer (some q)) 7) (dk d z w)) fun z=>
      Z7 d (fun B=> ∀w:World,n w->Q1 b.1 true w (fun w J=>J b.2 w) (dk d B w)) fun B=>
      Z7 d (fun E=> ∀w:World,n w->Q1 b.1 true w (fieldAddr P T.d t9 0) (dk d E w)) fun E=>
      Z7 d (fun A=> ∀p:Value,∀w:World,n w->z p w->Q1 b.1 true w (Q6 P T.j p) (dk d A w)) fun A=>
      Z7 d (fun C=> ∀r:Value,∀s:Value,∀w:World,n w->A r w->B s w->Q1 b.1 true w (indexAddr P T.j r s) (dk d C w)) fun C=>
      Z7 d (fun D=> ∀t:Value,∀w:World,n w->C t w->Q1 b.1 true w (fieldAddr P T.d t 0) (dk d D w)) fun D=>
      Z7 d (fun O=> ∀u:Value,∀w:World,n w->D u w->Q1 b.1 true w (Q6 P T.c u) (dk d O w)) fun O=>
      Z7 d (fun Q=> ∀y:Value,∀w:World,n w->E y w->Q1 b.1 true w (Q6 P T.c y) (dk d Q w)) fun Q=>
      ∀p:Value,∀s:Value,∀y:Value,∀r:Value,∀t:Value,∀u:Value,∀R:Value,∀U:Value,∀w:World,n w->z p w->B s w->E y w->A r w->C t w->D u w->O R w->Q U w->
      Q1 b.1 true w (Z2 P .neq T.c (.tmp 170) (.tmp 172) R U) fun b8 w=>
      pick P b.1 b8 (.bool false) w fun b9 w=>
      Z2 P .add T.f (.tmp 161) (.const (.int .i64 1)) b.2 (.int .i64 1) w fun b7 w=>
      L (b9,b7) w) (
      Z2 P .add T.f (.tmp 128) (.const (.int .i64 1)) f.2 (.int .i64 1) w fun bk w=>
      H (b.1,bk) w)) (
    Q1 f.1 true w (fieldAddr P T.b (.pointer (some q)) 3) fun V w=>
    Q1 f.1 true w (Q6 P T.q V) fun W w=>
    Q1 f.1 true w (V4 P .not W) fun X w=>
    Q1 f.1 true w (fun w J=>J X w) fun g w=>
    Q1 g false w (fieldAddr P T.b (.pointer (some q)) 4) fun Y w=>
    Q1 g false w (Q6 P T.q Y) fun Z w=>
    Q1 g false w (fun w J=>J Z w) fun i w=>
    Q1 i true w (fieldAddr P T.b (.pointer (some q)) 1) fun aa w=>
    Q1 i true w (Q6 P T.c aa) fun ab w=>
    Q1 i true w (Z2 P .eql T.c (.tmp 185) (.const (.string ⟨#[79,98,106,101,99,116]⟩)) ab (.string ⟨#[79,98,106,101,99,116]⟩)) fun ac w=>
    Q1 g false w (pick P i ac (.bool false)) fun ad w=>
    Q1 f.1 true w (pick P g (.bool true) ad) fun ae w=>
    pick P f.1 ae (.bool false) w fun a w=>
    Q1 a true w (fieldAddr P T.b (.pointer (some q)) 4) fun af w=>
    Q1 a true w (Q6 P T.q af) fun ag w=>
    Q1 a true w (fun w J=>J ag w) fun m w=>
    Q1 m true w (fieldAddr P T.b (.pointer (some q)) 5) fun ah w=>
    Q1 m true w (Q6 P T.q ah) fun ai w=>
    Q1 a true w (pick P m ai (.bool false)) fun aj w=>
    Q1 a true w (V4 P .not aj) fun ak w=>
    pick P a ak (.bool false) w fun al w=>
    K al w)) an.sat (hq.up an) (g2.up an) fun w3 σ3 be=>
  X5N (J:=fun v w=>Q1 v true w (fieldAddr P T.b (.pointer (some q)) 3) fun V w=>
   Q1 v true w (Q6 P T.q V) fun W w=>
   Q1 v true w (V4 P .not W) fun X w=>
   Q1 v true w (fun w J=>J X w) fun g w=>
   Q1 g false w (fieldAddr P T.b (.pointer (some q)) 4) fun Y w=>
   Q1 g false w (Q6 P T.q Y) fun Z w=>
   Q1 g false w (fun w J=>J Z w) fun i w=>
   Q1 i true w (fieldAddr P T.b (.pointer (some q)) 1) fun aa w=>
   Q1 i true w (Q6 P T.c aa) fun ab w=>
   Q1 i true w (Z2 P .eql T.c (.tmp 185) (.const (.string ⟨#[79,98,106,101,99,116]⟩)) ab (.string ⟨#[79,98,106,101,99,116]⟩)) fun ac w=>
   Q1 g false w (pick P i ac (.bool false)) fun ad w=>
   Q1 v true w (pick P g (.bool true) ad) fun ae w=>
   pick P v ae (.bool false) w fun a w=>
   Q1 a true w (fieldAddr P T.b (.pointer (some q)) 4) fun af w=>
   Q1 a true w (Q6 P T.q af) fun ag w=>
   Q1 a true w (fun w J=>J ag w) fun m w=>
   Q1 m true w (fieldAddr P T.b (.pointer (some q)) 5) fun ah w=>
   Q1 m true w (Q6 P T.q ah) fun ai w=>
   Q1 a true w (pick P m ai (.bool false)) fun aj w=>
   Q1 a true w (V4 P .not aj) fun ak w=>
   pick P a ak (.bool false) w fun al w=>
   K al w) be.sat ((hq.up an).up be) ((g3.up an).up be) fun w4 σ4 ci=>
  X5v (K:=K) ci.sat (((hq.up an).up be).up ci) (by rw[e];exact h _ _ (bd.trans (an.trans (be.trans ci))))
 (repeat refine Hd.h ?_)
 refine ld bf hq rfl ?_;refine Jo c.name cr ?_;cases d1:S1 c.name with
 | false=>(repeat refine Hd.h ?_);exact ch false (by rw[d1];rfl)
 | true=>
  (repeat refine Hd.h ?_)
  refine ld bf hq rfl ?_
  (repeat refine Hd.h ?_)
  refine Jo c.super ct ?_;cases d2:S1 c.super with
  | false=>(repeat refine Hd.h ?_);exact ch false (by rw[d1,d2];rfl)
  | true=>
   (repeat refine Hd.h ?_)
   refine ld bf hq rfl ?_
   (repeat refine Hd.h ?_)
   refine ld bf hq rfl ?_
   (repeat refine Hd.h ?_)
   refine Vs ?_
   (repeat refine Hd.h ?_)
   exact ch _ (by rw[d1,d2];rfl))
theorem Q6b {c:Cla} {cs:List Value} (r:X7 w σ) (d:L7 σ c cs) (h: ∀w' t,Stp w σ w' t->K (I (B4 c)) w'):Q0 P F.bq [.agg cs.toArray] w K:=Q0I (by
 unfold Ef;have g:=Rep.one (R:=L7) d;obtain ⟨s,p,mv,rfl,k,l,m,n,o⟩:=d;have d:L7 σ c _:=⟨s,p,mv,rfl,k,l,m,n,o⟩;refine Z1 r fun q w1 σ1 a i=>?_;unfold B4 at h;refine Z0 a.sat i rfl ?_;refine X4h a.sat (RCl_lift d ⟨a.le⟩) fun u y b=>?_;cases f:Uy c with
 | true=>simp only[f,if_true] at h;(try simp only[↓M1,M1,Mb,reduceIte]);exact h _ _ (a.trans b)
 | false=>
  simp only[f,Bool.false_eq_true,if_false] at h
  (try simp only[↓M1,M1,Mb,reduceIte])
  refine Z0 b.sat (i.up b) rfl ?_;refine X37 b.sat (RCl_lift d ⟨(a.trans b).le⟩) fun v z e=>?_;rw[X4j];cases j:Cl c with
  | true=>simp only[j,if_true] at h;(try simp only[↓M1,M1,Mb,reduceIte]);exact h _ _ (a.trans (b.trans e))
  | false=>simp only[j,Bool.false_eq_true,if_false] at h;(try simp only[↓M1,M1,Mb,reduceIte]);exact h _ _ (a.trans (b.trans e)))
end Go.Proofs.Y
namespace Go.Hm
open Go.Kd
structure Alike (l m : List Cla) : Prop where
  lk : lk l = lk m
  len : l.length = m.length
  weigh : weigh l [] = weigh m []
section
variable {l m : List Cla} (h : Alike l m)
include h
end
theorem X5U {l:List Cla} {frm:Nat}: ∀(f:Nat) (out:List Nat) (i:Nat),∀y∈Yc l frm f out i,y∈out\/frm<=y:=by
 intro f
 induction f with
 | zero=>intro out i y hy;exact .inl hy
 | succ f c=>
  intro out i y hy;simp only[Yc] at hy
  split at hy
  .exact .inl hy
  .split at hy
   .exact .inl hy
   .rename_i d _
    rcases List.mem_append.1 hy with hy | hy
    .exact Oe (p:=fun y=>frm<=y) _ _ (fun b x _ z a=>c b _ z a) y hy
    .simp at hy;omega
theorem X47 {a:List Cla} (g:Xo a): ∀j∈N2 a 8,8<=j/\j<a.length:=by
 intro j c;unfold N2 at c;have e:=Oe (p:=fun y=>8<=y) _ _ (fun b x _ z d=>X5U _ b x z d) j c
 have f:=Oe (p:=fun y=>y<a.length) _ _ (fun b x i z d=>(Q8q g (by omega) _ b x (by
  have:=List.mem_of_mem_drop i
  simpa using this) z d).imp id (·.1)) j c
 exact ⟨e.resolve_left (by simp),f.resolve_left (by simp)⟩
end Go.Hm
namespace Go.Proofs.Y
open Go.Emb Go.RowKit Go.Kd Go.Hm
end Go.Proofs.Y
namespace Go.Hm
open Go.Kd
theorem find_first {a:List Cla} {m:Nat} (b:m<a.length):J6 a (Z4 a m)=some m↔J6 (a.take m) (Z4 a m)=none:=by
 have g:Z4 a m=a[m].name:=by unfold Z4;rw[List.getD_eq_getElem?_getD,List.getElem?_eq_getElem b];rfl
 unfold J6;rw[List.findIdx?_eq_some_iff_getElem,List.findIdx?_eq_none_iff];constructor
 .rintro ⟨i,k,d⟩ c e
  obtain ⟨j,f,rfl⟩:=List.mem_take_iff_getElem.1 e
  simpa using d j (by omega)
 .intro h
  refine ⟨b,by simp[g],fun j f=>?_⟩
  simpa using h a[j] (List.mem_take_iff_getElem.2 ⟨j,by omega,rfl⟩)
theorem X1n {a:List Cla} (d:Xo a) {m:Nat} (b:m<a.length):Zs a (Z4 a m) (Z4 a m)=Xh a a[m]:=by
 have c:Z4 a m=a[m].name:=by unfold Z4;rw[List.getD_eq_getElem?_getD,List.getElem?_eq_getElem b];rfl
 unfold Zs Xh;rw[Jm d b,List.getD_eq_getElem?_getD,List.getElem?_eq_getElem b];simp only[Option.getD_some,c]
end Go.Hm
namespace Go.Proofs.Y
open Go.Emb Go.RowKit Go.Kd Go.Hm
variable {w : World} {K : Value -> World -> Prop} {σ : Q2} {l : List Cla}
theorem X17: ∀c∈Qq,Uy c=false:=by decide
theorem X0T {c:Cla} (h:B4 c=0):Uy c=false:=by
 unfold B4 at h
 split at h
 .cases h
 .rename_i a;exact eq_false_of_ne_true a
set_option maxRecDepth 9999 in
set_option maxHeartbeats 4000000 in
theorem X5Y {lv:Value} (hs:X7 w σ) (hl:Sl 8 L7 σ lv l) (cw:l.length<=900)
 (C: ∀i e w' B,Fy B4 l=some (i,e)->Stp w σ w' B->K (.tuple #[.slice none 0 0,I i,I e]) w')
 (h0: ∀v w' B,Fy B4 l=none->Stp w σ w' B->Sl 8 L7 B v (Q3 l)->Ok (Q3 l)->Xo (Q3 l)->K (.tuple #[v,I 0,I 0]) w'):Q0 P F.bS [lv] w K:=Q2P (by
 unfold Sy;simp only[Y5];unfold Y1 V0 V6 Y2 X4 X5;have t:Qq.length=8:=rfl;have c8:(Q3 l).length=8+l.length:=by simp[Q3,t]
 refine X33 hs fun x0 w1 σ1 bu be=>?_;refine X0E be ?_;rw[t]
 refine B7 l.length (fun n x w'=> ∃B,Stp w σ w' B/\W8 w.heap.size T.b 8 L7 B w' x (Qq++l.take n)/\C7 B4 l 0=C7 B4 (l.drop n) n)
  ⟨σ1,bu,by simpa using be,rfl⟩ fun n x w4 d H f=>?_
 obtain ⟨σ4,Y,ay,D⟩:=f;have ab:=hl.up Y;refine Q8 ab ?_;refine J0 ?_;refine Q5 (fun hh=>?_) (fun hh=>?_)
 .have a:n<l.length:=by simpa using hh
  obtain ⟨b9,bk,ca,p1,r1⟩:=ab.elC a;refine Z5 ab a ?_;refine Z0 Y.sat p1 rfl ?_;refine Q6b Y.sat r1 fun w6 σ6 aa=>?_;have bn:=Y.trans aa;have Q:=Ni a D;refine Xn ?_;refine Q5 (fun m=>?_) (fun m=>?_)
  .have A: ¬B4 l[n]=0:=by simpa using m
   rw[if_neg A] at Q;refine C _ _ _ _ ?_ bn;unfold Fy;rw[Q]
  .have hz:B4 l[n]=0:=by simpa using m
   rw[if_pos hz] at Q;refine Z5 (ab.up aa) a ?_;refine Z0 aa.sat (p1.up aa) rfl ?_;have cj:=ay.up aa;have r6:=RCl_lift r1 ⟨aa.le⟩;refine Lc (R:=L7) (x:=l[n]) bn cj (by simpa [Value.cells] using r6) rfl rfl rfl (by simp[t];omega) (by simp[t];omega) fun s v' w9 σ9 db p ck az=>?_
   refine H8 ?_;refine V1 ab.max a ⟨σ9,p,?_,Q⟩;rw[List.take_add_one,List.getElem?_eq_getElem a,<-List.append_assoc];exact ck
 have a: ¬n<l.length:=by simpa using hh
 rw[List.take_of_length_le Q4] at ay;rw[List.drop_eq_nil_of_le Q4] at D;have D:C7 B4 l 0=none:=D;have bp:=Xe D;have bf: ∀c∈l,Yn c/\Nm c/\c.name≠[]:=fun c hc=>Ku (bp c hc)
 have q: ∀c∈Q3 l,Yn c:=fun c hc=>by
  rcases List.mem_append.1 hc with hc | hc
  .exact (Ot c hc).1
  .exact (bf c hc).1
 have a3: ∀c∈Q3 l,Nm c:=fun c hc=>by
  rcases List.mem_append.1 hc with hc | hc
  .exact (Ot c hc).2.1
  .exact (bf c hc).2.1
 have ac: ∀c∈Q3 l,Uy c=false:=fun c hc=>by
  rcases List.mem_append.1 hc with hc | hc
  .exact X17 c hc
  .exact X0T (bp c hc)
 have av:(Q3 l).length<=100000:=by omega
 unfold Fy at C h0;rw[D] at C h0;simp only at C h0;obtain ⟨σ5,o,J,df,cz⟩:=ay.keep Y;change Sl 8 L7 σ5 x (Q3 l) at J;clear ay Y ab a hh H D be bu
 have r: ∀{n:Nat} (H:n<l.length),∃(h:8+n<(Q3 l).length),(Q3 l)[8+n]=l[n]:=fun {n} H=>⟨by omega,by
  unfold Q3;rw[List.getElem_append_right (by rw[t];omega)]
  congr 1
  rw[t];omega⟩
 have bx: ∀{n:Nat} (H:n<l.length),Z4 (Q3 l) (8+n)=l[n].name:=fun {n} H=>by
  obtain ⟨C,h2⟩:=r H;rw[Q0i C,h2]
 have br: ∀j,j<8->(J6 ((Q3 l).take j) (Z4 (Q3 l) j)).isSome=false:=by
  have hd: ∀j,j<8->(J6 (Qq.take j) (Z4 Qq j)).isSome=false:=by decide
  intro j hj;have e1:(Q3 l).take j=Qq.take j:=by unfold Q3;rw[List.take_append_of_le_length (by rw[t];omega)]
  have e2:Z4 (Q3 l) j=Z4 Qq j:=by
   unfold Z4 Q3;rw[List.getD_eq_getElem?_getD,List.getD_eq_getElem?_getD,List.getElem?_append_left (by rw[t];omega)]
  rw[e1,e2];exact hd j hj
 refine W0 l.length (fun n w'=>Stp w σ w' σ5/\ ∀j,j<8+n->(J6 ((Q3 l).take j) (Z4 (Q3 l) j)).isSome=false) ⟨o,by simpa using br⟩ fun n w5 d H f=>?_
 clear o;obtain ⟨o,a2⟩:=f;have aq:=hl.up o;refine Q8 aq ?_;refine J0 ?_;refine Q5 (fun hh=>?_) (fun hh=>?_)
 .have a:n<l.length:=by simpa using hh
  obtain ⟨b9,bk,ca,p1,r1⟩:=aq.elC a;refine Z5 aq a ?_
  (try simp only[↓M1,M1,Mb,reduceIte])
  refine ld o.sat p1 rfl ?_;refine Qk o.sat J ?_;rw[A8 Q4 Q4];refine Xn ?_;obtain ⟨L,e8⟩:=r a;rw[<-bx a];have bq:=find_first L;cases ai:J6 ((Q3 l).take (8+n)) (Z4 (Q3 l) (8+n)) with
  | none=>
   rw[bq.2 ai];have e:decide (E7 (some (8+n))=(8:Nat)+(n:Int))=true:=by simp[E7]
   rw[e]
   (try simp only[↓M1,M1,Mb,reduceIte])
   refine Z6 aq.max a ⟨o,fun j hj=>?_⟩
   by_cases ej:j=8+n
   .rw[ej,ai];rfl
   .exact a2 j Q4
  | some i=>
   have A:J6 (Q3 l) (Z4 (Q3 l) (8+n))≠some (8+n):=fun e=>by rw[bq.1 e] at ai;cases ai
   have e:decide (E7 (J6 (Q3 l) (Z4 (Q3 l) (8+n)))=(8:Nat)+(n:Int))=false:=by
    rw[decide_eq_false_iff_not];intro e;cases hf:J6 (Q3 l) (Z4 (Q3 l) (8+n)) with
    | none=>rw[hf] at e;simp only[E7] at e;omega
    | some k=>
     rw[hf] at e A;simp only[E7] at e;apply A
     congr 1;omega
   rw[e]
   (try simp only[↓M1,M1,Mb,reduceIte])
   have O:Fi (Q3 l)=some (8+n):=by
    unfold Fi;rw[List.find?_range_eq_some];refine ⟨by rw[ai];rfl,by simpa using L,fun j hj=>by rw[a2 j hj];rfl⟩
   refine C _ _ _ _ ?_ o;rw[O];have:((8+n:Nat):Int)-8=n:=by omega
   simp only[this]
 have a: ¬n<l.length:=by simpa using hh
 have O:Fi (Q3 l)=none:=by
  unfold Fi;rw[List.find?_eq_none];intro j hj;rw[a2 j (by have:=List.mem_range.1 hj;omega)];simp
 rw[O] at C h0;simp only at C h0;have g:=Q0k O;clear a2 hh a H aq br;refine W0 l.length (fun n w'=> ∃B,Stp w σ w' B/\SLe σ5 B/\C7 (fun c=>(B1 (Q3 l) c:Int)) l 0=C7 (fun c=>(B1 (Q3 l) c:Int)) (l.drop n) n) ⟨σ5,o,SLe.refl _,rfl⟩ fun n w6 d H f=>?_;obtain ⟨σ9,p,ax,Z⟩:=f;have ar:=hl.up p;refine Q8 ar ?_;refine J0 ?_;refine Q5 (fun hh=>?_) (fun hh=>?_)
 .have a:n<l.length:=by simpa using hh
  obtain ⟨b9,bk,ca,p1,r1⟩:=ar.elC a;refine Z5 ar a ?_;refine Z0 p.sat p1 rfl ?_;have U:=Ni a Z;refine X1B p.sat (J.lift ax) r1 fun w8 ct an=>?_;refine Xn ?_;refine Q5 (fun m=>?_) (fun m=>?_)
  .have A: ¬(B1 (Q3 l) l[n]:Int)=0:=by simpa using m
   rw[if_neg A] at U;refine C _ _ _ _ ?_ (p.trans an);rw[U]
  .have hz:(B1 (Q3 l) l[n]:Int)=0:=by simpa using m
   rw[if_pos hz] at U;refine H8 ?_;exact Z6 ar.max a ⟨ct,p.trans an,ax.more ⟨an.le⟩,U⟩
 have a: ¬n<l.length:=by simpa using hh
 rw[List.drop_eq_nil_of_le Q4] at Z;have Z:C7 (fun c=>(B1 (Q3 l) c:Int)) l 0=none:=Z;rw[Z] at C h0;simp only at C h0;have b3:=Xe Z;clear hh a H o ar;refine Q31 p.sat (J.lift ax) g Q4 Q4 q fun vb di cd am ag=>?_;have b:=p.trans am;have bc:=ax.more ⟨am.le⟩;have a0:(Qe (Q3 l)).length=(Q3 l).length:=by simp[Qe]
 refine W0 l.length (fun n w'=>Stp w σ w' cd/\ ∀j (hj:j<l.length),j<n->Xh (Q3 l) l[j]=false) ⟨b,fun j _ h=>by omega⟩ fun n dj d H f=>?_
 clear b;obtain ⟨b,a1⟩:=f;have ao:=hl.up b;refine Q8 ao ?_;refine J0 ?_;refine Q5 (fun hh=>?_) (fun hh=>?_)
 .have a:n<l.length:=by simpa using hh
  obtain ⟨L,e8⟩:=r a;refine Yl ⟨by omega,by omega⟩ ?_
  have ec:((8:Nat):Int)+(n:Int)=((8+n:Nat):Int):=by omega
  rw[ec];obtain ⟨c2,pb,_,rv,rfl,rb⟩:=ag.el (i:=8+n) (by rw[a0];exact L)
  have b2:(Qe (Q3 l))[8+n]'(by rw[a0];exact L)=(List.range (Q3 l).length).map fun j=>Zs (Q3 l) (Z4 (Q3 l) (8+n)) (Z4 (Q3 l) j):=by simp[Qe]
  rw[b2] at rb;obtain ⟨ci,bh,_,ah⟩:=rb.el (i:=8+n) (by simpa using L)
  have ah:ci=_:=ah;subst ah;simp only[List.getElem_map,List.getElem_range] at bh;rw[X1n g L,e8] at bh;refine Z5 ag (by rw[a0];exact L) ?_
  refine Y6 b.sat pb rfl ?_;refine Yl ⟨by omega,by omega⟩ ?_
  rw[ec];refine Z5 rb (by simpa using L) ?_
  refine Y6 b.sat bh rfl ?_;cases bw:Xh (Q3 l) l[n] with
  | true=>
   (try simp only[↓M1,M1,Mb,reduceIte])
   have bg:l.findIdx? (Xh (Q3 l))=some n:=by
    rw[List.findIdx?_eq_some_iff_getElem];exact ⟨a,bw,fun j hj=>by simpa using a1 j Q4 hj⟩
   refine C _ _ _ _ ?_ b;rw[bg]
  | false=>
   (try simp only[↓M1,M1,Mb,reduceIte])
   refine Z6 ao.max a ⟨b,fun j hj da=>?_⟩
   by_cases e:j=n
   .subst e;exact bw
   .exact a1 j hj Q4
 have a: ¬n<l.length:=by simpa using hh
 have ba: ∀c∈l,Xh (Q3 l) c=false:=fun c hc=>by
  obtain ⟨j,hj,rfl⟩:=List.getElem_of_mem hc;exact a1 j hj Q4
 have bg:l.findIdx? (Xh (Q3 l))=none:=by
  rw[List.findIdx?_eq_none_iff];exact ba
 rw[bg] at C h0;simp only at C h0;clear a1 hh a H ao ag am p a0;have af:=Q7w g (fun c hc=>(bf c hc).2.2) ba
 have ak:X3l (Q3 l):=fun c hc u hu=>by
  rcases List.mem_append.1 hc with hc | hc
  .rw[(Ot c hc).2.2] at hu;simp at hu
  .have:=b3 c hc
   unfold B1 at this
   split at this
   .simp at this
   .split at this
    .simp at this
    .rename_i z
     have z:c.like.any (G6 (Q3 l))=false:=eq_false_of_ne_true z;have:=List.any_eq_false.1 z u hu;unfold G6 at this;cases hd:lk (Q3 l) u with
     | none=>rw[hd] at this;simp at this
     | some d=>exact ⟨d,rfl⟩
 have b0:Ok (Q3 l):=⟨af,av,q,ak,a3⟩
 have b4: ∀i (hi:i<(Q3 l).length),8<=i-> ∀u∈L5 (Q3 l)[i],∃j,J6 (Q3 l) u=some j:=fun i hi L u hu=>by
  have al:i-8<l.length:=by omega
  obtain ⟨c7,e8⟩:=r al;have cm:(Q3 l)[i]=l[i-8]:=by rw[<-e8];congr 1;omega
  rw[cm] at hu;have bb:=List.getElem_mem al
  rcases List.mem_cons.1 hu with hu | hu
  .have:=b3 _ bb
   unfold B1 at this
   split at this
   .simp at this
   .rename_i z
    unfold Zf at z;rw[<-hu] at z;cases hd:lk (Q3 l) u with
    | none=>rw[hd] at z;simp at z
    | some d=>obtain ⟨_,_,j,hj,_⟩:=O4 hd;exact ⟨j,hj⟩
  .obtain ⟨d,hd⟩:=ak _ (List.mem_append_right _ bb) u hu
   obtain ⟨_,_,j,hj,_⟩:=O4 hd;exact ⟨j,hj⟩
 refine Sh (R:=P8) (e:=T.f) b L2 fun dt dl a9 a6 _=>?_
 refine B7 l.length (fun n x' w'=> ∃B out,Stp w σ w' B/\SLe σ5 B/\W8 w.heap.size T.f 1 P8 B w' x' (ints out)/\Few (Q3 l) out/\out=(((List.range (Q3 l).length).drop 8).take n).foldl (fun out i=>Jh (Q3 l) 8 out i) [])
  ⟨cd,[],b.trans a9,bc,a6,⟨List.nodup_nil,by simp⟩,rfl⟩ fun n x' dm d H f=>?_
 clear a6 a9 b bc ax;obtain ⟨dv,out,M,W,ae,aj,aw⟩:=f;have ap:=hl.up M;refine Q8 ap ?_;refine J0 ?_;refine Q5 (fun hh=>?_) (fun hh=>?_)
 .have a:n<l.length:=by simpa using hh
  obtain ⟨L,e8⟩:=r a;refine Yl ⟨by omega,by omega⟩ ?_
  have ec:((8:Nat):Int)+(n:Int)=((8+n:Nat):Int):=by omega
  rw[ec];refine X61 af g Q4 q Q4 b4 ((Q3 l).length+1) L (Nat.lt_succ_of_le (Q3o _ _)) aj M (J.lift W) ae fun du dn cu bl b7 bo=>?_;refine H8 ?_;refine V1 ap.max a ⟨cu,_,bl,W.more b7,bo,Q0o af g Q4 _ _ _ L aj,?_⟩;rw[List.take_add_one,List.getElem?_drop,List.getElem?_range L,List.foldl_append,<-aw];rfl
 have a: ¬n<l.length:=by simpa using hh
 have cn:n=l.length:=by omega
 subst cn
 have b1:out=N2 (Q3 l) 8:=by
  rw[aw,List.take_of_length_le (by rw[List.length_drop,List.length_range];omega)];rfl
 subst b1;clear aw hh a H;have dc:=aj.len;have co:=X47 g;obtain ⟨ce,bm,b5,bd,_⟩:=ae.keep M;have b8:=W.more ⟨bd⟩;clear ae M bd W ap;have al:(ints (N2 (Q3 l) 8)).length=(N2 (Q3 l) 8).length:=by simp
 refine W0 (N2 (Q3 l) 8).length (fun n w'=> ∃B,Stp w σ w' B/\SLe ce B/\ ∀j∈(N2 (Q3 l) 8).take n,N1 (Q3 l) ((Q3 l).getD j Cla.zero)=0) ⟨ce,bm,SLe.refl _,by simp⟩ fun n dp d H f=>?_
 obtain ⟨dw,N,X,a4⟩:=f;have V:=b5.lift X;refine Q8 V ?_;rw[al];refine J0 ?_;refine Q5 (fun hh=>?_) (fun hh=>?_)
 .have a:n<(N2 (Q3 l) 8).length:=by simpa using hh
  have bz:n<(ints (N2 (Q3 l) 8)).length:=by rw[al];exact a
  refine Z5 V bz ?_;obtain ⟨cs,pc,_,cl⟩:=V.el bz;obtain ⟨rfl,_⟩:=cl;simp only[List.getElem_map] at pc;refine Y6 N.sat pc rfl ?_;have bs:=(co _ (List.getElem_mem a)).2;have az:(Q3 l).getD (N2 (Q3 l) 8)[n] Cla.zero=(Q3 l)[(N2 (Q3 l) 8)[n]]:=by rw[List.getD_eq_getElem?_getD,List.getElem?_eq_getElem bs];rfl
  refine Q9N N.sat (J.lift (b8.more X)) b0 g Q4 ac bs fun dq cf y=>?_;have a5:=N.trans y;refine Xn ?_;refine Q5 (fun m=>?_) (fun m=>?_)
  .have A: ¬N1 (Q3 l) (Q3 l)[(N2 (Q3 l) 8)[n]]=0:=by simpa using m
   have cx:=V.up y;have cb:=pc.up y;refine U9 y.sat ?_
   (repeat refine X2 Uk ?_)
   (intros;(repeat (rename_i hx;subst hx));(try simp only[↓M2,M2,Mb,reduceIte]))
   rename_i cr a7;refine Y6 a7.sat cb rfl ?_;refine Ux ⟨by omega,by omega⟩ ?_
   have E:(N2 (Q3 l) 8).find? (fun j=> !decide (N1 (Q3 l) ((Q3 l).getD j Cla.zero)=0))=some (N2 (Q3 l) 8)[n]:=by
    rw[List.find?_eq_some_iff_getElem];refine ⟨by rw[az];simpa using A,n,a,rfl,fun j hj=>?_⟩
    have:=a4 _ (List.mem_take_iff_getElem.2 ⟨j,by omega,rfl⟩)
    rw[this];simp
   have:=C (((N2 (Q3 l) 8)[n]:Int)-8) (N1 (Q3 l) (Q3 l)[(N2 (Q3 l) 8)[n]]) cr cf (by rw[E];simp only[az]) (a5.trans a7.stp)
   exact this
  .have hz:N1 (Q3 l) (Q3 l)[(N2 (Q3 l) 8)[n]]=0:=by simpa using m
   refine H8 ?_;refine Z6 Q4 a ⟨cf,a5,X.more ⟨y.le⟩,fun j hj=>?_⟩;rw[List.take_add_one,List.getElem?_eq_getElem a] at hj
   rcases List.mem_append.1 hj with hj | hj
   .exact a4 j hj
   .simp at hj;subst hj;rw[az];exact hz
 .have a: ¬n<(N2 (Q3 l) 8).length:=by simpa using hh
  rw[List.take_of_length_le Q4] at a4
  have E:(N2 (Q3 l) 8).find? (fun j=> !decide (N1 (Q3 l) ((Q3 l).getD j Cla.zero)=0))=none:=by
   rw[List.find?_eq_none];intro j hj;rw[a4 j hj];simp
  rw[E] at h0;exact h0 _ _ _ rfl N (J.lift (b8.more X)) b0 g)
end Go.Proofs.Y
namespace Go.Hm
open Go.Kd
def X1a:Ins:=⟨[105,110,116],1,[]⟩
def Q2s:Ins:=⟨[114,101,116,117,114,110],0,[]⟩
def kA:X0:=[65]
def fX:Fld:=⟨[120],Yh,false⟩
def Q3i:Fld:=⟨[110,101,120,116],kA,false⟩
def fL:Fld:=⟨[108],[65,91,93],false⟩
def mF:Hm.Met:=⟨[102],[Yh,kA],Yh,false,3,[X1a,Q2s],[]⟩
def mG:Hm.Met:=⟨[103],[],[],false,1,[Q2s],[]⟩
def cA:Cla:=⟨kA,W7,[],false,false,false,[fX,Q3i],[mF,mG]⟩
def cB:Cla:=⟨[66],kA,[[73]],false,false,false,[fL],[]⟩
def cI:Cla:=⟨[73],W7,[],true,true,false,[],[]⟩
def cD:Cla:=⟨[68],W7,[],false,true,false,[],[]⟩
def L3:List Cla:=[cA,cB,cI,cD]
end Go.Hm
namespace Go.Proofs.Y
open Go.Emb Go.RowKit Go.Kd Go.Hm
variable {w w' : World} {K : Value -> World -> Prop} {σ σ' : Q2}
set_option maxRecDepth 100000 in
theorem Q4n:Fy B4 L3=none:=by decide+kernel
theorem X5h: ∀c∈L3,Yn c:=X6L L2
theorem Q3e:Wf L3:=X7V Q4n
set_option maxHeartbeats 1000000 in
theorem Q6P (Y:X7 w σ) (h: ∀v w' σ',Stp w σ w' σ'->Sl 8 L7 σ' v L3->K v w'):Q0 P F.aD [] w K:=Pg (by
 unfold Mw;refine M6 (cells:= #[S X1a.op,I 1,S []]) X8 ?_;refine M6 (cells:= #[S Q2s.op,I 0,S []]) X8 ?_;refine T3 (R:=Ym) (sz:=3) Y [.agg #[S X1a.op,I 1,S []], .agg #[S Q2s.op,I 0,S []]] [X1a,Q2s] rfl rfl (by simp;exact ⟨rfl,rfl⟩) rfl ⟨⟨rfl,by decide,by decide,by decide⟩,⟨rfl,by decide,by decide,by decide⟩,trivial⟩ fun Z w1 σ1 j e=>?_
 refine M6 (cells:= #[S fX.name,S fX.kind, .bool false]) X8 ?_;refine M6 (cells:= #[S Q3i.name,S Q3i.kind, .bool false]) X8 ?_;refine T3 (R:=G9) (sz:=3) j.sat [.agg #[S fX.name,S fX.kind, .bool false], .agg #[S Q3i.name,S Q3i.kind, .bool false]] [fX,Q3i] rfl rfl (by simp;exact ⟨rfl,rfl⟩) rfl ⟨⟨rfl,by decide,by decide⟩,⟨rfl,by decide,by decide⟩,trivial⟩ fun v2 w2 σ2 g f=>?_
 refine T3 (R:=L6) (sz:=1) g.sat [S Yh,S kA] [Yh,kA] rfl rfl (by simp;exact ⟨rfl,rfl⟩) rfl ⟨⟨rfl,by decide⟩,⟨rfl,by decide⟩,trivial⟩ fun v3 w3 σ3 c n=>?_
 have k:=e;have m:=f;have o:=n;obtain ⟨C,N,rfl,_⟩:=k;obtain ⟨D,O,rfl,_⟩:=m;obtain ⟨E,Q,rfl,_⟩:=o;have e:=(e.up g).up c;have f:=f.up c;refine M6 (cells:= #[S mF.name, .slice E 2 Q,S Yh, .bool false,I 3, .slice C 2 N, .slice none 0 0]) X8 ?_;refine M6 (cells:= #[S Q2s.op,I 0,S []]) X8 ?_;refine T3 (R:=Ym) (sz:=3) c.sat [.agg #[S Q2s.op,I 0,S []]] [Q2s] rfl rfl (by simp;rfl) rfl ⟨⟨rfl,by decide,by decide,by decide⟩,trivial⟩ fun v4 w4 σ4 a p=>?_
 have q:=p;obtain ⟨H,U,rfl,_⟩:=q;refine M6 (cells:= #[S mG.name, .slice none 0 0,S [], .bool false,I 1, .slice H 1 U, .slice none 0 0]) X8 ?_
 refine T3 (R:=F2) (sz:=7) a.sat [.agg #[S mF.name, .slice E 2 Q,S Yh, .bool false,I 3, .slice C 2 N, .slice none 0 0], .agg #[S mG.name, .slice none 0 0,S [], .bool false,I 1, .slice H 1 U, .slice none 0 0]] [mF,mG] rfl rfl (by simp;exact ⟨rfl,rfl⟩) rfl
  ⟨⟨_,_,_,rfl,n.up a,e.up a,Sl.nil,by decide,by decide,by decide⟩,⟨_,_,_,rfl,Sl.nil,p,Sl.nil,by decide,by decide,by decide⟩,trivial⟩ fun v5 w5 σ5 i r=>?_
 have s:=r;obtain ⟨J,V,rfl,_⟩:=s;refine M6 (cells:= #[S kA,S W7, .slice none 0 0, .bool false, .bool false, .bool false, .slice D 2 O, .slice J 2 V]) X8 ?_;refine T3 (R:=L6) (sz:=1) i.sat [S [73]] [[73]] rfl rfl (by simp;rfl) rfl ⟨⟨rfl,by decide⟩,trivial⟩ fun v6 w6 σ6 d t=>?_
 have u:=t;obtain ⟨L,W,rfl,_⟩:=u;refine M6 (cells:= #[S fL.name,S fL.kind, .bool false]) X8 ?_;refine T3 (R:=G9) (sz:=3) d.sat [.agg #[S fL.name,S fL.kind, .bool false]] [fL] rfl rfl (by simp;rfl) rfl ⟨⟨rfl,by decide,by decide⟩,trivial⟩ fun v7 w7 σ7 b y=>?_
 have z:=y;obtain ⟨M,X,rfl,_⟩:=z;refine M6 (cells:= #[S cB.name,S kA, .slice L 1 W, .bool false, .bool false, .bool false, .slice M 1 X, .slice none 0 0]) X8 ?_;refine M6 (cells:= #[S cI.name,S W7, .slice none 0 0, .bool true, .bool true, .bool false, .slice none 0 0, .slice none 0 0]) X8 ?_;refine M6 (cells:= #[S cD.name,S W7, .slice none 0 0, .bool false, .bool true, .bool false, .slice none 0 0, .slice none 0 0]) X8 ?_
 refine T3 (R:=L7) (sz:=8) b.sat [.agg #[S kA,S W7, .slice none 0 0, .bool false, .bool false, .bool false, .slice D 2 O, .slice J 2 V], .agg #[S cB.name,S kA, .slice L 1 W, .bool false, .bool false, .bool false, .slice M 1 X, .slice none 0 0], .agg #[S cI.name,S W7, .slice none 0 0, .bool true, .bool true, .bool false, .slice none 0 0, .slice none 0 0], .agg #[S cD.name,S W7, .slice none 0 0, .bool false, .bool true, .bool false, .slice none 0 0, .slice none 0 0]] L3 rfl rfl (by simp;exact ⟨rfl,rfl,rfl,rfl⟩) rfl
  ⟨⟨_,_,_,rfl,Sl.nil,(((f.up a).up i).up d).up b,(r.up d).up b,by decide,by decide⟩,⟨_,_,_,rfl,t.up b,y,Sl.nil,by decide,by decide⟩,⟨_,_,_,rfl,Sl.nil,Sl.nil,Sl.nil,by decide,by decide⟩,⟨_,_,_,rfl,Sl.nil,Sl.nil,Sl.nil,by decide,by decide⟩,trivial⟩ fun v8 w8 σ8 A B=>?_
 exact h _ _ _ ((((((((j.trans g).trans c).trans a).trans i).trans d).trans b)).trans A) B)
variable {hp tv : Value} {room : Int} {cs : List Cel} {l : List Cla}
def part (m n:Nat) (z:Val):List Val:=(List.range m).map fun i=>if i<n then z else Val.zero
theorem X2R (m:Nat) (z:Val):part m 0 z=List.replicate m Val.zero:=by
 refine List.ext_getElem (by simp[part]) fun i a b=>by simp[part]
theorem X4a (m:Nat) (z:Val):part m m z=List.replicate m z:=by
 refine List.ext_getElem (by simp[part]) fun i a b=>?_
 have:i<m:=by simpa [part] using a
 simp[part,this]
theorem X4b {m n:Nat} (z:Val):(part m n z).set n z=part m (n+1) z:=by
 refine List.ext_getElem (by simp[part]) fun i a b=>?_
 simp only[part,List.getElem_set,List.getElem_map,List.getElem_range]
 by_cases e:n=i
 .subst e;simp
 .rw[if_neg e]
  by_cases h:i<n
  .simp[h,Nat.lt_succ_of_lt h]
  .have: ¬i<n+1:=by omega
   simp[h,this]
theorem Q7Y {e:X0} (h:T6 l e=true):right e=true:=by
 simp only[T6,Bool.and_eq_true,Bool.not_eq_true',decide_eq_false_iff_not] at h;have:=h.1.2;simp only[H4,Bool.or_eq_true,Bool.and_eq_true,decide_eq_true_eq] at this
 rcases this with h1 | h1
 .exact absurd h1 h.1.1
 .exact h1.1
theorem X5i {e:X0} (h:right e=true):Zv e<=3:=by
 unfold Zv;rw[if_pos h];simp only[right,Bool.and_eq_true,decide_eq_true_eq] at h;exact h.1
set_option maxHeartbeats 1000000 in
theorem X54 {B:Nat} {D:Nat->Prop} {e:X0} {n:Int} (hs:X7 w σ) (hB:B<=w.heap.size) (h:HeapIs B D σ w hp tv room cs) (ht:Tab σ tv l) (hk:e.length<=V9) (h0:0<=O5 room cs) (h1:room<=1048576)
 (hh: ∀w' σ' Z,Nxt D w σ w' σ'->HeapIs B Z σ' w' hp tv room (Vx l room cs e n).1->(∀j,Z j->D j\/w.heap.size<=j)->K (.tuple #[I (atM cs (Vx l room cs e n).2),I (Vx l room cs e n).2]) w'):Q0 P F.bz [hp,S e,I n] w K:=Q1v (by
 obtain ⟨b,lv,E,rfl,hm,hr⟩:=h.tab;unfold Hl;simp only[D2];unfold Z3 V6 X6 Y2 X4 V2 X5;refine X8g e (Nat.le_trans hk L2) fun w1 ad=>?_;have y:=Stp.of_below hs ad;unfold Vx at hh
 have g: ∀{L H},Stp w σ L H->T6 l e=false->K (.tuple #[I 0,I 91]) L:=fun {L H} hS W=>by
  rw[W] at hh;simp only[if_pos] at hh;exact hh L H D (.of_stp hS) (h.up hS) fun j t=> .inl t
 cases z:(right e&&decide (Zv e≠3)) with
 | false=>
  have W:T6 l e=false:=by
   cases hx:T6 l e with
   | false=>rfl
   | true=>
    have hr:=Q7Y hx;simp only[T6,Bool.and_eq_true,decide_eq_true_eq] at hx;rw[hr,Bool.true_and,decide_eq_false_iff_not] at z;omega
  simp only[Bool.false_eq_true,if_false]
  (try simp only[↓M1,M1,Mb,reduceIte])
  simp only[show decide ((30:Int)=0)=false from by decide,Bool.not_false,↓M1,M1,Mb,reduceIte]
  exact g y W
 | true=>
  simp only[if_true]
  (try simp only[↓M1,M1,Mb,reduceIte])
  simp only[decide_true,Bool.not_true,↓M1,M1,Mb,reduceIte];refine F9 (i:=0) (hm.up y) rfl ?_;refine Q4K y.sat ht hk fun L H O=>?_;have a:=y.trans O;simp only[Bool.and_eq_true,decide_eq_true_eq] at z;have ax:=X5i z.1
  have k:T6 l e=(!decide (e=G0)&&H4 l e):=by
   unfold T6;have:decide (Zv e<=2)=true:=decide_eq_true Q4;rw[this,Bool.and_true]
  have en:decide (e=[110,117,108,108])=decide (e=G0):=rfl;cases V:H4 l e with
  | false=>
   (try simp only[↓M1,M1,Mb,reduceIte])
   exact g a (by rw[k,V,Bool.and_false])
  | true=>
   (try simp only[↓M1,M1,Mb,reduceIte])
   by_cases c:e=G0
   .have:decide (e=[110,117,108,108])=true:=decide_eq_true c
    rw[this]
    (try simp only[↓M1,M1,Mb,reduceIte])
    exact g a (by rw[k,decide_eq_true c];rfl)
   have:decide (e=[110,117,108,108])=false:=decide_eq_false c;rw[this]
   (try simp only[↓M1,M1,Mb,reduceIte])
   have W:T6 l e=true:=by rw[k,V,decide_eq_false c];rfl
   rw[W] at hh;simp only[Bool.true_eq_false,if_false] at hh
   by_cases o:n<0
   .rw[if_pos o] at hh
    rw[decide_eq_true o]
    (try simp only[↓M1,M1,Mb,reduceIte])
    exact hh L H D (.of_stp a) (h.up a) fun j t=> .inl t
   rw[if_neg o] at hh;rw[decide_eq_false o]
   (try simp only[↓M1,M1,Mb,reduceIte])
   refine Q7H O.sat (h.up a) h0 h1 fun w3 Q=>?_;have q:=a.trans Q;refine Qd ?_
   by_cases M:O5 room cs<=n
   .rw[if_pos M] at hh
    rw[decide_eq_true M];refine J3 ?_;exact hh w3 H D (.of_stp q) (h.up q) fun j t=> .inl t
   rw[if_neg M] at hh;rw[decide_eq_false M];refine Z9 ?_;obtain ⟨m,rfl⟩:=Int.eq_ofNat_of_zero_le (Int.not_lt.1 o);have ah:(m:Int)<O5 room cs:=Int.not_le.1 M;have a2:=R3 cs;unfold O5 at ah h0;have A:=q.bel.size;have an:=Tt z.1;refine X6W (sz:=4) (R:=E4) (x0:=Val.zero) Q.sat rfl L2 ⟨rfl,by decide⟩ Q4 Q4 fun v w4 ag ac C=>?_
   have X:=V3.of_acc ac;refine Kk X ?_;rw[List.length_replicate];refine W0 m (fun i w'=> ∃σ',Stp w3 H w' σ'/\V3 w3.heap.size T.e 4 E4 σ' w' v (part m i (H2 e))) ⟨H,ag,by rw[X2R];exact X⟩ fun i w5 d hi N=>?_
   obtain ⟨σ5,r,J⟩:=N;refine J0 ?_;refine Q5 (fun hc=>?_) (fun hc=>?_)
   .have s:i<m:=by simpa using hc
    refine X22 r.sat fun w6 σ6 U=>?_;have ab:=r.trans U;refine Q5f (x:=H2 e) ab (J.up U) (by simpa [part] using s) rfl (Ab e) (Rep.one (R:=E4) (Ab (σ:=σ6) e)) fun p u w7 ay ae Y=>?_
    refine H8 ?_;rw[X4b] at Y;exact Z6 Q4 s ⟨σ6,ae.stp,Y⟩
   .have s:i=m:=by
     have: ¬i<m:=by simpa using hc
     omega
    subst s;rw[X4a] at J;have f:=q.trans r
    refine X4E r.sat (Nat.le_trans hB f.bel.size) (h.up f) (J.mono (Nat.le_trans hB A)) (fun j t hD=>by
     have:=(h.mem hD).2.1;have:=C j t;omega) (Nat.le_trans (show (e++[91,93]).length<=40 by simp only[List.length_append,List.length_cons,List.length_nil];omega) L2) (by rw[List.length_replicate];omega) fun w7 σ7 Z N7 h7 aa=>?_
    refine J4 (vs:=[_,_]) rfl ?_;refine J4 (vs:=[_,_]) rfl ?_;rw[Int.toNat_natCast] at hh;refine hh w7 σ7 Z ((Nxt.of_stp f).chain N7 fun j _ e=>e) h7 fun j t=>?_
    rcases aa j t with e | e | e
    .exact .inl e
    .right;have:=C j e;omega
    .right;have:=f.bel.size;omega)
end Go.Proofs.Y
namespace Go.Emb
open Go.RowKit Go.Hm
variable {w w' : World} {σ σ1 σ2 : Q2}
theorem Stp.weak (h:Stp w σ1 w' σ2) (a: ∀b o,σ b=some o->σ1 b=some o):Stp w σ w' σ:=
 ⟨h.bel,fun b o e=>h.sat b o (h.le b o (a b o e)),fun _ _ e=>e,fun _ _=>rfl⟩
end Go.Emb
namespace Go.Proofs.Y
open Go.Emb Go.RowKit Go.Kd Go.Hm
variable {w w' : World} {K : Value -> World -> Prop} {σ σ' : Q2} {hp tv : Value} {room : Int} {cs : List Cel} {l : List Cla}
theorem RowsIs.rows {B:Nat} {D:Nat->Prop} {m:Value} (h:RowsIs B D σ w m cs) (A:X7 w σ): ∃vs σ',vs.length=cs.length/\X7 w σ'/\SLe σ σ'/\Sl 2 Q5B σ' m (Zc vs cs)/\(∀i (h:i<vs.length) (y:i<cs.length),V3 B T.e 4 E4 σ w vs[i] cs[i].vals/\ ∀k,vs[i].ownBlock=some k->D k)/\(∀k,¬D k->σ' k=σ k)/\
 ∀i (h:i<vs.length) (y:i<cs.length) vals' n,Kpt (fun k=>vs[i].ownBlock=some k) w n->V3 B T.e 4 E4 σ n vs[i] vals'->RowsIs B D σ n m (cs.set i ⟨cs[i].kind,vals'⟩):=by
 obtain ⟨vs,u,g,t,hD⟩:=h.ex;obtain ⟨o,p⟩:=List.pairwise_cons.1 t;obtain ⟨σ',E,C,v,o1⟩:=u.freeze A;refine ⟨vs,σ',g.1,E,C,v,fun i b d=>⟨g.2 i b d,fun k c=>(hD k).2 ⟨vs[i],by simp[List.getElem_mem b],c⟩⟩,fun k c=>o1 k fun e=>c ((hD k).2 ⟨m,by simp,e.symm⟩),fun i b d vals' n c z=>⟨vs,?_,⟨by simpa using g.1,fun j q r=>?_⟩,t,hD⟩⟩
 .have e:Zc vs (cs.set i ⟨cs[i].kind,vals'⟩)=Zc vs cs:=by
   refine List.ext_getElem (by simp[Zc]) fun j H J=>?_
   simp only[Zc,List.getElem_zipWith,List.getElem_set]
   split
   .rename_i e;subst e;rfl
   .rfl
  rw[e];exact u.kp c fun k a f=>o _ (List.getElem_mem b) k a f
 .have s:j<cs.length:=by simpa using r
  simp only[List.getElem_set]
  by_cases e:i=j
  .subst e;simp only[if_pos];exact z
  .simp only[if_neg e]
   refine (g.2 j q s).kp c fun k a f=>?_;have hp:=List.pairwise_iff_getElem.1 p
   rcases Nat.lt_or_gt_of_ne e with hlt | hlt
   .exact hp i j b q hlt k f a
   .exact hp j i q b hlt k a f
theorem X3g {i:Nat} (b:i<cs.length) {vals':List Val} (h:vals'.length=cs[i].vals.length):U1 (cs.set i ⟨cs[i].kind,vals'⟩)=U1 cs:=by
 unfold U1;rw[List.map_set];simp only[h];have a:1+(cs[i].vals.length:Int)=(cs.map (fun c=>1+(c.vals.length:Int)))[i]'(by simpa using b):=by simp
 rw[a,List.set_getElem_self]
set_option maxHeartbeats 1000000 in
theorem X0M {B:Nat} {D:Nat->Prop} {r i:Int} {v:Val} (hs:X7 w σ) (hg:Glb σ) (h:HeapIs B D σ w hp tv room cs) (ht:Tab σ tv l) (ok:Ok l) (good: ∀c∈cs,GoodC W1 l cs c) (hv:E4 σ v [I v.sort,I v.n,S v.s,I v.ref])
 (hh: ∀w' σ',Nxt D w σ w' σ'->HeapIs B D σ' w' hp tv room (H6 W1 l cs r i v).1->K (I (H6 W1 l cs r i v).2) w'):Q0 P F.u [hp,I r,I i, .agg [I v.sort,I v.n,S v.s,I v.ref].toArray] w K:=Q3K (by
 unfold Cx;simp only[Y5,X3];unfold X4;refine Z1 hs fun q w1 σ1 hk1 hq=>?_;have h1:=h.up hk1;have hs1:=hk1.sat;obtain ⟨σf,sf,lef,hsl,_⟩:=h1.freeze hs1;refine X02 sf hsl ?_;unfold H6 at hh;refine Xn ?_
 by_cases h0:C3 cs r i=0
 case neg=>
  have e:decide (C3 cs r i=0)=false:=decide_eq_false h0;rw[if_pos h0] at hh;rw[e];refine J3 ?_;exact hh _ _ (.of_stp hk1) h1
 have e:decide (C3 cs r i=0)=true:=decide_eq_true h0;rw[if_neg (fun hn=>hn h0)] at hh;rw[e];refine Z9 ?_;obtain ⟨j,m,rfl,rfl,hj,hm⟩:=Ow h0;rw[L8 hj,Int.toNat_natCast] at hh;have hsl0:=hsl;obtain ⟨a,lv,rfl,la,ls⟩:=hsl;obtain ⟨vv,p1,p2,p3⟩:=Sl.elO ls hj;have hqf:=hq.lift lef;have lesf:SLe σ σf:=SLe.more ⟨hk1.le⟩ lef;have htf:=ht.lift lesf;have hone:vv.cells= #[vv]/\vv.oneCell'=true:=by obtain ⟨a,c,rfl,_⟩:=p2;exact ⟨rfl,rfl⟩
 have hgc:=good cs[j] (List.getElem_mem hj)
 have hif:elem cs[j].kind=[]->m<(U4 l cs[j].kind).length:=fun e=>by
  rcases hgc.is with h | h
  .exact absurd e h
  .rw[<-h.2];exact hm
 refine U9 sf ?_
 (repeat (apply X2;(· intros;(repeat (rename_i hx;subst hx));(repeat' (first | (with_reducible exact Q9 rfl) | (with_reducible exact Qa (Stp.bel (by (repeat (first | exact Stp.refl (by (first | assumption | exact Stp.sat Q7 | exact Hst.sat Q7)) | assumption | refine Stp.trans ?_ (by first | assumption | exact Hst.stp Q7))))) rfl) | (with_reducible intro _) | (simp only[↓M2,M2,Mb,reduceIte]) | (with_reducible show Q6 _ _ _ _ _;first | refine Y6 aS aL aR ?_ | refine Z0 aS aL aR ?_ | refine ld aS aL aR ?_) | (with_reducible show indexAddr _ _ _ _ _ _;refine Z5 aL au ?_) | (with_reducible show U7 _ _ _ _ _ _ _ _;refine Q8 aL ?_) | (with_reducible show Qs _ _ _ _ _ _;refine V7 aR ?_) | (with_reducible show pick _ _ _ _ _ _;refine B8 ?_) | (with_reducible show Q0 _ _ _ _ _;first | refine X6v au au au au au au au ?_) | (apply Yu;intro hh;(try simp only[hh,reduceIte,↓M2,M2,Mb,reduceIte]))));done)))
 (intros;(repeat (rename_i hx;subst hx)))
 rename_i w2 hb2;refine X6o hb2.sat (hg.lift lesf) hsl0 htf ok hv.2.2.2.1 (Q8X ok p3 m) fun w3 σ3 hk3=>?_;have hk13:=(hb2.stp.trans hk3).weak lef.le;have h3:=h1.up hk13;have hS3:=hk1.trans hk13;have hs3:=hk13.sat;refine Za ?_;cases hf:I5 W1 l cs v (Vp l cs[j].kind m) with
 | false=>
  rw[hf] at hh;simp only[Bool.false_eq_true,if_false] at hh;refine J3 ?_;exact hh _ _ (.of_stp hS3) h3
 | true=>
  rw[hf] at hh;simp only[if_true] at hh;refine Z9 ?_;obtain ⟨b,lv',E,hpe,hbB,hm3,hr3,hE,hD⟩:=h3.ex;obtain ⟨vs,σg,hvl,sg,leg,slg,hrow,hog,hset⟩:=hr3.rows hs3;obtain ⟨σh,sh,leh,lih,_⟩:=(show Y7 σg w3 b _ from ⟨(hog b hE).trans hm3.1,hm3.2⟩).freeze sg
  cases hpe;have slh:=slg.lift leh;have hqh:=(hq.up hk13).lift (leg.more leh);have hjv:j<vs.length:=by rw[hvl];exact hj
  have hjo:j<(Zc vs cs).length:=by rw[Rw hvl];exact hj
  obtain ⟨cs5,p5,_,r5⟩:=slh.el hjo;have eo:(Zc vs cs)[j]=(cs[j].kind,vs[j]):=by simp[Zc]
  rw[eo] at r5;obtain ⟨rfl,_⟩:=r5;refine U9 sh ?_
  (repeat refine X2 Uk ?_)
  (intros;(repeat (rename_i hx;subst hx)))
  rename_i w4 hb4;have hk34:=Stp.of_below hs3 hb4.stp.bel;have N34:Nxt (fun _=>False) w3 σ1 w4 σ1:= .of_stp hk34;obtain ⟨hrj,hrD⟩:=hrow j hjv hj;have hrj4:=hrj.up hk34;have hv1:E4 σ1 v [I v.sort,I v.n,S v.s,I v.ref]:=hv;refine Q5f (w0:=Ae w4) (σ0:=fun _=>none) (x:=v) (Jp hk34.sat) (hrj4.mono (Nat.zero_le B)) hm rfl hv1 (Rep.one hv1) fun p u w5 hkp hb5 hq5=>?_;have hkp5:Kpt (fun k=>vs[j].ownBlock=some k) w3 w5:=(Kpt.of_below hk34.bel).trans hkp;have hr5:=hset j hjv hj _ w5 hkp5 (hq5.raise fun k hk=>(hrj.mem hk).1);have N35:Nxt (fun k=>vs[j].ownBlock=some k) w3 σ1 w5 σ1:=⟨hkp5,SLe.refl _,fun _ _=>rfl,hb5.sat⟩;have hm5:=hm3.nx N35 fun e=>hE (hrD b e);have hsv:T0 cs j m v=cs.set j ⟨cs[j].kind,cs[j].vals.set m v⟩:=by unfold T0;rw[L8 hj,Int.toNat_natCast,Int.toNat_natCast]
  rw[hsv] at hh;have htk:=X3g hj (vals':=cs[j].vals.set m v) U5;refine hh w5 σ1 ((Nxt.of_stp hS3).chain N35 fun k _ e=>(hD k).2 (.inr (hrD k e))) ⟨b,lv',E,rfl,hbB,?_,hr5,hE,hD⟩;rw[htk];exact hm5)
end Go.Proofs.Y
namespace Go.Emb
open Go.RowKit Go.Hm
variable {P : Program} {w : World} {K : Value -> World -> Prop} {σ : Q2}
theorem X7O {α:Type} {R:Q2->α->List Value->Prop} {B sz:Nat} {e:TypeId} {v:Value} {xs ys:List α} {t:TypeId} {d:Nat} {z:Value} [ts:TS P t e] [tz:TZ P e sz d z] (h:V3 B e sz R σ w v (xs++ys))
 (m: ∀f,V3 B e sz R σ w f xs->f.ownBlock=v.ownBlock->K f w):G5 P t v none (some (I xs.length)) none w K:=by
 have j:=h;obtain ⟨a,b,rfl,k,p,n,q⟩:=j;rw[List.length_append] at k;have c:V3 B e sz R σ w (.slice a xs.length b) xs:=h.pre rfl;generalize (xs++ys).length=N at*
 have hh: ∀w:World,(Instr.sliceBounds true N b none (some (I xs.length)) none).run P w= .ok (0,xs.length,b) w:=by
  intro w;have o:(xs.length:Int)<=b:=by omega
  have g:xs.length<=b:=by omega
  simp[Instr.sliceBounds,Instr.sliceBound,asIntOf,g]
  try (intros;omega)
 unfold G5
 have:(Instr.sliceAt t (.slice a N b) none (some (I xs.length)) none).run P w= .ok (.slice (if b=0 then a else a.map (·.add (0*sz))) (xs.length-0) (b-0)) w:=by
  simp[Instr.sliceAt,run_underlying ts.h,Instr.slice,hh,D9 tz]
 rw[Y8 this]
 have i:(if b=0 then a else a.map (·.add (0*sz)))=a:=by
  split
  .rfl
  .cases a<;>simp[add_zero]
 rw[i,Nat.sub_zero,Nat.sub_zero];exact m _ c (by cases a<;>rfl)
end Go.Emb
namespace Go.Proofs.Y
open Go.Emb Go.RowKit Go.Kd Go.Hm
variable {w w' : World} {K : Value -> World -> Prop} {σ σ' : Q2} {hp tv : Value} {room : Int} {cs : List Cel}
theorem X6n {v:Val} {ds:List Value} {n:Int} {q:Addr} (f:X7 w σ) (d:E4 σ v ds) (c:J7 σ q [I n]) (h: ∀w',Below w.heap.size w w'->K (.bool (A6 n v)) w'):Q0 P F.bA [.agg ds.toArray, .pointer (some q)] w K:=Q1w (by
 obtain ⟨rfl,_⟩:=d;unfold Hn Z3 Y1 X4 X5;refine Z1 f fun g w1 σ1 a b=>?_;unfold A6 at h;refine U3 ?_;refine ld a.sat b rfl ?_;refine C8 ?_
 by_cases e:v.sort=4
 .rw[decide_eq_true e] at h⊢
  (try simp only[↓M1,M1,Mb,reduceIte])
  refine ld a.sat b rfl ?_;refine Y6 a.sat (c.up a) rfl ?_
  (try simp only[↓M1,M1,Mb,reduceIte])
  exact h _ a.bel
 .rw[decide_eq_false e] at h⊢
  (try simp only[↓M1,M1,Mb,reduceIte])
  exact h _ a.bel)
theorem X2L {vs:List Value} {c:Cel} (h:vs.length=cs.length+1): ∃v,Zc vs (cs++[c])=Zc (vs.take cs.length) cs++[(c.kind,v)]:=by
 refine ⟨vs[cs.length],?_⟩
 have e:vs=vs.take cs.length++[vs[cs.length]]:=by
  rw[List.take_append_getElem Q4];rw[List.take_of_length_le Q4]
 conv=>lhs;rw[e]
 unfold Zc;rw[List.zipWith_append (by simp;omega)]
 rfl
theorem X82 {B n:Nat} {D:Nat->Prop} {p:Value} {c:Cel} (C:n=cs.length) (h:RowsIs B D σ w p (cs++[c])) (z: ∀a q,RowsIs B q σ w a cs->(∀j,q j->D j)->K a w):G5 P T.g p none (some (I n)) none w K:=by
 subst C;obtain ⟨vs,s,t,A,hD⟩:=h.ex;have b:vs.length=cs.length+1:=by rw[t.1];simp
 obtain ⟨H,u⟩:=X2L (c:=c) b;rw[u] at s;have y:cs.length=(Zc (vs.take cs.length) cs).length:=by rw[Rw (by simp[b])]
 rw[y];refine X7O s fun a o r=>?_;refine z a (fun k=> ∃v∈a::vs.take cs.length,v.ownBlock=some k) ⟨vs.take cs.length,o,⟨by simp[b],fun i E g=>?_⟩,?_,fun k=>Iff.rfl⟩ ?_
 .have m:i<vs.length:=by omega
  have:=t.2 i m (by simp;omega)
  rw[List.getElem_append_left g] at this
  simpa using this
 .obtain ⟨e,f⟩:=List.pairwise_cons.1 A
  exact List.pairwise_cons.2 ⟨fun v hv k d=>e v (List.mem_of_mem_take hv) k (r▸d),f.sublist (List.take_sublist _ _)⟩
 .rintro k ⟨v,hv,d⟩
  rcases List.mem_cons.1 hv with rfl | hv
  .exact (hD k).2 ⟨p,by simp,r▸d⟩
  .exact (hD k).2 ⟨v,by simp[List.mem_of_mem_take hv],d⟩
set_option maxRecDepth 9999 in
set_option maxHeartbeats 2000000 in
theorem X7m {B:Nat} {D:Nat->Prop} {n:Int} (hs:X7 w σ) (h:HeapIs B D σ w hp tv room cs) (hl:U1 cs<=1048576) (hn:Xc n)
 (hh: ∀w' σ' D',Nxt D w σ w' σ'->HeapIs B D' σ' w' hp tv room (Al cs n)->(∀j,D' j->D j)->K (.tuple #[]) w'):Q0 P F.c4 [hp,I n] w K:=Q3I (by
 have hcl:=Xm cs;unfold Cv;simp only[Y5,X3,L1,M9];unfold Y1 V0 V6 Y2 X4 X5;refine Q7E hs fun b0 w1 hb0 hk1 hm1=>?_;have hm1:Y7 σ w1 b0 [I n]:=hm1;refine Nx hm1 rfl ?_;refine X7Y ?_;refine st0 hm1 U5 rfl rfl fun w2 u2 hm2=>?_;have hm2:Y7 σ w2 b0 [I (max n 0)]:=hm2;unfold Al at hh;obtain ⟨m,hmE⟩:=Int.eq_ofNat_of_zero_le (show 0<=max n 0 by omega)
 rw[hmE] at hm2 hh;have hmx:(m:Int)<=9223372036854775807:=by have:=hn.2;omega
 have hk2:Stp w σ w2 σ:=u2.stp hk1 hb0 hm1.1;obtain ⟨σ2,hS2,hq2,le2,_⟩:=hm2.keep hk2 hb0;have h2:=h.up hS2;have hs2:=hS2.sat;obtain ⟨σf,sf,lef,hsl,_⟩:=h2.freeze hs2;rw[Int.toNat_natCast] at hh;obtain ⟨a,lv,rfl,la,ls⟩:=hsl;have hqf:=hq2.le lef.le;refine U9 sf ?_
 (repeat (apply X2;(· intros;(repeat (rename_i hx;subst hx));(repeat' (first | (with_reducible exact Q9 rfl) | (with_reducible exact Qa (Stp.bel (by (repeat (first | exact Stp.refl (by (first | assumption | exact Stp.sat Q7 | exact Hst.sat Q7)) | assumption | refine Stp.trans ?_ (by first | assumption | exact Hst.stp Q7))))) rfl) | (with_reducible intro _) | (simp only[↓M2,M2,Mb,reduceIte]) | (with_reducible refine X7Z ?_) | (with_reducible show Q6 _ _ _ _ _;first | refine Y6 aS aL aR ?_ | refine Z0 aS aL aR ?_ | refine ld aS aL aR ?_) | (with_reducible show indexAddr _ _ _ _ _ _;refine Z5 aL au ?_) | (with_reducible show U7 _ _ _ _ _ _ _ _;refine Q8 aL ?_) | (with_reducible show Qs _ _ _ _ _ _;refine V7 aR ?_) | (with_reducible show pick _ _ _ _ _ _;refine B8 ?_) | (apply Yu;intro hh;(try simp only[hh,reduceIte,↓M2,M2,Mb,reduceIte]))));done)))
 (intros;(repeat (rename_i hx;subst hx)))
 rename_i w3 hb3;have hmin:min (m:Int) (cs.length:Int)=((min m cs.length:Nat):Int):=by omega
 rw[hmin];refine Co ls none (some (I (min m cs.length:Nat))) 0 (min m cs.length) (.inl ⟨rfl,rfl⟩) (.inr rfl) (Nat.zero_le _) (Nat.min_le_right _ _) fun v3 hv3=>?_;rw[List.drop_zero,Nat.sub_zero,List.take_eq_take_min.symm] at hv3;refine Q8 hv3 ?_;have hk23: ∀{w' σ'},Stp w3 σf w' σ'->Stp w2 σ2 w' σ2:=fun hk=>(hb3.stp.trans hk).weak lef.le;refine W0 (cs.take m).length (fun i w'=> ∃σ',Stp w3 σf w' σ'/\((cs.take m).take i).any (fun c=>c.vals.any (A6 m))=false) ⟨σf,Stp.refl hb3.sat,rfl⟩ fun i w4 d hi hinv=>?_;obtain ⟨σ4,hk4,hno⟩:=hinv;refine J0 ?_;refine Q5 (fun hc=>?_) (fun hc=>?_)
 .have hi':i<(cs.take m).length:=by simpa using hc
  have hv4:=hv3.up hk4;obtain ⟨vv,p1,p2,p3⟩:=Sl.elO hv4 hi';refine Z5 hv4 hi' ?_;refine Z0 hk4.sat p1 rfl ?_;refine J1 hk4.sat (by rfl) rfl (Rep.one (R:=Xd) ⟨vv,rfl,p2,p3⟩) fun q5 w5 σ5 hk5 hq5=>?_
  rw[fa];refine ld hk5.sat hq5 rfl ?_;rw[Yk];have hq5f:=hqf.lift (SLe.more ⟨hk4.le⟩ ⟨hk5.le⟩);refine Fe (A6 m) hk5.sat (p2.up hk5) (fun v ds w6 K hv hs6 hr hlen hK=>U0 (first:=[]) (caps:=[.pointer (some ⟨b0,0,none⟩)]) (X6n hs6 hr hq5f hK)) fun w6 hb6=>?_
  have hk6:=(hk4.trans hk5).trans (Stp.of_below hk5.sat hb6);have hnx:=D6 (p:=fun c:Cel=>c.vals.any (A6 m)) hi';cases hany:(cs.take m)[i].vals.any (A6 m) with
  | true=>
   refine J3 ?_;rw[if_pos (I4 hi' hany)] at hh;have hS:=hS2.trans (hk23 hk6);exact hh _ _ D (.of_stp hS) (h.up hS) fun j hj=>hj
  | false=>
   refine Z9 ?_;refine H8 ?_;refine Z6 hv3.max hi' ⟨σ5,hk6,?_⟩;rw[hnx,hno,hany];rfl
 have hi': ¬i<(cs.take m).length:=by simpa using hc
 rw[B0 hi'] at hno;rw[if_neg (by rw[hno];simp)] at hh
 have hS4:=hS2.trans (hk23 hk4);have h4:=h.up hS4;refine Ax (fun k (_:Unit) w'=> ∃D',Nxt D w σ w' σ2/\HeapIs B D' σ2 w' (.pointer (some a)) tv room (cs.take k)/\(∀j,D' j->D j)/\k<=cs.length/\(m<=k\/k=cs.length)) cs.length ⟨D, .of_stp hS4,by rw[List.take_length];exact h4,fun j hj=>hj,Nat.le_refl _, .inr rfl⟩ ?_
 rintro again k x d w5 ⟨D5,N5,h5,hD5,hkl,hmk⟩ hag;have hs5:=N5.sat
 have htk:U1 (cs.take k)<=1048576:=by
  have e:U1 cs=U1 (cs.take k)+U1 (cs.drop k):=by rw[<-Yz,List.take_append_drop]
  have:=R3 (cs.drop k);omega
 obtain ⟨σg,sg,leg,hslg,_⟩:=h5.freeze hs5;obtain ⟨ag,lvg,hpe,lag,lsg⟩:=hslg;cases hpe;have hqg:=(show J7 σ2 ⟨b0,0,none⟩ [I (m:Int)] from hq2).lift leg
 have hlk:(cs.take k).length=k:=by rw[List.length_take];omega
 refine U9 sg ?_
 (repeat refine X2 Uk ?_)
 (intros;(repeat (rename_i hx;subst hx)))
 rename_i w6 hb6;have hk56:Stp w5 σ2 w6 σ2:=hb6.stp.weak leg.le;have h6:=h5.up hk56;have N6:=N5.chain (Nxt.of_stp (D:=fun _=>False) hk56) fun j _ e=>e.elim;rw[hlk];refine Q3x ?_
 by_cases hgt:m<k
 case neg=>
  rw[decide_eq_false (show¬(m:Int)<(k:Int) by omega)]
  refine Z9 ?_
  have e:cs.take m=cs.take k:=by
   rcases hmk with e | e
   .rw[show m=k by omega]
   .rw[e,List.take_length,List.take_of_length_le Q4]
  rw[e] at hh;exact hh w6 σ2 D5 N6 h6 hD5
 rw[decide_eq_true (show (m:Int)<(k:Int) by omega)]
 refine J3 ?_;obtain ⟨k1,rfl⟩: ∃k1,k=k1+1:=⟨k-1,by omega⟩
 have hk1l:k1<cs.length:=by omega
 have esnoc:cs.take (k1+1)=cs.take k1++[cs[k1]]:=by rw[List.take_append_getElem hk1l]
 have hk1t:(cs.take k1).length=k1:=by rw[List.length_take];omega
 obtain ⟨σh,sh,leh,hslh,_⟩:=h6.freeze hk56.sat;obtain ⟨b,lv6,E6,hpb,hbB,hm6,hr6,hE6,hDe6⟩:=h6.ex;cases hpb;obtain ⟨ah,lvh,hpe,lah,lsh⟩:=hslh;cases hpe;rw[H3,fa];refine F9 hm6 rfl ?_;obtain ⟨al,capl,hle⟩:=hr6.len;rw[hlk] at hle;subst hle;rw[Q3n];refine Ux ⟨by omega,by omega⟩ ?_
 have ek:((k1+1:Nat):Int)-1=(k1:Int):=by omega
 rw[ek];have hkk:k1<(cs.take (k1+1)).length:=by omega
 obtain ⟨vvk,pk,pk2,_⟩:=Sl.elO lsh hkk;have evk:((cs.take (k1+1))[k1]'hkk).vals=cs[k1].vals:=by simp
 rw[evk] at pk2;refine U9 sh ?_
 (repeat refine X2 Uk ?_)
 (intros;(repeat (rename_i hx;subst hx)))
 rename_i w7 hb7;have hk67:Stp w6 σ2 w7 σ2:=hb7.stp.weak leh.le;have htn:=R3 (cs.take k1)
 have etk:U1 (cs.take (k1+1))=U1 (cs.take k1)+(1+(cs[k1].vals.length:Int)):=by
  rw[esnoc,Yz];simp[U1]
 rw[A8 Q4 Q4];refine Ux ⟨by omega,by omega⟩ ?_
 have eu:U1 (cs.take (k1+1))-(1+(cs[k1].vals.length:Int))=U1 (cs.take k1):=by omega
 rw[eu];have hm7:=hm6.up hk67;have hr7:=hr6.up hk67;rw[H3,fa];refine Xs hm7 U5 rfl rfl fun w8 u8 hm8=>?_;have N78:=Nxt.of_upd hk67.sat u8 hm7.1;have hr8:=hr7.nx N78 fun j hj e=>hE6 (e▸hj);rw[H3,fa];refine F9 hm8 rfl ?_;rw[esnoc] at hr8;refine X82 hk1t.symm hr8 fun lv9 E9 hr9 hE9=>?_;rw[H3,fa];refine Xs hm8 U5 hr9.shape.1 hr9.shape.2 fun w9 u9 hm9=>?_;have N89:=Nxt.of_upd N78.sat u9 hm8.1;have hE9b: ¬E9 b:=fun e=>hE6 (hE9 b e);have hr9':=hr9.nx N89 fun j hj e=>hE9b (e▸hj);have hDb:D5 b:=(hDe6 b).2 (.inl rfl);have N9:Nxt D w σ w9 σ2:=((N6.chain (Nxt.of_stp (D:=fun _=>False) hk67) fun j _ e=>e.elim).chain N78 fun j _ e=>e▸hD5 b hDb).chain N89 fun j _ e=>e▸hD5 b hDb;refine hag k1 _ _ (Nat.lt_succ_self _) ⟨fun j=>j=b\/E9 j,N9,⟨b,lv9,E9,rfl,hbB,hm9,hr9',hE9b,fun j=>Iff.rfl⟩,fun j hj=>?_,by omega, .inl Q4⟩
 rcases hj with rfl | hj
 .exact hD5 _ hDb
 .exact hD5 j ((hDe6 j).2 (.inr (hE9 j hj))))
end Go.Proofs.Y
namespace Go.Emb
open Go.RowKit Go.Hm
variable {w w' w0 : World} {σ σ' σ0 : Q2}
theorem Nxt.stp' {D:Nat->Prop} (N:Nxt D w σ w' σ') (a:Stp w0 σ0 w σ) (f: ∀k,D k->w0.heap.size<=k):Stp w0 σ0 w' σ':=
 ⟨⟨N.kp.os.trans a.bel.os,N.kp.tape.trans a.bel.tape,N.kp.output.trans a.bel.output,Nat.le_trans a.bel.size N.kp.size,fun k d=>(N.kp.block k (Nat.lt_of_lt_of_le d a.bel.size) fun h=>absurd (f k h) Q4).trans (a.bel.block k d)⟩,N.sat,fun b o e=>N.le.le b o (a.le b o e),fun b c=>(N.old b (Nat.lt_of_lt_of_le c a.bel.size)).trans (a.old b c)⟩
end Go.Emb
namespace Go.Proofs.Y
open Go.Emb Go.RowKit Go.Kd Go.Hm
variable {w : World} {σ : Q2}
theorem RowsIs.nil {B:Nat}:RowsIs B (fun _=>False) σ w (.slice none 0 0) []:=
 ⟨[],V3.of_acc W8.nil,⟨rfl,fun i h=>absurd h (Nat.not_lt_zero i)⟩,List.pairwise_singleton _ _,fun k=>by simp[Value.ownBlock]⟩
variable {K : Value -> World -> Prop} {l : List Cla} {v : Value}
theorem X0K:(Qe l).length=l.length:=by simp[Qe]
theorem X1W {i:Nat} (a:i<(Qe l).length):(Qe l)[i]=(List.range l.length).map fun j=>Zs l (Z4 l i) (Z4 l j):=by simp[Qe]
theorem Sl.elB {xs:List (List Bool)} {v:Value} (h:Sl 1 Q7s σ v xs) {i:Nat} (c:i<xs.length): ∃u,J7 σ (Zw 1 v i) [u]/\Sl 1 Q4G σ u xs[i]:=by
 obtain ⟨cs,a,d,u,rfl,b⟩:=h.el c;exact ⟨u,a,b⟩
theorem Sl.elb {xs:List Bool} {v:Value} (h:Sl 1 Q4G σ v xs) {i:Nat} (c:i<xs.length):J7 σ (Zw 1 v i) [.bool xs[i]]:=by
 obtain ⟨cs,b,d,a⟩:=h.el c;have a:cs=_:=a;subst a;exact b
theorem X60 {a b:X0} (n:X7 w σ) (y:Sl 8 L7 σ v (Q3 l)) (z:Wf l) (ok:Ok (Q3 l)) (E:(Q3 l).length<=1000) (Q:a.length<=V9) (Z:b.length<=V9) (h: ∀w' σ',Stp w σ w' σ'->K (.bool (Ui (Q3 l) a b)) w'):Q0 P F.bT [v,S a,S b] w K:=Q2Q (by
 unfold Sz zhi X6 X4 V2 X5;have o: ∀r,Ui (Q3 l) a b=r->K (.bool r) w:=fun r e=>by rw[<-e];exact h _ _ (Stp.refl n)
 refine Sa n y Q ?_;cases g:H4 (Q3 l) a with
 | false=>
  have O:Ui (Q3 l) a b=false:=by unfold Ui;simp[g]
  (try simp only[↓M1,M1,Mb,reduceIte])
  by_cases e:a=b
  .have f:decide (a=b)=true:=by simpa using e
   simp only[f,↓M1,M1,Mb,reduceIte];refine Sa n y Q ?_;rw[g]
   (try simp only[↓M1,M1,Mb,reduceIte])
   exact o _ O
  .have f:decide (a=b)=false:=by simpa using e
   simp only[f,↓M1,M1,Mb,reduceIte];exact o _ O
 | true=>
 (try simp only[↓M1,M1,Mb,reduceIte])
 refine Sa n y Z ?_;cases k:H4 (Q3 l) b with
 | false=>
  have O:Ui (Q3 l) a b=false:=by unfold Ui;simp[k]
  have f:decide (a=b)=false:=by
   rw[decide_eq_false_iff_not];rintro rfl;rw[g] at k;cases k
  simp only[f,↓M1,M1,Mb,reduceIte];exact o _ O
 | true=>
 (try simp only[↓M1,M1,Mb,reduceIte])
 by_cases e:a=b
 .have f:decide (a=b)=true:=by simpa using e
  simp only[f,↓M1,M1,Mb,reduceIte];refine Sa n y Q ?_;rw[g]
  (try simp only[↓M1,M1,Mb,reduceIte])
  exact o _ (z.sub_iff.2 ⟨g,k, .inl e⟩)
 have f:decide (a=b)=false:=by simpa using e
 simp only[f,↓M1,M1,Mb,reduceIte];refine Ck _ ?_
 have c:(∀(_:plain a=false/\plain b=false/\(a=G0\/(elem a≠[]/\b=W7)\/(lk (Q3 l) a≠none/\Hm.Reach (lk (Q3 l)) a b))),False)->K (.bool false) w:=fun hx=>o _ (eq_false_of_ne_true fun ht=>by
  obtain ⟨_,_,h3⟩:=z.sub_iff.1 ht
  rcases h3 with h3 | h3
  .exact e h3
  .exact hx h3)
 cases t:plain a with
 | true=>(try simp only[↓M1,M1,Mb,reduceIte]);exact c fun hx=>by rw[t] at hx;cases hx.1
 | false=>
 (try simp only[↓M1,M1,Mb,reduceIte])
 refine Ck _ ?_;cases J:plain b with
 | true=>(try simp only[↓M1,M1,Mb,reduceIte]);exact c fun hx=>by rw[J] at hx;cases hx.2.1
 | false=>
 (try simp only[↓M1,M1,Mb,reduceIte])
 by_cases H:b=G0
 .have f:decide (b=[110,117,108,108])=true:=by rw[decide_eq_true_eq];exact H
  simp only[f,↓M1,M1,Mb,reduceIte];refine c fun ⟨_,_,hx⟩=>?_
  rcases hx with hx | ⟨_,hx⟩ | ⟨_,hx⟩
  .exact e (hx.trans H.symm)
  .rw[H] at hx;exact absurd hx L2
  .obtain ⟨d,A⟩:=hx.right
   rw[H,z.none_null] at A;cases A
 have U:decide (b=[110,117,108,108])=false:=by rw[decide_eq_false_iff_not];exact H
 simp only[U,↓M1,M1,Mb,reduceIte]
 by_cases m:a=G0
 .have f:decide (a=[110,117,108,108])=true:=by rw[decide_eq_true_eq];exact m
  simp only[f,↓M1,M1,Mb,reduceIte];exact o _ (z.sub_iff.2 ⟨g,k, .inr ⟨t,J, .inl m⟩⟩)
 have B:decide (a=[110,117,108,108])=false:=by rw[decide_eq_false_iff_not];exact m
 simp only[B,↓M1,M1,Mb,reduceIte]
 by_cases L:b=W7
 .have f:decide (b=[79,98,106,101,99,116])=true:=by rw[decide_eq_true_eq];exact L
  simp only[f,↓M1,M1,Mb,reduceIte];exact o _ (by rw[L];exact z.sub_root g t)
 have V:decide (b=[79,98,106,101,99,116])=false:=by rw[decide_eq_false_iff_not];exact L
 simp only[V,↓M1,M1,Mb,reduceIte];refine Qk n y ?_;refine Qk n y ?_;refine Qd ?_;rw[Xt];cases p:J6 (Q3 l) a with
 | none=>
  simp only[Option.isSome_none,↓M1,M1,Mb,reduceIte];refine c fun ⟨_,_,hx⟩=>?_
  rcases hx with hx | ⟨_,hx⟩ | ⟨hx,_⟩
  .exact m hx
  .exact L hx
  .exact hx (by unfold lk;rw[p];rfl)
 | some i=>
 simp only[Option.isSome_some,↓M1,M1,Mb,reduceIte];cases C:J6 (Q3 l) b with
 | none=>
  simp only[Xt,Option.isSome_none,↓M1,M1,Mb,reduceIte];refine c fun ⟨_,_,hx⟩=>?_
  rcases hx with hx | ⟨_,hx⟩ | ⟨_,hx⟩
  .exact m hx
  .exact L hx
  .obtain ⟨d,A⟩:=hx.right
   unfold lk at A;rw[C] at A;cases A
 | some j=>
 obtain ⟨hi,W⟩:=I0 p;obtain ⟨hj,X⟩:=I0 C;simp only[Xt,Option.isSome_some,↓M1,M1,Mb,reduceIte];simp only[E7];refine Q31 n y z.own Q4 E ok.sm fun v1 w1 σ1 s N=>?_;have q:i<(Qe (Q3 l)).length:=by rw[X0K];exact hi
 refine Z5 N q ?_;obtain ⟨u,p1,Y⟩:=Sl.elB N q;refine Y6 s.sat p1 rfl ?_;rw[X1W q] at Y;have D:j<((List.range (Q3 l).length).map fun j=>Zs (Q3 l) (Z4 (Q3 l) i) (Z4 (Q3 l) j)).length:=by simpa using hj
 refine Z5 Y D ?_;refine Y6 s.sat (Sl.elb Y D) rfl ?_
 (try simp only[↓M1,M1,Mb,reduceIte])
 simp only[List.getElem_map,List.getElem_range,W,X]
 have M:Ui (Q3 l) a b=Zs (Q3 l) a b:=by
  obtain ⟨ca,R,_⟩:=Uu p;rw[Bool.eq_iff_iff,z.sub_class R,Wu,Q30];constructor
  .rintro (⟨hx,_⟩ | hx)
   .exact absurd hx e
   .exact hx
  .exact .inr
 rw[<-M];exact h _ _ s)
end Go.Proofs.Y
namespace Go.Emb
open Go.RowKit Go.Hm
def H5 (σ:Q2) (x:List Cla×Int×List Cel) (ds:List Value):Prop:= ∃b a,ds=[b,I x.2.1,a]/\Sl 8 L7 σ b x.1/\Sl 2 Xd σ a x.2.2
instance:Rep H5:=⟨fun hk ⟨lv,cv,h1,h2,h3⟩=>⟨lv,cv,h1,h2.le hk,h3.le hk⟩,fun ⟨lv,cv,h1,h2,h3⟩ u hu=>by
 rw[h1] at hu;simp at hu;rcases hu with rfl | rfl | rfl
 .exact Xz h2
 .rfl
 .exact Xz h3⟩
theorem O8 {σ σ':Q2} {x:List Cla×Int×List Cel} {cs:List Value} (h:H5 σ x cs) (k:SLe σ σ'):H5 σ' x cs:=Rep.up k.le h
theorem H5.out {σ:Q2} {l:List Cla} {room:Int} {cs:List Cel} {ds:List Value} (h:H5 σ (l,room,cs) ds): ∃b a,ds=[b,I room,a]/\Sl 8 L7 σ b l/\Sl 2 Xd σ a cs:=h
end Go.Emb
namespace Go.Proofs.Y
open Go.Emb Go.RowKit Go.Kd Go.Hm
variable {w w' : World} {K : Value -> World -> Prop} {σ σ' : Q2} {ds : List Value} {room : Int} {cs : List Cel} {l : List Cla}
theorem X2Y {k:X0} (O:X7 w σ) (h: ∀w' σ',Stp w σ w' σ'->K (.agg [I (H2 k).sort,I (H2 k).n,S (H2 k).s,I (H2 k).ref].toArray) w'):Q0 P F.aU [S k] w K:=Q1O (by
 unfold Rf;simp only[M9];unfold V2;refine O7 O fun b w1 σ1 W t v=>?_;have hB:=C2 W (Stp.refl O);refine M6 (cells:= #[I 0,I 0,S [],I 0]) X8 ?_;refine O7 t.sat fun A w2 M D u y=>?_;have C:=t.trans u;have j:=C2 D t;have o:b≠A:=by have:=v.lt;omega
 refine Ma (ds:=[I 0,I 0,S [],I 0]) y rfl rfl (by rw[List.all_toArray];exact List.all_eq_true.2 Cm) fun Z Q a=>?_
 have m:=Q.stp C j y.1;have c:=(v.up u).upd Q o
 have g: ∀(n:Int) (f:World),Y7 M f A [I n,I 0,S [],I 0]->Y7 M f b [I 0,I 0,S [],I 0]->Stp w σ f M->(∀w' σ',Stp w σ w' σ'->K (.agg [I n,I 0,S [],I 0].toArray) w')->Q6 P T.e (.pointer (some ⟨A,0,none⟩)) f fun L w=>
  J9 P T.e (.pointer (some ⟨b,0,none⟩)) L w fun _u w=>
  Z8 P T.e (.pointer (some ⟨b,0,none⟩)) w fun Y=>K Y w:=fun n f r p V U=>
  Cr r rfl (A9 p V hB rfl rfl Cm fun w5 E H=>W9 H rfl (U _ _ E.stp))
 have R:decide (k=[105,110,116])=decide (k=Yh):=rfl;have N:decide (k=[98,111,111,108])=decide (k=Vl):=rfl;have B:decide (k=[116,101,120,116])=decide (k=B3):=rfl;unfold H2 at h;refine L9 ?_;refine Xb ?_;rw[R]
 by_cases p:k=Yh
 .simp only[if_pos p] at h
  have X:decide (k=Vl)=false:=by subst p;decide
  have J:decide (k=B3)=false:=by subst p;decide
  rw[decide_eq_true p];refine J3 ?_;refine U3 ?_;refine Xs (i:=0) a U5 rfl rfl fun f q e=>?_;intro d;refine L9 ?_;refine Xb ?_;rw[N,X];refine Z9 ?_;intro d;refine L9 ?_;refine Xb ?_;rw[B,J];refine Z9 ?_;intro d;exact g 1 f e (c.upd q o) (q.stp m j a.1) h
 simp only[if_neg p] at h;rw[decide_eq_false p];refine Z9 ?_;intro d;refine L9 ?_;refine Xb ?_;rw[N]
 by_cases r:k=Vl
 .simp only[if_pos r] at h
  have J:decide (k=B3)=false:=by subst r;decide
  rw[decide_eq_true r];refine J3 ?_;refine U3 ?_;refine Xs (i:=0) a U5 rfl rfl fun f q e=>?_;intro d;refine L9 ?_;refine Xb ?_;rw[B,J];refine Z9 ?_;intro d;exact g 2 f e (c.upd q o) (q.stp m j a.1) h
 simp only[if_neg r] at h;rw[decide_eq_false r];refine Z9 ?_;intro d;refine L9 ?_;refine Xb ?_;rw[B]
 by_cases z:k=B3
 .simp only[if_pos z] at h
  rw[decide_eq_true z];refine J3 ?_;refine U3 ?_;refine Xs (i:=0) a U5 rfl rfl fun f q e=>?_;intro d;exact g 3 f e (c.upd q o) (q.stp m j a.1) h
 .simp only[if_neg z] at h
  rw[decide_eq_false z];refine Z9 ?_;intro d;exact g 0 Z a c m h)
theorem X2W (o:X7 w σ) (hh:H5 σ (l,room,cs) ds) (k:0<=O5 room cs) (v:room<=1048576) (h: ∀w' σ',Stp w σ w' σ'->K (I (O5 room cs)) w'):Q0 P F.aT [.agg ds.toArray] w K:=Q1N (by
 obtain ⟨D,s,rfl,B,m⟩:=H5.out hh;unfold Re Y1 Y2 X4 X5;refine Z1 o fun q w1 σ1 g j=>?_;have c:=g.sat;have b:=m.up g;refine U3 ?_;refine ld c j rfl ?_;unfold O5 at h k;refine B7 cs.length (fun n x w'=>w'=w1/\x=I (room-U1 (cs.take n))) ⟨rfl,by simp[U1]⟩ fun n x J d C i=>?_
 obtain ⟨rfl,rfl⟩:=i;have e:U1 cs=U1 (cs.take n)+U1 (cs.drop n):=by rw[<-Yz,List.take_append_drop]
 have y:=R3 (cs.take n);have z:=R3 (cs.drop n);refine U3 ?_;refine ld c j rfl ?_;refine Q8 b ?_;refine J0 ?_;refine Q5 (fun f=>?_) (fun f=>?_)
 .have a:n<cs.length:=by simpa using f
  obtain ⟨H,p,r,E⟩:=Sl.elO b a;refine U3 ?_;refine ld c j rfl ?_;refine Z5 b a ?_;refine U3 ?_;refine ld c p rfl ?_;refine Q8 r ?_
  have t:U1 (cs.drop n)=(1+(cs[n].vals.length:Int))+U1 (cs.drop (n+1)):=by
   rw[List.drop_eq_getElem_cons a];simp only[U1,List.map_cons,List.sum_cons]
  have A:=R3 (cs.drop (n+1))
  have u:U1 (cs.take (n+1))=U1 (cs.take n)+(1+(cs[n].vals.length:Int)):=by
   rw[List.take_add_one,List.getElem?_eq_getElem a,Yz];simp[U1]
  refine Yl ⟨by omega,by omega⟩ ?_
  refine Ux ⟨by omega,by omega⟩ ?_
  refine H8 ?_;refine V1 b.max a ⟨rfl,?_⟩
  congr 1;omega
 .have a: ¬n<cs.length:=by simpa using f
  rw[List.take_of_length_le Q4];exact h _ _ g)
theorem X2X {n:X0} {j:Value} (g:X7 w σ) (e:Sl 8 L7 σ j l) (h:K (.bool (Xy l n)) w):Q0 P F.ba [j,S n] w K:=Pi (by
 unfold My Z3 X6 X4;refine Qk g e ?_;refine Qd ?_;rw[Xt];unfold Xy at h;cases b:lk l n with
 | none=>
  rw[b] at h;rw[find_none b];simp only[Option.isSome_none,↓M1,M1,Mb,reduceIte];exact h
 | some c=>
  rw[b] at h;obtain ⟨_,_,i,o,f⟩:=O4 b;obtain ⟨a,d⟩:=List.getElem?_eq_some_iff.1 f;obtain ⟨p,m,q,k,_⟩:=e.elC a;rw[d] at k;rw[o];simp only[Option.isSome_some,E7,↓M1,M1,Mb,reduceIte];refine Z5 e a ?_
  (try simp only[↓M1,M1,Mb,reduceIte])
  refine ld g k rfl ?_
  (try simp only[↓M1,M1,Mb,reduceIte])
  exact h)
theorem X0l {r i:Int} (t:X7 w σ) (hh:H5 σ (l,room,cs) ds) (h: ∀w' σ',Stp w σ w' σ'->K (I (C3 cs r i)) w'):Q0 P F.aK [.agg ds.toArray,I r,I i] w K:=Q0Q (by
 obtain ⟨A,y,rfl,z,c⟩:=H5.out hh;unfold En Z3 X6 Y2 X4 X5;refine Z1 t fun q w1 σ1 a p=>?_;have d:=a.sat;have k:=c.up a;refine J0 ?_;unfold C3 at h
 have b:O9 cs r=false->K (I 92) w1:=fun e=>by
  have:=h _ _ a;rw[e] at this;exact this
 by_cases m:r<0
 .rw[decide_eq_true m]
  (try simp only[↓M1,M1,Mb,reduceIte])
  exact b (by simp only[O9,Bool.and_eq_false_iff,decide_eq_false_iff_not];left;omega)
 rw[decide_eq_false m]
 (try simp only[↓M1,M1,Mb,reduceIte])
 refine ld d p rfl ?_;refine Q8 k ?_;refine Qd ?_
 (try simp only[↓M1,M1,Mb,reduceIte])
 by_cases n:(cs.length:Int)<=r
 .rw[decide_eq_true n]
  refine J3 ?_;exact b (by simp only[O9,Bool.and_eq_false_iff,decide_eq_false_iff_not];right;omega)
 rw[decide_eq_false n];refine Z9 ?_;have s:O9 cs r=true:=by simp only[O9,Bool.and_eq_true,decide_eq_true_eq];omega
 obtain ⟨j,rfl,g⟩:=M3.1 s;rw[s,L8 g] at h;obtain ⟨B,u,v,_⟩:=Sl.elO k g
 by_cases o:i<0
 .rw[decide_eq_true o]
  (try simp only[↓M1,M1,Mb,reduceIte])
  have:=h _ _ a;rw[if_pos rfl,if_neg Q4] at this;exact this
 .rw[decide_eq_false o]
  (try simp only[↓M1,M1,Mb,reduceIte])
  refine ld d p rfl ?_;refine Z5 k g ?_
  (try simp only[↓M1,M1,Mb,reduceIte])
  refine ld d u rfl ?_;refine Q8 v ?_;refine Qd ?_
  (try simp only[↓M1,M1,Mb,reduceIte])
  have f:=h _ _ a;refine Q5 (fun c=>?_) (fun c=>?_)
  .have c:(cs[j].vals.length:Int)<=i:=by simpa using c
   rw[if_pos rfl,if_neg Q4] at f;exact f
  .have c: ¬(cs[j].vals.length:Int)<=i:=by simpa using c
   rw[if_pos rfl,if_pos Q4] at f;exact f)
theorem X7L {r i:Int} (M:X7 w σ) (hh:H5 σ (l,room,cs) ds) (h: ∀w' σ',Stp w σ w' σ'->K (.tuple #[.agg [I (Md cs r i).sort,I (Md cs r i).n,S (Md cs r i).s,I (Md cs r i).ref].toArray,I (C3 cs r i)]) w'):Q0 P F.bW [.agg ds.toArray,I r,I i] w K:=Q2V (by
 have y:=hh;obtain ⟨W,U,rfl,V,L⟩:=H5.out hh;unfold Ce Y1 V0 X4;refine Z1 M fun q w0 σ0 g C=>?_;refine O7 g.sat fun b w1 σ1 J a B=>?_;have t:=g.trans a;have hB:=C2 J g;have v:=C.up a;refine Z0 a.sat v rfl ?_;refine X0l a.sat (O8 y ⟨t.le⟩) fun Y Z c=>?_;have d:=t.trans c;have o:=c.sat;have u:=B.up c;have D:=v.up c;refine Xn ?_;unfold Md at h
 by_cases p:C3 cs r i=0
 .have e:decide (C3 cs r i=0)=true:=decide_eq_true p
  rw[if_pos p,p] at h;simp only[e,Bool.not_true,↓M1,M1,Mb,reduceIte];obtain ⟨j,m,rfl,rfl,z,A⟩:=Ow p;rw[L8 z,Int.toNat_natCast] at h;have E:=L.up d;obtain ⟨X,N,H,_⟩:=Sl.elO E z;obtain ⟨O,Q⟩:=Sl.elV H A;refine ld o D rfl ?_;refine Z5 E z ?_
  (try simp only[↓M1,M1,Mb,reduceIte])
  refine ld o N rfl ?_;refine Z5 H A ?_;refine Z0 o O rfl ?_;refine A9 u d hB rfl rfl (Rep.one Q) fun R f k=>?_;refine W9 k rfl ?_;have e:cs[j].vals.getD m Val.zero=cs[j].vals[m]:=by rw[List.getD_eq_getElem?_getD,List.getElem?_eq_getElem A];rfl
  rw[e] at h;exact h _ _ f.stp
 .have e:decide (C3 cs r i=0)=false:=by simpa using p
  rw[if_neg p] at h;simp only[e,Bool.not_false,↓M1,M1,Mb,reduceIte];refine M6 (cells:= #[I 0,I 0,S [],I 0]) X8 ?_;refine A9 (ds:=[I 0,I 0,S [],I 0]) u d hB rfl rfl Cm fun R f k=>?_;refine W9 k rfl ?_;exact h _ _ f.stp)
theorem X75 (s:X7 w σ) (hh:H5 σ (l,room,cs) ds) (ok:Ok l) (f:l.length<=1000) {k:X0} {u:Value} {i:Nat} (p:k.length<=V9) (j:elem k=[]->i<(U4 l k).length)
 (h: ∀w' σ',Stp w σ w' σ'->K (S (Vp l k i)) w'):Q0 P F.bG [.agg ds.toArray, .agg [S k,u].toArray,I i] w K:=Q1P (by
 obtain ⟨z,v,rfl,r,y⟩:=H5.out hh;unfold Rh Y1 V2;refine Z1 s fun A w0 σ0 c m=>?_;refine Z1 c.sat fun q w1 σ1 a n=>?_;have b:=c.trans a;refine U3 ?_;refine ld (i:=0) a.sat n rfl ?_;refine X4f k (Nat.le_trans p L2) ?_;refine Vs ?_;unfold Vp at h
 by_cases e:elem k=[]
 .simp only[if_pos e] at h
  rw[decide_eq_true e]
  (try simp only[↓M1,M1,Mb,reduceIte])
  refine ld (i:=0) a.sat (m.up a) rfl ?_;refine ld (i:=0) a.sat n rfl ?_;refine Q0T a.sat (r.up b) ok.acy f ok.sm fun B C D d g=>?_;refine Z5 g (j e) ?_;obtain ⟨t,_⟩:=g.elF (j e)
  (try simp only[↓M1,M1,Mb,reduceIte])
  refine ld d.sat t rfl ?_;have o:(U4 l k).getD i Fld.zero=(U4 l k)[i]'(j e):=by rw[List.getD_eq_getElem?_getD,List.getElem?_eq_getElem (j e)];rfl
  rw[o] at h;exact h _ _ (b.trans d)
 .simp only[if_neg e] at h
  rw[decide_eq_false e]
  (try simp only[↓M1,M1,Mb,reduceIte])
  exact h _ _ b)
theorem X7A {ok:X0->Bool} {b d:Int} {c:X0}:Qb ok cs ⟨0,b,c,d⟩=if b=0/\c=[]/\d=0 then G0 else []:=by
 simp[Qb,Val.zero]
theorem X7B {ok:X0->Bool} {b d:Int} {c:X0}:Qb ok cs ⟨1,b,c,d⟩=if c=[]/\d=0 then Yh else []:=by
 simp[Qb,Val.zero]
theorem X7C {ok:X0->Bool} {b d:Int} {c:X0}:Qb ok cs ⟨2,b,c,d⟩=if (c=[]/\d=0)/\(b=0\/b=1) then Vl else []:=by
 simp[Qb,Val.zero]
theorem X7D {ok:X0->Bool} {b d:Int} {c:X0}:Qb ok cs ⟨3,b,c,d⟩=if (b=0/\d=0)/\ok c=true then B3 else []:=by
 simp[Qb,Val.zero]
theorem X7E {ok:X0->Bool} {b d:Int} {c:X0}:Qb ok cs ⟨4,b,c,d⟩=if b=0/\c=[] then W4 cs d else []:=by
 simp[Qb,Val.zero]
theorem X7F {ok:X0->Bool} {a b d:Int} {c:X0} (e:a≠0) (f:a≠1) (g:a≠2) (h:a≠3) (i:a≠4):Qb ok cs ⟨a,b,c,d⟩=[]:=by
 simp[Qb,Val.zero,e,f,g,h,i]
set_option maxHeartbeats 2000000 in
theorem X8h {v:Val} (hs:X7 w σ) (hh:H5 σ (l,room,cs) ds) (hb:v.s.length<=V9) (h: ∀w' σ',Stp w σ w' σ'->K (S (Qb W1 cs v)) w'):Q0 P F.c7 [.agg ds.toArray, .agg [I v.sort,I v.n,S v.s,I v.ref].toArray] w K:=Q3O (by
 obtain ⟨lv,cv,rfl,hl,hc⟩:=H5.out hh;unfold Bb Z3 Y1 X6 Y2 X4 V2 X5;refine Z1 hs fun q0 w0 σ0 L C=>?_;refine Z1 L.sat fun q w1 σ1 E t=>?_;have f:=L.trans E;have g:=E.sat;have C:=C.up E;have Z:=hc.up f
 have k: ∀{w2:World} {σ2:Q2} {x:X0},Stp w σ w2 σ2->Qb W1 cs v=x->K (S x) w2:=fun hS e=>by
  have:=h _ _ hS;rw[e] at this;exact this
 obtain ⟨a,b,c,d⟩:=v;simp only at hb t;have M: ∀r,O9 cs r=false->W4 cs r=[]:=fun r e=>by unfold W4;rw[e];rfl
 refine U3 ?_;refine ld g t rfl ?_;refine C8 ?_
 have B: ∀{A:Value->World->Prop},(∀p:Bool,p=(decide (d=0)&&decide (c=[]))->A (.bool p) w1)->Q1 (.bool (decide (d=0))) true w1 (fieldAddr P T.e (.pointer (some q)) 2) (fun aa w=>
  Q1 (.bool (decide (d=0))) true w (Q6 P T.c aa) fun ab w=>
  Q1 (.bool (decide (d=0))) true w (Z2 P .eql T.c (.tmp 11) (.const (.string ⟨#[]⟩)) ab (.string ⟨#[]⟩)) fun ac w=>
  pick P (.bool (decide (d=0))) ac (.bool false) w A):=fun {A} hA=>by
  cases hd:decide (d=0) with
  | false=>(try simp only[↓M1,M1,Mb,reduceIte]);exact hA false (by simp[hd])
  | true=>
   (try simp only[↓M1,M1,Mb,reduceIte])
   refine ld g t rfl ?_
   (try simp only[↓M1,M1,Mb,reduceIte])
   exact hA _ (by simp[hd])
 refine B fun p hp=>?_;refine Zq (fun _ w'=>Stp w σ w' σ1/\Qb W1 cs ⟨a,b,c,d⟩=[]) ?_ (fun _ d' w' hz=>k hz.1 hz.2);refine U3 ?_;refine ld (i:=0) g t rfl ?_;refine C8 ?_;have z:(p=true)↔(c=[]/\d=0):=by rw[hp];simp[and_comm]
 have H:p=false-> ¬(c=[]/\d=0):=fun e h=>by rw[z.2 h] at e;cases e
 by_cases Q:a=0
 .subst Q
  rw[X7A] at*;rw[decide_eq_true rfl];refine J3 ?_;cases o:p with
  | false=>
   (try simp only[↓M1,M1,Mb,reduceIte])
   exact ⟨f,if_neg fun e=>H o e.2⟩
  | true=>
   have y:=z.1 o
   (try simp only[↓M1,M1,Mb,reduceIte])
   refine ld g t rfl ?_
   (try simp only[↓M1,M1,Mb,reduceIte])
   by_cases m:b=0
   .rw[decide_eq_true m]
    (try simp only[↓M1,M1,Mb,reduceIte])
    exact k f (if_pos ⟨m,y⟩)
   .rw[decide_eq_false m]
    (try simp only[↓M1,M1,Mb,reduceIte])
    exact ⟨f,if_neg fun e=>m e.1⟩
 rw[decide_eq_false Q];refine Z9 ?_;refine C8 ?_
 by_cases R:a=1
 .subst R
  rw[X7B] at*;rw[decide_eq_true rfl];refine J3 ?_;cases o:p with
  | false=>exact Z9 ⟨f,if_neg (H o)⟩
  | true=>exact J3 (k f (if_pos (z.1 o)))
 rw[decide_eq_false R];refine Z9 ?_;refine C8 ?_
 by_cases U:a=2
 .subst U
  rw[X7C] at*;rw[decide_eq_true rfl];refine J3 ?_;cases o:p with
  | false=>
   (try simp only[↓M1,M1,Mb,reduceIte])
   exact ⟨f,if_neg fun e=>H o e.1⟩
  | true=>
   have y:=z.1 o
   (try simp only[↓M1,M1,Mb,reduceIte])
   refine ld g t rfl ?_
   (try simp only[↓M1,M1,Mb,reduceIte])
   by_cases m:b=0
   .rw[decide_eq_true m]
    (try simp only[↓M1,M1,Mb,reduceIte])
    exact k f (if_pos ⟨y, .inl m⟩)
   .rw[decide_eq_false m]
    (try simp only[↓M1,M1,Mb,reduceIte])
    refine ld g t rfl ?_
    (try simp only[↓M1,M1,Mb,reduceIte])
    by_cases N:b=1
    .rw[decide_eq_true N]
     (try simp only[↓M1,M1,Mb,reduceIte])
     exact k f (if_pos ⟨y, .inr N⟩)
    .rw[decide_eq_false N]
     (try simp only[↓M1,M1,Mb,reduceIte])
     exact ⟨f,if_neg fun e=>e.2.elim m N⟩
 rw[decide_eq_false U];refine Z9 ?_;refine C8 ?_
 by_cases V:a=3
 .subst V
  rw[X7D] at*;rw[decide_eq_true rfl];refine J3 ?_;refine U3 ?_;refine ld g t rfl ?_;refine C8 ?_
  by_cases m:b=0
  case neg=>
   rw[decide_eq_false m]
   (try simp only[↓M1,M1,Mb,reduceIte])
   exact ⟨f,if_neg fun e=>m e.1.1⟩
  rw[decide_eq_true m]
  (try simp only[↓M1,M1,Mb,reduceIte])
  refine ld g t rfl ?_
  (try simp only[↓M1,M1,Mb,reduceIte])
  by_cases u:d=0
  case neg=>
   rw[decide_eq_false u]
   (try simp only[↓M1,M1,Mb,reduceIte])
   exact ⟨f,if_neg fun e=>u e.1.2⟩
  rw[decide_eq_true u]
  (try simp only[↓M1,M1,Mb,reduceIte])
  refine ld g t rfl ?_;refine Aa Y9 ?_;refine Q7r ?_
  by_cases D:c.length<=4096
  case neg=>
   rw[decide_eq_false (show¬(c.length:Int)<=4096 by omega)]
   (try simp only[↓M1,M1,Mb,reduceIte])
   exact ⟨f,if_neg fun e=>D (by have:=e.2;simp only[W1,Bool.and_eq_true,decide_eq_true_eq] at this;exact this.1)⟩
  rw[decide_eq_true (show (c.length:Int)<=4096 by omega)]
  (try simp only[↓M1,M1,Mb,reduceIte])
  refine ld g t rfl ?_;refine Q6R hb g fun w2 X=>?_;have J:=f.trans (Stp.of_below g X);cases hv:Lib.validD c with
  | true=>
   (try simp only[↓M1,M1,Mb,reduceIte])
   exact k J (if_pos ⟨⟨m,u⟩,by simp[W1,hv,D]⟩)
  | false=>
   (try simp only[↓M1,M1,Mb,reduceIte])
   exact ⟨J,if_neg fun e=>by have:=e.2;simp[W1,hv] at this⟩
 rw[decide_eq_false V];refine Z9 ?_;refine C8 ?_
 by_cases W:a=4
 case neg=>
  rw[decide_eq_false W];exact Z9 ⟨f,X7F Q R U V W⟩
 subst W;rw[X7E] at*;rw[decide_eq_true rfl];refine J3 ?_;refine U3 ?_;refine ld g t rfl ?_;refine C8 ?_
 by_cases m:b=0
 case neg=>
  rw[decide_eq_false m]
  (try simp only[↓M1,M1,Mb,reduceIte])
  exact ⟨f,if_neg fun e=>m e.1⟩
 rw[decide_eq_true m]
 (try simp only[↓M1,M1,Mb,reduceIte])
 refine ld g t rfl ?_
 (try simp only[↓M1,M1,Mb,reduceIte])
 by_cases D:c=[]
 case neg=>
  rw[decide_eq_false D]
  (try simp only[↓M1,M1,Mb,reduceIte])
  exact ⟨f,if_neg fun e=>D e.2⟩
 rw[decide_eq_true D]
 (try simp only[↓M1,M1,Mb,reduceIte])
 refine ld g t rfl ?_;refine Qd ?_;rw[if_pos ⟨m,D⟩] at*
 by_cases u:0<=d
 case neg=>
  rw[decide_eq_false u]
  (try simp only[↓M1,M1,Mb,reduceIte])
  exact ⟨f,M d (by simp[O9,u])⟩
 rw[decide_eq_true u]
 (try simp only[↓M1,M1,Mb,reduceIte])
 refine ld g t rfl ?_;refine ld g C rfl ?_;refine Q8 Z ?_;refine J0 ?_
 (try simp only[↓M1,M1,Mb,reduceIte])
 by_cases O:d<(cs.length:Int)
 case neg=>
  rw[decide_eq_false O];exact Z9 ⟨f,M d (by simp[O9,O])⟩
 rw[decide_eq_true O];refine J3 ?_;obtain ⟨j,rfl,Y⟩:=M3.1 (show O9 cs d=true by simp[O9,u,O])
 obtain ⟨vv,p1,p2,_⟩:=Sl.elO Z Y;refine ld g C rfl ?_;refine ld g t rfl ?_;refine Z5 Z Y ?_
 (try simp only[↓M1,M1,Mb,reduceIte])
 refine ld g p1 rfl ?_;exact k f (Qr Y))
end Go.Proofs.Y
namespace Go.Emb
open Go.RowKit Go.Hm
variable {α : Type} {P : Program} {R R' : Q2 -> α -> List Value -> Prop} {sz : Nat} {e : TypeId} {σ σ0 σ' : Q2} {v u : Value} {xs ys : List α} {w w0 w' : World} {K : Value -> World -> Prop}
theorem X3q {t B:TypeId} {p:Nat} {z:Value} {cs:List Bool} [ts:TS P t e] [tz:TZ P e sz p z] [hr:Rep R] [hr':Rep R'] (D:Stp w0 σ0 w σ) (ha:W8 w0.heap.size e sz R σ w v xs) (M:X7 w σ') (W:Sl sz R' σ' u ys) (hR: ∀x cs,R' σ' x cs->R σ x cs) (O:(z.cells.size==sz&&decide (0<sz))=true)
 (hb:(xs.length+ys.length)*p<=140737488355328) (hm:xs.length+ys.length<=9223372036854775807)
 (h: ∀f w',w.grownBy w' v.ownBlock->Stp w0 σ0 w' σ->W8 w0.heap.size e sz R σ w' f (xs++ys)->(f.ownBlock=v.ownBlock\/ ∀k,f.ownBlock=some k->w.heap.size<=k)->K f w'):U7 P .append [t,t] B cs [v,u] w K:=by
 obtain ⟨cells,y,U,h3⟩:=ha;obtain ⟨a,m,c,rfl,X,Y,n3,n4,n5⟩:=W.cells M;obtain ⟨i,J,N,E,s⟩:=tz.info
 have q: ∀f w',(Builtin.append_ #[t,t] B #[v, .slice a ys.length m]).run P w= .ok f w'->w'.ownsRow w0.heap.size e sz f (xs.length+ys.length) (cells++c)->w.grownBy w' v.ownBlock->(f.ownBlock=v.ownBlock\/f.ownBlock=some w.heap.size)->U7 P .append [t,t] B cs [v, .slice a ys.length m] w K:=by
  intro f w' A d n hat
  have r:(builtin .append #[t,t] B cs.toArray #[v, .slice a ys.length m]).run P w= .ok (.value f) w':=by
   simp[builtin,A]
  unfold U7;rw[Ye];unfold Xk;rw[r];refine h f w' n (Stp.turn n D fun k o=>⟨(y.lt k o).1,U k o⟩) ⟨cells++c,by rw[List.length_append];exact d,?_,?_⟩ ?_
  .intro k o
   rcases hat with hat | hat
   .exact U k (hat▸o)
   .rw[hat] at o;cases o;exact D.sat.none (Nat.le_refl _)
  .intro j x C
   by_cases V:j<xs.length
   .rw[List.getElem?_append_left V] at C
    rw[Nv cells c xs.length j y.1 V];exact h3 j x C
   .rw[List.getElem?_append_right Q4] at C
    have:=hR _ _ (n5 _ _ C);rw[show j*sz=cells.length+(j-xs.length)*sz by rw[y.1,<-Nat.add_mul];congr 1;omega,List.drop_append]
    simpa [List.drop_eq_nil_of_le] using this
  .rcases hat with hat | hat
   .exact .inl hat
   .right;intro k o;rw[hat] at o;cases o;exact Nat.le_refl _
 simp only[Bool.and_eq_true,beq_iff_eq,decide_eq_true_eq] at O;cases a with
 | some b=>
  obtain ⟨f,w',g1,g2,g3,_,g5⟩:=run_append_own_at (P:=P) w w0.heap.size t B e i z sz p ts.h J s N E O.1 O.2 v xs.length cells y b ys.length m c Y (n3 b rfl) n4 (by simp only[maxLen];omega) hb D.bel.size
  exact q f w' g1 g2 g3 g5
 | none=>
  have hy:ys=[]:=List.eq_nil_of_length_eq_zero (by obtain ⟨a',Q,e',q1,_,q3,_⟩:=W;injection e' with _ e2 e3;have:=X rfl;subst e3;omega)
  have H:=X rfl;subst hy H;have hn:c=[]:=List.eq_nil_of_length_eq_zero (by simpa using Y)
  subst hn;have d:=y
  rcases y.2 with ⟨rfl,h0⟩ | ⟨g,m,Z,rfl,ak,hg,L,_⟩
  .refine q (.slice none 0 0) w ?_ (by simpa using d) (World.grownBy.refl w _) (.inl rfl)
   simp[Builtin.append_,run_underlying ts.h,sizeOf,typeInfo,J,Builtin.lenOf,Builtin.firstCells]
  .refine q _ w ?_ (by simpa using d) (World.grownBy.refl w _) (.inl rfl)
   simp[Builtin.append_,run_underlying ts.h,sizeOf,typeInfo,J,Builtin.lenOf,Builtin.firstCells,L,storeCells]
def Q7t {α:Type} (c:α) (ds:List Value) (_:Q2) (x:α) (cs:List Value):Prop:=x=c/\cs=ds/\ ∀u∈ds,u.oneCell'=true
instance {α:Type} (c:α) (ds:List Value):Rep (Q7t c ds):=⟨fun _ h=>h,fun h u hu=>h.2.2 u (h.2.1▸hu)⟩
end Go.Emb
namespace Go.Proofs.Y
open Go.Emb Go.RowKit Go.Kd Go.Hm
variable {w w' : World} {K : Value -> World -> Prop} {σ σ' : Q2} {ds : List Value} {room : Int} {cs : List Cel} {l : List Cla}
theorem Q9t {b:Value} (d:Sl 2 Xd σ b cs) (r:Int):(W4 cs r).length<=V9:=by
 unfold W4
 split
 .rename_i c
  obtain ⟨i,rfl,a⟩:=M3.1 c;rw[L8 a];exact (Sl.elO d a).choose_spec.2.2
 .exact Nat.zero_le _
theorem X44 {a:Value} (b:Sl 2 Xd σ a cs) (v:Val):(Qb W1 cs v).length<=V9:=by
 unfold Qb
 split
 .decide
 split
 .decide
 split
 .decide
 split
 .decide
 split
 .exact Q9t b _
 .exact Nat.zero_le _
theorem X74 {v:Val} {k:X0} (D:X7 w σ) (hh:H5 σ (Q3 l,room,cs) ds) (H:Wf l) (ok:Ok (Q3 l)) (j:(Q3 l).length<=1000) (y:v.s.length<=V9) (A:k.length<=V9) (h: ∀w' σ',Stp w σ w' σ'->K (.bool (I5 W1 (Q3 l) cs v k)) w'):Q0 P F.bF [.agg ds.toArray, .agg [I v.sort,I v.n,S v.s,I v.ref].toArray,S k] w K:=Q1M (by
 have o:=hh;obtain ⟨L,J,rfl,B,z⟩:=H5.out hh;unfold Rd Z3 X6 V2;refine Z1 D fun M w0 σ0 g t=>?_;refine Z1 g.sat fun q w1 σ1 c C=>?_;have f:=g.trans c;have d:=c.sat;have m:=t.up c;refine Z0 d m rfl ?_;refine Z0 d C rfl ?_;refine X8h d (O8 o ⟨f.le⟩) y fun N Q a=>?_;have b:=f.trans a;refine Vs ?_;unfold I5 at h;have r:=X44 z v;generalize Qb W1 cs v=E at*
 by_cases e:E=[]
 .rw[decide_eq_true e] at h⊢
  (try simp only[↓M1,M1,Mb,reduceIte])
  exact h _ _ b
 .rw[decide_eq_false e] at h⊢
  (try simp only[↓M1,M1,Mb,reduceIte])
  refine ld (i:=0) a.sat (m.up a) rfl ?_;refine X60 a.sat (B.up b) H ok j r A fun O U p=>?_
  (try simp only[↓M1,M1,Mb,reduceIte])
  exact h _ _ (b.trans p))
theorem Bl {m a:Nat} {c b:Value} {e:Int} {o:List Value} {w1:World} {σ1:Q2} (p:Stp w σ w1 σ1) (g:Y7 σ1 w1 m [c,I room,b]) (j:Y7 σ1 w1 a o) (q:o.length=3) (d:w.heap.size<=a) (n:H5 σ1 (l,room,cs) [c,I room,b]) (h: ∀w' σ',Stp w σ w' σ'->H5 σ' (l,room,cs) [c,I room,b]->K (.tuple #[.agg [c,I room,b].toArray,I e]) w'):
 Q6 P T.a (.pointer (some ⟨m,0,none⟩)) w1 fun k w=>
 J9 P T.a (.pointer (some ⟨a,0,none⟩)) k w fun _u w=>
 Z8 P T.a (.pointer (some ⟨a,0,none⟩)) w fun r=>
 K (.tuple #[r,(.int .i64 e)]) w:=
 Cr g rfl (A9 j p d q rfl (Rep.one n) fun s f i=>W9 i rfl (h s σ1 f.stp n))
set_option maxHeartbeats 1000000 in
theorem X2Z {p H b7:Nat} {X cv x:Value} {k:X0} {vals:List Val} {zs:List Value} {w1:World} {σ1:Q2} (hS:Stp w σ w1 σ1) (L:Y7 σ1 w1 p [X,I room,cv]) (ag:Y7 σ1 w1 H zs) (a5:Y7 σ1 w1 b7 [S k,x]) (hz:zs.length=3) (aw:w.heap.size<=p) (ax:w.heap.size<=H) (ac:p≠H) (hl:Sl 8 L7 σ1 X l) (hc:Sl 2 Xd σ1 cv cs) (hx:Sl 4 E4 σ1 x vals) (hk:k.length<=V9) (bo:cs.length<=10000000)
 (h: ∀Z w' σ',Stp w σ w' σ'->H5 σ' (l,room,cs++[⟨k,vals⟩]) [X,I room,Z]->K (.tuple #[.agg [X,I room,Z].toArray,I 0]) w'):
 dr w1 fun m E=>
 Z7 m (fun s=> ∀w,E w->fieldAddr P T.a (.pointer (some ⟨p,0,none⟩)) 2 w (dk m s w)) fun s=>
 Z7 m (fun r=> ∀w,E w->buildSlice P T.g 0 [] w (dk m r w)) fun r=>
 Z7 m (fun t=> ∀f w,E w->s f w->Q6 P T.g f w (dk m t w)) fun t=>
 Z7 m (fun U=> ∀d g w,E w->r d w->t g w->U7 P .append [T.g,T.g] T.g [false,false] [d,g] w (dk m U w)) fun U=>
 Z7 m (fun z=> ∀w,E w->Q6 P T.p (.pointer (some ⟨b7,0,none⟩)) w (dk m z w)) fun z=>
 Z7 m (fun W=> ∀i w,E w->z i w->buildSlice P T.g 1 [(0,i)] w (dk m W w)) fun W=>
 ∀f d g O i Q w,E w->s f w->r d w->t g w->U O w->z i w->W Q w->
 U7 P .append [T.g,T.g] T.g [false,false] [O,Q] w fun ba w=>
 fieldAddr P T.a (.pointer (some ⟨p,0,none⟩)) 2 w fun bb w=>
 J9 P T.g bb ba w fun _u w=>
 Q6 P T.a (.pointer (some ⟨p,0,none⟩)) w fun bc w=>
 J9 P T.a (.pointer (some ⟨H,0,none⟩)) bc w fun _u w=>
 Z8 P T.a (.pointer (some ⟨H,0,none⟩)) w fun r0=>
 K (.tuple #[r0,(.int .i64 0)]) w:=by
 have a8:=hS.sat;have aj:Xd σ1 ⟨k,vals⟩ [S k,x]:=⟨x,rfl,hx,hk⟩;have bs:x.cells= #[x]:=by obtain ⟨a,c,rfl,_⟩:=hx;rfl
 have a6: ∀{w':World} {K:Value->World->Prop},Hst w1 σ1 w' σ1->K cv w'->Q6 P T.g (.pointer (some ((⟨p,0,none⟩:Addr).add 2))) w' K:=fun N hK=>F9 (L.up N.stp) rfl hK;have a7: ∀{w':World} {K:Value->World->Prop},Hst w1 σ1 w' σ1->K (.agg [S k,x].toArray) w'->Q6 P T.p (.pointer (some ⟨b7,0,none⟩)) w' K:=fun N hK=>Cr (a5.up N.stp) rfl hK;refine U9 a8 ?_
 (repeat refine X2 Uk ?_)
 refine Q4Q (R:=Xd) L2 ?_;refine X2 (V:=cv) (fun f w n e=>?_) ?_
 .subst e;exact a6 n (Q9 rfl)
 refine Q3h (w:=w1) (σ:=σ1) (R:=Xd) (sz:=2) (e:=T.p) cs (fun d g w n aq ar=>?_) ?_
 .obtain ⟨k1,a1,e1⟩:=aq
  subst ar;exact X7a k1 a1 e1 (hc.up n.stp) rfl Q4 Q4 fun v' w' hk ha=>Q4O n hk ha
 refine X2 (V:= .agg [S k,x].toArray) (fun w n=>?_) ?_
 .exact a7 n (Q9 rfl)
 refine Js (w:=w1) (σ:=σ1) (Φ:=fun σ' v=>Sl 2 (Q7t (⟨k,vals⟩:Cel) [S k,x]) σ' v [⟨k,vals⟩]) (fun i w n e=>?_) ?_
 .subst e
  refine T3 (R:=Q7t (⟨k,vals⟩:Cel) [S k,x]) (sz:=2) n.sat [.agg [S k,x].toArray] [⟨k,vals⟩] rfl rfl (by simp[Value.cells]) rfl ⟨⟨rfl,rfl,Rep.one (R:=Xd) aj⟩,trivial⟩ fun v w2 σ2 a4 a9=>Dh n a4 a9
 rintro f d g O i Q w2 bm rfl _ rfl ⟨av,ao⟩ rfl ⟨σ3,k3,s3⟩;refine X3q av ao k3.sat s3 (fun y ds hy=>by obtain ⟨rfl,rfl,_⟩:=hy;exact aj) rfl (by simp;omega) (by simp;omega) fun v3 w3 bp a2 J _=>?_
 have hN:Stp w1 σ1 w3 σ1:=a2;have A:=L.up hN;have ah:=ag.up hN;have ak:=Vw J;refine U3 ?_;refine Xs A U5 ak.1 ak.2 fun Y u4 B=>?_;have ae:=L.lt;have ab:W8 w1.heap.size T.p 2 Xd σ1 Y v3 (cs++[⟨k,vals⟩]):=J.kp (D:=fun j=>j=p) (.of_upd u4 rfl) fun j hj e=>by have:=(J.mem j hj).1;omega
 have C:=ah.upd u4 (fun e=>ac e.symm);have q:Stp w σ Y σ1:=u4.stp (hS.trans hN) aw A.1;have aa:X7 Y σ1:=q.sat;obtain ⟨σ5,s5,l5,f5,o5⟩:=(V3.of_acc ab).freeze aa;have M: ∀j,j<w1.heap.size->σ5 j=σ1 j:=fun j hj=>o5 j fun e=>by have:=(ab.mem j e.symm).1;omega
 have af:Y7 σ5 Y p [X,I room,v3]:=⟨(M p ae).trans B.1,B.2⟩;have ai:Y7 σ5 Y H zs:=⟨(M H ag.lt).trans C.1,C.2⟩;have a3:Stp w σ Y σ5:=⟨q.bel,s5,fun b o e=>l5.le b o (q.le b o e),fun b n=>(M b (Nat.lt_of_lt_of_le n hS.bel.size)).trans (q.old b n)⟩;exact Bl a3 af ai hz ax ⟨X,v3,rfl,hl.lift l5,f5⟩ fun w' σ' hk hr=>h v3 w' σ' hk hr
set_option maxRecDepth 9999 in
set_option maxHeartbeats 1000000 in
theorem X4d {k:X0} (hs:X7 w σ) (hh:H5 σ (l,room,cs) ds) (ok:Ok l) (hlen:l.length<=1000) (hk:k.length<=V9) (h0:0<=O5 room cs) (h1:room<=1048576)
 (h: ∀ds' w' σ',Stp w σ w' σ'->H5 σ' (l,room,(Ua l room cs k).1) ds'->K (.tuple #[.agg ds'.toArray,I (Ua l room cs k).2]) w'):Q0 P F.bg [.agg ds.toArray,S k] w K:=Ts (by
 have hcl:=Xm cs;obtain ⟨lv,cv,rfl,hl,hc⟩:=H5.out hh;unfold Oq;simp only[Y5,X3,L1,M9];unfold Y1 V6 Y2 X5;refine Hg hs fun b0 w1 σ1 hb0 hk1 hm0=>?_;refine O7 hk1.sat fun b4 w2 σ2 hb4 hk2 hm4=>?_;have hS2:=hk1.trans hk2;have hB4:=C2 hb4 hk1;have hb04:b0≠b4:=by have:=hm0.lt;omega
 have hm02:=hm0.up hk2;have hl2:=hl.up hS2;have hh2:=O8 hh ⟨hS2.le⟩;unfold O5 at h0;refine U3 ?_;refine F9 (i:=0) hm02 rfl ?_;refine X2X hk2.sat hl2 ?_;refine Za ?_;unfold Ua at h;cases ho:Xy l k with
 | false=>
  rw[ho] at h;simp only[if_pos] at h;refine J3 ?_;exact Bl hS2 hm02 hm4 rfl hB4 hh2 fun w' σ' hk hr=>h _ w' σ' hk hr
 | true=>
  rw[ho] at h;simp only[Bool.true_eq_false,if_false] at h;refine Z9 ?_;refine U3 ?_;refine F9 (i:=0) hm02 rfl ?_;refine Q0T hk2.sat hl2 ok.acy hlen ok.sm fun fv w3 σ3 hk3 hf=>?_;have hS3:=hS2.trans hk3;have hfl:=hf.max;have hfl2:=Q2b ok.sm ok.len k;refine Q8 hf ?_;refine Yl ⟨by omega,by omega⟩ ?_
  refine Cr (hm02.up hk3) rfl ?_;refine X2W hk3.sat (O8 hh2 ⟨hk3.le⟩) (by unfold O5;exact h0) h1 fun w4 σ4 hk4=>?_
  have hk34:=hk3.trans hk4;have hS4:=hS3.trans hk4;have hm04:=hm02.up hk34;have hm44:=hm4.up hk34;have hh4:=O8 hh2 ⟨hk34.le⟩;have hf4:=hf.up hk4;rw[Bw]
  by_cases hg:O5 room cs<1+((U4 l k).length:Int)
  .rw[if_pos hg] at h
   have e:decide (1+((U4 l k).length:Int)>O5 room cs)=true:=decide_eq_true hg;rw[e];refine J3 ?_;exact Bl hS4 hm04 hm44 rfl hB4 hh4 fun w' σ' hk hr=>h _ w' σ' hk hr
  rw[if_neg hg] at h;have e:decide (1+((U4 l k).length:Int)>O5 room cs)=false:=decide_eq_false hg;rw[e];refine Z9 ?_;unfold O5 at hg;refine M6 (cells:= #[S k, .slice none 0 0]) X8 ?_;refine O7 hk4.sat fun b7 w5 σ5 hb7 hk5 hm7=>?_;have hS5:=hS4.trans hk5;have hB7:=C2 hb7 hS4;refine Ma (ds:=[S k, .slice none 0 0]) hm7 rfl rfl (by rw[List.all_toArray];rfl) fun w6 u6 hm76=>?_
  have hS6:=u6.stp hS5 hB7 hm7.1;have hb07:b0≠b7:=by have:=hm04.lt;omega
  have hb47:b4≠b7:=by have:=hm44.lt;omega
  have hm06:=(hm04.up hk5).upd u6 hb07;have hm46:=(hm44.up hk5).upd u6 hb47;have hf6:=(hf4.up hk5);have hc6:Sl 2 Xd σ5 cv cs:=hc.up hS5;have hl6:Sl 8 L7 σ5 lv l:=hl.up hS5
  refine W0 (U4 l k).length (fun n w'=> ∃σ' x,Stp w σ w' σ'/\SLe σ5 σ'/\Y7 σ' w' b0 [lv,I room,cv]/\Y7 σ' w' b4 _/\Y7 σ' w' b7 [S k,x]/\W8 w.heap.size T.e 4 E4 σ' w' x (((U4 l k).take n).map fun f=>H2 f.kind)/\x.ownBlock≠some b0/\x.ownBlock≠some b4/\x.ownBlock≠some b7)
   ⟨σ5, .slice none 0 0,hS6,SLe.refl _,hm06,hm46,hm76,W8.nil,by simp[Value.ownBlock],by simp[Value.ownBlock],by simp[Value.ownBlock]⟩ fun n w7 d hn hinv=>?_
  obtain ⟨σ7,x,hS7,le7,hm07,hm47,hm77,ha7,hx0,hx4,hx7⟩:=hinv;have hf7:=hf6.lift le7;have hs7:=hS7.sat;refine Q8 hf7 ?_;refine J0 ?_;refine Q5 (fun hcc=>?_) (fun hcc=>?_)
  .have hn':n<(U4 l k).length:=by simpa using hcc
   obtain ⟨p1,r1⟩:=hf7.elF hn';have hrd: ∀{w':World} {K:Value->World->Prop},Hst w7 σ7 w' σ7->K x w'->Q6 P T.l (.pointer (some ((⟨b7,0,none⟩:Addr).add 1))) w' K:=fun hst hK=>F9 (hm77.up hst.stp) rfl hK;refine U9 hs7 ?_
   (repeat (apply X2;(· intros;(repeat (rename_i hx;subst hx));(repeat' (first | (with_reducible exact Q9 rfl) | (with_reducible exact Qa (Stp.bel (by (repeat (first | exact Stp.refl (by (first | assumption | exact Stp.sat Q7 | exact Hst.sat Q7)) | assumption | refine Stp.trans ?_ (by first | assumption | exact Hst.stp Q7))))) rfl) | (with_reducible intro _) | (simp only[↓M2,M2,Mb,reduceIte]) | (with_reducible refine hrd au ?_) | (with_reducible show Q6 _ _ _ _ _;first | refine Y6 aS aL aR ?_ | refine Z0 aS aL aR ?_ | refine ld aS aL aR ?_) | (with_reducible show indexAddr _ _ _ _ _ _;refine Z5 aL au ?_) | (with_reducible show U7 _ _ _ _ _ _ _ _;refine Q8 aL ?_) | (with_reducible show Qs _ _ _ _ _ _;refine V7 aR ?_) | (with_reducible show pick _ _ _ _ _ _;refine B8 ?_) | (with_reducible show Q0 _ _ _ _ _;first | refine X2Y au ?_) | (apply Yu;intro hh;(try simp only[hh,reduceIte,↓M2,M2,Mb,reduceIte]))));done)))
   refine Js (w:=w7) (σ:=σ7) (Φ:=fun σ' v=>Sl 4 E4 σ' v [H2 (U4 l k)[n].kind]) (fun t41 w hb e=>?_) ?_
   .subst e
    exact T3 (R:=E4) (sz:=4) hb.sat [_] [H2 (U4 l k)[n].kind] rfl rfl (by simp[Value.cells]) rfl ⟨Ab _,trivial⟩ fun v w2 σ2 hk2 hv2=>Dh hb hk2 hv2
   rintro t34 t38 t39 t35 t40 t41 t42 w8 hb8 rfl rfl rfl rfl rfl rfl ⟨σ8,hk8,s8⟩;refine X3q (w0:=w) (hS7.trans hb8.stp) (ha7.up hb8.stp) hk8.sat s8 (fun y ds hy=>hy) rfl (by simp;omega) (by simp;omega) fun x9 w9 hg9 hS9 ha9 hat9=>?_
   have hm08:=(hm07.up hb8.stp).turn hg9 fun e=>hx0 e.symm;have hm48:=(hm47.up hb8.stp).turn hg9 fun e=>hx4 e.symm;have hm78:=(hm77.up hb8.stp).turn hg9 fun e=>hx7 e.symm;have hsz:=hb8.stp.bel.size
   have hnew: ∀b,b<w7.heap.size->x.ownBlock≠some b->x9.ownBlock≠some b:=fun b hb hxb e=>by
    rcases hat9 with e2 | e2
    .exact hxb (e2▸e)
    .have:=e2 b e;omega
   have hsh:=Vw ha9;refine U3 ?_;refine Xs hm78 U5 hsh.1 hsh.2 fun w10 u10 hm710=>?_;refine H8 ?_;have hx97:=hnew b7 hm77.lt hx7;refine Z6 hfl hn' ⟨σ7,x9,u10.stp hS9 hB7 hm78.1,le7,hm08.upd u10 hb07,hm48.upd u10 hb47,hm710,?_,hnew b0 hm07.lt hx0,hnew b4 hm47.lt hx4,hx97⟩;have:=ha9.kp (D:=fun j=>j=b7) (.of_upd u10 rfl) fun j hj e=>hx97 (e▸hj);rw[List.take_add_one,List.getElem?_eq_getElem hn',List.map_append];exact this
  .have hn': ¬n<(U4 l k).length:=by simpa using hcc
   rw[List.take_of_length_le Q4] at ha7;obtain ⟨σ9,hS9,hx9,le9,o9⟩:=ha7.keep hS7;have mk: ∀{b:Nat} {zs:List Value},Y7 σ7 w7 b zs->x.ownBlock≠some b->Y7 σ9 w7 b zs:=fun hm hne=>⟨(o9 _ fun e=>hne e.symm).trans hm.1,hm.2⟩;have le59:SLe σ5 σ9:=le7.more ⟨le9⟩;refine X2Z hS9 (mk hm07 hx0) (mk hm47 hx4) (mk hm77 hx7) rfl hb0 hB4 hb04 (hl6.lift le59) (hc6.lift le59) hx9 hk Q4 fun cv' w' σ' hk' hr=>h _ w' σ' hk' hr)
set_option maxRecDepth 9999 in
set_option maxHeartbeats 1000000 in
theorem X5V {k:X0} {n:Int} (hs:X7 w σ) (hh:H5 σ (l,room,cs) ds) (hk:k.length<=V9) (h0:0<=O5 room cs) (h1:room<=1048576)
 (h: ∀ds' w' σ',Stp w σ w' σ'->H5 σ' (l,room,(Vx l room cs k n).1) ds'->K (.tuple #[.agg ds'.toArray,I (Vx l room cs k n).2]) w'):Q0 P F.bv [.agg ds.toArray,S k,I n] w K:=Q0P (by
 have hcl:=Xm cs;have htn:=R3 cs;obtain ⟨lv,cv,rfl,hl,hc⟩:=H5.out hh;unfold Em;simp only[Y5,X3,L1,M9];unfold Z3 X6 X4 V2 X5;refine Hg hs fun b0 w1 σ1 hb0 hk1 hm0=>?_;refine O7 hk1.sat fun b4 w2 σ2 hb4 hk2 hm4=>?_;have hS2:=hk1.trans hk2;have hB4:=C2 hb4 hk1;have hb04:b0≠b4:=by have:=hm0.lt;omega
 have hm02:=hm0.up hk2;have hl2:=hl.up hS2;have hh2:=O8 hh ⟨hS2.le⟩;unfold O5 at h0;unfold Vx at h
 have hbad:T6 l k=false->Q6 P T.a (.pointer (some ⟨b0,0,none⟩)) w2 fun t14 w=>
  J9 P T.a (.pointer (some ⟨b4,0,none⟩)) t14 w fun _u w=>
  Z8 P T.a (.pointer (some ⟨b4,0,none⟩)) w fun r0=>
  K (.tuple #[r0,(.int .i64 91)]) w:=fun ho=>by
  rw[ho] at h;simp only[if_pos] at h;exact Bl hS2 hm02 hm4 rfl hB4 hh2 fun w' σ' hk hr=>h _ w' σ' hk hr
 refine Xb ?_
 by_cases hnull:k=G0
 .rw[show decide (k=[110,117,108,108])=true from decide_eq_true hnull]
  (try simp only[B6,M7,F7,V5,O6,D0,H0,B5,G4,Bool.not_true,Bool.not_false])
  exact hbad (by simp[T6,hnull])
 rw[show decide (k=[110,117,108,108])=false from decide_eq_false hnull]
 (try simp only[B6,M7,F7,V5,O6,D0,H0,B5,G4,Bool.not_true,Bool.not_false])
 refine U3 ?_;refine F9 (i:=0) hm02 rfl ?_;refine Sa hk2.sat hl2 hk ?_;refine Za ?_;cases hkm:H4 l k with
 | false=>
  (try simp only[B6,M7,F7,V5,O6,D0,H0,B5,G4,Bool.not_true,Bool.not_false])
  exact hbad (by simp[T6,hkm])
 | true=>
  (try simp only[B6,M7,F7,V5,O6,D0,H0,B5,G4,Bool.not_true,Bool.not_false])
  refine Gm k (Nat.le_trans hk L2) ?_
  have hr:right k=true:=by
   have:=hkm;simp only[H4,Bool.or_eq_true,Bool.and_eq_true,decide_eq_true_eq] at this
   rcases this with h1 | h1
   .exact absurd h1 hnull
   .exact h1.1
  have hdp:Zv k=(base k).2:=by unfold Zv;rw[if_pos hr]
  have hel:T6 l k=decide ((base k).2<=2):=by
   unfold T6;rw[hkm,decide_eq_false hnull,hdp];rfl
  refine Q3x ?_
  by_cases hd2:(2:Int)<((base k).2:Int)
  .rw[decide_eq_true hd2]
   refine J3 ?_;exact hbad (by rw[hel,decide_eq_false_iff_not];omega)
  rw[decide_eq_false hd2];refine Z9 ?_;have ho:T6 l k=true:=by rw[hel,decide_eq_true_eq];omega
  rw[ho] at h;simp only[Bool.true_eq_false,if_false] at h;refine J0 ?_
  by_cases hn0:n<0
  .rw[if_pos hn0] at h
   rw[decide_eq_true hn0];refine J3 ?_;exact Bl hS2 hm02 hm4 rfl hB4 hh2 fun w' σ' hk hr=>h _ w' σ' hk hr
  rw[if_neg hn0] at h;rw[decide_eq_false hn0];refine Z9 ?_;refine Q3x ?_
  have hbad2: ∀{w3 σ3},Stp w2 σ2 w3 σ3->O5 room cs<=n->Q6 P T.a (.pointer (some ⟨b0,0,none⟩)) w3 fun t14 w=>
   J9 P T.a (.pointer (some ⟨b4,0,none⟩)) t14 w fun _u w=>
   Z8 P T.a (.pointer (some ⟨b4,0,none⟩)) w fun r0=>
   K (.tuple #[r0,(.int .i64 90)]) w:=fun {w3 σ3} hS hle=>by
   rw[if_pos hle] at h;exact Bl (hS2.trans hS) (hm02.up hS) (hm4.up hS) rfl hB4 (O8 hh2 ⟨hS.le⟩) fun w' σ' hk hr=>h _ w' σ' hk hr
  by_cases hbig:(1048576:Int)<n
  .rw[decide_eq_true hbig]
   (try simp only[B6,M7,F7,V5,O6,D0,H0,B5,G4,Bool.not_true,Bool.not_false])
   exact hbad2 (Stp.refl hk2.sat) (by unfold O5;omega)
  rw[decide_eq_false hbig]
  (try simp only[B6,M7,F7,V5,O6,D0,H0,B5,G4,Bool.not_true,Bool.not_false])
  refine Yl ⟨by omega,by omega⟩ ?_
  refine Cr hm02 rfl ?_;refine X2W hk2.sat hh2 (by unfold O5;exact h0) h1 fun w4 σ4 hk4=>?_
  rw[Bw]
  by_cases hg:O5 room cs<=n
  .rw[show decide (1+n>O5 room cs)=true from decide_eq_true Q4]
   refine J3 ?_;exact hbad2 hk4 hg
  rw[if_neg hg] at h;rw[show decide (1+n>O5 room cs)=false from decide_eq_false Q4]
  refine Z9 ?_;have hS4:=hS2.trans hk4;have hm04:=hm02.up hk4;have hm44:=hm4.up hk4;obtain ⟨m,rfl⟩:=Int.eq_ofNat_of_zero_le (Int.not_lt.1 hn0);rw[Int.toNat_natCast] at h;unfold O5 at hg;have hr38:=Tt hr;refine Bv (by simp only[List.length_cons,List.length_nil];omega) ?_
  refine M6 (cells:= #[S (k++[91,93]), .slice none 0 0]) X8 ?_;refine O7 hk4.sat fun b7 w5 σ5 hb7 hk5 hm7=>?_;have hS5:=hS4.trans hk5;have hB7:=C2 hb7 hS4;refine Ma (ds:=[S (k++[91,93]), .slice none 0 0]) hm7 rfl rfl (by rw[List.all_toArray];rfl) fun w6 u6 hm76=>?_
  have hS6:=u6.stp hS5 hB7 hm7.1;have hb07:b0≠b7:=by have:=hm04.lt;omega
  have hb47:b4≠b7:=by have:=hm44.lt;omega
  have hm06:=(hm04.up hk5).upd u6 hb07;have hm46:=(hm44.up hk5).upd u6 hb47;have hc6:Sl 2 Xd σ5 cv cs:=hc.up hS5;have hl6:Sl 8 L7 σ5 lv l:=hl.up hS5
  refine W0 m (fun n w'=> ∃σ' x,Stp w σ w' σ'/\SLe σ5 σ'/\Y7 σ' w' b0 [lv,I room,cv]/\Y7 σ' w' b4 _/\Y7 σ' w' b7 [S (k++[91,93]),x]/\W8 w.heap.size T.e 4 E4 σ' w' x (List.replicate n (H2 k))/\x.ownBlock≠some b0/\x.ownBlock≠some b4/\x.ownBlock≠some b7)
   ⟨σ5, .slice none 0 0,hS6,SLe.refl _,hm06,hm46,hm76,W8.nil,by simp[Value.ownBlock],by simp[Value.ownBlock],by simp[Value.ownBlock]⟩ fun n w7 d hn hinv=>?_
  obtain ⟨σ7,x,hS7,le7,hm07,hm47,hm77,ha7,hx0,hx4,hx7⟩:=hinv;have hs7:=hS7.sat;refine J0 ?_;refine Q5 (fun hcc=>?_) (fun hcc=>?_)
  .have hn':n<m:=by simpa using hcc
   have hrd: ∀{w':World} {K:Value->World->Prop},Hst w7 σ7 w' σ7->K x w'->Q6 P T.l (.pointer (some ((⟨b7,0,none⟩:Addr).add 1))) w' K:=fun hst hK=>F9 (hm77.up hst.stp) rfl hK;refine U9 hs7 ?_
   (repeat (apply X2;(· intros;(repeat (rename_i hx;subst hx));(repeat' (first | (with_reducible exact Q9 rfl) | (with_reducible exact Qa (Stp.bel (by (repeat (first | exact Stp.refl (by (first | assumption | exact Stp.sat Q7 | exact Hst.sat Q7)) | assumption | refine Stp.trans ?_ (by first | assumption | exact Hst.stp Q7))))) rfl) | (with_reducible intro _) | (simp only[↓M2,M2,Mb,reduceIte]) | (with_reducible refine hrd au ?_) | (with_reducible show Q6 _ _ _ _ _;first | refine Y6 aS aL aR ?_ | refine Z0 aS aL aR ?_ | refine ld aS aL aR ?_) | (with_reducible show indexAddr _ _ _ _ _ _;refine Z5 aL au ?_) | (with_reducible show U7 _ _ _ _ _ _ _ _;refine Q8 aL ?_) | (with_reducible show Qs _ _ _ _ _ _;refine V7 aR ?_) | (with_reducible show pick _ _ _ _ _ _;refine B8 ?_) | (with_reducible show Q0 _ _ _ _ _;first | refine X2Y au ?_) | (apply Yu;intro hh;(try simp only[hh,reduceIte,↓M2,M2,Mb,reduceIte]))));done)))
   refine Js (w:=w7) (σ:=σ7) (Φ:=fun σ' v=>Sl 4 E4 σ' v [H2 k]) (fun t41 w hb e=>?_) ?_
   .subst e
    exact T3 (R:=E4) (sz:=4) hb.sat [_] [H2 k] rfl rfl (by simp[Value.cells]) rfl ⟨Ab _,trivial⟩ fun v w2 σ2 hk2 hv2=>Dh hb hk2 hv2
   rintro t46 t47 t49 t50 w8 hb8 rfl rfl rfl ⟨σ8,hk8,s8⟩;refine X3q (w0:=w) (hS7.trans hb8.stp) (ha7.up hb8.stp) hk8.sat s8 (fun y ds hy=>hy) rfl (by simp;omega) (by simp;omega) fun x9 w9 hg9 hS9 ha9 hat9=>?_
   have hm08:=(hm07.up hb8.stp).turn hg9 fun e=>hx0 e.symm;have hm48:=(hm47.up hb8.stp).turn hg9 fun e=>hx4 e.symm;have hm78:=(hm77.up hb8.stp).turn hg9 fun e=>hx7 e.symm;have hsz:=hb8.stp.bel.size
   have hnew: ∀b,b<w7.heap.size->x.ownBlock≠some b->x9.ownBlock≠some b:=fun b hb hxb e=>by
    rcases hat9 with e2 | e2
    .exact hxb (e2▸e)
    .have:=e2 b e;omega
   have hsh:=Vw ha9;refine U3 ?_;refine Xs hm78 U5 hsh.1 hsh.2 fun w10 u10 hm710=>?_;refine H8 ?_;have hx97:=hnew b7 hm77.lt hx7;refine Z6 Q4 hn' ⟨σ7,x9,u10.stp hS9 hB7 hm78.1,le7,hm08.upd u10 hb07,hm48.upd u10 hb47,hm710,?_,hnew b0 hm07.lt hx0,hnew b4 hm47.lt hx4,hx97⟩;have:=ha9.kp (D:=fun j=>j=b7) (.of_upd u10 rfl) fun j hj e=>hx97 (e▸hj);rw[List.replicate_succ'];exact this
  .have hn': ¬n<m:=by simpa using hcc
   have hnm:n=m:=by omega
   subst hnm;obtain ⟨σ9,hS9,hx9,le9,o9⟩:=ha7.keep hS7;have mk: ∀{b:Nat} {zs:List Value},Y7 σ7 w7 b zs->x.ownBlock≠some b->Y7 σ9 w7 b zs:=fun hm hne=>⟨(o9 _ fun e=>hne e.symm).trans hm.1,hm.2⟩;have le59:SLe σ5 σ9:=le7.more ⟨le9⟩;refine X2Z hS9 (mk hm07 hx0) (mk hm47 hx4) (mk hm77 hx7) rfl hb0 hB4 hb04 (hl6.lift le59) (hc6.lift le59) hx9 (Nat.le_trans (show (k++[91,93]).length<=40 by simp only[List.length_append,List.length_cons,List.length_nil];omega) L2) Q4 fun cv' w' σ' hk' hr=>h _ w' σ' hk' hr)
end Go.Proofs.Y
namespace Go.Emb
open Go.RowKit Go.Hm
variable {α : Type} {P : Program} {R : Q2 -> α -> List Value -> Prop} {B sz : Nat} {e : TypeId} {σ σ0 : Q2} {v u : Value} {xs : List α} {w w0 w' : World} {K : Value -> World -> Prop}
theorem X4Z {t:TypeId} {b:Nat} {z:Value} [TS P t e] [TZ P e sz b z] (h:V3 B e sz R σ w v xs) {n:Nat} (p:n<xs.length) (i:K (.pointer (some (Zw sz v n))) w):indexAddr P t v (I n) w K:=by
 obtain ⟨a,c,rfl,m,o,j,f⟩:=h;obtain ⟨g,k,d,rfl,q⟩:=f Q4;rw[Ft Q4 Q4]
 simpa [Zw] using i
theorem V3.elQ (h:V3 B e sz R σ w v xs) {n:Nat} (k:n<xs.length): ∃cs,cs.length=sz/\R σ xs[n] cs/\ ∀j u,cs[j]? =some u->w.cell? ((Zw sz v n).add j)=some u:=by
 obtain ⟨a,c,rfl,q,r,m,i⟩:=h;obtain ⟨g,b,f,rfl,s,t,o,y,p⟩:=i Q4;have hh:n*sz+sz<=c*sz:=by rw[<-Nat.succ_mul];exact Nat.mul_le_mul_right _ Q4
 refine ⟨(f.toList.drop (b+n*sz)).take sz,by rw[List.length_take,List.length_drop,Array.length_toList];omega,p n _ (by simp[k]),fun j u d=>?_⟩
 rw[List.getElem?_take] at d
 split at d
 .rw[List.getElem?_drop] at d
  have e:Zw sz (.slice (some ⟨g,b,none⟩) xs.length c) n=(⟨g,b,none⟩:Addr).add (n*sz):=rfl;rw[e];unfold World.cell?;rw[I2,I2,Yi,Yi,Qj (Qj rfl _)];simp only[o]
  simpa using d
 .cases d
theorem X8i {t:TypeId} {c:Nat} {z:Value} [tz:TZ P t 1 c z] {b i:Nat} {cs:List Value} {v:Value} (d:w.heap[b]? =some (.cells cs.toArray e (0,0))) (k:i<cs.length) (j:v.cells= #[v]) (g:v.oneCell'=true)
 (h: ∀w',Upd w b w'->w'.heap[b]? =some (.cells (cs.set i v).toArray e (0,0))->K undef w'):J9 P t (.pointer (some ((⟨b,0,none⟩:Addr).add i))) v w K:=by
 unfold J9;have a:(⟨b,0,none⟩:Addr).add i=⟨b,i,none⟩:=by unfold Addr.add;split<;>simp_all
 have:=run_storeCells_at P b i e [v] 0 cs.toArray w d (by simp;omega) (by simpa using g)
 simp only[Nat.add_zero] at this;obtain ⟨m,hh⟩:=Hf (cs:=(cs.set i v).toArray) d
 have f:(List.take i cs.toArray.toList++[v]++List.drop (i+[v].length) cs.toArray.toList).toArray=(cs.set i v).toArray:=by
  rw[<-X0r k];simp
 rw[f] at this;rw[Jf (w':=w.setRow b (cs.set i v).toArray) (by simp[Instr.storeAt,Instr.sureAddr,a,storeVar,D9 tz,j,this])]
 exact h _ m hh
theorem X7i {t:TypeId} {r n c:Nat} {z:Value} {x:α} [tz:TZ P t 1 r z] (V:Stp w0 σ0 w σ) (W:V3 w0.heap.size e sz R σ w v xs) (hn:n<xs.length) (hc:c<sz) (hu:u.cells= #[u]) (U:u.oneCell'=true) (hx: ∀cs,cs.length=sz->R σ xs[n] cs->R σ x (cs.set c u))
 (h: ∀w',Kpt (fun k=>v.ownBlock=some k) w w'->Stp w0 σ0 w' σ->V3 w0.heap.size e sz R σ w' v (xs.set n x)->K undef w'):J9 P t (.pointer (some ((Zw sz v n).add c))) u w K:=by
 obtain ⟨a,f,rfl,M,N,i,O⟩:=W;obtain ⟨g,d,m,rfl,H,C,J,q4,L⟩:=O Q4;have hh:n*sz+sz<=f*sz:=by rw[<-Nat.succ_mul];exact Nat.mul_le_mul_right _ Q4
 have hm:Y7 σ w g m.toList:=⟨C,e,by simpa using J⟩
 have X:=Array.length_toList (xs:=m)
 have Q:(Zw sz (.slice (some ⟨g,d,none⟩) xs.length f) n).add c=(⟨g,0,none⟩:Addr).add (d+n*sz+c):=by
  simp only[Zw,Q5C];unfold Addr.add
  split<;>split<;>simp_all<;>omega
 rw[Q];refine X8i (e:=e) (by simpa using J) Q4 hu U fun w' D Y=>?_
 refine h w' (Kpt.of_upd D rfl) (D.stp V H C) ⟨_,f,by rw[List.length_set],by rw[List.length_set];exact M,N,fun b q=>⟨(i b q).1,(i b q).2.1,by rw[D.size];exact (i b q).2.2.1,(i b q).2.2.2⟩,fun _=>⟨g,d,_,rfl,H,C,Y,by simp;omega,fun j y p=>?_⟩⟩
 rw[List.toList_toArray];have o:j<xs.length:=by have:=(List.getElem?_eq_some_iff.1 p).1;simpa using this
 have Z:j*sz+sz<=f*sz:=by rw[<-Nat.succ_mul];exact Nat.mul_le_mul_right _ Q4
 rw[List.drop_set]
 by_cases E:j=n
 .subst E
  rw[List.getElem?_set_self o] at p;cases p;rw[if_neg Q4,List.take_set,show d+j*sz+c-(d+j*sz)=c by omega]
  exact hx _ (by rw[List.length_take,List.length_drop];omega) (L j _ (by simp[o]))
 .rw[List.getElem?_set_ne Q4] at p
  have:=L j y p
  rcases Nat.lt_or_gt_of_ne E with A | hgt
  .have s:j*sz+sz<=n*sz:=by rw[<-Nat.succ_mul];exact Nat.mul_le_mul_right _ A
   rw[if_neg Q4,List.take_set,List.set_eq_of_length_le (by rw[List.length_take];omega)]
   exact this
  .have s:n*sz+sz<=j*sz:=by rw[<-Nat.succ_mul];exact Nat.mul_le_mul_right _ hgt
   rw[if_pos Q4];exact this
end Go.Emb
namespace Go.Proofs.Y
open Go.Emb Go.RowKit Go.Kd Go.Hm
variable {w w' : World} {K : Value -> World -> Prop} {σ σ' : Q2} {ds : List Value} {room : Int} {cs : List Cel} {l : List Cla}
theorem Q92 (f:U1 cs<=1048576) {j:Nat} (a:j<cs.length):(cs[j].vals.length:Int)<=1048576:=by
 have e:U1 cs=U1 (cs.take j)+U1 (cs.drop j):=by rw[<-Yz,List.take_append_drop]
 have b:U1 (cs.drop j)=(1+(cs[j].vals.length:Int))+U1 (cs.drop (j+1)):=by
  rw[List.drop_eq_getElem_cons a];simp only[U1,List.map_cons,List.sum_cons]
 have c:=R3 (cs.take j);have d:=R3 (cs.drop (j+1));omega
theorem X7P {d g:Nat} {p cv x:Value} {m:List Cel} {X:List Value} {w0 w1:World} {σ0 σ1:Q2} (Y:Stp w σ w0 σ0) (O:Stp w0 σ0 w1 σ1) (t:Y7 σ1 w1 d [p,I room,cv]) (Q:Y7 σ1 w1 g X) (hz:X.length=3) (H:d<w0.heap.size) (J:g<w0.heap.size) (L:w.heap.size<=d) (M:w.heap.size<=g) (s:d≠g) (hl:Sl 8 L7 σ1 p l) (U:V3 w0.heap.size T.p 2 Xd σ1 w1 x m)
 (h: ∀q w' σ',Stp w σ w' σ'->H5 σ' (l,room,m) [p,I room,q]->K (.tuple #[.agg [p,I room,q].toArray,I 0]) w'):
 J9 P T.g (.pointer (some ((⟨d,0,none⟩:Addr).add 2))) x w1 fun _u w=>
 Q6 P T.a (.pointer (some ⟨d,0,none⟩)) w fun V w=>
 J9 P T.a (.pointer (some ⟨g,0,none⟩)) V w fun _u w=>
 Z8 P T.a (.pointer (some ⟨g,0,none⟩)) w fun r0=>
 K (.tuple #[r0,(.int .i64 0)]) w:=by
 have A:x.cells= #[x]/\x.oneCell'=true:=by obtain ⟨a,c,rfl,_⟩:=U;exact ⟨rfl,rfl⟩
 refine Xs t U5 A.1 A.2 fun C W i=>?_;have r:V3 w0.heap.size T.p 2 Xd σ1 C x m:=U.kp (D:=fun j=>j=d) (.of_upd W rfl) fun j hj e=>by have:=(U.mem hj).1;omega
 have k:=Q.upd W (fun e=>s e.symm);have f:Stp w σ C σ1:=W.stp (Y.trans O) L t.1;obtain ⟨E,s5,l5,f5,o5⟩:=r.freeze f.sat;have n: ∀j,j<w0.heap.size->E j=σ1 j:=fun j hj=>o5 j fun e=>by have:=(r.mem e.symm).1;omega
 have y:Y7 E C d [p,I room,x]:=⟨(n d H).trans i.1,i.2⟩;have z:Y7 E C g X:=⟨(n g J).trans k.1,k.2⟩;have N:Stp w σ C E:=⟨f.bel,s5,fun b o e=>l5.le b o (f.le b o e),fun b Z=>(n b (Nat.lt_of_lt_of_le Z Y.bel.size)).trans (f.old b Z)⟩;exact Bl N y z hz M ⟨p,x,rfl,hl.lift l5,f5⟩ fun w' σ' O hr=>h x w' σ' O hr
set_option maxHeartbeats 2000000 in
theorem X7M {r i:Int} {v:Val} (hs:X7 w σ) (hh:H5 σ (Q3 l,room,cs) ds) (wf:Wf l) (ok:Ok (Q3 l)) (hlen:(Q3 l).length<=1000) (good: ∀c∈cs,GoodC W1 (Q3 l) cs c) (hl1:U1 cs<=1048576) (hv:E4 σ v [I v.sort,I v.n,S v.s,I v.ref])
 (h: ∀ds' w' σ',Stp w σ w' σ'->H5 σ' (Q3 l,room,(H6 W1 (Q3 l) cs r i v).1) ds'->K (.tuple #[.agg ds'.toArray,I (H6 W1 (Q3 l) cs r i v).2]) w'):Q0 P F.bX [.agg ds.toArray,I r,I i, .agg [I v.sort,I v.n,S v.s,I v.ref].toArray] w K:=Q2W (by
 have hcl:=Xm cs;obtain ⟨lv,cv,rfl,hl,hc⟩:=H5.out hh;unfold Cf;simp only[Y5,X3,L1];unfold Y1 X4;refine Hg hs fun b0 w1 σ1 hb0 hk1 hm0=>?_;refine Z1 hk1.sat fun q w2 σ2 hk2 hq=>?_;have hS2:=hk1.trans hk2;refine O7 hk2.sat fun b4 w3 σ3 hb4 hk3 hm4=>?_;have hS3:=hS2.trans hk3;have hB4:=C2 hb4 hS2;have hm02:=hm0.up hk2;have hb04:b0≠b4:=by have:=hm02.lt;omega
 have hm03:=hm02.up hk3;have hh3:=O8 hh ⟨hS3.le⟩;have hq3:=hq.up hk3;refine Cr hm03 rfl ?_;refine X0l hk3.sat hh3 fun w4 σ4 hk4=>?_;have hS4:=hS3.trans hk4;have hm04:=hm03.up hk4;have hm44:=hm4.up hk4;have hh4:=O8 hh3 ⟨hk4.le⟩;have hq4:=hq3.up hk4;unfold H6 at h;refine Xn ?_
 by_cases h0:C3 cs r i=0
 case neg=>
  rw[decide_eq_false h0];rw[if_pos h0] at h;refine J3 ?_;exact Bl hS4 hm04 hm44 rfl hB4 hh4 fun w' σ' hk hr=>h _ w' σ' hk hr
 rw[decide_eq_true h0];rw[if_neg (fun hn=>hn h0)] at h;refine Z9 ?_;obtain ⟨j,m,rfl,rfl,hj,hm⟩:=Ow h0;rw[L8 hj,Int.toNat_natCast] at h;have hc4:=hc.up hS4;obtain ⟨vv,p1,p2,p3⟩:=Sl.elO hc4 hj;have hgc:=good cs[j] (List.getElem_mem hj)
 have hif:elem cs[j].kind=[]->m<(U4 (Q3 l) cs[j].kind).length:=fun e=>by
  rcases hgc.is with h | h
  .exact absurd e h
  .rw[<-h.2];exact hm
 have hs4:=hk4.sat;have hr0: ∀{w':World} {K:Value->World->Prop},Hst w4 σ4 w' σ4->K (.agg [lv,I room,cv].toArray) w'->Q6 P T.a (.pointer (some ⟨b0,0,none⟩)) w' K:=fun hst hK=>Cr (hm04.up hst.stp) rfl hK;have hr1: ∀{w':World} {K:Value->World->Prop},Hst w4 σ4 w' σ4->K cv w'->Q6 P T.g (.pointer (some ((⟨b0,0,none⟩:Addr).add 2))) w' K:=fun hst hK=>F9 (hm04.up hst.stp) rfl hK;refine U9 hs4 ?_
 (repeat (apply X2;(· intros;(repeat (rename_i hx;subst hx));(repeat' (first | (with_reducible exact Q9 rfl) | (with_reducible exact Qa (Stp.bel (by (repeat (first | exact Stp.refl (by (first | assumption | exact Stp.sat Q7 | exact Hst.sat Q7)) | assumption | refine Stp.trans ?_ (by first | assumption | exact Hst.stp Q7))))) rfl) | (with_reducible intro _) | (simp only[↓M2,M2,Mb,reduceIte]) | (with_reducible refine hr0 au ?_) | (with_reducible refine hr1 au ?_) | (with_reducible show Q6 _ _ _ _ _;first | refine Y6 aS aL aR ?_ | refine Z0 aS aL aR ?_ | refine ld aS aL aR ?_) | (with_reducible show indexAddr _ _ _ _ _ _;refine Z5 aL au ?_) | (with_reducible show U7 _ _ _ _ _ _ _ _;refine Q8 aL ?_) | (with_reducible show Qs _ _ _ _ _ _;refine V7 aR ?_) | (with_reducible show pick _ _ _ _ _ _;refine B8 ?_) | (with_reducible show Q0 _ _ _ _ _;first | refine X75 au au au au au au ?_) | (apply Yu;intro hh;(try simp only[hh,reduceIte,↓M2,M2,Mb,reduceIte]))));done)))
 (intros;(repeat (rename_i hx;subst hx)))
 rename_i w5 hb5;have hS5:=hS4.trans hb5.stp;refine X74 hb5.sat hh4 wf ok hlen hv.2.2.2.1 (Q8X ok p3 m) fun wA σA hkA=>?_;have hk4A:=hb5.stp.trans hkA;have hSA:=hS4.trans hk4A;have hm0A:=hm04.up hk4A;have hm4A:=hm44.up hk4A;have hhA:=O8 hh4 ⟨hk4A.le⟩;have hqA:=hq4.up hk4A;have hsA:=hkA.sat;refine Za ?_;cases hf:I5 W1 (Q3 l) cs v (Vp (Q3 l) cs[j].kind m) with
 | false=>
  rw[hf] at h;simp only[Bool.false_eq_true,if_false] at h;refine J3 ?_;exact Bl hSA hm0A hm4A rfl hB4 hhA fun w' σ' hk hr=>h _ w' σ' hk hr
 | true=>
  rw[hf] at h;simp only[if_true] at h;refine Z9 ?_;have hcA:=hc.up hSA;have hlA:=hl.up hSA;have hvl:=Q92 hl1 hj;refine Sh (R:=Xd) (e:=T.p) (Stp.refl hsA) L2 fun x1 wA1 hkA1 ha1 _=>?_;refine U3 ?_;refine F9 (hm0A.up hkA1) rfl ?_;refine Vr hkA1 ha1 (hcA.up hkA1) rfl (by simp;omega) (by simp;omega) fun x2 wB _ hkB ha2 _=>?_
  rw[List.nil_append] at ha2;have hsB:=hkB.sat;refine Sh (R:=E4) (e:=T.e) (Stp.refl hsB) L2 fun y1 wB1 hkB1 hy1 _=>?_;have hq2:=V3.of_acc (ha2.up hkB1);refine X4Z hq2 hj ?_;obtain ⟨cs5,hl5,⟨vv5,rfl,p5,_⟩,hcell⟩:=hq2.elQ hj;refine U3 ?_;refine Yj (hcell 1 vv5 rfl) ?_;refine Vr hkB1 hy1 p5 rfl (by simp;omega) (by simp;omega) fun y2 wB2 _ hkB2 hy2 _=>?_
  rw[List.nil_append] at hy2;refine Z0 hkB2.sat ((hqA.up hkB).up hkB2) rfl ?_;refine Q5f (x:=v) hkB2 (V3.of_acc hy2) hm rfl (show E4 σA v _ from hv) (Rep.one (R:=E4) (σ:=σA) hv) fun p u w6 _ hb6 hy6=>?_
  obtain ⟨σ7,hk7,hs7,le7,_⟩:=hy6.keep hb6.stp;have hkA7:=hkB.trans hk7;have hq7:=V3.of_acc (ha2.up hk7);refine X4Z hq7 hj ?_;refine U3 ?_;have hysh:y2.cells= #[y2]/\y2.oneCell'=true:=Vw hy2
  refine X7i (x:=(⟨cs[j].kind,cs[j].vals.set m v⟩:Cel)) hkA7 hq7 hj L2 hysh.1 hysh.2 (fun es _ hes=>by
   obtain ⟨v0,rfl,_,hkl⟩:=hes;exact ⟨y2,rfl,hs7,hkl⟩) fun w8 _ hk8 hq8=>?_
  refine U3 ?_;have hsv:T0 cs j m v=cs.set j ⟨cs[j].kind,cs[j].vals.set m v⟩:=by unfold T0;rw[L8 hj,Int.toNat_natCast,Int.toNat_natCast]
  rw[hsv] at h;exact X7P hSA hk8 (hm0A.up hk8) (hm4A.up hk8) rfl hm0A.lt hm4A.lt hb0 hB4 hb04 (hlA.up hk8) hq8 fun cv' w' σ' hk hr=>h _ w' σ' hk hr)
theorem Q8t {k a:Nat} {c b:Value} {n:List Value} {w1:World} {σ1:Q2} (o:Stp w σ w1 σ1) (f:Y7 σ1 w1 k [c,I room,b]) (i:Y7 σ1 w1 a n) (p:n.length=3) (d:w.heap.size<=a) (m:H5 σ1 (l,room,cs) [c,I room,b]) (h: ∀w' σ',Stp w σ w' σ'->H5 σ' (l,room,cs) [c,I room,b]->K (.agg [c,I room,b].toArray) w'):
 Q6 P T.a (.pointer (some ⟨k,0,none⟩)) w1 fun j w=>
 J9 P T.a (.pointer (some ⟨a,0,none⟩)) j w fun _u w=>
 Z8 P T.a (.pointer (some ⟨a,0,none⟩)) w fun q=>
 K q w:=
 Cr f rfl (A9 i o d p rfl (Rep.one m) fun r e g=>W9 g rfl (h r σ1 e.stp m))
set_option maxHeartbeats 2000000 in
theorem X7J {n:Int} (hs:X7 w σ) (hh:H5 σ (l,room,cs) ds) (a6:U1 cs<=1048576) (hn:Xc n)
 (h: ∀ag w' σ',Stp w σ w' σ'->H5 σ' (l,room,Al cs n) ag->K (.agg ag.toArray) w'):Q0 P F.bU [.agg ds.toArray,I n] w K:=Q2T (by
 have b2:=Xm cs;obtain ⟨lv,cv,rfl,hl,hc⟩:=H5.out hh;unfold Cc;simp only[M9];unfold Z3 Y1 V0 V6 X6 Y2 X4 X5;refine Hg hs fun M w1 σ1 a4 Z ak=>?_;refine O7 Z.sat fun b4 w2 σ2 a5 aa J=>?_;have a0:=Z.trans aa;have V:=C2 a5 Z;have aj:M≠b4:=by have:=ak.lt;omega
 have al:=ak.up aa;have a9:=aa.sat;refine Zq (fun z w'=>z=I (max n 0)/\w'=w2) ?_ ?_
 .refine J0 ?_
  by_cases e:n<0
  .rw[decide_eq_true e]
   exact J3 ⟨by rw[show max n 0=0 by omega],rfl⟩
  .rw[decide_eq_false e]
   exact Z9 ⟨by rw[show max n 0=n by omega],rfl⟩
 rintro z d0 w3 ⟨rfl,rfl⟩;unfold Al at h;obtain ⟨m,am⟩:=Int.eq_ofNat_of_zero_le (show 0<=max n 0 by omega)
 rw[am,Int.toNat_natCast] at h;rw[am];have b6:(m:Int)<=9223372036854775807:=by have:=hn.2;omega
 refine W0 (min m cs.length) (fun i w'=> ∃σ',Stp w3 σ2 w' σ'/\(cs.take i).any (fun c=>c.vals.any (A6 m))=false) ⟨σ2,Stp.refl a9,rfl⟩ fun i w4 d hi y=>?_;obtain ⟨σ4,q,ac⟩:=y;have a:=al.up q;have s:=a0.trans q;have H:=hc.up s;refine J0 ?_
 have Y: ¬i<min m cs.length->(cs.take m).any (fun c=>c.vals.any (A6 m))=false/\(m<cs.length->i=m):=fun an=>by
  by_cases a7:m<=cs.length
  .have:i=m:=by omega
   subst this;exact ⟨ac,fun _=>rfl⟩
  .have e:cs.take m=cs.take i:=by rw[List.take_of_length_le Q4,List.take_of_length_le Q4]
   rw[e];exact ⟨ac,fun h=>by omega⟩
 have N: ¬i<min m cs.length->jn (α:=Unit) w4 (fun af w=>
  fieldAddr P T.a (.pointer (some ⟨M,0,none⟩)) 2 w fun bc w=>
  Q6 P T.g bc w fun bd w=>
  U7 P .len [T.g] T.f [false] [bd] w fun be w=>
  Z2 P .lss T.f (.tmp 52) (.tmp 55) (I (m:Int)) be w fun bf w=>
  X1 bf (
   buildSlice P T.g 0 [] w fun bg w=>
   fieldAddr P T.a (.pointer (some ⟨M,0,none⟩)) 2 w fun bh w=>
   Q6 P T.g bh w fun bi w=>
   G5 P T.g bi none (some (I (m:Int))) none w fun bj w=>
   U7 P .append [T.g,T.g] T.g [false,false] [bg,bj] w fun bk w=>
   fieldAddr P T.a (.pointer (some ⟨M,0,none⟩)) 2 w fun bl w=>
   J9 P T.g bl bk w fun _u w=>
   af () w) (
   af () w)) fun ci d_ w=>
  Q6 P T.a (.pointer (some ⟨M,0,none⟩)) w fun bm w=>
  J9 P T.a (.pointer (some ⟨b4,0,none⟩)) bm w fun _u w=>
  Z8 P T.a (.pointer (some ⟨b4,0,none⟩)) w fun r0=>
  K r0 w:=fun an=>by
  obtain ⟨t,_⟩:=Y an;rw[if_neg (by rw[t];simp)] at h
  refine L9 ?_;refine U3 ?_;refine F9 a rfl ?_;refine Q8 H ?_;refine J0 ?_
  by_cases a7:m<cs.length
  .rw[decide_eq_true (show (m:Int)<(cs.length:Int) by omega)]
   refine J3 ?_;have ba:=q.sat;refine Sh (R:=Xd) (e:=T.p) (Stp.refl ba) L2 fun x1 w5 f a3 _=>?_;refine U3 ?_;refine F9 (a.up f) rfl ?_;refine Co (H.up f) none (some (I m)) 0 m (.inl ⟨rfl,rfl⟩) (.inr rfl) (Nat.zero_le _) Q4 fun v3 ar=>?_;rw[List.drop_zero,Nat.sub_zero] at ar;refine Vr f a3 ar rfl (by simp;omega) (by simp;omega) fun x2 w6 _ g E _=>?_
   rw[List.nil_append] at E;have aq:=Vw E;have O:=a.up g;refine U3 ?_;refine Xs O U5 aq.1 aq.2 fun w7 u7 Q=>?_;intro d;have ai:V3 w4.heap.size T.p 2 Xd σ4 w7 x2 (cs.take m):=(V3.of_acc E).kp (D:=fun j=>j=M) (.of_upd u7 rfl) fun j hj e=>by have:=(E.mem j hj).1;have:=a.lt;omega
   have U:=((J.up q).up g).upd u7 (fun e=>aj e.symm);have C:Stp w σ w7 σ4:=u7.stp (s.trans g) a4 O.1;obtain ⟨σ8,s8,l8,f8,o8⟩:=ai.freeze C.sat;have ab: ∀j,j<w4.heap.size->σ8 j=σ4 j:=fun j hj=>o8 j fun e=>by have:=(ai.mem e.symm).1;omega
   have a2:Stp w σ w7 σ8:=⟨C.bel,s8,fun b o e=>l8.le b o (C.le b o e),fun b hb=>(ab b (Nat.lt_of_lt_of_le hb s.bel.size)).trans (C.old b hb)⟩;exact Q8t a2 (cs:=cs.take m) (l:=l) (show Y7 σ8 w7 M [lv,I room,x2] from ⟨(ab M a.lt).trans Q.1,Q.2⟩) ⟨(ab b4 (J.up q).lt).trans U.1,U.2⟩ rfl V ⟨lv,x2,rfl,(hl.up s).lift l8,f8⟩ fun w' σ' hk hr=>h _ w' σ' hk hr
  .rw[decide_eq_false (show¬(m:Int)<(cs.length:Int) by omega)]
   refine Z9 ?_;intro d;rw[List.take_of_length_le Q4] at h;exact Q8t s a (J.up q) rfl V (O8 hh ⟨s.le⟩) fun w' σ' hk hr=>h _ w' σ' hk hr
 by_cases b3:i<m
 case neg=>
  rw[decide_eq_false (show¬(i:Int)<(m:Int) by omega)]
  (try simp only[B6,M7,F7,V5,O6,D0,H0,B5,G4,Bool.not_true,Bool.not_false])
  exact N Q4
 rw[decide_eq_true (show (i:Int)<(m:Int) by omega)]
 (try simp only[B6,M7,F7,V5,O6,D0,H0,B5,G4,Bool.not_true,Bool.not_false])
 refine U3 ?_;refine F9 a rfl ?_;refine Q8 H ?_;refine J0 ?_
 by_cases v:i<cs.length
 case neg=>
  rw[decide_eq_false (show¬(i:Int)<(cs.length:Int) by omega)]
  refine Z9 ?_;exact N Q4
 rw[decide_eq_true (show (i:Int)<(cs.length:Int) by omega)]
 refine J3 ?_;have b9:=Q92 a6 v;refine W0 cs[i].vals.length (fun k w'=> ∃σ',Stp w4 σ4 w' σ'/\(cs[i].vals.take k).any (A6 m)=false) ⟨σ4,Stp.refl q.sat,rfl⟩ fun k w5 d hk y=>?_;obtain ⟨σ5,f,B⟩:=y;have A:=a.up f;have W:=H.up f;have a1:=s.trans f;have L:=f.sat;obtain ⟨vv,p1,p2,p3⟩:=Sl.elO W v;refine U3 ?_;refine F9 A rfl ?_;refine Z5 W v ?_;refine U3 ?_;refine ld L p1 rfl ?_;refine Q8 p2 ?_;refine J0 ?_;refine Q5 (fun X=>?_) (fun X=>?_)
 .have r:k<cs[i].vals.length:=by simpa using X
  obtain ⟨p4,r4⟩:=Sl.elV p2 r;refine U3 ?_;refine F9 A rfl ?_;refine Z5 W v ?_;refine U3 ?_;refine ld L p1 rfl ?_;refine Z5 p2 r ?_;refine Z0 L p4 rfl ?_;refine J1 L (by rfl) rfl (Rep.one r4) fun q6 w6 σ6 g ao=>?_
  have ah:=a1.trans g;have a8:=D6 (p:=A6 m) r;refine U3 ?_;refine ld (i:=0) g.sat ao rfl ?_;refine C8 ?_;have u:A6 m cs[i].vals[k]=false-> ∃σ',Stp w4 σ4 w6 σ'/\(cs[i].vals.take (k+1)).any (A6 m)=false:=fun e=>⟨σ6,f.trans g,by rw[a8,B,e];rfl⟩
  by_cases e4:cs[i].vals[k].sort=4
  .rw[decide_eq_true e4]
   (try simp only[B6,M7,F7,V5,O6,D0,H0,B5,G4,Bool.not_true,Bool.not_false])
   refine U3 ?_;refine ld g.sat ao rfl ?_;refine Qd ?_
   by_cases eg:(m:Int)<=cs[i].vals[k].ref
   .rw[decide_eq_true eg]
    refine J3 ?_
    have t:(cs.take m).any (fun c=>c.vals.any (A6 m))=true:=by
     refine List.any_eq_true.2 ⟨cs[i],List.mem_take_iff_getElem.2 ⟨i,by omega,rfl⟩,I4 r (by simp[A6,e4,eg])⟩
    rw[if_pos t] at h;exact Q8t ah (A.up g) ((J.up q).up (f.trans g)) rfl V (O8 hh ⟨ah.le⟩) fun w' σ' hk hr=>h _ w' σ' hk hr
   .rw[decide_eq_false eg]
    refine Z9 ?_;refine H8 ?_;exact Z6 Q4 r (u (by simp[A6,eg]))
  .rw[decide_eq_false e4]
   (try simp only[B6,M7,F7,V5,O6,D0,H0,B5,G4,Bool.not_true,Bool.not_false])
   refine H8 ?_;exact Z6 Q4 r (u (by simp[A6,e4]))
 .have r: ¬k<cs[i].vals.length:=by simpa using X
  rw[B0 r] at B;refine H8 ?_;refine Z6 Q4 Q4 ⟨σ5,q.trans f,?_⟩;rw[D6 v,ac,B];rfl)
variable {hp tv : Value}
theorem HeapIs.mono {B c:Nat} {D:Nat->Prop} (h:HeapIs B D σ w hp tv room cs) (hB:c<=B):HeapIs c D σ w hp tv room cs:=by
 obtain ⟨b,o,E,k,j,n,⟨vs,m,d,g,hD⟩,hE,a⟩:=h.ex;exact ⟨b,o,E,k,Nat.le_trans hB j,n,⟨vs,m.mono hB,⟨d.1,fun i e f=>(d.2 i e f).mono hB⟩,g,hD⟩,hE,a⟩
theorem X6s {a:Addr} {n:Int} (j:X7 w σ)
 (g:(n<0\/1048576<n)->K (.tuple #[.pointer none,I 90]) w)
 (h:0<=n->n<=1048576-> ∀b w' σ' D,Stp w σ w' σ'->HeapIs w.heap.size D σ' w' (.pointer (some ⟨b,0,none⟩)) (.pointer (some a)) n []->K (.tuple #[.pointer (some ⟨b,0,none⟩),I 0]) w'):Q0 P F.cV [.pointer (some a),I n] w K:=X1s (by
 unfold Q4Z X6 X4;refine J0 ?_
 by_cases e:n<0
 .rw[decide_eq_true e]
  (try simp only[B6,M7,F7,V5,O6,D0,H0,B5,G4,Bool.not_true,Bool.not_false])
  exact g (.inl e)
 rw[decide_eq_false e]
 (try simp only[B6,M7,F7,V5,O6,D0,H0,B5,G4,Bool.not_true,Bool.not_false])
 refine Q3x ?_
 by_cases c:(1048576:Int)<n
 .rw[decide_eq_true c]
  exact J3 (g (.inr c))
 rw[decide_eq_false c];refine Z9 ?_;refine M6 (cells:= #[.pointer (some a),I n,I 0, .slice none 0 0]) X8 ?_;refine Hg (cs:=[.pointer (some a),I n,I 0, .slice none 0 0]) j fun b w1 σ1 i d f=>?_;exact h Q4 Q4 b w1 σ1 _ d ⟨b,_,_,rfl,i,f,RowsIs.nil,id,fun k=>Iff.rfl⟩)
theorem X4s:P.underlying T.ay=some (.int .u16):=by kernel_rfl
set_option maxHeartbeats 1000000 in
theorem Q67 {r:Int} (hs:X7 w σ) (hg:Glb σ) (hr:0<=r)
 (h: ∀b a D ds w' σ',Stp w σ w' σ'->HeapIs w.heap.size D σ' w' (.pointer (some ⟨b,0,none⟩)) (.pointer (some a)) (r % 301) []->H5 σ' (Q3 L3,r % 301,[]) ds->Tab σ' (.pointer (some a)) (Q3 L3)->Ok (Q3 L3)->K (.tuple #[.pointer (some ⟨b,0,none⟩), .agg ds.toArray]) w'):Q0 P F.ak [.int .u16 r] w K:=Q0x (by
 have hr0:=Int.emod_nonneg r (show (301:Int)≠0 by decide)
 have hr1:=Int.emod_lt_of_pos r (show (0:Int)<301 by decide)
 unfold Du;simp only[D2];unfold X6 X4;refine O7 hs fun b3 w1 σ1 hb3 hk1 hm1=>?_;refine Q6P hk1.sat fun v w2 σ2 hk2 hv2=>?_;refine X7n hk2.sat (hg.lift ⟨(hk1.trans hk2).le⟩) hv2 L2 X5h (fun i e _ _ hn=>by rw[Q4n] at hn;cases hn) fun tv w3 σ3 _ hk3 ht ok _=>?_
 obtain ⟨a,_,_,_,rfl,_⟩:=ht.ex;have hS3:=(hk1.trans hk2).trans hk3;refine J4 (vs:=[_,_,_]) rfl ?_;refine J4 (vs:=[_,_,_]) rfl ?_;refine J4 (vs:=[_,_,_]) rfl ?_;refine Q6P hk3.sat fun v4 w4 σ4 hk4 hv4=>?_;refine X5Y hk4.sat hv4 L2 (fun i e _ _ hn=>by rw[Q4n] at hn;cases hn) fun lv w5 σ5 _ hk5 hlv ok5 _=>?_
 have hk35:=hk4.trans hk5;have hS5:=hS3.trans hk35;refine J4 (vs:=[_,_,_]) rfl ?_;refine J4 (vs:=[_,_,_]) rfl ?_;refine J4 (vs:=[_,_,_]) rfl ?_;refine Q95 ⟨by decide,hr⟩ ?_
 rw[Ak X4s He];have ew:IntKind.i64.wrap (r % 301)=r % 301:=A8 (n:=r % 301) Q4 Q4;rw[ew];simp only[decide_true,Bool.not_true,Bool.false_eq_true,reduceIte,↓M1,M1,Mb,reduceIte];refine X7h ?_;simp only[decide_true,Bool.not_true,Bool.false_eq_true,reduceIte,↓M1,M1,Mb,reduceIte];refine X6s (n:=r % 301) hk5.sat (fun hx=>absurd hx Q4) fun _ _ b6 w6 σ6 D hk6 h6=>?_;refine J4 (vs:=[_,_]) rfl ?_;refine J4 (vs:=[_,_]) rfl ?_;simp only[decide_true,Bool.not_true,↓M1,M1,Mb,reduceIte];refine M6 (cells:= #[lv,I (r % 301), .slice none 0 0]) (by obtain ⟨a5,c5,hle,_⟩:=id hlv;generalize (Q3 L3).length=n5 at hle;subst hle;kernel_rfl) ?_
 have hm6:=hm1.up ((hk2.trans hk3).trans (hk35.trans hk6));have hrh:H5 σ6 (Q3 L3,r % 301,[]) [lv,I (r % 301), .slice none 0 0]:=⟨_,_,rfl,hlv.up hk6,Sl.nil⟩;refine Ma (ds:=[lv,I (r % 301), .slice none 0 0]) hm6 rfl rfl (by rw[List.all_toArray];exact List.all_eq_true.2 (Rep.one hrh)) fun w7 u7 hm7=>?_
 refine W9 hm7 rfl ?_;have hS6:=hS5.trans hk6;have hB3:=C2 hb3 (Stp.refl hs);have hS7:=u7.stp hS6 hB3 hm6.1
 have hb35:b3<w5.heap.size:=by
  have:=(hm1.up ((hk2.trans hk3).trans hk35)).lt;exact this
 exact h b6 a D _ w7 σ6 hS7 ((h6.nx (Nxt.of_upd hk6.sat u7 hm6.1) fun k hk e=>by have:=(h6.mem hk).1;omega).mono hS5.bel.size) hrh (ht.lift ⟨(hk35.trans hk6).le⟩) ok)
theorem X7K {x:ActH} {ds:List Value} (g:X7 w σ) (d:Kp σ x ds) (h: ∀w',Below w.heap.size w w'->K (.bool (decide (x.s.length<=100)&&decide (x.v.s.length<=5000))) w'):Q0 P F.bV [.agg ds.toArray] w K:=Q2U (by
 have j:=d;obtain ⟨rfl,k,m⟩:=d;unfold Cd Z3 Y1 Y2 X4;refine Z1 g fun q w1 σ1 a c=>?_;refine U3 ?_;refine ld (i:=1) a.sat c rfl ?_;refine Aa X8 ?_;refine Q7r ?_;cases e:decide ((x.s.length:Int)<=100) with
 | false=>
  have b:decide (x.s.length<=100)=false:=by rw[<-e];congr 1;simp only[eq_iff_iff];omega
  rw[b] at h
  (try simp only[↓M1,M1,Mb,reduceIte])
  exact h _ a.bel
 | true=>
  have b:decide (x.s.length<=100)=true:=by rw[<-e];congr 1;simp only[eq_iff_iff];omega
  rw[b] at h
  (try simp only[B6,M7,F7,V5,O6,D0,H0,B5,G4,Bool.not_true,Bool.not_false])
  (repeat refine Hd.h ?_)
  refine ld (i:=6) a.sat c rfl ?_
  (repeat refine Hd.h ?_)
  refine Aa X8 ?_
  (repeat refine Hd.h ?_)
  refine Q7r ?_
  (repeat refine Hd.h ?_)
  have f:decide ((x.v.s.length:Int)<=5000)=decide (x.v.s.length<=5000):=by congr 1;simp only[eq_iff_iff];omega
  rw[f];exact h _ a.bel)
theorem Q63:W1 []=true:=by decide+kernel
theorem X8j:P.underlying T.a2=some (.pointer T.s):=by kernel_rfl
theorem Q8S (d:Nat) (o:Option Addr):(Op.equalIn (d+1) T.a2 (.pointer o) (.pointer none)).run P w= .ok o.isNone w:=by
 cases o<;>simp[Op.equalIn,run_underlying X8j]
theorem Q94 {a:Addr} {b c:Operand} (h:K (.bool false) w):Z2 P .eql T.a2 b c (.pointer (some a)) (.pointer none) w K:=by
 have e:(Op.equal T.a2 (.pointer (some a)) (.pointer none)).run P w= .ok false w:=Q8S 9999 _;unfold Z2;rw[Y8 (v:= .bool false) (w':=w) (by simp[eqGuard,Go.binOp,e])]
 exact h
theorem Q5O {a:Nat} {f g:World} {d:Q2} {x:List Cla×Int×List Cel} {c p:List Value} (n:Stp w σ f d) (hB:w.heap.size<=a) (o:Y7 d f a p) (u:Upd f a g) (e:Y7 d g a c):
 ∃b,Stp w σ g b/\J7 b ⟨a,0,none⟩ c/\SLe d b/\ ∀k,k≠a->b k=d k:=by
 obtain ⟨b,h,i,j,m⟩:=e.keep (u.stp n hB o.1) hB;exact ⟨b,h,i,⟨j⟩,m⟩
variable {w0 w1 : World} {σ0 : Q2} {cs' : List Cel} {B b : Nat} {D : Nat -> Prop} {V v : Value}
theorem X4n {ok:X0->Bool} {r i:Int} {v:Val}:H6 ok l (H6 ok l cs r i v).1 r i v=H6 ok l cs r i v:=by
 by_cases f:C3 cs r i=0
 case neg=>
  have e:H6 ok l cs r i v=(cs,C3 cs r i):=by unfold H6;rw[if_pos f]
  rw[e];exact e
 cases k:I5 ok l cs v (Vp l (Nh cs r).kind i.toNat) with
 | false=>
  have e:H6 ok l cs r i v=(cs,91):=by unfold H6;rw[if_neg (fun h=>h f),k];rfl
  rw[e];exact e
 | true=>
  have e:H6 ok l cs r i v=(T0 cs r i v,0):=by unfold H6;rw[if_neg (fun h=>h f),k];rfl
  rw[e];obtain ⟨j,m,rfl,rfl,a,y⟩:=Ow f;have u:O9 cs (j:Int)=true:=M3.2 ⟨j,rfl,a⟩;have d:T0 cs j m v=cs.set j ⟨cs[j].kind,cs[j].vals.set m v⟩:=by unfold T0;rw[L8 a,Int.toNat_natCast,Int.toNat_natCast]
  have t:(T0 cs j m v).length=cs.length:=by rw[d];simp
  have c:j<(T0 cs j m v).length:=by rw[t];exact a
  have g:Nh (T0 cs j m v) j=⟨cs[j].kind,cs[j].vals.set m v⟩:=by
   rw[L8 c];simp only[d,List.getElem_set_self]
  have p:O9 (T0 cs j m v) (j:Int)=true:=M3.2 ⟨j,rfl,c⟩
  have q:C3 (T0 cs j m v) j m=0:=by
   unfold C3;rw[p,g];simp only[if_true,List.length_set];rw[if_pos ⟨by omega,by omega⟩]
  have o:I5 ok l (T0 cs j m v) v (Vp l (Nh (T0 cs j m v) j).kind (m:Int).toNat)=true:=by
   rw[g];rw[L8 a] at k;exact Bh (fun _ _=>Q57 u) k
  have s:T0 (T0 cs j m v) j m v=T0 cs j m v:=by
   unfold T0 at g⊢;rw[g];simp only[Int.toNat_natCast,List.set_set];rw[L8 a]
  unfold H6;rw[if_neg (fun h=>h q),o,s];rfl
theorem RowsIs.down {d:Value} (h:RowsIs B D σ' w d cs) (c:SLe σ σ'):RowsIs B D σ w d cs:=by
 obtain ⟨vs,j,a,g,hD⟩:=h.ex;exact ⟨vs,j.down c fun _ _ h=>h,⟨a.1,fun i e f=>(a.2 i e f).down c fun _ _ h=>h⟩,g,hD⟩
theorem HeapIs.down (h:HeapIs B D σ' w hp tv room cs) (c:SLe σ σ'):HeapIs B D σ w hp tv room cs:=by
 obtain ⟨b,f,E,rfl,hB,a,d,hE,hD⟩:=h.ex;refine ⟨b,f,E,rfl,hB,⟨?_,a.2⟩,d.down c,hE,hD⟩;cases e:σ b with
 | none=>rfl
 | some o=>have:=c.le b o e;rw[a.1] at this;cases this
structure SetT (B : Nat) (D : Nat -> Prop) (σ : Q2) (hp tv : Value) (room : Int) (cs' : List Cel) (b : Nat) (ds : List Value) (w w' : World) : Prop where
  kp : Kpt (fun j => j = b \/ D j) w w'
  var : (b < w.heap.size -> w'.heap[b]? = w.heap[b]?) \/ ∃ e, w'.heap[b]? = some (.cells ds.toArray e (0, 0))
  hp : (∀ j, D j -> j < w.heap.size -> w'.heap[j]? = w.heap[j]?) \/ HeapIs B D σ w' hp tv room cs'
structure SetB (B : Nat) (D : Nat -> Prop) (hp tv : Value) (room : Int) (cs cs' : List Cel) (w0 : World) (σ0 : Q2) (w1 : World) (σ : Q2) (b n : Nat) (w' : World) : Prop where
  hst : Hst w0 σ0 w' σ
  kp : Kpt (fun j => j = b \/ D j) w1 w'
  var : ∃ zs, zs.length = n /\ Y7 σ w' b zs
  hp : HeapIs B D σ w' hp tv room cs \/ HeapIs B D σ w' hp tv room cs'
theorem SetB.hs {n:Nat} (h:SetB B D hp tv room cs cs' w0 σ0 w1 σ b n w):Hst w0 σ0 w σ:=h.hst
theorem SetT.of_below (h:Below w.heap.size w w'):SetT B D σ hp tv room cs' b ds w w':=⟨.of_below h, .inl fun a=>h.block b a, .inl fun j _ c=>h.block j c⟩
theorem HeapIs.same (h:HeapIs B D σ w hp tv room cs) (k:Kpt (fun j=>j=b\/D j) w w') (g:X7 w' σ) (c: ¬D b) (d: ∀j,D j->j<w.heap.size->w'.heap[j]? =w.heap[j]?):HeapIs B D σ w' hp tv room cs:=
 h.nx (F:=fun j=>j=b) ⟨⟨k.os,k.tape,k.output,k.size,fun j a f=>by
  by_cases e:D j
  .exact d j e a
  .exact k.block j a fun h=>h.elim f e⟩,SLe.refl _,fun _ _=>rfl,g⟩ fun j a e=>c (e▸a)
theorem SetB.step {n:Nat} (i:w0.heap.size<=b) (hB:w0.heap.size<=B) (d: ¬D b) (m:ds.length=n) (h:SetB B D hp tv room cs cs' w0 σ0 w1 σ b n w) (k:SetT B D σ hp tv room cs' b ds w w'):SetB B D hp tv room cs cs' w0 σ0 w1 σ b n w':=by
 obtain ⟨o,g,c⟩:=h.var
 have f: ∀j,D j->w0.heap.size<=j/\σ j=none:=fun j hj=>by
  rcases h.hp with h | h
  .exact ⟨Nat.le_trans hB (h.mem hj).1,(h.mem hj).2.2⟩
  .exact ⟨Nat.le_trans hB (h.mem hj).1,(h.mem hj).2.2⟩
 have a:Stp w0 σ0 w' σ:=h.hst.stp.kp k.kp fun j hj=>by
  rcases hj with rfl | hj
  .exact ⟨i,c.1⟩
  .exact f j hj
 refine ⟨⟨a⟩,h.kp.trans k.kp,?_,?_⟩
 .rcases k.var with e | e
  .exact ⟨o,g,c.1,by rw[e c.lt];exact c.2⟩
  .exact ⟨ds,m,c.1,e⟩
 .rcases k.hp with e | e
  .rcases h.hp with h3 | h3
   .exact .inl (h3.same k.kp a.sat d e)
   .exact .inr (h3.same k.kp a.sat d e)
  .exact .inr e
theorem X6F {n:Nat} {A:(World->World->Prop)->(World->Prop)->Prop} (cs':List Cel) (ds:List Value) {d:List Value} (a:Stp w0 σ0 w σ) (g:w0.heap.size<=b) (hB:w0.heap.size<=B) (c: ¬D b) (k:Y7 σ w b d) (j:d.length=n) (i:ds.length=n) (hh:HeapIs B D σ w hp tv room cs)
 (h:A (SetT B D σ hp tv room cs' b ds) (SetB B D hp tv room cs cs' w0 σ0 w σ b n)):dr w A:=
 Is _ _ ⟨⟨a.trans (Stp.of_below a.sat (Below.refl _ _).drew)⟩, .of_below (Below.refl _ _).drew,⟨d,j,k⟩, .inl (hh.up (Stp.of_below a.sat (Below.refl _ _).drew))⟩ (fun _ _ e f=>e.step g hB c i f) h
theorem Q7S (h:V=v):dk (SetT B D σ hp tv room cs' b ds) (fun v _=>V=v) w v w:=⟨.of_below (Below.refl _ _),h⟩
theorem X5l (a:Below w.heap.size w w') (h:V=v):dk (SetT B D σ hp tv room cs' b ds) (fun v _=>V=v) w v w':=⟨.of_below a,h⟩
theorem X3K {n:Nat} {t:TypeId} {c:Nat} {z:Value} [tz:TZ P t n c z] {a:(List Value->Value->World->Prop)->Prop} {φ:Value->World->Prop} (r:ds.length=n) (m: ∀u∈ds,u.oneCell'=true) (E: ∀v w,φ v w-> .agg ds.toArray=v)
 (A:a (fun _ _ w=>Y7 σ w b ds)) (i:σ b=none) (d: ¬D b):Fh (SetT B D σ hp tv room cs' b ds) (fun G=> ∀x w,SetB B D hp tv room cs cs' w0 σ0 w1 σ b n w->φ x w->J9 P t (.pointer (some ⟨b,0,none⟩)) x w (dk (SetT B D σ hp tv room cs' b ds) (G [x]) w)) a:=by
 refine Q5S _ (fun xs v w w' h k=>?_) (fun x w q C=>?_) A
 .rcases k.var with e | e
  .exact ⟨i,by rw[e h.lt];exact h.2⟩
  .exact ⟨i,e⟩
 .have:=E x w C
  subst this;obtain ⟨H,o,p⟩:=q.var;exact Ma p o r (by rw[List.all_toArray];exact List.all_eq_true.2 m) fun w' g f=>⟨⟨.of_upd g (.inl rfl), .inr f.2, .inl fun j s y=>g.block j fun e=>d (e▸s)⟩,f⟩
theorem X5p {n:Nat} {x:Val} {r i:Int} {a:(Value->World->Prop)->Prop} {O Q R:Value->World->Prop} (J:Glb σ) (L:Tab σ tv l) (ok:Ok l) (q: ∀c∈cs,GoodC W1 l cs c) (f: ∀c∈(H6 W1 l cs r i x).1,GoodC W1 l (H6 W1 l cs r i x).1 c) (M:E4 σ x [I x.sort,I x.n,S x.s,I x.ref]) (t: ¬D b) (hσ:σ b=none)
 (X: ∀v w,O v w->I r=v) (Y: ∀v w,Q v w->I i=v) (Z: ∀v w,R v w->Value.agg [I x.sort,I x.n,S x.s,I x.ref].toArray=v)
 (hr:a (fun v w=>I (H6 W1 l cs r i x).2=v/\X7 w σ/\HeapIs B D σ w hp tv room (H6 W1 l cs r i x).1)):
 Z7 (SetT B D σ hp tv room (H6 W1 l cs r i x).1 b ds) (fun G=> ∀C E H w,SetB B D hp tv room cs (H6 W1 l cs r i x).1 w0 σ0 w1 σ b n w->O C w->Q E w->R H w->Q0 P F.u [hp,C,E,H] w (dk (SetT B D σ hp tv room (H6 W1 l cs r i x).1 b ds) G w)) a:=by
 refine H7 _ (fun v w w' h k=>?_) (fun C E H w A U e2 W=>?_) hr
 .obtain ⟨e,hs,h4⟩:=h
  have m:X7 w' σ:=Kpt.sat hs k.kp fun j y=>y.elim (fun e=>e▸hσ) fun y=>(h4.mem y).2.2
  rcases k.hp with e2 | e2
  .exact ⟨e,m,h4.same k.kp m t e2⟩
  .exact ⟨e,m,e2⟩
 .have:=X _ _ U
  have:=Y _ _ e2;have:=Z _ _ W
  subst_vars
  have p: ∀{d z},Nxt D w σ d z->HeapIs B D z d hp tv room (H6 W1 l cs r i x).1->SetT B D σ hp tv room (H6 W1 l cs r i x).1 b ds w d/\I (H6 W1 l cs r i x).2=I (H6 W1 l cs r i x).2/\X7 d σ/\HeapIs B D σ d hp tv room (H6 W1 l cs r i x).1:=fun {d z} N h4=>by
   have g:=h4.down N.le;have u:b<w.heap.size:=by obtain ⟨zs,_,hm⟩:=A.var;exact hm.lt
   exact ⟨⟨N.kp.mono fun _ _ y=> .inr y, .inl fun _=>N.kp.block b u t, .inr g⟩,rfl,fun k o e=>N.sat k o (N.le.le k o e),g⟩
  rcases A.hp with h4 | h4
  .exact X0M A.hst.sat J h4 L ok q M fun d z N g=>p N g
  .have hi:=X4n (ok:=W1) (l:=l) (cs:=cs) (r:=r) (i:=i) (v:=x)
   refine X0M A.hst.sat J h4 L ok f M fun d z N g=>?_;rw[hi] at g⊢;exact p N g
theorem Mk {B d:Nat} {D i:Nat->Prop} {m c:World} {b:Q2} {h g:List Cel} {a:List Value} {G:Bool->Prop} {f:Bool} (hG:G f) (N:Nxt D w σ m b) (t:HeapIs B i b m hp tv room h) (n: ∀j,i j->D j\/w.heap.size<=j) (p: ¬i d) (u:w.heap.size<=d)
 (A:Kpt (fun j=>j=d) m c) (q:X7 c b) (y:Y7 b c d a) (o:a.length=3) (z:H5 b (Q3 l,room,g) a)
 (hh: ∀a f w' σ' r,G f->Nxt D w σ w' σ'->HeapIs B r σ' w' hp tv room h->(∀j,r j->D j\/w.heap.size<=j)->H5 σ' (Q3 l,room,g) a->K (.tuple #[.agg a.toArray, .bool f]) w'):
 Z8 P T.a (.pointer (some ⟨d,0,none⟩)) c fun C=>K (.tuple #[C, .bool f]) c:=by
 refine W9 y o ?_;have s:Nxt (fun j=>j=d) m b c b:=⟨A,SLe.refl _,fun _ _=>rfl,q⟩;exact hh a f c b i hG (N.chain s fun j E e=>by omega) (t.nx s fun k v e=>p (e▸v)) n z
set_option maxRecDepth 9999 in
set_option maxHeartbeats 2000000 in
theorem X88 {B:Nat} {D:Nat->Prop} {x:ActH} {xs:List Value} {cr:List Cel} (hs:X7 w σ) (hg:Glb σ) (hB:B<=w.heap.size) (h:HeapIs B D σ w hp tv room cs) (hr:H5 σ (Q3 l,room,cr) ds) (ht:Tab σ tv (Q3 l)) (wf:Wf l) (ok:Ok (Q3 l)) (hlen:(Q3 l).length<=1000)
 (good:GoodH W1 (Q3 l) room cs) (goodr:GoodH W1 (Q3 l) room cr) (h1:room<=1048576) (hx:Kp σ x xs) (hD0: ∀k,D k->B<=k)
 (hh: ∀ds' bb w' σ' D',(cr=cs->bb=true)->Nxt D w σ w' σ'->HeapIs B D' σ' w' hp tv room (P2 W1 (Q3 l) room cs x)->(∀j,D' j->D j\/w.heap.size<=j)->H5 σ' (Q3 l,room,P2 W1 (Q3 l) room cr x) ds'->K (.tuple #[.agg ds'.toArray, .bool bb]) w'):Q0 P F.b8 [hp, .agg ds.toArray, .agg xs.toArray] w K:=Q3N (by
 have hx0:=hx;have hr0:=hr;obtain ⟨lv,cv,rfl,hl,hc⟩:=H5.out hr;obtain ⟨rfl,⟨b1,b2,b3,b4⟩,hv⟩:=hx;have hcl:=Xm cs;have hlf:=good.left;unfold O5 at hlf;have hclr:=Xm cr;have hlr:=goodr.left;unfold O5 at hlr;unfold Ba;simp only[Y5,X3,L1,Qi,M9,D2];unfold Y1 U6 Vt Y2 X4 X5;refine Z1 hs fun q4 w1 σ1 hk1 hq4=>?_;refine Z1 hk1.sat fun q5 w2 σ2 hk2 hq5=>?_;have hS2:=hk1.trans hk2;refine O7 hk2.sat fun b6 w3 σ3 hb6 hk3 hm6=>?_;have hS3:=hS2.trans hk3;have hB6:=C2 hb6 hS2;have hq43:=(hq4.up hk2).up hk3;have hq53:=hq5.up hk3;have h3:=h.up hS3;have hr3:=O8 hr0 ⟨hS3.le⟩;have ht3:=ht.lift ⟨hS3.le⟩;have hg3:=hg.lift ⟨hS3.le⟩;refine U3 ?_;refine ld (i:=0) hk3.sat hq53 rfl ?_;refine C8 ?_;have hDl: ∀k,D k->k<w.heap.size:=fun k hk=>(h.mem hk).2.1;have htk:U1 cs<=1048576:=by omega
 have htr:U1 cr<=1048576:=by omega
 by_cases e0:x.kind=0
 .rw[decide_eq_true e0]
  have ea:P2 W1 (Q3 l) room cs x=(Ua (Q3 l) room cs x.s).1:=by unfold P2;rw[if_pos e0]
  have er:P2 W1 (Q3 l) room cr x=(Ua (Q3 l) room cr x.s).1:=by unfold P2;rw[if_pos e0]
  rw[ea,er] at hh;refine J3 ?_;refine Z0 hk3.sat hq43 rfl ?_;refine U3 ?_;refine ld (i:=1) hk3.sat hq53 rfl ?_;refine X4d hk3.sat hr3 ok hlen b2 goodr.left h1 fun ds' w4 σ4 hk4 hr4=>?_;refine J4 (vs:=[_,_]) rfl ?_;refine J4 (vs:=[_,_]) rfl ?_;have hS4:=hS3.trans hk4;refine O7 hk4.sat fun b8 w5 σ5 hb8 hk5 hm8=>?_;have hS5:=hS4.trans hk5;have hB8:=C2 hb8 hS4;have hr5:=O8 hr4 ⟨hk5.le⟩;obtain ⟨lv',cv',hde,_,_⟩:=H5.out hr4;subst hde;refine Ma (ds:=[lv',I room,cv']) hm8 rfl rfl (by rw[List.all_toArray];exact List.all_eq_true.2 (Rep.one hr5)) fun w6 u6 hm86=>?_
  obtain ⟨σ7,hS7,hq8,l57,o7⟩:=Q5O (x:=(Q3 l,room,(Ua (Q3 l) room cr x.s).1)) hS5 hB8 hm8 u6 hm86;have l37:SLe σ3 σ7:=(SLe.more ⟨hk4.le⟩ ⟨hk5.le⟩).more l57;have hb68:b6≠b8:=by have:=(hm6.up hk4).lt;omega
  have hm66:=((hm6.up hk4).up hk5).upd u6 hb68;have hm67:Y7 σ7 w6 b6 _:=⟨(o7 b6 hb68).trans hm66.1,hm66.2⟩;have hq57:=hq53.lift l37;have hq47:=hq43.lift l37;refine U3 ?_;refine ld (i:=1) hS7.sat hq57 rfl ?_;refine Q7F hS7.sat (Nat.le_trans hB hS7.bel.size) (h.up hS7) (ht.lift ⟨hS7.le⟩) ok b2 good.left h1 fun w8 σ8 D8 N8 h8 hD8=>?_;refine J4 (vs:=[_,_]) rfl ?_;refine J4 (vs:=[_,_]) rfl ?_;have N:=(Nxt.of_stp (D:=D) hS7).chain N8 fun k _ e=>e;have hm68:=hm67.nx N8 fun e=>by have:=hDl _ e;omega
  have hne8: ¬D8 b6:=fun e=>by
   have:=hm67.lt
   rcases hD8 _ e with e | e
   .have:=hDl _ e;omega
   .omega
  have hD8': ∀j,D8 j->D j\/w.heap.size<=j:=fun j hj=>(hD8 j hj).imp id fun e=>Nat.le_trans hS7.bel.size e;have hq48:=hq47.lift N8.le;have hq88:=hq8.lift N8.le;have hc8:Sl 2 Xd σ8 cv cr:=hc.lift N.le;have hr8:=O8 hr5 (l57.more N8.le);have hsame:cr=cs->(Ua (Q3 l) room cr x.s).2=(Ua (Q3 l) room cs x.s).2:=fun h=>by rw[h]
  generalize (Ua (Q3 l) room cs x.s).2=e at*;generalize (Ua (Q3 l) room cr x.s).2=f at*;refine Q7W (w0:=Ae w8) (σ0:=fun _=>none) (n:=3) [lv',I room,cv'] (Jp N8.sat) (Nat.zero_le _) hm68 rfl rfl ?_;unfold atM
  by_cases hfe:f=e
  case neg=>
   have hz0:decide (f=e)=false:=decide_eq_false hfe
   (repeat (apply X2;(· intros;(have hzz:=VarB.hs Q7);(repeat (rename_i hx;subst hx));(try simp only[hz0,decide_true,Bool.not_true,Bool.not_false,Bool.false_eq_true,Bool.true_eq_false,reduceIte,↓M2,M2,Mb,reduceIte]);(repeat' (first | (with_reducible exact T5 rfl) | (with_reducible exact Ur (Stp.bel (by (repeat (first | exact Stp.refl (by (first | assumption | exact Stp.sat Q7 | exact Hst.sat Q7)) | assumption | refine Stp.trans ?_ (by first | assumption | exact Hst.stp Q7))))) rfl) | (with_reducible intro _) | (simp only[↓M2,M2,Mb,reduceIte]) | (with_reducible show Q6 _ _ _ _ _;first | refine Y6 aS aL aR ?_ | refine Z0 aS aL aR ?_ | refine ld aS aL aR ?_) | (with_reducible show indexAddr _ _ _ _ _ _;refine Z5 aL au ?_) | (with_reducible show U7 _ _ _ _ _ _ _ _;refine Q8 aL ?_) | (with_reducible show Qs _ _ _ _ _ _;refine V7 aR ?_) | (with_reducible show pick _ _ _ _ _ _;refine B8 ?_) | (apply Mz;intro hh;(try simp only[hh,reduceIte,↓M2,M2,Mb,reduceIte]))));done)))
   refine Wb (φ:=fun v _=>Value.agg [lv',I room,cv'].toArray=v) rfl (Rep.one hr5) (fun v w h=>h) ?_ hm68.1;intros;rename_i hm9
   (repeat (rename_i hx;subst hx))
   rename_i w9 hb9;exact Mk (G:=fun b=>cr=cs->b=true) (fun h=>absurd (hsame h) hfe) N h8 hD8' hne8 hB6 hb9.kp hb9.hst.sat hm9 rfl hr8 hh
  subst hfe
  by_cases e1:f=0
  .subst e1
   simp only[reduceIte];have hz0:decide True=true:=decide_true _
   (repeat (apply X2;(· intros;(have hzz:=VarB.hs Q7);(repeat (rename_i hx;subst hx));(try simp only[hz0,decide_true,Bool.not_true,Bool.not_false,Bool.false_eq_true,Bool.true_eq_false,reduceIte,↓M2,M2,Mb,reduceIte]);(repeat' (first | (with_reducible exact T5 rfl) | (with_reducible exact Ur (Stp.bel (by (repeat (first | exact Stp.refl (by (first | assumption | exact Stp.sat Q7 | exact Hst.sat Q7)) | assumption | refine Stp.trans ?_ (by first | assumption | exact Hst.stp Q7))))) rfl) | (with_reducible intro _) | (simp only[↓M2,M2,Mb,reduceIte]) | (with_reducible show Q6 _ _ _ _ _;first | refine Y6 aS aL aR ?_ | refine Z0 aS aL aR ?_ | refine ld aS aL aR ?_) | (with_reducible show indexAddr _ _ _ _ _ _;refine Z5 aL au ?_) | (with_reducible show U7 _ _ _ _ _ _ _ _;refine Q8 aL ?_) | (with_reducible show Qs _ _ _ _ _ _;refine V7 aR ?_) | (with_reducible show pick _ _ _ _ _ _;refine B8 ?_) | (apply Mz;intro hh;(try simp only[hh,reduceIte,↓M2,M2,Mb,reduceIte]))));done)))
   refine Wb (φ:=fun v _=>Value.agg [lv',I room,cv'].toArray=v) rfl (Rep.one hr5) (fun v w h=>h) ?_ hm68.1;intros;rename_i hm9
   (repeat (rename_i hx;subst hx))
   rename_i w9 hb9;exact Mk (G:=fun b=>cr=cs->b=true) (fun h=>by rw[h];exact decide_eq_true rfl) N h8 hD8' hne8 hB6 hb9.kp hb9.hst.sat hm9 rfl hr8 hh
  .simp only[if_neg e1]
   have hz0:decide (f=0)=false:=decide_eq_false e1
   (repeat (apply X2;(· intros;(have hzz:=VarB.hs Q7);(repeat (rename_i hx;subst hx));(try simp only[hz0,decide_true,Bool.not_true,Bool.not_false,Bool.false_eq_true,Bool.true_eq_false,reduceIte,↓M2,M2,Mb,reduceIte]);(repeat' (first | (with_reducible exact T5 rfl) | (with_reducible exact Ur (Stp.bel (by (repeat (first | exact Stp.refl (by (first | assumption | exact Stp.sat Q7 | exact Hst.sat Q7)) | assumption | refine Stp.trans ?_ (by first | assumption | exact Hst.stp Q7))))) rfl) | (with_reducible intro _) | (simp only[↓M2,M2,Mb,reduceIte]) | (with_reducible show Q6 _ _ _ _ _;first | refine Y6 aS aL aR ?_ | refine Z0 aS aL aR ?_ | refine ld aS aL aR ?_) | (with_reducible show indexAddr _ _ _ _ _ _;refine Z5 aL au ?_) | (with_reducible show U7 _ _ _ _ _ _ _ _;refine Q8 aL ?_) | (with_reducible show Qs _ _ _ _ _ _;refine V7 aR ?_) | (with_reducible show pick _ _ _ _ _ _;refine B8 ?_) | (apply Mz;intro hh;(try simp only[hh,reduceIte,↓M2,M2,Mb,reduceIte]))));done)))
   refine Wb (φ:=fun v _=>Value.agg [lv',I room,cv'].toArray=v) rfl (Rep.one hr5) (fun v w h=>h) ?_ hm68.1;intros;rename_i hm9
   (repeat (rename_i hx;subst hx))
   rename_i w9 hb9;exact Mk (G:=fun b=>cr=cs->b=true) (fun _=>rfl) N h8 hD8' hne8 hB6 hb9.kp hb9.hst.sat hm9 rfl hr8 hh
 rw[decide_eq_false e0];refine Z9 ?_;refine C8 ?_
 by_cases e1k:x.kind=1
 .rw[decide_eq_true e1k]
  have ea:P2 W1 (Q3 l) room cs x=(Vx (Q3 l) room cs x.s x.n).1:=by unfold P2;rw[if_neg e0,if_pos e1k]
  have er:P2 W1 (Q3 l) room cr x=(Vx (Q3 l) room cr x.s x.n).1:=by unfold P2;rw[if_neg e0,if_pos e1k]
  rw[ea,er] at hh;refine J3 ?_;refine Z0 hk3.sat hq43 rfl ?_;refine U3 ?_;refine ld (i:=1) hk3.sat hq53 rfl ?_;refine U3 ?_;refine ld (i:=2) hk3.sat hq53 rfl ?_;refine X5V hk3.sat hr3 b2 goodr.left h1 fun ds' w4 σ4 hk4 hr4=>?_;refine J4 (vs:=[_,_]) rfl ?_;refine J4 (vs:=[_,_]) rfl ?_;have hS4:=hS3.trans hk4;refine O7 hk4.sat fun b8 w5 σ5 hb8 hk5 hm8=>?_;have hS5:=hS4.trans hk5;have hB8:=C2 hb8 hS4;have hr5:=O8 hr4 ⟨hk5.le⟩;obtain ⟨lv',cv',hde,_,_⟩:=H5.out hr4;subst hde;refine Ma (ds:=[lv',I room,cv']) hm8 rfl rfl (by rw[List.all_toArray];exact List.all_eq_true.2 (Rep.one hr5)) fun w6 u6 hm86=>?_
  obtain ⟨σ7,hS7,hq8,l57,o7⟩:=Q5O (x:=(Q3 l,room,(Vx (Q3 l) room cr x.s x.n).1)) hS5 hB8 hm8 u6 hm86;have l37:SLe σ3 σ7:=(SLe.more ⟨hk4.le⟩ ⟨hk5.le⟩).more l57;have hb68:b6≠b8:=by have:=(hm6.up hk4).lt;omega
  have hm66:=((hm6.up hk4).up hk5).upd u6 hb68;have hm67:Y7 σ7 w6 b6 _:=⟨(o7 b6 hb68).trans hm66.1,hm66.2⟩;have hq57:=hq53.lift l37;have hq47:=hq43.lift l37;refine U3 ?_;refine ld (i:=1) hS7.sat hq57 rfl ?_;refine U3 ?_;refine ld (i:=2) hS7.sat hq57 rfl ?_;refine X54 hS7.sat (Nat.le_trans hB hS7.bel.size) (h.up hS7) (ht.lift ⟨hS7.le⟩) b2 good.left h1 fun w8 σ8 D8 N8 h8 hD8=>?_;refine J4 (vs:=[_,_]) rfl ?_;refine J4 (vs:=[_,_]) rfl ?_;have N:=(Nxt.of_stp (D:=D) hS7).chain N8 fun k _ e=>e;have hm68:=hm67.nx N8 fun e=>by have:=hDl _ e;omega
  have hne8: ¬D8 b6:=fun e=>by
   have:=hm67.lt
   rcases hD8 _ e with e | e
   .have:=hDl _ e;omega
   .omega
  have hD8': ∀j,D8 j->D j\/w.heap.size<=j:=fun j hj=>(hD8 j hj).imp id fun e=>Nat.le_trans hS7.bel.size e;have hq48:=hq47.lift N8.le;have hq88:=hq8.lift N8.le;have hc8:Sl 2 Xd σ8 cv cr:=hc.lift N.le;have hr8:=O8 hr5 (l57.more N8.le);have hsame:cr=cs->(Vx (Q3 l) room cr x.s x.n).2=(Vx (Q3 l) room cs x.s x.n).2:=fun h=>by rw[h]
  generalize (Vx (Q3 l) room cs x.s x.n).2=e at*;generalize (Vx (Q3 l) room cr x.s x.n).2=f at*;refine Q7W (w0:=Ae w8) (σ0:=fun _=>none) (n:=3) [lv',I room,cv'] (Jp N8.sat) (Nat.zero_le _) hm68 rfl rfl ?_;unfold atM
  by_cases hfe:f=e
  case neg=>
   have hz0:decide (f=e)=false:=decide_eq_false hfe
   (repeat (apply X2;(· intros;(have hzz:=VarB.hs Q7);(repeat (rename_i hx;subst hx));(try simp only[hz0,decide_true,Bool.not_true,Bool.not_false,Bool.false_eq_true,Bool.true_eq_false,reduceIte,↓M2,M2,Mb,reduceIte]);(repeat' (first | (with_reducible exact T5 rfl) | (with_reducible exact Ur (Stp.bel (by (repeat (first | exact Stp.refl (by (first | assumption | exact Stp.sat Q7 | exact Hst.sat Q7)) | assumption | refine Stp.trans ?_ (by first | assumption | exact Hst.stp Q7))))) rfl) | (with_reducible intro _) | (simp only[↓M2,M2,Mb,reduceIte]) | (with_reducible show Q6 _ _ _ _ _;first | refine Y6 aS aL aR ?_ | refine Z0 aS aL aR ?_ | refine ld aS aL aR ?_) | (with_reducible show indexAddr _ _ _ _ _ _;refine Z5 aL au ?_) | (with_reducible show U7 _ _ _ _ _ _ _ _;refine Q8 aL ?_) | (with_reducible show Qs _ _ _ _ _ _;refine V7 aR ?_) | (with_reducible show pick _ _ _ _ _ _;refine B8 ?_) | (apply Mz;intro hh;(try simp only[hh,reduceIte,↓M2,M2,Mb,reduceIte]))));done)))
   refine Wb (φ:=fun v _=>Value.agg [lv',I room,cv'].toArray=v) rfl (Rep.one hr5) (fun v w h=>h) ?_ hm68.1;intros;rename_i hm9
   (repeat (rename_i hx;subst hx))
   rename_i w9 hb9;exact Mk (G:=fun b=>cr=cs->b=true) (fun h=>absurd (hsame h) hfe) N h8 hD8' hne8 hB6 hb9.kp hb9.hst.sat hm9 rfl hr8 hh
  subst hfe
  by_cases e1:f=0
  .subst e1
   simp only[reduceIte];have hz0:decide True=true:=decide_true _
   (repeat (apply X2;(· intros;(have hzz:=VarB.hs Q7);(repeat (rename_i hx;subst hx));(try simp only[hz0,decide_true,Bool.not_true,Bool.not_false,Bool.false_eq_true,Bool.true_eq_false,reduceIte,↓M2,M2,Mb,reduceIte]);(repeat' (first | (with_reducible exact T5 rfl) | (with_reducible exact Ur (Stp.bel (by (repeat (first | exact Stp.refl (by (first | assumption | exact Stp.sat Q7 | exact Hst.sat Q7)) | assumption | refine Stp.trans ?_ (by first | assumption | exact Hst.stp Q7))))) rfl) | (with_reducible intro _) | (simp only[↓M2,M2,Mb,reduceIte]) | (with_reducible show Q6 _ _ _ _ _;first | refine Y6 aS aL aR ?_ | refine Z0 aS aL aR ?_ | refine ld aS aL aR ?_) | (with_reducible show indexAddr _ _ _ _ _ _;refine Z5 aL au ?_) | (with_reducible show U7 _ _ _ _ _ _ _ _;refine Q8 aL ?_) | (with_reducible show Qs _ _ _ _ _ _;refine V7 aR ?_) | (with_reducible show pick _ _ _ _ _ _;refine B8 ?_) | (apply Mz;intro hh;(try simp only[hh,reduceIte,↓M2,M2,Mb,reduceIte]))));done)))
   refine Wb (φ:=fun v _=>Value.agg [lv',I room,cv'].toArray=v) rfl (Rep.one hr5) (fun v w h=>h) ?_ hm68.1;intros;rename_i hm9
   (repeat (rename_i hx;subst hx))
   rename_i w9 hb9;exact Mk (G:=fun b=>cr=cs->b=true) (fun h=>by rw[h];exact decide_eq_true rfl) N h8 hD8' hne8 hB6 hb9.kp hb9.hst.sat hm9 rfl hr8 hh
  .simp only[if_neg e1]
   have hz0:decide (f=0)=false:=decide_eq_false e1
   (repeat (apply X2;(· intros;(have hzz:=VarB.hs Q7);(repeat (rename_i hx;subst hx));(try simp only[hz0,decide_true,Bool.not_true,Bool.not_false,Bool.false_eq_true,Bool.true_eq_false,reduceIte,↓M2,M2,Mb,reduceIte]);(repeat' (first | (with_reducible exact T5 rfl) | (with_reducible exact Ur (Stp.bel (by (repeat (first | exact Stp.refl (by (first | assumption | exact Stp.sat Q7 | exact Hst.sat Q7)) | assumption | refine Stp.trans ?_ (by first | assumption | exact Hst.stp Q7))))) rfl) | (with_reducible intro _) | (simp only[↓M2,M2,Mb,reduceIte]) | (with_reducible show Q6 _ _ _ _ _;first | refine Y6 aS aL aR ?_ | refine Z0 aS aL aR ?_ | refine ld aS aL aR ?_) | (with_reducible show indexAddr _ _ _ _ _ _;refine Z5 aL au ?_) | (with_reducible show U7 _ _ _ _ _ _ _ _;refine Q8 aL ?_) | (with_reducible show Qs _ _ _ _ _ _;refine V7 aR ?_) | (with_reducible show pick _ _ _ _ _ _;refine B8 ?_) | (apply Mz;intro hh;(try simp only[hh,reduceIte,↓M2,M2,Mb,reduceIte]))));done)))
   refine Wb (φ:=fun v _=>Value.agg [lv',I room,cv'].toArray=v) rfl (Rep.one hr5) (fun v w h=>h) ?_ hm68.1;intros;rename_i hm9
   (repeat (rename_i hx;subst hx))
   rename_i w9 hb9;exact Mk (G:=fun b=>cr=cs->b=true) (fun _=>rfl) N h8 hD8' hne8 hB6 hb9.kp hb9.hst.sat hm9 rfl hr8 hh
 rw[decide_eq_false e1k];refine Z9 ?_;refine C8 ?_;have hv43:J7 σ3 (q5.add 4) [I x.v.sort,I x.v.n,S x.v.s,I x.v.ref]:=hq53.tail (xs:=[_,_,_,_]);have hvr:E4 σ x.v [I x.v.sort,I x.v.n,S x.v.s,I x.v.ref]:=⟨rfl,hv⟩
 by_cases e2k:x.kind=2
 .rw[decide_eq_true e2k]
  have ea:P2 W1 (Q3 l) room cs x=(H6 W1 (Q3 l) cs x.ref x.n x.v).1:=by unfold P2;rw[if_neg e0,if_neg e1k,if_pos e2k]
  have er:P2 W1 (Q3 l) room cr x=(H6 W1 (Q3 l) cr x.ref x.n x.v).1:=by unfold P2;rw[if_neg e0,if_neg e1k,if_pos e2k]
  rw[ea,er] at hh;have good':=(GoodH.set good x.ref x.n x.v).cells;refine J3 ?_;refine Z0 hk3.sat hq43 rfl ?_;refine U3 ?_;refine ld (i:=3) hk3.sat hq53 rfl ?_;refine U3 ?_;refine ld (i:=2) hk3.sat hq53 rfl ?_;refine U3 ?_;refine Z0 hk3.sat hv43 rfl ?_;refine X7M hk3.sat hr3 wf ok hlen goodr.cells htr ⟨rfl,hv⟩ fun ds' w4 σ4 hk4 hr4=>?_;refine J4 (vs:=[_,_]) rfl ?_;refine J4 (vs:=[_,_]) rfl ?_;have hS4:=hS3.trans hk4;refine O7 hk4.sat fun b8 w5 σ5 hb8 hk5 hm8=>?_;have hS5:=hS4.trans hk5;have hB8:=C2 hb8 hS4;have hr5:=O8 hr4 ⟨hk5.le⟩;obtain ⟨lv',cv',hde,_,_⟩:=H5.out hr4;subst hde;refine Ma (ds:=[lv',I room,cv']) hm8 rfl rfl (by rw[List.all_toArray];exact List.all_eq_true.2 (Rep.one hr5)) fun w6 u6 hm86=>?_
  obtain ⟨σ7,hS7,hq8,l57,o7⟩:=Q5O (x:=(Q3 l,room,(H6 W1 (Q3 l) cr x.ref x.n x.v).1)) hS5 hB8 hm8 u6 hm86;have l37:SLe σ3 σ7:=(SLe.more ⟨hk4.le⟩ ⟨hk5.le⟩).more l57;have hb68:b6≠b8:=by have:=(hm6.up hk4).lt;omega
  have hm66:=((hm6.up hk4).up hk5).upd u6 hb68;have hm67:Y7 σ7 w6 b6 _:=⟨(o7 b6 hb68).trans hm66.1,hm66.2⟩;have hq57:=hq53.lift l37;have hv47:=hv43.lift l37;have hr7:=O8 hr5 l57;have hbD: ¬D b6:=fun e=>by have:=hDl _ e;omega
  refine X6F (w0:=Ae w6) (σ0:=fun _=>none) (n:=3) (H6 W1 (Q3 l) cs x.ref x.n x.v).1 [lv',I room,cv'] (Jp hS7.sat) (Nat.zero_le _) (Nat.zero_le _) hbD hm67 rfl rfl (h.up hS7) ?_
  (repeat (apply X2;(· intros;(have hzz:=SetB.hs Q7);(repeat (rename_i hx;subst hx));(repeat' (first | (with_reducible exact Q7S rfl) | (with_reducible exact X5l (Stp.bel (by (repeat (first | exact Stp.refl (by (first | assumption | exact Stp.sat Q7 | exact Hst.sat Q7)) | assumption | refine Stp.trans ?_ (by first | assumption | exact Hst.stp Q7))))) rfl) | (with_reducible intro _) | (simp only[↓M2,M2,Mb,reduceIte]) | (with_reducible show Q6 _ _ _ _ _;first | refine Y6 aS aL aR ?_ | refine Z0 aS aL aR ?_ | refine ld aS aL aR ?_) | (with_reducible show indexAddr _ _ _ _ _ _;refine Z5 aL au ?_) | (with_reducible show U7 _ _ _ _ _ _ _ _;refine Q8 aL ?_) | (with_reducible show Qs _ _ _ _ _ _;refine V7 aR ?_) | (with_reducible show pick _ _ _ _ _ _;refine B8 ?_)));done)))
  refine X5p (hg.lift ⟨hS7.le⟩) (ht.lift ⟨hS7.le⟩) ok good.cells good' ⟨rfl,hv⟩ hbD hm67.1 (fun _ _ h=>h) (fun _ _ h=>h) (fun _ _ h=>h) ?_;refine X2 (V:= .bool (decide ((H6 W1 (Q3 l) cs x.ref x.n x.v).2=(H6 W1 (Q3 l) cr x.ref x.n x.v).2))) (fun t w hb ht=>?_) ?_
  .obtain ⟨rfl,_,_⟩:=ht
   refine C8 ?_;exact Q7S rfl
  refine X3K (φ:=fun v _=>Value.agg [lv',I room,cv'].toArray=v) rfl (Rep.one hr5) (fun v w h=>h) ?_ hm67.1 hbD;intros;rename_i hm9
  (repeat (rename_i hx;subst hx))
  rename_i hset
  (repeat (rename_i hx;subst hx))
  rename_i w9 hb9;obtain ⟨_,hs9,h9⟩:=hset;refine W9 hm9 rfl ?_;have Nb:Nxt (fun j=>j=b6\/D j) w6 σ7 w9 σ7:=⟨hb9.kp,SLe.refl _,fun _ _=>rfl,hs9⟩;exact hh _ _ w9 σ7 D (fun h=>by rw[h];exact decide_eq_true rfl) ((Nxt.of_stp (D:=D) hS7).chain Nb fun j hj e=>e.elim (fun e=>by omega) id) h9 (fun j hj=> .inl hj) hr7
 rw[decide_eq_false e2k];refine Z9 ?_;refine C8 ?_
 by_cases e3k:x.kind=3
 .rw[decide_eq_true e3k]
  have ea:P2 W1 (Q3 l) room cs x=cs:=by unfold P2;rw[if_neg e0,if_neg e1k,if_neg e2k,if_neg Q4]
  have er:P2 W1 (Q3 l) room cr x=cr:=by unfold P2;rw[if_neg e0,if_neg e1k,if_neg e2k,if_neg Q4]
  rw[ea,er] at hh;refine J3 ?_;refine Z0 hk3.sat hq43 rfl ?_;refine U3 ?_;refine ld (i:=3) hk3.sat hq53 rfl ?_;refine U3 ?_;refine ld (i:=2) hk3.sat hq53 rfl ?_;refine X7L hk3.sat hr3 fun w4 σ4 hk4=>?_;refine J4 (vs:=[_,_]) rfl ?_;refine J4 (vs:=[_,_]) rfl ?_;refine J1 (sz:=4) hk4.sat aR aR Cm fun q8 w5 σ5 hk5 hq8=>?_;have hk35:=hk4.trans hk5;have hS5:=hS3.trans hk35;have h5:=h.up hS5;have hq55:=hq53.lift ⟨hk35.le⟩;refine U3 ?_;refine ld (i:=3) hk35.sat hq55 rfl ?_;refine U3 ?_;refine ld (i:=2) hk35.sat hq55 rfl ?_;obtain ⟨σf,sf,lef,hsl,of⟩:=h5.freeze hk35.sat;refine X24 sf hsl fun w6 σ6 hk6=>?_;refine J4 (vs:=[_,_]) rfl ?_;refine J4 (vs:=[_,_]) rfl ?_;refine J1 (sz:=4) hk6.sat aR aR Cm fun q9 w7 σ7 hk7 hq9=>?_;have hk57:=hk6.trans hk7;have hS57:=hk57.weak lef.le;have hS7:=hS5.trans hS57;have l57:SLe σ5 σ7:=lef.more ⟨hk57.le⟩;have hbD: ¬D b6:=fun e=>by have:=hDl _ e;omega
  have hm65:=hm6.up hk35;have hm6f:Y7 σf w5 b6 _:=⟨(of b6 hbD).trans hm65.1,hm65.2⟩;have hm67:=hm6f.up hk57;have hq47:=(hq43.lift ⟨hk35.le⟩).lift l57;have hq87:=hq8.lift l57;refine Q7W (w0:=Ae w7) (σ0:=fun _=>none) (n:=3) [lv,I room,cv] (Jp hk57.sat) (Nat.zero_le _) hm67 rfl rfl ?_;have n5:σ5 b6=none:=hm65.1;have hq97:=hq9
  by_cases hge:Md cr x.ref x.n=Md cs x.ref x.n
  .have hz0:decide True=true:=decide_true _
   (repeat (apply X2;(· intros;(have hzz:=VarB.hs Q7);(repeat (rename_i hx;subst hx));(try simp only[hz0,decide_true,Bool.not_true,Bool.not_false,Bool.false_eq_true,Bool.true_eq_false,reduceIte,↓M2,M2,Mb,reduceIte]);(repeat' (first | (with_reducible exact T5 rfl) | (with_reducible exact Ur (Stp.bel (by (repeat (first | exact Stp.refl (by (first | assumption | exact Stp.sat Q7 | exact Hst.sat Q7)) | assumption | refine Stp.trans ?_ (by first | assumption | exact Hst.stp Q7))))) rfl) | (with_reducible intro _) | (simp only[↓M2,M2,Mb,reduceIte]) | (with_reducible show Q6 _ _ _ _ _;first | refine Y6 aS aL aR ?_ | refine Z0 aS aL aR ?_ | refine ld aS aL aR ?_) | (with_reducible show indexAddr _ _ _ _ _ _;refine Z5 aL au ?_) | (with_reducible show U7 _ _ _ _ _ _ _ _;refine Q8 aL ?_) | (with_reducible show Qs _ _ _ _ _ _;refine V7 aR ?_) | (with_reducible show pick _ _ _ _ _ _;refine B8 ?_) | (apply Mz;intro hh;(try simp only[hh,reduceIte,↓M2,M2,Mb,reduceIte]))));done)))
   refine X2 (V:= .bool true) (by
    intros
    (repeat (rename_i hx;subst hx))
    refine Ln ?_;exact T5 (by rw[hge,decide_eq_true rfl])) ?_
   (repeat (apply X2;(· intros;(have hzz:=VarB.hs Q7);(repeat (rename_i hx;subst hx));(try simp only[hz0,decide_true,Bool.not_true,Bool.not_false,Bool.false_eq_true,Bool.true_eq_false,reduceIte,↓M2,M2,Mb,reduceIte]);(repeat' (first | (with_reducible exact T5 rfl) | (with_reducible exact Ur (Stp.bel (by (repeat (first | exact Stp.refl (by (first | assumption | exact Stp.sat Q7 | exact Hst.sat Q7)) | assumption | refine Stp.trans ?_ (by first | assumption | exact Hst.stp Q7))))) rfl) | (with_reducible intro _) | (simp only[↓M2,M2,Mb,reduceIte]) | (with_reducible show Q6 _ _ _ _ _;first | refine Y6 aS aL aR ?_ | refine Z0 aS aL aR ?_ | refine ld aS aL aR ?_) | (with_reducible show indexAddr _ _ _ _ _ _;refine Z5 aL au ?_) | (with_reducible show U7 _ _ _ _ _ _ _ _;refine Q8 aL ?_) | (with_reducible show Qs _ _ _ _ _ _;refine V7 aR ?_) | (with_reducible show pick _ _ _ _ _ _;refine B8 ?_) | (apply Mz;intro hh;(try simp only[hh,reduceIte,↓M2,M2,Mb,reduceIte]))));done)))
   refine Wb (φ:=fun v _=>Value.agg [lv,I room,cv].toArray=v) rfl (Rep.one hr3) (fun v w h=>h) ?_ hm67.1;intros;rename_i hm9
   (repeat (rename_i hx;subst hx))
   rename_i w9 hb9;exact Mk (G:=fun b=>cr=cs->b=true) (fun h=>by rw[h];exact decide_eq_true rfl) (Nxt.of_stp (D:=D) hS7) (h5.up hS57) (fun j hj=> .inl hj) hbD hB6 hb9.kp (fun k o e=>hb9.hst.sat k o (l57.le k o e)) ⟨n5,hm9.2⟩ rfl (O8 hr0 ⟨hS7.le⟩) hh
  .have hz0:decide True=true:=decide_true _
   (repeat (apply X2;(· intros;(have hzz:=VarB.hs Q7);(repeat (rename_i hx;subst hx));(try simp only[hz0,decide_true,Bool.not_true,Bool.not_false,Bool.false_eq_true,Bool.true_eq_false,reduceIte,↓M2,M2,Mb,reduceIte]);(repeat' (first | (with_reducible exact T5 rfl) | (with_reducible exact Ur (Stp.bel (by (repeat (first | exact Stp.refl (by (first | assumption | exact Stp.sat Q7 | exact Hst.sat Q7)) | assumption | refine Stp.trans ?_ (by first | assumption | exact Hst.stp Q7))))) rfl) | (with_reducible intro _) | (simp only[↓M2,M2,Mb,reduceIte]) | (with_reducible show Q6 _ _ _ _ _;first | refine Y6 aS aL aR ?_ | refine Z0 aS aL aR ?_ | refine ld aS aL aR ?_) | (with_reducible show indexAddr _ _ _ _ _ _;refine Z5 aL au ?_) | (with_reducible show U7 _ _ _ _ _ _ _ _;refine Q8 aL ?_) | (with_reducible show Qs _ _ _ _ _ _;refine V7 aR ?_) | (with_reducible show pick _ _ _ _ _ _;refine B8 ?_) | (apply Mz;intro hh;(try simp only[hh,reduceIte,↓M2,M2,Mb,reduceIte]))));done)))
   refine X2 (V:= .bool false) (by
    intros
    (repeat (rename_i hx;subst hx))
    refine Ln ?_;exact T5 (by rw[decide_eq_false hge])) ?_
   (repeat (apply X2;(· intros;(have hzz:=VarB.hs Q7);(repeat (rename_i hx;subst hx));(try simp only[hz0,decide_true,Bool.not_true,Bool.not_false,Bool.false_eq_true,Bool.true_eq_false,reduceIte,↓M2,M2,Mb,reduceIte]);(repeat' (first | (with_reducible exact T5 rfl) | (with_reducible exact Ur (Stp.bel (by (repeat (first | exact Stp.refl (by (first | assumption | exact Stp.sat Q7 | exact Hst.sat Q7)) | assumption | refine Stp.trans ?_ (by first | assumption | exact Hst.stp Q7))))) rfl) | (with_reducible intro _) | (simp only[↓M2,M2,Mb,reduceIte]) | (with_reducible show Q6 _ _ _ _ _;first | refine Y6 aS aL aR ?_ | refine Z0 aS aL aR ?_ | refine ld aS aL aR ?_) | (with_reducible show indexAddr _ _ _ _ _ _;refine Z5 aL au ?_) | (with_reducible show U7 _ _ _ _ _ _ _ _;refine Q8 aL ?_) | (with_reducible show Qs _ _ _ _ _ _;refine V7 aR ?_) | (with_reducible show pick _ _ _ _ _ _;refine B8 ?_) | (apply Mz;intro hh;(try simp only[hh,reduceIte,↓M2,M2,Mb,reduceIte]))));done)))
   refine Wb (φ:=fun v _=>Value.agg [lv,I room,cv].toArray=v) rfl (Rep.one hr3) (fun v w h=>h) ?_ hm67.1;intros;rename_i hm9
   (repeat (rename_i hx;subst hx))
   rename_i w9 hb9;exact Mk (G:=fun b=>cr=cs->b=true) (fun h=>absurd (by rw[h]) hge) (Nxt.of_stp (D:=D) hS7) (h5.up hS57) (fun j hj=> .inl hj) hbD hB6 hb9.kp (fun k o e=>hb9.hst.sat k o (l57.le k o e)) ⟨n5,hm9.2⟩ rfl (O8 hr0 ⟨hS7.le⟩) hh
 rw[decide_eq_false e3k];refine Z9 ?_;refine C8 ?_
 by_cases e4k:x.kind=4
 .rw[decide_eq_true e4k]
  have ea:P2 W1 (Q3 l) room cs x=Al cs x.ref:=by unfold P2;rw[if_neg e0,if_neg e1k,if_neg e2k,if_pos e4k]
  have er:P2 W1 (Q3 l) room cr x=Al cr x.ref:=by unfold P2;rw[if_neg e0,if_neg e1k,if_neg e2k,if_pos e4k]
  rw[ea,er] at hh;refine J3 ?_;refine U3 ?_;refine ld (i:=3) hk3.sat hq53 rfl ?_;refine X7m hk3.sat h3 htk b4 fun w4 σ4 D4 N4 h4 hD4=>?_;have hq54:=hq53.lift N4.le;have hq44:=hq43.lift N4.le;refine Z0 N4.sat hq44 rfl ?_;refine U3 ?_;refine ld (i:=3) N4.sat hq54 rfl ?_;refine X7J N4.sat (O8 hr3 N4.le) htr b4 fun ds' w5 σ5 hk5 hr5=>?_;have hbD: ¬D b6:=fun e=>by have:=hDl _ e;omega
  have hm65:=(hm6.nx N4 hbD).up hk5;obtain ⟨lv',cv',hde,_,_⟩:=H5.out hr5;subst hde;refine Ma (ds:=[lv',I room,cv']) hm65 rfl rfl (by rw[List.all_toArray];exact List.all_eq_true.2 (Rep.one hr5)) fun w6 u6 hm66=>?_
  have N:=(Nxt.of_stp (D:=D) hS3).chain (N4.trans (Nxt.of_stp hk5)) fun j _ e=>e;exact Mk (G:=fun b=>cr=cs->b=true) (fun _=>rfl) N (h4.up hk5) (fun j hj=> .inl (hD4 j hj)) (fun e=>hbD (hD4 _ e)) hB6 (Kpt.of_upd u6 rfl) (u6.stp (Jp hk5.sat) (Nat.zero_le _) hm65.1).sat hm66 rfl hr5 hh
 rw[decide_eq_false e4k];refine Z9 ?_;have ea:P2 W1 (Q3 l) room cs x=cs:=by unfold P2;rw[if_neg e0,if_neg e1k,if_neg e2k,if_neg e4k]
 have er:P2 W1 (Q3 l) room cr x=cr:=by unfold P2;rw[if_neg e0,if_neg e1k,if_neg e2k,if_neg e4k]
 rw[ea,er] at hh;refine Z0 hk3.sat hq43 rfl ?_;refine Ma (ds:=[lv,I room,cv]) hm6 rfl rfl (by rw[List.all_toArray];exact List.all_eq_true.2 (Rep.one hr3)) fun w6 u6 hm66=>?_
 have hbD: ¬D b6:=fun e=>by have:=hDl _ e;omega
 exact Mk (G:=fun b=>cr=cs->b=true) (fun _=>rfl) (Nxt.of_stp (D:=D) hS3) h3 (fun j hj=> .inl hj) hbD hB6 (Kpt.of_upd u6 rfl) (u6.stp (Jp hk3.sat) (Nat.zero_le _) hm6.1).sat hm66 rfl hr3 hh)
end Go.Proofs.Y
namespace Go.Emb
theorem X8l {w:World} {A:World->Prop} (h:A w.drew):sq w A:=by rw[X1F];exact h
end Go.Emb
namespace Go.Proofs.Y
open Go.Emb Go.RowKit Go.Kd Go.Hm
variable {w w' w0 : World} {K : Value -> World -> Prop} {σ σ' σ0 : Q2} {room : Int} {cs cr : List Cel} {hp tv : Value} {b6 : Nat}
structure RunG (w0 : World) (σ0 : Q2) (w : World) (σ : Q2) (hp tv : Value) (b6 : Nat) (room : Int) (cs cr : List Cel) : Prop where
  stp : Stp w0 σ0 w σ
  ex : ∃ D ds, HeapIs w0.heap.size D σ w hp tv room cs /\ ¬ D b6 /\ Y7 σ w b6 ds /\ H5 σ (Q3 L3, room, cr) ds
  bge : w0.heap.size <= b6
  tab : Tab σ tv (Q3 L3)
  ok : Ok (Q3 L3)
  good : GoodH W1 (Q3 L3) room cs
  goodr : GoodH W1 (Q3 L3) room cr
  rm : room <= 1048576
abbrev Run (w0:World) (σ0:Q2) (w:World) (σ:Q2) (hp tv:Value) (b6:Nat) (room:Int) (cs:List Cel):Prop:=RunG w0 σ0 w σ hp tv b6 room cs cs
theorem RunG.up (R:RunG w0 σ0 w σ hp tv b6 room cs cr) (k:Stp w σ w' σ'):RunG w0 σ0 w' σ' hp tv b6 room cs cr:=by
 obtain ⟨D,ds,a,b,c,d⟩:=R.ex;exact ⟨R.stp.trans k,⟨D,ds,a.up k,b,c.up k,O8 d ⟨k.le⟩⟩,R.bge,R.tab.lift ⟨k.le⟩,R.ok,R.good,R.goodr,R.rm⟩
theorem RunG.below (R:RunG w0 σ0 w σ hp tv b6 room cs cr) (k:Below w.heap.size w w'):RunG w0 σ0 w' σ hp tv b6 room cs cr:=R.up (Stp.of_below R.stp.sat k)
theorem RunG.act {x:ActH} {m ds:List Value} {D:Nat->Prop} (R:RunG w0 σ0 w σ hp tv b6 room cs cr) (s:Glb σ0) (d:HeapIs w0.heap.size D σ w hp tv room cs) (n: ¬D b6) (o:Y7 σ w b6 ds) (q:H5 σ (Q3 L3,room,cr) ds) (u:Kp σ x m)
 (h: ∀a b w' σ' l,HeapIs w0.heap.size l σ' w' hp tv room (P2 W1 (Q3 L3) room cs x)-> ¬l b6->Y7 σ' w' b6 ds->H5 σ' (Q3 L3,room,P2 W1 (Q3 L3) room cr x) a->Stp w0 σ0 w' σ'->SLe σ σ'->(cr=cs->b=true)->K (.tuple #[.agg a.toArray, .bool b]) w'):Q0 P F.b8 [hp, .agg ds.toArray, .agg m.toArray] w K:=by
 refine X88 R.stp.sat (s.lift ⟨R.stp.le⟩) R.stp.bel.size d q R.tab Q3e R.ok L2 R.good R.goodr R.rm u (fun k i=>(d.mem i).1) fun a b v y p g c r f j=>?_;have t:=o.lt;exact h a b v y p r (fun e=>(f _ e).elim n fun e=>by omega) (o.nx c n) j (c.stp' R.stp fun k i=>(d.mem i).1) c.le g
end Go.Proofs.Y
namespace Go.Hm
open Go.Kd
def gA:X0:=[65]
def rV (n:Int):Val:=⟨4,0,[],n⟩
def Jr (n:Int):Cel:=⟨gA,[⟨1,0,[],0⟩,rV n]⟩
def Im:Cel:=⟨gA,[⟨1,0,[],0⟩,Val.zero]⟩
set_option maxRecDepth 100000 in
theorem X6S {room:Int} {cs:List Cel} (h:3<=O5 room cs):Ua (Q3 L3) room cs gA=(cs++[Im],0):=by
 have a:Xy (Q3 L3) gA=true:=by decide+kernel
 have b:U4 (Q3 L3) gA=[⟨[120],Yh,false⟩,⟨[110,101,120,116],gA,false⟩]:=by decide+kernel
 unfold Ua;rw[a,b];rw[if_neg (by simp),if_neg (by simp;omega)]
 rfl
set_option maxRecDepth 100000 in
theorem X5C:H6 (fun _=>true) (Q3 L3) [Im] 0 1 (rV 0)=([Jr 0],0):=by decide+kernel
set_option maxRecDepth 100000 in
theorem X5D:H6 (fun _=>true) (Q3 L3) [Im,Im] 0 1 (rV 1)=([Jr 1,Im],0):=by decide+kernel
set_option maxRecDepth 100000 in
theorem X5E:H6 (fun _=>true) (Q3 L3) [Jr 1,Im] 1 1 (rV 0)=([Jr 1,Jr 0],0):=by decide+kernel
set_option maxRecDepth 100000 in
theorem X5F:H6 (fun _=>true) (Q3 L3) [Jr 1,Jr 0,Im] 2 1 (rV 2)=([Jr 1,Jr 0,Jr 2],0):=by decide+kernel
def gxB:List Cel:=[Jr 1,Jr 0,Jr 2]
set_option maxRecDepth 100000 in
theorem X3T:Sf (Q3 L3) [Jr 0] gxB (rV 0) (rV 2)=true:=by decide+kernel
set_option maxRecDepth 100000 in
theorem X6R:Sf (Q3 L3) [Jr 0] gxB (rV 0) (rV 0)=false:=by decide+kernel
set_option maxRecDepth 100000 in
theorem X3U:Q26 (Q3 L3) gxB (rV 0)=true:=by decide+kernel
set_option maxRecDepth 100000 in
theorem X3V:(Xi (Q3 L3) gxB (rV 0)).length=2:=by decide+kernel
set_option maxRecDepth 100000 in
theorem X5B:(Q0V (Q3 L3) (Jr 1)).length=2:=by decide+kernel
def X6K (x:ActH):Bool:=decide (x.s.length<=100)&&decide (x.v.s.length<=5000)
theorem Q6W: ∀(cs:List Cel) {c:Cel},c∈cs->(c.vals.length:Int)<=U1 cs
 | [],c,h=>by cases h
 | d::cs,c,h=>by
  have e:U1 (d::cs)=1+(d.vals.length:Int)+U1 cs:=by simp[U1]
  have:=R3 cs
  rcases List.mem_cons.1 h with rfl | h
  .omega
  .have:=Q6W cs h;omega
theorem X66 {cs:List Cel} {n:Nat} (h:U1 cs<=(n:Int)) (r:Int):Vq cs r<=n:=by
 unfold Vq Cn
 split
 .rename_i b
  obtain ⟨i,rfl,a⟩:=M3.1 b;rw[L8 a];have:=Q6W cs (List.getElem_mem a)
  simp;omega
 .simp
end Go.Hm
namespace Go.Proofs.Y
open Go.Emb Go.RowKit Go.Kd Go.Hm
variable {w w' w0 : World} {K : Value -> World -> Prop} {σ σ' σ0 : Q2} {room : Int} {cs cr : List Cel} {hp tv : Value} {b6 : Nat}
def Np (room:Int) (cs:List Cel) (x:ActH):List Cel:=if X6K x then P2 W1 (Q3 L3) room cs x else cs
def Si (xs:List ActH):List Cel:=(xs.take 40).foldl (Np 300) []
theorem X2w {room:Int} {cs:List Cel} (a:W1 []=true) (b:Wf L3) (h:GoodH W1 (Q3 L3) room cs) (x:ActH):GoodH W1 (Q3 L3) room (Np room cs x):=by
 unfold Np
 split
 .exact GoodH.act b a h x
 .exact h
theorem Q6A {room:Int} (a:W1 []=true) (b:Wf L3): ∀(xs:List ActH) {cs:List Cel},GoodH W1 (Q3 L3) room cs->GoodH W1 (Q3 L3) room (xs.foldl (Np room) cs)
 | [],_,h=>h
 | x::xs,_,h=>Q6A a b xs (X2w a b h x)
theorem X0L (xs:List ActH):GoodH W1 (Q3 L3) 300 (Si xs):=Q6A Q63 Q3e _ (GoodH.empty L2)
structure Fit (cs : List Cel) : Prop where
  good : ∀ c ∈ cs, GoodC W1 (Q3 L3) cs c
  len : cs.length <= 1048576
  sz : ∀ r, Vq cs r <= 1000000000000
  refs : X1P cs
theorem X2s {room:Int} (h:GoodH W1 (Q3 L3) room cs) (c:room<=300):Fit cs:=by
 have a:=h.left;unfold O5 at a;have b:=Xm cs;exact ⟨h.cells,by omega,fun r=>Nat.le_trans (X66 (n:=300) Q4 r) L2,X2v h.cells⟩
theorem X2r (xs:List ActH):Fit (Si xs):=X2s (X0L xs) L2
theorem X7f {a:Addr} {b c:Operand} (h:K (.bool true) w):Z2 P .neq T.a2 b c (.pointer (some a)) (.pointer none) w K:=by
 have e:(Op.equal T.a2 (.pointer (some a)) (.pointer none)).run P w= .ok false w:=Q8S 9999 _;unfold Z2;rw[Y8 (v:= .bool true) (w':=w) (by simp[eqGuard,Go.binOp,e])]
 exact h
theorem RunG.fix (R:RunG w0 σ0 w σ hp tv b6 room cs cr): ∃c ds,Stp w0 σ0 w c/\SLe σ c/\N0 c hp tv room cs/\Y7 c w b6 ds/\H5 c (Q3 L3,room,cr) ds/\Tab c tv (Q3 L3):=by
 obtain ⟨D,ds,f,h,g,i⟩:=R.ex;obtain ⟨c,l,a,d,of⟩:=f.freeze R.stp.sat;refine ⟨c,ds,⟨R.stp.bel,l,fun b o e=>a.le _ _ (R.stp.le b o e),fun k j=>(of k fun e=>?_).trans (R.stp.old k j)⟩,a,d,⟨(of b6 h).trans g.1,g.2⟩,O8 i a,R.tab.lift a⟩;have:=(f.mem e).1;omega
set_option maxHeartbeats 1000000 in
theorem X55 {xs:List ActH} {v:Value} (hs:X7 w σ) (hg:Glb σ) (hv:Sl 8 Kp σ v xs)
 (h: ∀a tv ds w' σ',Stp w σ w' σ'->N0 σ' (.pointer (some a)) tv 300 (Si xs)->H5 σ' (Q3 L3,300,Si xs) ds->Tab σ' tv (Q3 L3)->Ok (Q3 L3)->K (.tuple #[.pointer (some a), .agg ds.toArray]) w'):Q0 P F.aH [v] w K:=Q0y (by
 unfold Dv;simp only[Y5,M9,D2];unfold V0 V6 X6 Y2 X4 X5;refine O7 hs fun b3 w1 σ1 af X ag=>?_;have L:=hg.lift ⟨X.le⟩;refine Q67 X.sat L L2 fun b a D ds w2 σ2 Y W g O ok=>?_;rw[show (300 % 301:Int)=300 from rfl] at W g
 refine J4 (vs:=[_,_]) rfl ?_;refine J4 (vs:=[_,_]) rfl ?_;refine O7 Y.sat fun U w3 σ3 q k3 f=>?_;have ae:=C2 q Y;refine Ma f rfl (by obtain ⟨B,A,rfl,_⟩:=H5.out g;rfl) (by rw[List.all_toArray];exact List.all_eq_true.2 (Rep.one g)) fun w4 u4 p=>?_
 have m:Stp w2 σ2 w4 σ3:=u4.stp k3 q f.1;have R4:Run w1 σ1 w4 σ3 (.pointer (some ⟨b,0,none⟩)) (.pointer (some a)) U 300 []:=⟨Y.trans m,⟨D,ds,W.up m,fun e=>by have:=(W.mem e).2.1;omega,p,O8 g ⟨m.le⟩⟩,ae,O.lift ⟨m.le⟩,ok,GoodH.empty L2,GoodH.empty L2,by decide⟩
 have am:=hv.up X;clear Y k3 m W g O f p u4 q;refine W0 xs.length (fun i w'=>i<=40/\ ∃σ',Run w1 σ1 w' σ' (.pointer (some ⟨b,0,none⟩)) (.pointer (some a)) U 300 ((xs.take i).foldl (Np 300) [])) ⟨by decide,σ3,R4⟩ fun i w5 d hi M=>?_
 obtain ⟨ad,σ5,C⟩:=M;have s5:=C.stp.sat;have l:=am.up C.stp;have aj:=l.max
 have E:i=xs.length\/i=40->dr w5 fun Tr Br=>Z7 Tr (fun y=> ∀w,Br w->Q6 P T.a (.pointer (some ⟨U,0,none⟩)) w (dk Tr y w)) fun y=> ∀Q w,Br w->y Q w->J9 P T.a (.pointer (some ⟨b3,0,none⟩)) Q w fun _u w=>Z8 P T.a (.pointer (some ⟨b3,0,none⟩)) w fun r1=>K (.tuple #[.pointer (some ⟨b,0,none⟩),r1]) w:=fun hf=>by
  have e:(xs.take i).foldl (Np 300) []=Si xs:=by
   unfold Si
   rcases hf with rfl | rfl
   .rw[List.take_of_length_le (Nat.le_refl _),List.take_of_length_le ad]
   .rfl
  rw[e] at C;obtain ⟨σf,ab,Z,bp,ak,f,j,al⟩:=C.fix;have o:=ag.up Z;refine U9 Z.sat ?_;refine X2 (V:= .agg ab.toArray) (fun w hb=>Cr (f.up hb.stp) (by obtain ⟨B,A,rfl,_⟩:=H5.out j;rfl) (Q9 rfl)) ?_
  rintro _ w6 r rfl;have k6:=r.stp;refine Ma (o.up k6) rfl (by obtain ⟨B,A,rfl,_⟩:=H5.out j;rfl) (by rw[List.all_toArray];exact List.all_eq_true.2 (Rep.one j)) fun w7 u7 ah=>?_
  refine W9 ah (by obtain ⟨B,A,rfl,_⟩:=H5.out j;rfl) ?_
  have S7:Stp w σ w7 σf:=u7.stp (X.trans (Z.trans k6)) af o.1;exact h _ _ _ _ _ S7 ak j al ok
 refine X7f ?_
 (repeat refine Hd.h ?_)
 refine Q8 l ?_
 (repeat refine Hd.h ?_)
 refine J0 ?_
 (repeat refine Hd.h ?_)
 cases hd:decide ((i:Int)<(xs.length:Nat)) with
 | false=>
  (repeat refine Hd.h ?_)
  refine Z9 ?_;exact E (.inl (by simp at hd;omega))
 | true=>
  have c:i<xs.length:=by simpa using hd
  (repeat refine Hd.h ?_)
  refine J0 ?_
  (repeat refine Hd.h ?_)
  cases J:decide ((i:Int)<40) with
  | false=>
   refine Z9 ?_;exact E (.inr (by simp at J;omega))
  | true=>
   refine J3 ?_;have bg:i<40:=by simp at J;omega
   refine Zq (fun _ w'=> ∃σ',Run w1 σ1 w' σ' (.pointer (some ⟨b,0,none⟩)) (.pointer (some a)) U 300 ((xs.take (i+1)).foldl (Np 300) [])) ?_ (fun z dd w6 hz=>?_)
   .have es:(xs.take (i+1)).foldl (Np 300) []=Np 300 ((xs.take i).foldl (Np 300) []) xs[i]:=by
     rw[List.take_add_one,List.getElem?_eq_getElem c,Option.toList_some,List.foldl_append];rfl
    rw[es];generalize (xs.take i).foldl (Np 300) []=cs at*;obtain ⟨c0,p1,p2,p3⟩:=l.el c;refine Z5 l c ?_;refine Z0 s5 p1 p2 ?_;refine X7K s5 p3 fun w6 r=>?_;have R:=C.below r;unfold Np X6K;cases bj:(decide (xs[i].s.length<=100)&&decide (xs[i].v.s.length<=5000)) with
    | false=>
     refine Z9 ?_;rw[if_neg U5];exact ⟨_,R⟩
    | true=>
     refine J3 ?_;rw[if_pos rfl];refine X8l ?_;have n:=R.below (Below.refl _ _).drew;obtain ⟨D7,ba,g1,g2,g3,g4⟩:=n.ex;refine Z5 l c ?_;refine Cr g3 (by obtain ⟨B,A,rfl,_⟩:=H5.out g4;rfl) ?_
     refine Z0 n.stp.sat p1 p2 ?_;refine n.act L g1 g2 g3 g4 p3 fun aa bb w8 σ8 D8 g5 N t u H an _=>?_;refine J4 (vs:=[_,_]) rfl ?_;refine J4 (vs:=[_,_]) rfl ?_;refine Ma t (by obtain ⟨B,A,rfl,_⟩:=H5.out g4;rfl) (by obtain ⟨B,A,rfl,_⟩:=H5.out u;rfl) (by rw[List.all_toArray];exact List.all_eq_true.2 (Rep.one u)) fun w9 u9 ai=>?_
     have G:=GoodH.act Q3e Q63 n.good xs[i];exact ⟨σ8,u9.stp H n.bge t.1,⟨D8,aa,g5.nx (Nxt.of_upd H.sat u9 t.1) fun k hk e=>N (e▸hk),N,ai,u⟩,n.bge,n.tab.lift an,n.ok,G,G,n.rm⟩
   .obtain ⟨σ6,R⟩:=hz
    (try simp only[↓M1,M1,Mb,reduceIte])
    exact Z6 aj c ⟨by omega,σ6,R⟩)
theorem Uq {n:Int} (e:X7 w σ) (h: ∀w' σ',Stp w σ w' σ'->K (.agg [I (rV n).sort,I (rV n).n,S (rV n).s,I (rV n).ref].toArray) w'):Q0 P F.i [I n] w K:=Q2M (by
 unfold Sv;refine O7 e fun b w1 σ1 d f c=>?_;refine M6 (cells:= #[I 4,I 0,S [],I n]) X8 ?_;refine Ma (ds:=[I 4,I 0,S [],I n]) c rfl rfl (by rw[List.all_toArray];exact List.all_eq_true.2 Cm) fun i g a=>?_
 refine W9 a rfl ?_;exact h _ _ (g.stp f d c.1))
end Go.Proofs.Y
namespace Go.Hm
open Go.Kd
variable {ok ok' : X0 -> Bool} {l : List Cla} {cs : List Cel} {v : Val} {r i : Int}
theorem X5R (h:v.sort=4):Qb ok cs v=Qb ok' cs v:=by
 unfold Qb;have a: ¬v=⟨3,0,v.s,0⟩:=fun e=>by rw[e] at h;exact absurd h (by simp)
 rw[if_neg (fun e:v=⟨3,0,v.s,0⟩/\ok v.s=true=>a e.1),if_neg (fun e:v=⟨3,0,v.s,0⟩/\ok' v.s=true=>a e.1)]
theorem X4m (h:v.sort=4):H6 ok l cs r i v=H6 ok' l cs r i v:=by
 unfold H6 I5;rw[X5R (ok:=ok) (ok':=ok') h]
end Go.Hm
namespace Go.Proofs.Y
open Go.Emb Go.RowKit Go.Kd Go.Hm
variable {w w' w0 : World} {K : Value -> World -> Prop} {σ σ' σ0 : Q2} {ca cb ca' : List Cel} {ha hb ta tb : Value}
theorem HeapIs.shift {B:Nat} {D:Nat->Prop} {room:Int} (h:HeapIs B D σ w ha ta room ca) (m:SLe σ σ') (d: ∀k,D k->σ' k=none):HeapIs B D σ' w ha ta room ca:=by
 obtain ⟨b,n,E,rfl,hB,p,q,hE,hD⟩:=h.ex;obtain ⟨vs,o,j,c,a⟩:=q.ex;exact ⟨b,n,E,rfl,hB,⟨d b ((hD b).2 (.inl rfl)),p.2⟩,⟨vs,o.shiftR m fun k f=>d k ((hD k).2 (.inr ((a k).2 ⟨n,by simp,f⟩))),⟨j.1,fun i g e=>(j.2 i g e).shiftR m fun k f=>d k ((hD k).2 (.inr ((a k).2 ⟨vs[i],by simp[List.getElem_mem g],f⟩)))⟩,c,a⟩,hE,hD⟩
structure TwoH (w0 : World) (σ0 : Q2) (w : World) (σ : Q2) (ha ta hb tb : Value) (ca cb : List Cel) : Prop where
  stp : Stp w0 σ0 w σ
  ex : ∃ Da Db, HeapIs w0.heap.size Da σ w ha ta 50 ca /\ HeapIs w0.heap.size Db σ w hb tb 50 cb /\ ∀ k, Da k -> ¬ Db k
  ta : Tab σ ta (Q3 L3)
  tb : Tab σ tb (Q3 L3)
  ok : Ok (Q3 L3)
  ga : GoodH W1 (Q3 L3) 50 ca
  gb : GoodH W1 (Q3 L3) 50 cb
theorem TwoH.up (R:TwoH w0 σ0 w σ ha ta hb tb ca cb) (k:Stp w σ w' σ'):TwoH w0 σ0 w' σ' ha ta hb tb ca cb:=by
 obtain ⟨a,b,c,d,e⟩:=R.ex;exact ⟨R.stp.trans k,⟨a,b,c.up k,d.up k,e⟩,R.ta.lift ⟨k.le⟩,R.tb.lift ⟨k.le⟩,R.ok,R.ga,R.gb⟩
theorem TwoH.turnA {c f a:Nat->Prop} (R:TwoH w0 σ0 w σ ha ta hb tb ca cb) (o:HeapIs w0.heap.size c σ w ha ta 50 ca) (h:HeapIs w0.heap.size f σ w hb tb 50 cb) (m: ∀k,c k-> ¬f k) (N:Nxt c w σ w' σ') (n:HeapIs w0.heap.size a σ' w' ha ta 50 ca') (hD: ∀j,a j->c j\/w.heap.size<=j) (g:GoodH W1 (Q3 L3) 50 ca'):TwoH w0 σ0 w' σ' ha ta hb tb ca' cb:=
 ⟨N.stp' R.stp fun k b=>(o.mem b).1,⟨a,f,n,h.nx N fun k b e=>m k e b,fun k b e=>by
  rcases hD k b with d | d
  .exact m k d e
  .have:=(h.mem e).2.1;omega⟩,R.ta.lift N.le,R.tb.lift N.le,R.ok,g,R.gb⟩
theorem TwoH.swap (R:TwoH w0 σ0 w σ ha ta hb tb ca cb):TwoH w0 σ0 w σ hb tb ha ta cb ca:=by
 obtain ⟨a,b,c,d,f⟩:=R.ex;exact ⟨R.stp,⟨b,a,d,c,fun k h e=>f k e h⟩,R.tb,R.ta,R.ok,R.gb,R.ga⟩
theorem TwoH.obj (R:TwoH w0 σ0 w σ ha ta hb tb ca cb) (d:3<=O5 50 ca) (h: ∀w' σ',TwoH w0 σ0 w' σ' ha ta hb tb (ca++[Im]) cb->K (.tuple #[I ca.length,I 0]) w'):Q0 P F.q [ha,S gA] w K:=by
 obtain ⟨j,m,b,e,f⟩:=R.ex;refine Q7F R.stp.sat R.stp.bel.size b R.ta R.ok (k:=gA) L2 Q4 L2 fun w1 σ1 g c a hD=>?_;have G:=GoodH.obj Q3e Q63 R.ga gA;rw[X6S d] at a G⊢;exact h w1 σ1 (R.turnA b e f c a hD G)
theorem TwoH.set {n i:Int} {a:List Cel} (R:TwoH w0 σ0 w σ ha ta hb tb ca cb) (k:Glb σ) (m:Xc i) (e:H6 (fun _=>true) (Q3 L3) ca n 1 (rV i)=(a,0)) (h: ∀w' σ',SLe σ σ'->TwoH w0 σ0 w' σ' ha ta hb tb a cb->K (I 0) w'):Q0 P F.u [ha,I n,I 1, .agg [I (rV i).sort,I (rV i).n,S (rV i).s,I (rV i).ref].toArray] w K:=by
 obtain ⟨p,q,d,f,g⟩:=R.ex;have e:H6 W1 (Q3 L3) ca n 1 (rV i)=(a,0):=(X4m rfl).trans e;refine X0M R.stp.sat k d R.ta R.ok R.ga.cells ⟨rfl,show Xc 4 by decide,show Xc 0 by decide,Nat.zero_le _,m⟩ fun w1 σ1 b c=>?_
 have G:=GoodH.set R.ga n 1 (rV i);rw[e] at c G⊢;exact h w1 σ1 b.le (R.turnA d f g b c (fun j o=> .inl o) G)
theorem TwoH.freeze (R:TwoH w0 σ0 w σ ha ta hb tb ca cb): ∃c,X7 w c/\SLe σ c/\N0 c ha ta 50 ca/\N0 c hb tb 50 cb:=by
 obtain ⟨q,s,j,d,m⟩:=R.ex;obtain ⟨σ1,n,a,g,of⟩:=j.freeze R.stp.sat;obtain ⟨p,o,b,h,_⟩:=(d.shift a fun k f=>(of k fun e=>m k e f).trans (d.mem f).2.2).freeze n;exact ⟨p,o,a.more b,g.lift b,h⟩
theorem X0a (g:GoodH W1 (Q3 L3) 50 ca):Fit ca:=X2s g L2
set_option maxRecDepth 9999 in
set_option maxHeartbeats 4000000 in
theorem Q9X (hs:X7 w σ) (Z:Glb σ) (h: ∀w' σ',Stp w σ w' σ'->K (.bool true) w'):Q0 P F.ac [] w K:=Q0z (by
 unfold Dw;simp only[M9,D2];unfold X6 Y2 X4;refine Q67 hs Z L2 fun Q N D1 a3 w1 σ1 k1 W b t1 ok=>?_;rw[show (50 % 301:Int)=50 from rfl] at W b
 refine J4 (vs:=[_,_]) rfl ?_;refine J4 (vs:=[_,_]) rfl ?_;refine O7 k1.sat fun b2 w2 σ2 s k2 j=>?_;refine Ma j rfl (by obtain ⟨lv,cv,rfl,_⟩:=H5.out b;rfl) (by rw[List.all_toArray];exact List.all_eq_true.2 (Rep.one b)) fun w3 u3 ab=>?_
 have d:Stp w1 σ1 w3 σ2:=u3.stp k2 s j.1;have q:=k1.trans d;have V:=W.up d;have J:=t1.lift (⟨d.le⟩:SLe σ1 σ2);refine Q67 q.sat (Z.lift ⟨q.le⟩) L2 fun U O D4 a5 w4 σ4 k4 M c t4 _=>?_;rw[show (50 % 301:Int)=50 from rfl] at M c
 refine J4 (vs:=[_,_]) rfl ?_;refine J4 (vs:=[_,_]) rfl ?_;refine O7 k4.sat fun b5 w5 σ5 t k5 m=>?_;refine Ma m rfl (by obtain ⟨lv,cv,rfl,_⟩:=H5.out c;rfl) (by rw[List.all_toArray];exact List.all_eq_true.2 (Rep.one c)) fun w6 u6 ac=>?_
 have g:Stp w4 σ4 w6 σ5:=u6.stp k5 t m.1;have f:=k4.trans g;have S6:=q.trans f
 have R:TwoH w σ w6 σ5 (.pointer (some ⟨Q,0,none⟩)) (.pointer (some N)) (.pointer (some ⟨U,0,none⟩)) (.pointer (some O)) [] []:=
  ⟨S6,⟨D1,D4,V.up f,(M.up g).mono q.bel.size,fun k hk e=>by have:=(V.mem hk).2.1;have:=(M.mem e).1;omega⟩,J.lift ⟨f.le⟩,t4.lift ⟨g.le⟩,ok,GoodH.empty L2,GoodH.empty L2⟩
 have aa: ∀{w σ'' ca cb},TwoH w σ w σ'' (.pointer (some ⟨Q,0,none⟩)) (.pointer (some N)) (.pointer (some ⟨U,0,none⟩)) (.pointer (some O)) ca cb->True:=fun _=>trivial;clear aa k1 d k4 g f q S6 V W M b c t1 J t4 j ab m ac u3 u6 k2 k5 s t;have L: ∀{w' σ'},Stp w σ w' σ'->Glb σ':=fun k=>Z.lift ⟨k.le⟩;refine Q94 ?_
 (repeat refine Hd.h ?_)
 refine Q94 ?_
 (repeat refine Hd.h ?_)
 refine Z9 ?_;refine R.obj L2 fun w7 σ7 R=>?_;refine J4 (vs:=[_,_]) rfl ?_;refine J4 (vs:=[_,_]) rfl ?_;refine R.swap.obj L2 fun w8 σ8 R=>?_;refine J4 (vs:=[_,_]) rfl ?_;refine J4 (vs:=[_,_]) rfl ?_;refine R.obj L2 fun w9 σ9 R=>?_;have R:=R.swap;refine J4 (vs:=[_,_]) rfl ?_;refine J4 (vs:=[_,_]) rfl ?_;refine Xn ?_;rw[show (!decide ((0:Int)=0))=false from rfl]
 (repeat refine Hd.h ?_)
 refine Xn ?_;rw[show (!decide ((0:Int)=0))=false from rfl]
 (repeat refine Hd.h ?_)
 refine Xn ?_;rw[show (!decide ((0:Int)=0))=false from rfl]
 (repeat refine Hd.h ?_)
 refine Uq R.stp.sat fun bd b0 ae=>?_;have R:=R.up ae
 (repeat refine Hd.h ?_)
 refine R.set (L R.stp) L2 X5C fun be b3 _ R=>?_
 (repeat refine Hd.h ?_)
 refine Xn ?_;rw[show (!decide ((0:Int)=0))=false from rfl]
 (repeat refine Hd.h ?_)
 refine Uq R.stp.sat fun bf b6 af=>?_;have R:=R.up af
 (repeat refine Hd.h ?_)
 refine R.swap.set (L R.stp) L2 X5D fun bg b7 _ R=>?_
 (repeat refine Hd.h ?_)
 refine Xn ?_;rw[show (!decide ((0:Int)=0))=false from rfl]
 (repeat refine Hd.h ?_)
 refine Uq R.stp.sat fun bh b8 ag=>?_;have R:=R.up ag
 (repeat refine Hd.h ?_)
 refine R.set (L R.stp) L2 X5E fun bi b9 _ R=>?_
 (repeat refine Hd.h ?_)
 refine Xn ?_;rw[show (!decide ((0:Int)=0))=false from rfl]
 (repeat refine Hd.h ?_)
 refine Z9 ?_;refine R.obj L2 fun bj cc R=>?_;refine J4 (vs:=[_,_]) rfl ?_;refine J4 (vs:=[_,_]) rfl ?_;refine C8 ?_;rw[show decide ((0:Int)=0)=true from rfl]
 (repeat refine Hd.h ?_)
 refine Uq R.stp.sat fun bk cd ah=>?_;have R:=R.up ah
 (repeat refine Hd.h ?_)
 refine R.set (L R.stp) L2 X5F fun ak al _ R=>?_
 (repeat refine Hd.h ?_)
 refine C8 ?_;rw[show decide ((0:Int)=0)=true from rfl]
 (repeat refine Hd.h ?_)
 have R:TwoH w σ ak al (.pointer (some ⟨Q,0,none⟩)) (.pointer (some N)) (.pointer (some ⟨U,0,none⟩)) (.pointer (some O)) [Jr 0] gxB:=R.swap;obtain ⟨σf,sf,p,ha,hb⟩:=R.freeze;have ta:=R.ta.lift p;have tb:=R.tb.lift p;have fa:=X0a R.ga;have a:=X0a R.gb;have ok:=R.ok;refine Uq sf fun bl ce n=>?_
 (repeat refine Hd.h ?_)
 refine Uq n.sat fun bm cf y=>?_;have k:=n.trans y
 (repeat refine Hd.h ?_)
 refine Q5I (v:=rV 0) (u:=rV 2) k.sat (ha.lift ⟨k.le⟩) (hb.lift ⟨k.le⟩) (ta.lift ⟨k.le⟩) (tb.lift ⟨k.le⟩) ok fa.good a.good fa.len a.len fa.sz a.sz fun bn cg z=>?_;rw[X3T];have k:=k.trans z;clear n y z
 (repeat refine Hd.h ?_)
 refine Uq k.sat fun bo ch o=>?_
 (repeat refine Hd.h ?_)
 refine Uq o.sat fun bp ci A=>?_;have k:=k.trans (o.trans A)
 (repeat refine Hd.h ?_)
 refine Q5I (v:=rV 0) (u:=rV 0) k.sat (ha.lift ⟨k.le⟩) (hb.lift ⟨k.le⟩) (ta.lift ⟨k.le⟩) (tb.lift ⟨k.le⟩) ok fa.good a.good fa.len a.len fa.sz a.sz fun bq cj B=>?_;rw[X6R];have k:=k.trans B;clear o A B
 (repeat refine Hd.h ?_)
 refine Uq k.sat fun br ck C=>?_;have k:=k.trans C
 (repeat refine Hd.h ?_)
 refine Q9Z (v:=rV 0) k.sat (hb.lift ⟨k.le⟩) (tb.lift ⟨k.le⟩) ok a.good a.len a.sz fun bs cl D=>?_;rw[X3U];have k:=k.trans D;clear C D
 (repeat refine Hd.h ?_)
 refine Uq k.sat fun bu cm E=>?_;have k:=k.trans E
 (repeat refine Hd.h ?_)
 refine Q3d (v:=rV 0) k.sat (hb.lift ⟨k.le⟩) (tb.lift ⟨k.le⟩) ok a.good a.len a.sz fun bb bv cn H X=>?_;have k:=k.trans H;clear E H
 (repeat refine Hd.h ?_)
 refine Q8 X ?_;rw[show ((ints (Xi (Q3 L3) gxB (rV 0))).length:Int)=2 by rw[show (ints (Xi (Q3 L3) gxB (rV 0))).length=2 by simp[X3V]];rfl]
 (repeat refine Hd.h ?_)
 refine C8 ?_;rw[show decide ((2:Int)=2)=true from rfl]
 (repeat refine Hd.h ?_)
 refine X20 (r:=((0:Nat):Int)) k.sat (hb.lift ⟨k.le⟩) (tb.lift ⟨k.le⟩) ok a.good (a.sz _) fun bc bw co ai Y=>?_;have k:=k.trans ai
 (repeat refine Hd.h ?_)
 refine Q8 Y ?_;have e0:Lj (Q3 L3) gxB ((0:Nat):Int)=Q0V (Q3 L3) (Jr 1):=Q6U L2;rw[show ((ints (Lj (Q3 L3) gxB ((0:Nat):Int))).length:Int)=2 by rw[e0,show (ints (Q0V (Q3 L3) (Jr 1))).length=2 by simp[X5B]];rfl]
 (repeat refine Hd.h ?_)
 refine C8 ?_;rw[show decide ((2:Int)=2)=true from rfl]
 (repeat refine Hd.h ?_)
 exact h _ _ (R.stp.trans (k.weak p.le)))
variable {cs : List Cel} {hp tv : Value} {q : Addr} {ds : List Value}
structure HS (σ : Q2) (hp tv : Value) (q : Addr) (ds : List Value) (cs : List Cel) : Prop where
  h : N0 σ hp tv 300 cs
  q : J7 σ q ds
  r : H5 σ (Q3 L3, 300, cs) ds
  t : Tab σ tv (Q3 L3)
theorem HS.lift (H:HS σ hp tv q ds cs) (a:SLe σ σ'):HS σ' hp tv q ds cs:=⟨H.h.lift a,H.q.lift a,O8 H.r a,H.t.lift a⟩
theorem HS.up (H:HS σ hp tv q ds cs) (k:Stp w σ w' σ'):HS σ' hp tv q ds cs:=H.lift ⟨k.le⟩
theorem X81 {xs:List ActH} {v:Value} {A:Value->Value->World->Prop} (p:X7 w σ) (n:Glb σ) (r:Sl 8 Kp σ v xs)
 (h: ∀a tv q ds w' σ',Stp w σ w' σ'->Ok (Q3 L3)->HS σ' (.pointer (some a)) tv q ds (Si xs)->A (.pointer (some a)) (.pointer (some q)) w'):
 Q0 P F.aH [v] w fun b w=>ext P b 0 w fun e w=>ext P b 1 w fun f w=>T1 P T.a w fun j w=>J9 P T.a j f w fun _u w=>A e j w:=by
 refine X55 p n r fun a tv ds w1 σ1 g m d t ok=>?_;refine J4 (vs:=[_,_]) rfl ?_;refine J4 (vs:=[_,_]) rfl ?_;have s:=d;obtain ⟨B,z,rfl,_⟩:=H5.out d;refine J1 (sz:=3) g.sat rfl rfl (Rep.one s) fun q u y c o=>?_;exact h a tv q _ u y (g.trans c) ok ⟨m.lift ⟨c.le⟩,o,O8 d ⟨c.le⟩,t.lift ⟨c.le⟩⟩
theorem X7W {o:Operand} {a:Addr} {A:Value->World->Prop} (j:X7 w σ) (g:Glb σ) (h: ∀w' σ',Stp w σ w' σ'->A (.bool false) w'):
 Q0 P F.ac [] w fun c w=>V4 P .not c w fun b w=>Q1 b false w (fun w J=>J (.pointer (some a)) w) fun d w=>Q1 b false w (Z2 P .eql T.a2 o (.const (.pointer none)) d (.pointer none)) fun e w=>pick P b (.bool true) e w fun f w=>A f w:=by
 refine Q9X j g fun w1 σ1 m=>?_;refine Za ?_;rw[Bool.not_true]
 (repeat refine Hd.h ?_)
 refine Q94 ?_
 (repeat refine Hd.h ?_)
 exact h _ _ m
theorem X50 {b e:Value} {m:Addr} {c:List Value} {a:List Cel} {v u:Val} (j:X7 w σ) (ok:Ok (Q3 L3)) (H:HS σ hp tv q ds cs) (g:HS σ b e m c a) (f:Fit cs) (d:Fit a) (h: ∀w' σ',Stp w σ w' σ'->K (.bool (Sf (Q3 L3) cs a v u)) w'):
 Q0 P F.aW [hp, .agg [I v.sort,I v.n,S v.s,I v.ref].toArray,b, .agg [I u.sort,I u.n,S u.s,I u.ref].toArray] w K:=
 Q5I j H.h g.h H.t g.t ok f.good d.good f.len d.len f.sz d.sz h
theorem X51 {b e:Value} {k:Addr} {c:List Value} {a:List Cel} {v u:Val} (j:X7 w σ) (ok:Ok (Q3 L3)) (H:HS σ hp tv q ds cs) (g:HS σ b e k c a) (f:Fit cs) (d:Fit a) (h: ∀i w' σ',Stp w σ w' σ'->Sl 2 RPr σ' i (Q2E (Q3 L3) cs a v u)->K i w'):
 Q0 P F.cb [hp, .agg [I v.sort,I v.n,S v.s,I v.ref].toArray,b, .agg [I u.sort,I u.n,S u.s,I u.ref].toArray] w K:=
 X59 j H.h g.h H.t g.t ok f.good d.good f.len d.len f.sz d.sz h
set_option maxRecDepth 9999 in
set_option maxHeartbeats 4000000 in
theorem Q8e {v:Value} {xs:List ActH} {x y:Val} {c e:List Value} (hs:X7 w σ) (hg:Glb σ) (hv:Sl 8 Kp σ v xs) (hx:E4 σ x c) (hy:E4 σ y e) (h: ∀w' σ',Stp w σ w' σ'->K (.bool true) w'):Q0 P F.c3 [v, .agg c.toArray, .agg e.toArray] w K:=Bq (by
 obtain ⟨rfl,_⟩:=hx;obtain ⟨rfl,_⟩:=hy;unfold Vk;simp only[Y5,X3,L1,Qi,M9,D2];unfold Z3 X6 U6 Y2 X4 X5;refine Z1 hs fun qx wa σa W A=>?_;refine Z1 W.sat fun qy wb σb M B=>?_;have D:=W.trans M;have u:=hg.lift ⟨D.le⟩;refine X81 M.sat u (hv.up D) fun E ao q1 ad w1 σ1 J ok l=>?_;have f:=X2r xs;refine X7W J.sat (u.lift ⟨J.le⟩) fun Y σ3 L=>?_;have m:=J.trans L;have Q:=D.trans m;have U:=hg.lift ⟨Q.le⟩;have l:=l.up L;have j:=(A.up M).up m;have p:=B.up m;have N:=L.sat;clear J L m W M D A B;generalize Si xs=cs at*;have k:Q0 P F.ac [] Y fun X w=>K X w:=Q9X N U fun w4 σ4 k4=>h _ _ (Q.trans k4)
 (repeat refine Hd.h ?_)
 refine ld (i:=0) N j rfl ?_
 (repeat refine Hd.h ?_)
 refine C8 ?_
 (repeat refine Hd.h ?_)
 cases ex:decide (x.sort=4) with
 | true=>
  (repeat refine Hd.h ?_)
  exact J3 k
 | false=>
 (repeat refine Hd.h ?_)
 refine ld (i:=0) N p rfl ?_
 (repeat refine Hd.h ?_)
 refine C8 ?_
 (repeat refine Hd.h ?_)
 cases ey:decide (y.sort=4) with
 | true=>
  (repeat refine Hd.h ?_)
  exact J3 k
 | false=>
 (repeat refine Hd.h ?_)
 refine Z9 ?_;have H:x.sort≠4:=by simpa using ex
 clear k;refine U9 N ?_;refine X2 (V:= .agg [I x.sort,I x.n,S x.s,I x.ref].toArray) (fun w a=>Z0 a.sat (j.up a.stp) rfl (Q9 rfl)) ?_;refine X2 (V:= .agg [I y.sort,I y.n,S y.s,I y.ref].toArray) (fun w a=>Z0 a.sat (p.up a.stp) rfl (Q9 rfl)) ?_
 refine X2 (V:= .bool (decide (x=y))) (fun t O w a b d=>by
  subst b;subst d;refine X50 a.sat ok (l.up a.stp) (l.up a.stp) f f fun w' σ' z=>?_;rw[Q96 (.inl H)];exact Qa z.bel rfl) ?_
 refine X2 (V:= .agg [I x.sort,I x.n,S x.s,I x.ref].toArray) (fun w a=>Z0 a.sat (j.up a.stp) rfl (Q9 rfl)) ?_;refine X2 (V:= .agg [I y.sort,I y.n,S y.s,I y.ref].toArray) (fun w a=>Z0 a.sat (p.up a.stp) rfl (Q9 rfl)) ?_
 refine X2 (V:= .bool (decide (x=y))) (fun t O w a b d=>by
  subst b;subst d;exact Ln (Q9 rfl)) ?_
 refine X2 (V:= .bool true) (fun t O w a b d=>by
  subst b;subst d;rw[X4U];exact Q9 U5) ?_
 refine X2 (V:= .pointer (some E)) (fun t w a b=>by
  subst b
  (repeat refine Hd.h ?_)
  exact Q9 rfl) ?_
 refine X2 (V:= .agg [I x.sort,I x.n,S x.s,I x.ref].toArray) (fun t w a b=>by
  subst b
  (repeat refine Hd.h ?_)
  exact Z0 a.sat (j.up a.stp) rfl (Q9 rfl)) ?_
 refine Js (w:=Y) (σ:=σ3) (Φ:=fun σ' C=>Sl 1 P8 σ' C (ints [])) (fun t r O w a b d R=>by
  subst b;subst d;subst R
  (repeat refine Hd.h ?_)
  refine Q3d a.sat (l.up a.stp).h (l.up a.stp).t ok f.good f.len f.sz fun C w' σ' z g=>?_;rw[Q49 H] at g;exact Dh a z g) ?_
 refine X2 (V:=I ((ints ([]:List Nat)).length:Nat)) (fun t r w a b d=>by
  subst b;obtain ⟨σ',k',g⟩:=d
  (repeat refine Hd.h ?_)
  exact Q8 g (Q9 rfl)) ?_
 refine X2 (V:= .bool true) (fun t r w a b d=>by
  subst b;subst d
  (repeat refine Hd.h ?_)
  exact C8 (Q9 rfl)) ?_
 refine X2 (V:= .bool true) (fun t r w a b d=>by
  subst b;subst d
  (repeat refine Hd.h ?_)
  exact Q9 rfl) ?_
 refine X2 (V:= .pointer (some E)) (fun t w a b=>by
  subst b
  (repeat refine Hd.h ?_)
  exact Q9 rfl) ?_
 refine X2 (V:= .pointer (some E)) (fun t w a b=>by
  subst b
  (repeat refine Hd.h ?_)
  exact Q9 rfl) ?_
 refine X2 (V:= .agg [I x.sort,I x.n,S x.s,I x.ref].toArray) (fun t w a b=>by
  subst b
  (repeat refine Hd.h ?_)
  exact Z0 a.sat (j.up a.stp) rfl (Q9 rfl)) ?_
 refine X2 (V:= .agg [I x.sort,I x.n,S x.s,I x.ref].toArray) (fun t w a b=>by
  subst b
  (repeat refine Hd.h ?_)
  exact Z0 a.sat (j.up a.stp) rfl (Q9 rfl)) ?_
 refine Js (w:=Y) (σ:=σ3) (Φ:=fun σ' C=>Sl 2 RPr σ' C []) (fun t r O t3 t4 w a b d R e4 e5=>by
  subst b;subst d;subst R;subst e4;subst e5
  (repeat refine Hd.h ?_)
  refine X51 a.sat ok (l.up a.stp) (l.up a.stp) f f fun C w' σ' z g=>?_;rw[Q9B H] at g;exact Dh a z g) ?_
 refine X2 (V:=I (([]:List (Nat×Nat)).length:Nat)) (fun t r w a b d=>by
  subst b;obtain ⟨σ',k',g⟩:=d
  (repeat refine Hd.h ?_)
  exact Q8 g (Q9 rfl)) ?_
 refine X2 (V:= .bool true) (fun t r w a b d=>by
  subst b;subst d
  (repeat refine Hd.h ?_)
  exact C8 (Q9 rfl)) ?_
 refine X2 (V:= .bool true) (fun t r w a b d=>by
  subst b;subst d
  (repeat refine Hd.h ?_)
  exact Q9 rfl) ?_
 refine X2 (V:= .pointer (some E)) (fun t w a b=>by
  subst b
  (repeat refine Hd.h ?_)
  exact Q9 rfl) ?_
 refine X2 (V:= .agg [I x.sort,I x.n,S x.s,I x.ref].toArray) (fun t w a b=>by
  subst b
  (repeat refine Hd.h ?_)
  exact Z0 a.sat (j.up a.stp) rfl (Q9 rfl)) ?_
 rintro _ _ _ _ _ _ _ _ _ _ _ _ _ _ _ _ _ _ _ _ _ _ _ w4 o rfl rfl rfl rfl rfl rfl rfl rfl rfl _ rfl rfl rfl rfl rfl rfl rfl _ rfl rfl rfl rfl rfl;have S4:=Q.trans o.stp;have Z:=l.up o.stp
 (repeat refine Hd.h ?_)
 refine Q9Z (v:=x) o.sat Z.h Z.t ok f.good f.len f.sz fun w5 σ5 k5=>?_;rw[Q9g H]
 (repeat refine Hd.h ?_)
 exact h _ _ (S4.trans k5))
end Go.Proofs.Y
namespace Go.Proofs.YtkllbfjojoncaaaGreatDoor.graphPlain
open Go.Proofs.Y Go.ChangeShapes Go.WideShapes Go.ChangeAt Go.RowKit Go.Emb
theorem own : ownKnob Tryz.prog.godebug = none := by kernel_rfl
theorem lay : laidOutB Tryz.prog = true := by kernel_rfl
set_option maxRecDepth 100000 in
theorem X6V (os : Os) (started : os.Started) (H : Type) (enc : TypeId × Value -> H) :
    ReturnsInHanded {} Tryz.checked os 7 .any (fun w args => (Rows.graphPlainSpec.pre enc Tryz.prog Tryz.f7 [] false w args /\ laidMetH Tryz.prog laidAll w) /\ sizedMet enc Tryz.prog Tryz.f7 (OpenSpec.ofChange Rows.graphPlainSpec) false w args) (Rows.graphPlainSpec.post enc Tryz.prog Tryz.f7 false true false false) := by
  refine returnsInHanded_of_change_and (C := Tryz.checked) (X := fun w _ => laidMetH Tryz.prog laidAll w) (fun _ _ _ hh h => h.of_heap hh) own started (by kernel_rfl) Tryz.func7
    (ChangeSpec.witness_shaped (enc := enc) (C := Tryz.checked) (os := os) (X := fun w _ => laidMetH Tryz.prog laidAll w) false (World.laidAll Tryz.prog os laidAll) #[.slice none 0 0, .agg #[.int .i64 0, .int .i64 0, .string ByteArray.empty, .int .i64 0], .agg #[.int .i64 0, .int .i64 0, .string ByteArray.empty, .int .i64 0]] 8 (World.laidAll_os _ _ _)
      (World.shaped_of_ZipB (by kernel_rfl) (by kernel_rfl)) (by kernel_rfl) (by kernel_rfl) (by kernel_rfl) (by rw [MakeChecks.laidMetH_plain _ _ _ (by kernel_rfl)]; exact laidMet_laidAll _ (by kernel_rfl) (by kernel_rfl))) ?_
  intro W base args ds gs before hval0 hW _ hsz0 hL _
  have hsz : (DataW.weightsEach Tryz.prog (Tryz.f7.params.toList ++ Rows.graphPlainSpec.plain.varTypes Tryz.prog) (ds ++ gs)).all (· <= reachBytes) = true := hsz0
  have hval : ∀ (j : Nat) t v, Tryz.f7.params[j]? = some t -> args[j]? = some v -> Value.okWide Tryz.prog W .any base t v := hval0
  have hW' := hW
  obtain ⟨p, q, hA0, hV, rfl, hfz, hnd⟩ := hW
  have hA : DataW.TrodAll enc Tryz.prog W 0 (fun _ => true) true Tryz.f7.params.toList args.toList ds p := hA0
  have hlt := DataW.TrodAll.lt hA
  rw [Tryz.params7] at hA hval hsz
  obtain ⟨v0, vs0, d0, ds0, p0, q0, hargs, rfl, rfl, h0, r0⟩ := trodAll_cons hA
  obtain ⟨v1, vs1, d1, ds1, p1, q1, rfl, rfl, rfl, h1, r1⟩ := trodAll_cons r0
  obtain ⟨v2, vs2, d2, ds2, p2, q2, rfl, rfl, rfl, h2, r2⟩ := trodAll_cons r1
  obtain ⟨rfl, rfl, rfl⟩ := trodAll_nil r2
  obtain rfl : args = #[v0, v1, v2] := by cases args; simp_all
  obtain ⟨rfl, rfl⟩ := trodVars_none hV
  have g0 : ∀ x ∈ p0, x.block < W.heap.size := fun x hx => hlt x (by simp [hx])
  have k0 := fun (W' : World) (bel : Below W.heap.size W W') => Below.trod lay (by kernel_rfl) (of_decide_eq_true (by kernel_rfl)) h0 bel g0
  obtain ⟨l0, e0⟩ := X5H (hval 0 22 v0 rfl rfl) h0 (Q93 hsz (j := 0) (t := 22) rfl rfl)
  have g1 : ∀ x ∈ p1, x.block < W.heap.size := fun x hx => hlt x (by simp [hx])
  have k1 := fun (W' : World) (bel : Below W.heap.size W W') => Below.trod lay (by kernel_rfl) (of_decide_eq_true (by kernel_rfl)) h1 bel g1
  obtain ⟨y1, c1, rfl, e1⟩ := X2y (hval 1 24 v1 rfl rfl) h1 (Q93 hsz (j := 1) (t := 24) rfl rfl)
  have g2 : ∀ x ∈ p2, x.block < W.heap.size := fun x hx => hlt x (by simp [hx])
  have k2 := fun (W' : World) (bel : Below W.heap.size W W') => Below.trod lay (by kernel_rfl) (of_decide_eq_true (by kernel_rfl)) h2 bel g2
  obtain ⟨y2, c2, rfl, e2⟩ := X2y (hval 2 24 v2 rfl rfl) h2 (Q93 hsz (j := 2) (t := 24) rfl rfl)
  have hc : Q0 Tryz.prog 7 [v0, .agg (List.toArray c1), .agg (List.toArray c2)] W (fun e w' => e = .bool true /\ Below W.heap.size W w') := Q8e X3a (X6Q hL) e0 e1 e2 (fun w' σ' hb => ⟨rfl, hb.bel⟩)
  refine (Q5L Tryz.func7 (by kernel_rfl) (by kernel_rfl) hc).mono fun e W' he => ?_
  obtain ⟨v, rfl⟩ : ∃ v, e = .returned v := by cases e <;> first | exact ⟨_, rfl⟩ | exact he.elim
  obtain ⟨rfl, bel⟩ := he
  exact ⟨_, rfl, _, _, _, [], _, [], hW', trodAll_mk1 (shut_bool Tryz.underlying4 _), (trodAll_cons_mk (k0 W' bel) (trodAll_cons_mk (k1 W' bel) (trodAll_cons_mk (k2 W' bel) trodAll_mk0))), rfl, bel.frame _, fun h => by cases h⟩
theorem over : Rows.graphPlainRow.holds Tryz.pinned (OpenSpec.ofChange Rows.graphPlainSpec) :=
  OpenClaim.holds_of_wide 7 Tryz.f7 rfl rfl rfl rfl rfl rfl rfl ⟨rfl, rfl, rfl, rfl, rfl⟩ rfl rfl rfl rfl rfl (by kernel_rfl) Tryz.func7 (by kernel_rfl)
    (of_decide_eq_true (by kernel_rfl)) (by unfold Func.isWrapper; first | (rw [if_pos (by decide +kernel)]; kernel_rfl) | (rw [if_neg (by decide +kernel)]; exact ⟨rfl, rfl⟩))
    (fun os started H enc _ => X6V os started H enc)
end Go.Proofs.YtkllbfjojoncaaaGreatDoor.graphPlain
namespace Go.Proofs.YtkllbfjojoncaaaGreatDoor
open Go.Proofs.Y
theorem Q4t : Rows.GraphPlainSaid := graphPlain.over
end Go.Proofs.YtkllbfjojoncaaaGreatDoor
