/- Parts of a proof about the given program: its functions as texts of their own, what each computes, plain laws of that. The conditions of each stand in its statement. -/
import Derived.Test.YtlfdfcejjgidpaaGreatDoorB5
import Derived.Test.YtlfdfcejjgidpaaGreatDoorB4
import Derived.Test.YtlfdfcejjgidpaaGreatDoorB3
import Derived.Test.YtlfdfcejjgidpaaGreatDoorRows
import Derived.WalkKit
import Derived.ProofKit
import Derived.OpenShut
import Derived.ShutString
import Derived.ChangeOld
import Derived.Below
import Derived.SizedLaws
import Derived.Lay
import Derived.Carry
import Derived.MakeChecks
import Derived.PinnedBridge
set_option linter.unnecessarySimpa false
set_option linter.defProp false
set_option linter.unusedSectionVars false
set_option linter.unusedVariables false
set_option linter.unusedSimpArgs false
namespace Go.Hm
open Go.Kd
def Hp (c:Cla) (i:Nat):Bool:=H7 (c.like.getD i [])&& !decide (c.like.getD i []=c.name)
def Yp (c:Cla) (i k:Nat):Bool:= !decide (c.like.getD k []=c.like.getD i [])
def Pc (c:Cla) (i:Nat):Fld:=c.fields.getD i Fld.zero
def Fv (c:Cla) (i:Nat):Hm.Met:=c.methods.getD i Hm.Met.zero
def St (c:Cla) (i:Nat):Bool:=C5 (Pc c i).name&&right (Pc c i).kind&& !c.iface
def Jl (c:Cla) (i k:Nat):Bool:= !decide ((Pc c k).name=(Pc c i).name)
def X2l (c:Cla):Bool:=(!c.iface||(c.abs&&decide (c.super=W4)))&& !(c.abs&&c.fin)
def Jo (c:Cla) (i k:Nat):Bool:= !decide ((Fv c k).name=(Fv c i).name)
theorem Ow {p:Nat->Bool} {n:Nat}:(List.range (n+1)).all p=((List.range n).all p&&p n):=by rw[List.range_succ,List.all_append];simp
theorem I9 {α:Type} {xs:List α} {i:Nat} {d:α} (h:i<xs.length):xs.getD i d=xs[i]:=by rw[List.getD_eq_getElem?_getD,List.getElem?_eq_getElem h];rfl
end Go.Hm
namespace Go.Proofs.Y
open Go.Emb Go.RowKit Go.Kd Go.Hm
variable {w : World} {K : Value -> World -> Prop}
def Hq (c:Cla) (i:Nat):Bool:=Xl (Fv c i)&&(!(Fv c i).abs||c.abs)&&(!c.iface||(Fv c i).abs)
set_option maxHeartbeats 2000000 in
theorem Q75 {c:Cla} {lv fv mv:Value} {w1:World} {σ1:Q2} {q:Addr} {ok:Bool} (ac:X3 w1 σ1) (hq:U1 σ1 q [S c.name,S c.super,lv, .bool c.iface, .bool c.abs, .bool c.fin,fv,mv]) {i:Nat} {N m0:Nat} {M:Nat->Value->World->Prop} (g1:Sl 1 L3 σ1 lv c.like) (hi:i<c.like.length)
 (h: ∀w' σ',Stp w1 σ1 w' σ'->Ps N M (Value.bool (ok&&(List.range i).all (Yp c i)), .int .i64 (IntKind.i64.wrap (i+1))) w'/\Du N (Value.bool (ok&&(List.range i).all (Yp c i)), .int .i64 (IntKind.i64.wrap (i+1)))<m0):
 lp (
  α:=Value×Value) (Value.bool ok,(.int .i64 0)) w1 fun g b d_ w=>
  Y6 P .lss T.e (.tmp 52) (.tmp 53) b.2 (I i) w fun ae w=>
  X0 ae (
   dr w fun e f=>
   U8 e (fun u=> ∀w:World,f w->Q1 b.1 true w (fieldAddr P T.c (.pointer (some q)) 2) (dk e u w)) fun u=>
   U8 e (fun y=> ∀w:World,f w->Q1 b.1 true w (fun w J=>J b.2 w) (dk e y w)) fun y=>
   U8 e (fun A=> ∀w:World,f w->Q1 b.1 true w (fieldAddr P T.c (.pointer (some q)) 2) (dk e A w)) fun A=>
   U8 e (fun C=> ∀w:World,f w->Q1 b.1 true w (fun w J=>J (I i) w) (dk e C w)) fun C=>
   U8 e (fun v=> ∀l:Value,∀w:World,f w->u l w->Q1 b.1 true w (Q8 P T.h l) (dk e v w)) fun v=>
   U8 e (fun z=> ∀m:Value,∀n:Value,∀w:World,f w->v m w->y n w->Q1 b.1 true w (indexAddr P T.h m n) (dk e z w)) fun z=>
   U8 e (fun H=> ∀o:Value,∀w:World,f w->z o w->Q1 b.1 true w (Q8 P T.b o) (dk e H w)) fun H=>
   U8 e (fun B=> ∀p:Value,∀w:World,f w->A p w->Q1 b.1 true w (Q8 P T.h p) (dk e B w)) fun B=>
   U8 e (fun D=> ∀r:Value,∀s:Value,∀w:World,f w->B r w->C s w->Q1 b.1 true w (indexAddr P T.h r s) (dk e D w)) fun D=>
   U8 e (fun L=> ∀t:Value,∀w:World,f w->D t w->Q1 b.1 true w (Q8 P T.b t) (dk e L w)) fun L=>
   ∀l:Value,∀n:Value,∀p:Value,∀s:Value,∀m:Value,∀o:Value,∀V:Value,∀r:Value,∀t:Value,∀W:Value,∀w:World,f w->u l w->y n w->A p w->C s w->v m w->z o w->H V w->B r w->D t w->L W w->
   Q1 b.1 true w (Y6 P .neq T.b (.tmp 63) (.tmp 68) V W) fun ag w=>
   pick P b.1 ag (.bool false) w fun ah w=>
   Y6 P .add T.e (.tmp 55) (.const (.int .i64 1)) b.2 (.int .i64 1) w fun af w=>
   g (ah,af) w) (
   Y6 P .add T.e (.tmp 31) (.const (.int .i64 1)) (I i) (.int .i64 1) w fun U w=>
   (Ps N M (b.1,U) w/\Du N (b.1,U)<m0)):=by
 have am:=g1.max;refine H0 (a:=Value.bool ok) i (fun k x w'=> ∃σ',Stp w1 σ1 w' σ'/\x=Value.bool (ok&&(List.range k).all (Yp c i))) ⟨σ1,Stp.refl ac,by simp⟩ fun k x w2 d hk Q=>?_
 obtain ⟨σ2,j,rfl⟩:=Q;have ar:=hq.up j;have O:=g1.up j;have ad:=j.sat;refine Z1 ?_;refine Q4 (fun X=>?_) (fun X=>?_)
 .have aa:k<i:=by simpa using X
  have R:k<c.like.length:=by omega
  have E:(ok&&(List.range (k+1)).all (Yp c i))=((ok&&(List.range k).all (Yp c i))&&Yp c i k):=by rw[Ow,Bool.and_assoc]
  have hQ:Yp c i k= !decide (c.like[k]=c.like[i]):=by unfold Yp;rw[I9 R,I9 hi]
  rw[hQ] at E;obtain ⟨p1,_⟩:=O.elS R;obtain ⟨p2,_⟩:=O.elS hi;generalize (ok&&(List.range k).all (Yp c i))=Y at E⊢;clear h hQ X;cases Y
  all_goals
   refine W1 ad ?_
   (repeat refine J4 Uc ?_)
   (intros;(repeat (rename_i hx;subst hx));(try simp only[↓M2,M2,Mb,reduceIte]))
   rename_i w3 Z;exact U4 Q5 aa ⟨σ2,j.trans Z.stp,by rw[E];rfl⟩
 .have ab:k=i:=by
   have: ¬k<i:=by simpa using X
   omega
  subst ab
  (try simp only[↓M1,M1,Mb,reduceIte])
  exact h _ _ j
set_option maxHeartbeats 4000000 in
theorem X5u {c:Cla} {lv fv mv:Value} {w1:World} {σ1:Q2} {q:Addr} {ok:Bool} (hs1:X3 w1 σ1) (hq:U1 σ1 q [S c.name,S c.super,lv, .bool c.iface, .bool c.abs, .bool c.fin,fv,mv]) {J:Value->World->Prop} (hn:c.name.length<=V5) (g1:Sl 1 L3 σ1 lv c.like)
 (h: ∀w' σ',Stp w1 σ1 w' σ'->J (.bool (ok&&(List.range c.like.length).all fun i=>Hp c i&&(List.range i).all (Yp c i))) w'):
 lp (α:=Value×Value) (Value.bool ok,(.int .i64 0)) w1 fun again4 x4 d_ w=>
 fieldAddr P T.c (.pointer (some q)) 2 w fun t27 w=>
 Q8 P T.h t27 w fun t28 w=>
 J7 P .len [T.h] T.e [false] [t28] w fun t29 w=>
 Y6 P .lss T.e (.tmp 26) (.tmp 29) x4.2 t29 w fun t30 w=>
 X0 t30 (
  dr w fun Tr Br=>
  U8 Tr (fun φ35=> ∀w:World,Br w->Q1 x4.1 true w (fieldAddr P T.c (.pointer (some q)) 2) (dk Tr φ35 w)) fun φ35=>
  U8 Tr (fun φ37=> ∀w:World,Br w->Q1 x4.1 true w (fun w J=>J x4.2 w) (dk Tr φ37 w)) fun φ37=>
  U8 Tr (fun φ36=> ∀t35:Value,∀w:World,Br w->φ35 t35 w->Q1 x4.1 true w (Q8 P T.h t35) (dk Tr φ36 w)) fun φ36=>
  U8 Tr (fun φ38=> ∀t36:Value,∀t37:Value,∀w:World,Br w->φ36 t36 w->φ37 t37 w->Q1 x4.1 true w (indexAddr P T.h t36 t37) (dk Tr φ38 w)) fun φ38=>
  U8 Tr (fun φ39=> ∀t38:Value,∀w:World,Br w->φ38 t38 w->Q1 x4.1 true w (Q8 P T.b t38) (dk Tr φ39 w)) fun φ39=>
  U8 Tr (fun φ40=> ∀t39:Value,∀w:World,Br w->φ39 t39 w->Q1 x4.1 true w (Q0 P F.d [t39]) (dk Tr φ40 w)) fun φ40=>
  U8 Tr (fun φ41=> ∀t40:Value,∀w:World,Br w->φ40 t40 w->pick P x4.1 t40 (.bool false) w (dk Tr φ41 w)) fun φ41=>
  U8 Tr (fun φ43=> ∀t41:Value,∀w:World,Br w->φ41 t41 w->Q1 t41 true w (fieldAddr P T.c (.pointer (some q)) 2) (dk Tr φ43 w)) fun φ43=>
  U8 Tr (fun φ45=> ∀t41:Value,∀w:World,Br w->φ41 t41 w->Q1 t41 true w (fun w J=>J x4.2 w) (dk Tr φ45 w)) fun φ45=>
  U8 Tr (fun φ48=> ∀t41:Value,∀w:World,Br w->φ41 t41 w->Q1 t41 true w (fieldAddr P T.c (.pointer (some q)) 0) (dk Tr φ48 w)) fun φ48=>
  U8 Tr (fun φ44=> ∀t41:Value,∀t43:Value,∀w:World,Br w->φ41 t41 w->φ43 t43 w->Q1 t41 true w (Q8 P T.h t43) (dk Tr φ44 w)) fun φ44=>
  U8 Tr (fun φ46=> ∀t41:Value,∀t44:Value,∀t45:Value,∀w:World,Br w->φ41 t41 w->φ44 t44 w->φ45 t45 w->Q1 t41 true w (indexAddr P T.h t44 t45) (dk Tr φ46 w)) fun φ46=>
  U8 Tr (fun φ47=> ∀t41:Value,∀t46:Value,∀w:World,Br w->φ41 t41 w->φ46 t46 w->Q1 t41 true w (Q8 P T.b t46) (dk Tr φ47 w)) fun φ47=>
  U8 Tr (fun φ49=> ∀t41:Value,∀t48:Value,∀w:World,Br w->φ41 t41 w->φ48 t48 w->Q1 t41 true w (Q8 P T.b t48) (dk Tr φ49 w)) fun φ49=>
  ∀t35:Value,∀t37:Value,∀t36:Value,∀t38:Value,∀t39:Value,∀t40:Value,∀t41:Value,∀t43:Value,∀t45:Value,∀t48:Value,∀t44:Value,∀t46:Value,∀t47:Value,∀t49:Value,∀w:World,Br w->φ35 t35 w->φ37 t37 w->φ36 t36 w->φ38 t38 w->φ39 t39 w->φ40 t40 w->φ41 t41 w->φ43 t43 w->φ45 t45 w->φ48 t48 w->φ44 t44 w->φ46 t46 w->φ47 t47 w->φ49 t49 w->
  Q1 t41 true w (Y6 P .neq T.b (.tmp 47) (.tmp 49) t47 t49) fun t50 w=>
  pick P t41 t50 (.bool false) w fun t51 w=>
  lp (α:=Value×Value) (t51,(.int .i64 0)) w fun again10 x10 d_ w=>
   Y6 P .lss T.e (.tmp 52) (.tmp 53) x10.2 x4.2 w fun t54 w=>
   X0 t54 (
    dr w fun Tr Br=>
    U8 Tr (fun φ59=> ∀w:World,Br w->Q1 x10.1 true w (fieldAddr P T.c (.pointer (some q)) 2) (dk Tr φ59 w)) fun φ59=>
    U8 Tr (fun φ61=> ∀w:World,Br w->Q1 x10.1 true w (fun w J=>J x10.2 w) (dk Tr φ61 w)) fun φ61=>
    U8 Tr (fun φ64=> ∀w:World,Br w->Q1 x10.1 true w (fieldAddr P T.c (.pointer (some q)) 2) (dk Tr φ64 w)) fun φ64=>
    U8 Tr (fun φ66=> ∀w:World,Br w->Q1 x10.1 true w (fun w J=>J x4.2 w) (dk Tr φ66 w)) fun φ66=>
    U8 Tr (fun φ60=> ∀t59:Value,∀w:World,Br w->φ59 t59 w->Q1 x10.1 true w (Q8 P T.h t59) (dk Tr φ60 w)) fun φ60=>
    U8 Tr (fun φ62=> ∀t60:Value,∀t61:Value,∀w:World,Br w->φ60 t60 w->φ61 t61 w->Q1 x10.1 true w (indexAddr P T.h t60 t61) (dk Tr φ62 w)) fun φ62=>
    U8 Tr (fun φ63=> ∀t62:Value,∀w:World,Br w->φ62 t62 w->Q1 x10.1 true w (Q8 P T.b t62) (dk Tr φ63 w)) fun φ63=>
    U8 Tr (fun φ65=> ∀t64:Value,∀w:World,Br w->φ64 t64 w->Q1 x10.1 true w (Q8 P T.h t64) (dk Tr φ65 w)) fun φ65=>
    U8 Tr (fun φ67=> ∀t65:Value,∀t66:Value,∀w:World,Br w->φ65 t65 w->φ66 t66 w->Q1 x10.1 true w (indexAddr P T.h t65 t66) (dk Tr φ67 w)) fun φ67=>
    U8 Tr (fun φ68=> ∀t67:Value,∀w:World,Br w->φ67 t67 w->Q1 x10.1 true w (Q8 P T.b t67) (dk Tr φ68 w)) fun φ68=>
    ∀t59:Value,∀t61:Value,∀t64:Value,∀t66:Value,∀t60:Value,∀t62:Value,∀t63:Value,∀t65:Value,∀t67:Value,∀t68:Value,∀w:World,Br w->φ59 t59 w->φ61 t61 w->φ64 t64 w->φ66 t66 w->φ60 t60 w->φ62 t62 w->φ63 t63 w->φ65 t65 w->φ67 t67 w->φ68 t68 w->
    Q1 x10.1 true w (Y6 P .neq T.b (.tmp 63) (.tmp 68) t63 t68) fun t69 w=>
    pick P x10.1 t69 (.bool false) w fun t70 w=>
    Y6 P .add T.e (.tmp 55) (.const (.int .i64 1)) x10.2 (.int .i64 1) w fun t56 w=>
    again10 (t70,t56) w) (
    Y6 P .add T.e (.tmp 31) (.const (.int .i64 1)) x4.2 (.int .i64 1) w fun t32 w=>
    again4 (x10.1,t32) w)) (
  J x4.1 w):=by
 have hmax:=g1.max;refine H0 (a:=Value.bool ok) c.like.length (fun n x w'=> ∃σ',Stp w1 σ1 w' σ'/\x=Value.bool (ok&&(List.range n).all fun i=>Hp c i&&(List.range i).all (Yp c i))) ⟨σ1,Stp.refl hs1,by simp⟩ fun n x w2 d hn2 hinv=>?_
 obtain ⟨σ2,hk2,rfl⟩:=hinv;have hq2:=hq.up hk2;have g12:=g1.up hk2;have hs2:=hk2.sat
 (repeat refine Hd.h ?_)
 refine ld hs2 hq2 rfl ?_;refine Q6 g12 ?_;refine Z1 ?_;refine Q4 (fun hc=>?_) (fun hc=>?_)
 .have hn':n<c.like.length:=by simpa using hc
  have hnx:(ok&&(List.range (n+1)).all fun i=>Hp c i&&(List.range i).all (Yp c i))=((ok&&(List.range n).all fun i=>Hp c i&&(List.range i).all (Yp c i))&&(Hp c n&&(List.range n).all (Yp c n))):=by rw[Ow,Bool.and_assoc]
  have hP:Hp c n=(H7 c.like[n]&& !decide (c.like[n]=c.name)):=by unfold Hp;rw[I9 hn']
  obtain ⟨p1,p2⟩:=g12.elS hn';have p2:c.like[n].length<=140737488355328:=by simp only[V5] at p2;omega
  generalize (ok&&(List.range n).all fun i=>Hp c i&&(List.range i).all (Yp c i))=acc at hnx⊢;clear h hc;cases hacc:acc with
  | false=>
   refine W1 hs2 ?_
   (repeat refine J4 Uc ?_)
   intros;(repeat (rename_i hx;subst hx))
   rename_i w3 hb3
   (repeat refine Hd.h ?_)
   refine Q75 hb3.sat hq2 g12 hn' fun w4 σ4 hk4=>?_;exact U4 hmax hn' ⟨σ4,hk2.trans (hb3.stp.trans hk4),by rw[hnx,hacc];rfl⟩
  | true=>
   cases hcl:H7 c.like[n] with
   | false=>
    refine W1 hs2 ?_;have hrc: ∀{w':World} {K:Value->World->Prop},K (.bool false) w'->Q0 P F.d [S c.like[n]] w' K:=fun hK=>Uf _ p2 (by rw[hcl];exact hK)
    (repeat (apply J4;(· intros;(repeat (rename_i hx;subst hx));(repeat' (first | (with_reducible exact V1 rfl) | (with_reducible exact P4 (Stp.bel (by (repeat (first | exact Stp.refl (by (first | assumption | exact Stp.sat Q7 | exact Hst.sat Q7)) | assumption | refine Stp.trans ?_ (by first | assumption | exact Hst.stp Q7))))) rfl) | (with_reducible intro _) | (simp only[↓M2,M2,Mb,reduceIte]) | (with_reducible refine hrc ?_) | (with_reducible show Q8 _ _ _ _ _;first | refine Y3 aS aL aR ?_ | refine Z2 aS aL aR ?_ | refine ld aS aL aR ?_) | (with_reducible show indexAddr _ _ _ _ _ _;refine Y9 aL au ?_) | (with_reducible show J7 _ _ _ _ _ _ _ _;refine Q6 aL ?_) | (with_reducible show Qr _ _ _ _ _ _;refine V4 aR ?_) | (with_reducible show pick _ _ _ _ _ _;refine C6 ?_) | (apply Xq;intro hh;(try simp only[hh,reduceIte,↓M2,M2,Mb,reduceIte]))));done)))
    intros;(repeat (rename_i hx;subst hx))
    rename_i w3 hb3
    (repeat refine Hd.h ?_)
    refine Q75 hb3.sat hq2 g12 hn' fun w4 σ4 hk4=>?_;exact U4 hmax hn' ⟨σ4,hk2.trans (hb3.stp.trans hk4),by rw[hnx,hacc,hP,hcl];rfl⟩
   | true=>
    refine W1 hs2 ?_;have hrc: ∀{w':World} {K:Value->World->Prop},K (.bool true) w'->Q0 P F.d [S c.like[n]] w' K:=fun hK=>Uf _ p2 (by rw[hcl];exact hK)
    (repeat (apply J4;(· intros;(repeat (rename_i hx;subst hx));(repeat' (first | (with_reducible exact V1 rfl) | (with_reducible exact P4 (Stp.bel (by (repeat (first | exact Stp.refl (by (first | assumption | exact Stp.sat Q7 | exact Hst.sat Q7)) | assumption | refine Stp.trans ?_ (by first | assumption | exact Hst.stp Q7))))) rfl) | (with_reducible intro _) | (simp only[↓M2,M2,Mb,reduceIte]) | (with_reducible refine hrc ?_) | (with_reducible show Q8 _ _ _ _ _;first | refine Y3 aS aL aR ?_ | refine Z2 aS aL aR ?_ | refine ld aS aL aR ?_) | (with_reducible show indexAddr _ _ _ _ _ _;refine Y9 aL au ?_) | (with_reducible show J7 _ _ _ _ _ _ _ _;refine Q6 aL ?_) | (with_reducible show Qr _ _ _ _ _ _;refine V4 aR ?_) | (with_reducible show pick _ _ _ _ _ _;refine C6 ?_) | (apply Xq;intro hh;(try simp only[hh,reduceIte,↓M2,M2,Mb,reduceIte]))));done)))
    intros;(repeat (rename_i hx;subst hx))
    rename_i w3 hb3
    (repeat refine Hd.h ?_)
    refine Zn ?_
    (repeat refine Hd.h ?_)
    refine Q75 hb3.sat hq2 g12 hn' fun w4 σ4 hk4=>?_;exact U4 hmax hn' ⟨σ4,hk2.trans (hb3.stp.trans hk4),by rw[hnx,hacc,hP,hcl];simp⟩
 .have hn': ¬n<c.like.length:=by simpa using hc
  obtain rfl:n=c.like.length:=by omega
  exact h _ _ hk2
set_option maxHeartbeats 2000000 in
theorem Q5P {c:Cla} {lv fv mv:Value} {w1:World} {σ1:Q2} {q:Addr} {ok:Bool} (ak:X3 w1 σ1) (hq:U1 σ1 q [S c.name,S c.super,lv, .bool c.iface, .bool c.abs, .bool c.fin,fv,mv]) {i:Nat} {N m0:Nat} {W:Nat->Value->World->Prop} (g2:Sl 3 I1 σ1 fv c.fields) (hi:i<c.fields.length)
 (h: ∀w' σ',Stp w1 σ1 w' σ'->Ps N W (Value.bool (ok&&(List.range i).all (Jl c i)), .int .i64 (IntKind.i64.wrap (i+1))) w'/\Du N (Value.bool (ok&&(List.range i).all (Jl c i)), .int .i64 (IntKind.i64.wrap (i+1)))<m0):
 lp (α:=Value×Value) (Value.bool ok,(.int .i64 0)) w1 fun L b d_ w=>
  Y6 P .lss T.e (.tmp 102) (.tmp 103) b.2 (I i) w fun aa w=>
  X0 aa (
   dr w fun e H=>
   U8 e (fun t=> ∀w:World,H w->Q1 b.1 true w (fieldAddr P T.c (.pointer (some q)) 6) (dk e t w)) fun t=>
   U8 e (fun v=> ∀w:World,H w->Q1 b.1 true w (fun w J=>J b.2 w) (dk e v w)) fun v=>
   U8 e (fun A=> ∀w:World,H w->Q1 b.1 true w (fieldAddr P T.c (.pointer (some q)) 6) (dk e A w)) fun A=>
   U8 e (fun C=> ∀w:World,H w->Q1 b.1 true w (fun w J=>J (I i) w) (dk e C w)) fun C=>
   U8 e (fun u=> ∀f:Value,∀w:World,H w->t f w->Q1 b.1 true w (Q8 P T.l f) (dk e u w)) fun u=>
   U8 e (fun y=> ∀g:Value,∀j:Value,∀w:World,H w->u g w->v j w->Q1 b.1 true w (indexAddr P T.l g j) (dk e y w)) fun y=>
   U8 e (fun z=> ∀l:Value,∀w:World,H w->y l w->Q1 b.1 true w (fieldAddr P T.n l 0) (dk e z w)) fun z=>
   U8 e (fun O=> ∀m:Value,∀w:World,H w->z m w->Q1 b.1 true w (Q8 P T.b m) (dk e O w)) fun O=>
   U8 e (fun B=> ∀n:Value,∀w:World,H w->A n w->Q1 b.1 true w (Q8 P T.l n) (dk e B w)) fun B=>
   U8 e (fun D=> ∀o:Value,∀p:Value,∀w:World,H w->B o w->C p w->Q1 b.1 true w (indexAddr P T.l o p) (dk e D w)) fun D=>
   U8 e (fun E=> ∀r:Value,∀w:World,H w->D r w->Q1 b.1 true w (fieldAddr P T.n r 0) (dk e E w)) fun E=>
   U8 e (fun Q=> ∀s:Value,∀w:World,H w->E s w->Q1 b.1 true w (Q8 P T.b s) (dk e Q w)) fun Q=>
   ∀f:Value,∀j:Value,∀n:Value,∀p:Value,∀g:Value,∀l:Value,∀m:Value,∀R:Value,∀o:Value,∀r:Value,∀s:Value,∀U:Value,∀w:World,H w->t f w->v j w->A n w->C p w->u g w->y l w->z m w->O R w->B o w->D r w->E s w->Q U w->
   Q1 b.1 true w (Y6 P .neq T.b (.tmp 114) (.tmp 120) R U) fun ac w=>
   pick P b.1 ac (.bool false) w fun ad w=>
   Y6 P .add T.e (.tmp 105) (.const (.int .i64 1)) b.2 (.int .i64 1) w fun ab w=>
   L (ad,ab) w) (
   Y6 P .add T.e (.tmp 76) (.const (.int .i64 1)) (I i) (.int .i64 1) w fun ae w=>
   (Ps N W (b.1,ae) w/\Du N (b.1,ae)<m0)):=by
 have ar:=g2.max;refine H0 (a:=Value.bool ok) i (fun k x w'=> ∃σ',Stp w1 σ1 w' σ'/\x=Value.bool (ok&&(List.range k).all (Jl c i))) ⟨σ1,Stp.refl ak,by simp⟩ fun k x w2 d hk Y=>?_
 obtain ⟨σ2,M,rfl⟩:=Y;have ax:=hq.up M;have X:=g2.up M;have al:=M.sat;refine Z1 ?_;refine Q4 (fun hc=>?_) (fun hc=>?_)
 .have ai:k<i:=by simpa using hc
  have Z:k<c.fields.length:=by omega
  have V:(ok&&(List.range (k+1)).all (Jl c i))=((ok&&(List.range k).all (Jl c i))&&Jl c i k):=by rw[Ow,Bool.and_assoc]
  have hQ:Jl c i k= !decide (c.fields[k].name=c.fields[i].name):=by unfold Jl Pc;rw[I9 Z,I9 hi]
  rw[hQ] at V;obtain ⟨p1,_⟩:=X.elF Z;obtain ⟨p2,_⟩:=X.elF hi;generalize (ok&&(List.range k).all (Jl c i))=ag at V⊢;clear h hQ hc;cases ag
  all_goals
   refine W1 al ?_
   (repeat refine J4 Uc ?_)
   (intros;(repeat (rename_i hx;subst hx));(try simp only[↓M2,M2,Mb,reduceIte]))
   rename_i w3 ah;exact U4 Q5 ai ⟨σ2,M.trans ah.stp,by rw[V];rfl⟩
 .have aj:k=i:=by
   have: ¬k<i:=by simpa using hc
   omega
  subst aj
  (try simp only[↓M1,M1,Mb,reduceIte])
  exact h _ _ M
set_option maxHeartbeats 4000000 in
theorem X7b {c:Cla} {lv fv mv:Value} {w1:World} {σ1:Q2} {q:Addr} {ok:Bool} (aw:X3 w1 σ1) (hq:U1 σ1 q [S c.name,S c.super,lv, .bool c.iface, .bool c.abs, .bool c.fin,fv,mv]) {J:Value->World->Prop} (g2:Sl 3 I1 σ1 fv c.fields)
 (h: ∀w' σ',Stp w1 σ1 w' σ'->J (.bool (ok&&(List.range c.fields.length).all fun i=>St c i&&(List.range i).all (Jl c i))) w'):
 lp (
  α:=Value×Value) (Value.bool ok,(.int .i64 0)) w1 fun Z g d_ w=>
  fieldAddr P T.c (.pointer (some q)) 6 w fun ax w=>
  Q8 P T.l ax w fun ay w=>
  J7 P .len [T.l] T.e [false] [ay] w fun az w=>
  Y6 P .lss T.e (.tmp 71) (.tmp 74) g.2 az w fun a0 w=>
  X0 a0 (
   Q1 g.1 true w (fieldAddr P T.c (.pointer (some q)) 6) fun a2 w=>
   Q1 g.1 true w (Q8 P T.l a2) fun a3 w=>
   Q1 g.1 true w (fun w J=>J g.2 w) fun a4 w=>
   Q1 g.1 true w (indexAddr P T.l a3 a4) fun a5 w=>
   Q1 g.1 true w (fieldAddr P T.n a5 0) fun a6 w=>
   Q1 g.1 true w (Q8 P T.b a6) fun a7 w=>
   Q1 g.1 true w (Q0 P F.w [a7]) fun a8 w=>
   pick P g.1 a8 (.bool false) w fun r w=>
   Q1 r true w (fieldAddr P T.c (.pointer (some q)) 6) fun a9 w=>
   Q1 r true w (Q8 P T.l a9) fun ba w=>
   Q1 r true w (fun w J=>J g.2 w) fun bb w=>
   Q1 r true w (indexAddr P T.l ba bb) fun bc w=>
   Q1 r true w (fieldAddr P T.n bc 1) fun bd w=>
   Q1 r true w (Q8 P T.b bd) fun be w=>
   Q1 r true w (Q0 P F.f [be]) fun bf w=>
   pick P r bf (.bool false) w fun ae w=>
   Q1 ae true w (fieldAddr P T.c (.pointer (some q)) 3) fun bg w=>
   Q1 ae true w (Q8 P T.r bg) fun bh w=>
   Q1 ae true w (V8 P .not bh) fun ak w=>
   pick P ae ak (.bool false) w fun al w=>
   lp (α:=Value×Value) (al,(.int .i64 0)) w fun aa f d_ w=>
    Y6 P .lss T.e (.tmp 102) (.tmp 103) f.2 g.2 w fun am w=>
    X0 am (
     dr w fun k Y=>
     U8 k (fun L=> ∀w:World,Y w->Q1 f.1 true w (fieldAddr P T.c (.pointer (some q)) 6) (dk k L w)) fun L=>
     U8 k (fun N=> ∀w:World,Y w->Q1 f.1 true w (fun w J=>J f.2 w) (dk k N w)) fun N=>
     U8 k (fun R=> ∀w:World,Y w->Q1 f.1 true w (fieldAddr P T.c (.pointer (some q)) 6) (dk k R w)) fun R=>
     U8 k (fun V=> ∀w:World,Y w->Q1 f.1 true w (fun w J=>J g.2 w) (dk k V w)) fun V=>
     U8 k (fun M=> ∀u:Value,∀w:World,Y w->L u w->Q1 f.1 true w (Q8 P T.l u) (dk k M w)) fun M=>
     U8 k (fun O=> ∀v:Value,∀y:Value,∀w:World,Y w->M v w->N y w->Q1 f.1 true w (indexAddr P T.l v y) (dk k O w)) fun O=>
     U8 k (fun Q=> ∀z:Value,∀w:World,Y w->O z w->Q1 f.1 true w (fieldAddr P T.n z 0) (dk k Q w)) fun Q=>
     U8 k (fun ac=> ∀A:Value,∀w:World,Y w->Q A w->Q1 f.1 true w (Q8 P T.b A) (dk k ac w)) fun ac=>
     U8 k (fun U=> ∀B:Value,∀w:World,Y w->R B w->Q1 f.1 true w (Q8 P T.l B) (dk k U w)) fun U=>
     U8 k (fun W=> ∀C:Value,∀D:Value,∀w:World,Y w->U C w->V D w->Q1 f.1 true w (indexAddr P T.l C D) (dk k W w)) fun W=>
     U8 k (fun X=> ∀E:Value,∀w:World,Y w->W E w->Q1 f.1 true w (fieldAddr P T.n E 0) (dk k X w)) fun X=>
     U8 k (fun ad=> ∀H:Value,∀w:World,Y w->X H w->Q1 f.1 true w (Q8 P T.b H) (dk k ad w)) fun ad=>
     ∀u:Value,∀y:Value,∀B:Value,∀D:Value,∀v:Value,∀z:Value,∀A:Value,∀af:Value,∀C:Value,∀E:Value,∀H:Value,∀ag:Value,∀w:World,Y w->L u w->N y w->R B w->V D w->M v w->O z w->Q A w->ac af w->U C w->W E w->X H w->ad ag w->
     Q1 f.1 true w (Y6 P .neq T.b (.tmp 114) (.tmp 120) af ag) fun ao w=>
     pick P f.1 ao (.bool false) w fun ap w=>
     Y6 P .add T.e (.tmp 105) (.const (.int .i64 1)) f.2 (.int .i64 1) w fun an w=>
     aa (ap,an) w) (
     Y6 P .add T.e (.tmp 76) (.const (.int .i64 1)) g.2 (.int .i64 1) w fun a1 w=>
     Z (f.1,a1) w)) (
   J g.1 w):=by
 have t:=g2.max;refine H0 (a:=Value.bool ok) c.fields.length (fun n x w'=> ∃σ',Stp w1 σ1 w' σ'/\x=Value.bool (ok&&(List.range n).all fun i=>St c i&&(List.range i).all (Jl c i))) ⟨σ1,Stp.refl aw,by simp⟩ fun n x w2 d bs aj=>?_
 obtain ⟨σ2,o,rfl⟩:=aj;have p:=hq.up o;have m:=g2.up o;have l:=o.sat
 (repeat refine Hd.h ?_)
 refine ld l p rfl ?_;refine Q6 m ?_;refine Z1 ?_;refine Q4 (fun hc=>?_) (fun hc=>?_)
 .have j:n<c.fields.length:=by simpa using hc
  have ab:(ok&&(List.range (n+1)).all fun i=>St c i&&(List.range i).all (Jl c i))=((ok&&(List.range n).all fun i=>St c i&&(List.range i).all (Jl c i))&&(St c n&&(List.range n).all (Jl c n))):=by rw[Ow,Bool.and_assoc]
  have hP:St c n=(C5 c.fields[n].name&&right c.fields[n].kind&& !c.iface):=by unfold St Pc;rw[I9 j]
  obtain ⟨p1,r1⟩:=m.elF j;have b1:c.fields[n].name.length<=140737488355328:=by have:=r1.2.1;simp only[V5] at this;omega
  have b2:c.fields[n].kind.length<=140737488355328:=by have:=r1.2.2;simp only[V5] at this;omega
  generalize (ok&&(List.range n).all fun i=>St c i&&(List.range i).all (Jl c i))=ah at ab⊢;clear h hc;have step: ∀b,b=(ah&&St c n)->(ah&&(St c n&&(List.range n).all (Jl c n)))=(b&&(List.range n).all (Jl c n)):=fun b e=>by rw[e,Bool.and_assoc]
  cases ah with
  | false=>
   (repeat refine Hd.h ?_)
   refine Q5P l p m j fun w4 σ4 s=>?_;exact U4 t j ⟨σ4,o.trans s,by rw[ab];rfl⟩
  | true=>
   (repeat refine Hd.h ?_)
   refine ld l p rfl ?_
   (repeat refine Hd.h ?_)
   refine Y9 m j ?_
   (repeat refine Hd.h ?_)
   refine ld l p1 rfl ?_
   (repeat refine Hd.h ?_)
   refine Q1y _ b1 ?_;cases d1:C5 c.fields[n].name with
   | false=>
    (repeat refine Hd.h ?_)
    refine Q5P l p m j fun w4 σ4 s=>?_;exact U4 t j ⟨σ4,o.trans s,by rw[ab,step false (by rw[hP,d1];rfl)]⟩
   | true=>
    (repeat refine Hd.h ?_)
    refine ld l p rfl ?_
    (repeat refine Hd.h ?_)
    refine Y9 m j ?_
    (repeat refine Hd.h ?_)
    refine ld l p1 rfl ?_
    (repeat refine Hd.h ?_)
    refine Lv _ b2 ?_;cases d2:right c.fields[n].kind with
    | false=>
     (repeat refine Hd.h ?_)
     refine Q5P l p m j fun w4 σ4 s=>?_;exact U4 t j ⟨σ4,o.trans s,by rw[ab,step false (by rw[hP,d1,d2];rfl)]⟩
    | true=>
     (repeat refine Hd.h ?_)
     refine ld l p rfl ?_
     (repeat refine Hd.h ?_)
     refine Q5P l p m j fun w4 σ4 s=>?_;exact U4 t j ⟨σ4,o.trans s,by rw[ab,step (!c.iface) (by rw[hP,d1,d2];rfl)]⟩
 .have j: ¬n<c.fields.length:=by simpa using hc
  obtain rfl:n=c.fields.length:=by omega
  exact h _ _ o
set_option maxHeartbeats 2000000 in
theorem Ie {c:Cla} {lv fv mv:Value} {w1:World} {σ1:Q2} {q:Addr} {ok:Bool} (ad:X3 w1 σ1) (hq:U1 σ1 q [S c.name,S c.super,lv, .bool c.iface, .bool c.abs, .bool c.fin,fv,mv]) {i:Nat} {q9:Addr} {pv cv hv:Value} {N m0:Nat} {L:Nat->Value->World->Prop} (g3:Sl 7 B8 σ1 mv c.methods) (hi:i<c.methods.length) (ac:U1 σ1 q9 [S c.methods[i].name,pv,S c.methods[i].result, .bool c.methods[i].abs,I c.methods[i].locals,cv,hv])
 (h: ∀w' σ',Stp w1 σ1 w' σ'->Ps N L (Value.bool (ok&&(List.range i).all (Jo c i)), .int .i64 (IntKind.i64.wrap (i+1))) w'/\Du N (Value.bool (ok&&(List.range i).all (Jo c i)), .int .i64 (IntKind.i64.wrap (i+1)))<m0):
 lp (α:=Value×Value) (Value.bool ok,(.int .i64 0)) w1 fun y b d_ w=>
  Y6 P .lss T.e (.tmp 158) (.tmp 159) b.2 (I i) w fun Q w=>
  X0 Q (
   dr w fun e B=>
   U8 e (fun o=> ∀w:World,B w->Q1 b.1 true w (fieldAddr P T.c (.pointer (some q)) 7) (dk e o w)) fun o=>
   U8 e (fun r=> ∀w:World,B w->Q1 b.1 true w (fun w J=>J b.2 w) (dk e r w)) fun r=>
   U8 e (fun u=> ∀w:World,B w->Q1 b.1 true w (fieldAddr P T.d (.pointer (some q9)) 0) (dk e u w)) fun u=>
   U8 e (fun p=> ∀f:Value,∀w:World,B w->o f w->Q1 b.1 true w (Q8 P T.j f) (dk e p w)) fun p=>
   U8 e (fun s=> ∀g:Value,∀j:Value,∀w:World,B w->p g w->r j w->Q1 b.1 true w (indexAddr P T.j g j) (dk e s w)) fun s=>
   U8 e (fun t=> ∀l:Value,∀w:World,B w->s l w->Q1 b.1 true w (fieldAddr P T.d l 0) (dk e t w)) fun t=>
   U8 e (fun z=> ∀m:Value,∀w:World,B w->t m w->Q1 b.1 true w (Q8 P T.b m) (dk e z w)) fun z=>
   U8 e (fun A=> ∀n:Value,∀w:World,B w->u n w->Q1 b.1 true w (Q8 P T.b n) (dk e A w)) fun A=>
   ∀f:Value,∀j:Value,∀n:Value,∀g:Value,∀l:Value,∀m:Value,∀D:Value,∀E:Value,∀w:World,B w->o f w->r j w->u n w->p g w->s l w->t m w->z D w->A E w->
   Q1 b.1 true w (Y6 P .neq T.b (.tmp 170) (.tmp 172) D E) fun U w=>
   pick P b.1 U (.bool false) w fun V w=>
   Y6 P .add T.e (.tmp 161) (.const (.int .i64 1)) b.2 (.int .i64 1) w fun R w=>
   y (V,R) w) (
   Y6 P .add T.e (.tmp 128) (.const (.int .i64 1)) (I i) (.int .i64 1) w fun C w=>
   (Ps N L (b.1,C) w/\Du N (b.1,C)<m0)):=by
 have ai:=g3.max;refine H0 (a:=Value.bool ok) i (fun k x w'=> ∃σ',Stp w1 σ1 w' σ'/\x=Value.bool (ok&&(List.range k).all (Jo c i))) ⟨σ1,Stp.refl ad,by simp⟩ fun k x w2 d hk M=>?_
 obtain ⟨σ2,v,rfl⟩:=M;have ar:=hq.up v;have aj:=ac.up v;have Y:=g3.up v;have ae:=v.sat;refine Z1 ?_;refine Q4 (fun W=>?_) (fun W=>?_)
 .have aa:k<i:=by simpa using W
  have O:k<c.methods.length:=by omega
  have H:(ok&&(List.range (k+1)).all (Jo c i))=((ok&&(List.range k).all (Jo c i))&&Jo c i k):=by rw[Ow,Bool.and_assoc]
  have hQ:Jo c i k= !decide (c.methods[k].name=c.methods[i].name):=by unfold Jo Fv;rw[I9 O,I9 hi]
  rw[hQ] at H;obtain ⟨az,an,aw,p1,_⟩:=Y.elM O;generalize (ok&&(List.range k).all (Jo c i))=X at H⊢;clear h hQ W;cases X
  all_goals
   refine W1 ae ?_
   (repeat refine J4 Uc ?_)
   (intros;(repeat (rename_i hx;subst hx));(try simp only[↓M2,M2,Mb,reduceIte]))
   rename_i w3 Z;exact U4 Q5 aa ⟨σ2,v.trans Z.stp,by rw[H];rfl⟩
 .have ab:k=i:=by
   have: ¬k<i:=by simpa using W
   omega
  subst ab
  (try simp only[↓M1,M1,Mb,reduceIte])
  exact h _ _ v
set_option maxHeartbeats 4000000 in
theorem X7l {c:Cla} {lv fv mv:Value} {w1:World} {σ1:Q2} {q:Addr} {ok:Bool} (bu:X3 w1 σ1) (hq:U1 σ1 q [S c.name,S c.super,lv, .bool c.iface, .bool c.abs, .bool c.fin,fv,mv]) {J:Value->World->Prop} (g3:Sl 7 B8 σ1 mv c.methods)
 (h: ∀w' σ',Stp w1 σ1 w' σ'->J (.bool (ok&&(List.range c.methods.length).all fun i=>Hq c i&&(List.range i).all (Jo c i))) w'):
 lp (α:=Value×Value) (Value.bool ok,(.int .i64 0)) w1 fun V v d_ w=>
  fieldAddr P T.c (.pointer (some q)) 7 w fun ax w=>
  Q8 P T.j ax w fun ay w=>
  J7 P .len [T.j] T.e [false] [ay] w fun az w=>
  Y6 P .lss T.e (.tmp 123) (.tmp 126) v.2 az w fun a0 w=>
  X0 a0 (
   fieldAddr P T.c (.pointer (some q)) 7 w fun a2 w=>
   Q8 P T.j a2 w fun a3 w=>
   indexAddr P T.j a3 v.2 w fun a4 w=>
   Q8 P T.d a4 w fun a5 w=>
   T4 P T.d w fun t9 w=>
   U3 P T.d t9 a5 w fun _u w=>
   Q1 v.1 true w (Q8 P T.d t9) fun a6 w=>
   Q1 v.1 true w (Q0 P F.a9 [a6]) fun a7 w=>
   pick P v.1 a7 (.bool false) w fun r w=>
   Q1 r true w (fieldAddr P T.d t9 3) fun a8 w=>
   Q1 r true w (Q8 P T.r a8) fun a9 w=>
   Q1 r true w (V8 P .not a9) fun ba w=>
   Q1 r true w (fun w J=>J ba w) fun aa w=>
   Q1 aa false w (fieldAddr P T.c (.pointer (some q)) 4) fun bb w=>
   Q1 aa false w (Q8 P T.r bb) fun bc w=>
   Q1 r true w (pick P aa (.bool true) bc) fun bd w=>
   pick P r bd (.bool false) w fun s w=>
   Q1 s true w (fieldAddr P T.c (.pointer (some q)) 3) fun be w=>
   Q1 s true w (Q8 P T.r be) fun bf w=>
   Q1 s true w (V8 P .not bf) fun bg w=>
   Q1 s true w (fun w J=>J bg w) fun ab w=>
   Q1 ab false w (fieldAddr P T.d t9 3) fun bh w=>
   Q1 ab false w (Q8 P T.r bh) fun bi w=>
   Q1 s true w (pick P ab (.bool true) bi) fun bj w=>
   pick P s bj (.bool false) w fun bk w=>
   lp (α:=Value×Value) (bk,(.int .i64 0)) w fun W k d_ w=>
    Y6 P .lss T.e (.tmp 158) (.tmp 159) k.2 v.2 w fun bl w=>
    X0 bl (
     dr w fun y Br=>
     U8 y (fun H=> ∀w:World,Br w->Q1 k.1 true w (fieldAddr P T.c (.pointer (some q)) 7) (dk y H w)) fun H=>
     U8 y (fun M=> ∀w:World,Br w->Q1 k.1 true w (fun w J=>J k.2 w) (dk y M w)) fun M=>
     U8 y (fun Q=> ∀w:World,Br w->Q1 k.1 true w (fieldAddr P T.d t9 0) (dk y Q w)) fun Q=>
     U8 y (fun L=> ∀z:Value,∀w:World,Br w->H z w->Q1 k.1 true w (Q8 P T.j z) (dk y L w)) fun L=>
     U8 y (fun N=> ∀A:Value,∀B:Value,∀w:World,Br w->L A w->M B w->Q1 k.1 true w (indexAddr P T.j A B) (dk y N w)) fun N=>
     U8 y (fun O=> ∀C:Value,∀w:World,Br w->N C w->Q1 k.1 true w (fieldAddr P T.d C 0) (dk y O w)) fun O=>
     U8 y (fun ac=> ∀D:Value,∀w:World,Br w->O D w->Q1 k.1 true w (Q8 P T.b D) (dk y ac w)) fun ac=>
     U8 y (fun ad=> ∀E:Value,∀w:World,Br w->Q E w->Q1 k.1 true w (Q8 P T.b E) (dk y ad w)) fun ad=>
     ∀z:Value,∀B:Value,∀E:Value,∀A:Value,∀C:Value,∀D:Value,∀ai:Value,∀aj:Value,∀w:World,Br w->H z w->M B w->Q E w->L A w->N C w->O D w->ac ai w->ad aj w->
     Q1 k.1 true w (Y6 P .neq T.b (.tmp 170) (.tmp 172) ai aj) fun bn w=>
     pick P k.1 bn (.bool false) w fun bo w=>
     Y6 P .add T.e (.tmp 161) (.const (.int .i64 1)) k.2 (.int .i64 1) w fun bm w=>
     W (bo,bm) w) (
     Y6 P .add T.e (.tmp 128) (.const (.int .i64 1)) v.2 (.int .i64 1) w fun a1 w=>
     V (k.1,a1) w)) (
   J v.1 w):=by
 have o:=g3.max;refine H0 (a:=Value.bool ok) c.methods.length (fun n x w'=> ∃σ',Stp w1 σ1 w' σ'/\x=Value.bool (ok&&(List.range n).all fun i=>Hq c i&&(List.range i).all (Jo c i))) ⟨σ1,Stp.refl bu,by simp⟩ fun n x w2 d b4 av=>?_
 obtain ⟨σ2,X,rfl⟩:=av;have am:=hq.up X;have af:=g3.up X;have ag:=X.sat
 (repeat refine Hd.h ?_)
 refine ld ag am rfl ?_;refine Q6 af ?_;refine Z1 ?_;refine Q4 (fun hc=>?_) (fun hc=>?_)
 .have f:n<c.methods.length:=by simpa using hc
  have u:(ok&&(List.range (n+1)).all fun i=>Hq c i&&(List.range i).all (Jo c i))=((ok&&(List.range n).all fun i=>Hq c i&&(List.range i).all (Jo c i))&&(Hq c n&&(List.range n).all (Jo c n))):=by rw[Ow,Bool.and_assoc]
  have hP:Hq c n=(Xl c.methods[n]&&(!c.methods[n].abs||c.abs)&&(!c.iface||c.methods[n].abs)):=by unfold Hq Fv;rw[I9 f]
  obtain ⟨pv,cv,hv,p1,r1⟩:=af.elM f;generalize (ok&&(List.range n).all fun i=>Hq c i&&(List.range i).all (Jo c i))=ak at u⊢;clear h hc;have step: ∀b,b=(ak&&Hq c n)->(ak&&(Hq c n&&(List.range n).all (Jo c n)))=(b&&(List.range n).all (Jo c n)):=fun b e=>by rw[e,Bool.and_assoc]
  (repeat refine Hd.h ?_)
  refine ld ag am rfl ?_;refine Y9 af f ?_;refine Z2 ag p1 rfl ?_;refine Z3 ag (by rfl) rfl (Rep.one r1) fun q9 w3 σ3 Y an=>?_
  have ao:=Y.sat;have aw:=am.up Y;have ar:=af.up Y;have r3:=RMe_lift r1 ⟨Y.le⟩;have ah:=X.trans Y;cases ak with
  | false=>
   (repeat refine Hd.h ?_)
   refine Ie ao aw ar f an fun w4 U l=>?_;exact U4 o f ⟨U,ah.trans l,by rw[u];rfl⟩
  | true=>
   (repeat refine Hd.h ?_)
   refine Z2 ao an rfl ?_
   (repeat refine Hd.h ?_)
   refine X30 ao r3 fun w5 σ5 Z=>?_;have m:=Z.sat;have t:=aw.up Z;have g:=an.up Z;have R:=ar.up Z;have p:=ah.trans Z;cases d1:Xl c.methods[n] with
   | false=>
    (repeat refine Hd.h ?_)
    refine Ie m t R f g fun w4 U l=>?_;exact U4 o f ⟨U,p.trans l,by rw[u,step false (by rw[hP,d1];rfl)]⟩
   | true=>
    (repeat refine Hd.h ?_)
    refine ld m g rfl ?_
    (repeat refine Hd.h ?_)
    have j: ∀b1:Bool,b1=(!c.methods[n].abs||c.abs)->Hq c n=(b1&&(!c.iface||c.methods[n].abs)):=fun b1 e=>by rw[hP,d1,e];rfl
    cases d2:c.methods[n].abs with
    | false=>
     rw[d2] at j g;simp only[Bool.not_true,Bool.not_false]
     (repeat refine Hd.h ?_)
     refine ld m t rfl ?_
     (repeat refine Hd.h ?_)
     cases d4:c.iface with
     | false=>
      simp only[Bool.not_true,Bool.not_false]
      (repeat refine Hd.h ?_)
      refine Ie m t R f (by rw[d2];exact g) fun w4 U l=>?_
      exact U4 o f ⟨U,p.trans l,by rw[u,step true (by rw[j true rfl,d4];rfl)]⟩
     | true=>
      simp only[Bool.not_true,Bool.not_false]
      (repeat refine Hd.h ?_)
      refine ld m g rfl ?_
      (repeat refine Hd.h ?_)
      refine Ie m t R f (by rw[d2];exact g) fun w4 U l=>?_
      exact U4 o f ⟨U,p.trans l,by rw[u,step false (by rw[j true rfl,d4];rfl)]⟩
    | true=>
     rw[d2] at j g;simp only[Bool.not_true,Bool.not_false]
     (repeat refine Hd.h ?_)
     refine ld m t rfl ?_;cases d3:c.abs with
     | false=>
      (repeat refine Hd.h ?_)
      refine Ie m t R f (by rw[d2];exact g) fun w4 U l=>?_
      exact U4 o f ⟨U,p.trans l,by rw[u,step false (by rw[j false (by rw[d3];rfl)];rfl)]⟩
     | true=>
      (repeat refine Hd.h ?_)
      refine ld m t rfl ?_
      (repeat refine Hd.h ?_)
      cases d4:c.iface with
      | false=>
       simp only[Bool.not_true,Bool.not_false]
       (repeat refine Hd.h ?_)
       refine Ie m t R f (by rw[d2];exact g) fun w4 U l=>?_
       exact U4 o f ⟨U,p.trans l,by rw[u,step true (by rw[j true (by rw[d3];rfl),d4];rfl)]⟩
      | true=>
       simp only[Bool.not_true,Bool.not_false]
       (repeat refine Hd.h ?_)
       refine ld m g rfl ?_
       (repeat refine Hd.h ?_)
       refine Ie m t R f (by rw[d2];exact g) fun w4 U l=>?_
       exact U4 o f ⟨U,p.trans l,by rw[u,step true (by rw[j true (by rw[d3];rfl),d4];rfl)]⟩
 .have f: ¬n<c.methods.length:=by simpa using hc
  obtain rfl:n=c.methods.length:=by omega
  exact h _ _ X
theorem X78 {c:Cla} {M L mv:Value} {w1:World} {σ1:Q2} {q:Addr} {ok:Bool} (d:X3 w1 σ1) (g:U1 σ1 q [S c.name,S c.super,M, .bool c.iface, .bool c.abs, .bool c.fin,L,mv]) (h:K (.bool (ok&&X2l c)) w1):
 Q1 (Value.bool ok) true w1 (fieldAddr P T.c (.pointer (some q)) 3) fun j w=>
  Q1 (Value.bool ok) true w (Q8 P T.r j) fun k w=>
  Q1 (Value.bool ok) true w (V8 P .not k) fun l w=>
  Q1 (Value.bool ok) true w (fun w J=>J l w) fun b w=>
  Q1 b false w (fieldAddr P T.c (.pointer (some q)) 4) fun m w=>
  Q1 b false w (Q8 P T.r m) fun n w=>
  Q1 b false w (fun w J=>J n w) fun e w=>
  Q1 e true w (fieldAddr P T.c (.pointer (some q)) 1) fun o w=>
  Q1 e true w (Q8 P T.b o) fun p w=>
  Q1 e true w (Y6 P .eql T.b (.tmp 185) (.const (.string ⟨#[79,98,106,101,99,116]⟩)) p (.string ⟨#[79,98,106,101,99,116]⟩)) fun r w=>
  Q1 b false w (pick P e r (.bool false)) fun s w=>
  Q1 (Value.bool ok) true w (pick P b (.bool true) s) fun t w=>
  pick P (Value.bool ok) t (.bool false) w fun a w=>
  Q1 a true w (fieldAddr P T.c (.pointer (some q)) 4) fun u w=>
  Q1 a true w (Q8 P T.r u) fun v w=>
  Q1 a true w (fun w J=>J v w) fun f w=>
  Q1 f true w (fieldAddr P T.c (.pointer (some q)) 5) fun y w=>
  Q1 f true w (Q8 P T.r y) fun z w=>
  Q1 a true w (pick P f z (.bool false)) fun A w=>
  Q1 a true w (V8 P .not A) fun B w=>
  pick P a B (.bool false) w fun C w=>
  K C w:=by
 unfold X2l at h;have H:decide (c.super=W4)=decide (c.super=[79,98,106,101,99,116]):=rfl;rw[H] at h;cases ok with
 | false=>(try simp only[↓M1,M1,Mb,reduceIte]);simpa using h
 | true=>
  (try simp only[↓M1,M1,Mb,reduceIte])
  refine ld d g rfl ?_
  (try simp only[↓M1,M1,Mb,reduceIte])
  cases D:c.iface with
  | false=>
   rw[D] at h
   (try simp only[↓M1,M1,Mb,reduceIte])
   refine ld d g rfl ?_;cases i:c.abs with
   | false=>rw[i] at h;(try simp only[↓M1,M1,Mb,reduceIte]);simpa using h
   | true=>
    rw[i] at h
    (try simp only[↓M1,M1,Mb,reduceIte])
    refine ld d g rfl ?_
    (try simp only[↓M1,M1,Mb,reduceIte])
    simpa using h
  | true=>
   rw[D] at h
   (try simp only[↓M1,M1,Mb,reduceIte])
   refine ld d g rfl ?_;cases i:c.abs with
   | false=>rw[i] at h;(try simp only[↓M1,M1,Mb,reduceIte]);simpa using h
   | true=>
    rw[i] at h
    (try simp only[↓M1,M1,Mb,reduceIte])
    refine ld d g rfl ?_
    (try simp only[↓M1,M1,Mb,reduceIte])
    cases E:decide (c.super=[79,98,106,101,99,116]) with
    | false=>rw[E] at h;(try simp only[↓M1,M1,Mb,reduceIte]);simpa using h
    | true=>
     rw[E] at h
     (try simp only[↓M1,M1,Mb,reduceIte])
     refine ld d g rfl ?_;simp only[i,↓M1,M1,Mb,reduceIte];refine ld d g rfl ?_
     (try simp only[↓M1,M1,Mb,reduceIte])
     simpa using h
variable {σ : Q2}
def X0a (c:Cla):Bool:=((((H7 c.name&&H7 c.super&& !decide (c.name=c.super))&&(List.range c.like.length).all fun i=>Hp c i&&(List.range i).all (Yp c i))&&(List.range c.fields.length).all fun i=>St c i&&(List.range i).all (Jl c i))&&(List.range c.methods.length).all fun i=>Hq c i&&(List.range i).all (Jo c i))&&X2l c
theorem X5C {α:Type} {f:α->Q9}: ∀(xs a:List α),Qc f a xs=true↔(xs.map f).Nodup/\ ∀x∈xs,∀y∈a,f y≠f x:=by
 intro xs
 induction xs with
 | nil=>intro a;simp[Qc]
 | cons x r h=>
  intro a;simp only[Qc,Bool.and_eq_true,h,Bool.not_eq_true',List.map_cons,List.nodup_cons];rw[<-Bool.not_eq_true,List.any_eq_true];simp only[decide_eq_true_eq,not_exists,not_and,List.mem_append,List.mem_cons,List.not_mem_nil,or_false,List.mem_map];constructor
  .rintro ⟨d,g,c⟩
   refine ⟨⟨fun y hy e=>c y hy x (.inr rfl) e.symm,g⟩,fun y hy z b=>?_⟩
   rcases hy with rfl | hy
   .exact d z b
   .exact c y hy z (.inl b)
  .rintro ⟨⟨d,g⟩,c⟩
   refine ⟨fun y hy=>c x (.inl rfl) y hy,g,fun y hy z b=>?_⟩
   rcases b with b | rfl
   .exact c y (.inr hy) z b
   .exact fun e=>d y hy e.symm
theorem Q3K {α:Type} {f:α->Q9} {xs:List α} {p:α->Bool} {P:Nat->Bool} {Q:Nat->Nat->Bool} (c: ∀i (h:i<xs.length),P i=p xs[i]) (d: ∀i (h:i<xs.length) k (o:k<xs.length),Q i k= !decide (f xs[k]=f xs[i])):
 ((List.range xs.length).all fun i=>P i&&(List.range i).all (Q i))=true↔(∀x∈xs,p x=true)/\Qc f [] xs=true:=by
 rw[X5C,List.all_eq_true];simp only[List.mem_range,Bool.and_eq_true,List.all_eq_true,List.not_mem_nil,false_implies,implies_true,and_true];rw[List.nodup_iff_pairwise_ne,List.pairwise_iff_getElem];simp only[List.length_map,List.getElem_map];constructor
 .intro h
  refine ⟨fun x n=>?_,fun i j a e b=>?_⟩
  .obtain ⟨i,a,rfl⟩:=List.getElem_of_mem n
   rw[<-c i a];exact (h i a).1
  .have:=(h j e).2 i b
   rw[d j e i a] at this
   simpa using this
 .rintro ⟨g,l⟩ i a
  refine ⟨by rw[c i a];exact g _ (List.getElem_mem a),fun k m=>?_⟩
  rw[d i a k Q5]
  simpa using l k i Q5 a m
theorem X5R (c:Cla):X0a c=Bs c:=by
 have A:=Q3K (f:=id) (xs:=c.like) (p:=fun y=>H7 y&& !decide (y=c.name)) (P:=Hp c) (Q:=Yp c) (fun i h=>by unfold Hp;rw[I9 h]) (fun i h k l=>by unfold Yp;rw[I9 h,I9 l];rfl)
 have g:=Q3K (f:=Fld.name) (xs:=c.fields) (p:=fun f=>C5 f.name&&right f.kind&& !c.iface) (P:=St c) (Q:=Jl c) (fun i h=>by unfold St Pc;rw[I9 h]) (fun i h k l=>by unfold Jl Pc;rw[I9 h,I9 l])
 have d:=Q3K (f:=Hm.Met.name) (xs:=c.methods) (p:=fun m=>Xl m&&(!m.abs||c.abs)&&(!c.iface||m.abs)) (P:=Hq c) (Q:=Jo c) (fun i h=>by unfold Hq Fv;rw[I9 h]) (fun i h k l=>by unfold Jo Fv;rw[I9 h,I9 l])
 rw[Bool.eq_iff_iff];unfold X0a Bs X2l;simp only[Bool.and_eq_true,A,g,d];simp only[Bool.and_eq_true,Bool.not_eq_true',Bool.or_eq_true,Bool.and_eq_false_iff,Bool.or_eq_false_iff,decide_eq_true_eq,decide_eq_false_iff_not,List.all_eq_true,List.mem_cons,List.any_eq_false,Gt,Bool.not_eq_false'];constructor
 .rintro ⟨⟨⟨⟨⟨⟨n,o⟩,r⟩,a,s⟩,h6,t⟩,j,u⟩,b,q⟩
  refine ⟨⟨⟨⟨⟨⟨⟨⟨?_,?_⟩,s⟩,?_⟩,q,?_⟩,t⟩,u⟩,?_⟩,fun m d=>(j m d).1.1⟩
  .rintro x (rfl | rfl | hx)
   .exact n
   .exact o
   .exact (a x hx).1
  .rintro x (rfl | hx)
   .exact r
   .exact fun e=>(a x hx).2 e.symm
  .cases z:c.iface with
   | false=>exact .inl rfl
   | true=>
    rw[z] at b h6 j;have b:=b.resolve_left L1;refine .inr ⟨⟨b,?_⟩,fun m d e=>?_⟩
    .rw[List.eq_nil_iff_forall_not_mem]
     intro f g;exact absurd (h6 f g).2 L1
    .have:=(j m d).2.resolve_left L1
     rw[this] at e;cases e
  .cases v:c.abs with
   | true=>exact .inr rfl
   | false=>
    rw[v] at j;refine .inl fun m d e=>?_;have:=(j m d).1.2.resolve_right L1;rw[this] at e;cases e
  .exact fun f g=>(h6 f g).1
 .rintro ⟨⟨⟨⟨⟨⟨⟨⟨n,o⟩,r⟩,a⟩,s,h6⟩,t⟩,j⟩,u⟩,b⟩
  refine ⟨⟨⟨⟨⟨⟨n _ (.inl rfl),n _ (.inr (.inl rfl))⟩,o _ (.inl rfl)⟩,fun x hx=>⟨n x (.inr (.inr hx)),fun e=>o x (.inr hx) e.symm⟩,r⟩,fun f g=>⟨u f g,?_⟩,t⟩,fun m d=>⟨⟨b m d,?_⟩,?_⟩,j⟩,?_,s⟩
  .rcases a with a | ⟨⟨_,a⟩,_⟩
   .exact a
   .rw[a] at g;simp at g
  .rcases h6 with h6 | h6
   .left;exact eq_false_of_ne_true (h6 m d)
   .exact .inr h6
  .rcases a with a | ⟨_,a⟩
   .exact .inl a
   .right
    cases hx:m.abs with
    | true=>rfl
    | false=>exact absurd hx (a m d)
  .rcases a with a | ⟨⟨a,_⟩,_⟩
   .exact .inl a
   .exact .inr a
set_option maxRecDepth 9999 in
set_option maxHeartbeats 4000000 in
theorem X4x {c:Cla} {cs:List Value} (hs:X3 w σ) (hc:M0 σ c cs) (h: ∀w' σ',Stp w σ w' σ'->K (.bool (X0a c)) w'):Q0 P F.bD [.agg cs.toArray] w K:=Q1o (by
 unfold Hb;simp only[Y5,X5,M5,Ya,L6];unfold Z8 X7 J5 X8 V6 X6 X2 U6 X1;obtain ⟨lv,fv,mv,rfl,f1,f2,f3,f4,f5⟩:=hc;have cr:c.name.length<=140737488355328:=by simp only[V5] at f4;omega
 have ct:c.super.length<=140737488355328:=by simp only[V5] at f5;omega
 refine Z7 hs fun q w1 σ1 bd hq=>?_;have g1:=f1.up bd;have g2:=f2.up bd;have g3:=f3.up bd;have bf:=bd.sat
 have ch: ∀ok:Bool,ok=(H7 c.name&&H7 c.super&& !decide (c.name=c.super))->_:=fun ok e=>
  X5u (w1:=w1) (σ1:=σ1) (ok:=ok) bf hq (J:=fun v w=>lp (α:=Value×Value) (v,(.int .i64 0)) w fun bb o d_ w=>
   fieldAddr P T.c (.pointer (some q)) 6 w fun cu w=>
   Q8 P T.l cu w fun cv w=>
   J7 P .len [T.l] T.e [false] [cv] w fun cw w=>
   Y6 P .lss T.e (.tmp 71) (.tmp 74) o.2 cw w fun cx w=>
   X0 cx (
    Q1 o.1 true w (fieldAddr P T.c (.pointer (some q)) 6) fun cz w=>
    Q1 o.1 true w (Q8 P T.l cz) fun c0 w=>
    Q1 o.1 true w (fun w J=>J o.2 w) fun c1 w=>
    Q1 o.1 true w (indexAddr P T.l c0 c1) fun c2 w=>
    Q1 o.1 true w (fieldAddr P T.n c2 0) fun c3 w=>
    Q1 o.1 true w (Q8 P T.b c3) fun c4 w=>
    Q1 o.1 true w (Q0 P F.w [c4]) fun c5 w=>
    pick P o.1 c5 (.bool false) w fun am w=>
    Q1 am true w (fieldAddr P T.c (.pointer (some q)) 6) fun c6 w=>
    Q1 am true w (Q8 P T.l c6) fun c7 w=>
    Q1 am true w (fun w J=>J o.2 w) fun c8 w=>
    Q1 am true w (indexAddr P T.l c7 c8) fun c9 w=>
    Q1 am true w (fieldAddr P T.n c9 1) fun da w=>
    Q1 am true w (Q8 P T.b da) fun db w=>
    Q1 am true w (Q0 P F.f [db]) fun dc w=>
    pick P am dc (.bool false) w fun cd w=>
    Q1 cd true w (fieldAddr P T.c (.pointer (some q)) 3) fun dd w=>
    Q1 cd true w (Q8 P T.r dd) fun de w=>
    Q1 cd true w (V8 P .not de) fun ck w=>
    pick P cd ck (.bool false) w fun cl w=>
    lp (α:=Value×Value) (cl,(.int .i64 0)) w fun bc l d_ w=>
     Y6 P .lss T.e (.tmp 102) (.tmp 103) l.2 o.2 w fun cm w=>
     X0 cm (
      dr w fun d n=>
      U8 d (fun a1=> ∀w:World,n w->Q1 l.1 true w (fieldAddr P T.c (.pointer (some q)) 6) (dk d a1 w)) fun a1=>
      U8 d (fun a3=> ∀w:World,n w->Q1 l.1 true w (fun w J=>J l.2 w) (dk d a3 w)) fun a3=>
      U8 d (fun a6=> ∀w:World,n w->Q1 l.1 true w (fieldAddr P T.c (.pointer (some q)) 6) (dk d a6 w)) fun a6=>
      U8 d (fun a8=> ∀w:World,n w->Q1 l.1 true w (fun w J=>J o.2 w) (dk d a8 w)) fun a8=>
      U8 d (fun a2=> ∀ao:Value,∀w:World,n w->a1 ao w->Q1 l.1 true w (Q8 P T.l ao) (dk d a2 w)) fun a2=>
      U8 d (fun a4=> ∀ap:Value,∀aq:Value,∀w:World,n w->a2 ap w->a3 aq w->Q1 l.1 true w (indexAddr P T.l ap aq) (dk d a4 w)) fun a4=>
      U8 d (fun a5=> ∀ar:Value,∀w:World,n w->a4 ar w->Q1 l.1 true w (fieldAddr P T.n ar 0) (dk d a5 w)) fun a5=>
      U8 d (fun cb=> ∀av:Value,∀w:World,n w->a5 av w->Q1 l.1 true w (Q8 P T.b av) (dk d cb w)) fun cb=>
      U8 d (fun a7=> ∀aw:Value,∀w:World,n w->a6 aw w->Q1 l.1 true w (Q8 P T.l aw) (dk d a7 w)) fun a7=>
      U8 d (fun a9=> ∀ax:Value,∀ay:Value,∀w:World,n w->a7 ax w->a8 ay w->Q1 l.1 true w (indexAddr P T.l ax ay) (dk d a9 w)) fun a9=>
      U8 d (fun ba=> ∀az:Value,∀w:World,n w->a9 az w->Q1 l.1 true w (fieldAddr P T.n az 0) (dk d ba w)) fun ba=>
      U8 d (fun cc=> ∀a0:Value,∀w:World,n w->ba a0 w->Q1 l.1 true w (Q8 P T.b a0) (dk d cc w)) fun cc=>
      ∀ao:Value,∀aq:Value,∀aw:Value,∀ay:Value,∀ap:Value,∀ar:Value,∀av:Value,∀cf:Value,∀ax:Value,∀az:Value,∀a0:Value,∀cg:Value,∀w:World,n w->a1 ao w->a3 aq w->a6 aw w->a8 ay w->a2 ap w->a4 ar w->a5 av w->cb cf w->a7 ax w->a9 az w->ba a0 w->cc cg w->
      Q1 l.1 true w (Y6 P .neq T.b (.tmp 114) (.tmp 120) cf cg) fun co w=>
      pick P l.1 co (.bool false) w fun cp w=>
      Y6 P .add T.e (.tmp 105) (.const (.int .i64 1)) l.2 (.int .i64 1) w fun cn w=>
      bc (cp,cn) w) (
      Y6 P .add T.e (.tmp 76) (.const (.int .i64 1)) o.2 (.int .i64 1) w fun cy w=>
      bb (l.1,cy) w)) (
    lp (α:=Value×Value) (o.1,(.int .i64 0)) w fun H f d_ w=>
     fieldAddr P T.c (.pointer (some q)) 7 w fun bg w=>
     Q8 P T.j bg w fun bh w=>
     J7 P .len [T.j] T.e [false] [bh] w fun bi w=>
     Y6 P .lss T.e (.tmp 123) (.tmp 126) f.2 bi w fun bj w=>
     X0 bj (
      fieldAddr P T.c (.pointer (some q)) 7 w fun bl w=>
      Q8 P T.j bl w fun bm w=>
      indexAddr P T.j bm f.2 w fun bn w=>
      Q8 P T.d bn w fun bo w=>
      T4 P T.d w fun t9 w=>
      U3 P T.d t9 bo w fun _u w=>
      Q1 f.1 true w (Q8 P T.d t9) fun bp w=>
      Q1 f.1 true w (Q0 P F.a9 [bp]) fun bq w=>
      pick P f.1 bq (.bool false) w fun j w=>
      Q1 j true w (fieldAddr P T.d t9 3) fun br w=>
      Q1 j true w (Q8 P T.r br) fun bs w=>
      Q1 j true w (V8 P .not bs) fun bu w=>
      Q1 j true w (fun w J=>J bu w) fun M w=>
      Q1 M false w (fieldAddr P T.c (.pointer (some q)) 4) fun bv w=>
      Q1 M false w (Q8 P T.r bv) fun bw w=>
      Q1 j true w (pick P M (.bool true) bw) fun bx w=>
      pick P j bx (.bool false) w fun k w=>
      Q1 k true w (fieldAddr P T.c (.pointer (some q)) 3) fun bz w=>
      Q1 k true w (Q8 P T.r bz) fun b0 w=>
      Q1 k true w (V8 P .not b0) fun b1 w=>
      Q1 k true w (fun w J=>J b1 w) fun N w=>
      Q1 N false w (fieldAddr P T.d t9 3) fun b2 w=>
      Q1 N false w (Q8 P T.r b2) fun b3 w=>
      Q1 k true w (pick P N (.bool true) b3) fun b4 w=>
      pick P k b4 (.bool false) w fun b5 w=>
      lp (α:=Value×Value) (b5,(.int .i64 0)) w fun L b d_ w=>
       Y6 P .lss T.e (.tmp 158) (.tmp 159) b.2 f.2 w fun b6 w=>
       X0 b6 (
        dr w fun d n=>
        U8 d (fun z=> ∀w:World,n w->Q1 b.1 true w (fieldAddr P T.c (.pointer (some q)) 7) (dk d z w)) fun z=>
        U8 d (fun B=> ∀w:World,n w->Q1 b.1 true w (fun w J=>J b.2 w) (dk d B w)) fun B=>
        U8 d (fun E=> ∀w:World,n w->Q1 b.1 true w (fieldAddr P T.d t9 0) (dk d E w)) fun E=>
        U8 d (fun A=> ∀p:Value,∀w:World,n w->z p w->Q1 b.1 true w (Q8 P T.j p) (dk d A w)) fun A=>
        U8 d (fun C=> ∀r:Value,∀s:Value,∀w:World,n w->A r w->B s w->Q1 b.1 true w (indexAddr P T.j r s) (dk d C w)) fun C=>
        U8 d (fun D=> ∀t:Value,∀w:World,n w->C t w->Q1 b.1 true w (fieldAddr P T.d t 0) (dk d D w)) fun D=>
        U8 d (fun O=> ∀u:Value,∀w:World,n w->D u w->Q1 b.1 true w (Q8 P T.b u) (dk d O w)) fun O=>
        U8 d (fun Q=> ∀y:Value,∀w:World,n w->E y w->Q1 b.1 true w (Q8 P T.b y) (dk d Q w)) fun Q=>
        ∀p:Value,∀s:Value,∀y:Value,∀r:Value,∀t:Value,∀u:Value,∀R:Value,∀U:Value,∀w:World,n w->z p w->B s w->E y w->A r w->C t w->D u w->O R w->Q U w->
        Q1 b.1 true w (Y6 P .neq T.b (.tmp 170) (.tmp 172) R U) fun b8 w=>
        pick P b.1 b8 (.bool false) w fun b9 w=>
        Y6 P .add T.e (.tmp 161) (.const (.int .i64 1)) b.2 (.int .i64 1) w fun b7 w=>
        L (b9,b7) w) (
        Y6 P .add T.e (.tmp 128) (.const (.int .i64 1)) f.2 (.int .i64 1) w fun bk w=>
        H (b.1,bk) w)) (
      Q1 f.1 true w (fieldAddr P T.c (.pointer (some q)) 3) fun V w=>
      Q1 f.1 true w (Q8 P T.r V) fun W w=>
      Q1 f.1 true w (V8 P .not W) fun X w=>
      Q1 f.1 true w (fun w J=>J X w) fun g w=>
      Q1 g false w (fieldAddr P T.c (.pointer (some q)) 4) fun Y w=>
      Q1 g false w (Q8 P T.r Y) fun Z w=>
      Q1 g false w (fun w J=>J Z w) fun i w=>
      Q1 i true w (fieldAddr P T.c (.pointer (some q)) 1) fun aa w=>
      Q1 i true w (Q8 P T.b aa) fun ab w=>
      Q1 i true w (Y6 P .eql T.b (.tmp 185) (.const (.string ⟨#[79,98,106,101,99,116]⟩)) ab (.string ⟨#[79,98,106,101,99,116]⟩)) fun ac w=>
      Q1 g false w (pick P i ac (.bool false)) fun ad w=>
      Q1 f.1 true w (pick P g (.bool true) ad) fun ae w=>
      pick P f.1 ae (.bool false) w fun a w=>
      Q1 a true w (fieldAddr P T.c (.pointer (some q)) 4) fun af w=>
      Q1 a true w (Q8 P T.r af) fun ag w=>
      Q1 a true w (fun w J=>J ag w) fun m w=>
      Q1 m true w (fieldAddr P T.c (.pointer (some q)) 5) fun ah w=>
      Q1 m true w (Q8 P T.r ah) fun ai w=>
      Q1 a true w (pick P m ai (.bool false)) fun aj w=>
      Q1 a true w (V8 P .not aj) fun ak w=>
      pick P a ak (.bool false) w fun al w=>
      K al w))) f4 g1 fun w2 σ2 an=>
  X7b (J:=fun v w=>lp (α:=Value×Value) (v,(.int .i64 0)) w fun H f d_ w=>
   fieldAddr P T.c (.pointer (some q)) 7 w fun bg w=>
   Q8 P T.j bg w fun bh w=>
   J7 P .len [T.j] T.e [false] [bh] w fun bi w=>
   Y6 P .lss T.e (.tmp 123) (.tmp 126) f.2 bi w fun bj w=>
   X0 bj (
    fieldAddr P T.c (.pointer (some q)) 7 w fun bl w=>
    Q8 P T.j bl w fun bm w=>
    indexAddr P T.j bm f.2 w fun bn w=>
    Q8 P T.d bn w fun bo w=>
    T4 P T.d w fun t9 w=>
    U3 P T.d t9 bo w fun _u w=>
    Q1 f.1 true w (Q8 P T.d t9) fun bp w=>
    Q1 f.1 true w (Q0 P F.a9 [bp]) fun bq w=>
    pick P f.1 bq (.bool false) w fun j w=>
    Q1 j true w (fieldAddr P T.d t9 3) fun br w=>
    Q1 j true w (Q8 P T.r br) fun bs w=>
    Q1 j true w (V8 P .not bs) fun bu w=>
    Q1 j true w (fun w J=>J bu w) fun M w=>
    Q1 M false w (fieldAddr P T.c (.pointer (some q)) 4) fun bv w=>
    Q1 M false w (Q8 P T.r bv) fun bw w=>
    Q1 j true w (pick P M (.bool true) bw) fun bx w=>
    pick P j bx (.bool false) w fun k w=>
    Q1 k true w (fieldAddr P T.c (.pointer (some q)) 3) fun bz w=>
    Q1 k true w (Q8 P T.r bz) fun b0 w=>
    Q1 k true w (V8 P .not b0) fun b1 w=>
    Q1 k true w (fun w J=>J b1 w) fun N w=>
    Q1 N false w (fieldAddr P T.d t9 3) fun b2 w=>
    Q1 N false w (Q8 P T.r b2) fun b3 w=>
    Q1 k true w (pick P N (.bool true) b3) fun b4 w=>
    pick P k b4 (.bool false) w fun b5 w=>
    lp (α:=Value×Value) (b5,(.int .i64 0)) w fun L b d_ w=>
     Y6 P .lss T.e (.tmp 158) (.tmp 159) b.2 f.2 w fun b6 w=>
     X0 b6 (
      dr w fun d n=>
      U8 d (fun z=> ∀w:World,n w->Q1 b.1 true w (fieldAddr P T.c (.pointer (some q)) 7) (dk d z w)) fun z=>
      U8 d (fun B=> ∀w:World,n w->Q1 b.1 true w (fun w J=>J b.2 w) (dk d B w)) fun B=>
      U8 d (fun E=> ∀w:World,n w->Q1 b.1 true w (fieldAddr P T.d t9 0) (dk d E w)) fun E=>
      U8 d (fun A=> ∀p:Value,∀w:World,n w->z p w->Q1 b.1 true w (Q8 P T.j p) (dk d A w)) fun A=>
      U8 d (fun C=> ∀r:Value,∀s:Value,∀w:World,n w->A r w->B s w->Q1 b.1 true w (indexAddr P T.j r s) (dk d C w)) fun C=>
      U8 d (fun D=> ∀t:Value,∀w:World,n w->C t w->Q1 b.1 true w (fieldAddr P T.d t 0) (dk d D w)) fun D=>
      U8 d (fun O=> ∀u:Value,∀w:World,n w->D u w->Q1 b.1 true w (Q8 P T.b u) (dk d O w)) fun O=>
      U8 d (fun Q=> ∀y:Value,∀w:World,n w->E y w->Q1 b.1 true w (Q8 P T.b y) (dk d Q w)) fun Q=>
      ∀p:Value,∀s:Value,∀y:Value,∀r:Value,∀t:Value,∀u:Value,∀R:Value,∀U:Value,∀w:World,n w->z p w->B s w->E y w->A r w->C t w->D u w->O R w->Q U w->
      Q1 b.1 true w (Y6 P .neq T.b (.tmp 170) (.tmp 172) R U) fun b8 w=>
      pick P b.1 b8 (.bool false) w fun b9 w=>
      Y6 P .add T.e (.tmp 161) (.const (.int .i64 1)) b.2 (.int .i64 1) w fun b7 w=>
      L (b9,b7) w) (
      Y6 P .add T.e (.tmp 128) (.const (.int .i64 1)) f.2 (.int .i64 1) w fun bk w=>
      H (b.1,bk) w)) (
    Q1 f.1 true w (fieldAddr P T.c (.pointer (some q)) 3) fun V w=>
    Q1 f.1 true w (Q8 P T.r V) fun W w=>
    Q1 f.1 true w (V8 P .not W) fun X w=>
    Q1 f.1 true w (fun w J=>J X w) fun g w=>
    Q1 g false w (fieldAddr P T.c (.pointer (some q)) 4) fun Y w=>
    Q1 g false w (Q8 P T.r Y) fun Z w=>
    Q1 g false w (fun w J=>J Z w) fun i w=>
    Q1 i true w (fieldAddr P T.c (.pointer (some q)) 1) fun aa w=>
    Q1 i true w (Q8 P T.b aa) fun ab w=>
    Q1 i true w (Y6 P .eql T.b (.tmp 185) (.const (.string ⟨#[79,98,106,101,99,116]⟩)) ab (.string ⟨#[79,98,106,101,99,116]⟩)) fun ac w=>
    Q1 g false w (pick P i ac (.bool false)) fun ad w=>
    Q1 f.1 true w (pick P g (.bool true) ad) fun ae w=>
    pick P f.1 ae (.bool false) w fun a w=>
    Q1 a true w (fieldAddr P T.c (.pointer (some q)) 4) fun af w=>
    Q1 a true w (Q8 P T.r af) fun ag w=>
    Q1 a true w (fun w J=>J ag w) fun m w=>
    Q1 m true w (fieldAddr P T.c (.pointer (some q)) 5) fun ah w=>
    Q1 m true w (Q8 P T.r ah) fun ai w=>
    Q1 a true w (pick P m ai (.bool false)) fun aj w=>
    Q1 a true w (V8 P .not aj) fun ak w=>
    pick P a ak (.bool false) w fun al w=>
    K al w)) an.sat (hq.up an) (g2.up an) fun w3 σ3 be=>
  X7l (J:=fun v w=>Q1 v true w (fieldAddr P T.c (.pointer (some q)) 3) fun V w=>
   Q1 v true w (Q8 P T.r V) fun W w=>
   Q1 v true w (V8 P .not W) fun X w=>
   Q1 v true w (fun w J=>J X w) fun g w=>
   Q1 g false w (fieldAddr P T.c (.pointer (some q)) 4) fun Y w=>
   Q1 g false w (Q8 P T.r Y) fun Z w=>
   Q1 g false w (fun w J=>J Z w) fun i w=>
   Q1 i true w (fieldAddr P T.c (.pointer (some q)) 1) fun aa w=>
   Q1 i true w (Q8 P T.b aa) fun ab w=>
   Q1 i true w (Y6 P .eql T.b (.tmp 185) (.const (.string ⟨#[79,98,106,101,99,116]⟩)) ab (.string ⟨#[79,98,106,101,99,116]⟩)) fun ac w=>
   Q1 g false w (pick P i ac (.bool false)) fun ad w=>
   Q1 v true w (pick P g (.bool true) ad) fun ae w=>
   pick P v ae (.bool false) w fun a w=>
   Q1 a true w (fieldAddr P T.c (.pointer (some q)) 4) fun af w=>
   Q1 a true w (Q8 P T.r af) fun ag w=>
   Q1 a true w (fun w J=>J ag w) fun m w=>
   Q1 m true w (fieldAddr P T.c (.pointer (some q)) 5) fun ah w=>
   Q1 m true w (Q8 P T.r ah) fun ai w=>
   Q1 a true w (pick P m ai (.bool false)) fun aj w=>
   Q1 a true w (V8 P .not aj) fun ak w=>
   pick P a ak (.bool false) w fun al w=>
   K al w) be.sat ((hq.up an).up be) ((g3.up an).up be) fun w4 σ4 ci=>
  X78 (K:=K) ci.sat (((hq.up an).up be).up ci) (by rw[e];exact h _ _ (bd.trans (an.trans (be.trans ci))))
 (repeat refine Hd.h ?_)
 refine ld bf hq rfl ?_;refine Uf c.name cr ?_;cases d1:H7 c.name with
 | false=>(repeat refine Hd.h ?_);exact ch false (by rw[d1];rfl)
 | true=>
  (repeat refine Hd.h ?_)
  refine ld bf hq rfl ?_
  (repeat refine Hd.h ?_)
  refine Uf c.super ct ?_;cases d2:H7 c.super with
  | false=>(repeat refine Hd.h ?_);exact ch false (by rw[d1,d2];rfl)
  | true=>
   (repeat refine Hd.h ?_)
   refine ld bf hq rfl ?_
   (repeat refine Hd.h ?_)
   refine ld bf hq rfl ?_
   (repeat refine Hd.h ?_)
   refine Zn ?_
   (repeat refine Hd.h ?_)
   exact ch _ (by rw[d1,d2];rfl))
theorem Q7g {c:Cla} {cs:List Value} (r:X3 w σ) (d:M0 σ c cs) (h: ∀w' t,Stp w σ w' t->K (I (B3 c)) w'):Q0 P F.bC [.agg cs.toArray] w K:=Q1n (by
 unfold Ha;have g:=Rep.one (R:=M0) d;obtain ⟨s,p,mv,rfl,k,l,m,n,o⟩:=d;have d:M0 σ c _:=⟨s,p,mv,rfl,k,l,m,n,o⟩;refine Z7 r fun q w1 σ1 a i=>?_;unfold B3 at h;refine Z2 a.sat i rfl ?_;refine X5P a.sat (RCl_lift d ⟨a.le⟩) fun u y b=>?_;cases f:Vp c with
 | true=>simp only[f,if_true] at h;(try simp only[↓M1,M1,Mb,reduceIte]);exact h _ _ (a.trans b)
 | false=>
  simp only[f,Bool.false_eq_true,if_false] at h
  (try simp only[↓M1,M1,Mb,reduceIte])
  refine Z2 b.sat (i.up b) rfl ?_;refine X4x b.sat (RCl_lift d ⟨(a.trans b).le⟩) fun v z e=>?_;rw[X5R];cases j:Bs c with
  | true=>simp only[j,if_true] at h;(try simp only[↓M1,M1,Mb,reduceIte]);exact h _ _ (a.trans (b.trans e))
  | false=>simp only[j,Bool.false_eq_true,if_false] at h;(try simp only[↓M1,M1,Mb,reduceIte]);exact h _ _ (a.trans (b.trans e)))
end Go.Proofs.Y
namespace Go.Hm
open Go.Kd
theorem X2n {a:List Cla} {m:Nat} (b:m<a.length):U0 a (Z4 a m)=some m↔U0 (a.take m) (Z4 a m)=none:=by
 have g:Z4 a m=a[m].name:=by unfold Z4;rw[List.getD_eq_getElem?_getD,List.getElem?_eq_getElem b];rfl
 unfold U0;rw[List.findIdx?_eq_some_iff_getElem,List.findIdx?_eq_none_iff];constructor
 .rintro ⟨i,k,d⟩ c e
  obtain ⟨j,f,rfl⟩:=List.mem_take_iff_getElem.1 e
  simpa using d j (by omega)
 .intro h
  refine ⟨b,by simp[g],fun j f=>?_⟩
  simpa using h a[j] (List.mem_take_iff_getElem.2 ⟨j,by omega,rfl⟩)
theorem X2I {a:List Cla} (d:Xx a) {m:Nat} (b:m<a.length):Jf a (Z4 a m) (Z4 a m)=Xr a a[m]:=by
 have c:Z4 a m=a[m].name:=by unfold Z4;rw[List.getD_eq_getElem?_getD,List.getElem?_eq_getElem b];rfl
 unfold Jf Xr;rw[Ue d b,List.getD_eq_getElem?_getD,List.getElem?_eq_getElem b];simp only[Option.getD_some,c]
end Go.Hm
namespace Go.Proofs.Y
open Go.Emb Go.RowKit Go.Kd Go.Hm
variable {w : World} {K : Value -> World -> Prop} {σ : Q2} {l : List Cla}
theorem X2r: ∀c∈Xb,Vp c=false:=by decide
theorem X2c {c:Cla} (h:B3 c=0):Vp c=false:=by
 unfold B3 at h
 split at h
 .cases h
 .rename_i a;exact eq_false_of_ne_true a
set_option maxRecDepth 9999 in
set_option maxHeartbeats 4000000 in
theorem X7y {lv:Value} (hs:X3 w σ) (hl:Sl 8 M0 σ lv l) (cw:l.length<=900)
 (C: ∀i e w' B,Ij B3 l=some (i,e)->Stp w σ w' B->K (.tuple #[.slice none 0 0,I i,I e]) w')
 (h0: ∀v w' B,Ij B3 l=none->Stp w σ w' B->Sl 8 M0 B v (Q3 l)->Ok (Q3 l)->Xx (Q3 l)->K (.tuple #[v,I 0,I 0]) w'):Q0 P F.c5 [lv] w K:=Q3C (by
 unfold Bc;simp only[Y5];unfold X7 J5 U7 X6 X2 X1;have t:Xb.length=8:=rfl;have c8:(Q3 l).length=8+l.length:=by simp[Q3,t]
 refine X4t hs fun x0 w1 σ1 bu be=>?_;refine X1Y be ?_;rw[t]
 refine H0 l.length (fun n x w'=> ∃B,Stp w σ w' B/\W2 w.heap.size T.c 8 M0 B w' x (Xb++l.take n)/\C3 B3 l 0=C3 B3 (l.drop n) n)
  ⟨σ1,bu,by simpa using be,rfl⟩ fun n x w4 d H f=>?_
 obtain ⟨σ4,Y,ay,D⟩:=f;have ab:=hl.up Y;refine Q6 ab ?_;refine Z1 ?_;refine Q4 (fun hh=>?_) (fun hh=>?_)
 .have a:n<l.length:=by simpa using hh
  obtain ⟨b9,bk,ca,p1,r1⟩:=ab.elC a;refine Y9 ab a ?_;refine Z2 Y.sat p1 rfl ?_;refine Q7g Y.sat r1 fun w6 σ6 aa=>?_;have bn:=Y.trans aa;have Q:=Oe a D;refine Mk ?_;refine Q4 (fun m=>?_) (fun m=>?_)
  .have A: ¬B3 l[n]=0:=by simpa using m
   rw[if_neg A] at Q;refine C _ _ _ _ ?_ bn;unfold Ij;rw[Q]
  .have hz:B3 l[n]=0:=by simpa using m
   rw[if_pos hz] at Q;refine Y9 (ab.up aa) a ?_;refine Z2 aa.sat (p1.up aa) rfl ?_;have cj:=ay.up aa;have r6:=RCl_lift r1 ⟨aa.le⟩;refine Jy (R:=M0) (x:=l[n]) bn cj (by simpa [Value.cells] using r6) rfl rfl rfl (by simp[t];omega) (by simp[t];omega) fun s v' w9 σ9 db p ck az=>?_
   refine H5 ?_;refine U4 ab.max a ⟨σ9,p,?_,Q⟩;rw[List.take_add_one,List.getElem?_eq_getElem a,<-List.append_assoc];exact ck
 have a: ¬n<l.length:=by simpa using hh
 rw[List.take_of_length_le Q5] at ay;rw[List.drop_eq_nil_of_le Q5] at D;have D:C3 B3 l 0=none:=D;have bp:=Xn D;have bf: ∀c∈l,Yh c/\Nm c/\c.name≠[]:=fun c hc=>Pw (bp c hc)
 have q: ∀c∈Q3 l,Yh c:=fun c hc=>by
  rcases List.mem_append.1 hc with hc | hc
  .exact (Dl c hc).1
  .exact (bf c hc).1
 have a3: ∀c∈Q3 l,Nm c:=fun c hc=>by
  rcases List.mem_append.1 hc with hc | hc
  .exact (Dl c hc).2.1
  .exact (bf c hc).2.1
 have ac: ∀c∈Q3 l,Vp c=false:=fun c hc=>by
  rcases List.mem_append.1 hc with hc | hc
  .exact X2r c hc
  .exact X2c (bp c hc)
 have av:(Q3 l).length<=100000:=by omega
 unfold Ij at C h0;rw[D] at C h0;simp only at C h0;obtain ⟨σ5,o,J,df,cz⟩:=ay.keep Y;change Sl 8 M0 σ5 x (Q3 l) at J;clear ay Y ab a hh H D be bu
 have r: ∀{n:Nat} (H:n<l.length),∃(h:8+n<(Q3 l).length),(Q3 l)[8+n]=l[n]:=fun {n} H=>⟨by omega,by
  unfold Q3;rw[List.getElem_append_right (by rw[t];omega)]
  congr 1
  rw[t];omega⟩
 have bx: ∀{n:Nat} (H:n<l.length),Z4 (Q3 l) (8+n)=l[n].name:=fun {n} H=>by
  obtain ⟨C,h2⟩:=r H;rw[Q0U C,h2]
 have br: ∀j,j<8->(U0 ((Q3 l).take j) (Z4 (Q3 l) j)).isSome=false:=by
  have hd: ∀j,j<8->(U0 (Xb.take j) (Z4 Xb j)).isSome=false:=by decide
  intro j hj;have e1:(Q3 l).take j=Xb.take j:=by unfold Q3;rw[List.take_append_of_le_length (by rw[t];omega)]
  have e2:Z4 (Q3 l) j=Z4 Xb j:=by
   unfold Z4 Q3;rw[List.getD_eq_getElem?_getD,List.getD_eq_getElem?_getD,List.getElem?_append_left (by rw[t];omega)]
  rw[e1,e2];exact hd j hj
 refine V2 l.length (fun n w'=>Stp w σ w' σ5/\ ∀j,j<8+n->(U0 ((Q3 l).take j) (Z4 (Q3 l) j)).isSome=false) ⟨o,by simpa using br⟩ fun n w5 d H f=>?_
 clear o;obtain ⟨o,a2⟩:=f;have aq:=hl.up o;refine Q6 aq ?_;refine Z1 ?_;refine Q4 (fun hh=>?_) (fun hh=>?_)
 .have a:n<l.length:=by simpa using hh
  obtain ⟨b9,bk,ca,p1,r1⟩:=aq.elC a;refine Y9 aq a ?_
  (try simp only[↓M1,M1,Mb,reduceIte])
  refine ld o.sat p1 rfl ?_;refine Qu o.sat J ?_;rw[Qh Q5 Q5];refine Mk ?_;obtain ⟨L,e8⟩:=r a;rw[<-bx a];have bq:=X2n L;cases ai:U0 ((Q3 l).take (8+n)) (Z4 (Q3 l) (8+n)) with
  | none=>
   rw[bq.2 ai];have e:decide (D0 (some (8+n))=(8:Nat)+(n:Int))=true:=by simp[D0]
   rw[e]
   (try simp only[↓M1,M1,Mb,reduceIte])
   refine Y7 aq.max a ⟨o,fun j hj=>?_⟩
   by_cases ej:j=8+n
   .rw[ej,ai];rfl
   .exact a2 j Q5
  | some i=>
   have A:U0 (Q3 l) (Z4 (Q3 l) (8+n))≠some (8+n):=fun e=>by rw[bq.1 e] at ai;cases ai
   have e:decide (D0 (U0 (Q3 l) (Z4 (Q3 l) (8+n)))=(8:Nat)+(n:Int))=false:=by
    rw[decide_eq_false_iff_not];intro e;cases hf:U0 (Q3 l) (Z4 (Q3 l) (8+n)) with
    | none=>rw[hf] at e;simp only[D0] at e;omega
    | some k=>
     rw[hf] at e A;simp only[D0] at e;apply A
     congr 1;omega
   rw[e]
   (try simp only[↓M1,M1,Mb,reduceIte])
   have O:Gs (Q3 l)=some (8+n):=by
    unfold Gs;rw[List.find?_range_eq_some];refine ⟨by rw[ai];rfl,by simpa using L,fun j hj=>by rw[a2 j hj];rfl⟩
   refine C _ _ _ _ ?_ o;rw[O];have:((8+n:Nat):Int)-8=n:=by omega
   simp only[this]
 have a: ¬n<l.length:=by simpa using hh
 have O:Gs (Q3 l)=none:=by
  unfold Gs;rw[List.find?_eq_none];intro j hj;rw[a2 j (by have:=List.mem_range.1 hj;omega)];simp
 rw[O] at C h0;simp only at C h0;have g:=Q0V O;clear a2 hh a H aq br;refine V2 l.length (fun n w'=> ∃B,Stp w σ w' B/\SLe σ5 B/\C3 (fun c=>(B1 (Q3 l) c:Int)) l 0=C3 (fun c=>(B1 (Q3 l) c:Int)) (l.drop n) n) ⟨σ5,o,SLe.refl _,rfl⟩ fun n w6 d H f=>?_;obtain ⟨σ9,p,ax,Z⟩:=f;have ar:=hl.up p;refine Q6 ar ?_;refine Z1 ?_;refine Q4 (fun hh=>?_) (fun hh=>?_)
 .have a:n<l.length:=by simpa using hh
  obtain ⟨b9,bk,ca,p1,r1⟩:=ar.elC a;refine Y9 ar a ?_;refine Z2 p.sat p1 rfl ?_;have U:=Oe a Z;refine X31 p.sat (J.lift ax) r1 fun w8 ct an=>?_;refine Mk ?_;refine Q4 (fun m=>?_) (fun m=>?_)
  .have A: ¬(B1 (Q3 l) l[n]:Int)=0:=by simpa using m
   rw[if_neg A] at U;refine C _ _ _ _ ?_ (p.trans an);rw[U]
  .have hz:(B1 (Q3 l) l[n]:Int)=0:=by simpa using m
   rw[if_pos hz] at U;refine H5 ?_;exact Y7 ar.max a ⟨ct,p.trans an,ax.more ⟨an.le⟩,U⟩
 have a: ¬n<l.length:=by simpa using hh
 rw[List.drop_eq_nil_of_le Q5] at Z;have Z:C3 (fun c=>(B1 (Q3 l) c:Int)) l 0=none:=Z;rw[Z] at C h0;simp only at C h0;have b3:=Xn Z;clear hh a H o ar;refine Q3O p.sat (J.lift ax) g Q5 Q5 q fun vb di cd am ag=>?_;have b:=p.trans am;have bc:=ax.more ⟨am.le⟩;have a0:(Qo (Q3 l)).length=(Q3 l).length:=by simp[Qo]
 refine V2 l.length (fun n w'=>Stp w σ w' cd/\ ∀j (hj:j<l.length),j<n->Xr (Q3 l) l[j]=false) ⟨b,fun j _ h=>by omega⟩ fun n dj d H f=>?_
 clear b;obtain ⟨b,a1⟩:=f;have ao:=hl.up b;refine Q6 ao ?_;refine Z1 ?_;refine Q4 (fun hh=>?_) (fun hh=>?_)
 .have a:n<l.length:=by simpa using hh
  obtain ⟨L,e8⟩:=r a;refine Jx ⟨by omega,by omega⟩ ?_
  have ec:((8:Nat):Int)+(n:Int)=((8+n:Nat):Int):=by omega
  rw[ec];obtain ⟨c2,pb,_,rv,rfl,rb⟩:=ag.el (i:=8+n) (by rw[a0];exact L)
  have b2:(Qo (Q3 l))[8+n]'(by rw[a0];exact L)=(List.range (Q3 l).length).map fun j=>Jf (Q3 l) (Z4 (Q3 l) (8+n)) (Z4 (Q3 l) j):=by simp[Qo]
  rw[b2] at rb;obtain ⟨ci,bh,_,ah⟩:=rb.el (i:=8+n) (by simpa using L)
  have ah:ci=_:=ah;subst ah;simp only[List.getElem_map,List.getElem_range] at bh;rw[X2I g L,e8] at bh;refine Y9 ag (by rw[a0];exact L) ?_
  refine Y3 b.sat pb rfl ?_;refine Jx ⟨by omega,by omega⟩ ?_
  rw[ec];refine Y9 rb (by simpa using L) ?_
  refine Y3 b.sat bh rfl ?_;cases bw:Xr (Q3 l) l[n] with
  | true=>
   (try simp only[↓M1,M1,Mb,reduceIte])
   have bg:l.findIdx? (Xr (Q3 l))=some n:=by
    rw[List.findIdx?_eq_some_iff_getElem];exact ⟨a,bw,fun j hj=>by simpa using a1 j Q5 hj⟩
   refine C _ _ _ _ ?_ b;rw[bg]
  | false=>
   (try simp only[↓M1,M1,Mb,reduceIte])
   refine Y7 ao.max a ⟨b,fun j hj da=>?_⟩
   by_cases e:j=n
   .subst e;exact bw
   .exact a1 j hj Q5
 have a: ¬n<l.length:=by simpa using hh
 have ba: ∀c∈l,Xr (Q3 l) c=false:=fun c hc=>by
  obtain ⟨j,hj,rfl⟩:=List.getElem_of_mem hc;exact a1 j hj Q5
 have bg:l.findIdx? (Xr (Q3 l))=none:=by
  rw[List.findIdx?_eq_none_iff];exact ba
 rw[bg] at C h0;simp only at C h0;clear a1 hh a H ao ag am p a0;have af:=Q8I g (fun c hc=>(bf c hc).2.2) ba
 have ak:X4R (Q3 l):=fun c hc u hu=>by
  rcases List.mem_append.1 hc with hc | hc
  .rw[(Dl c hc).2.2] at hu;simp at hu
  .have:=b3 c hc
   unfold B1 at this
   split at this
   .simp at this
   .split at this
    .simp at this
    .rename_i z
     have z:c.like.any (G8 (Q3 l))=false:=eq_false_of_ne_true z;have:=List.any_eq_false.1 z u hu;unfold G8 at this;cases hd:lk (Q3 l) u with
     | none=>rw[hd] at this;simp at this
     | some d=>exact ⟨d,rfl⟩
 have b0:Ok (Q3 l):=⟨af,av,q,ak,a3⟩
 have b4: ∀i (hi:i<(Q3 l).length),8<=i-> ∀u∈L5 (Q3 l)[i],∃j,U0 (Q3 l) u=some j:=fun i hi L u hu=>by
  have al:i-8<l.length:=by omega
  obtain ⟨c7,e8⟩:=r al;have cm:(Q3 l)[i]=l[i-8]:=by rw[<-e8];congr 1;omega
  rw[cm] at hu;have bb:=List.getElem_mem al
  rcases List.mem_cons.1 hu with hu | hu
  .have:=b3 _ bb
   unfold B1 at this
   split at this
   .simp at this
   .rename_i z
    unfold Zt at z;rw[<-hu] at z;cases hd:lk (Q3 l) u with
    | none=>rw[hd] at z;simp at z
    | some d=>obtain ⟨_,_,j,hj,_⟩:=M6 hd;exact ⟨j,hj⟩
  .obtain ⟨d,hd⟩:=ak _ (List.mem_append_right _ bb) u hu
   obtain ⟨_,_,j,hj,_⟩:=M6 hd;exact ⟨j,hj⟩
 refine Cm (R:=G2) (e:=T.e) b L1 fun dt dl a9 a6 _=>?_
 refine H0 l.length (fun n x' w'=> ∃B out,Stp w σ w' B/\SLe σ5 B/\W2 w.heap.size T.e 1 G2 B w' x' (ints out)/\Few (Q3 l) out/\out=(((List.range (Q3 l).length).drop 8).take n).foldl (fun out i=>Js (Q3 l) 8 out i) [])
  ⟨cd,[],b.trans a9,bc,a6,⟨List.nodup_nil,by simp⟩,rfl⟩ fun n x' dm d H f=>?_
 clear a6 a9 b bc ax;obtain ⟨dv,out,M,W,ae,aj,aw⟩:=f;have ap:=hl.up M;refine Q6 ap ?_;refine Z1 ?_;refine Q4 (fun hh=>?_) (fun hh=>?_)
 .have a:n<l.length:=by simpa using hh
  obtain ⟨L,e8⟩:=r a;refine Jx ⟨by omega,by omega⟩ ?_
  have ec:((8:Nat):Int)+(n:Int)=((8+n:Nat):Int):=by omega
  rw[ec];refine X7B af g Q5 q Q5 b4 ((Q3 l).length+1) L (Nat.lt_succ_of_le (Q01 _ _)) aj M (J.lift W) ae fun du dn cu bl b7 bo=>?_;refine H5 ?_;refine U4 ap.max a ⟨cu,_,bl,W.more b7,bo,Q0Z af g Q5 _ _ _ L aj,?_⟩;rw[List.take_add_one,List.getElem?_drop,List.getElem?_range L,List.foldl_append,<-aw];rfl
 have a: ¬n<l.length:=by simpa using hh
 have cn:n=l.length:=by omega
 subst cn
 have b1:out=N2 (Q3 l) 8:=by
  rw[aw,List.take_of_length_le (by rw[List.length_drop,List.length_range];omega)];rfl
 subst b1;clear aw hh a H;have dc:=aj.len;have co:=X5D g;obtain ⟨ce,bm,b5,bd,_⟩:=ae.keep M;have b8:=W.more ⟨bd⟩;clear ae M bd W ap;have al:(ints (N2 (Q3 l) 8)).length=(N2 (Q3 l) 8).length:=by simp
 refine V2 (N2 (Q3 l) 8).length (fun n w'=> ∃B,Stp w σ w' B/\SLe ce B/\ ∀j∈(N2 (Q3 l) 8).take n,N1 (Q3 l) ((Q3 l).getD j Cla.zero)=0) ⟨ce,bm,SLe.refl _,by simp⟩ fun n dp d H f=>?_
 obtain ⟨dw,N,X,a4⟩:=f;have V:=b5.lift X;refine Q6 V ?_;rw[al];refine Z1 ?_;refine Q4 (fun hh=>?_) (fun hh=>?_)
 .have a:n<(N2 (Q3 l) 8).length:=by simpa using hh
  have bz:n<(ints (N2 (Q3 l) 8)).length:=by rw[al];exact a
  refine Y9 V bz ?_;obtain ⟨cs,pc,_,cl⟩:=V.el bz;obtain ⟨rfl,_⟩:=cl;simp only[List.getElem_map] at pc;refine Y3 N.sat pc rfl ?_;have bs:=(co _ (List.getElem_mem a)).2;have az:(Q3 l).getD (N2 (Q3 l) 8)[n] Cla.zero=(Q3 l)[(N2 (Q3 l) 8)[n]]:=by rw[List.getD_eq_getElem?_getD,List.getElem?_eq_getElem bs];rfl
  refine X18 N.sat (J.lift (b8.more X)) b0 g Q5 ac bs fun dq cf y=>?_;have a5:=N.trans y;refine Mk ?_;refine Q4 (fun m=>?_) (fun m=>?_)
  .have A: ¬N1 (Q3 l) (Q3 l)[(N2 (Q3 l) 8)[n]]=0:=by simpa using m
   have cx:=V.up y;have cb:=pc.up y;refine W1 y.sat ?_
   (repeat refine J4 Uc ?_)
   (intros;(repeat (rename_i hx;subst hx));(try simp only[↓M2,M2,Mb,reduceIte]))
   rename_i cr a7;refine Y3 a7.sat cb rfl ?_;refine Vo ⟨by omega,by omega⟩ ?_
   have E:(N2 (Q3 l) 8).find? (fun j=> !decide (N1 (Q3 l) ((Q3 l).getD j Cla.zero)=0))=some (N2 (Q3 l) 8)[n]:=by
    rw[List.find?_eq_some_iff_getElem];refine ⟨by rw[az];simpa using A,n,a,rfl,fun j hj=>?_⟩
    have:=a4 _ (List.mem_take_iff_getElem.2 ⟨j,by omega,rfl⟩)
    rw[this];simp
   have:=C (((N2 (Q3 l) 8)[n]:Int)-8) (N1 (Q3 l) (Q3 l)[(N2 (Q3 l) 8)[n]]) cr cf (by rw[E];simp only[az]) (a5.trans a7.stp)
   exact this
  .have hz:N1 (Q3 l) (Q3 l)[(N2 (Q3 l) 8)[n]]=0:=by simpa using m
   refine H5 ?_;refine Y7 Q5 a ⟨cf,a5,X.more ⟨y.le⟩,fun j hj=>?_⟩;rw[List.take_add_one,List.getElem?_eq_getElem a] at hj
   rcases List.mem_append.1 hj with hj | hj
   .exact a4 j hj
   .simp at hj;subst hj;rw[az];exact hz
 .have a: ¬n<(N2 (Q3 l) 8).length:=by simpa using hh
  rw[List.take_of_length_le Q5] at a4
  have E:(N2 (Q3 l) 8).find? (fun j=> !decide (N1 (Q3 l) ((Q3 l).getD j Cla.zero)=0))=none:=by
   rw[List.find?_eq_none];intro j hj;rw[a4 j hj];simp
  rw[E] at h0;exact h0 _ _ _ rfl N (J.lift (b8.more X)) b0 g)
end Go.Proofs.Y
namespace Go.Hm
open Go.Kd
def X2u:Ins:=⟨[105,110,116],1,[]⟩
def Q3e:Ins:=⟨[114,101,116,117,114,110],0,[]⟩
def kA:Q9:=[65]
def fX:Fld:=⟨[120],Yu,false⟩
def Q44:Fld:=⟨[110,101,120,116],kA,false⟩
def fL:Fld:=⟨[108],[65,91,93],false⟩
def mF:Hm.Met:=⟨[102],[Yu,kA],Yu,false,3,[X2u,Q3e],[]⟩
def mG:Hm.Met:=⟨[103],[],[],false,1,[Q3e],[]⟩
def cA:Cla:=⟨kA,W4,[],false,false,false,[fX,Q44],[mF,mG]⟩
def cB:Cla:=⟨[66],kA,[[73]],false,false,false,[fL],[]⟩
def cI:Cla:=⟨[73],W4,[],true,true,false,[],[]⟩
def cD:Cla:=⟨[68],W4,[],false,true,false,[],[]⟩
def W3:List Cla:=[cA,cB,cI,cD]
end Go.Hm
namespace Go.Proofs.Y
open Go.Emb Go.RowKit Go.Kd Go.Hm
variable {w w' : World} {K : Value -> World -> Prop} {σ σ' : Q2}
set_option maxRecDepth 100000 in
theorem Q5f:Ij B3 W3=none:=by decide+kernel
theorem X6R: ∀c∈W3,Yh c:=X8p L1
theorem Q40:Wf W3:=X9D Q5f
set_option maxHeartbeats 1000000 in
theorem Q80 (Y:X3 w σ) (h: ∀v w' σ',Stp w σ w' σ'->Sl 8 M0 σ' v W3->K v w'):Q0 P F.aC [] w K:=Tj (by
 unfold Nu;refine L4 (cells:= #[S X2u.op,I 1,S []]) X4 ?_;refine L4 (cells:= #[S Q3e.op,I 0,S []]) X4 ?_;refine B7 (R:=Yz) (sz:=3) Y [.agg #[S X2u.op,I 1,S []], .agg #[S Q3e.op,I 0,S []]] [X2u,Q3e] rfl rfl (by simp;exact ⟨rfl,rfl⟩) rfl ⟨⟨rfl,by decide,by decide,by decide⟩,⟨rfl,by decide,by decide,by decide⟩,trivial⟩ fun Z w1 σ1 j e=>?_
 refine L4 (cells:= #[S fX.name,S fX.kind, .bool false]) X4 ?_;refine L4 (cells:= #[S Q44.name,S Q44.kind, .bool false]) X4 ?_;refine B7 (R:=I1) (sz:=3) j.sat [.agg #[S fX.name,S fX.kind, .bool false], .agg #[S Q44.name,S Q44.kind, .bool false]] [fX,Q44] rfl rfl (by simp;exact ⟨rfl,rfl⟩) rfl ⟨⟨rfl,by decide,by decide⟩,⟨rfl,by decide,by decide⟩,trivial⟩ fun v2 w2 σ2 g f=>?_
 refine B7 (R:=L3) (sz:=1) g.sat [S Yu,S kA] [Yu,kA] rfl rfl (by simp;exact ⟨rfl,rfl⟩) rfl ⟨⟨rfl,by decide⟩,⟨rfl,by decide⟩,trivial⟩ fun v3 w3 σ3 c n=>?_
 have k:=e;have m:=f;have o:=n;obtain ⟨C,N,rfl,_⟩:=k;obtain ⟨D,O,rfl,_⟩:=m;obtain ⟨E,Q,rfl,_⟩:=o;have e:=(e.up g).up c;have f:=f.up c;refine L4 (cells:= #[S mF.name, .slice E 2 Q,S Yu, .bool false,I 3, .slice C 2 N, .slice none 0 0]) X4 ?_;refine L4 (cells:= #[S Q3e.op,I 0,S []]) X4 ?_;refine B7 (R:=Yz) (sz:=3) c.sat [.agg #[S Q3e.op,I 0,S []]] [Q3e] rfl rfl (by simp;rfl) rfl ⟨⟨rfl,by decide,by decide,by decide⟩,trivial⟩ fun v4 w4 σ4 a p=>?_
 have q:=p;obtain ⟨H,U,rfl,_⟩:=q;refine L4 (cells:= #[S mG.name, .slice none 0 0,S [], .bool false,I 1, .slice H 1 U, .slice none 0 0]) X4 ?_
 refine B7 (R:=B8) (sz:=7) a.sat [.agg #[S mF.name, .slice E 2 Q,S Yu, .bool false,I 3, .slice C 2 N, .slice none 0 0], .agg #[S mG.name, .slice none 0 0,S [], .bool false,I 1, .slice H 1 U, .slice none 0 0]] [mF,mG] rfl rfl (by simp;exact ⟨rfl,rfl⟩) rfl
  ⟨⟨_,_,_,rfl,n.up a,e.up a,Sl.nil,by decide,by decide,by decide⟩,⟨_,_,_,rfl,Sl.nil,p,Sl.nil,by decide,by decide,by decide⟩,trivial⟩ fun v5 w5 σ5 i r=>?_
 have s:=r;obtain ⟨J,V,rfl,_⟩:=s;refine L4 (cells:= #[S kA,S W4, .slice none 0 0, .bool false, .bool false, .bool false, .slice D 2 O, .slice J 2 V]) X4 ?_;refine B7 (R:=L3) (sz:=1) i.sat [S [73]] [[73]] rfl rfl (by simp;rfl) rfl ⟨⟨rfl,by decide⟩,trivial⟩ fun v6 w6 σ6 d t=>?_
 have u:=t;obtain ⟨L,W,rfl,_⟩:=u;refine L4 (cells:= #[S fL.name,S fL.kind, .bool false]) X4 ?_;refine B7 (R:=I1) (sz:=3) d.sat [.agg #[S fL.name,S fL.kind, .bool false]] [fL] rfl rfl (by simp;rfl) rfl ⟨⟨rfl,by decide,by decide⟩,trivial⟩ fun v7 w7 σ7 b y=>?_
 have z:=y;obtain ⟨M,X,rfl,_⟩:=z;refine L4 (cells:= #[S cB.name,S kA, .slice L 1 W, .bool false, .bool false, .bool false, .slice M 1 X, .slice none 0 0]) X4 ?_;refine L4 (cells:= #[S cI.name,S W4, .slice none 0 0, .bool true, .bool true, .bool false, .slice none 0 0, .slice none 0 0]) X4 ?_;refine L4 (cells:= #[S cD.name,S W4, .slice none 0 0, .bool false, .bool true, .bool false, .slice none 0 0, .slice none 0 0]) X4 ?_
 refine B7 (R:=M0) (sz:=8) b.sat [.agg #[S kA,S W4, .slice none 0 0, .bool false, .bool false, .bool false, .slice D 2 O, .slice J 2 V], .agg #[S cB.name,S kA, .slice L 1 W, .bool false, .bool false, .bool false, .slice M 1 X, .slice none 0 0], .agg #[S cI.name,S W4, .slice none 0 0, .bool true, .bool true, .bool false, .slice none 0 0, .slice none 0 0], .agg #[S cD.name,S W4, .slice none 0 0, .bool false, .bool true, .bool false, .slice none 0 0, .slice none 0 0]] W3 rfl rfl (by simp;exact ⟨rfl,rfl,rfl,rfl⟩) rfl
  ⟨⟨_,_,_,rfl,Sl.nil,(((f.up a).up i).up d).up b,(r.up d).up b,by decide,by decide⟩,⟨_,_,_,rfl,t.up b,y,Sl.nil,by decide,by decide⟩,⟨_,_,_,rfl,Sl.nil,Sl.nil,Sl.nil,by decide,by decide⟩,⟨_,_,_,rfl,Sl.nil,Sl.nil,Sl.nil,by decide,by decide⟩,trivial⟩ fun v8 w8 σ8 A B=>?_
 exact h _ _ _ ((((((((j.trans g).trans c).trans a).trans i).trans d).trans b)).trans A) B)
variable {hp tv : Value} {room : Int} {cs : List Cel} {l : List Cla}
def part (m n:Nat) (z:Val):List Val:=(List.range m).map fun i=>if i<n then z else Val.zero
theorem X4i (m:Nat) (z:Val):part m 0 z=List.replicate m Val.zero:=by
 refine List.ext_getElem (by simp[part]) fun i a b=>by simp[part]
theorem X5H (m:Nat) (z:Val):part m m z=List.replicate m z:=by
 refine List.ext_getElem (by simp[part]) fun i a b=>?_
 have:i<m:=by simpa [part] using a
 simp[part,this]
theorem X5I {m n:Nat} (z:Val):(part m n z).set n z=part m (n+1) z:=by
 refine List.ext_getElem (by simp[part]) fun i a b=>?_
 simp only[part,List.getElem_set,List.getElem_map,List.getElem_range]
 by_cases e:n=i
 .subst e;simp
 .rw[if_neg e]
  by_cases h:i<n
  .simp[h,Nat.lt_succ_of_lt h]
  .have: ¬i<n+1:=by omega
   simp[h,this]
theorem Q9f {e:Q9} (h:T7 l e=true):right e=true:=by
 simp only[T7,Bool.and_eq_true,Bool.not_eq_true',decide_eq_false_iff_not] at h;have:=h.1.2;simp only[E2,Bool.or_eq_true,Bool.and_eq_true,decide_eq_true_eq] at this
 rcases this with h1 | h1
 .exact absurd h1 h.1.1
 .exact h1.1
theorem X6S {e:Q9} (h:right e=true):Ji e<=3:=by
 unfold Ji;rw[if_pos h];simp only[right,Bool.and_eq_true,decide_eq_true_eq] at h;exact h.1
set_option maxHeartbeats 1000000 in
theorem X6y {B:Nat} {D:Nat->Prop} {e:Q9} {n:Int} (hs:X3 w σ) (hB:B<=w.heap.size) (h:HeapIs B D σ w hp tv room cs) (ht:Tab σ tv l) (hk:e.length<=V5) (h0:0<=O3 room cs) (h1:room<=1048576)
 (hh: ∀w' σ' D',Nxt D w σ w' σ'->HeapIs B D' σ' w' hp tv room (Wl l room cs e n).1->(∀j,D' j->D j\/w.heap.size<=j)->K (.tuple #[I (atM cs (Wl l room cs e n).2),I (Wl l room cs e n).2]) w'):Q0 P F.bK [hp,S e,I n] w K:=Q28 (by
 obtain ⟨b,lv,E,rfl,hm,hr⟩:=h.tab;unfold Rh;simp only[M9];unfold Z8 U7 X8 X6 X2 U6 X1;refine Y00 e (Nat.le_trans hk L1) fun w1 ac=>?_;have y:=Stp.of_below hs ac;unfold Wl at hh
 have g: ∀{L H},Stp w σ L H->T7 l e=false->K (.tuple #[I 0,I 91]) L:=fun {L H} hS W=>by
  rw[W] at hh;simp only[if_pos] at hh;exact hh L H D (.of_stp hS) (h.up hS) fun j t=> .inl t
 cases z:(right e&&decide (Ji e≠3)) with
 | false=>
  have W:T7 l e=false:=by
   cases hx:T7 l e with
   | false=>rfl
   | true=>
    have hr:=Q9f hx;simp only[T7,Bool.and_eq_true,decide_eq_true_eq] at hx;rw[hr,Bool.true_and,decide_eq_false_iff_not] at z;omega
  simp only[Bool.false_eq_true,if_false]
  (try simp only[↓M1,M1,Mb,reduceIte])
  simp only[show decide ((30:Int)=0)=false from by decide,Bool.not_false,↓M1,M1,Mb,reduceIte]
  exact g y W
 | true=>
  simp only[if_true]
  (try simp only[↓M1,M1,Mb,reduceIte])
  simp only[decide_true,Bool.not_true,↓M1,M1,Mb,reduceIte];refine Ys (i:=0) (hm.up y) rfl ?_;refine Q5E y.sat ht hk fun L H O=>?_;have a:=y.trans O;simp only[Bool.and_eq_true,decide_eq_true_eq] at z;have aw:=X6S z.1
  have k:T7 l e=(!decide (e=G1)&&E2 l e):=by
   unfold T7;have:decide (Ji e<=2)=true:=decide_eq_true Q5;rw[this,Bool.and_true]
  have en:decide (e=[110,117,108,108])=decide (e=G1):=rfl;cases V:E2 l e with
  | false=>
   (try simp only[↓M1,M1,Mb,reduceIte])
   exact g a (by rw[k,V,Bool.and_false])
  | true=>
   (try simp only[↓M1,M1,Mb,reduceIte])
   by_cases c:e=G1
   .have:decide (e=[110,117,108,108])=true:=decide_eq_true c
    rw[this]
    (try simp only[↓M1,M1,Mb,reduceIte])
    exact g a (by rw[k,decide_eq_true c];rfl)
   have:decide (e=[110,117,108,108])=false:=decide_eq_false c;rw[this]
   (try simp only[↓M1,M1,Mb,reduceIte])
   have W:T7 l e=true:=by rw[k,V,decide_eq_false c];rfl
   rw[W] at hh;simp only[Bool.true_eq_false,if_false] at hh
   by_cases o:n<0
   .rw[if_pos o] at hh
    rw[decide_eq_true o]
    (try simp only[↓M1,M1,Mb,reduceIte])
    exact hh L H D (.of_stp a) (h.up a) fun j t=> .inl t
   rw[if_neg o] at hh;rw[decide_eq_false o]
   (try simp only[↓M1,M1,Mb,reduceIte])
   refine Q8V O.sat (h.up a) h0 h1 fun w3 Q=>?_;have q:=a.trans Q;refine Xd ?_
   by_cases M:O3 room cs<=n
   .rw[if_pos M] at hh
    rw[decide_eq_true M];refine J3 ?_;exact hh w3 H D (.of_stp q) (h.up q) fun j t=> .inl t
   rw[if_neg M] at hh;rw[decide_eq_false M];refine Z6 ?_;obtain ⟨m,rfl⟩:=Int.eq_ofNat_of_zero_le (Int.not_lt.1 o);have ag:(m:Int)<O3 room cs:=Int.not_le.1 M;have a1:=E0 cs;unfold O3 at ag h0;have A:=q.bel.size;have am:=Q02 z.1;refine X49 (sz:=4) (R:=N0) (x0:=Val.zero) Q.sat rfl L1 ⟨rfl,by decide⟩ Q5 Q5 fun v w4 af ab C=>?_
   have X:=J6.of_acc ab;refine Hx X ?_;rw[List.length_replicate];refine V2 m (fun i w'=> ∃σ',Stp w3 H w' σ'/\J6 w3.heap.size T.f 4 N0 σ' w' v (part m i (E8 e))) ⟨H,af,by rw[X4i];exact X⟩ fun i w5 d hi N=>?_
   obtain ⟨σ5,r,J⟩:=N;refine Z1 ?_;refine Q4 (fun hc=>?_) (fun hc=>?_)
   .have s:i<m:=by simpa using hc
    refine X3x r.sat fun w6 σ6 U=>?_;have aa:=r.trans U;refine Q6f (x:=E8 e) aa (J.up U) (by simpa [part] using s) rfl (Q0c e) (Rep.one (R:=N0) (Q0c (σ:=σ6) e)) fun p u w7 ax ad Y=>?_
    refine H5 ?_;rw[X5I] at Y;exact Y7 Q5 s ⟨σ6,ad.stp,Y⟩
   .have s:i=m:=by
     have: ¬i<m:=by simpa using hc
     omega
    subst s;rw[X5H] at J;have f:=q.trans r
    refine X6a r.sat (Nat.le_trans hB f.bel.size) (h.up f) (J.mono (Nat.le_trans hB A)) (fun j t hD=>by
     have:=(h.mem hD).2.1;have:=C j t;omega) (Nat.le_trans (show (e++[91,93]).length<=40 by simp only[List.length_append,List.length_cons,List.length_nil];omega) L1) (by rw[List.length_replicate];omega) fun w7 σ7 D' N7 h7 Z=>?_
    refine Z5 (vs:=[_,_]) rfl ?_;refine Z5 (vs:=[_,_]) rfl ?_;rw[Int.toNat_natCast] at hh;refine hh w7 σ7 D' ((Nxt.of_stp f).chain N7 fun j _ e=>e) h7 fun j t=>?_
    rcases Z j t with e | e | e
    .exact .inl e
    .right;have:=C j e;omega
    .right;have:=f.bel.size;omega)
end Go.Proofs.Y
namespace Go.Emb
open Go.RowKit Go.Hm
variable {w w' : World} {σ σ1 σ2 : Q2}
theorem Stp.weak (h:Stp w σ1 w' σ2) (a: ∀b o,σ b=some o->σ1 b=some o):Stp w σ w' σ:=
 ⟨h.bel,fun b o e=>h.sat b o (h.le b o (a b o e)),fun _ _ e=>e,fun _ _=>rfl⟩
end Go.Emb
namespace Go.Proofs.Y
open Go.Emb Go.RowKit Go.Kd Go.Hm
variable {w w' : World} {K : Value -> World -> Prop} {σ σ' : Q2} {hp tv : Value} {room : Int} {cs : List Cel} {l : List Cla}
theorem RowsIs.rows {B:Nat} {D:Nat->Prop} {m:Value} (h:RowsIs B D σ w m cs) (A:X3 w σ): ∃vs σ',vs.length=cs.length/\X3 w σ'/\SLe σ σ'/\Sl 2 Q6F σ' m (Zq vs cs)/\(∀i (h:i<vs.length) (y:i<cs.length),J6 B T.f 4 N0 σ w vs[i] cs[i].vals/\ ∀k,vs[i].ownBlock=some k->D k)/\(∀k,¬D k->σ' k=σ k)/\
 ∀i (h:i<vs.length) (y:i<cs.length) vals' n,Kpt (fun k=>vs[i].ownBlock=some k) w n->J6 B T.f 4 N0 σ n vs[i] vals'->RowsIs B D σ n m (cs.set i ⟨cs[i].kind,vals'⟩):=by
 obtain ⟨vs,u,g,t,hD⟩:=h.ex;obtain ⟨o,p⟩:=List.pairwise_cons.1 t;obtain ⟨σ',E,C,v,o1⟩:=u.freeze A;refine ⟨vs,σ',g.1,E,C,v,fun i b d=>⟨g.2 i b d,fun k c=>(hD k).2 ⟨vs[i],by simp[List.getElem_mem b],c⟩⟩,fun k c=>o1 k fun e=>c ((hD k).2 ⟨m,by simp,e.symm⟩),fun i b d vals' n c z=>⟨vs,?_,⟨by simpa using g.1,fun j q r=>?_⟩,t,hD⟩⟩
 .have e:Zq vs (cs.set i ⟨cs[i].kind,vals'⟩)=Zq vs cs:=by
   refine List.ext_getElem (by simp[Zq]) fun j H J=>?_
   simp only[Zq,List.getElem_zipWith,List.getElem_set]
   split
   .rename_i e;subst e;rfl
   .rfl
  rw[e];exact u.kp c fun k a f=>o _ (List.getElem_mem b) k a f
 .have s:j<cs.length:=by simpa using r
  simp only[List.getElem_set]
  by_cases e:i=j
  .subst e;simp only[if_pos];exact z
  .simp only[if_neg e]
   refine (g.2 j q s).kp c fun k a f=>?_;have hp:=List.pairwise_iff_getElem.1 p
   rcases Nat.lt_or_gt_of_ne e with hlt | hlt
   .exact hp i j b q hlt k f a
   .exact hp j i q b hlt k a f
theorem X4F {i:Nat} (b:i<cs.length) {vals':List Val} (h:vals'.length=cs[i].vals.length):J1 (cs.set i ⟨cs[i].kind,vals'⟩)=J1 cs:=by
 unfold J1;rw[List.map_set];simp only[h];have a:1+(cs[i].vals.length:Int)=(cs.map (fun c=>1+(c.vals.length:Int)))[i]'(by simpa using b):=by simp
 rw[a,List.set_getElem_self]
set_option maxHeartbeats 1000000 in
theorem X68 {B:Nat} {D:Nat->Prop} {r i:Int} {v:Val} (hs:X3 w σ) (hg:Glb σ) (h:HeapIs B D σ w hp tv room cs) (ht:Tab σ tv l) (ok:Ok l) (good: ∀c∈cs,GoodC V7 l cs c) (hv:N0 σ v [I v.sort,I v.n,S v.s,I v.ref])
 (hh: ∀w' σ',Nxt D w σ w' σ'->HeapIs B D σ' w' hp tv room (F6 V7 l cs r i v).1->K (I (F6 V7 l cs r i v).2) w'):Q0 P F.b8 [hp,I r,I i, .agg [I v.sort,I v.n,S v.s,I v.ref].toArray] w K:=Q4z (by
 unfold Fg;simp only[Y5,X5];unfold X2;refine Z7 hs fun q w1 σ1 hk1 hq=>?_;have h1:=h.up hk1;have hs1:=hk1.sat;obtain ⟨σf,sf,lef,hsl,_⟩:=h1.freeze hs1;refine X1m sf hsl ?_;unfold F6 at hh;refine Mk ?_
 by_cases h0:S1 cs r i=0
 case neg=>
  have e:decide (S1 cs r i=0)=false:=decide_eq_false h0;rw[if_pos h0] at hh;rw[e];refine J3 ?_;exact hh _ _ (.of_stp hk1) h1
 have e:decide (S1 cs r i=0)=true:=decide_eq_true h0;rw[if_neg (fun hn=>hn h0)] at hh;rw[e];refine Z6 ?_;obtain ⟨j,m,rfl,rfl,hj,hm⟩:=Dq h0;rw[L9 hj,Int.toNat_natCast] at hh;have hsl0:=hsl;obtain ⟨a,lv,rfl,la,ls⟩:=hsl;obtain ⟨vv,p1,p2,p3⟩:=Sl.elO ls hj;have hqf:=hq.lift lef;have lesf:SLe σ σf:=SLe.more ⟨hk1.le⟩ lef;have htf:=ht.lift lesf;have hone:vv.cells= #[vv]/\vv.oneCell'=true:=by obtain ⟨a,c,rfl,_⟩:=p2;exact ⟨rfl,rfl⟩
 have hgc:=good cs[j] (List.getElem_mem hj)
 have hif:elem cs[j].kind=[]->m<(U5 l cs[j].kind).length:=fun e=>by
  rcases hgc.is with h | h
  .exact absurd e h
  .rw[<-h.2];exact hm
 refine W1 sf ?_
 (repeat (apply J4;(· intros;(repeat (rename_i hx;subst hx));(repeat' (first | (with_reducible exact V1 rfl) | (with_reducible exact P4 (Stp.bel (by (repeat (first | exact Stp.refl (by (first | assumption | exact Stp.sat Q7 | exact Hst.sat Q7)) | assumption | refine Stp.trans ?_ (by first | assumption | exact Hst.stp Q7))))) rfl) | (with_reducible intro _) | (simp only[↓M2,M2,Mb,reduceIte]) | (with_reducible show Q8 _ _ _ _ _;first | refine Y3 aS aL aR ?_ | refine Z2 aS aL aR ?_ | refine ld aS aL aR ?_) | (with_reducible show indexAddr _ _ _ _ _ _;refine Y9 aL au ?_) | (with_reducible show J7 _ _ _ _ _ _ _ _;refine Q6 aL ?_) | (with_reducible show Qr _ _ _ _ _ _;refine V4 aR ?_) | (with_reducible show pick _ _ _ _ _ _;refine C6 ?_) | (with_reducible show Q0 _ _ _ _ _;first | refine X87 au au au au au au au ?_) | (apply Xq;intro hh;(try simp only[hh,reduceIte,↓M2,M2,Mb,reduceIte]))));done)))
 (intros;(repeat (rename_i hx;subst hx)))
 rename_i w2 hb2;refine X80 hb2.sat (hg.lift lesf) hsl0 htf ok hv.2.2.2.1 (X0g ok p3 m) fun w3 σ3 hk3=>?_;have hk13:=(hb2.stp.trans hk3).weak lef.le;have h3:=h1.up hk13;have hS3:=hk1.trans hk13;have hs3:=hk13.sat;refine Ml ?_;cases hf:I7 V7 l cs v (Wg l cs[j].kind m) with
 | false=>
  rw[hf] at hh;simp only[Bool.false_eq_true,if_false] at hh;refine J3 ?_;exact hh _ _ (.of_stp hS3) h3
 | true=>
  rw[hf] at hh;simp only[if_true] at hh;refine Z6 ?_;obtain ⟨b,lv',E,hpe,hbB,hm3,hr3,hE,hD⟩:=h3.ex;obtain ⟨vs,σg,hvl,sg,leg,slg,hrow,hog,hset⟩:=hr3.rows hs3;obtain ⟨σh,sh,leh,lih,_⟩:=(show Z0 σg w3 b _ from ⟨(hog b hE).trans hm3.1,hm3.2⟩).freeze sg
  cases hpe;have slh:=slg.lift leh;have hqh:=(hq.up hk13).lift (leg.more leh);have hjv:j<vs.length:=by rw[hvl];exact hj
  have hjo:j<(Zq vs cs).length:=by rw[Sx hvl];exact hj
  obtain ⟨cs5,p5,_,r5⟩:=slh.el hjo;have eo:(Zq vs cs)[j]=(cs[j].kind,vs[j]):=by simp[Zq]
  rw[eo] at r5;obtain ⟨rfl,_⟩:=r5;refine W1 sh ?_
  (repeat refine J4 Uc ?_)
  (intros;(repeat (rename_i hx;subst hx)))
  rename_i w4 hb4;have hk34:=Stp.of_below hs3 hb4.stp.bel;have N34:Nxt (fun _=>False) w3 σ1 w4 σ1:= .of_stp hk34;obtain ⟨hrj,hrD⟩:=hrow j hjv hj;have hrj4:=hrj.up hk34;have hv1:N0 σ1 v [I v.sort,I v.n,S v.s,I v.ref]:=hv;refine Q6f (w0:=Q0g w4) (σ0:=fun _=>none) (x:=v) (Ug hk34.sat) (hrj4.mono (Nat.zero_le B)) hm rfl hv1 (Rep.one hv1) fun p u w5 hkp hb5 hq5=>?_;have hkp5:Kpt (fun k=>vs[j].ownBlock=some k) w3 w5:=(Kpt.of_below hk34.bel).trans hkp;have hr5:=hset j hjv hj _ w5 hkp5 (hq5.raise fun k hk=>(hrj.mem hk).1);have N35:Nxt (fun k=>vs[j].ownBlock=some k) w3 σ1 w5 σ1:=⟨hkp5,SLe.refl _,fun _ _=>rfl,hb5.sat⟩;have hm5:=hm3.nx N35 fun e=>hE (hrD b e);have hsv:T3 cs j m v=cs.set j ⟨cs[j].kind,cs[j].vals.set m v⟩:=by unfold T3;rw[L9 hj,Int.toNat_natCast,Int.toNat_natCast]
  rw[hsv] at hh;have htk:=X4F hj (vals':=cs[j].vals.set m v) V0;refine hh w5 σ1 ((Nxt.of_stp hS3).chain N35 fun k _ e=>(hD k).2 (.inr (hrD k e))) ⟨b,lv',E,rfl,hbB,?_,hr5,hE,hD⟩;rw[htk];exact hm5)
end Go.Proofs.Y
namespace Go.Emb
open Go.RowKit Go.Hm
variable {P : Program} {w : World} {K : Value -> World -> Prop} {σ : Q2}
theorem X9x {α:Type} {R:Q2->α->List Value->Prop} {B sz:Nat} {e:TypeId} {v:Value} {xs ys:List α} {t:TypeId} {d:Nat} {z:Value} [ts:TS P t e] [tz:TZ P e sz d z] (h:J6 B e sz R σ w v (xs++ys))
 (m: ∀f,J6 B e sz R σ w f xs->f.ownBlock=v.ownBlock->K f w):G7 P t v none (some (I xs.length)) none w K:=by
 have j:=h;obtain ⟨a,b,rfl,k,p,n,q⟩:=j;rw[List.length_append] at k;have c:J6 B e sz R σ w (.slice a xs.length b) xs:=h.pre rfl;generalize (xs++ys).length=N at*
 have hh: ∀w:World,(Instr.sliceBounds true N b none (some (I xs.length)) none).run P w= .ok (0,xs.length,b) w:=by
  intro w;have o:(xs.length:Int)<=b:=by omega
  have g:xs.length<=b:=by omega
  simp[Instr.sliceBounds,Instr.sliceBound,asIntOf,g]
  try (intros;omega)
 unfold G7
 have:(Instr.sliceAt t (.slice a N b) none (some (I xs.length)) none).run P w= .ok (.slice (if b=0 then a else a.map (·.add (0*sz))) (xs.length-0) (b-0)) w:=by
  simp[Instr.sliceAt,run_underlying ts.h,Instr.slice,hh,D9 tz]
 rw[Y4 this]
 have i:(if b=0 then a else a.map (·.add (0*sz)))=a:=by
  split
  .rfl
  .cases a<;>simp[add_zero]
 rw[i,Nat.sub_zero,Nat.sub_zero];exact m _ c (by cases a<;>rfl)
end Go.Emb
namespace Go.Proofs.Y
open Go.Emb Go.RowKit Go.Kd Go.Hm
variable {w w' : World} {K : Value -> World -> Prop} {σ σ' : Q2} {hp tv : Value} {room : Int} {cs : List Cel}
theorem X7Z {v:Val} {ds:List Value} {n:Int} {q:Addr} (f:X3 w σ) (d:N0 σ v ds) (c:U1 σ q [I n]) (h: ∀w',Below w.heap.size w w'->K (.bool (Qe n v)) w'):Q0 P F.bL [.agg ds.toArray, .pointer (some q)] w K:=Q2a (by
 obtain ⟨rfl,_⟩:=d;unfold Rj Z8 X7 X2 X1;refine Z7 f fun g w1 σ1 a b=>?_;unfold Qe at h;refine W5 ?_;refine ld a.sat b rfl ?_;refine C8 ?_
 by_cases e:v.sort=4
 .rw[decide_eq_true e] at h⊢
  (try simp only[↓M1,M1,Mb,reduceIte])
  refine ld a.sat b rfl ?_;refine Y3 a.sat (c.up a) rfl ?_
  (try simp only[↓M1,M1,Mb,reduceIte])
  exact h _ a.bel
 .rw[decide_eq_false e] at h⊢
  (try simp only[↓M1,M1,Mb,reduceIte])
  exact h _ a.bel)
theorem X4d {vs:List Value} {c:Cel} (h:vs.length=cs.length+1): ∃v,Zq vs (cs++[c])=Zq (vs.take cs.length) cs++[(c.kind,v)]:=by
 refine ⟨vs[cs.length],?_⟩
 have e:vs=vs.take cs.length++[vs[cs.length]]:=by
  rw[List.take_append_getElem Q5];rw[List.take_of_length_le Q5]
 conv=>lhs;rw[e]
 unfold Zq;rw[List.zipWith_append (by simp;omega)]
 rfl
theorem X9M {B n:Nat} {D:Nat->Prop} {p:Value} {c:Cel} (A:n=cs.length) (h:RowsIs B D σ w p (cs++[c])) (y: ∀a D',RowsIs B D' σ w a cs->(∀j,D' j->D j)->K a w):G7 P T.g p none (some (I n)) none w K:=by
 subst A;obtain ⟨vs,r,s,z,hD⟩:=h.ex;have b:vs.length=cs.length+1:=by rw[s.1];simp
 obtain ⟨E,t⟩:=X4d (c:=c) b;rw[t] at r;have u:cs.length=(Zq (vs.take cs.length) cs).length:=by rw[Sx (by simp[b])]
 rw[u];refine X9x r fun a o q=>?_;refine y a (fun k=> ∃v∈a::vs.take cs.length,v.ownBlock=some k) ⟨vs.take cs.length,o,⟨by simp[b],fun i C g=>?_⟩,?_,fun k=>Iff.rfl⟩ ?_
 .have m:i<vs.length:=by omega
  have:=s.2 i m (by simp;omega)
  rw[List.getElem_append_left g] at this
  simpa using this
 .obtain ⟨e,f⟩:=List.pairwise_cons.1 z
  exact List.pairwise_cons.2 ⟨fun v hv k d=>e v (List.mem_of_mem_take hv) k (q▸d),f.sublist (List.take_sublist _ _)⟩
 .rintro k ⟨v,hv,d⟩
  rcases List.mem_cons.1 hv with rfl | hv
  .exact (hD k).2 ⟨p,by simp,q▸d⟩
  .exact (hD k).2 ⟨v,by simp[List.mem_of_mem_take hv],d⟩
set_option maxRecDepth 9999 in
set_option maxHeartbeats 2000000 in
theorem X90 {B:Nat} {D:Nat->Prop} {n:Int} (hs:X3 w σ) (h:HeapIs B D σ w hp tv room cs) (hl:J1 cs<=1048576) (hn:Yg n)
 (hh: ∀w' σ' D',Nxt D w σ w' σ'->HeapIs B D' σ' w' hp tv room (Q0k cs n)->(∀j,D' j->D j)->K (.tuple #[]) w'):Q0 P F.cg [hp,I n] w K:=Q4x (by
 have hcl:=Qf cs;unfold Fe;simp only[Y5,X5,M5,L6];unfold X7 J5 U7 X6 X2 X1;refine Q8Q hs fun b0 w1 hb0 hk1 hm1=>?_;have hm1:Z0 σ w1 b0 [I n]:=hm1;refine Q3i hm1 rfl ?_;refine X9H ?_;refine st0 hm1 V0 rfl rfl fun w2 u2 hm2=>?_;have hm2:Z0 σ w2 b0 [I (max n 0)]:=hm2;unfold Q0k at hh;obtain ⟨m,hmE⟩:=Int.eq_ofNat_of_zero_le (show 0<=max n 0 by omega)
 rw[hmE] at hm2 hh;have hmx:(m:Int)<=9223372036854775807:=by have:=hn.2;omega
 have hk2:Stp w σ w2 σ:=u2.stp hk1 hb0 hm1.1;obtain ⟨σ2,hS2,hq2,le2,_⟩:=hm2.keep hk2 hb0;have h2:=h.up hS2;have hs2:=hS2.sat;obtain ⟨σf,sf,lef,hsl,_⟩:=h2.freeze hs2;rw[Int.toNat_natCast] at hh;obtain ⟨a,lv,rfl,la,ls⟩:=hsl;have hqf:=hq2.le lef.le;refine W1 sf ?_
 (repeat (apply J4;(· intros;(repeat (rename_i hx;subst hx));(repeat' (first | (with_reducible exact V1 rfl) | (with_reducible exact P4 (Stp.bel (by (repeat (first | exact Stp.refl (by (first | assumption | exact Stp.sat Q7 | exact Hst.sat Q7)) | assumption | refine Stp.trans ?_ (by first | assumption | exact Hst.stp Q7))))) rfl) | (with_reducible intro _) | (simp only[↓M2,M2,Mb,reduceIte]) | (with_reducible refine X9I ?_) | (with_reducible show Q8 _ _ _ _ _;first | refine Y3 aS aL aR ?_ | refine Z2 aS aL aR ?_ | refine ld aS aL aR ?_) | (with_reducible show indexAddr _ _ _ _ _ _;refine Y9 aL au ?_) | (with_reducible show J7 _ _ _ _ _ _ _ _;refine Q6 aL ?_) | (with_reducible show Qr _ _ _ _ _ _;refine V4 aR ?_) | (with_reducible show pick _ _ _ _ _ _;refine C6 ?_) | (apply Xq;intro hh;(try simp only[hh,reduceIte,↓M2,M2,Mb,reduceIte]))));done)))
 (intros;(repeat (rename_i hx;subst hx)))
 rename_i w3 hb3;have hmin:min (m:Int) (cs.length:Int)=((min m cs.length:Nat):Int):=by omega
 rw[hmin];refine Bu ls none (some (I (min m cs.length:Nat))) 0 (min m cs.length) (.inl ⟨rfl,rfl⟩) (.inr rfl) (Nat.zero_le _) (Nat.min_le_right _ _) fun v3 hv3=>?_;rw[List.drop_zero,Nat.sub_zero,List.take_eq_take_min.symm] at hv3;refine Q6 hv3 ?_;have hk23: ∀{w' σ'},Stp w3 σf w' σ'->Stp w2 σ2 w' σ2:=fun hk=>(hb3.stp.trans hk).weak lef.le;refine V2 (cs.take m).length (fun i w'=> ∃σ',Stp w3 σf w' σ'/\((cs.take m).take i).any (fun c=>c.vals.any (Qe m))=false) ⟨σf,Stp.refl hb3.sat,rfl⟩ fun i w4 d hi hinv=>?_;obtain ⟨σ4,hk4,hno⟩:=hinv;refine Z1 ?_;refine Q4 (fun hc=>?_) (fun hc=>?_)
 .have hi':i<(cs.take m).length:=by simpa using hc
  have hv4:=hv3.up hk4;obtain ⟨vv,p1,p2,p3⟩:=Sl.elO hv4 hi';refine Y9 hv4 hi' ?_;refine Z2 hk4.sat p1 rfl ?_;refine Z3 hk4.sat (by rfl) rfl (Rep.one (R:=T1) ⟨vv,rfl,p2,p3⟩) fun q5 w5 σ5 hk5 hq5=>?_
  rw[fa];refine ld hk5.sat hq5 rfl ?_;rw[Yy];have hq5f:=hqf.lift (SLe.more ⟨hk4.le⟩ ⟨hk5.le⟩);refine Wn (Qe m) hk5.sat (p2.up hk5) (fun v ds w6 K hv hs6 hr hlen hK=>J8 (first:=[]) (caps:=[.pointer (some ⟨b0,0,none⟩)]) (X7Z hs6 hr hq5f hK)) fun w6 hb6=>?_
  have hk6:=(hk4.trans hk5).trans (Stp.of_below hk5.sat hb6);have hnx:=D3 (p:=fun c:Cel=>c.vals.any (Qe m)) hi';cases hany:(cs.take m)[i].vals.any (Qe m) with
  | true=>
   refine J3 ?_;rw[if_pos (I6 hi' hany)] at hh;have hS:=hS2.trans (hk23 hk6);exact hh _ _ D (.of_stp hS) (h.up hS) fun j hj=>hj
  | false=>
   refine Z6 ?_;refine H5 ?_;refine Y7 hv3.max hi' ⟨σ5,hk6,?_⟩;rw[hnx,hno,hany];rfl
 have hi': ¬i<(cs.take m).length:=by simpa using hc
 rw[C9 hi'] at hno;rw[if_neg (by rw[hno];simp)] at hh
 have hS4:=hS2.trans (hk23 hk4);have h4:=h.up hS4;refine Q0v (fun k (_:Unit) w'=> ∃D',Nxt D w σ w' σ2/\HeapIs B D' σ2 w' (.pointer (some a)) tv room (cs.take k)/\(∀j,D' j->D j)/\k<=cs.length/\(m<=k\/k=cs.length)) cs.length ⟨D, .of_stp hS4,by rw[List.take_length];exact h4,fun j hj=>hj,Nat.le_refl _, .inr rfl⟩ ?_
 rintro again k x d w5 ⟨D5,N5,h5,hD5,hkl,hmk⟩ hag;have hs5:=N5.sat
 have htk:J1 (cs.take k)<=1048576:=by
  have e:J1 cs=J1 (cs.take k)+J1 (cs.drop k):=by rw[<-Xw,List.take_append_drop]
  have:=E0 (cs.drop k);omega
 obtain ⟨σg,sg,leg,hslg,_⟩:=h5.freeze hs5;obtain ⟨ag,lvg,hpe,lag,lsg⟩:=hslg;cases hpe;have hqg:=(show U1 σ2 ⟨b0,0,none⟩ [I (m:Int)] from hq2).lift leg
 have hlk:(cs.take k).length=k:=by rw[List.length_take];omega
 refine W1 sg ?_
 (repeat refine J4 Uc ?_)
 (intros;(repeat (rename_i hx;subst hx)))
 rename_i w6 hb6;have hk56:Stp w5 σ2 w6 σ2:=hb6.stp.weak leg.le;have h6:=h5.up hk56;have N6:=N5.chain (Nxt.of_stp (D:=fun _=>False) hk56) fun j _ e=>e.elim;rw[hlk];refine Oj ?_
 by_cases hgt:m<k
 case neg=>
  rw[decide_eq_false (show¬(m:Int)<(k:Int) by omega)]
  refine Z6 ?_
  have e:cs.take m=cs.take k:=by
   rcases hmk with e | e
   .rw[show m=k by omega]
   .rw[e,List.take_length,List.take_of_length_le Q5]
  rw[e] at hh;exact hh w6 σ2 D5 N6 h6 hD5
 rw[decide_eq_true (show (m:Int)<(k:Int) by omega)]
 refine J3 ?_;obtain ⟨k1,rfl⟩: ∃k1,k=k1+1:=⟨k-1,by omega⟩
 have hk1l:k1<cs.length:=by omega
 have esnoc:cs.take (k1+1)=cs.take k1++[cs[k1]]:=by rw[List.take_append_getElem hk1l]
 have hk1t:(cs.take k1).length=k1:=by rw[List.length_take];omega
 obtain ⟨σh,sh,leh,hslh,_⟩:=h6.freeze hk56.sat;obtain ⟨b,lv6,E6,hpb,hbB,hm6,hr6,hE6,hDe6⟩:=h6.ex;cases hpb;obtain ⟨ah,lvh,hpe,lah,lsh⟩:=hslh;cases hpe;rw[E4,fa];refine Ys hm6 rfl ?_;obtain ⟨al,capl,hle⟩:=hr6.len;rw[hlk] at hle;subst hle;rw[Q4a];refine Vo ⟨by omega,by omega⟩ ?_
 have ek:((k1+1:Nat):Int)-1=(k1:Int):=by omega
 rw[ek];have hkk:k1<(cs.take (k1+1)).length:=by omega
 obtain ⟨vvk,pk,pk2,_⟩:=Sl.elO lsh hkk;have evk:((cs.take (k1+1))[k1]'hkk).vals=cs[k1].vals:=by simp
 rw[evk] at pk2;refine W1 sh ?_
 (repeat refine J4 Uc ?_)
 (intros;(repeat (rename_i hx;subst hx)))
 rename_i w7 hb7;have hk67:Stp w6 σ2 w7 σ2:=hb7.stp.weak leh.le;have htn:=E0 (cs.take k1)
 have etk:J1 (cs.take (k1+1))=J1 (cs.take k1)+(1+(cs[k1].vals.length:Int)):=by
  rw[esnoc,Xw];simp[J1]
 rw[Qh Q5 Q5];refine Vo ⟨by omega,by omega⟩ ?_
 have eu:J1 (cs.take (k1+1))-(1+(cs[k1].vals.length:Int))=J1 (cs.take k1):=by omega
 rw[eu];have hm7:=hm6.up hk67;have hr7:=hr6.up hk67;rw[E4,fa];refine Vh hm7 V0 rfl rfl fun w8 u8 hm8=>?_;have N78:=Nxt.of_upd hk67.sat u8 hm7.1;have hr8:=hr7.nx N78 fun j hj e=>hE6 (e▸hj);rw[E4,fa];refine Ys hm8 rfl ?_;rw[esnoc] at hr8;refine X9M hk1t.symm hr8 fun lv9 E9 hr9 hE9=>?_;rw[E4,fa];refine Vh hm8 V0 hr9.shape.1 hr9.shape.2 fun w9 u9 hm9=>?_;have N89:=Nxt.of_upd N78.sat u9 hm8.1;have hE9b: ¬E9 b:=fun e=>hE6 (hE9 b e);have hr9':=hr9.nx N89 fun j hj e=>hE9b (e▸hj);have hDb:D5 b:=(hDe6 b).2 (.inl rfl);have N9:Nxt D w σ w9 σ2:=((N6.chain (Nxt.of_stp (D:=fun _=>False) hk67) fun j _ e=>e.elim).chain N78 fun j _ e=>e▸hD5 b hDb).chain N89 fun j _ e=>e▸hD5 b hDb;refine hag k1 _ _ (Nat.lt_succ_self _) ⟨fun j=>j=b\/E9 j,N9,⟨b,lv9,E9,rfl,hbB,hm9,hr9',hE9b,fun j=>Iff.rfl⟩,fun j hj=>?_,by omega, .inl Q5⟩
 rcases hj with rfl | hj
 .exact hD5 _ hDb
 .exact hD5 j ((hDe6 j).2 (.inr (hE9 j hj))))
end Go.Proofs.Y
namespace Go.Emb
open Go.RowKit Go.Hm
variable {P : Program} {w w' w0 : World} {K : Value -> World -> Prop} {σ σ' σ0 : Q2}
theorem Q8P {a:List TypeId} {t:TypeId} {b:List Bool} {xs:List Value} {v:Value} (h:(Builtin.copy_ a.toArray t xs.toArray).run P w= .ok v w') (c:K v w'):J7 P .copy a t b xs w K:=by
 have d:(builtin .copy a.toArray t b.toArray xs.toArray).run P w= .ok (.value v) w':=by simp[builtin,h]
 unfold J7;rw[Xu];unfold Xm;rw[d];exact c
theorem X8Q {α:Type} {R:Q2->α->List Value->Prop} {sz:Nat} {e:TypeId} {v u:Value} {xs ys:List α} {t L M:TypeId} {cb:List Bool} {B:Nat} {z:Value} [hr:Rep R] [ts:TS P t e] [tz:TZ P e sz B z] (C:Stp w0 σ0 w σ) (ha:J6 w0.heap.size e sz R σ w v xs) (X:Sl sz R σ u ys) (s:ys.length=xs.length)
 (h: ∀w',Kpt (fun k=>v.ownBlock=some k) w w'->Stp w0 σ0 w' σ->J6 w0.heap.size e sz R σ w' v ys->K (I ys.length) w'):J7 P .copy [t,L] M cb [v,u] w K:=by
 obtain ⟨i,hi,D,ah,J⟩:=tz.info;have m:(P.info? e).map (·.size)=some sz:=by rw[hi];simp[D]
 obtain ⟨a,d,rfl,Q,U,n,V⟩:=ha;have E:=X;obtain ⟨N,o,rfl,k1,k2,k3,k4⟩:=X
 by_cases h0:ys.length=0
 .have A:ys=[]:=List.eq_nil_of_length_eq_zero h0
  subst A;have hx:xs=[]:=List.eq_nil_of_length_eq_zero (by rw[<-s];rfl)
  subst hx;refine Q8P (Q8r w t L M e sz a N d o ts.h m) ?_;exact h w Kpt.refl C ⟨a,d,rfl,Q,U,n,V⟩
 .obtain ⟨a2,W,news,he,n1,Y,n3,n4,n5⟩:=E.cells C.sat
  injection he with e1 _ e3
  subst e1;subst e3;cases N with
  | none=>have:=k3 rfl;omega
  | some O=>
   obtain ⟨g,c,f,rfl,Z,q2,q3,q4,q5⟩:=V Q5;have an:ys.length*sz<=d*sz:=Nat.mul_le_mul_right _ Q5;have q:=Q8q (P:=P) w t L M e sz g c ys.length d O o f e news ts.h m q3 Y (fun j v hv=>n3 O rfl j v hv) (by rw[Y];omega) n4
   obtain ⟨p,H⟩:=Mg (cs:=(f.toList.take c++news++f.toList.drop (c+news.length)).toArray) q3;rw[<-s];refine Q8P q ?_;have ai:=Array.length_toList (xs:=f);refine h _ (Kpt.of_upd p rfl) (p.stp C Z q2) ⟨_,d,(by rw[s]),by rw[s];exact Q,U,fun b r=>⟨(n b r).1,(n b r).2.1,by rw[p.size];exact (n b r).2.2.1,(n b r).2.2.2⟩,fun _=>⟨g,c,_,rfl,Z,q2,H,?_,fun j y A=>?_⟩⟩
   .simp;omega
   .have hj:j<ys.length:=(List.getElem?_eq_some_iff.1 A).1
    have am:j*sz+sz<=ys.length*sz:=by rw[<-Nat.succ_mul];exact Nat.mul_le_mul_right _ hj
    have:=n5 j y A;rw[List.toList_toArray,List.append_assoc,List.drop_append,List.drop_eq_nil_of_le (by rw[List.length_take];omega),List.nil_append,List.length_take,show c+j*sz-min c f.toList.length=j*sz by omega,List.drop_append_of_le_length Q5,List.take_append_of_le_length (by rw[List.length_drop];omega)]
    exact this
theorem Nxt.stp' {D:Nat->Prop} (N:Nxt D w σ w' σ') (a:Stp w0 σ0 w σ) (f: ∀k,D k->w0.heap.size<=k):Stp w0 σ0 w' σ':=
 ⟨⟨N.kp.os.trans a.bel.os,N.kp.tape.trans a.bel.tape,N.kp.output.trans a.bel.output,Nat.le_trans a.bel.size N.kp.size,fun k d=>(N.kp.block k (Nat.lt_of_lt_of_le d a.bel.size) fun h=>absurd (f k h) Q5).trans (a.bel.block k d)⟩,N.sat,fun b o e=>N.le.le b o (a.le b o e),fun b c=>(N.old b (Nat.lt_of_lt_of_le c a.bel.size)).trans (a.old b c)⟩
end Go.Emb
namespace Go.Proofs.Y
open Go.Emb Go.RowKit Go.Kd Go.Hm
variable {w w' : World} {K : Value -> World -> Prop} {σ σ' : Q2} {hp tv : Value} {room : Int} {cs : List Cel}
theorem RowsIs.nil {B:Nat}:RowsIs B (fun _=>False) σ w (.slice none 0 0) []:=
 ⟨[],J6.of_acc W2.nil,⟨rfl,fun i h=>absurd h (Nat.not_lt_zero i)⟩,List.pairwise_singleton _ _,fun k=>by simp[Value.ownBlock]⟩
set_option maxHeartbeats 1000000 in
theorem X6B (Y:X3 w σ) (hh:O5 σ hp tv room cs) (hl:J1 cs<=1048576)
 (h: ∀v w' σ' D,Stp w σ w' σ'->RowsIs w.heap.size D σ' w' v cs->K v w'):Q0 P F.aP [hp] w K:=Q29 (by
 obtain ⟨a,lv,rfl,la,Z⟩:=hh;have ai:=Qf cs;unfold Ri;simp only[L6];unfold X7 J5 X6 X2 X1;rw[E4,fa];refine ld Y la rfl ?_;refine Q6 Z ?_;refine H0 cs.length (fun n x w'=> ∃σ' D,Stp w σ w' σ'/\RowsIs w.heap.size D σ' w' x (cs.take n)) ⟨σ,_,Stp.refl Y,RowsIs.nil⟩ fun n x w1 d hn r=>?_;obtain ⟨σ1,D1,f,H⟩:=r;refine Z1 ?_;refine Q4 (fun N=>?_) (fun N=>?_)
 .have c:n<cs.length:=by simpa using N
  have C:=Z.up f;obtain ⟨vv,p1,p2,p3⟩:=Sl.elO C c
  have aj:(cs[n].vals.length:Int)<=1048576:=by
   have e:J1 cs=J1 (cs.take n)+J1 (cs.drop n):=by rw[<-Xw,List.take_append_drop]
   have e2:J1 (cs.drop n)=(1+(cs[n].vals.length:Int))+J1 (cs.drop (n+1)):=by
    rw[List.drop_eq_getElem_cons c];simp only[J1,List.map_cons,List.sum_cons]
   have X:=E0 (cs.take n);have J:=E0 (cs.drop (n+1));omega
  refine Y9 C c ?_;refine Z2 f.sat p1 rfl ?_;refine Z3 f.sat (by rfl) rfl (Rep.one (R:=T1) ⟨vv,rfl,p2,p3⟩) fun q w2 σ2 b o=>?_
  have p:=f.trans b;have E:=p2.up b;rw[fa];refine ld b.sat o rfl ?_;refine Q6 E ?_;refine X49 (sz:=4) (R:=N0) (x0:=Val.zero) b.sat rfl L1 ⟨rfl,by decide⟩ Q5 Q5 fun V w3 m M y=>?_
  have L:=p.trans m;rw[fa];refine ld m.sat (o.up m) rfl ?_;have Q:=(J6.of_acc M).mono (B':=w.heap.size) p.bel.size;refine X8Q L Q (E.up m) V0 fun w4 O g z=>?_;have X:=(H.up b).up m
  have B: ∀j,V.ownBlock=some j-> ¬D1 j:=fun j t hD=>by
   have:=((H.up b).mem hD).2.1;have:=y j t;omega
  have N4:Nxt (fun k=>V.ownBlock=some k) w3 σ2 w4 σ2:=⟨O,SLe.refl _,fun _ _=>rfl,g.sat⟩;have J:=X.nx N4 fun j t e=>B j e t;rw[fa];refine ld (i:=0) g.sat o rfl ?_;have A:=z;obtain ⟨a3,W,U,_⟩:=A;refine L4 (cells:= #[S cs[n].kind,V]) (by rw[U];kernel_rfl) ?_
  refine X4O g.sat g.bel.size J z B p3 (by rw[List.length_take];omega) fun s al w5 σ5 D5 N5 u h5 _ _=>?_
  refine H5 ?_;refine U4 Q5 c ⟨σ5,D5,N5.stp' g fun j t=>(J.mem (u j t)).1,?_⟩;rw[List.take_add_one,List.getElem?_eq_getElem c];exact h5
 .have c: ¬n<cs.length:=by simpa using N
  rw[List.take_of_length_le Q5] at H;exact h _ _ _ _ f H)
variable {l : List Cla} {v : Value}
theorem X24:(Qo l).length=l.length:=by simp[Qo]
theorem X3r {i:Nat} (a:i<(Qo l).length):(Qo l)[i]=(List.range l.length).map fun j=>Jf l (Z4 l i) (Z4 l j):=by simp[Qo]
theorem Sl.elB {xs:List (List Bool)} {v:Value} (h:Sl 1 Q8E σ v xs) {i:Nat} (c:i<xs.length): ∃u,U1 σ (Ws 1 v i) [u]/\Sl 1 Q0d σ u xs[i]:=by
 obtain ⟨cs,a,d,u,rfl,b⟩:=h.el c;exact ⟨u,a,b⟩
theorem Sl.elb {xs:List Bool} {v:Value} (h:Sl 1 Q0d σ v xs) {i:Nat} (c:i<xs.length):U1 σ (Ws 1 v i) [.bool xs[i]]:=by
 obtain ⟨cs,b,d,a⟩:=h.el c;have a:cs=_:=a;subst a;exact b
theorem X7A {a b:Q9} (n:X3 w σ) (y:Sl 8 M0 σ v (Q3 l)) (z:Wf l) (ok:Ok (Q3 l)) (E:(Q3 l).length<=1000) (Q:a.length<=V5) (Z:b.length<=V5) (h: ∀w' σ',Stp w σ w' σ'->K (.bool (Uy (Q3 l) a b)) w'):Q0 P F.c6 [v,S a,S b] w K:=Q3D (by
 unfold Bd zhi X8 X2 U6 X1;have o: ∀r,Uy (Q3 l) a b=r->K (.bool r) w:=fun r e=>by rw[<-e];exact h _ _ (Stp.refl n)
 refine Cc n y Q ?_;cases g:E2 (Q3 l) a with
 | false=>
  have O:Uy (Q3 l) a b=false:=by unfold Uy;simp[g]
  (try simp only[↓M1,M1,Mb,reduceIte])
  by_cases e:a=b
  .have f:decide (a=b)=true:=by simpa using e
   simp only[f,↓M1,M1,Mb,reduceIte];refine Cc n y Q ?_;rw[g]
   (try simp only[↓M1,M1,Mb,reduceIte])
   exact o _ O
  .have f:decide (a=b)=false:=by simpa using e
   simp only[f,↓M1,M1,Mb,reduceIte];exact o _ O
 | true=>
 (try simp only[↓M1,M1,Mb,reduceIte])
 refine Cc n y Z ?_;cases k:E2 (Q3 l) b with
 | false=>
  have O:Uy (Q3 l) a b=false:=by unfold Uy;simp[k]
  have f:decide (a=b)=false:=by
   rw[decide_eq_false_iff_not];rintro rfl;rw[g] at k;cases k
  simp only[f,↓M1,M1,Mb,reduceIte];exact o _ O
 | true=>
 (try simp only[↓M1,M1,Mb,reduceIte])
 by_cases e:a=b
 .have f:decide (a=b)=true:=by simpa using e
  simp only[f,↓M1,M1,Mb,reduceIte];refine Cc n y Q ?_;rw[g]
  (try simp only[↓M1,M1,Mb,reduceIte])
  exact o _ (z.sub_iff.2 ⟨g,k, .inl e⟩)
 have f:decide (a=b)=false:=by simpa using e
 simp only[f,↓M1,M1,Mb,reduceIte];refine Bq _ ?_
 have c:(∀(_:plain a=false/\plain b=false/\(a=G1\/(elem a≠[]/\b=W4)\/(lk (Q3 l) a≠none/\Hm.Reach (lk (Q3 l)) a b))),False)->K (.bool false) w:=fun hx=>o _ (eq_false_of_ne_true fun ht=>by
  obtain ⟨_,_,h3⟩:=z.sub_iff.1 ht
  rcases h3 with h3 | h3
  .exact e h3
  .exact hx h3)
 cases t:plain a with
 | true=>(try simp only[↓M1,M1,Mb,reduceIte]);exact c fun hx=>by rw[t] at hx;cases hx.1
 | false=>
 (try simp only[↓M1,M1,Mb,reduceIte])
 refine Bq _ ?_;cases J:plain b with
 | true=>(try simp only[↓M1,M1,Mb,reduceIte]);exact c fun hx=>by rw[J] at hx;cases hx.2.1
 | false=>
 (try simp only[↓M1,M1,Mb,reduceIte])
 by_cases H:b=G1
 .have f:decide (b=[110,117,108,108])=true:=by rw[decide_eq_true_eq];exact H
  simp only[f,↓M1,M1,Mb,reduceIte];refine c fun ⟨_,_,hx⟩=>?_
  rcases hx with hx | ⟨_,hx⟩ | ⟨_,hx⟩
  .exact e (hx.trans H.symm)
  .rw[H] at hx;exact absurd hx L1
  .obtain ⟨d,A⟩:=hx.right
   rw[H,z.none_null] at A;cases A
 have U:decide (b=[110,117,108,108])=false:=by rw[decide_eq_false_iff_not];exact H
 simp only[U,↓M1,M1,Mb,reduceIte]
 by_cases m:a=G1
 .have f:decide (a=[110,117,108,108])=true:=by rw[decide_eq_true_eq];exact m
  simp only[f,↓M1,M1,Mb,reduceIte];exact o _ (z.sub_iff.2 ⟨g,k, .inr ⟨t,J, .inl m⟩⟩)
 have B:decide (a=[110,117,108,108])=false:=by rw[decide_eq_false_iff_not];exact m
 simp only[B,↓M1,M1,Mb,reduceIte]
 by_cases L:b=W4
 .have f:decide (b=[79,98,106,101,99,116])=true:=by rw[decide_eq_true_eq];exact L
  simp only[f,↓M1,M1,Mb,reduceIte];exact o _ (by rw[L];exact z.sub_root g t)
 have V:decide (b=[79,98,106,101,99,116])=false:=by rw[decide_eq_false_iff_not];exact L
 simp only[V,↓M1,M1,Mb,reduceIte];refine Qu n y ?_;refine Qu n y ?_;refine Xd ?_;rw[Yd];cases p:U0 (Q3 l) a with
 | none=>
  simp only[Option.isSome_none,↓M1,M1,Mb,reduceIte];refine c fun ⟨_,_,hx⟩=>?_
  rcases hx with hx | ⟨_,hx⟩ | ⟨hx,_⟩
  .exact m hx
  .exact L hx
  .exact hx (by unfold lk;rw[p];rfl)
 | some i=>
 simp only[Option.isSome_some,↓M1,M1,Mb,reduceIte];cases C:U0 (Q3 l) b with
 | none=>
  simp only[Yd,Option.isSome_none,↓M1,M1,Mb,reduceIte];refine c fun ⟨_,_,hx⟩=>?_
  rcases hx with hx | ⟨_,hx⟩ | ⟨_,hx⟩
  .exact m hx
  .exact L hx
  .obtain ⟨d,A⟩:=hx.right
   unfold lk at A;rw[C] at A;cases A
 | some j=>
 obtain ⟨hi,W⟩:=I2 p;obtain ⟨hj,X⟩:=I2 C;simp only[Yd,Option.isSome_some,↓M1,M1,Mb,reduceIte];simp only[D0];refine Q3O n y z.own Q5 E ok.sm fun v1 w1 σ1 s N=>?_;have q:i<(Qo (Q3 l)).length:=by rw[X24];exact hi
 refine Y9 N q ?_;obtain ⟨u,p1,Y⟩:=Sl.elB N q;refine Y3 s.sat p1 rfl ?_;rw[X3r q] at Y;have D:j<((List.range (Q3 l).length).map fun j=>Jf (Q3 l) (Z4 (Q3 l) i) (Z4 (Q3 l) j)).length:=by simpa using hj
 refine Y9 Y D ?_;refine Y3 s.sat (Sl.elb Y D) rfl ?_
 (try simp only[↓M1,M1,Mb,reduceIte])
 simp only[List.getElem_map,List.getElem_range,W,X]
 have M:Uy (Q3 l) a b=Jf (Q3 l) a b:=by
  obtain ⟨ca,R,_⟩:=Vl p;rw[Bool.eq_iff_iff,z.sub_class R,Lp,Q3N];constructor
  .rintro (⟨hx,_⟩ | hx)
   .exact absurd hx e
   .exact hx
  .exact .inr
 rw[<-M];exact h _ _ s)
end Go.Proofs.Y
namespace Go.Emb
open Go.RowKit Go.Hm
def H3 (σ:Q2) (x:List Cla×Int×List Cel) (ds:List Value):Prop:= ∃b a,ds=[b,I x.2.1,a]/\Sl 8 M0 σ b x.1/\Sl 2 T1 σ a x.2.2
instance:Rep H3:=⟨fun hk ⟨lv,cv,h1,h2,h3⟩=>⟨lv,cv,h1,h2.le hk,h3.le hk⟩,fun ⟨lv,cv,h1,h2,h3⟩ u hu=>by
 rw[h1] at hu;simp at hu;rcases hu with rfl | rfl | rfl
 .exact Yk h2
 .rfl
 .exact Yk h3⟩
theorem O8 {σ σ':Q2} {x:List Cla×Int×List Cel} {cs:List Value} (h:H3 σ x cs) (k:SLe σ σ'):H3 σ' x cs:=Rep.up k.le h
theorem H3.out {σ:Q2} {l:List Cla} {room:Int} {cs:List Cel} {ds:List Value} (h:H3 σ (l,room,cs) ds): ∃b a,ds=[b,I room,a]/\Sl 8 M0 σ b l/\Sl 2 T1 σ a cs:=h
end Go.Emb
namespace Go.Proofs.Y
open Go.Emb Go.RowKit Go.Kd Go.Hm
variable {w w' : World} {K : Value -> World -> Prop} {σ σ' : Q2} {ds : List Value} {room : Int} {cs : List Cel} {l : List Cla}
theorem X4n {k:Q9} (O:X3 w σ) (h: ∀w' σ',Stp w σ w' σ'->K (.agg [I (E8 k).sort,I (E8 k).n,S (E8 k).s,I (E8 k).ref].toArray) w'):Q0 P F.aZ [S k] w K:=Q2w (by
 unfold Sf;simp only[L6];unfold U6;refine D2 O fun b w1 σ1 W t v=>?_;have hB:=H8 W (Stp.refl O);refine L4 (cells:= #[I 0,I 0,S [],I 0]) X4 ?_;refine D2 t.sat fun A w2 M D u y=>?_;have C:=t.trans u;have j:=H8 D t;have o:b≠A:=by have:=v.lt;omega
 refine My (ds:=[I 0,I 0,S [],I 0]) y rfl rfl (by rw[List.all_toArray];exact List.all_eq_true.2 Bt) fun Z Q a=>?_
 have m:=Q.stp C j y.1;have c:=(v.up u).upd Q o
 have g: ∀(n:Int) (f:World),Z0 M f A [I n,I 0,S [],I 0]->Z0 M f b [I 0,I 0,S [],I 0]->Stp w σ f M->(∀w' σ',Stp w σ w' σ'->K (.agg [I n,I 0,S [],I 0].toArray) w')->Q8 P T.f (.pointer (some ⟨A,0,none⟩)) f fun L w=>
  U3 P T.f (.pointer (some ⟨b,0,none⟩)) L w fun _u w=>
  Z9 P T.f (.pointer (some ⟨b,0,none⟩)) w fun Y=>K Y w:=fun n f r p V U=>
  By r rfl (Qi p V hB rfl rfl Bt fun w5 E H=>W9 H rfl (U _ _ E.stp))
 have R:decide (k=[105,110,116])=decide (k=Yu):=rfl;have N:decide (k=[98,111,111,108])=decide (k=Wb):=rfl;have B:decide (k=[116,101,120,116])=decide (k=B2):=rfl;unfold E8 at h;refine L2 ?_;refine K7 ?_;rw[R]
 by_cases p:k=Yu
 .simp only[if_pos p] at h
  have X:decide (k=Wb)=false:=by subst p;decide
  have J:decide (k=B2)=false:=by subst p;decide
  rw[decide_eq_true p];refine J3 ?_;refine W5 ?_;refine Vh (i:=0) a V0 rfl rfl fun f q e=>?_;intro d;refine L2 ?_;refine K7 ?_;rw[N,X];refine Z6 ?_;intro d;refine L2 ?_;refine K7 ?_;rw[B,J];refine Z6 ?_;intro d;exact g 1 f e (c.upd q o) (q.stp m j a.1) h
 simp only[if_neg p] at h;rw[decide_eq_false p];refine Z6 ?_;intro d;refine L2 ?_;refine K7 ?_;rw[N]
 by_cases r:k=Wb
 .simp only[if_pos r] at h
  have J:decide (k=B2)=false:=by subst r;decide
  rw[decide_eq_true r];refine J3 ?_;refine W5 ?_;refine Vh (i:=0) a V0 rfl rfl fun f q e=>?_;intro d;refine L2 ?_;refine K7 ?_;rw[B,J];refine Z6 ?_;intro d;exact g 2 f e (c.upd q o) (q.stp m j a.1) h
 simp only[if_neg r] at h;rw[decide_eq_false r];refine Z6 ?_;intro d;refine L2 ?_;refine K7 ?_;rw[B]
 by_cases z:k=B2
 .simp only[if_pos z] at h
  rw[decide_eq_true z];refine J3 ?_;refine W5 ?_;refine Vh (i:=0) a V0 rfl rfl fun f q e=>?_;intro d;exact g 3 f e (c.upd q o) (q.stp m j a.1) h
 .simp only[if_neg z] at h
  rw[decide_eq_false z];refine Z6 ?_;intro d;exact g 0 Z a c m h)
theorem X4l (o:X3 w σ) (hh:H3 σ (l,room,cs) ds) (k:0<=O3 room cs) (v:room<=1048576) (h: ∀w' σ',Stp w σ w' σ'->K (I (O3 room cs)) w'):Q0 P F.aY [.agg ds.toArray] w K:=Q2u (by
 obtain ⟨D,s,rfl,B,m⟩:=H3.out hh;unfold Sd X7 X6 X2 X1;refine Z7 o fun q w1 σ1 g j=>?_;have c:=g.sat;have b:=m.up g;refine W5 ?_;refine ld c j rfl ?_;unfold O3 at h k;refine H0 cs.length (fun n x w'=>w'=w1/\x=I (room-J1 (cs.take n))) ⟨rfl,by simp[J1]⟩ fun n x J d C i=>?_
 obtain ⟨rfl,rfl⟩:=i;have e:J1 cs=J1 (cs.take n)+J1 (cs.drop n):=by rw[<-Xw,List.take_append_drop]
 have y:=E0 (cs.take n);have z:=E0 (cs.drop n);refine W5 ?_;refine ld c j rfl ?_;refine Q6 b ?_;refine Z1 ?_;refine Q4 (fun f=>?_) (fun f=>?_)
 .have a:n<cs.length:=by simpa using f
  obtain ⟨H,p,r,E⟩:=Sl.elO b a;refine W5 ?_;refine ld c j rfl ?_;refine Y9 b a ?_;refine W5 ?_;refine ld c p rfl ?_;refine Q6 r ?_
  have t:J1 (cs.drop n)=(1+(cs[n].vals.length:Int))+J1 (cs.drop (n+1)):=by
   rw[List.drop_eq_getElem_cons a];simp only[J1,List.map_cons,List.sum_cons]
  have A:=E0 (cs.drop (n+1))
  have u:J1 (cs.take (n+1))=J1 (cs.take n)+(1+(cs[n].vals.length:Int)):=by
   rw[List.take_add_one,List.getElem?_eq_getElem a,Xw];simp[J1]
  refine Jx ⟨by omega,by omega⟩ ?_
  refine Vo ⟨by omega,by omega⟩ ?_
  refine H5 ?_;refine U4 b.max a ⟨rfl,?_⟩
  congr 1;omega
 .have a: ¬n<cs.length:=by simpa using f
  rw[List.take_of_length_le Q5];exact h _ _ g)
theorem X4m {n:Q9} {j:Value} (g:X3 w σ) (e:Sl 8 M0 σ j l) (h:K (.bool (Yj l n)) w):Q0 P F.bg [j,S n] w K:=Tl (by
 unfold Nw Z8 X8 X2;refine Qu g e ?_;refine Xd ?_;rw[Yd];unfold Yj at h;cases b:lk l n with
 | none=>
  rw[b] at h;rw[Q2U b];simp only[Option.isSome_none,↓M1,M1,Mb,reduceIte];exact h
 | some c=>
  rw[b] at h;obtain ⟨_,_,i,o,f⟩:=M6 b;obtain ⟨a,d⟩:=List.getElem?_eq_some_iff.1 f;obtain ⟨p,m,q,k,_⟩:=e.elC a;rw[d] at k;rw[o];simp only[Option.isSome_some,D0,↓M1,M1,Mb,reduceIte];refine Y9 e a ?_
  (try simp only[↓M1,M1,Mb,reduceIte])
  refine ld g k rfl ?_
  (try simp only[↓M1,M1,Mb,reduceIte])
  exact h)
theorem X1H {r i:Int} (t:X3 w σ) (hh:H3 σ (l,room,cs) ds) (h: ∀w' σ',Stp w σ w' σ'->K (I (S1 cs r i)) w'):Q0 P F.aN [.agg ds.toArray,I r,I i] w K:=Q1v (by
 obtain ⟨A,y,rfl,z,c⟩:=H3.out hh;unfold Hj Z8 X8 X6 X2 X1;refine Z7 t fun q w1 σ1 a p=>?_;have d:=a.sat;have k:=c.up a;refine Z1 ?_;unfold S1 at h
 have b:O9 cs r=false->K (I 92) w1:=fun e=>by
  have:=h _ _ a;rw[e] at this;exact this
 by_cases m:r<0
 .rw[decide_eq_true m]
  (try simp only[↓M1,M1,Mb,reduceIte])
  exact b (by simp only[O9,Bool.and_eq_false_iff,decide_eq_false_iff_not];left;omega)
 rw[decide_eq_false m]
 (try simp only[↓M1,M1,Mb,reduceIte])
 refine ld d p rfl ?_;refine Q6 k ?_;refine Xd ?_
 (try simp only[↓M1,M1,Mb,reduceIte])
 by_cases n:(cs.length:Int)<=r
 .rw[decide_eq_true n]
  refine J3 ?_;exact b (by simp only[O9,Bool.and_eq_false_iff,decide_eq_false_iff_not];right;omega)
 rw[decide_eq_false n];refine Z6 ?_;have s:O9 cs r=true:=by simp only[O9,Bool.and_eq_true,decide_eq_true_eq];omega
 obtain ⟨j,rfl,g⟩:=M3.1 s;rw[s,L9 g] at h;obtain ⟨B,u,v,_⟩:=Sl.elO k g
 by_cases o:i<0
 .rw[decide_eq_true o]
  (try simp only[↓M1,M1,Mb,reduceIte])
  have:=h _ _ a;rw[if_pos rfl,if_neg Q5] at this;exact this
 .rw[decide_eq_false o]
  (try simp only[↓M1,M1,Mb,reduceIte])
  refine ld d p rfl ?_;refine Y9 k g ?_
  (try simp only[↓M1,M1,Mb,reduceIte])
  refine ld d u rfl ?_;refine Q6 v ?_;refine Xd ?_
  (try simp only[↓M1,M1,Mb,reduceIte])
  have f:=h _ _ a;refine Q4 (fun c=>?_) (fun c=>?_)
  .have c:(cs[j].vals.length:Int)<=i:=by simpa using c
   rw[if_pos rfl,if_neg Q5] at f;exact f
  .have c: ¬(cs[j].vals.length:Int)<=i:=by simpa using c
   rw[if_pos rfl,if_pos Q5] at f;exact f)
theorem X9u {r i:Int} (M:X3 w σ) (hh:H3 σ (l,room,cs) ds) (h: ∀w' σ',Stp w σ w' σ'->K (.tuple #[.agg [I (Li cs r i).sort,I (Li cs r i).n,S (Li cs r i).s,I (Li cs r i).ref].toArray,I (S1 cs r i)]) w'):Q0 P F.c9 [.agg ds.toArray,I r,I i] w K:=Q3I (by
 have y:=hh;obtain ⟨W,U,rfl,V,L⟩:=H3.out hh;unfold Bi X7 J5 X2;refine Z7 M fun q w0 σ0 g C=>?_;refine D2 g.sat fun b w1 σ1 J a B=>?_;have t:=g.trans a;have hB:=H8 J g;have v:=C.up a;refine Z2 a.sat v rfl ?_;refine X1H a.sat (O8 y ⟨t.le⟩) fun Y Z c=>?_;have d:=t.trans c;have o:=c.sat;have u:=B.up c;have D:=v.up c;refine Mk ?_;unfold Li at h
 by_cases p:S1 cs r i=0
 .have e:decide (S1 cs r i=0)=true:=decide_eq_true p
  rw[if_pos p,p] at h;simp only[e,Bool.not_true,↓M1,M1,Mb,reduceIte];obtain ⟨j,m,rfl,rfl,z,A⟩:=Dq p;rw[L9 z,Int.toNat_natCast] at h;have E:=L.up d;obtain ⟨X,N,H,_⟩:=Sl.elO E z;obtain ⟨O,Q⟩:=Sl.elV H A;refine ld o D rfl ?_;refine Y9 E z ?_
  (try simp only[↓M1,M1,Mb,reduceIte])
  refine ld o N rfl ?_;refine Y9 H A ?_;refine Z2 o O rfl ?_;refine Qi u d hB rfl rfl (Rep.one Q) fun R f k=>?_;refine W9 k rfl ?_;have e:cs[j].vals.getD m Val.zero=cs[j].vals[m]:=by rw[List.getD_eq_getElem?_getD,List.getElem?_eq_getElem A];rfl
  rw[e] at h;exact h _ _ f.stp
 .have e:decide (S1 cs r i=0)=false:=by simpa using p
  rw[if_neg p] at h;simp only[e,Bool.not_false,↓M1,M1,Mb,reduceIte];refine L4 (cells:= #[I 0,I 0,S [],I 0]) X4 ?_;refine Qi (ds:=[I 0,I 0,S [],I 0]) u d hB rfl rfl Bt fun R f k=>?_;refine W9 k rfl ?_;exact h _ _ f.stp)
theorem X8K (s:X3 w σ) (hh:H3 σ (l,room,cs) ds) (ok:Ok l) (f:l.length<=1000) {k:Q9} {u:Value} {i:Nat} (p:k.length<=V5) (j:elem k=[]->i<(U5 l k).length)
 (h: ∀w' σ',Stp w σ w' σ'->K (S (Wg l k i)) w'):Q0 P F.bS [.agg ds.toArray, .agg [S k,u].toArray,I i] w K:=Q2x (by
 obtain ⟨z,v,rfl,r,y⟩:=H3.out hh;unfold Sg X7 U6;refine Z7 s fun q0 w0 σ0 c m=>?_;refine Z7 c.sat fun q w1 σ1 a n=>?_;have b:=c.trans a;refine W5 ?_;refine ld (i:=0) a.sat n rfl ?_;refine X5N k (Nat.le_trans p L1) ?_;refine Zn ?_;unfold Wg at h
 by_cases e:elem k=[]
 .simp only[if_pos e] at h
  rw[decide_eq_true e]
  (try simp only[↓M1,M1,Mb,reduceIte])
  refine ld (i:=0) a.sat (m.up a) rfl ?_;refine ld (i:=0) a.sat n rfl ?_;refine Q1x a.sat (r.up b) ok.acy f ok.sm fun A B C d g=>?_;refine Y9 g (j e) ?_;obtain ⟨t,_⟩:=g.elF (j e)
  (try simp only[↓M1,M1,Mb,reduceIte])
  refine ld d.sat t rfl ?_;have o:(U5 l k).getD i Fld.zero=(U5 l k)[i]'(j e):=by rw[List.getD_eq_getElem?_getD,List.getElem?_eq_getElem (j e)];rfl
  rw[o] at h;exact h _ _ (b.trans d)
 .simp only[if_neg e] at h
  rw[decide_eq_false e]
  (try simp only[↓M1,M1,Mb,reduceIte])
  exact h _ _ b)
theorem X9j {ok:Q9->Bool} {b d:Int} {c:Q9}:P8 ok cs ⟨0,b,c,d⟩=if b=0/\c=[]/\d=0 then G1 else []:=by
 simp[P8,Val.zero]
theorem X9k {ok:Q9->Bool} {b d:Int} {c:Q9}:P8 ok cs ⟨1,b,c,d⟩=if c=[]/\d=0 then Yu else []:=by
 simp[P8,Val.zero]
theorem X9l {ok:Q9->Bool} {b d:Int} {c:Q9}:P8 ok cs ⟨2,b,c,d⟩=if (c=[]/\d=0)/\(b=0\/b=1) then Wb else []:=by
 simp[P8,Val.zero]
theorem X9m {ok:Q9->Bool} {b d:Int} {c:Q9}:P8 ok cs ⟨3,b,c,d⟩=if (b=0/\d=0)/\ok c=true then B2 else []:=by
 simp[P8,Val.zero]
theorem X9n {ok:Q9->Bool} {b d:Int} {c:Q9}:P8 ok cs ⟨4,b,c,d⟩=if b=0/\c=[] then O6 cs d else []:=by
 simp[P8,Val.zero]
theorem X9o {ok:Q9->Bool} {a b d:Int} {c:Q9} (e:a≠0) (f:a≠1) (g:a≠2) (h:a≠3) (i:a≠4):P8 ok cs ⟨a,b,c,d⟩=[]:=by
 simp[P8,Val.zero,e,f,g,h,i]
set_option maxHeartbeats 2000000 in
theorem Y01 {v:Val} (hs:X3 w σ) (hh:H3 σ (l,room,cs) ds) (hb:v.s.length<=V5) (h: ∀w' σ',Stp w σ w' σ'->K (S (P8 V7 cs v)) w'):Q0 P F.ci [.agg ds.toArray, .agg [I v.sort,I v.n,S v.s,I v.ref].toArray] w K:=Q4D (by
 obtain ⟨lv,cv,rfl,hl,hc⟩:=H3.out hh;unfold Fk Z8 X7 X8 X6 X2 U6 X1;refine Z7 hs fun q0 w0 σ0 L C=>?_;refine Z7 L.sat fun q w1 σ1 E t=>?_;have f:=L.trans E;have g:=E.sat;have C:=C.up E;have Z:=hc.up f
 have k: ∀{w2:World} {σ2:Q2} {x:Q9},Stp w σ w2 σ2->P8 V7 cs v=x->K (S x) w2:=fun hS e=>by
  have:=h _ _ hS;rw[e] at this;exact this
 obtain ⟨a,b,c,d⟩:=v;simp only at hb t;have M: ∀r,O9 cs r=false->O6 cs r=[]:=fun r e=>by unfold O6;rw[e];rfl
 refine W5 ?_;refine ld g t rfl ?_;refine C8 ?_
 have B: ∀{A:Value->World->Prop},(∀p:Bool,p=(decide (d=0)&&decide (c=[]))->A (.bool p) w1)->Q1 (.bool (decide (d=0))) true w1 (fieldAddr P T.f (.pointer (some q)) 2) (fun aa w=>
  Q1 (.bool (decide (d=0))) true w (Q8 P T.b aa) fun ab w=>
  Q1 (.bool (decide (d=0))) true w (Y6 P .eql T.b (.tmp 11) (.const (.string ⟨#[]⟩)) ab (.string ⟨#[]⟩)) fun ac w=>
  pick P (.bool (decide (d=0))) ac (.bool false) w A):=fun {A} hA=>by
  cases hd:decide (d=0) with
  | false=>(try simp only[↓M1,M1,Mb,reduceIte]);exact hA false (by simp[hd])
  | true=>
   (try simp only[↓M1,M1,Mb,reduceIte])
   refine ld g t rfl ?_
   (try simp only[↓M1,M1,Mb,reduceIte])
   exact hA _ (by simp[hd])
 refine B fun p hp=>?_;refine Xt (fun _ w'=>Stp w σ w' σ1/\P8 V7 cs ⟨a,b,c,d⟩=[]) ?_ (fun _ d' w' hz=>k hz.1 hz.2);refine W5 ?_;refine ld (i:=0) g t rfl ?_;refine C8 ?_;have z:(p=true)↔(c=[]/\d=0):=by rw[hp];simp[and_comm]
 have H:p=false-> ¬(c=[]/\d=0):=fun e h=>by rw[z.2 h] at e;cases e
 by_cases Q:a=0
 .subst Q
  rw[X9j] at*;rw[decide_eq_true rfl];refine J3 ?_;cases o:p with
  | false=>
   (try simp only[↓M1,M1,Mb,reduceIte])
   exact ⟨f,if_neg fun e=>H o e.2⟩
  | true=>
   have y:=z.1 o
   (try simp only[↓M1,M1,Mb,reduceIte])
   refine ld g t rfl ?_
   (try simp only[↓M1,M1,Mb,reduceIte])
   by_cases m:b=0
   .rw[decide_eq_true m]
    (try simp only[↓M1,M1,Mb,reduceIte])
    exact k f (if_pos ⟨m,y⟩)
   .rw[decide_eq_false m]
    (try simp only[↓M1,M1,Mb,reduceIte])
    exact ⟨f,if_neg fun e=>m e.1⟩
 rw[decide_eq_false Q];refine Z6 ?_;refine C8 ?_
 by_cases R:a=1
 .subst R
  rw[X9k] at*;rw[decide_eq_true rfl];refine J3 ?_;cases o:p with
  | false=>exact Z6 ⟨f,if_neg (H o)⟩
  | true=>exact J3 (k f (if_pos (z.1 o)))
 rw[decide_eq_false R];refine Z6 ?_;refine C8 ?_
 by_cases U:a=2
 .subst U
  rw[X9l] at*;rw[decide_eq_true rfl];refine J3 ?_;cases o:p with
  | false=>
   (try simp only[↓M1,M1,Mb,reduceIte])
   exact ⟨f,if_neg fun e=>H o e.1⟩
  | true=>
   have y:=z.1 o
   (try simp only[↓M1,M1,Mb,reduceIte])
   refine ld g t rfl ?_
   (try simp only[↓M1,M1,Mb,reduceIte])
   by_cases m:b=0
   .rw[decide_eq_true m]
    (try simp only[↓M1,M1,Mb,reduceIte])
    exact k f (if_pos ⟨y, .inl m⟩)
   .rw[decide_eq_false m]
    (try simp only[↓M1,M1,Mb,reduceIte])
    refine ld g t rfl ?_
    (try simp only[↓M1,M1,Mb,reduceIte])
    by_cases N:b=1
    .rw[decide_eq_true N]
     (try simp only[↓M1,M1,Mb,reduceIte])
     exact k f (if_pos ⟨y, .inr N⟩)
    .rw[decide_eq_false N]
     (try simp only[↓M1,M1,Mb,reduceIte])
     exact ⟨f,if_neg fun e=>e.2.elim m N⟩
 rw[decide_eq_false U];refine Z6 ?_;refine C8 ?_
 by_cases V:a=3
 .subst V
  rw[X9m] at*;rw[decide_eq_true rfl];refine J3 ?_;refine W5 ?_;refine ld g t rfl ?_;refine C8 ?_
  by_cases m:b=0
  case neg=>
   rw[decide_eq_false m]
   (try simp only[↓M1,M1,Mb,reduceIte])
   exact ⟨f,if_neg fun e=>m e.1.1⟩
  rw[decide_eq_true m]
  (try simp only[↓M1,M1,Mb,reduceIte])
  refine ld g t rfl ?_
  (try simp only[↓M1,M1,Mb,reduceIte])
  by_cases u:d=0
  case neg=>
   rw[decide_eq_false u]
   (try simp only[↓M1,M1,Mb,reduceIte])
   exact ⟨f,if_neg fun e=>u e.1.2⟩
  rw[decide_eq_true u]
  (try simp only[↓M1,M1,Mb,reduceIte])
  refine ld g t rfl ?_;refine Bw Y8 ?_;refine Q8C ?_
  by_cases D:c.length<=4096
  case neg=>
   rw[decide_eq_false (show¬(c.length:Int)<=4096 by omega)]
   (try simp only[↓M1,M1,Mb,reduceIte])
   exact ⟨f,if_neg fun e=>D (by have:=e.2;simp only[V7,Bool.and_eq_true,decide_eq_true_eq] at this;exact this.1)⟩
  rw[decide_eq_true (show (c.length:Int)<=4096 by omega)]
  (try simp only[↓M1,M1,Mb,reduceIte])
  refine ld g t rfl ?_;refine Q82 hb g fun w2 X=>?_;have J:=f.trans (Stp.of_below g X);cases hv:Lib.validD c with
  | true=>
   (try simp only[↓M1,M1,Mb,reduceIte])
   exact k J (if_pos ⟨⟨m,u⟩,by simp[V7,hv,D]⟩)
  | false=>
   (try simp only[↓M1,M1,Mb,reduceIte])
   exact ⟨J,if_neg fun e=>by have:=e.2;simp[V7,hv] at this⟩
 rw[decide_eq_false V];refine Z6 ?_;refine C8 ?_
 by_cases W:a=4
 case neg=>
  rw[decide_eq_false W];exact Z6 ⟨f,X9o Q R U V W⟩
 subst W;rw[X9n] at*;rw[decide_eq_true rfl];refine J3 ?_;refine W5 ?_;refine ld g t rfl ?_;refine C8 ?_
 by_cases m:b=0
 case neg=>
  rw[decide_eq_false m]
  (try simp only[↓M1,M1,Mb,reduceIte])
  exact ⟨f,if_neg fun e=>m e.1⟩
 rw[decide_eq_true m]
 (try simp only[↓M1,M1,Mb,reduceIte])
 refine ld g t rfl ?_
 (try simp only[↓M1,M1,Mb,reduceIte])
 by_cases D:c=[]
 case neg=>
  rw[decide_eq_false D]
  (try simp only[↓M1,M1,Mb,reduceIte])
  exact ⟨f,if_neg fun e=>D e.2⟩
 rw[decide_eq_true D]
 (try simp only[↓M1,M1,Mb,reduceIte])
 refine ld g t rfl ?_;refine Xd ?_;rw[if_pos ⟨m,D⟩] at*
 by_cases u:0<=d
 case neg=>
  rw[decide_eq_false u]
  (try simp only[↓M1,M1,Mb,reduceIte])
  exact ⟨f,M d (by simp[O9,u])⟩
 rw[decide_eq_true u]
 (try simp only[↓M1,M1,Mb,reduceIte])
 refine ld g t rfl ?_;refine ld g C rfl ?_;refine Q6 Z ?_;refine Z1 ?_
 (try simp only[↓M1,M1,Mb,reduceIte])
 by_cases O:d<(cs.length:Int)
 case neg=>
  rw[decide_eq_false O];exact Z6 ⟨f,M d (by simp[O9,O])⟩
 rw[decide_eq_true O];refine J3 ?_;obtain ⟨j,rfl,Y⟩:=M3.1 (show O9 cs d=true by simp[O9,u,O])
 obtain ⟨vv,p1,p2,_⟩:=Sl.elO Z Y;refine ld g C rfl ?_;refine ld g t rfl ?_;refine Y9 Z Y ?_
 (try simp only[↓M1,M1,Mb,reduceIte])
 refine ld g p1 rfl ?_;exact k f (Xc Y))
end Go.Proofs.Y
namespace Go.Emb
open Go.RowKit Go.Hm
variable {α : Type} {P : Program} {R R' : Q2 -> α -> List Value -> Prop} {sz : Nat} {e : TypeId} {σ σ0 σ' : Q2} {v u : Value} {xs ys : List α} {w w0 w' : World} {K : Value -> World -> Prop}
theorem X4W {t A:TypeId} {o:Nat} {z:Value} {cs:List Bool} [ts:TS P t e] [tz:TZ P e sz o z] [hr:Rep R] [hr':Rep R'] (C:Stp w0 σ0 w σ) (ha:W2 w0.heap.size e sz R σ w v xs) (L:X3 w σ') (V:Sl sz R' σ' u ys) (hR: ∀x cs,R' σ' x cs->R σ x cs) (N:(z.cells.size==sz&&decide (0<sz))=true)
 (hb:(xs.length+ys.length)*o<=140737488355328) (hm:xs.length+ys.length<=9223372036854775807)
 (h: ∀d w',w.grownBy w' v.ownBlock->Stp w0 σ0 w' σ->W2 w0.heap.size e sz R σ w' d (xs++ys)->(d.ownBlock=v.ownBlock\/ ∀k,d.ownBlock=some k->w.heap.size<=k)->K d w'):J7 P .append [t,t] A cs [v,u] w K:=by
 obtain ⟨cells,s,Q,h3⟩:=ha;obtain ⟨a,f,news,rfl,W,X,n3,n4,n5⟩:=V.cells L;obtain ⟨i,H,M,D,r⟩:=tz.info
 have p: ∀d w',(Builtin.append_ #[t,t] A #[v, .slice a ys.length f]).run P w= .ok d w'->w'.ownsRow w0.heap.size e sz d (xs.length+ys.length) (cells++news)->w.grownBy w' v.ownBlock->(d.ownBlock=v.ownBlock\/d.ownBlock=some w.heap.size)->J7 P .append [t,t] A cs [v, .slice a ys.length f] w K:=by
  intro d w' y c m hat
  have q:(builtin .append #[t,t] A cs.toArray #[v, .slice a ys.length f]).run P w= .ok (.value d) w':=by
   simp[builtin,y]
  unfold J7;rw[Xu];unfold Xm;rw[q];refine h d w' m (Stp.turn m C fun k n=>⟨(s.lt k n).1,Q k n⟩) ⟨cells++news,by rw[List.length_append];exact c,?_,?_⟩ ?_
  .intro k n
   rcases hat with hat | hat
   .exact Q k (hat▸n)
   .rw[hat] at n;cases n;exact C.sat.none (Nat.le_refl _)
  .intro j x B
   by_cases U:j<xs.length
   .rw[List.getElem?_append_left U] at B
    rw[Oq cells news xs.length j s.1 U];exact h3 j x B
   .rw[List.getElem?_append_right Q5] at B
    have:=hR _ _ (n5 _ _ B);rw[show j*sz=cells.length+(j-xs.length)*sz by rw[s.1,<-Nat.add_mul];congr 1;omega,List.drop_append]
    simpa [List.drop_eq_nil_of_le] using this
  .rcases hat with hat | hat
   .exact .inl hat
   .right;intro k n;rw[hat] at n;cases n;exact Nat.le_refl _
 simp only[Bool.and_eq_true,beq_iff_eq,decide_eq_true_eq] at N;cases a with
 | some b=>
  obtain ⟨d,w',g1,g2,g3,_,g5⟩:=run_append_own_at (P:=P) w w0.heap.size t A e i z sz o ts.h H r M D N.1 N.2 v xs.length cells s b ys.length f news X (n3 b rfl) n4 (by simp only[maxLen];omega) hb C.bel.size
  exact p d w' g1 g2 g3 g5
 | none=>
  have hy:ys=[]:=List.eq_nil_of_length_eq_zero (by obtain ⟨a',O,Z,q1,_,q3,_⟩:=V;injection Z with _ e2 e3;have:=W rfl;subst e3;omega)
  have E:=W rfl;subst hy E;have hn:news=[]:=List.eq_nil_of_length_eq_zero (by simpa using X)
  subst hn;have c:=s
  rcases s.2 with ⟨rfl,h0⟩ | ⟨g,f,Y,rfl,aj,hg,J,_⟩
  .refine p (.slice none 0 0) w ?_ (by simpa using c) (World.grownBy.refl w _) (.inl rfl)
   simp[Builtin.append_,run_underlying ts.h,sizeOf,typeInfo,H,Builtin.lenOf,Builtin.firstCells]
  .refine p _ w ?_ (by simpa using c) (World.grownBy.refl w _) (.inl rfl)
   simp[Builtin.append_,run_underlying ts.h,sizeOf,typeInfo,H,Builtin.lenOf,Builtin.firstCells,J,storeCells]
def Q8F {α:Type} (c:α) (ds:List Value) (_:Q2) (x:α) (cs:List Value):Prop:=x=c/\cs=ds/\ ∀u∈ds,u.oneCell'=true
instance {α:Type} (c:α) (ds:List Value):Rep (Q8F c ds):=⟨fun _ h=>h,fun h u hu=>h.2.2 u (h.2.1▸hu)⟩
end Go.Emb
namespace Go.Proofs.Y
open Go.Emb Go.RowKit Go.Kd Go.Hm
variable {w w' : World} {K : Value -> World -> Prop} {σ σ' : Q2} {ds : List Value} {room : Int} {cs : List Cel} {l : List Cla}
theorem X0N {b:Value} (d:Sl 2 T1 σ b cs) (r:Int):(O6 cs r).length<=V5:=by
 unfold O6
 split
 .rename_i c
  obtain ⟨i,rfl,a⟩:=M3.1 c;rw[L9 a];exact (Sl.elO d a).choose_spec.2.2
 .exact Nat.zero_le _
theorem X5A {a:Value} (b:Sl 2 T1 σ a cs) (v:Val):(P8 V7 cs v).length<=V5:=by
 unfold P8
 split
 .decide
 split
 .decide
 split
 .decide
 split
 .decide
 split
 .exact X0N b _
 .exact Nat.zero_le _
theorem X8H {v:Val} {k:Q9} (D:X3 w σ) (hh:H3 σ (Q3 l,room,cs) ds) (H:Wf l) (ok:Ok (Q3 l)) (j:(Q3 l).length<=1000) (y:v.s.length<=V5) (A:k.length<=V5) (h: ∀w' σ',Stp w σ w' σ'->K (.bool (I7 V7 (Q3 l) cs v k)) w'):Q0 P F.bQ [.agg ds.toArray, .agg [I v.sort,I v.n,S v.s,I v.ref].toArray,S k] w K:=Q2t (by
 have o:=hh;obtain ⟨L,J,rfl,B,z⟩:=H3.out hh;unfold Sc Z8 X8 U6;refine Z7 D fun q0 w0 σ0 g t=>?_;refine Z7 g.sat fun q w1 σ1 c C=>?_;have f:=g.trans c;have d:=c.sat;have m:=t.up c;refine Z2 d m rfl ?_;refine Z2 d C rfl ?_;refine Y01 d (O8 o ⟨f.le⟩) y fun M O a=>?_;have b:=f.trans a;refine Zn ?_;unfold I7 at h;have r:=X5A z v;generalize P8 V7 cs v=E at*
 by_cases e:E=[]
 .rw[decide_eq_true e] at h⊢
  (try simp only[↓M1,M1,Mb,reduceIte])
  exact h _ _ b
 .rw[decide_eq_false e] at h⊢
  (try simp only[↓M1,M1,Mb,reduceIte])
  refine ld (i:=0) a.sat (m.up a) rfl ?_;refine X7A a.sat (B.up b) H ok j r A fun N Q p=>?_
  (try simp only[↓M1,M1,Mb,reduceIte])
  exact h _ _ (b.trans p))
theorem Fx {m a:Nat} {c b:Value} {e:Int} {zs:List Value} {w1:World} {σ1:Q2} (o:Stp w σ w1 σ1) (g:Z0 σ1 w1 m [c,I room,b]) (j:Z0 σ1 w1 a zs) (p:zs.length=3) (d:w.heap.size<=a) (n:H3 σ1 (l,room,cs) [c,I room,b]) (h: ∀w' σ',Stp w σ w' σ'->H3 σ' (l,room,cs) [c,I room,b]->K (.tuple #[.agg [c,I room,b].toArray,I e]) w'):
 Q8 P T.a (.pointer (some ⟨m,0,none⟩)) w1 fun k w=>
 U3 P T.a (.pointer (some ⟨a,0,none⟩)) k w fun _u w=>
 Z9 P T.a (.pointer (some ⟨a,0,none⟩)) w fun q=>
 K (.tuple #[q,(.int .i64 e)]) w:=
 By g rfl (Qi j o d p rfl (Rep.one n) fun r f i=>W9 i rfl (h r σ1 f.stp n))
set_option maxHeartbeats 1000000 in
theorem X4p {p H b7:Nat} {X cv x:Value} {k:Q9} {vals:List Val} {zs:List Value} {w1:World} {σ1:Q2} (hS:Stp w σ w1 σ1) (L:Z0 σ1 w1 p [X,I room,cv]) (ag:Z0 σ1 w1 H zs) (a5:Z0 σ1 w1 b7 [S k,x]) (hz:zs.length=3) (aw:w.heap.size<=p) (ax:w.heap.size<=H) (ac:p≠H) (hl:Sl 8 M0 σ1 X l) (hc:Sl 2 T1 σ1 cv cs) (hx:Sl 4 N0 σ1 x vals) (hk:k.length<=V5) (bn:cs.length<=10000000)
 (h: ∀Z w' σ',Stp w σ w' σ'->H3 σ' (l,room,cs++[⟨k,vals⟩]) [X,I room,Z]->K (.tuple #[.agg [X,I room,Z].toArray,I 0]) w'):
 dr w1 fun m E=>
 U8 m (fun s=> ∀w,E w->fieldAddr P T.a (.pointer (some ⟨p,0,none⟩)) 2 w (dk m s w)) fun s=>
 U8 m (fun r=> ∀w,E w->buildSlice P T.g 0 [] w (dk m r w)) fun r=>
 U8 m (fun t=> ∀f w,E w->s f w->Q8 P T.g f w (dk m t w)) fun t=>
 U8 m (fun U=> ∀d g w,E w->r d w->t g w->J7 P .append [T.g,T.g] T.g [false,false] [d,g] w (dk m U w)) fun U=>
 U8 m (fun z=> ∀w,E w->Q8 P T.o (.pointer (some ⟨b7,0,none⟩)) w (dk m z w)) fun z=>
 U8 m (fun W=> ∀i w,E w->z i w->buildSlice P T.g 1 [(0,i)] w (dk m W w)) fun W=>
 ∀f d g O i Q w,E w->s f w->r d w->t g w->U O w->z i w->W Q w->
 J7 P .append [T.g,T.g] T.g [false,false] [O,Q] w fun ba w=>
 fieldAddr P T.a (.pointer (some ⟨p,0,none⟩)) 2 w fun bb w=>
 U3 P T.g bb ba w fun _u w=>
 Q8 P T.a (.pointer (some ⟨p,0,none⟩)) w fun bc w=>
 U3 P T.a (.pointer (some ⟨H,0,none⟩)) bc w fun _u w=>
 Z9 P T.a (.pointer (some ⟨H,0,none⟩)) w fun r0=>
 K (.tuple #[r0,(.int .i64 0)]) w:=by
 have a8:=hS.sat;have aj:T1 σ1 ⟨k,vals⟩ [S k,x]:=⟨x,rfl,hx,hk⟩;have br:x.cells= #[x]:=by obtain ⟨a,c,rfl,_⟩:=hx;rfl
 have a6: ∀{w':World} {K:Value->World->Prop},Hst w1 σ1 w' σ1->K cv w'->Q8 P T.g (.pointer (some ((⟨p,0,none⟩:Addr).add 2))) w' K:=fun N hK=>Ys (L.up N.stp) rfl hK;have a7: ∀{w':World} {K:Value->World->Prop},Hst w1 σ1 w' σ1->K (.agg [S k,x].toArray) w'->Q8 P T.o (.pointer (some ⟨b7,0,none⟩)) w' K:=fun N hK=>By (a5.up N.stp) rfl hK;refine W1 a8 ?_
 (repeat refine J4 Uc ?_)
 refine Q5L (R:=T1) L1 ?_;refine J4 (V:=cv) (fun f w n e=>?_) ?_
 .subst e;exact a6 n (V1 rfl)
 refine Q43 (w:=w1) (σ:=σ1) (R:=T1) (sz:=2) (e:=T.o) cs (fun d g w n aq ar=>?_) ?_
 .obtain ⟨k1,a1,e1⟩:=aq
  subst ar;exact X8P k1 a1 e1 (hc.up n.stp) rfl Q5 Q5 fun v' w' hk ha=>Q5J n hk ha
 refine J4 (V:= .agg [S k,x].toArray) (fun w n=>?_) ?_
 .exact a7 n (V1 rfl)
 refine Vw (w:=w1) (σ:=σ1) (Φ:=fun σ' v=>Sl 2 (Q8F (⟨k,vals⟩:Cel) [S k,x]) σ' v [⟨k,vals⟩]) (fun i w n e=>?_) ?_
 .subst e
  refine B7 (R:=Q8F (⟨k,vals⟩:Cel) [S k,x]) (sz:=2) n.sat [.agg [S k,x].toArray] [⟨k,vals⟩] rfl rfl (by simp[Value.cells]) rfl ⟨⟨rfl,rfl,Rep.one (R:=T1) aj⟩,trivial⟩ fun v w2 σ2 a4 a9=>Sq n a4 a9
 rintro f d g O i Q w2 bl rfl _ rfl ⟨av,ao⟩ rfl ⟨σ3,k3,s3⟩;refine X4W av ao k3.sat s3 (fun y ds hy=>by obtain ⟨rfl,rfl,_⟩:=hy;exact aj) rfl (by simp;omega) (by simp;omega) fun v3 w3 bo a2 J _=>?_
 have hN:Stp w1 σ1 w3 σ1:=a2;have A:=L.up hN;have ah:=ag.up hN;have ak:=Wk J;refine W5 ?_;refine Vh A V0 ak.1 ak.2 fun Y u4 B=>?_;have ae:=L.lt;have ab:W2 w1.heap.size T.o 2 T1 σ1 Y v3 (cs++[⟨k,vals⟩]):=J.kp (D:=fun j=>j=p) (.of_upd u4 rfl) fun j hj e=>by have:=(J.mem j hj).1;omega
 have C:=ah.upd u4 (fun e=>ac e.symm);have q:Stp w σ Y σ1:=u4.stp (hS.trans hN) aw A.1;have aa:X3 Y σ1:=q.sat;obtain ⟨σ5,s5,l5,f5,o5⟩:=(J6.of_acc ab).freeze aa;have M: ∀j,j<w1.heap.size->σ5 j=σ1 j:=fun j hj=>o5 j fun e=>by have:=(ab.mem j e.symm).1;omega
 have af:Z0 σ5 Y p [X,I room,v3]:=⟨(M p ae).trans B.1,B.2⟩;have ai:Z0 σ5 Y H zs:=⟨(M H ag.lt).trans C.1,C.2⟩;have a3:Stp w σ Y σ5:=⟨q.bel,s5,fun b o e=>l5.le b o (q.le b o e),fun b n=>(M b (Nat.lt_of_lt_of_le n hS.bel.size)).trans (q.old b n)⟩;exact Fx a3 af ai hz ax ⟨X,v3,rfl,hl.lift l5,f5⟩ fun w' σ' hk hr=>h v3 w' σ' hk hr
set_option maxRecDepth 9999 in
set_option maxHeartbeats 1000000 in
theorem X5L {k:Q9} (hs:X3 w σ) (hh:H3 σ (l,room,cs) ds) (ok:Ok l) (hlen:l.length<=1000) (hk:k.length<=V5) (h0:0<=O3 room cs) (h1:room<=1048576)
 (h: ∀ds' w' σ',Stp w σ w' σ'->H3 σ' (l,room,(Uq l room cs k).1) ds'->K (.tuple #[.agg ds'.toArray,I (Uq l room cs k).2]) w'):Q0 P F.bn [.agg ds.toArray,S k] w K:=Q00 (by
 have hcl:=Qf cs;obtain ⟨lv,cv,rfl,hl,hc⟩:=H3.out hh;unfold Dk;simp only[Y5,X5,M5,L6];unfold X7 U7 X6 X1;refine Rc hs fun b0 w1 σ1 hb0 hk1 hm0=>?_;refine D2 hk1.sat fun b4 w2 σ2 hb4 hk2 hm4=>?_;have hS2:=hk1.trans hk2;have hB4:=H8 hb4 hk1;have hb04:b0≠b4:=by have:=hm0.lt;omega
 have hm02:=hm0.up hk2;have hl2:=hl.up hS2;have hh2:=O8 hh ⟨hS2.le⟩;unfold O3 at h0;refine W5 ?_;refine Ys (i:=0) hm02 rfl ?_;refine X4m hk2.sat hl2 ?_;refine Ml ?_;unfold Uq at h;cases ho:Yj l k with
 | false=>
  rw[ho] at h;simp only[if_pos] at h;refine J3 ?_;exact Fx hS2 hm02 hm4 rfl hB4 hh2 fun w' σ' hk hr=>h _ w' σ' hk hr
 | true=>
  rw[ho] at h;simp only[Bool.true_eq_false,if_false] at h;refine Z6 ?_;refine W5 ?_;refine Ys (i:=0) hm02 rfl ?_;refine Q1x hk2.sat hl2 ok.acy hlen ok.sm fun fv w3 σ3 hk3 hf=>?_;have hS3:=hS2.trans hk3;have hfl:=hf.max;have hfl2:=Q2R ok.sm ok.len k;refine Q6 hf ?_;refine Jx ⟨by omega,by omega⟩ ?_
  refine By (hm02.up hk3) rfl ?_;refine X4l hk3.sat (O8 hh2 ⟨hk3.le⟩) (by unfold O3;exact h0) h1 fun w4 σ4 hk4=>?_
  have hk34:=hk3.trans hk4;have hS4:=hS3.trans hk4;have hm04:=hm02.up hk34;have hm44:=hm4.up hk34;have hh4:=O8 hh2 ⟨hk34.le⟩;have hf4:=hf.up hk4;rw[Gg]
  by_cases hg:O3 room cs<1+((U5 l k).length:Int)
  .rw[if_pos hg] at h
   have e:decide (1+((U5 l k).length:Int)>O3 room cs)=true:=decide_eq_true hg;rw[e];refine J3 ?_;exact Fx hS4 hm04 hm44 rfl hB4 hh4 fun w' σ' hk hr=>h _ w' σ' hk hr
  rw[if_neg hg] at h;have e:decide (1+((U5 l k).length:Int)>O3 room cs)=false:=decide_eq_false hg;rw[e];refine Z6 ?_;unfold O3 at hg;refine L4 (cells:= #[S k, .slice none 0 0]) X4 ?_;refine D2 hk4.sat fun b7 w5 σ5 hb7 hk5 hm7=>?_;have hS5:=hS4.trans hk5;have hB7:=H8 hb7 hS4;refine My (ds:=[S k, .slice none 0 0]) hm7 rfl rfl (by rw[List.all_toArray];rfl) fun w6 u6 hm76=>?_
  have hS6:=u6.stp hS5 hB7 hm7.1;have hb07:b0≠b7:=by have:=hm04.lt;omega
  have hb47:b4≠b7:=by have:=hm44.lt;omega
  have hm06:=(hm04.up hk5).upd u6 hb07;have hm46:=(hm44.up hk5).upd u6 hb47;have hf6:=(hf4.up hk5);have hc6:Sl 2 T1 σ5 cv cs:=hc.up hS5;have hl6:Sl 8 M0 σ5 lv l:=hl.up hS5
  refine V2 (U5 l k).length (fun n w'=> ∃σ' x,Stp w σ w' σ'/\SLe σ5 σ'/\Z0 σ' w' b0 [lv,I room,cv]/\Z0 σ' w' b4 _/\Z0 σ' w' b7 [S k,x]/\W2 w.heap.size T.f 4 N0 σ' w' x (((U5 l k).take n).map fun f=>E8 f.kind)/\x.ownBlock≠some b0/\x.ownBlock≠some b4/\x.ownBlock≠some b7)
   ⟨σ5, .slice none 0 0,hS6,SLe.refl _,hm06,hm46,hm76,W2.nil,by simp[Value.ownBlock],by simp[Value.ownBlock],by simp[Value.ownBlock]⟩ fun n w7 d hn hinv=>?_
  obtain ⟨σ7,x,hS7,le7,hm07,hm47,hm77,ha7,hx0,hx4,hx7⟩:=hinv;have hf7:=hf6.lift le7;have hs7:=hS7.sat;refine Q6 hf7 ?_;refine Z1 ?_;refine Q4 (fun hcc=>?_) (fun hcc=>?_)
  .have hn':n<(U5 l k).length:=by simpa using hcc
   obtain ⟨p1,r1⟩:=hf7.elF hn';have hrd: ∀{w':World} {K:Value->World->Prop},Hst w7 σ7 w' σ7->K x w'->Q8 P T.k (.pointer (some ((⟨b7,0,none⟩:Addr).add 1))) w' K:=fun hst hK=>Ys (hm77.up hst.stp) rfl hK;refine W1 hs7 ?_
   (repeat (apply J4;(· intros;(repeat (rename_i hx;subst hx));(repeat' (first | (with_reducible exact V1 rfl) | (with_reducible exact P4 (Stp.bel (by (repeat (first | exact Stp.refl (by (first | assumption | exact Stp.sat Q7 | exact Hst.sat Q7)) | assumption | refine Stp.trans ?_ (by first | assumption | exact Hst.stp Q7))))) rfl) | (with_reducible intro _) | (simp only[↓M2,M2,Mb,reduceIte]) | (with_reducible refine hrd au ?_) | (with_reducible show Q8 _ _ _ _ _;first | refine Y3 aS aL aR ?_ | refine Z2 aS aL aR ?_ | refine ld aS aL aR ?_) | (with_reducible show indexAddr _ _ _ _ _ _;refine Y9 aL au ?_) | (with_reducible show J7 _ _ _ _ _ _ _ _;refine Q6 aL ?_) | (with_reducible show Qr _ _ _ _ _ _;refine V4 aR ?_) | (with_reducible show pick _ _ _ _ _ _;refine C6 ?_) | (with_reducible show Q0 _ _ _ _ _;first | refine X4n au ?_) | (apply Xq;intro hh;(try simp only[hh,reduceIte,↓M2,M2,Mb,reduceIte]))));done)))
   refine Vw (w:=w7) (σ:=σ7) (Φ:=fun σ' v=>Sl 4 N0 σ' v [E8 (U5 l k)[n].kind]) (fun t41 w hb e=>?_) ?_
   .subst e
    exact B7 (R:=N0) (sz:=4) hb.sat [_] [E8 (U5 l k)[n].kind] rfl rfl (by simp[Value.cells]) rfl ⟨Q0c _,trivial⟩ fun v w2 σ2 hk2 hv2=>Sq hb hk2 hv2
   rintro t34 t38 t39 t35 t40 t41 t42 w8 hb8 rfl rfl rfl rfl rfl rfl ⟨σ8,hk8,s8⟩;refine X4W (w0:=w) (hS7.trans hb8.stp) (ha7.up hb8.stp) hk8.sat s8 (fun y ds hy=>hy) rfl (by simp;omega) (by simp;omega) fun x9 w9 hg9 hS9 ha9 hat9=>?_
   have hm08:=(hm07.up hb8.stp).turn hg9 fun e=>hx0 e.symm;have hm48:=(hm47.up hb8.stp).turn hg9 fun e=>hx4 e.symm;have hm78:=(hm77.up hb8.stp).turn hg9 fun e=>hx7 e.symm;have hsz:=hb8.stp.bel.size
   have hnew: ∀b,b<w7.heap.size->x.ownBlock≠some b->x9.ownBlock≠some b:=fun b hb hxb e=>by
    rcases hat9 with e2 | e2
    .exact hxb (e2▸e)
    .have:=e2 b e;omega
   have hsh:=Wk ha9;refine W5 ?_;refine Vh hm78 V0 hsh.1 hsh.2 fun w10 u10 hm710=>?_;refine H5 ?_;have hx97:=hnew b7 hm77.lt hx7;refine Y7 hfl hn' ⟨σ7,x9,u10.stp hS9 hB7 hm78.1,le7,hm08.upd u10 hb07,hm48.upd u10 hb47,hm710,?_,hnew b0 hm07.lt hx0,hnew b4 hm47.lt hx4,hx97⟩;have:=ha9.kp (D:=fun j=>j=b7) (.of_upd u10 rfl) fun j hj e=>hx97 (e▸hj);rw[List.take_add_one,List.getElem?_eq_getElem hn',List.map_append];exact this
  .have hn': ¬n<(U5 l k).length:=by simpa using hcc
   rw[List.take_of_length_le Q5] at ha7;obtain ⟨σ9,hS9,hx9,le9,o9⟩:=ha7.keep hS7;have mk: ∀{b:Nat} {zs:List Value},Z0 σ7 w7 b zs->x.ownBlock≠some b->Z0 σ9 w7 b zs:=fun hm hne=>⟨(o9 _ fun e=>hne e.symm).trans hm.1,hm.2⟩;have le59:SLe σ5 σ9:=le7.more ⟨le9⟩;refine X4p hS9 (mk hm07 hx0) (mk hm47 hx4) (mk hm77 hx7) rfl hb0 hB4 hb04 (hl6.lift le59) (hc6.lift le59) hx9 hk Q5 fun cv' w' σ' hk' hr=>h _ w' σ' hk' hr)
set_option maxRecDepth 9999 in
set_option maxHeartbeats 1000000 in
theorem X7v {k:Q9} {n:Int} (hs:X3 w σ) (hh:H3 σ (l,room,cs) ds) (hk:k.length<=V5) (h0:0<=O3 room cs) (h1:room<=1048576)
 (h: ∀ds' w' σ',Stp w σ w' σ'->H3 σ' (l,room,(Wl l room cs k n).1) ds'->K (.tuple #[.agg ds'.toArray,I (Wl l room cs k n).2]) w'):Q0 P F.bH [.agg ds.toArray,S k,I n] w K:=Q1u (by
 have hcl:=Qf cs;have htn:=E0 cs;obtain ⟨lv,cv,rfl,hl,hc⟩:=H3.out hh;unfold Hi;simp only[Y5,X5,M5,L6];unfold Z8 X8 X2 U6 X1;refine Rc hs fun b0 w1 σ1 hb0 hk1 hm0=>?_;refine D2 hk1.sat fun b4 w2 σ2 hb4 hk2 hm4=>?_;have hS2:=hk1.trans hk2;have hB4:=H8 hb4 hk1;have hb04:b0≠b4:=by have:=hm0.lt;omega
 have hm02:=hm0.up hk2;have hl2:=hl.up hS2;have hh2:=O8 hh ⟨hS2.le⟩;unfold O3 at h0;unfold Wl at h
 have hbad:T7 l k=false->Q8 P T.a (.pointer (some ⟨b0,0,none⟩)) w2 fun t14 w=>
  U3 P T.a (.pointer (some ⟨b4,0,none⟩)) t14 w fun _u w=>
  Z9 P T.a (.pointer (some ⟨b4,0,none⟩)) w fun r0=>
  K (.tuple #[r0,(.int .i64 91)]) w:=fun ho=>by
  rw[ho] at h;simp only[if_pos] at h;exact Fx hS2 hm02 hm4 rfl hB4 hh2 fun w' σ' hk hr=>h _ w' σ' hk hr
 refine K7 ?_
 by_cases hnull:k=G1
 .rw[show decide (k=[110,117,108,108])=true from decide_eq_true hnull]
  (try simp only[F5,F8,Qa,D6,H4,R9,B5,B4,G6,Bool.not_true,Bool.not_false])
  exact hbad (by simp[T7,hnull])
 rw[show decide (k=[110,117,108,108])=false from decide_eq_false hnull]
 (try simp only[F5,F8,Qa,D6,H4,R9,B5,B4,G6,Bool.not_true,Bool.not_false])
 refine W5 ?_;refine Ys (i:=0) hm02 rfl ?_;refine Cc hk2.sat hl2 hk ?_;refine Ml ?_;cases hkm:E2 l k with
 | false=>
  (try simp only[F5,F8,Qa,D6,H4,R9,B5,B4,G6,Bool.not_true,Bool.not_false])
  exact hbad (by simp[T7,hkm])
 | true=>
  (try simp only[F5,F8,Qa,D6,H4,R9,B5,B4,G6,Bool.not_true,Bool.not_false])
  refine Kc k (Nat.le_trans hk L1) ?_
  have hr:right k=true:=by
   have:=hkm;simp only[E2,Bool.or_eq_true,Bool.and_eq_true,decide_eq_true_eq] at this
   rcases this with h1 | h1
   .exact absurd h1 hnull
   .exact h1.1
  have hdp:Ji k=(base k).2:=by unfold Ji;rw[if_pos hr]
  have hel:T7 l k=decide ((base k).2<=2):=by
   unfold T7;rw[hkm,decide_eq_false hnull,hdp];rfl
  refine Oj ?_
  by_cases hd2:(2:Int)<((base k).2:Int)
  .rw[decide_eq_true hd2]
   refine J3 ?_;exact hbad (by rw[hel,decide_eq_false_iff_not];omega)
  rw[decide_eq_false hd2];refine Z6 ?_;have ho:T7 l k=true:=by rw[hel,decide_eq_true_eq];omega
  rw[ho] at h;simp only[Bool.true_eq_false,if_false] at h;refine Z1 ?_
  by_cases hn0:n<0
  .rw[if_pos hn0] at h
   rw[decide_eq_true hn0];refine J3 ?_;exact Fx hS2 hm02 hm4 rfl hB4 hh2 fun w' σ' hk hr=>h _ w' σ' hk hr
  rw[if_neg hn0] at h;rw[decide_eq_false hn0];refine Z6 ?_;refine Oj ?_
  have hbad2: ∀{w3 σ3},Stp w2 σ2 w3 σ3->O3 room cs<=n->Q8 P T.a (.pointer (some ⟨b0,0,none⟩)) w3 fun t14 w=>
   U3 P T.a (.pointer (some ⟨b4,0,none⟩)) t14 w fun _u w=>
   Z9 P T.a (.pointer (some ⟨b4,0,none⟩)) w fun r0=>
   K (.tuple #[r0,(.int .i64 90)]) w:=fun {w3 σ3} hS hle=>by
   rw[if_pos hle] at h;exact Fx (hS2.trans hS) (hm02.up hS) (hm4.up hS) rfl hB4 (O8 hh2 ⟨hS.le⟩) fun w' σ' hk hr=>h _ w' σ' hk hr
  by_cases hbig:(1048576:Int)<n
  .rw[decide_eq_true hbig]
   (try simp only[F5,F8,Qa,D6,H4,R9,B5,B4,G6,Bool.not_true,Bool.not_false])
   exact hbad2 (Stp.refl hk2.sat) (by unfold O3;omega)
  rw[decide_eq_false hbig]
  (try simp only[F5,F8,Qa,D6,H4,R9,B5,B4,G6,Bool.not_true,Bool.not_false])
  refine Jx ⟨by omega,by omega⟩ ?_
  refine By hm02 rfl ?_;refine X4l hk2.sat hh2 (by unfold O3;exact h0) h1 fun w4 σ4 hk4=>?_
  rw[Gg]
  by_cases hg:O3 room cs<=n
  .rw[show decide (1+n>O3 room cs)=true from decide_eq_true Q5]
   refine J3 ?_;exact hbad2 hk4 hg
  rw[if_neg hg] at h;rw[show decide (1+n>O3 room cs)=false from decide_eq_false Q5]
  refine Z6 ?_;have hS4:=hS2.trans hk4;have hm04:=hm02.up hk4;have hm44:=hm4.up hk4;obtain ⟨m,rfl⟩:=Int.eq_ofNat_of_zero_le (Int.not_lt.1 hn0);rw[Int.toNat_natCast] at h;unfold O3 at hg;have hr38:=Q02 hr;refine Zm (by simp only[List.length_cons,List.length_nil];omega) ?_
  refine L4 (cells:= #[S (k++[91,93]), .slice none 0 0]) X4 ?_;refine D2 hk4.sat fun b7 w5 σ5 hb7 hk5 hm7=>?_;have hS5:=hS4.trans hk5;have hB7:=H8 hb7 hS4;refine My (ds:=[S (k++[91,93]), .slice none 0 0]) hm7 rfl rfl (by rw[List.all_toArray];rfl) fun w6 u6 hm76=>?_
  have hS6:=u6.stp hS5 hB7 hm7.1;have hb07:b0≠b7:=by have:=hm04.lt;omega
  have hb47:b4≠b7:=by have:=hm44.lt;omega
  have hm06:=(hm04.up hk5).upd u6 hb07;have hm46:=(hm44.up hk5).upd u6 hb47;have hc6:Sl 2 T1 σ5 cv cs:=hc.up hS5;have hl6:Sl 8 M0 σ5 lv l:=hl.up hS5
  refine V2 m (fun n w'=> ∃σ' x,Stp w σ w' σ'/\SLe σ5 σ'/\Z0 σ' w' b0 [lv,I room,cv]/\Z0 σ' w' b4 _/\Z0 σ' w' b7 [S (k++[91,93]),x]/\W2 w.heap.size T.f 4 N0 σ' w' x (List.replicate n (E8 k))/\x.ownBlock≠some b0/\x.ownBlock≠some b4/\x.ownBlock≠some b7)
   ⟨σ5, .slice none 0 0,hS6,SLe.refl _,hm06,hm46,hm76,W2.nil,by simp[Value.ownBlock],by simp[Value.ownBlock],by simp[Value.ownBlock]⟩ fun n w7 d hn hinv=>?_
  obtain ⟨σ7,x,hS7,le7,hm07,hm47,hm77,ha7,hx0,hx4,hx7⟩:=hinv;have hs7:=hS7.sat;refine Z1 ?_;refine Q4 (fun hcc=>?_) (fun hcc=>?_)
  .have hn':n<m:=by simpa using hcc
   have hrd: ∀{w':World} {K:Value->World->Prop},Hst w7 σ7 w' σ7->K x w'->Q8 P T.k (.pointer (some ((⟨b7,0,none⟩:Addr).add 1))) w' K:=fun hst hK=>Ys (hm77.up hst.stp) rfl hK;refine W1 hs7 ?_
   (repeat (apply J4;(· intros;(repeat (rename_i hx;subst hx));(repeat' (first | (with_reducible exact V1 rfl) | (with_reducible exact P4 (Stp.bel (by (repeat (first | exact Stp.refl (by (first | assumption | exact Stp.sat Q7 | exact Hst.sat Q7)) | assumption | refine Stp.trans ?_ (by first | assumption | exact Hst.stp Q7))))) rfl) | (with_reducible intro _) | (simp only[↓M2,M2,Mb,reduceIte]) | (with_reducible refine hrd au ?_) | (with_reducible show Q8 _ _ _ _ _;first | refine Y3 aS aL aR ?_ | refine Z2 aS aL aR ?_ | refine ld aS aL aR ?_) | (with_reducible show indexAddr _ _ _ _ _ _;refine Y9 aL au ?_) | (with_reducible show J7 _ _ _ _ _ _ _ _;refine Q6 aL ?_) | (with_reducible show Qr _ _ _ _ _ _;refine V4 aR ?_) | (with_reducible show pick _ _ _ _ _ _;refine C6 ?_) | (with_reducible show Q0 _ _ _ _ _;first | refine X4n au ?_) | (apply Xq;intro hh;(try simp only[hh,reduceIte,↓M2,M2,Mb,reduceIte]))));done)))
   refine Vw (w:=w7) (σ:=σ7) (Φ:=fun σ' v=>Sl 4 N0 σ' v [E8 k]) (fun t41 w hb e=>?_) ?_
   .subst e
    exact B7 (R:=N0) (sz:=4) hb.sat [_] [E8 k] rfl rfl (by simp[Value.cells]) rfl ⟨Q0c _,trivial⟩ fun v w2 σ2 hk2 hv2=>Sq hb hk2 hv2
   rintro t46 t47 t49 t50 w8 hb8 rfl rfl rfl ⟨σ8,hk8,s8⟩;refine X4W (w0:=w) (hS7.trans hb8.stp) (ha7.up hb8.stp) hk8.sat s8 (fun y ds hy=>hy) rfl (by simp;omega) (by simp;omega) fun x9 w9 hg9 hS9 ha9 hat9=>?_
   have hm08:=(hm07.up hb8.stp).turn hg9 fun e=>hx0 e.symm;have hm48:=(hm47.up hb8.stp).turn hg9 fun e=>hx4 e.symm;have hm78:=(hm77.up hb8.stp).turn hg9 fun e=>hx7 e.symm;have hsz:=hb8.stp.bel.size
   have hnew: ∀b,b<w7.heap.size->x.ownBlock≠some b->x9.ownBlock≠some b:=fun b hb hxb e=>by
    rcases hat9 with e2 | e2
    .exact hxb (e2▸e)
    .have:=e2 b e;omega
   have hsh:=Wk ha9;refine W5 ?_;refine Vh hm78 V0 hsh.1 hsh.2 fun w10 u10 hm710=>?_;refine H5 ?_;have hx97:=hnew b7 hm77.lt hx7;refine Y7 Q5 hn' ⟨σ7,x9,u10.stp hS9 hB7 hm78.1,le7,hm08.upd u10 hb07,hm48.upd u10 hb47,hm710,?_,hnew b0 hm07.lt hx0,hnew b4 hm47.lt hx4,hx97⟩;have:=ha9.kp (D:=fun j=>j=b7) (.of_upd u10 rfl) fun j hj e=>hx97 (e▸hj);rw[List.replicate_succ'];exact this
  .have hn': ¬n<m:=by simpa using hcc
   have hnm:n=m:=by omega
   subst hnm;obtain ⟨σ9,hS9,hx9,le9,o9⟩:=ha7.keep hS7;have mk: ∀{b:Nat} {zs:List Value},Z0 σ7 w7 b zs->x.ownBlock≠some b->Z0 σ9 w7 b zs:=fun hm hne=>⟨(o9 _ fun e=>hne e.symm).trans hm.1,hm.2⟩;have le59:SLe σ5 σ9:=le7.more ⟨le9⟩;refine X4p hS9 (mk hm07 hx0) (mk hm47 hx4) (mk hm77 hx7) rfl hb0 hB4 hb04 (hl6.lift le59) (hc6.lift le59) hx9 (Nat.le_trans (show (k++[91,93]).length<=40 by simp only[List.length_append,List.length_cons,List.length_nil];omega) L1) Q5 fun cv' w' σ' hk' hr=>h _ w' σ' hk' hr)
end Go.Proofs.Y
namespace Go.Emb
open Go.RowKit Go.Hm
variable {α : Type} {P : Program} {R : Q2 -> α -> List Value -> Prop} {B sz : Nat} {e : TypeId} {σ σ0 : Q2} {v u : Value} {xs : List α} {w w0 w' : World} {K : Value -> World -> Prop}
theorem X3d {t:TypeId} {b:Nat} {z:Value} [TS P t e] [TZ P e sz b z] (h:J6 B e sz R σ w v xs) {n:Nat} (p:n<xs.length) (i:K (.pointer (some (Ws sz v n))) w):indexAddr P t v (I n) w K:=by
 obtain ⟨a,c,rfl,m,o,j,f⟩:=h;obtain ⟨g,k,d,rfl,q⟩:=f Q5;rw[Ib Q5 Q5]
 simpa [Ws] using i
theorem J6.elQ (h:J6 B e sz R σ w v xs) {n:Nat} (k:n<xs.length): ∃cs,cs.length=sz/\R σ xs[n] cs/\ ∀j u,cs[j]? =some u->w.cell? ((Ws sz v n).add j)=some u:=by
 obtain ⟨a,c,rfl,q,r,m,i⟩:=h;obtain ⟨g,b,f,rfl,s,t,o,y,p⟩:=i Q5;have hh:n*sz+sz<=c*sz:=by rw[<-Nat.succ_mul];exact Nat.mul_le_mul_right _ Q5
 refine ⟨(f.toList.drop (b+n*sz)).take sz,by rw[List.length_take,List.length_drop,Array.length_toList];omega,p n _ (by simp[k]),fun j u d=>?_⟩
 rw[List.getElem?_take] at d
 split at d
 .rw[List.getElem?_drop] at d
  have e:Ws sz (.slice (some ⟨g,b,none⟩) xs.length c) n=(⟨g,b,none⟩:Addr).add (n*sz):=rfl;rw[e];unfold World.cell?;rw[I4,I4,Yv,Yv,Qt (Qt rfl _)];simp only[o]
  simpa using d
 .cases d
theorem Y02 {t:TypeId} {c:Nat} {z:Value} [tz:TZ P t 1 c z] {b i:Nat} {cs:List Value} {v:Value} (d:w.heap[b]? =some (.cells cs.toArray e (0,0))) (k:i<cs.length) (j:v.cells= #[v]) (g:v.oneCell'=true)
 (h: ∀w',Upd w b w'->w'.heap[b]? =some (.cells (cs.set i v).toArray e (0,0))->K undef w'):U3 P t (.pointer (some ((⟨b,0,none⟩:Addr).add i))) v w K:=by
 unfold U3;have a:(⟨b,0,none⟩:Addr).add i=⟨b,i,none⟩:=by unfold Addr.add;split<;>simp_all
 have:=run_storeCells_at P b i e [v] 0 cs.toArray w d (by simp;omega) (by simpa using g)
 simp only[Nat.add_zero] at this;obtain ⟨m,hh⟩:=Mg (cs:=(cs.set i v).toArray) d
 have f:(List.take i cs.toArray.toList++[v]++List.drop (i+[v].length) cs.toArray.toList).toArray=(cs.set i v).toArray:=by
  rw[<-X1N k];simp
 rw[f] at this;rw[Vn (w':=w.setRow b (cs.set i v).toArray) (by simp[Instr.storeAt,Instr.sureAddr,a,storeVar,D9 tz,j,this])]
 exact h _ m hh
theorem X4N {t:TypeId} {r n c:Nat} {z:Value} {x:α} [tz:TZ P t 1 r z] (V:Stp w0 σ0 w σ) (W:J6 w0.heap.size e sz R σ w v xs) (hn:n<xs.length) (hc:c<sz) (hu:u.cells= #[u]) (U:u.oneCell'=true) (hx: ∀cs,cs.length=sz->R σ xs[n] cs->R σ x (cs.set c u))
 (h: ∀w',Kpt (fun k=>v.ownBlock=some k) w w'->Stp w0 σ0 w' σ->J6 w0.heap.size e sz R σ w' v (xs.set n x)->K undef w'):U3 P t (.pointer (some ((Ws sz v n).add c))) u w K:=by
 obtain ⟨a,f,rfl,M,N,i,O⟩:=W;obtain ⟨g,d,m,rfl,H,C,J,q4,L⟩:=O Q5;have hh:n*sz+sz<=f*sz:=by rw[<-Nat.succ_mul];exact Nat.mul_le_mul_right _ Q5
 have hm:Z0 σ w g m.toList:=⟨C,e,by simpa using J⟩
 have X:=Array.length_toList (xs:=m)
 have Q:(Ws sz (.slice (some ⟨g,d,none⟩) xs.length f) n).add c=(⟨g,0,none⟩:Addr).add (d+n*sz+c):=by
  simp only[Ws,Q6G];unfold Addr.add
  split<;>split<;>simp_all<;>omega
 rw[Q];refine Y02 (e:=e) (by simpa using J) Q5 hu U fun w' D Y=>?_
 refine h w' (Kpt.of_upd D rfl) (D.stp V H C) ⟨_,f,by rw[List.length_set],by rw[List.length_set];exact M,N,fun b q=>⟨(i b q).1,(i b q).2.1,by rw[D.size];exact (i b q).2.2.1,(i b q).2.2.2⟩,fun _=>⟨g,d,_,rfl,H,C,Y,by simp;omega,fun j y p=>?_⟩⟩
 rw[List.toList_toArray];have o:j<xs.length:=by have:=(List.getElem?_eq_some_iff.1 p).1;simpa using this
 have Z:j*sz+sz<=f*sz:=by rw[<-Nat.succ_mul];exact Nat.mul_le_mul_right _ Q5
 rw[List.drop_set]
 by_cases E:j=n
 .subst E
  rw[List.getElem?_set_self o] at p;cases p;rw[if_neg Q5,List.take_set,show d+j*sz+c-(d+j*sz)=c by omega]
  exact hx _ (by rw[List.length_take,List.length_drop];omega) (L j _ (by simp[o]))
 .rw[List.getElem?_set_ne Q5] at p
  have:=L j y p
  rcases Nat.lt_or_gt_of_ne E with A | hgt
  .have s:j*sz+sz<=n*sz:=by rw[<-Nat.succ_mul];exact Nat.mul_le_mul_right _ A
   rw[if_neg Q5,List.take_set,List.set_eq_of_length_le (by rw[List.length_take];omega)]
   exact this
  .have s:n*sz+sz<=j*sz:=by rw[<-Nat.succ_mul];exact Nat.mul_le_mul_right _ hgt
   rw[if_pos Q5];exact this
end Go.Emb
namespace Go.Proofs.Y
open Go.Emb Go.RowKit Go.Kd Go.Hm
variable {w w' : World} {K : Value -> World -> Prop} {σ σ' : Q2} {ds : List Value} {room : Int} {cs : List Cel} {l : List Cla}
theorem X0m (f:J1 cs<=1048576) {j:Nat} (a:j<cs.length):(cs[j].vals.length:Int)<=1048576:=by
 have e:J1 cs=J1 (cs.take j)+J1 (cs.drop j):=by rw[<-Xw,List.take_append_drop]
 have b:J1 (cs.drop j)=(1+(cs[j].vals.length:Int))+J1 (cs.drop (j+1)):=by
  rw[List.drop_eq_getElem_cons a];simp only[J1,List.map_cons,List.sum_cons]
 have c:=E0 (cs.take j);have d:=E0 (cs.drop (j+1));omega
theorem X9y {d g:Nat} {p cv x:Value} {m:List Cel} {zs:List Value} {w0 w1:World} {σ0 σ1:Q2} (X:Stp w σ w0 σ0) (O:Stp w0 σ0 w1 σ1) (t:Z0 σ1 w1 d [p,I room,cv]) (Q:Z0 σ1 w1 g zs) (hz:zs.length=3) (H:d<w0.heap.size) (J:g<w0.heap.size) (L:w.heap.size<=d) (M:w.heap.size<=g) (s:d≠g) (hl:Sl 8 M0 σ1 p l) (U:J6 w0.heap.size T.o 2 T1 σ1 w1 x m)
 (h: ∀q w' σ',Stp w σ w' σ'->H3 σ' (l,room,m) [p,I room,q]->K (.tuple #[.agg [p,I room,q].toArray,I 0]) w'):
 U3 P T.g (.pointer (some ((⟨d,0,none⟩:Addr).add 2))) x w1 fun _u w=>
 Q8 P T.a (.pointer (some ⟨d,0,none⟩)) w fun V w=>
 U3 P T.a (.pointer (some ⟨g,0,none⟩)) V w fun _u w=>
 Z9 P T.a (.pointer (some ⟨g,0,none⟩)) w fun r0=>
 K (.tuple #[r0,(.int .i64 0)]) w:=by
 have A:x.cells= #[x]/\x.oneCell'=true:=by obtain ⟨a,c,rfl,_⟩:=U;exact ⟨rfl,rfl⟩
 refine Vh t V0 A.1 A.2 fun C W i=>?_;have r:J6 w0.heap.size T.o 2 T1 σ1 C x m:=U.kp (D:=fun j=>j=d) (.of_upd W rfl) fun j Z e=>by have:=(U.mem Z).1;omega
 have k:=Q.upd W (fun e=>s e.symm);have f:Stp w σ C σ1:=W.stp (X.trans O) L t.1;obtain ⟨E,s5,l5,f5,o5⟩:=r.freeze f.sat;have n: ∀j,j<w0.heap.size->E j=σ1 j:=fun j Z=>o5 j fun e=>by have:=(r.mem e.symm).1;omega
 have y:Z0 E C d [p,I room,x]:=⟨(n d H).trans i.1,i.2⟩;have z:Z0 E C g zs:=⟨(n g J).trans k.1,k.2⟩;have N:Stp w σ C E:=⟨f.bel,s5,fun b o e=>l5.le b o (f.le b o e),fun b Y=>(n b (Nat.lt_of_lt_of_le Y X.bel.size)).trans (f.old b Y)⟩;exact Fx N y z hz M ⟨p,x,rfl,hl.lift l5,f5⟩ fun w' σ' O hr=>h x w' σ' O hr
set_option maxHeartbeats 2000000 in
theorem X9v {r i:Int} {v:Val} (hs:X3 w σ) (hh:H3 σ (Q3 l,room,cs) ds) (wf:Wf l) (ok:Ok (Q3 l)) (hlen:(Q3 l).length<=1000) (good: ∀c∈cs,GoodC V7 (Q3 l) cs c) (hl1:J1 cs<=1048576) (hv:N0 σ v [I v.sort,I v.n,S v.s,I v.ref])
 (h: ∀ds' w' σ',Stp w σ w' σ'->H3 σ' (Q3 l,room,(F6 V7 (Q3 l) cs r i v).1) ds'->K (.tuple #[.agg ds'.toArray,I (F6 V7 (Q3 l) cs r i v).2]) w'):Q0 P F.ca [.agg ds.toArray,I r,I i, .agg [I v.sort,I v.n,S v.s,I v.ref].toArray] w K:=Q3J (by
 have hcl:=Qf cs;obtain ⟨lv,cv,rfl,hl,hc⟩:=H3.out hh;unfold Bj;simp only[Y5,X5,M5];unfold X7 X2;refine Rc hs fun b0 w1 σ1 hb0 hk1 hm0=>?_;refine Z7 hk1.sat fun q w2 σ2 hk2 hq=>?_;have hS2:=hk1.trans hk2;refine D2 hk2.sat fun b4 w3 σ3 hb4 hk3 hm4=>?_;have hS3:=hS2.trans hk3;have hB4:=H8 hb4 hS2;have hm02:=hm0.up hk2;have hb04:b0≠b4:=by have:=hm02.lt;omega
 have hm03:=hm02.up hk3;have hh3:=O8 hh ⟨hS3.le⟩;have hq3:=hq.up hk3;refine By hm03 rfl ?_;refine X1H hk3.sat hh3 fun w4 σ4 hk4=>?_;have hS4:=hS3.trans hk4;have hm04:=hm03.up hk4;have hm44:=hm4.up hk4;have hh4:=O8 hh3 ⟨hk4.le⟩;have hq4:=hq3.up hk4;unfold F6 at h;refine Mk ?_
 by_cases h0:S1 cs r i=0
 case neg=>
  rw[decide_eq_false h0];rw[if_pos h0] at h;refine J3 ?_;exact Fx hS4 hm04 hm44 rfl hB4 hh4 fun w' σ' hk hr=>h _ w' σ' hk hr
 rw[decide_eq_true h0];rw[if_neg (fun hn=>hn h0)] at h;refine Z6 ?_;obtain ⟨j,m,rfl,rfl,hj,hm⟩:=Dq h0;rw[L9 hj,Int.toNat_natCast] at h;have hc4:=hc.up hS4;obtain ⟨vv,p1,p2,p3⟩:=Sl.elO hc4 hj;have hgc:=good cs[j] (List.getElem_mem hj)
 have hif:elem cs[j].kind=[]->m<(U5 (Q3 l) cs[j].kind).length:=fun e=>by
  rcases hgc.is with h | h
  .exact absurd e h
  .rw[<-h.2];exact hm
 have hs4:=hk4.sat;have hr0: ∀{w':World} {K:Value->World->Prop},Hst w4 σ4 w' σ4->K (.agg [lv,I room,cv].toArray) w'->Q8 P T.a (.pointer (some ⟨b0,0,none⟩)) w' K:=fun hst hK=>By (hm04.up hst.stp) rfl hK;have hr1: ∀{w':World} {K:Value->World->Prop},Hst w4 σ4 w' σ4->K cv w'->Q8 P T.g (.pointer (some ((⟨b0,0,none⟩:Addr).add 2))) w' K:=fun hst hK=>Ys (hm04.up hst.stp) rfl hK;refine W1 hs4 ?_
 (repeat (apply J4;(· intros;(repeat (rename_i hx;subst hx));(repeat' (first | (with_reducible exact V1 rfl) | (with_reducible exact P4 (Stp.bel (by (repeat (first | exact Stp.refl (by (first | assumption | exact Stp.sat Q7 | exact Hst.sat Q7)) | assumption | refine Stp.trans ?_ (by first | assumption | exact Hst.stp Q7))))) rfl) | (with_reducible intro _) | (simp only[↓M2,M2,Mb,reduceIte]) | (with_reducible refine hr0 au ?_) | (with_reducible refine hr1 au ?_) | (with_reducible show Q8 _ _ _ _ _;first | refine Y3 aS aL aR ?_ | refine Z2 aS aL aR ?_ | refine ld aS aL aR ?_) | (with_reducible show indexAddr _ _ _ _ _ _;refine Y9 aL au ?_) | (with_reducible show J7 _ _ _ _ _ _ _ _;refine Q6 aL ?_) | (with_reducible show Qr _ _ _ _ _ _;refine V4 aR ?_) | (with_reducible show pick _ _ _ _ _ _;refine C6 ?_) | (with_reducible show Q0 _ _ _ _ _;first | refine X8K au au au au au au ?_) | (apply Xq;intro hh;(try simp only[hh,reduceIte,↓M2,M2,Mb,reduceIte]))));done)))
 (intros;(repeat (rename_i hx;subst hx)))
 rename_i w5 hb5;have hS5:=hS4.trans hb5.stp;refine X8H hb5.sat hh4 wf ok hlen hv.2.2.2.1 (X0g ok p3 m) fun wA σA hkA=>?_;have hk4A:=hb5.stp.trans hkA;have hSA:=hS4.trans hk4A;have hm0A:=hm04.up hk4A;have hm4A:=hm44.up hk4A;have hhA:=O8 hh4 ⟨hk4A.le⟩;have hqA:=hq4.up hk4A;have hsA:=hkA.sat;refine Ml ?_;cases hf:I7 V7 (Q3 l) cs v (Wg (Q3 l) cs[j].kind m) with
 | false=>
  rw[hf] at h;simp only[Bool.false_eq_true,if_false] at h;refine J3 ?_;exact Fx hSA hm0A hm4A rfl hB4 hhA fun w' σ' hk hr=>h _ w' σ' hk hr
 | true=>
  rw[hf] at h;simp only[if_true] at h;refine Z6 ?_;have hcA:=hc.up hSA;have hlA:=hl.up hSA;have hvl:=X0m hl1 hj;refine Cm (R:=T1) (e:=T.o) (Stp.refl hsA) L1 fun x1 wA1 hkA1 ha1 _=>?_;refine W5 ?_;refine Ys (hm0A.up hkA1) rfl ?_;refine Mj hkA1 ha1 (hcA.up hkA1) rfl (by simp;omega) (by simp;omega) fun x2 wB _ hkB ha2 _=>?_
  rw[List.nil_append] at ha2;have hsB:=hkB.sat;refine Cm (R:=N0) (e:=T.f) (Stp.refl hsB) L1 fun y1 wB1 hkB1 hy1 _=>?_;have hq2:=J6.of_acc (ha2.up hkB1);refine X3d hq2 hj ?_;obtain ⟨cs5,hl5,⟨vv5,rfl,p5,_⟩,hcell⟩:=hq2.elQ hj;refine W5 ?_;refine Yx (hcell 1 vv5 rfl) ?_;refine Mj hkB1 hy1 p5 rfl (by simp;omega) (by simp;omega) fun y2 wB2 _ hkB2 hy2 _=>?_
  rw[List.nil_append] at hy2;refine Z2 hkB2.sat ((hqA.up hkB).up hkB2) rfl ?_;refine Q6f (x:=v) hkB2 (J6.of_acc hy2) hm rfl (show N0 σA v _ from hv) (Rep.one (R:=N0) (σ:=σA) hv) fun p u w6 _ hb6 hy6=>?_
  obtain ⟨σ7,hk7,hs7,le7,_⟩:=hy6.keep hb6.stp;have hkA7:=hkB.trans hk7;have hq7:=J6.of_acc (ha2.up hk7);refine X3d hq7 hj ?_;refine W5 ?_;have hysh:y2.cells= #[y2]/\y2.oneCell'=true:=Wk hy2
  refine X4N (x:=(⟨cs[j].kind,cs[j].vals.set m v⟩:Cel)) hkA7 hq7 hj L1 hysh.1 hysh.2 (fun es _ hes=>by
   obtain ⟨v0,rfl,_,hkl⟩:=hes;exact ⟨y2,rfl,hs7,hkl⟩) fun w8 _ hk8 hq8=>?_
  refine W5 ?_;have hsv:T3 cs j m v=cs.set j ⟨cs[j].kind,cs[j].vals.set m v⟩:=by unfold T3;rw[L9 hj,Int.toNat_natCast,Int.toNat_natCast]
  rw[hsv] at h;exact X9y hSA hk8 (hm0A.up hk8) (hm4A.up hk8) rfl hm0A.lt hm4A.lt hb0 hB4 hb04 (hlA.up hk8) hq8 fun cv' w' σ' hk hr=>h _ w' σ' hk hr)
theorem Q9I {k a:Nat} {c b:Value} {zs:List Value} {w1:World} {σ1:Q2} (n:Stp w σ w1 σ1) (f:Z0 σ1 w1 k [c,I room,b]) (i:Z0 σ1 w1 a zs) (o:zs.length=3) (d:w.heap.size<=a) (m:H3 σ1 (l,room,cs) [c,I room,b]) (h: ∀w' σ',Stp w σ w' σ'->H3 σ' (l,room,cs) [c,I room,b]->K (.agg [c,I room,b].toArray) w'):
 Q8 P T.a (.pointer (some ⟨k,0,none⟩)) w1 fun j w=>
 U3 P T.a (.pointer (some ⟨a,0,none⟩)) j w fun _u w=>
 Z9 P T.a (.pointer (some ⟨a,0,none⟩)) w fun p=>
 K p w:=
 By f rfl (Qi i n d o rfl (Rep.one m) fun q e g=>W9 g rfl (h q σ1 e.stp m))
set_option maxHeartbeats 2000000 in
theorem X9s {n:Int} (hs:X3 w σ) (hh:H3 σ (l,room,cs) ds) (a6:J1 cs<=1048576) (hn:Yg n)
 (h: ∀ag w' σ',Stp w σ w' σ'->H3 σ' (l,room,Q0k cs n) ag->K (.agg ag.toArray) w'):Q0 P F.c7 [.agg ds.toArray,I n] w K:=Q3G (by
 have b2:=Qf cs;obtain ⟨lv,cv,rfl,hl,hc⟩:=H3.out hh;unfold Bg;simp only[L6];unfold Z8 X7 J5 U7 X8 X6 X2 X1;refine Rc hs fun M w1 σ1 a4 Z ak=>?_;refine D2 Z.sat fun b4 w2 σ2 a5 aa J=>?_;have a0:=Z.trans aa;have V:=H8 a5 Z;have aj:M≠b4:=by have:=ak.lt;omega
 have al:=ak.up aa;have a9:=aa.sat;refine Xt (fun z w'=>z=I (max n 0)/\w'=w2) ?_ ?_
 .refine Z1 ?_
  by_cases e:n<0
  .rw[decide_eq_true e]
   exact J3 ⟨by rw[show max n 0=0 by omega],rfl⟩
  .rw[decide_eq_false e]
   exact Z6 ⟨by rw[show max n 0=n by omega],rfl⟩
 rintro z d0 w3 ⟨rfl,rfl⟩;unfold Q0k at h;obtain ⟨m,am⟩:=Int.eq_ofNat_of_zero_le (show 0<=max n 0 by omega)
 rw[am,Int.toNat_natCast] at h;rw[am];have b6:(m:Int)<=9223372036854775807:=by have:=hn.2;omega
 refine V2 (min m cs.length) (fun i w'=> ∃σ',Stp w3 σ2 w' σ'/\(cs.take i).any (fun c=>c.vals.any (Qe m))=false) ⟨σ2,Stp.refl a9,rfl⟩ fun i w4 d hi y=>?_;obtain ⟨σ4,q,ac⟩:=y;have a:=al.up q;have s:=a0.trans q;have H:=hc.up s;refine Z1 ?_
 have Y: ¬i<min m cs.length->(cs.take m).any (fun c=>c.vals.any (Qe m))=false/\(m<cs.length->i=m):=fun an=>by
  by_cases a7:m<=cs.length
  .have:i=m:=by omega
   subst this;exact ⟨ac,fun _=>rfl⟩
  .have e:cs.take m=cs.take i:=by rw[List.take_of_length_le Q5,List.take_of_length_le Q5]
   rw[e];exact ⟨ac,fun h=>by omega⟩
 have N: ¬i<min m cs.length->jn (α:=Unit) w4 (fun af w=>
  fieldAddr P T.a (.pointer (some ⟨M,0,none⟩)) 2 w fun bc w=>
  Q8 P T.g bc w fun bd w=>
  J7 P .len [T.g] T.e [false] [bd] w fun be w=>
  Y6 P .lss T.e (.tmp 52) (.tmp 55) (I (m:Int)) be w fun bf w=>
  X0 bf (
   buildSlice P T.g 0 [] w fun bg w=>
   fieldAddr P T.a (.pointer (some ⟨M,0,none⟩)) 2 w fun bh w=>
   Q8 P T.g bh w fun bi w=>
   G7 P T.g bi none (some (I (m:Int))) none w fun bj w=>
   J7 P .append [T.g,T.g] T.g [false,false] [bg,bj] w fun bk w=>
   fieldAddr P T.a (.pointer (some ⟨M,0,none⟩)) 2 w fun bl w=>
   U3 P T.g bl bk w fun _u w=>
   af () w) (
   af () w)) fun ci d_ w=>
  Q8 P T.a (.pointer (some ⟨M,0,none⟩)) w fun bm w=>
  U3 P T.a (.pointer (some ⟨b4,0,none⟩)) bm w fun _u w=>
  Z9 P T.a (.pointer (some ⟨b4,0,none⟩)) w fun r0=>
  K r0 w:=fun an=>by
  obtain ⟨t,_⟩:=Y an;rw[if_neg (by rw[t];simp)] at h
  refine L2 ?_;refine W5 ?_;refine Ys a rfl ?_;refine Q6 H ?_;refine Z1 ?_
  by_cases a7:m<cs.length
  .rw[decide_eq_true (show (m:Int)<(cs.length:Int) by omega)]
   refine J3 ?_;have ba:=q.sat;refine Cm (R:=T1) (e:=T.o) (Stp.refl ba) L1 fun x1 w5 f a3 _=>?_;refine W5 ?_;refine Ys (a.up f) rfl ?_;refine Bu (H.up f) none (some (I m)) 0 m (.inl ⟨rfl,rfl⟩) (.inr rfl) (Nat.zero_le _) Q5 fun v3 ar=>?_;rw[List.drop_zero,Nat.sub_zero] at ar;refine Mj f a3 ar rfl (by simp;omega) (by simp;omega) fun x2 w6 _ g E _=>?_
   rw[List.nil_append] at E;have aq:=Wk E;have O:=a.up g;refine W5 ?_;refine Vh O V0 aq.1 aq.2 fun w7 u7 Q=>?_;intro d;have ai:J6 w4.heap.size T.o 2 T1 σ4 w7 x2 (cs.take m):=(J6.of_acc E).kp (D:=fun j=>j=M) (.of_upd u7 rfl) fun j hj e=>by have:=(E.mem j hj).1;have:=a.lt;omega
   have U:=((J.up q).up g).upd u7 (fun e=>aj e.symm);have C:Stp w σ w7 σ4:=u7.stp (s.trans g) a4 O.1;obtain ⟨σ8,s8,l8,f8,o8⟩:=ai.freeze C.sat;have ab: ∀j,j<w4.heap.size->σ8 j=σ4 j:=fun j hj=>o8 j fun e=>by have:=(ai.mem e.symm).1;omega
   have a2:Stp w σ w7 σ8:=⟨C.bel,s8,fun b o e=>l8.le b o (C.le b o e),fun b hb=>(ab b (Nat.lt_of_lt_of_le hb s.bel.size)).trans (C.old b hb)⟩;exact Q9I a2 (cs:=cs.take m) (l:=l) (show Z0 σ8 w7 M [lv,I room,x2] from ⟨(ab M a.lt).trans Q.1,Q.2⟩) ⟨(ab b4 (J.up q).lt).trans U.1,U.2⟩ rfl V ⟨lv,x2,rfl,(hl.up s).lift l8,f8⟩ fun w' σ' hk hr=>h _ w' σ' hk hr
  .rw[decide_eq_false (show¬(m:Int)<(cs.length:Int) by omega)]
   refine Z6 ?_;intro d;rw[List.take_of_length_le Q5] at h;exact Q9I s a (J.up q) rfl V (O8 hh ⟨s.le⟩) fun w' σ' hk hr=>h _ w' σ' hk hr
 by_cases b3:i<m
 case neg=>
  rw[decide_eq_false (show¬(i:Int)<(m:Int) by omega)]
  (try simp only[F5,F8,Qa,D6,H4,R9,B5,B4,G6,Bool.not_true,Bool.not_false])
  exact N Q5
 rw[decide_eq_true (show (i:Int)<(m:Int) by omega)]
 (try simp only[F5,F8,Qa,D6,H4,R9,B5,B4,G6,Bool.not_true,Bool.not_false])
 refine W5 ?_;refine Ys a rfl ?_;refine Q6 H ?_;refine Z1 ?_
 by_cases v:i<cs.length
 case neg=>
  rw[decide_eq_false (show¬(i:Int)<(cs.length:Int) by omega)]
  refine Z6 ?_;exact N Q5
 rw[decide_eq_true (show (i:Int)<(cs.length:Int) by omega)]
 refine J3 ?_;have b9:=X0m a6 v;refine V2 cs[i].vals.length (fun k w'=> ∃σ',Stp w4 σ4 w' σ'/\(cs[i].vals.take k).any (Qe m)=false) ⟨σ4,Stp.refl q.sat,rfl⟩ fun k w5 d hk y=>?_;obtain ⟨σ5,f,B⟩:=y;have A:=a.up f;have W:=H.up f;have a1:=s.trans f;have L:=f.sat;obtain ⟨vv,p1,p2,p3⟩:=Sl.elO W v;refine W5 ?_;refine Ys A rfl ?_;refine Y9 W v ?_;refine W5 ?_;refine ld L p1 rfl ?_;refine Q6 p2 ?_;refine Z1 ?_;refine Q4 (fun X=>?_) (fun X=>?_)
 .have r:k<cs[i].vals.length:=by simpa using X
  obtain ⟨p4,r4⟩:=Sl.elV p2 r;refine W5 ?_;refine Ys A rfl ?_;refine Y9 W v ?_;refine W5 ?_;refine ld L p1 rfl ?_;refine Y9 p2 r ?_;refine Z2 L p4 rfl ?_;refine Z3 L (by rfl) rfl (Rep.one r4) fun q6 w6 σ6 g ao=>?_
  have ah:=a1.trans g;have a8:=D3 (p:=Qe m) r;refine W5 ?_;refine ld (i:=0) g.sat ao rfl ?_;refine C8 ?_;have u:Qe m cs[i].vals[k]=false-> ∃σ',Stp w4 σ4 w6 σ'/\(cs[i].vals.take (k+1)).any (Qe m)=false:=fun e=>⟨σ6,f.trans g,by rw[a8,B,e];rfl⟩
  by_cases e4:cs[i].vals[k].sort=4
  .rw[decide_eq_true e4]
   (try simp only[F5,F8,Qa,D6,H4,R9,B5,B4,G6,Bool.not_true,Bool.not_false])
   refine W5 ?_;refine ld g.sat ao rfl ?_;refine Xd ?_
   by_cases eg:(m:Int)<=cs[i].vals[k].ref
   .rw[decide_eq_true eg]
    refine J3 ?_
    have t:(cs.take m).any (fun c=>c.vals.any (Qe m))=true:=by
     refine List.any_eq_true.2 ⟨cs[i],List.mem_take_iff_getElem.2 ⟨i,by omega,rfl⟩,I6 r (by simp[Qe,e4,eg])⟩
    rw[if_pos t] at h;exact Q9I ah (A.up g) ((J.up q).up (f.trans g)) rfl V (O8 hh ⟨ah.le⟩) fun w' σ' hk hr=>h _ w' σ' hk hr
   .rw[decide_eq_false eg]
    refine Z6 ?_;refine H5 ?_;exact Y7 Q5 r (u (by simp[Qe,eg]))
  .rw[decide_eq_false e4]
   (try simp only[F5,F8,Qa,D6,H4,R9,B5,B4,G6,Bool.not_true,Bool.not_false])
   refine H5 ?_;exact Y7 Q5 r (u (by simp[Qe,e4]))
 .have r: ¬k<cs[i].vals.length:=by simpa using X
  rw[C9 r] at B;refine H5 ?_;refine Y7 Q5 Q5 ⟨σ5,q.trans f,?_⟩;rw[D3 v,ac,B];rfl)
variable {hp tv : Value}
theorem HeapIs.mono {B B':Nat} {D:Nat->Prop} (h:HeapIs B D σ w hp tv room cs) (hB:B'<=B):HeapIs B' D σ w hp tv room cs:=by
 obtain ⟨b,n,E,j,g,m,⟨vs,k,c,f,hD⟩,hE,a⟩:=h.ex;exact ⟨b,n,E,j,Nat.le_trans hB g,m,⟨vs,k.mono hB,⟨c.1,fun i d e=>(c.2 i d e).mono hB⟩,f,hD⟩,hE,a⟩
theorem X84 {a:Addr} {n:Int} (j:X3 w σ)
 (g:(n<0\/1048576<n)->K (.tuple #[.pointer none,I 90]) w)
 (h:0<=n->n<=1048576-> ∀b w' σ' D,Stp w σ w' σ'->HeapIs w.heap.size D σ' w' (.pointer (some ⟨b,0,none⟩)) (.pointer (some a)) n []->K (.tuple #[.pointer (some ⟨b,0,none⟩),I 0]) w'):Q0 P F.db [.pointer (some a),I n] w K:=X2O (by
 unfold Q5U X8 X2;refine Z1 ?_
 by_cases e:n<0
 .rw[decide_eq_true e]
  (try simp only[F5,F8,Qa,D6,H4,R9,B5,B4,G6,Bool.not_true,Bool.not_false])
  exact g (.inl e)
 rw[decide_eq_false e]
 (try simp only[F5,F8,Qa,D6,H4,R9,B5,B4,G6,Bool.not_true,Bool.not_false])
 refine Oj ?_
 by_cases c:(1048576:Int)<n
 .rw[decide_eq_true c]
  exact J3 (g (.inr c))
 rw[decide_eq_false c];refine Z6 ?_;refine L4 (cells:= #[.pointer (some a),I n,I 0, .slice none 0 0]) X4 ?_;refine Rc (cs:=[.pointer (some a),I n,I 0, .slice none 0 0]) j fun b w1 σ1 i d f=>?_;exact h Q5 Q5 b w1 σ1 _ d ⟨b,_,_,rfl,i,f,RowsIs.nil,id,fun k=>Iff.rfl⟩)
theorem X60:P.underlying T.aC=some (.int .u16):=by kernel_rfl
set_option maxHeartbeats 1000000 in
theorem X1G {r:Int} (hs:X3 w σ) (hg:Glb σ) (hr:0<=r)
 (h: ∀b a D ds w' σ',Stp w σ w' σ'->HeapIs w.heap.size D σ' w' (.pointer (some ⟨b,0,none⟩)) (.pointer (some a)) (r % 301) []->H3 σ' (Q3 W3,r % 301,[]) ds->Tab σ' (.pointer (some a)) (Q3 W3)->Ok (Q3 W3)->K (.tuple #[.pointer (some ⟨b,0,none⟩), .agg ds.toArray]) w'):Q0 P F.aJ [.int .u16 r] w K:=Q1b (by
 have hr0:=Int.emod_nonneg r (show (301:Int)≠0 by decide)
 have hr1:=Int.emod_lt_of_pos r (show (0:Int)<301 by decide)
 unfold En;simp only[M9];unfold X8 X2;refine D2 hs fun b3 w1 σ1 hb3 hk1 hm1=>?_;refine Q80 hk1.sat fun v w2 σ2 hk2 hv2=>?_;refine X91 hk2.sat (hg.lift ⟨(hk1.trans hk2).le⟩) hv2 L1 X6R (fun i e _ _ hn=>by rw[Q5f] at hn;cases hn) fun tv w3 σ3 _ hk3 ht ok _=>?_
 obtain ⟨a,_,_,_,rfl,_⟩:=ht.ex;have hS3:=(hk1.trans hk2).trans hk3;refine Z5 (vs:=[_,_,_]) rfl ?_;refine Z5 (vs:=[_,_,_]) rfl ?_;refine Z5 (vs:=[_,_,_]) rfl ?_;refine Q80 hk3.sat fun v4 w4 σ4 hk4 hv4=>?_;refine X7y hk4.sat hv4 L1 (fun i e _ _ hn=>by rw[Q5f] at hn;cases hn) fun lv w5 σ5 _ hk5 hlv ok5 _=>?_
 have hk35:=hk4.trans hk5;have hS5:=hS3.trans hk35;refine Z5 (vs:=[_,_,_]) rfl ?_;refine Z5 (vs:=[_,_,_]) rfl ?_;refine Z5 (vs:=[_,_,_]) rfl ?_;refine X0q ⟨by decide,hr⟩ ?_
 rw[Wp X60 Oi];have ew:IntKind.i64.wrap (r % 301)=r % 301:=Qh (n:=r % 301) Q5 Q5;rw[ew];simp only[decide_true,Bool.not_true,Bool.false_eq_true,reduceIte,↓M1,M1,Mb,reduceIte];refine X8W ?_;simp only[decide_true,Bool.not_true,Bool.false_eq_true,reduceIte,↓M1,M1,Mb,reduceIte];refine X84 (n:=r % 301) hk5.sat (fun hx=>absurd hx Q5) fun _ _ b6 w6 σ6 D hk6 h6=>?_;refine Z5 (vs:=[_,_]) rfl ?_;refine Z5 (vs:=[_,_]) rfl ?_;simp only[decide_true,Bool.not_true,↓M1,M1,Mb,reduceIte];refine L4 (cells:= #[lv,I (r % 301), .slice none 0 0]) (by obtain ⟨a5,c5,hle,_⟩:=id hlv;generalize (Q3 W3).length=n5 at hle;subst hle;kernel_rfl) ?_
 have hm6:=hm1.up ((hk2.trans hk3).trans (hk35.trans hk6));have hrh:H3 σ6 (Q3 W3,r % 301,[]) [lv,I (r % 301), .slice none 0 0]:=⟨_,_,rfl,hlv.up hk6,Sl.nil⟩;refine My (ds:=[lv,I (r % 301), .slice none 0 0]) hm6 rfl rfl (by rw[List.all_toArray];exact List.all_eq_true.2 (Rep.one hrh)) fun w7 u7 hm7=>?_
 refine W9 hm7 rfl ?_;have hS6:=hS5.trans hk6;have hB3:=H8 hb3 (Stp.refl hs);have hS7:=u7.stp hS6 hB3 hm6.1
 have hb35:b3<w5.heap.size:=by
  have:=(hm1.up ((hk2.trans hk3).trans hk35)).lt;exact this
 exact h b6 a D _ w7 σ6 hS7 ((h6.nx (Nxt.of_upd hk6.sat u7 hm6.1) fun k hk e=>by have:=(h6.mem hk).1;omega).mono hS5.bel.size) hrh (ht.lift ⟨(hk35.trans hk6).le⟩) ok)
theorem X9t {x:ActH} {ds:List Value} (g:X3 w σ) (d:Pr σ x ds) (h: ∀w',Below w.heap.size w w'->K (.bool (decide (x.s.length<=100)&&decide (x.v.s.length<=5000))) w'):Q0 P F.c8 [.agg ds.toArray] w K:=Q3H (by
 have j:=d;obtain ⟨rfl,k,m⟩:=d;unfold Bh Z8 X7 X6 X2;refine Z7 g fun q w1 σ1 a c=>?_;refine W5 ?_;refine ld (i:=1) a.sat c rfl ?_;refine Bw X4 ?_;refine Q8C ?_;cases e:decide ((x.s.length:Int)<=100) with
 | false=>
  have b:decide (x.s.length<=100)=false:=by rw[<-e];congr 1;simp only[eq_iff_iff];omega
  rw[b] at h
  (try simp only[↓M1,M1,Mb,reduceIte])
  exact h _ a.bel
 | true=>
  have b:decide (x.s.length<=100)=true:=by rw[<-e];congr 1;simp only[eq_iff_iff];omega
  rw[b] at h
  (try simp only[F5,F8,Qa,D6,H4,R9,B5,B4,G6,Bool.not_true,Bool.not_false])
  (repeat refine Hd.h ?_)
  refine ld (i:=6) a.sat c rfl ?_
  (repeat refine Hd.h ?_)
  refine Bw X4 ?_
  (repeat refine Hd.h ?_)
  refine Q8C ?_
  (repeat refine Hd.h ?_)
  have f:decide ((x.v.s.length:Int)<=5000)=decide (x.v.s.length<=5000):=by congr 1;simp only[eq_iff_iff];omega
  rw[f];exact h _ a.bel)
set_option maxRecDepth 9999 in
theorem X8I {v u:Value} (hs:X3 w σ) (hv:Sl 2 T1 σ v cs) (hu:Sl 2 T1 σ u cs) (h: ∀w',Below w.heap.size w w'->K (.bool true) w'):Q0 P F.bR [v,u] w K:=Q2v (by
 have hcl:=hv.max;unfold Se;simp only[Y5,X5,M5,Ya];unfold X7 U7 Yb X6 X1;refine Q6 hv ?_;refine Q6 hu ?_;refine Mk ?_;simp only[decide_true,Bool.not_true,↓M1,M1,Mb,reduceIte];refine V2 cs.length (fun i w'=>Stp w σ w' σ) (Stp.refl hs) fun i w1 d hi hk1=>?_;have hv1:=hv.up hk1;have hu1:=hu.up hk1;refine Q6 hv1 ?_;refine Z1 ?_;refine Q4 (fun hc=>?_) (fun hc=>?_)
 .have hi':i<cs.length:=by simpa using hc
  obtain ⟨vv,p1,p2,b2⟩:=Sl.elO hv1 hi';obtain ⟨uu,q1,q2,_⟩:=Sl.elO hu1 hi';have hmx:=p2.max;refine W1 hk1.sat ?_
  (repeat (apply J4;(· intros;(repeat (rename_i hx;subst hx));(repeat' (first | (with_reducible exact V1 rfl) | (with_reducible exact P4 (Stp.bel (by (repeat (first | exact Stp.refl (by (first | assumption | exact Stp.sat Q7 | exact Hst.sat Q7)) | assumption | refine Stp.trans ?_ (by first | assumption | exact Hst.stp Q7))))) rfl) | (with_reducible intro _) | (simp only[↓M2,M2,Mb,reduceIte]) | (with_reducible refine Zn ?_) | (with_reducible show Q8 _ _ _ _ _;first | refine Y3 aS aL aR ?_ | refine Z2 aS aL aR ?_ | refine ld aS aL aR ?_) | (with_reducible show indexAddr _ _ _ _ _ _;refine Y9 aL au ?_) | (with_reducible show J7 _ _ _ _ _ _ _ _;refine Q6 aL ?_) | (with_reducible show Qr _ _ _ _ _ _;refine V4 aR ?_) | (with_reducible show pick _ _ _ _ _ _;refine C6 ?_) | (apply Xq;intro hh;(try simp only[hh,reduceIte,↓M2,M2,Mb,reduceIte]))));done)))
  simp only[decide_true,Bool.not_true,Bool.false_eq_true,reduceIte]
  (repeat (apply J4;(· intros;(repeat (rename_i hx;subst hx));(repeat' (first | (with_reducible exact V1 rfl) | (with_reducible exact P4 (Stp.bel (by (repeat (first | exact Stp.refl (by (first | assumption | exact Stp.sat Q7 | exact Hst.sat Q7)) | assumption | refine Stp.trans ?_ (by first | assumption | exact Hst.stp Q7))))) rfl) | (with_reducible intro _) | (simp only[↓M2,M2,Mb,reduceIte]) | (with_reducible refine Zn ?_) | (with_reducible show Q8 _ _ _ _ _;first | refine Y3 aS aL aR ?_ | refine Z2 aS aL aR ?_ | refine ld aS aL aR ?_) | (with_reducible show indexAddr _ _ _ _ _ _;refine Y9 aL au ?_) | (with_reducible show J7 _ _ _ _ _ _ _ _;refine Q6 aL ?_) | (with_reducible show Qr _ _ _ _ _ _;refine V4 aR ?_) | (with_reducible show pick _ _ _ _ _ _;refine C6 ?_) | (apply Xq;intro hh;(try simp only[hh,reduceIte,↓M2,M2,Mb,reduceIte]))));done)))
  (intros;(repeat (rename_i hx;subst hx));(try simp only[↓M2,M2,Mb,reduceIte]))
  rename_i w2 hb2
  (repeat refine Hd.h ?_)
  simp only[decide_true,Bool.not_true,↓M1,M1,Mb,reduceIte];refine V2 cs[i].vals.length (fun j w'=>Stp w1 σ w' σ) hb2.stp fun j w3 d hj hk3=>?_;have hv3:=hv1.up hk3;have hu3:=hu1.up hk3;refine Y9 hv3 hi' ?_;refine W5 ?_;refine ld hk3.sat (p1.up hk3) rfl ?_;refine Q6 (p2.up hk3) ?_;refine Z1 ?_;refine Q4 (fun hc=>?_) (fun hc=>?_)
  .have hj':j<cs[i].vals.length:=by simpa using hc
   obtain ⟨p3,r3⟩:=Sl.elV (p2.up hk3) hj';obtain ⟨q3,t3⟩:=Sl.elV (q2.up hk3) hj';have p13:=p1.up hk3;have q13:=q1.up hk3;have p23:=p2.up hk3;have q23:=q2.up hk3;refine W1 hk3.sat ?_
   (repeat refine J4 Uc ?_)
   (intros;(repeat (rename_i hx;subst hx));(try simp only[↓M2,M2,Mb,reduceIte]))
   rename_i w4 hb4;refine X7P ?_;simp only[decide_true,Bool.not_true,↓M1,M1,Mb,reduceIte];exact Y7 Q5 hj' (hk3.trans hb4.stp)
  .exact Y7 hcl hi' (hk1.trans hk3)
 .exact h _ hk1.bel)
theorem Q78:V7 []=true:=by decide+kernel
theorem Y03:P.underlying T.a4=some (.pointer T.q):=by kernel_rfl
theorem X0b (d:Nat) (o:Option Addr):(Op.equalIn (d+1) T.a4 (.pointer o) (.pointer none)).run P w= .ok o.isNone w:=by
 cases o<;>simp[Op.equalIn,run_underlying Y03]
theorem X4L {a:Addr} {b c:Operand} (h:K (.bool false) w):Y6 P .eql T.a4 b c (.pointer (some a)) (.pointer none) w K:=by
 have e:(Op.equal T.a4 (.pointer (some a)) (.pointer none)).run P w= .ok false w:=X0b 9999 _;unfold Y6;rw[Y4 (v:= .bool false) (w':=w) (by simp[eqGuard,Go.binOp,e])]
 exact h
theorem Q6U {a:Nat} {f g:World} {d:Q2} {x:List Cla×Int×List Cel} {c zs:List Value} (n:Stp w σ f d) (hB:w.heap.size<=a) (o:Z0 d f a zs) (u:Upd f a g) (e:Z0 d g a c):
 ∃b,Stp w σ g b/\U1 b ⟨a,0,none⟩ c/\SLe d b/\ ∀k,k≠a->b k=d k:=by
 obtain ⟨b,h,i,j,m⟩:=e.keep (u.stp n hB o.1) hB;exact ⟨b,h,i,⟨j⟩,m⟩
variable {w0 w1 : World} {σ0 : Q2} {cs' : List Cel} {B b : Nat} {D : Nat -> Prop} {V v : Value}
theorem X5U {ok:Q9->Bool} {r i:Int} {v:Val}:F6 ok l (F6 ok l cs r i v).1 r i v=F6 ok l cs r i v:=by
 by_cases f:S1 cs r i=0
 case neg=>
  have e:F6 ok l cs r i v=(cs,S1 cs r i):=by unfold F6;rw[if_pos f]
  rw[e];exact e
 cases k:I7 ok l cs v (Wg l (Od cs r).kind i.toNat) with
 | false=>
  have e:F6 ok l cs r i v=(cs,91):=by unfold F6;rw[if_neg (fun h=>h f),k];rfl
  rw[e];exact e
 | true=>
  have e:F6 ok l cs r i v=(T3 cs r i v,0):=by unfold F6;rw[if_neg (fun h=>h f),k];rfl
  rw[e];obtain ⟨j,m,rfl,rfl,a,y⟩:=Dq f;have u:O9 cs (j:Int)=true:=M3.2 ⟨j,rfl,a⟩;have d:T3 cs j m v=cs.set j ⟨cs[j].kind,cs[j].vals.set m v⟩:=by unfold T3;rw[L9 a,Int.toNat_natCast,Int.toNat_natCast]
  have t:(T3 cs j m v).length=cs.length:=by rw[d];simp
  have c:j<(T3 cs j m v).length:=by rw[t];exact a
  have g:Od (T3 cs j m v) j=⟨cs[j].kind,cs[j].vals.set m v⟩:=by
   rw[L9 c];simp only[d,List.getElem_set_self]
  have p:O9 (T3 cs j m v) (j:Int)=true:=M3.2 ⟨j,rfl,c⟩
  have q:S1 (T3 cs j m v) j m=0:=by
   unfold S1;rw[p,g];simp only[if_true,List.length_set];rw[if_pos ⟨by omega,by omega⟩]
  have o:I7 ok l (T3 cs j m v) v (Wg l (Od (T3 cs j m v) j).kind (m:Int).toNat)=true:=by
   rw[g];rw[L9 a] at k;exact Ft (fun _ _=>Q66 u) k
  have s:T3 (T3 cs j m v) j m v=T3 cs j m v:=by
   unfold T3 at g⊢;rw[g];simp only[Int.toNat_natCast,List.set_set];rw[L9 a]
  unfold F6;rw[if_neg (fun h=>h q),o,s];rfl
theorem RowsIs.down {d:Value} (h:RowsIs B D σ' w d cs) (c:SLe σ σ'):RowsIs B D σ w d cs:=by
 obtain ⟨vs,j,a,g,hD⟩:=h.ex;exact ⟨vs,j.down c fun _ _ h=>h,⟨a.1,fun i e f=>(a.2 i e f).down c fun _ _ h=>h⟩,g,hD⟩
theorem HeapIs.down (h:HeapIs B D σ' w hp tv room cs) (c:SLe σ σ'):HeapIs B D σ w hp tv room cs:=by
 obtain ⟨b,f,E,rfl,hB,a,d,hE,hD⟩:=h.ex;refine ⟨b,f,E,rfl,hB,⟨?_,a.2⟩,d.down c,hE,hD⟩;cases e:σ b with
 | none=>rfl
 | some o=>have:=c.le b o e;rw[a.1] at this;cases this
structure SetT (B : Nat) (D : Nat -> Prop) (σ : Q2) (hp tv : Value) (room : Int) (cs' : List Cel) (b : Nat) (ds : List Value) (w w' : World) : Prop where
  kp : Kpt (fun j => j = b \/ D j) w w'
  var : (b < w.heap.size -> w'.heap[b]? = w.heap[b]?) \/ ∃ e, w'.heap[b]? = some (.cells ds.toArray e (0, 0))
  hp : (∀ j, D j -> j < w.heap.size -> w'.heap[j]? = w.heap[j]?) \/ HeapIs B D σ w' hp tv room cs'
structure SetB (B : Nat) (D : Nat -> Prop) (hp tv : Value) (room : Int) (cs cs' : List Cel) (w0 : World) (σ0 : Q2) (w1 : World) (σ : Q2) (b n : Nat) (w' : World) : Prop where
  hst : Hst w0 σ0 w' σ
  kp : Kpt (fun j => j = b \/ D j) w1 w'
  var : ∃ zs, zs.length = n /\ Z0 σ w' b zs
  hp : HeapIs B D σ w' hp tv room cs \/ HeapIs B D σ w' hp tv room cs'
theorem SetB.hs {n:Nat} (h:SetB B D hp tv room cs cs' w0 σ0 w1 σ b n w):Hst w0 σ0 w σ:=h.hst
theorem SetT.of_below (h:Below w.heap.size w w'):SetT B D σ hp tv room cs' b ds w w':=⟨.of_below h, .inl fun a=>h.block b a, .inl fun j _ c=>h.block j c⟩
theorem HeapIs.same (h:HeapIs B D σ w hp tv room cs) (k:Kpt (fun j=>j=b\/D j) w w') (g:X3 w' σ) (c: ¬D b) (d: ∀j,D j->j<w.heap.size->w'.heap[j]? =w.heap[j]?):HeapIs B D σ w' hp tv room cs:=
 h.nx (F:=fun j=>j=b) ⟨⟨k.os,k.tape,k.output,k.size,fun j a f=>by
  by_cases e:D j
  .exact d j e a
  .exact k.block j a fun h=>h.elim f e⟩,SLe.refl _,fun _ _=>rfl,g⟩ fun j a e=>c (e▸a)
theorem SetB.step {n:Nat} (i:w0.heap.size<=b) (hB:w0.heap.size<=B) (d: ¬D b) (m:ds.length=n) (h:SetB B D hp tv room cs cs' w0 σ0 w1 σ b n w) (k:SetT B D σ hp tv room cs' b ds w w'):SetB B D hp tv room cs cs' w0 σ0 w1 σ b n w':=by
 obtain ⟨zs,g,c⟩:=h.var
 have f: ∀j,D j->w0.heap.size<=j/\σ j=none:=fun j hj=>by
  rcases h.hp with h | h
  .exact ⟨Nat.le_trans hB (h.mem hj).1,(h.mem hj).2.2⟩
  .exact ⟨Nat.le_trans hB (h.mem hj).1,(h.mem hj).2.2⟩
 have a:Stp w0 σ0 w' σ:=h.hst.stp.kp k.kp fun j hj=>by
  rcases hj with rfl | hj
  .exact ⟨i,c.1⟩
  .exact f j hj
 refine ⟨⟨a⟩,h.kp.trans k.kp,?_,?_⟩
 .rcases k.var with e | e
  .exact ⟨zs,g,c.1,by rw[e c.lt];exact c.2⟩
  .exact ⟨ds,m,c.1,e⟩
 .rcases k.hp with e | e
  .rcases h.hp with h3 | h3
   .exact .inl (h3.same k.kp a.sat d e)
   .exact .inr (h3.same k.kp a.sat d e)
  .exact .inr e
theorem X8i {n:Nat} {A:(World->World->Prop)->(World->Prop)->Prop} (cs':List Cel) (ds:List Value) {zs:List Value} (a:Stp w0 σ0 w σ) (f:w0.heap.size<=b) (hB:w0.heap.size<=B) (c: ¬D b) (j:Z0 σ w b zs) (i:zs.length=n) (g:ds.length=n) (hh:HeapIs B D σ w hp tv room cs)
 (h:A (SetT B D σ hp tv room cs' b ds) (SetB B D hp tv room cs cs' w0 σ0 w σ b n)):dr w A:=
 Q0m _ _ ⟨⟨a.trans (Stp.of_below a.sat (Below.refl _ _).drew)⟩, .of_below (Below.refl _ _).drew,⟨zs,i,j⟩, .inl (hh.up (Stp.of_below a.sat (Below.refl _ _).drew))⟩ (fun _ _ d e=>d.step f hB c g e) h
theorem Q99 (h:V=v):dk (SetT B D σ hp tv room cs' b ds) (fun v _=>V=v) w v w:=⟨.of_below (Below.refl _ _),h⟩
theorem X6V (a:Below w.heap.size w w') (h:V=v):dk (SetT B D σ hp tv room cs' b ds) (fun v _=>V=v) w v w':=⟨.of_below a,h⟩
theorem X5i {n:Nat} {t:TypeId} {c:Nat} {z:Value} [tz:TZ P t n c z] {a:(List Value->Value->World->Prop)->Prop} {φ:Value->World->Prop} (r:ds.length=n) (m: ∀u∈ds,u.oneCell'=true) (E: ∀v w,φ v w-> .agg ds.toArray=v)
 (A:a (fun _ _ w=>Z0 σ w b ds)) (i:σ b=none) (d: ¬D b):Gr (SetT B D σ hp tv room cs' b ds) (fun G=> ∀x w,SetB B D hp tv room cs cs' w0 σ0 w1 σ b n w->φ x w->U3 P t (.pointer (some ⟨b,0,none⟩)) x w (dk (SetT B D σ hp tv room cs' b ds) (G [x]) w)) a:=by
 refine Q6Y _ (fun xs v w w' h k=>?_) (fun x w q C=>?_) A
 .rcases k.var with e | e
  .exact ⟨i,by rw[e h.lt];exact h.2⟩
  .exact ⟨i,e⟩
 .have:=E x w C
  subst this;obtain ⟨zs,o,p⟩:=q.var;exact My p o r (by rw[List.all_toArray];exact List.all_eq_true.2 m) fun w' g f=>⟨⟨.of_upd g (.inl rfl), .inr f.2, .inl fun j s y=>g.block j fun e=>d (e▸s)⟩,f⟩
theorem X6Z {n:Nat} {x:Val} {r i:Int} {a:(Value->World->Prop)->Prop} {O Q R:Value->World->Prop} (J:Glb σ) (L:Tab σ tv l) (ok:Ok l) (q: ∀c∈cs,GoodC V7 l cs c) (f: ∀c∈(F6 V7 l cs r i x).1,GoodC V7 l (F6 V7 l cs r i x).1 c) (M:N0 σ x [I x.sort,I x.n,S x.s,I x.ref]) (t: ¬D b) (hσ:σ b=none)
 (X: ∀v w,O v w->I r=v) (Y: ∀v w,Q v w->I i=v) (Z: ∀v w,R v w->Value.agg [I x.sort,I x.n,S x.s,I x.ref].toArray=v)
 (hr:a (fun v w=>I (F6 V7 l cs r i x).2=v/\X3 w σ/\HeapIs B D σ w hp tv room (F6 V7 l cs r i x).1)):
 U8 (SetT B D σ hp tv room (F6 V7 l cs r i x).1 b ds) (fun G=> ∀C E H w,SetB B D hp tv room cs (F6 V7 l cs r i x).1 w0 σ0 w1 σ b n w->O C w->Q E w->R H w->Q0 P F.b8 [hp,C,E,H] w (dk (SetT B D σ hp tv room (F6 V7 l cs r i x).1 b ds) G w)) a:=by
 refine B9 _ (fun v w w' h k=>?_) (fun C E H w A U e2 W=>?_) hr
 .obtain ⟨e,hs,h4⟩:=h
  have m:X3 w' σ:=Kpt.sat hs k.kp fun j y=>y.elim (fun e=>e▸hσ) fun y=>(h4.mem y).2.2
  rcases k.hp with e2 | e2
  .exact ⟨e,m,h4.same k.kp m t e2⟩
  .exact ⟨e,m,e2⟩
 .have:=X _ _ U
  have:=Y _ _ e2;have:=Z _ _ W
  subst_vars
  have p: ∀{d z},Nxt D w σ d z->HeapIs B D z d hp tv room (F6 V7 l cs r i x).1->SetT B D σ hp tv room (F6 V7 l cs r i x).1 b ds w d/\I (F6 V7 l cs r i x).2=I (F6 V7 l cs r i x).2/\X3 d σ/\HeapIs B D σ d hp tv room (F6 V7 l cs r i x).1:=fun {d z} N h4=>by
   have g:=h4.down N.le;have u:b<w.heap.size:=by obtain ⟨zs,_,hm⟩:=A.var;exact hm.lt
   exact ⟨⟨N.kp.mono fun _ _ y=> .inr y, .inl fun _=>N.kp.block b u t, .inr g⟩,rfl,fun k o e=>N.sat k o (N.le.le k o e),g⟩
  rcases A.hp with h4 | h4
  .exact X68 A.hst.sat J h4 L ok q M fun d z N g=>p N g
  .have hi:=X5U (ok:=V7) (l:=l) (cs:=cs) (r:=r) (i:=i) (v:=x)
   refine X68 A.hst.sat J h4 L ok f M fun d z N g=>?_;rw[hi] at g⊢;exact p N g
theorem Nk {B d:Nat} {D i:Nat->Prop} {m c:World} {b:Q2} {h g:List Cel} {a:List Value} {G:Bool->Prop} {f:Bool} (hG:G f) (N:Nxt D w σ m b) (s:HeapIs B i b m hp tv room h) (n: ∀j,i j->D j\/w.heap.size<=j) (p: ¬i d) (t:w.heap.size<=d)
 (z:Kpt (fun j=>j=d) m c) (q:X3 c b) (v:Z0 b c d a) (o:a.length=3) (y:H3 b (Q3 l,room,g) a)
 (hh: ∀a f w' σ' D',G f->Nxt D w σ w' σ'->HeapIs B D' σ' w' hp tv room h->(∀j,D' j->D j\/w.heap.size<=j)->H3 σ' (Q3 l,room,g) a->K (.tuple #[.agg a.toArray, .bool f]) w'):
 Z9 P T.a (.pointer (some ⟨d,0,none⟩)) c fun A=>K (.tuple #[A, .bool f]) c:=by
 refine W9 v o ?_;have r:Nxt (fun j=>j=d) m b c b:=⟨z,SLe.refl _,fun _ _=>rfl,q⟩;exact hh a f c b i hG (N.chain r fun j C e=>by omega) (s.nx r fun k u e=>p (e▸u)) n y
set_option maxRecDepth 9999 in
set_option maxHeartbeats 2000000 in
theorem X9S {B:Nat} {D:Nat->Prop} {x:ActH} {xs:List Value} {cr:List Cel} (hs:X3 w σ) (hg:Glb σ) (hB:B<=w.heap.size) (h:HeapIs B D σ w hp tv room cs) (hr:H3 σ (Q3 l,room,cr) ds) (ht:Tab σ tv (Q3 l)) (wf:Wf l) (ok:Ok (Q3 l)) (hlen:(Q3 l).length<=1000)
 (good:GoodH V7 (Q3 l) room cs) (goodr:GoodH V7 (Q3 l) room cr) (h1:room<=1048576) (hx:Pr σ x xs) (hD0: ∀k,D k->B<=k)
 (hh: ∀ds' bb w' σ' D',(cr=cs->bb=true)->Nxt D w σ w' σ'->HeapIs B D' σ' w' hp tv room (P3 V7 (Q3 l) room cs x)->(∀j,D' j->D j\/w.heap.size<=j)->H3 σ' (Q3 l,room,P3 V7 (Q3 l) room cr x) ds'->K (.tuple #[.agg ds'.toArray, .bool bb]) w'):Q0 P F.be [hp, .agg ds.toArray, .agg xs.toArray] w K:=Q4C (by
 have hx0:=hx;have hr0:=hr;obtain ⟨lv,cv,rfl,hl,hc⟩:=H3.out hr;obtain ⟨rfl,⟨b1,b2,b3,b4⟩,hv⟩:=hx;have hcl:=Qf cs;have hlf:=good.left;unfold O3 at hlf;have hclr:=Qf cr;have hlr:=goodr.left;unfold O3 at hlr;unfold Fj;simp only[Y5,X5,M5,Ya,L6,M9];unfold X7 V6 Yb X6 X2 X1;refine Z7 hs fun q4 w1 σ1 hk1 hq4=>?_;refine Z7 hk1.sat fun q5 w2 σ2 hk2 hq5=>?_;have hS2:=hk1.trans hk2;refine D2 hk2.sat fun b6 w3 σ3 hb6 hk3 hm6=>?_;have hS3:=hS2.trans hk3;have hB6:=H8 hb6 hS2;have hq43:=(hq4.up hk2).up hk3;have hq53:=hq5.up hk3;have h3:=h.up hS3;have hr3:=O8 hr0 ⟨hS3.le⟩;have ht3:=ht.lift ⟨hS3.le⟩;have hg3:=hg.lift ⟨hS3.le⟩;refine W5 ?_;refine ld (i:=0) hk3.sat hq53 rfl ?_;refine C8 ?_;have hDl: ∀k,D k->k<w.heap.size:=fun k hk=>(h.mem hk).2.1;have htk:J1 cs<=1048576:=by omega
 have htr:J1 cr<=1048576:=by omega
 by_cases e0:x.kind=0
 .rw[decide_eq_true e0]
  have ea:P3 V7 (Q3 l) room cs x=(Uq (Q3 l) room cs x.s).1:=by unfold P3;rw[if_pos e0]
  have er:P3 V7 (Q3 l) room cr x=(Uq (Q3 l) room cr x.s).1:=by unfold P3;rw[if_pos e0]
  rw[ea,er] at hh;refine J3 ?_;refine Z2 hk3.sat hq43 rfl ?_;refine W5 ?_;refine ld (i:=1) hk3.sat hq53 rfl ?_;refine X5L hk3.sat hr3 ok hlen b2 goodr.left h1 fun ds' w4 σ4 hk4 hr4=>?_;refine Z5 (vs:=[_,_]) rfl ?_;refine Z5 (vs:=[_,_]) rfl ?_;have hS4:=hS3.trans hk4;refine D2 hk4.sat fun b8 w5 σ5 hb8 hk5 hm8=>?_;have hS5:=hS4.trans hk5;have hB8:=H8 hb8 hS4;have hr5:=O8 hr4 ⟨hk5.le⟩;obtain ⟨lv',cv',hde,_,_⟩:=H3.out hr4;subst hde;refine My (ds:=[lv',I room,cv']) hm8 rfl rfl (by rw[List.all_toArray];exact List.all_eq_true.2 (Rep.one hr5)) fun w6 u6 hm86=>?_
  obtain ⟨σ7,hS7,hq8,l57,o7⟩:=Q6U (x:=(Q3 l,room,(Uq (Q3 l) room cr x.s).1)) hS5 hB8 hm8 u6 hm86;have l37:SLe σ3 σ7:=(SLe.more ⟨hk4.le⟩ ⟨hk5.le⟩).more l57;have hb68:b6≠b8:=by have:=(hm6.up hk4).lt;omega
  have hm66:=((hm6.up hk4).up hk5).upd u6 hb68;have hm67:Z0 σ7 w6 b6 _:=⟨(o7 b6 hb68).trans hm66.1,hm66.2⟩;have hq57:=hq53.lift l37;have hq47:=hq43.lift l37;refine W5 ?_;refine ld (i:=1) hS7.sat hq57 rfl ?_;refine Q8R hS7.sat (Nat.le_trans hB hS7.bel.size) (h.up hS7) (ht.lift ⟨hS7.le⟩) ok b2 good.left h1 fun w8 σ8 D8 N8 h8 hD8=>?_;refine Z5 (vs:=[_,_]) rfl ?_;refine Z5 (vs:=[_,_]) rfl ?_;have N:=(Nxt.of_stp (D:=D) hS7).chain N8 fun k _ e=>e;have hm68:=hm67.nx N8 fun e=>by have:=hDl _ e;omega
  have hne8: ¬D8 b6:=fun e=>by
   have:=hm67.lt
   rcases hD8 _ e with e | e
   .have:=hDl _ e;omega
   .omega
  have hD8': ∀j,D8 j->D j\/w.heap.size<=j:=fun j hj=>(hD8 j hj).imp id fun e=>Nat.le_trans hS7.bel.size e;have hq48:=hq47.lift N8.le;have hq88:=hq8.lift N8.le;have hc8:Sl 2 T1 σ8 cv cr:=hc.lift N.le;have hr8:=O8 hr5 (l57.more N8.le);have hsame:cr=cs->(Uq (Q3 l) room cr x.s).2=(Uq (Q3 l) room cs x.s).2:=fun h=>by rw[h]
  generalize (Uq (Q3 l) room cs x.s).2=e at*;generalize (Uq (Q3 l) room cr x.s).2=f at*;refine Q9d (w0:=Q0g w8) (σ0:=fun _=>none) (n:=3) [lv',I room,cv'] (Ug N8.sat) (Nat.zero_le _) hm68 rfl rfl ?_;unfold atM
  by_cases hfe:f=e
  case neg=>
   have hz0:decide (f=e)=false:=decide_eq_false hfe
   (repeat (apply J4;(· intros;(have hzz:=VarB.hs Q7);(repeat (rename_i hx;subst hx));(try simp only[hz0,decide_true,Bool.not_true,Bool.not_false,Bool.false_eq_true,Bool.true_eq_false,reduceIte,↓M2,M2,Mb,reduceIte]);(repeat' (first | (with_reducible exact T6 rfl) | (with_reducible exact Vi (Stp.bel (by (repeat (first | exact Stp.refl (by (first | assumption | exact Stp.sat Q7 | exact Hst.sat Q7)) | assumption | refine Stp.trans ?_ (by first | assumption | exact Hst.stp Q7))))) rfl) | (with_reducible intro _) | (simp only[↓M2,M2,Mb,reduceIte]) | (with_reducible show Q8 _ _ _ _ _;first | refine Y3 aS aL aR ?_ | refine Z2 aS aL aR ?_ | refine ld aS aL aR ?_) | (with_reducible show indexAddr _ _ _ _ _ _;refine Y9 aL au ?_) | (with_reducible show J7 _ _ _ _ _ _ _ _;refine Q6 aL ?_) | (with_reducible show Qr _ _ _ _ _ _;refine V4 aR ?_) | (with_reducible show pick _ _ _ _ _ _;refine C6 ?_) | (apply Nx;intro hh;(try simp only[hh,reduceIte,↓M2,M2,Mb,reduceIte]))));done)))
   refine Wr (φ:=fun v _=>Value.agg [lv',I room,cv'].toArray=v) rfl (Rep.one hr5) (fun v w h=>h) ?_ hm68.1;intros;rename_i hm9
   (repeat (rename_i hx;subst hx))
   rename_i w9 hb9;exact Nk (G:=fun b=>cr=cs->b=true) (fun h=>absurd (hsame h) hfe) N h8 hD8' hne8 hB6 hb9.kp hb9.hst.sat hm9 rfl hr8 hh
  subst hfe
  by_cases e1:f=0
  .subst e1
   simp only[reduceIte];have hz0:decide True=true:=decide_true _
   (repeat (apply J4;(· intros;(have hzz:=VarB.hs Q7);(repeat (rename_i hx;subst hx));(try simp only[hz0,decide_true,Bool.not_true,Bool.not_false,Bool.false_eq_true,Bool.true_eq_false,reduceIte,↓M2,M2,Mb,reduceIte]);(repeat' (first | (with_reducible exact T6 rfl) | (with_reducible exact Vi (Stp.bel (by (repeat (first | exact Stp.refl (by (first | assumption | exact Stp.sat Q7 | exact Hst.sat Q7)) | assumption | refine Stp.trans ?_ (by first | assumption | exact Hst.stp Q7))))) rfl) | (with_reducible intro _) | (simp only[↓M2,M2,Mb,reduceIte]) | (with_reducible show Q8 _ _ _ _ _;first | refine Y3 aS aL aR ?_ | refine Z2 aS aL aR ?_ | refine ld aS aL aR ?_) | (with_reducible show indexAddr _ _ _ _ _ _;refine Y9 aL au ?_) | (with_reducible show J7 _ _ _ _ _ _ _ _;refine Q6 aL ?_) | (with_reducible show Qr _ _ _ _ _ _;refine V4 aR ?_) | (with_reducible show pick _ _ _ _ _ _;refine C6 ?_) | (apply Nx;intro hh;(try simp only[hh,reduceIte,↓M2,M2,Mb,reduceIte]))));done)))
   refine Wr (φ:=fun v _=>Value.agg [lv',I room,cv'].toArray=v) rfl (Rep.one hr5) (fun v w h=>h) ?_ hm68.1;intros;rename_i hm9
   (repeat (rename_i hx;subst hx))
   rename_i w9 hb9;exact Nk (G:=fun b=>cr=cs->b=true) (fun h=>by rw[h];exact decide_eq_true rfl) N h8 hD8' hne8 hB6 hb9.kp hb9.hst.sat hm9 rfl hr8 hh
  .simp only[if_neg e1]
   have hz0:decide (f=0)=false:=decide_eq_false e1
   (repeat (apply J4;(· intros;(have hzz:=VarB.hs Q7);(repeat (rename_i hx;subst hx));(try simp only[hz0,decide_true,Bool.not_true,Bool.not_false,Bool.false_eq_true,Bool.true_eq_false,reduceIte,↓M2,M2,Mb,reduceIte]);(repeat' (first | (with_reducible exact T6 rfl) | (with_reducible exact Vi (Stp.bel (by (repeat (first | exact Stp.refl (by (first | assumption | exact Stp.sat Q7 | exact Hst.sat Q7)) | assumption | refine Stp.trans ?_ (by first | assumption | exact Hst.stp Q7))))) rfl) | (with_reducible intro _) | (simp only[↓M2,M2,Mb,reduceIte]) | (with_reducible show Q8 _ _ _ _ _;first | refine Y3 aS aL aR ?_ | refine Z2 aS aL aR ?_ | refine ld aS aL aR ?_) | (with_reducible show indexAddr _ _ _ _ _ _;refine Y9 aL au ?_) | (with_reducible show J7 _ _ _ _ _ _ _ _;refine Q6 aL ?_) | (with_reducible show Qr _ _ _ _ _ _;refine V4 aR ?_) | (with_reducible show pick _ _ _ _ _ _;refine C6 ?_) | (apply Nx;intro hh;(try simp only[hh,reduceIte,↓M2,M2,Mb,reduceIte]))));done)))
   refine Wr (φ:=fun v _=>Value.agg [lv',I room,cv'].toArray=v) rfl (Rep.one hr5) (fun v w h=>h) ?_ hm68.1;intros;rename_i hm9
   (repeat (rename_i hx;subst hx))
   rename_i w9 hb9;exact Nk (G:=fun b=>cr=cs->b=true) (fun _=>rfl) N h8 hD8' hne8 hB6 hb9.kp hb9.hst.sat hm9 rfl hr8 hh
 rw[decide_eq_false e0];refine Z6 ?_;refine C8 ?_
 by_cases e1k:x.kind=1
 .rw[decide_eq_true e1k]
  have ea:P3 V7 (Q3 l) room cs x=(Wl (Q3 l) room cs x.s x.n).1:=by unfold P3;rw[if_neg e0,if_pos e1k]
  have er:P3 V7 (Q3 l) room cr x=(Wl (Q3 l) room cr x.s x.n).1:=by unfold P3;rw[if_neg e0,if_pos e1k]
  rw[ea,er] at hh;refine J3 ?_;refine Z2 hk3.sat hq43 rfl ?_;refine W5 ?_;refine ld (i:=1) hk3.sat hq53 rfl ?_;refine W5 ?_;refine ld (i:=2) hk3.sat hq53 rfl ?_;refine X7v hk3.sat hr3 b2 goodr.left h1 fun ds' w4 σ4 hk4 hr4=>?_;refine Z5 (vs:=[_,_]) rfl ?_;refine Z5 (vs:=[_,_]) rfl ?_;have hS4:=hS3.trans hk4;refine D2 hk4.sat fun b8 w5 σ5 hb8 hk5 hm8=>?_;have hS5:=hS4.trans hk5;have hB8:=H8 hb8 hS4;have hr5:=O8 hr4 ⟨hk5.le⟩;obtain ⟨lv',cv',hde,_,_⟩:=H3.out hr4;subst hde;refine My (ds:=[lv',I room,cv']) hm8 rfl rfl (by rw[List.all_toArray];exact List.all_eq_true.2 (Rep.one hr5)) fun w6 u6 hm86=>?_
  obtain ⟨σ7,hS7,hq8,l57,o7⟩:=Q6U (x:=(Q3 l,room,(Wl (Q3 l) room cr x.s x.n).1)) hS5 hB8 hm8 u6 hm86;have l37:SLe σ3 σ7:=(SLe.more ⟨hk4.le⟩ ⟨hk5.le⟩).more l57;have hb68:b6≠b8:=by have:=(hm6.up hk4).lt;omega
  have hm66:=((hm6.up hk4).up hk5).upd u6 hb68;have hm67:Z0 σ7 w6 b6 _:=⟨(o7 b6 hb68).trans hm66.1,hm66.2⟩;have hq57:=hq53.lift l37;have hq47:=hq43.lift l37;refine W5 ?_;refine ld (i:=1) hS7.sat hq57 rfl ?_;refine W5 ?_;refine ld (i:=2) hS7.sat hq57 rfl ?_;refine X6y hS7.sat (Nat.le_trans hB hS7.bel.size) (h.up hS7) (ht.lift ⟨hS7.le⟩) b2 good.left h1 fun w8 σ8 D8 N8 h8 hD8=>?_;refine Z5 (vs:=[_,_]) rfl ?_;refine Z5 (vs:=[_,_]) rfl ?_;have N:=(Nxt.of_stp (D:=D) hS7).chain N8 fun k _ e=>e;have hm68:=hm67.nx N8 fun e=>by have:=hDl _ e;omega
  have hne8: ¬D8 b6:=fun e=>by
   have:=hm67.lt
   rcases hD8 _ e with e | e
   .have:=hDl _ e;omega
   .omega
  have hD8': ∀j,D8 j->D j\/w.heap.size<=j:=fun j hj=>(hD8 j hj).imp id fun e=>Nat.le_trans hS7.bel.size e;have hq48:=hq47.lift N8.le;have hq88:=hq8.lift N8.le;have hc8:Sl 2 T1 σ8 cv cr:=hc.lift N.le;have hr8:=O8 hr5 (l57.more N8.le);have hsame:cr=cs->(Wl (Q3 l) room cr x.s x.n).2=(Wl (Q3 l) room cs x.s x.n).2:=fun h=>by rw[h]
  generalize (Wl (Q3 l) room cs x.s x.n).2=e at*;generalize (Wl (Q3 l) room cr x.s x.n).2=f at*;refine Q9d (w0:=Q0g w8) (σ0:=fun _=>none) (n:=3) [lv',I room,cv'] (Ug N8.sat) (Nat.zero_le _) hm68 rfl rfl ?_;unfold atM
  by_cases hfe:f=e
  case neg=>
   have hz0:decide (f=e)=false:=decide_eq_false hfe
   (repeat (apply J4;(· intros;(have hzz:=VarB.hs Q7);(repeat (rename_i hx;subst hx));(try simp only[hz0,decide_true,Bool.not_true,Bool.not_false,Bool.false_eq_true,Bool.true_eq_false,reduceIte,↓M2,M2,Mb,reduceIte]);(repeat' (first | (with_reducible exact T6 rfl) | (with_reducible exact Vi (Stp.bel (by (repeat (first | exact Stp.refl (by (first | assumption | exact Stp.sat Q7 | exact Hst.sat Q7)) | assumption | refine Stp.trans ?_ (by first | assumption | exact Hst.stp Q7))))) rfl) | (with_reducible intro _) | (simp only[↓M2,M2,Mb,reduceIte]) | (with_reducible show Q8 _ _ _ _ _;first | refine Y3 aS aL aR ?_ | refine Z2 aS aL aR ?_ | refine ld aS aL aR ?_) | (with_reducible show indexAddr _ _ _ _ _ _;refine Y9 aL au ?_) | (with_reducible show J7 _ _ _ _ _ _ _ _;refine Q6 aL ?_) | (with_reducible show Qr _ _ _ _ _ _;refine V4 aR ?_) | (with_reducible show pick _ _ _ _ _ _;refine C6 ?_) | (apply Nx;intro hh;(try simp only[hh,reduceIte,↓M2,M2,Mb,reduceIte]))));done)))
   refine Wr (φ:=fun v _=>Value.agg [lv',I room,cv'].toArray=v) rfl (Rep.one hr5) (fun v w h=>h) ?_ hm68.1;intros;rename_i hm9
   (repeat (rename_i hx;subst hx))
   rename_i w9 hb9;exact Nk (G:=fun b=>cr=cs->b=true) (fun h=>absurd (hsame h) hfe) N h8 hD8' hne8 hB6 hb9.kp hb9.hst.sat hm9 rfl hr8 hh
  subst hfe
  by_cases e1:f=0
  .subst e1
   simp only[reduceIte];have hz0:decide True=true:=decide_true _
   (repeat (apply J4;(· intros;(have hzz:=VarB.hs Q7);(repeat (rename_i hx;subst hx));(try simp only[hz0,decide_true,Bool.not_true,Bool.not_false,Bool.false_eq_true,Bool.true_eq_false,reduceIte,↓M2,M2,Mb,reduceIte]);(repeat' (first | (with_reducible exact T6 rfl) | (with_reducible exact Vi (Stp.bel (by (repeat (first | exact Stp.refl (by (first | assumption | exact Stp.sat Q7 | exact Hst.sat Q7)) | assumption | refine Stp.trans ?_ (by first | assumption | exact Hst.stp Q7))))) rfl) | (with_reducible intro _) | (simp only[↓M2,M2,Mb,reduceIte]) | (with_reducible show Q8 _ _ _ _ _;first | refine Y3 aS aL aR ?_ | refine Z2 aS aL aR ?_ | refine ld aS aL aR ?_) | (with_reducible show indexAddr _ _ _ _ _ _;refine Y9 aL au ?_) | (with_reducible show J7 _ _ _ _ _ _ _ _;refine Q6 aL ?_) | (with_reducible show Qr _ _ _ _ _ _;refine V4 aR ?_) | (with_reducible show pick _ _ _ _ _ _;refine C6 ?_) | (apply Nx;intro hh;(try simp only[hh,reduceIte,↓M2,M2,Mb,reduceIte]))));done)))
   refine Wr (φ:=fun v _=>Value.agg [lv',I room,cv'].toArray=v) rfl (Rep.one hr5) (fun v w h=>h) ?_ hm68.1;intros;rename_i hm9
   (repeat (rename_i hx;subst hx))
   rename_i w9 hb9;exact Nk (G:=fun b=>cr=cs->b=true) (fun h=>by rw[h];exact decide_eq_true rfl) N h8 hD8' hne8 hB6 hb9.kp hb9.hst.sat hm9 rfl hr8 hh
  .simp only[if_neg e1]
   have hz0:decide (f=0)=false:=decide_eq_false e1
   (repeat (apply J4;(· intros;(have hzz:=VarB.hs Q7);(repeat (rename_i hx;subst hx));(try simp only[hz0,decide_true,Bool.not_true,Bool.not_false,Bool.false_eq_true,Bool.true_eq_false,reduceIte,↓M2,M2,Mb,reduceIte]);(repeat' (first | (with_reducible exact T6 rfl) | (with_reducible exact Vi (Stp.bel (by (repeat (first | exact Stp.refl (by (first | assumption | exact Stp.sat Q7 | exact Hst.sat Q7)) | assumption | refine Stp.trans ?_ (by first | assumption | exact Hst.stp Q7))))) rfl) | (with_reducible intro _) | (simp only[↓M2,M2,Mb,reduceIte]) | (with_reducible show Q8 _ _ _ _ _;first | refine Y3 aS aL aR ?_ | refine Z2 aS aL aR ?_ | refine ld aS aL aR ?_) | (with_reducible show indexAddr _ _ _ _ _ _;refine Y9 aL au ?_) | (with_reducible show J7 _ _ _ _ _ _ _ _;refine Q6 aL ?_) | (with_reducible show Qr _ _ _ _ _ _;refine V4 aR ?_) | (with_reducible show pick _ _ _ _ _ _;refine C6 ?_) | (apply Nx;intro hh;(try simp only[hh,reduceIte,↓M2,M2,Mb,reduceIte]))));done)))
   refine Wr (φ:=fun v _=>Value.agg [lv',I room,cv'].toArray=v) rfl (Rep.one hr5) (fun v w h=>h) ?_ hm68.1;intros;rename_i hm9
   (repeat (rename_i hx;subst hx))
   rename_i w9 hb9;exact Nk (G:=fun b=>cr=cs->b=true) (fun _=>rfl) N h8 hD8' hne8 hB6 hb9.kp hb9.hst.sat hm9 rfl hr8 hh
 rw[decide_eq_false e1k];refine Z6 ?_;refine C8 ?_;have hv43:U1 σ3 (q5.add 4) [I x.v.sort,I x.v.n,S x.v.s,I x.v.ref]:=hq53.tail (xs:=[_,_,_,_]);have hvr:N0 σ x.v [I x.v.sort,I x.v.n,S x.v.s,I x.v.ref]:=⟨rfl,hv⟩
 by_cases e2k:x.kind=2
 .rw[decide_eq_true e2k]
  have ea:P3 V7 (Q3 l) room cs x=(F6 V7 (Q3 l) cs x.ref x.n x.v).1:=by unfold P3;rw[if_neg e0,if_neg e1k,if_pos e2k]
  have er:P3 V7 (Q3 l) room cr x=(F6 V7 (Q3 l) cr x.ref x.n x.v).1:=by unfold P3;rw[if_neg e0,if_neg e1k,if_pos e2k]
  rw[ea,er] at hh;have good':=(GoodH.set good x.ref x.n x.v).cells;refine J3 ?_;refine Z2 hk3.sat hq43 rfl ?_;refine W5 ?_;refine ld (i:=3) hk3.sat hq53 rfl ?_;refine W5 ?_;refine ld (i:=2) hk3.sat hq53 rfl ?_;refine W5 ?_;refine Z2 hk3.sat hv43 rfl ?_;refine X9v hk3.sat hr3 wf ok hlen goodr.cells htr ⟨rfl,hv⟩ fun ds' w4 σ4 hk4 hr4=>?_;refine Z5 (vs:=[_,_]) rfl ?_;refine Z5 (vs:=[_,_]) rfl ?_;have hS4:=hS3.trans hk4;refine D2 hk4.sat fun b8 w5 σ5 hb8 hk5 hm8=>?_;have hS5:=hS4.trans hk5;have hB8:=H8 hb8 hS4;have hr5:=O8 hr4 ⟨hk5.le⟩;obtain ⟨lv',cv',hde,_,_⟩:=H3.out hr4;subst hde;refine My (ds:=[lv',I room,cv']) hm8 rfl rfl (by rw[List.all_toArray];exact List.all_eq_true.2 (Rep.one hr5)) fun w6 u6 hm86=>?_
  obtain ⟨σ7,hS7,hq8,l57,o7⟩:=Q6U (x:=(Q3 l,room,(F6 V7 (Q3 l) cr x.ref x.n x.v).1)) hS5 hB8 hm8 u6 hm86;have l37:SLe σ3 σ7:=(SLe.more ⟨hk4.le⟩ ⟨hk5.le⟩).more l57;have hb68:b6≠b8:=by have:=(hm6.up hk4).lt;omega
  have hm66:=((hm6.up hk4).up hk5).upd u6 hb68;have hm67:Z0 σ7 w6 b6 _:=⟨(o7 b6 hb68).trans hm66.1,hm66.2⟩;have hq57:=hq53.lift l37;have hv47:=hv43.lift l37;have hr7:=O8 hr5 l57;have hbD: ¬D b6:=fun e=>by have:=hDl _ e;omega
  refine X8i (w0:=Q0g w6) (σ0:=fun _=>none) (n:=3) (F6 V7 (Q3 l) cs x.ref x.n x.v).1 [lv',I room,cv'] (Ug hS7.sat) (Nat.zero_le _) (Nat.zero_le _) hbD hm67 rfl rfl (h.up hS7) ?_
  (repeat (apply J4;(· intros;(have hzz:=SetB.hs Q7);(repeat (rename_i hx;subst hx));(repeat' (first | (with_reducible exact Q99 rfl) | (with_reducible exact X6V (Stp.bel (by (repeat (first | exact Stp.refl (by (first | assumption | exact Stp.sat Q7 | exact Hst.sat Q7)) | assumption | refine Stp.trans ?_ (by first | assumption | exact Hst.stp Q7))))) rfl) | (with_reducible intro _) | (simp only[↓M2,M2,Mb,reduceIte]) | (with_reducible show Q8 _ _ _ _ _;first | refine Y3 aS aL aR ?_ | refine Z2 aS aL aR ?_ | refine ld aS aL aR ?_) | (with_reducible show indexAddr _ _ _ _ _ _;refine Y9 aL au ?_) | (with_reducible show J7 _ _ _ _ _ _ _ _;refine Q6 aL ?_) | (with_reducible show Qr _ _ _ _ _ _;refine V4 aR ?_) | (with_reducible show pick _ _ _ _ _ _;refine C6 ?_)));done)))
  refine X6Z (hg.lift ⟨hS7.le⟩) (ht.lift ⟨hS7.le⟩) ok good.cells good' ⟨rfl,hv⟩ hbD hm67.1 (fun _ _ h=>h) (fun _ _ h=>h) (fun _ _ h=>h) ?_;refine J4 (V:= .bool (decide ((F6 V7 (Q3 l) cs x.ref x.n x.v).2=(F6 V7 (Q3 l) cr x.ref x.n x.v).2))) (fun t w hb ht=>?_) ?_
  .obtain ⟨rfl,_,_⟩:=ht
   refine C8 ?_;exact Q99 rfl
  refine X5i (φ:=fun v _=>Value.agg [lv',I room,cv'].toArray=v) rfl (Rep.one hr5) (fun v w h=>h) ?_ hm67.1 hbD;intros;rename_i hm9
  (repeat (rename_i hx;subst hx))
  rename_i hset
  (repeat (rename_i hx;subst hx))
  rename_i w9 hb9;obtain ⟨_,hs9,h9⟩:=hset;refine W9 hm9 rfl ?_;have Nb:Nxt (fun j=>j=b6\/D j) w6 σ7 w9 σ7:=⟨hb9.kp,SLe.refl _,fun _ _=>rfl,hs9⟩;exact hh _ _ w9 σ7 D (fun h=>by rw[h];exact decide_eq_true rfl) ((Nxt.of_stp (D:=D) hS7).chain Nb fun j hj e=>e.elim (fun e=>by omega) id) h9 (fun j hj=> .inl hj) hr7
 rw[decide_eq_false e2k];refine Z6 ?_;refine C8 ?_
 by_cases e3k:x.kind=3
 .rw[decide_eq_true e3k]
  have ea:P3 V7 (Q3 l) room cs x=cs:=by unfold P3;rw[if_neg e0,if_neg e1k,if_neg e2k,if_neg Q5]
  have er:P3 V7 (Q3 l) room cr x=cr:=by unfold P3;rw[if_neg e0,if_neg e1k,if_neg e2k,if_neg Q5]
  rw[ea,er] at hh;refine J3 ?_;refine Z2 hk3.sat hq43 rfl ?_;refine W5 ?_;refine ld (i:=3) hk3.sat hq53 rfl ?_;refine W5 ?_;refine ld (i:=2) hk3.sat hq53 rfl ?_;refine X9u hk3.sat hr3 fun w4 σ4 hk4=>?_;refine Z5 (vs:=[_,_]) rfl ?_;refine Z5 (vs:=[_,_]) rfl ?_;refine Z3 (sz:=4) hk4.sat aR aR Bt fun q8 w5 σ5 hk5 hq8=>?_;have hk35:=hk4.trans hk5;have hS5:=hS3.trans hk35;have h5:=h.up hS5;have hq55:=hq53.lift ⟨hk35.le⟩;refine W5 ?_;refine ld (i:=3) hk35.sat hq55 rfl ?_;refine W5 ?_;refine ld (i:=2) hk35.sat hq55 rfl ?_;obtain ⟨σf,sf,lef,hsl,of⟩:=h5.freeze hk35.sat;refine Q8T sf hsl fun w6 σ6 hk6=>?_;refine Z5 (vs:=[_,_]) rfl ?_;refine Z5 (vs:=[_,_]) rfl ?_;refine Z3 (sz:=4) hk6.sat aR aR Bt fun q9 w7 σ7 hk7 hq9=>?_;have hk57:=hk6.trans hk7;have hS57:=hk57.weak lef.le;have hS7:=hS5.trans hS57;have l57:SLe σ5 σ7:=lef.more ⟨hk57.le⟩;have hbD: ¬D b6:=fun e=>by have:=hDl _ e;omega
  have hm65:=hm6.up hk35;have hm6f:Z0 σf w5 b6 _:=⟨(of b6 hbD).trans hm65.1,hm65.2⟩;have hm67:=hm6f.up hk57;have hq47:=(hq43.lift ⟨hk35.le⟩).lift l57;have hq87:=hq8.lift l57;refine Q9d (w0:=Q0g w7) (σ0:=fun _=>none) (n:=3) [lv,I room,cv] (Ug hk57.sat) (Nat.zero_le _) hm67 rfl rfl ?_;have n5:σ5 b6=none:=hm65.1;have hq97:=hq9
  by_cases hge:Li cr x.ref x.n=Li cs x.ref x.n
  .have hz0:decide True=true:=decide_true _
   (repeat (apply J4;(· intros;(have hzz:=VarB.hs Q7);(repeat (rename_i hx;subst hx));(try simp only[hz0,decide_true,Bool.not_true,Bool.not_false,Bool.false_eq_true,Bool.true_eq_false,reduceIte,↓M2,M2,Mb,reduceIte]);(repeat' (first | (with_reducible exact T6 rfl) | (with_reducible exact Vi (Stp.bel (by (repeat (first | exact Stp.refl (by (first | assumption | exact Stp.sat Q7 | exact Hst.sat Q7)) | assumption | refine Stp.trans ?_ (by first | assumption | exact Hst.stp Q7))))) rfl) | (with_reducible intro _) | (simp only[↓M2,M2,Mb,reduceIte]) | (with_reducible show Q8 _ _ _ _ _;first | refine Y3 aS aL aR ?_ | refine Z2 aS aL aR ?_ | refine ld aS aL aR ?_) | (with_reducible show indexAddr _ _ _ _ _ _;refine Y9 aL au ?_) | (with_reducible show J7 _ _ _ _ _ _ _ _;refine Q6 aL ?_) | (with_reducible show Qr _ _ _ _ _ _;refine V4 aR ?_) | (with_reducible show pick _ _ _ _ _ _;refine C6 ?_) | (apply Nx;intro hh;(try simp only[hh,reduceIte,↓M2,M2,Mb,reduceIte]))));done)))
   refine J4 (V:= .bool true) (by
    intros
    (repeat (rename_i hx;subst hx))
    refine Cg ?_;exact T6 (by rw[hge,decide_eq_true rfl])) ?_
   (repeat (apply J4;(· intros;(have hzz:=VarB.hs Q7);(repeat (rename_i hx;subst hx));(try simp only[hz0,decide_true,Bool.not_true,Bool.not_false,Bool.false_eq_true,Bool.true_eq_false,reduceIte,↓M2,M2,Mb,reduceIte]);(repeat' (first | (with_reducible exact T6 rfl) | (with_reducible exact Vi (Stp.bel (by (repeat (first | exact Stp.refl (by (first | assumption | exact Stp.sat Q7 | exact Hst.sat Q7)) | assumption | refine Stp.trans ?_ (by first | assumption | exact Hst.stp Q7))))) rfl) | (with_reducible intro _) | (simp only[↓M2,M2,Mb,reduceIte]) | (with_reducible show Q8 _ _ _ _ _;first | refine Y3 aS aL aR ?_ | refine Z2 aS aL aR ?_ | refine ld aS aL aR ?_) | (with_reducible show indexAddr _ _ _ _ _ _;refine Y9 aL au ?_) | (with_reducible show J7 _ _ _ _ _ _ _ _;refine Q6 aL ?_) | (with_reducible show Qr _ _ _ _ _ _;refine V4 aR ?_) | (with_reducible show pick _ _ _ _ _ _;refine C6 ?_) | (apply Nx;intro hh;(try simp only[hh,reduceIte,↓M2,M2,Mb,reduceIte]))));done)))
   refine Wr (φ:=fun v _=>Value.agg [lv,I room,cv].toArray=v) rfl (Rep.one hr3) (fun v w h=>h) ?_ hm67.1;intros;rename_i hm9
   (repeat (rename_i hx;subst hx))
   rename_i w9 hb9;exact Nk (G:=fun b=>cr=cs->b=true) (fun h=>by rw[h];exact decide_eq_true rfl) (Nxt.of_stp (D:=D) hS7) (h5.up hS57) (fun j hj=> .inl hj) hbD hB6 hb9.kp (fun k o e=>hb9.hst.sat k o (l57.le k o e)) ⟨n5,hm9.2⟩ rfl (O8 hr0 ⟨hS7.le⟩) hh
  .have hz0:decide True=true:=decide_true _
   (repeat (apply J4;(· intros;(have hzz:=VarB.hs Q7);(repeat (rename_i hx;subst hx));(try simp only[hz0,decide_true,Bool.not_true,Bool.not_false,Bool.false_eq_true,Bool.true_eq_false,reduceIte,↓M2,M2,Mb,reduceIte]);(repeat' (first | (with_reducible exact T6 rfl) | (with_reducible exact Vi (Stp.bel (by (repeat (first | exact Stp.refl (by (first | assumption | exact Stp.sat Q7 | exact Hst.sat Q7)) | assumption | refine Stp.trans ?_ (by first | assumption | exact Hst.stp Q7))))) rfl) | (with_reducible intro _) | (simp only[↓M2,M2,Mb,reduceIte]) | (with_reducible show Q8 _ _ _ _ _;first | refine Y3 aS aL aR ?_ | refine Z2 aS aL aR ?_ | refine ld aS aL aR ?_) | (with_reducible show indexAddr _ _ _ _ _ _;refine Y9 aL au ?_) | (with_reducible show J7 _ _ _ _ _ _ _ _;refine Q6 aL ?_) | (with_reducible show Qr _ _ _ _ _ _;refine V4 aR ?_) | (with_reducible show pick _ _ _ _ _ _;refine C6 ?_) | (apply Nx;intro hh;(try simp only[hh,reduceIte,↓M2,M2,Mb,reduceIte]))));done)))
   refine J4 (V:= .bool false) (by
    intros
    (repeat (rename_i hx;subst hx))
    refine Cg ?_;exact T6 (by rw[decide_eq_false hge])) ?_
   (repeat (apply J4;(· intros;(have hzz:=VarB.hs Q7);(repeat (rename_i hx;subst hx));(try simp only[hz0,decide_true,Bool.not_true,Bool.not_false,Bool.false_eq_true,Bool.true_eq_false,reduceIte,↓M2,M2,Mb,reduceIte]);(repeat' (first | (with_reducible exact T6 rfl) | (with_reducible exact Vi (Stp.bel (by (repeat (first | exact Stp.refl (by (first | assumption | exact Stp.sat Q7 | exact Hst.sat Q7)) | assumption | refine Stp.trans ?_ (by first | assumption | exact Hst.stp Q7))))) rfl) | (with_reducible intro _) | (simp only[↓M2,M2,Mb,reduceIte]) | (with_reducible show Q8 _ _ _ _ _;first | refine Y3 aS aL aR ?_ | refine Z2 aS aL aR ?_ | refine ld aS aL aR ?_) | (with_reducible show indexAddr _ _ _ _ _ _;refine Y9 aL au ?_) | (with_reducible show J7 _ _ _ _ _ _ _ _;refine Q6 aL ?_) | (with_reducible show Qr _ _ _ _ _ _;refine V4 aR ?_) | (with_reducible show pick _ _ _ _ _ _;refine C6 ?_) | (apply Nx;intro hh;(try simp only[hh,reduceIte,↓M2,M2,Mb,reduceIte]))));done)))
   refine Wr (φ:=fun v _=>Value.agg [lv,I room,cv].toArray=v) rfl (Rep.one hr3) (fun v w h=>h) ?_ hm67.1;intros;rename_i hm9
   (repeat (rename_i hx;subst hx))
   rename_i w9 hb9;exact Nk (G:=fun b=>cr=cs->b=true) (fun h=>absurd (by rw[h]) hge) (Nxt.of_stp (D:=D) hS7) (h5.up hS57) (fun j hj=> .inl hj) hbD hB6 hb9.kp (fun k o e=>hb9.hst.sat k o (l57.le k o e)) ⟨n5,hm9.2⟩ rfl (O8 hr0 ⟨hS7.le⟩) hh
 rw[decide_eq_false e3k];refine Z6 ?_;refine C8 ?_
 by_cases e4k:x.kind=4
 .rw[decide_eq_true e4k]
  have ea:P3 V7 (Q3 l) room cs x=Q0k cs x.ref:=by unfold P3;rw[if_neg e0,if_neg e1k,if_neg e2k,if_pos e4k]
  have er:P3 V7 (Q3 l) room cr x=Q0k cr x.ref:=by unfold P3;rw[if_neg e0,if_neg e1k,if_neg e2k,if_pos e4k]
  rw[ea,er] at hh;refine J3 ?_;refine W5 ?_;refine ld (i:=3) hk3.sat hq53 rfl ?_;refine X90 hk3.sat h3 htk b4 fun w4 σ4 D4 N4 h4 hD4=>?_;have hq54:=hq53.lift N4.le;have hq44:=hq43.lift N4.le;refine Z2 N4.sat hq44 rfl ?_;refine W5 ?_;refine ld (i:=3) N4.sat hq54 rfl ?_;refine X9s N4.sat (O8 hr3 N4.le) htr b4 fun ds' w5 σ5 hk5 hr5=>?_;have hbD: ¬D b6:=fun e=>by have:=hDl _ e;omega
  have hm65:=(hm6.nx N4 hbD).up hk5;obtain ⟨lv',cv',hde,_,_⟩:=H3.out hr5;subst hde;refine My (ds:=[lv',I room,cv']) hm65 rfl rfl (by rw[List.all_toArray];exact List.all_eq_true.2 (Rep.one hr5)) fun w6 u6 hm66=>?_
  have N:=(Nxt.of_stp (D:=D) hS3).chain (N4.trans (Nxt.of_stp hk5)) fun j _ e=>e;exact Nk (G:=fun b=>cr=cs->b=true) (fun _=>rfl) N (h4.up hk5) (fun j hj=> .inl (hD4 j hj)) (fun e=>hbD (hD4 _ e)) hB6 (Kpt.of_upd u6 rfl) (u6.stp (Ug hk5.sat) (Nat.zero_le _) hm65.1).sat hm66 rfl hr5 hh
 rw[decide_eq_false e4k];refine Z6 ?_;have ea:P3 V7 (Q3 l) room cs x=cs:=by unfold P3;rw[if_neg e0,if_neg e1k,if_neg e2k,if_neg e4k]
 have er:P3 V7 (Q3 l) room cr x=cr:=by unfold P3;rw[if_neg e0,if_neg e1k,if_neg e2k,if_neg e4k]
 rw[ea,er] at hh;refine Z2 hk3.sat hq43 rfl ?_;refine My (ds:=[lv,I room,cv]) hm6 rfl rfl (by rw[List.all_toArray];exact List.all_eq_true.2 (Rep.one hr3)) fun w6 u6 hm66=>?_
 have hbD: ¬D b6:=fun e=>by have:=hDl _ e;omega
 exact Nk (G:=fun b=>cr=cs->b=true) (fun _=>rfl) (Nxt.of_stp (D:=D) hS3) h3 (fun j hj=> .inl hj) hbD hB6 (Kpt.of_upd u6 rfl) (u6.stp (Ug hk3.sat) (Nat.zero_le _) hm6.1).sat hm66 rfl hr3 hh)
end Go.Proofs.Y
namespace Go.Emb
theorem Y05 {w:World} {A:World->Prop} (h:A w.drew):sq w A:=by rw[X35];exact h
end Go.Emb
namespace Go.Proofs.Y
open Go.Emb Go.RowKit Go.Kd Go.Hm
variable {w w' w0 : World} {K : Value -> World -> Prop} {σ σ' σ0 : Q2} {room : Int} {cs cr : List Cel} {hp tv : Value} {b6 : Nat}
structure RunG (w0 : World) (σ0 : Q2) (w : World) (σ : Q2) (hp tv : Value) (b6 : Nat) (room : Int) (cs cr : List Cel) : Prop where
  stp : Stp w0 σ0 w σ
  ex : ∃ D ds, HeapIs w0.heap.size D σ w hp tv room cs /\ ¬ D b6 /\ Z0 σ w b6 ds /\ H3 σ (Q3 W3, room, cr) ds
  bge : w0.heap.size <= b6
  tab : Tab σ tv (Q3 W3)
  ok : Ok (Q3 W3)
  good : GoodH V7 (Q3 W3) room cs
  goodr : GoodH V7 (Q3 W3) room cr
  rm : room <= 1048576
abbrev Run (w0:World) (σ0:Q2) (w:World) (σ:Q2) (hp tv:Value) (b6:Nat) (room:Int) (cs:List Cel):Prop:=RunG w0 σ0 w σ hp tv b6 room cs cs
theorem RunG.up (R:RunG w0 σ0 w σ hp tv b6 room cs cr) (k:Stp w σ w' σ'):RunG w0 σ0 w' σ' hp tv b6 room cs cr:=by
 obtain ⟨D,ds,a,b,c,d⟩:=R.ex;exact ⟨R.stp.trans k,⟨D,ds,a.up k,b,c.up k,O8 d ⟨k.le⟩⟩,R.bge,R.tab.lift ⟨k.le⟩,R.ok,R.good,R.goodr,R.rm⟩
theorem RunG.below (R:RunG w0 σ0 w σ hp tv b6 room cs cr) (k:Below w.heap.size w w'):RunG w0 σ0 w' σ hp tv b6 room cs cr:=R.up (Stp.of_below R.stp.sat k)
theorem RunG.act {x:ActH} {l ds:List Value} {D:Nat->Prop} (R:RunG w0 σ0 w σ hp tv b6 room cs cr) (r:Glb σ0) (d:HeapIs w0.heap.size D σ w hp tv room cs) (m: ¬D b6) (n:Z0 σ w b6 ds) (p:H3 σ (Q3 W3,room,cr) ds) (t:Pr σ x l)
 (h: ∀a b w' σ' D',HeapIs w0.heap.size D' σ' w' hp tv room (P3 V7 (Q3 W3) room cs x)-> ¬D' b6->Z0 σ' w' b6 ds->H3 σ' (Q3 W3,room,P3 V7 (Q3 W3) room cr x) a->Stp w0 σ0 w' σ'->SLe σ σ'->(cr=cs->b=true)->K (.tuple #[.agg a.toArray, .bool b]) w'):Q0 P F.be [hp, .agg ds.toArray, .agg l.toArray] w K:=by
 refine X9S R.stp.sat (r.lift ⟨R.stp.le⟩) R.stp.bel.size d p R.tab Q40 R.ok L1 R.good R.goodr R.rm t (fun k i=>(d.mem i).1) fun a b u v o g c q f j=>?_;have s:=n.lt;exact h a b u v o q (fun e=>(f _ e).elim m fun e=>by omega) (n.nx c m) j (c.stp' R.stp fun k i=>(d.mem i).1) c.le g
end Go.Proofs.Y
namespace Go.Hm
open Go.Kd
def X8o (x:ActH):Bool:=decide (x.s.length<=100)&&decide (x.v.s.length<=5000)
theorem Q3S: ∀(cs:List Cel) {c:Cel},c∈cs->(c.vals.length:Int)<=J1 cs
 | [],c,h=>by cases h
 | d::cs,c,h=>by
  have e:J1 (d::cs)=1+(d.vals.length:Int)+J1 cs:=by simp[J1]
  have:=E0 cs
  rcases List.mem_cons.1 h with rfl | h
  .omega
  .have:=Q3S cs h;omega
theorem X7G {cs:List Cel} {n:Nat} (h:J1 cs<=(n:Int)) (r:Int):Sn cs r<=n:=by
 unfold Sn Ob
 split
 .rename_i b
  obtain ⟨i,rfl,a⟩:=M3.1 b;rw[L9 a];have:=Q3S cs (List.getElem_mem a)
  simp;omega
 .simp
end Go.Hm
namespace Go.Proofs.Y
open Go.Emb Go.RowKit Go.Kd Go.Hm
variable {w w' w0 : World} {K : Value -> World -> Prop} {σ σ' σ0 : Q2} {room : Int} {cs cr : List Cel} {hp tv : Value} {b6 : Nat}
def Oh (room:Int) (cs:List Cel) (x:ActH):List Cel:=if X8o x then P3 V7 (Q3 W3) room cs x else cs
def Cn (xs:List ActH):List Cel:=(xs.take 40).foldl (Oh 300) []
theorem X3W {room:Int} {cs:List Cel} (a:V7 []=true) (b:Wf W3) (h:GoodH V7 (Q3 W3) room cs) (x:ActH):GoodH V7 (Q3 W3) room (Oh room cs x):=by
 unfold Oh
 split
 .exact GoodH.act b a h x
 .exact h
theorem Q7J {room:Int} (a:V7 []=true) (b:Wf W3): ∀(xs:List ActH) {cs:List Cel},GoodH V7 (Q3 W3) room cs->GoodH V7 (Q3 W3) room (xs.foldl (Oh room) cs)
 | [],_,h=>h
 | x::xs,_,h=>Q7J a b xs (X3W a b h x)
theorem Q5D (xs:List ActH):GoodH V7 (Q3 W3) 300 (Cn xs):=Q7J Q78 Q40 _ (GoodH.empty L1)
structure Fit (cs : List Cel) : Prop where
  good : ∀ c ∈ cs, GoodC V7 (Q3 W3) cs c
  len : cs.length <= 1048576
  sz : ∀ r, Sn cs r <= 1000000000000
  refs : X3i cs
theorem X8q {room:Int} (h:GoodH V7 (Q3 W3) room cs) (c:room<=300):Fit cs:=by
 have a:=h.left;unfold O3 at a;have b:=Qf cs;exact ⟨h.cells,by omega,fun r=>Nat.le_trans (X7G (n:=300) Q5 r) L1,X3V h.cells⟩
theorem X8V {a:Addr} {b c:Operand} (h:K (.bool true) w):Y6 P .neq T.a4 b c (.pointer (some a)) (.pointer none) w K:=by
 have e:(Op.equal T.a4 (.pointer (some a)) (.pointer none)).run P w= .ok false w:=X0b 9999 _;unfold Y6;rw[Y4 (v:= .bool true) (w':=w) (by simp[eqGuard,Go.binOp,e])]
 exact h
theorem RunG.fix (R:RunG w0 σ0 w σ hp tv b6 room cs cr): ∃c ds,Stp w0 σ0 w c/\SLe σ c/\O5 c hp tv room cs/\Z0 c w b6 ds/\H3 c (Q3 W3,room,cr) ds/\Tab c tv (Q3 W3):=by
 obtain ⟨D,ds,f,h,g,i⟩:=R.ex;obtain ⟨c,l,a,d,of⟩:=f.freeze R.stp.sat;refine ⟨c,ds,⟨R.stp.bel,l,fun b o e=>a.le _ _ (R.stp.le b o e),fun k j=>(of k fun e=>?_).trans (R.stp.old k j)⟩,a,d,⟨(of b6 h).trans g.1,g.2⟩,O8 i a,R.tab.lift a⟩;have:=(f.mem e).1;omega
set_option maxHeartbeats 1000000 in
theorem X6z {xs:List ActH} {v:Value} (hs:X3 w σ) (hg:Glb σ) (hv:Sl 8 Pr σ v xs)
 (h: ∀a tv ds w' σ',Stp w σ w' σ'->O5 σ' (.pointer (some a)) tv 300 (Cn xs)->H3 σ' (Q3 W3,300,Cn xs) ds->Tab σ' tv (Q3 W3)->Ok (Q3 W3)->K (.tuple #[.pointer (some a), .agg ds.toArray]) w'):Q0 P F.aK [v] w K:=Q1c (by
 unfold Eo;simp only[Y5,L6,M9];unfold J5 U7 X8 X6 X2 X1;refine D2 hs fun b3 w1 σ1 ag Y ah=>?_;have M:=hg.lift ⟨Y.le⟩;refine X1G Y.sat M L1 fun b a D ds w2 σ2 Z X g Q ok=>?_;rw[show (300 % 301:Int)=300 from rfl] at X g
 refine Z5 (vs:=[_,_]) rfl ?_;refine Z5 (vs:=[_,_]) rfl ?_;refine D2 Z.sat fun W w3 σ3 r k3 f=>?_;have af:=H8 r Z;refine My f rfl (by obtain ⟨C,B,rfl,_⟩:=H3.out g;rfl) (by rw[List.all_toArray];exact List.all_eq_true.2 (Rep.one g)) fun w4 u4 p=>?_
 have m:Stp w2 σ2 w4 σ3:=u4.stp k3 r f.1;have R4:Run w1 σ1 w4 σ3 (.pointer (some ⟨b,0,none⟩)) (.pointer (some a)) W 300 []:=⟨Z.trans m,⟨D,ds,X.up m,fun e=>by have:=(X.mem e).2.1;omega,p,O8 g ⟨m.le⟩⟩,af,Q.lift ⟨m.le⟩,ok,GoodH.empty L1,GoodH.empty L1,by decide⟩
 have an:=hv.up Y;clear Z k3 m X g Q f p u4 r;refine V2 xs.length (fun i w'=>i<=40/\ ∃σ',Run w1 σ1 w' σ' (.pointer (some ⟨b,0,none⟩)) (.pointer (some a)) W 300 ((xs.take i).foldl (Oh 300) [])) ⟨by decide,σ3,R4⟩ fun i w5 d hi N=>?_
 obtain ⟨ae,σ5,E⟩:=N;have s5:=E.stp.sat;have l:=an.up E.stp;have ak:=l.max
 have H:i=xs.length\/i=40->dr w5 fun Tr Br=>U8 Tr (fun A=> ∀w,Br w->Q8 P T.a (.pointer (some ⟨W,0,none⟩)) w (dk Tr A w)) fun A=> ∀R w,Br w->A R w->U3 P T.a (.pointer (some ⟨b3,0,none⟩)) R w fun _u w=>Z9 P T.a (.pointer (some ⟨b3,0,none⟩)) w fun r1=>K (.tuple #[.pointer (some ⟨b,0,none⟩),r1]) w:=fun hf=>by
  have e:(xs.take i).foldl (Oh 300) []=Cn xs:=by
   unfold Cn
   rcases hf with rfl | rfl
   .rw[List.take_of_length_le (Nat.le_refl _),List.take_of_length_le ae]
   .rfl
  rw[e] at E;obtain ⟨σf,ac,S5,bq,al,f,j,am⟩:=E.fix;have o:=ah.up S5;refine W1 S5.sat ?_;refine J4 (V:= .agg ac.toArray) (fun w hb=>By (f.up hb.stp) (by obtain ⟨C,B,rfl,_⟩:=H3.out j;rfl) (V1 rfl)) ?_
  rintro _ w6 t rfl;have k6:=t.stp;refine My (o.up k6) rfl (by obtain ⟨C,B,rfl,_⟩:=H3.out j;rfl) (by rw[List.all_toArray];exact List.all_eq_true.2 (Rep.one j)) fun w7 u7 ai=>?_
  refine W9 ai (by obtain ⟨C,B,rfl,_⟩:=H3.out j;rfl) ?_
  have S7:Stp w σ w7 σf:=u7.stp (Y.trans (S5.trans k6)) ag o.1;exact h _ _ _ _ _ S7 al j am ok
 refine X8V ?_
 (repeat refine Hd.h ?_)
 refine Q6 l ?_
 (repeat refine Hd.h ?_)
 refine Z1 ?_
 (repeat refine Hd.h ?_)
 cases hd:decide ((i:Int)<(xs.length:Nat)) with
 | false=>
  (repeat refine Hd.h ?_)
  refine Z6 ?_;exact H (.inl (by simp at hd;omega))
 | true=>
  have c:i<xs.length:=by simpa using hd
  (repeat refine Hd.h ?_)
  refine Z1 ?_
  (repeat refine Hd.h ?_)
  cases L:decide ((i:Int)<40) with
  | false=>
   refine Z6 ?_;exact H (.inr (by simp at L;omega))
  | true=>
   refine J3 ?_;have bh:i<40:=by simp at L;omega
   refine Xt (fun _ w'=> ∃σ',Run w1 σ1 w' σ' (.pointer (some ⟨b,0,none⟩)) (.pointer (some a)) W 300 ((xs.take (i+1)).foldl (Oh 300) [])) ?_ (fun z dd w6 hz=>?_)
   .have es:(xs.take (i+1)).foldl (Oh 300) []=Oh 300 ((xs.take i).foldl (Oh 300) []) xs[i]:=by
     rw[List.take_add_one,List.getElem?_eq_getElem c,Option.toList_some,List.foldl_append];rfl
    rw[es];generalize (xs.take i).foldl (Oh 300) []=cs at*;obtain ⟨c0,p1,p2,p3⟩:=l.el c;refine Y9 l c ?_;refine Z2 s5 p1 p2 ?_;refine X9t s5 p3 fun w6 t=>?_;have U:=E.below t;unfold Oh X8o;cases bk:(decide (xs[i].s.length<=100)&&decide (xs[i].v.s.length<=5000)) with
    | false=>
     refine Z6 ?_;rw[if_neg V0];exact ⟨_,U⟩
    | true=>
     refine J3 ?_;rw[if_pos rfl];refine Y05 ?_;have n:=U.below (Below.refl _ _).drew;obtain ⟨D7,bc,g1,g2,g3,g4⟩:=n.ex;refine Y9 l c ?_;refine By g3 (by obtain ⟨C,B,rfl,_⟩:=H3.out g4;rfl) ?_
     refine Z2 n.stp.sat p1 p2 ?_;refine n.act M g1 g2 g3 g4 p3 fun ab bb w8 σ8 D8 g5 O u y J ao _=>?_;refine Z5 (vs:=[_,_]) rfl ?_;refine Z5 (vs:=[_,_]) rfl ?_;refine My u (by obtain ⟨C,B,rfl,_⟩:=H3.out g4;rfl) (by obtain ⟨C,B,rfl,_⟩:=H3.out y;rfl) (by rw[List.all_toArray];exact List.all_eq_true.2 (Rep.one y)) fun w9 u9 aj=>?_
     have G:=GoodH.act Q40 Q78 n.good xs[i];exact ⟨σ8,u9.stp J n.bge u.1,⟨D8,ab,g5.nx (Nxt.of_upd J.sat u9 u.1) fun k hk e=>O (e▸hk),O,aj,y⟩,n.bge,n.tab.lift ao,n.ok,G,G,n.rm⟩
   .obtain ⟨σ6,U⟩:=hz
    (try simp only[↓M1,M1,Mb,reduceIte])
    exact Y7 ak c ⟨by omega,σ6,U⟩)
theorem X61:P.built T.f []=some #[I 0,I 0,S [],I 0]:=by kernel_rfl
variable {q : Addr} {ds : List Value}
structure HS (σ : Q2) (hp tv : Value) (q : Addr) (ds : List Value) (cs : List Cel) : Prop where
  h : O5 σ hp tv 300 cs
  q : U1 σ q ds
  r : H3 σ (Q3 W3, 300, cs) ds
  t : Tab σ tv (Q3 W3)
theorem HS.lift (H:HS σ hp tv q ds cs) (a:SLe σ σ'):HS σ' hp tv q ds cs:=⟨H.h.lift a,H.q.lift a,O8 H.r a,H.t.lift a⟩
theorem HS.up (H:HS σ hp tv q ds cs) (k:Stp w σ w' σ'):HS σ' hp tv q ds cs:=H.lift ⟨k.le⟩
theorem X9K {xs:List ActH} {v:Value} {A:Value->Value->World->Prop} (m:X3 w σ) (k:Glb σ) (n:Sl 8 Pr σ v xs)
 (h: ∀a tv q ds w' σ',Stp w σ w' σ'->Ok (Q3 W3)->HS σ' (.pointer (some a)) tv q ds (Cn xs)->A (.pointer (some a)) (.pointer (some q)) w'):
 Q0 P F.aK [v] w fun b w=>ext P b 0 w fun e w=>ext P b 1 w fun f w=>T4 P T.a w fun i w=>U3 P T.a i f w fun _u w=>A e i w:=by
 refine X6z m k n fun a tv ds w1 σ1 g j d p ok=>?_;refine Z5 (vs:=[_,_]) rfl ?_;refine Z5 (vs:=[_,_]) rfl ?_;have o:=d;obtain ⟨u,t,rfl,_⟩:=H3.out d;refine Z3 (sz:=3) g.sat rfl rfl (Rep.one o) fun q r s c l=>?_;exact h a tv q _ r s (g.trans c) ok ⟨j.lift ⟨c.le⟩,l,O8 d ⟨c.le⟩,p.lift ⟨c.le⟩⟩
end Go.Proofs.Y
namespace Go.Proofs.Y
open Go.Kd Go.Emb
theorem Q5B: ∀(n:Nat) (s:Q9),s.length<=n->s.length<=(base s).1.length+2*(base s).2
 | 0,s,h=>by omega
 | n+1,s,h=>by
  rw[Yw]
  split
  .rename_i a
   have b:2<=s.length:=by
    unfold arr at a;simp only[Bool.and_eq_true,decide_eq_true_eq] at a;exact a.1
   have c:(Kd.cutA s).length=s.length-2:=by unfold Kd.cutA;simp
   have:=Q5B n (Kd.cutA s) Q5;simp only;omega
  .simp
end Go.Proofs.Y
namespace Go.Hm
open Go.Kd Go.Proofs.Y
theorem X5s {l:List Cla} {s:Q9} (h:E2 l s=true):s.length<=40:=by
 unfold E2 at h;simp only[Bool.or_eq_true,Bool.and_eq_true,decide_eq_true_eq] at h
 rcases h with rfl | ⟨h,_⟩
 .decide
 .unfold right at h
  simp only[Bool.and_eq_true,decide_eq_true_eq] at h;have a:=Q5n (Ln h.2);have b:=Q5B _ s (Nat.le_refl _);omega
set_option maxRecDepth 100000 in
theorem X8G: ∀c∈Q3 W3,(F0 (Q3 W3) c.name).length<=1000:=by decide+kernel
theorem Q7Z (k:Q9):(F0 (Q3 W3) k).length<=1000:=by
 cases e:lk (Q3 W3) k with
 | none=>
  have:F0 (Q3 W3) k=[]:=by unfold F0 Xi;rw[e]
  rw[this];decide
 | some c=>
  obtain ⟨rfl,a,_⟩:=M6 e;exact X8G c a
theorem Ma {α:Type} {f:α->Q9} {B:Nat}: ∀{xs:List α},(∀x∈xs,(f x).length<=B)->(xs.flatMap f).length<=xs.length*B
 | [],_=>by simp
 | x::xs,h=>by
  have b:=h x (by simp)
  have c:=Ma (xs:=xs) (B:=B) (f:=f) fun y a=>h y (by simp[a])
  rw[List.flatMap_cons,List.length_append,List.length_cons,Nat.add_mul];omega
theorem Q7W {ok:Q9->Bool} (b: ∀s,ok s=true->s.length<=4096) {cs:List Cel} {v:Val} (h:P8 ok cs v≠[]):v.s.length<=4096:=by
 have z: ∀{x:Val},v=x->x.s=[]->v.s.length<=4096:=fun e a=>by rw[e,a];decide
 unfold P8 at h
 split at h
 .rename_i e;exact z e rfl
 split at h
 .rename_i e;exact z e rfl
 split at h
 .rename_i e;exact z e.1 rfl
 split at h
 .rename_i e;exact b _ e.2
 split at h
 .rename_i e;exact z e rfl
 .exact absurd rfl h
theorem X0k {num:Int->Int} {v:Val} (a: -9223372036854775808<=v.n/\v.n<=9223372036854775807) (c:v.s.length<=4096):(Qx num v).length<=4200:=by
 have b:=Xo (Gj v.sort);unfold Qx;rw[List.length_append]
 split
 .have:=Xo (X1W a);omega
 split
 .have:(Fu (decide (v.n=1))).length=1:=rfl
  omega
 split
 .have:=Xo (v:=v.s.length) (by omega)
  unfold O4;rw[List.length_append];omega
 split
 .have:=Xo (Gj (num v.ref));omega
 .simp;omega
end Go.Hm
namespace Go.Proofs.Y
open Go.Emb Go.RowKit Go.Kd Go.Hm
variable {σ : Q2} {room : Int} {cs : List Cel} {hp tv : Value}
theorem X1A (s:Q9) (h:V7 s=true):s.length<=4096:=by
 unfold V7 at h;simp only[Bool.and_eq_true,decide_eq_true_eq] at h;exact h.1
set_option maxHeartbeats 1000000 in
theorem Q7h (hh:O5 σ hp tv room cs) (g:GoodH V7 (Q3 W3) room cs) (d:room<=300) (ok:Ok (Q3 W3)):SendOk (Q3 W3) cs:=by
 have f:=X8q g d;have Q:=g.left;unfold O3 at Q;have E:=Qf cs;have i:cs.length<=300:=by omega
 have b: ∀c∈cs,c.vals.length<=300:=fun c s=>by have:=Q3S cs s;omega
 refine ⟨ok,f.good,f.len,f.sz,fun k=>Nat.le_trans (Q7Z k) L1,fun vs M a m=>?_⟩;have C:(S9 (Q3 W3) cs vs).length<=300:=Nat.le_trans (Q4g Po fun x D=>Bp D) i;have l: ∀x∈S9 (Q3 W3) cs vs,x<cs.length:=fun x D=>Bp D;unfold Q6x;generalize S9 (Q3 W3) cs vs=refs at*;have O:(M4 cs refs).length<=300:=Nat.le_trans Q0t C;have R:=Xo (v:=(M4 cs refs).length) Q5;have V:=Xo (v:=refs.length) Q5;have Y:=Xo (v:=vs.length) Q5
 have u: ∀r∈refs,Pn cs r∈cs.map (·.kind):=fun r d=>by
  have h:=l r d;unfold Pn Yt;rw[List.getD_eq_getElem?_getD,List.getElem?_eq_getElem h];exact List.mem_map.2 ⟨_,List.getElem_mem h,rfl⟩
 have y: ∀k∈M4 cs refs,k.length<=40:=fun k q=>by
  unfold M4 at q
  rcases Fp.1 q with h | h
  .cases h
  .obtain ⟨r,d,rfl⟩:=List.mem_map.1 h
   obtain ⟨c,s,e⟩:=List.mem_map.1 (u r d);rw[<-e];exact X5s (g.cells c s).kd
 have U:((M4 cs refs).flatMap (Q8v (Q3 W3))).length<=(M4 cs refs).length*1060:=Ma fun k q=>by
  have J:=y k q;have L:=Q7Z k;have h3:=Xo (v:=k.length) Q5;have h4:=Xo (v:=(F0 (Q3 W3) k).length) Q5;unfold Q8v O4;simp only[List.length_append];omega
 have W:(refs.flatMap (Ht cs (M4 cs refs))).length<=refs.length*20:=Ma fun r d=>by
  have J:=Xo (Gj (D0 ((M4 cs refs).findIdx? fun k=>decide (k=Pn cs r))));unfold Ht;rw[List.length_append]
  split
  .simp;omega
  .have h:=l r d
   have L:(Yt cs r).vals.length<=300:=by
    unfold Yt;rw[List.getD_eq_getElem?_getD,List.getElem?_eq_getElem h];exact b _ (List.getElem_mem h)
   have:=Xo (v:=(Yt cs r).vals.length) Q5;omega
 have X:(refs.flatMap (fun r=>(Qn (Q3 W3) cs r).flatMap (Qx (Q5o refs)))).length<=refs.length*(300*4200):=Ma fun r d=>by
  have h:=l r d
  have A:(Qn (Q3 W3) cs r).length<=300:=by
   unfold Qn Q4e;rw[List.length_map];refine Nat.le_trans (List.length_filter_le _ _) ?_;rw[List.length_range];unfold Yt;rw[List.getD_eq_getElem?_getD,List.getElem?_eq_getElem h];exact b _ (List.getElem_mem h)
  refine Nat.le_trans (Ma (B:=4200) fun p hp=>?_) (Nat.mul_le_mul_right _ A);obtain ⟨_,o,n⟩:=X5E hp;have m:=X6v hh (List.getElem_mem o) n;obtain ⟨j,N,rfl⟩:=List.mem_iff_getElem.1 n;have t:=(g.cells _ (List.getElem_mem o)).fits j N;unfold I7 at t;simp only[Bool.and_eq_true,Bool.not_eq_true',decide_eq_false_iff_not] at t;exact X0k m.2.1 (Q7W X1A t.1)
 have Z:(vs.flatMap (Qx (Q5o refs))).length<=vs.length*4200:=Ma fun v H=>by
  have z:P8 V7 cs v≠[]:=fun e=>by
   unfold Q6H at a;rw[List.any_eq_false] at a;exact a v H (by simpa using e)
  exact X0k (m v H).2.1 (Q7W X1A z)
 unfold Q4d;simp only[List.length_append];omega
end Go.Proofs.Y
namespace Go.Hm
open Go.Kd
def gA:Q9:=[65]
def rV (n:Int):Val:=⟨4,0,[],n⟩
def Kw:Cel:=⟨gA,[⟨1,0,[],0⟩,Val.zero]⟩
set_option maxRecDepth 100000 in
theorem X8w {room:Int} {cs:List Cel} (h:3<=O3 room cs):Uq (Q3 W3) room cs gA=(cs++[Kw],0):=by
 have a:Yj (Q3 W3) gA=true:=by decide+kernel
 have b:U5 (Q3 W3) gA=[⟨[120],Yu,false⟩,⟨[110,101,120,116],gA,false⟩]:=by decide+kernel
 unfold Uq;rw[a,b];rw[if_neg (by simp),if_neg (by simp;omega)]
 rfl
end Go.Hm
namespace Go.Hm
open Go.Kd Go.Emb Go.Proofs.Y
set_option maxRecDepth 100000 in
theorem X75:Ux V7 (Q3 W3) [] [⟨1,5,[],0⟩] 1000 1048576=(0,[0,0,1,1,10]):=by decide+kernel
set_option maxRecDepth 100000 in
theorem X76:Ux V7 (Q3 W3) [] [Val.zero] 1000 1048576=(0,[0,0,1,0]):=by decide+kernel
set_option maxRecDepth 100000 in
theorem X77:(Ux V7 (Q3 W3) [Kw] [rV 0] 1000 1048576).1=0/\10<(Ux V7 (Q3 W3) [Kw] [rV 0] 1000 1048576).2.length:=by decide+kernel
set_option maxRecDepth 100000 in
theorem X8l:(Qk (Q3 W3) (M4 [Kw] (S9 (Q3 W3) [Kw] [rV 0]))).length=1:=by decide+kernel
end Go.Hm
namespace Go.Proofs.Y
open Go.Emb Go.RowKit Go.Kd Go.Hm
variable {w w' : World} {K : Value -> World -> Prop} {σ σ' : Q2} {room : Int} {cs : List Cel} {hp tv : Value} {l : List Cla} {vs : List Val}
theorem X4P {B:Nat} {v:Value} {xs:Q9} (b:X3 w σ) (h:J6 B T.a1 1 Jg σ w v xs) (a:K (S xs) w):conv P T.s T.b v w K:=by
 obtain ⟨e,d,_,c,_⟩:=h.freeze b;exact X3e X3a Q4k d c a
theorem Tv (e:X3 w σ) (h: ∀w' σ',Stp w σ w' σ'->K (.agg [I 1000,I 1048576].toArray) w'):Q0 P F.v [] w K:=Q2j (by
 unfold Rs;refine D2 e fun b w1 σ1 d f c=>?_;refine L4 (cells:= #[I 1000,I 1048576]) X4 ?_;refine My (ds:=[I 1000,I 1048576]) c rfl rfl (by rw[List.all_toArray];rfl) fun i g a=>?_
 refine W9 a rfl ?_;exact h _ _ (g.stp f d c.1))
theorem X1n {n:Int} (e:X3 w σ) (h: ∀w' σ',Stp w σ w' σ'->K (.agg [I (rV n).sort,I (rV n).n,S (rV n).s,I (rV n).ref].toArray) w'):Q0 P F.b2 [I n] w K:=Q3z (by
 unfold Cz;refine D2 e fun b w1 σ1 d f c=>?_;refine L4 (cells:= #[I 4,I 0,S [],I n]) X4 ?_;refine My (ds:=[I 4,I 0,S [],I n]) c rfl rfl (by rw[List.all_toArray];exact List.all_eq_true.2 Bt) fun i g a=>?_
 refine W9 a rfl ?_;exact h _ _ (g.stp f d c.1))
theorem X53 {v:Value} (j:X3 w σ) (hh:O5 σ hp tv room cs) (e:Tab σ tv l) (a:SendOk l cs) (k:Sl 4 N0 σ v vs)
 (h: ∀f w' σ',Stp w σ w' σ'->Sl 2 Ck σ' f (Qk l (M4 cs (S9 l cs vs)))->K f w'):Q0 P F.cU [hp,v] w K:=Q8m (by
 unfold Q1L;simp only[M9];have b: ∀x∈S9 l cs vs,x<cs.length:=fun x m=>Bp m;refine Q8Z j hh e a.ok a.good a.len a.sz k fun u r t y z c d s i=>?_;refine Z5 (vs:=[_,_]) rfl ?_;refine Z5 (vs:=[_,_]) rfl ?_;exact Q8Y c.sat (hh.lift ⟨c.le⟩) (e.lift ⟨c.le⟩) a.ok a.len a.pr d b (Q4g Po b) fun o p q n g=>h o p q (c.trans n) g)
theorem X0p {B:Nat} {D:Nat->Prop} {x:Val} {o b:Int} (j:X3 w σ) (f:Glb σ) (e:HeapIs B D σ w hp tv room cs) (m:Tab σ tv (Q3 W3)) (ok:Ok (Q3 W3)) (g:GoodH V7 (Q3 W3) room cs) (i:room<=300) (q:VB x)
 (h: ∀d w',Stp w σ w' σ->J6 w.heap.size T.a1 1 Jg σ w' d (Ux V7 (Q3 W3) cs [x] o b).2->K (.tuple #[d,I (Ux V7 (Q3 W3) cs [x] o b).1]) w'):
 Q0 P F.c3 [hp, .agg [I x.sort,I x.n,S x.s,I x.ref].toArray, .agg [I o,I b].toArray] w K:=by
 obtain ⟨t,r,a,c,_⟩:=e.freeze j;refine X93 r (f.lift a) c (m.lift a) (Q7h c g i ok) q fun d w' σ' k p=>?_;exact h d w' (k.weak a.le) (p.down (a.more ⟨k.le⟩) fun _ _ h=>h)
set_option maxHeartbeats 4000000 in
theorem X1h (hs:X3 w σ) (hg:Glb σ) (h: ∀w' σ',Stp w σ w' σ'->K (.bool true) w'):Q0 P F.al [] w K:=Q1d (by
 unfold Ep;simp only[L6,M9];unfold X8 X6 X2 U6;refine X1G hs hg L1 fun b1 a1 D1 a4 w1 σ1 k1 W f t1 ok=>?_;rw[show (50 % 301:Int)=50 from rfl] at W f
 refine Z5 (vs:=[_,_]) rfl ?_;refine Z5 (vs:=[_,_]) rfl ?_;refine D2 k1.sat fun b2 w2 σ2 v k2 j=>?_;refine My j rfl (by obtain ⟨lv,cv,rfl,_⟩:=H3.out f;rfl) (by rw[List.all_toArray];exact List.all_eq_true.2 (Rep.one f)) fun w3 u3 ag=>?_
 have c:Stp w1 σ1 w3 σ2:=u3.stp k2 v j.1;have S3:=k1.trans c;have Z:=W.up c;have t3:=t1.lift (⟨c.le⟩:SLe σ1 σ2);clear k1 c W f t1 j ag u3 k2 v;refine X4L ?_;refine Z6 ?_;have V: ∀{w' σ'},Stp w σ w' σ'->Glb σ':=fun k=>hg.lift ⟨k.le⟩;refine L4 (cells:= #[I 1,I 5,S [],I 0]) X4 ?_;refine Tv S3.sat fun w4 σ4 o=>?_;have N:=S3.trans o;refine X0p (x:=⟨1,5,[],0⟩) N.sat (V N) (Z.up o) (t3.lift ⟨o.le⟩) ok (GoodH.empty L1) L1 ⟨by decide,by decide,by decide,by decide⟩ fun va w5 k5 ha=>?_
 rw[X75] at ha⊢;have S5:=N.trans k5;refine Z5 (vs:=[_,_]) rfl ?_;refine Z5 (vs:=[_,_]) rfl ?_;refine L4 X61 ?_;refine Tv S5.sat fun w6 σ6 H=>?_;have O:=S5.trans H;have E:=((Z.up o).up k5).up H;have t6:=(t3.lift (⟨o.le⟩:SLe _ _)).lift ⟨H.le⟩;have ab:=ha.up H
 have af: ∀k,va.ownBlock=some k-> ¬D1 k:=fun k z e=>by
  have:=(ha.mem z).1;have:=((Z.up o).mem e).2.1;omega
 refine X0p (x:=Val.zero) O.sat (V O) E t6 ok (GoodH.empty L1) L1 Q7m fun vb w7 J hb=>?_;rw[X76] at hb⊢;have Q:=O.trans J;refine Z5 (vs:=[_,_]) rfl ?_;refine Z5 (vs:=[_,_]) rfl ?_
 have y: ∀k,vb.ownBlock=some k-> ¬D1 k:=fun k z e=>by
  have:=(hb.mem z).1;have:=(E.mem e).2.1;omega
 have L:=GoodH.obj Q40 Q78 (GoodH.empty (ok:=V7) (l:=Q3 W3) (room:=50) L1) gA;refine Q8R Q.sat Q.bel.size (E.up J) t6 ok (k:=gA) L1 L1 L1 fun w8 σ8 D8 D h8 a6=>?_;rw[X8w L1] at h8 L⊢;rw[show atM ([]:List Cel) 0=0 from rfl]
 have ac:=(ab.up J).nx D af;have ae:=hb.nx D y;have S8:Stp w σ w8 σ8:=D.stp' Q fun k z=>((E.up J).mem z).1;have t8:=t6.lift D.le;refine Z5 (vs:=[_,_]) rfl ?_;refine Z5 (vs:=[_,_]) rfl ?_;refine X1n S8.sat fun w9 σ9 k9=>?_;refine Tv k9.sat fun bd bk aj=>?_;have a:=k9.trans aj;have i:=S8.trans a;have q:=h8.up a;have C:=t8.lift (⟨a.le⟩:SLe _ _);refine X0p (x:=rV 0) i.sat (V i) q C ok L L1 ⟨by decide,by decide,by decide,by decide⟩ fun vc be g hc=>?_
 obtain ⟨U,a5⟩:=X77;simp only[List.nil_append] at hc⊢;rw[U];have d:=i.trans g;have r:=(ac.up a).up g;have t:=(ae.up a).up g;have X:=q.up g;refine Z5 (vs:=[_,_]) rfl ?_;refine Z5 (vs:=[_,_]) rfl ?_;refine X4P d.sat r ?_;refine K7 (s:=[0,0,1,1,10]) (u:=[0,0,1,1,10]) ?_;rw[decide_eq_true rfl]
 (repeat refine Hd.h ?_)
 refine C8 ?_;rw[show decide ((0:Int)=0)=true from rfl]
 (repeat refine Hd.h ?_)
 refine X4P d.sat t ?_
 (repeat refine Hd.h ?_)
 refine K7 (s:=[0,0,1,0]) (u:=[0,0,1,0]) ?_;rw[decide_eq_true rfl]
 (repeat refine Hd.h ?_)
 refine C8 ?_;rw[show decide ((0:Int)=0)=true from rfl]
 (repeat refine Hd.h ?_)
 refine C8 ?_;rw[show decide ((0:Int)=0)=true from rfl]
 (repeat refine Hd.h ?_)
 refine C8 ?_;rw[show decide ((0:Int)=0)=true from rfl]
 (repeat refine Hd.h ?_)
 refine Hx hc ?_
 (repeat refine Hd.h ?_)
 refine Oj ?_;rw[decide_eq_true (by omega:(10:Int)<((Ux V7 (Q3 W3) [Kw] [rV 0] 1000 1048576).2.length:Nat))]
 (repeat refine Hd.h ?_)
 refine X1n d.sat fun bf bl B=>?_;have M:=d.trans B
 (repeat refine Hd.h ?_)
 refine B7 (R:=N0) (sz:=4) M.sat [.agg [I (rV 0).sort,I (rV 0).n,S (rV 0).s,I (rV 0).ref].toArray] [rV 0] rfl rfl (by simp;rfl) rfl ⟨⟨rfl,by decide,by decide,by decide,by decide⟩,trivial⟩ fun vl bg bm c ah=>?_
 have b:=B.trans c;have p:=d.trans b;obtain ⟨σf,sf,m,A,_⟩:=(X.up b).freeze p.sat
 (repeat refine Hd.h ?_)
 refine X53 sf A ((C.lift (⟨b.le⟩:SLe _ _)).lift m) (Q7h A L L1 ok) (ah.lift m) fun ba bh bn ak Y=>?_
 (repeat refine Hd.h ?_)
 refine Q6 Y ?_;simp only[List.nil_append];rw[show ((Qk (Q3 W3) (M4 [Kw] (S9 (Q3 W3) [Kw] [rV 0]))).length:Int)=1 by rw[X8l];rfl]
 (repeat refine Hd.h ?_)
 refine C8 ?_;rw[show decide ((1:Int)=1)=true from rfl]
 (repeat refine Hd.h ?_)
 exact h _ _ (p.trans (ak.weak m.le)))
theorem X7K {o:Operand} {a:Addr} {A:Value->World->Prop} (i:X3 w σ) (g:Glb σ) (h: ∀w' σ',Stp w σ w' σ'->A (.bool false) w'):
 Q0 P F.al [] w fun c w=>V8 P .not c w fun b w=>Q1 b false w (fun w J=>J (.pointer (some a)) w) fun d w=>Q1 b false w (Y6 P .eql T.a4 o (.const (.pointer none)) d (.pointer none)) fun e w=>pick P b (.bool true) e w fun f w=>A f w:=by
 refine X1h i g fun w1 σ1 j=>?_;refine Ml ?_;rw[Bool.not_true]
 (repeat refine Hd.h ?_)
 refine X4L ?_
 (repeat refine Hd.h ?_)
 exact h _ _ j
variable {q : Addr} {ds : List Value}
theorem X3k {vs:List Val} {e:Value} {o b:Int} (i:X3 w σ) (g:Glb σ) (H:HS σ hp tv q ds cs) (j:SendOk (Q3 W3) cs) (c:Sl 4 N0 σ e vs)
 (h: ∀a w' σ',Stp w σ w' σ'->Sl 1 Jg σ' a (Ux V7 (Q3 W3) cs vs o b).2->K (.tuple #[a,I (Ux V7 (Q3 W3) cs vs o b).1]) w'):Q0 P F.b7 [hp,e, .agg [I o,I b].toArray] w K:=
 Q8S i g H.h H.t j c fun a w' σ' k c=>by
  obtain ⟨m,f,d,_⟩:=c.keep k;exact h a w' m f d
theorem X4Z (g:X3 w σ) (hh:O5 σ hp tv room cs) (f:J1 cs<=1048576) (h: ∀v w' σ',Stp w σ w' σ'->Sl 2 T1 σ' v cs->K v w'):Q0 P F.aP [hp] w K:=by
 refine X6B g hh f fun v m q p a c=>?_;obtain ⟨n,l,i,d,j⟩:=c.freeze a.sat;exact h v m n ⟨a.bel,l,fun k o e=>i.le k o (a.le k o e),fun k b=>(j k fun e=>by have:=(c.mem e).1;omega).trans (a.old k b)⟩ d
end Go.Proofs.Y
namespace Go.Hm
open Go.Kd Go.Emb
def Q6y (vs:List Val):Bool:=decide (vs.length<=80)&&vs.all fun v=>decide (v.s.length<=5000)
end Go.Hm
namespace Go.Proofs.Y
open Go.Emb Go.RowKit Go.Kd Go.Hm
variable {w w' : World} {K : Value -> World -> Prop} {σ σ' : Q2} {cs : List Cel} {vs : List Val} {v : Value}
theorem X6P (l:X3 w σ) (f:Sl 4 N0 σ v vs) (h:K (.bool (Q6y vs)) w):Q0 P F.bx [v] w K:=Q1e (by
 unfold Er X7 U7 X6 X2 X1;unfold Q6y at h;refine Q6 f ?_;refine Oj ?_
 by_cases e:vs.length<=80
 .rw[decide_eq_false (by omega: ¬(80:Int)<(vs.length:Nat))]
  rw[decide_eq_true e,Bool.true_and] at h;refine Z6 ?_;refine V2 vs.length (fun i w'=>w'=w/\(vs.take i).all (fun v=>decide (v.s.length<=5000))=true) ⟨rfl,by simp⟩ fun i w1 d n c=>?_
  obtain ⟨rfl,a⟩:=c;refine Q6 f ?_;refine Z1 ?_;refine Q4 (fun g=>?_) (fun g=>?_)
  .have b:i<vs.length:=by simpa using g
   obtain ⟨m,o⟩:=Sl.elV f b;refine Y9 f b ?_;refine W5 ?_;refine ld (i:=2) l m rfl ?_;refine Bw Q4k ?_;refine Oj ?_
   by_cases j:vs[i].s.length<=5000
   .rw[decide_eq_false (by omega: ¬(5000:Int)<(vs[i].s.length:Nat))]
    refine Z6 ?_
    (try simp only[↓M1,M1,Mb,reduceIte])
    refine Y7 f.max b ⟨rfl,?_⟩;rw[List.take_add_one,List.getElem?_eq_getElem b,Option.toList_some,List.all_append,a]
    simp[j]
   .rw[decide_eq_true (by omega:(5000:Int)<(vs[i].s.length:Nat))]
    refine J3 ?_
    have:vs.all (fun v=>decide (v.s.length<=5000))=false:=by
     rw[List.all_eq_false];exact ⟨vs[i],List.getElem_mem b,by simpa using j⟩
    rw[this] at h;exact h
  .have k:i=vs.length:=by simp at g;omega
   subst k;rw[List.take_length] at a;rw[a] at h;exact h
 .rw[decide_eq_true (by omega:(80:Int)<(vs.length:Nat))]
  rw[decide_eq_false e,Bool.false_and] at h;exact J3 h)
theorem Q7o {A:Value->World->Prop} (i:X3 w σ) (j:Sl 4 N0 σ v vs) (o:vs.length<=80) (h: ∀d w' σ',Stp w σ w' σ'->Sl 4 N0 σ' d vs->A d w'):buildSlice P T.k 0 [] w fun b w=>J7 P .append [T.k,T.k] T.k [false,false] [b,v] w fun c w=>A c w:=by
 refine Zb (R:=N0) (sz:=4) (Stp.refl i) [] [] rfl rfl V0 (by rfl) trivial fun p w1 g f _=>?_
 refine app g f j (by rfl) (by simp only[List.length_nil];omega) (by simp only[List.length_nil];omega) fun r m n e a _=>?_
 obtain ⟨σ',k,l,_⟩:=a.keep e;exact h _ m σ' k l
set_option maxRecDepth 9999 in
set_option maxHeartbeats 4000000 in
theorem X0P {u:Value} {xs:List ActH} (hs:X3 w σ) (hg:Glb σ) (hu:Sl 8 Pr σ u xs) (hv:Sl 4 N0 σ v vs) (h: ∀w' σ',Stp w σ w' σ'->K (.bool true) w'):Q0 P F.cp [u,v] w K:=Iz (by
 unfold Lf;simp only[Y5,X5,M5,Ya,L6,M9];unfold U7 X8 V6 X6 X1;refine X9K hs hg hu fun a1 bx q1 bo w1 σ1 k1 ok H1=>?_;refine X7K k1.sat (hg.lift ⟨k1.le⟩) fun w3 σ3 k3=>?_;have O:=k1.trans k3;have k:=hg.lift ⟨O.le⟩;have L:=H1.up k3;have m:=hv.up O;have s3:=O.sat;have so:=Q7h L.h (Q5D xs) L1 ok
 have ay:J1 (Cn xs)<=1048576:=by
  have:=(Q5D xs).left;unfold O3 at this;omega
 clear k1 k3 H1;generalize Cn xs=cs at*
 (repeat refine Hd.h ?_)
 refine X6P s3 m ?_
 (repeat refine Hd.h ?_)
 cases D:Q6y vs with
 | false=>
  rw[Bool.not_false];refine J3 ?_;exact X1h s3 k fun w5 σ5 M=>h _ _ (O.trans M)
 | true=>
 rw[Bool.not_true];refine Z6 ?_
 have l:vs.length<=80:=by
  unfold Q6y at D;simp only[Bool.and_eq_true,decide_eq_true_eq] at D;exact D.1
 refine Q7o s3 m l fun va w4 σ4 k4 Z=>?_;refine Tv k4.sat fun w5 σ5 M=>?_;have j:=k4.trans M;refine Q8S M.sat (k.lift ⟨j.le⟩) (L.up j).h (L.up j).t so (Z.up M) fun a w6 σ6 k6 ha=>?_;obtain ⟨C,eC⟩: ∃C,Ux V7 (Q3 W3) cs vs 1000 1048576=C:=⟨_,rfl⟩;rw[eC] at ha⊢;have H:=j.trans k6;refine Z5 (vs:=[_,_]) rfl ?_;refine Z5 (vs:=[_,_]) rfl ?_;refine Q7o k6.sat (m.up H) l fun vb w7 σ7 k7 aa=>?_;refine Tv k7.sat fun w8 σ8 k8=>?_;have z:=k7.trans k8;have s:=H.trans z;refine X3k k8.sat (k.lift ⟨s.le⟩) (L.up s) so (aa.up k8) fun b w9 σ9 k9 f=>?_;rw[eC] at f⊢;refine Z5 (vs:=[_,_]) rfl ?_;refine Z5 (vs:=[_,_]) rfl ?_;have y:=s.trans k9;have a5:=k6.trans (z.trans k9);have S5:=O.trans j;have Q:=(ha.up z).up k9;have H9:=L.up y;have a0:=m.up y;have av:=k.lift ⟨y.le⟩;clear k4 M k6 k7 k8 k9 j H s z y Z aa ha L m k;have ax:C.2.length<=9223372036854775807:=f.max;refine V2 C.2.length (fun i w'=> ∃ys:Q9,ys.length=C.2.length/\Stp w5 σ5 w' σ9/\J6 w5.heap.size T.a1 1 Jg σ9 w' a ys) ⟨C.2,rfl,a5,Q⟩ fun i bz d hi X=>?_;obtain ⟨ys,ab,ae,hA⟩:=X;refine Hx hA ?_;rw[ab];refine Z1 ?_;refine Q4 (fun hc=>?_) (fun hc=>?_)
 .have aw:i<C.2.length:=by simpa using hc
  have Y:i<ys.length:=by omega
  refine X3d hA Y ?_;rw[<-add_zero (Ws 1 a i)];refine X4N (x:=(255:UInt8)) ae hA Y L1 rfl rfl (fun cs hl hR=>by rw[show cs=[_] from hR];rfl) fun ba bi a6 an=>?_
  (try simp only[↓M1,M1,Mb,reduceIte])
  exact Y7 ax aw ⟨_,by simp[ab],a6,an⟩
 clear hA Q;have N:=S5.trans ae;refine Q7o N.sat a0 l fun vc ba b3 ac a2=>?_;refine Tv ac.sat fun b0 b4 E=>?_;have n:=ac.trans E;refine X3k E.sat (av.lift ⟨n.le⟩) (H9.up n) so (a2.up E) fun c bb bd ad W=>?_;rw[eC] at W⊢;refine Z5 (vs:=[_,_]) rfl ?_;refine Z5 (vs:=[_,_]) rfl ?_;have o:=n.trans ad;have ak:=N.trans o;have B:=H9.up o;have R:=f.up o;obtain ⟨lv,cv,am,_,aq⟩:=H3.out B.r;have A:=B.q;rw[am] at A;clear eC;refine W1 ad.sat ?_;refine J4 (V:= .bool true) (fun w f=>C8 (V1 V0)) ?_;refine J4 (V:=I C.1) (fun t w f e=>by subst e;(repeat refine Hd.h ?_);exact V1 rfl) ?_
 refine J4 (V:=I C.1) (fun t w f e=>by subst e;(repeat refine Hd.h ?_);exact V1 rfl) ?_
 refine J4 (V:= .bool true) (fun t J t3 w f e g e3=>by subst e;subst g;subst e3;(repeat refine Hd.h ?_);exact C8 (V1 V0)) ?_
 refine J4 (V:= .bool true) (fun t J w f e g=>by subst e;subst g;(repeat refine Hd.h ?_);exact V1 rfl) ?_
 refine J4 (V:=b) (fun t w f e=>by subst e;(repeat refine Hd.h ?_);exact V1 rfl) ?_
 refine J4 (V:=c) (fun t w f e=>by subst e;(repeat refine Hd.h ?_);exact V1 rfl) ?_
 refine J4 (V:=S C.2) (fun t J w f e g=>by subst e;subst g;(repeat refine Hd.h ?_);exact X3e X3a Q4k f.sat (R.up f.stp) (V1 rfl)) ?_
 refine J4 (V:=S C.2) (fun t J w f e g=>by subst e;subst g;(repeat refine Hd.h ?_);exact X3e X3a Q4k f.sat (W.up f.stp) (V1 rfl)) ?_
 refine J4 (V:= .bool true) (fun t J t3 w f e g e3=>by subst e;subst g;subst e3;(repeat refine Hd.h ?_);exact K7 (V1 V0)) ?_
 refine J4 (V:= .bool true) (fun t J w f e g=>by subst e;subst g;(repeat refine Hd.h ?_);exact V1 rfl) ?_
 refine J4 (V:= .pointer (some a1)) (fun t w f e=>by subst e;(repeat refine Hd.h ?_);exact V1 rfl) ?_
 refine J4 (V:= .pointer (some (q1.add 2))) (fun t w f e=>by subst e;(repeat refine Hd.h ?_);first | exact V1 rfl | exact W5 (V1 rfl)) ?_
 refine Vw (w:=bb) (σ:=bd) (Φ:=fun σ' t=>Sl 2 T1 σ' t cs) (fun t J w f e g=>by
  subst e;subst g
  (repeat refine Hd.h ?_)
  exact X4Z f.sat (B.up f.stp).h ay fun v' w' σ' hk az=>Sq f hk az) ?_
 refine J4 (V:=cv) (fun t J w f e g=>by subst e;subst g;(repeat refine Hd.h ?_);exact ld (i:=2) f.sat (A.up f.stp) rfl (V1 rfl)) ?_
 rintro _ _ _ _ _ _ _ _ _ _ _ _ _ cl _ b1 bg rfl rfl rfl rfl rfl rfl rfl rfl rfl rfl rfl rfl rfl ⟨b5,p,ap⟩ rfl
 (repeat refine Hd.h ?_)
 refine X8I p.sat ap (aq.up p) fun b2 U=>?_
 (repeat refine Hd.h ?_)
 exact h _ _ ((ak.trans p).trans (Stp.of_below p.sat U)))
end Go.Proofs.Y
namespace Go.Proofs.YtlfdfcejjgidpaaGreatDoor.sendKeeps
open Go.Proofs.Y Go.ChangeShapes Go.WideShapes Go.ChangeAt Go.RowKit Go.Emb
theorem own : ownKnob Tryz.prog.godebug = none := by kernel_rfl
theorem lay : laidOutB Tryz.prog = true := by kernel_rfl
set_option maxRecDepth 100000 in
theorem X8z (os : Os) (started : os.Started) (H : Type) (enc : TypeId × Value -> H) :
    ReturnsInHanded {} Tryz.checked os 7 .any (fun w args => (Rows.sendKeepsSpec.pre enc Tryz.prog Tryz.f7 [] false w args /\ laidMetH Tryz.prog laidAll w) /\ sizedMet enc Tryz.prog Tryz.f7 (OpenSpec.ofChange Rows.sendKeepsSpec) false w args) (Rows.sendKeepsSpec.post enc Tryz.prog Tryz.f7 false true false false) := by
  refine returnsInHanded_of_change_and (C := Tryz.checked) (X := fun w _ => laidMetH Tryz.prog laidAll w) (fun _ _ _ hh h => h.of_heap hh) own started (by kernel_rfl) Tryz.func7
    (ChangeSpec.witness_shaped (enc := enc) (C := Tryz.checked) (os := os) (X := fun w _ => laidMetH Tryz.prog laidAll w) false (World.laidAll Tryz.prog os laidAll) #[.slice none 0 0, .slice none 0 0] 8 (World.laidAll_os _ _ _)
      (World.shaped_of_ZipB (by kernel_rfl) (by kernel_rfl)) (by kernel_rfl) (by kernel_rfl) (by kernel_rfl) (by rw [MakeChecks.laidMetH_plain _ _ _ (by kernel_rfl)]; exact laidMet_laidAll _ (by kernel_rfl) (by kernel_rfl))) ?_
  intro W base args ds gs before hval0 hW _ hsz0 hL _
  have hsz : (DataW.weightsEach Tryz.prog (Tryz.f7.params.toList ++ Rows.sendKeepsSpec.plain.varTypes Tryz.prog) (ds ++ gs)).all (· <= reachBytes) = true := hsz0
  have hval : ∀ (j : Nat) t v, Tryz.f7.params[j]? = some t -> args[j]? = some v -> Value.okWide Tryz.prog W .any base t v := hval0
  have hW' := hW
  obtain ⟨p, q, hA0, hV, rfl, hfz, hnd⟩ := hW
  have hA : DataW.TrodAll enc Tryz.prog W 0 (fun _ => true) true Tryz.f7.params.toList args.toList ds p := hA0
  have hlt := DataW.TrodAll.lt hA
  rw [Tryz.params7] at hA hval hsz
  obtain ⟨v0, vs0, d0, ds0, p0, q0, hargs, rfl, rfl, h0, r0⟩ := trodAll_cons hA
  obtain ⟨v1, vs1, d1, ds1, p1, q1, rfl, rfl, rfl, h1, r1⟩ := trodAll_cons r0
  obtain ⟨rfl, rfl, rfl⟩ := trodAll_nil r1
  obtain rfl : args = #[v0, v1] := by cases args; simp_all
  obtain ⟨rfl, rfl⟩ := trodVars_none hV
  have g0 : ∀ x ∈ p0, x.block < W.heap.size := fun x hx => hlt x (by simp [hx])
  have k0 := fun (W' : World) (bel : Below W.heap.size W W') => Below.trod lay (by kernel_rfl) (of_decide_eq_true (by kernel_rfl)) h0 bel g0
  obtain ⟨l0, e0⟩ := X7e (hval 0 45 v0 rfl rfl) h0 (X4K hsz (j := 0) (t := 45) rfl rfl)
  have g1 : ∀ x ∈ p1, x.block < W.heap.size := fun x hx => hlt x (by simp [hx])
  have k1 := fun (W' : World) (bel : Below W.heap.size W W') => Below.trod lay (by kernel_rfl) (of_decide_eq_true (by kernel_rfl)) h1 bel g1
  obtain ⟨l1, e1⟩ := X7f (hval 1 46 v1 rfl rfl) h1 (X4K hsz (j := 1) (t := 46) rfl rfl)
  have hc : Q0 Tryz.prog 7 [v0, v1] W (fun e w' => e = .bool true /\ Below W.heap.size W w') := X0P X4z (X8v hL) e0 e1 (fun w' σ' hb => ⟨rfl, hb.bel⟩)
  refine (Q6R Tryz.func7 (by kernel_rfl) (by kernel_rfl) hc).mono fun e W' he => ?_
  obtain ⟨v, rfl⟩ : ∃ v, e = .returned v := by cases e <;> first | exact ⟨_, rfl⟩ | exact he.elim
  obtain ⟨rfl, bel⟩ := he
  exact ⟨_, rfl, _, _, _, [], _, [], hW', trodAll_mk1 (shut_bool Tryz.underlying4 _), (trodAll_cons_mk (k0 W' bel) (trodAll_cons_mk (k1 W' bel) trodAll_mk0)), rfl, bel.frame _, fun h => by cases h⟩
theorem over : Rows.sendKeepsRow.holds Tryz.pinned (OpenSpec.ofChange Rows.sendKeepsSpec) :=
  OpenClaim.holds_of_wide 7 Tryz.f7 rfl rfl rfl rfl rfl rfl rfl ⟨rfl, rfl, rfl, rfl, rfl⟩ rfl rfl rfl rfl rfl (by kernel_rfl) Tryz.func7 (by kernel_rfl)
    (of_decide_eq_true (by kernel_rfl)) (by unfold Func.isWrapper; first | (rw [if_pos (by decide +kernel)]; kernel_rfl) | (rw [if_neg (by decide +kernel)]; exact ⟨rfl, rfl⟩))
    (fun os started H enc _ => X8z os started H enc)
end Go.Proofs.YtlfdfcejjgidpaaGreatDoor.sendKeeps
namespace Go.Proofs.YtlfdfcejjgidpaaGreatDoor
open Go.Proofs.Y
theorem Q6w : Rows.SendKeepsSaid := sendKeeps.over
end Go.Proofs.YtlfdfcejjgidpaaGreatDoor
