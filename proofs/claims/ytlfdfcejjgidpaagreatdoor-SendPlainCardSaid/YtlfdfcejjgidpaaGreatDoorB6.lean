/- Parts of a proof about the given program: its functions as texts of their own, what each computes, plain laws of that. The conditions of each stand in its statement. -/
import Derived.Test.YtlfdfcejjgidpaaGreatDoorB5
import Derived.Test.YtlfdfcejjgidpaaGreatDoorB4
import Derived.Test.YtlfdfcejjgidpaaGreatDoorB3
import Derived.Test.YtlfdfcejjgidpaaGreatDoorRows
import Derived.WalkKit
import Derived.ProofKit
import Derived.OpenShut
import Derived.ShutString
import Derived.ChangeOld
import Derived.Below
import Derived.SizedLaws
import Derived.Lay
import Derived.Carry
import Derived.MakeChecks
import Derived.PinnedBridge
set_option linter.unnecessarySimpa false
set_option linter.defProp false
set_option linter.unusedSectionVars false
set_option linter.unusedVariables false
set_option linter.unusedSimpArgs false
namespace Go.Proofs.Y
open Go.Emb Go.RowKit Go.Kd Go.Hm
variable {w : World} {K : Value -> World -> Prop} {σ : Q2}
def Q8f (c:Cla):Bool:=((((O6 c.name&&O6 c.super&& !decide (c.name=c.super))&&(List.range c.like.length).all fun i=>Ox c i&&(List.range i).all (Qo c i))&&(List.range c.fields.length).all fun i=>Et c i&&(List.range i).all (Yl c i))&&(List.range c.methods.length).all fun i=>Oy c i&&(List.range i).all (Yp c i))&&X08 c
theorem X33 {α:Type} {f:α->Q8}: ∀(xs a:List α),I2 f a xs=true↔(xs.map f).Nodup/\ ∀x∈xs,∀y∈a,f y≠f x:=by
 intro xs
 induction xs with
 | nil=>intro a;simp[I2]
 | cons x r h=>
  intro a;simp only[I2,Bool.and_eq_true,h,Bool.not_eq_true',List.map_cons,List.nodup_cons];rw[<-Bool.not_eq_true,List.any_eq_true];simp only[decide_eq_true_eq,not_exists,not_and,List.mem_append,List.mem_cons,List.not_mem_nil,or_false,List.mem_map];constructor
  .rintro ⟨d,g,c⟩
   refine ⟨⟨fun y hy e=>c y hy x (.inr rfl) e.symm,g⟩,fun y hy z b=>?_⟩
   rcases hy with rfl | hy
   .exact d z b
   .exact c y hy z (.inl b)
  .rintro ⟨⟨d,g⟩,c⟩
   refine ⟨fun y hy=>c x (.inl rfl) y hy,g,fun y hy z b=>?_⟩
   rcases b with b | rfl
   .exact c y (.inr hy) z b
   .exact fun e=>d y hy e.symm
theorem Q20 {α:Type} {f:α->Q8} {xs:List α} {p:α->Bool} {P:Nat->Bool} {Q:Nat->Nat->Bool} (c: ∀i (h:i<xs.length),P i=p xs[i]) (d: ∀i (h:i<xs.length) k (o:k<xs.length),Q i k= !decide (f xs[k]=f xs[i])):
 ((List.range xs.length).all fun i=>P i&&(List.range i).all (Q i))=true↔(∀x∈xs,p x=true)/\I2 f [] xs=true:=by
 rw[X33,List.all_eq_true];simp only[List.mem_range,Bool.and_eq_true,List.all_eq_true,List.not_mem_nil,false_implies,implies_true,and_true];rw[List.nodup_iff_pairwise_ne,List.pairwise_iff_getElem];simp only[List.length_map,List.getElem_map];constructor
 .intro h
  refine ⟨fun x n=>?_,fun i j a e b=>?_⟩
  .obtain ⟨i,a,rfl⟩:=List.getElem_of_mem n
   rw[<-c i a];exact (h i a).1
  .have:=(h j e).2 i b
   rw[d j e i a] at this
   simpa using this
 .rintro ⟨g,l⟩ i a
  refine ⟨by rw[c i a];exact g _ (List.getElem_mem a),fun k m=>?_⟩
  rw[d i a k Q4]
  simpa using l k i Q4 a m
theorem X3i (c:Cla):Q8f c=Ro c:=by
 have A:=Q20 (f:=id) (xs:=c.like) (p:=fun y=>O6 y&& !decide (y=c.name)) (P:=Ox c) (Q:=Qo c) (fun i h=>by unfold Ox;rw[B1 h]) (fun i h k l=>by unfold Qo;rw[B1 h,B1 l];rfl)
 have g:=Q20 (f:=Fld.name) (xs:=c.fields) (p:=fun f=>D3 f.name&&right f.kind&& !c.iface) (P:=Et c) (Q:=Yl c) (fun i h=>by unfold Et Fi;rw[B1 h]) (fun i h k l=>by unfold Yl Fi;rw[B1 h,B1 l])
 have d:=Q20 (f:=Hm.Met.name) (xs:=c.methods) (p:=fun m=>T7 m&&(!m.abs||c.abs)&&(!c.iface||m.abs)) (P:=Oy c) (Q:=Yp c) (fun i h=>by unfold Oy Sf;rw[B1 h]) (fun i h k l=>by unfold Yp Sf;rw[B1 h,B1 l])
 rw[Bool.eq_iff_iff];unfold Q8f Ro X08;simp only[Bool.and_eq_true,A,g,d];simp only[Bool.and_eq_true,Bool.not_eq_true',Bool.or_eq_true,Bool.and_eq_false_iff,Bool.or_eq_false_iff,decide_eq_true_eq,decide_eq_false_iff_not,List.all_eq_true,List.mem_cons,List.any_eq_false,Ce,Bool.not_eq_false'];constructor
 .rintro ⟨⟨⟨⟨⟨⟨n,o⟩,r⟩,a,s⟩,h6,t⟩,j,u⟩,b,q⟩
  refine ⟨⟨⟨⟨⟨⟨⟨⟨?_,?_⟩,s⟩,?_⟩,q,?_⟩,t⟩,u⟩,?_⟩,fun m d=>(j m d).1.1⟩
  .rintro x (rfl | rfl | hx)
   .exact n
   .exact o
   .exact (a x hx).1
  .rintro x (rfl | hx)
   .exact r
   .exact fun e=>(a x hx).2 e.symm
  .cases z:c.iface with
   | false=>exact .inl rfl
   | true=>
    rw[z] at b h6 j;have b:=b.resolve_left M5;refine .inr ⟨⟨b,?_⟩,fun m d e=>?_⟩
    .rw[List.eq_nil_iff_forall_not_mem]
     intro f g;exact absurd (h6 f g).2 M5
    .have:=(j m d).2.resolve_left M5
     rw[this] at e;cases e
  .cases v:c.abs with
   | true=>exact .inr rfl
   | false=>
    rw[v] at j;refine .inl fun m d e=>?_;have:=(j m d).1.2.resolve_right M5;rw[this] at e;cases e
  .exact fun f g=>(h6 f g).1
 .rintro ⟨⟨⟨⟨⟨⟨⟨⟨n,o⟩,r⟩,a⟩,s,h6⟩,t⟩,j⟩,u⟩,b⟩
  refine ⟨⟨⟨⟨⟨⟨n _ (.inl rfl),n _ (.inr (.inl rfl))⟩,o _ (.inl rfl)⟩,fun x hx=>⟨n x (.inr (.inr hx)),fun e=>o x (.inr hx) e.symm⟩,r⟩,fun f g=>⟨u f g,?_⟩,t⟩,fun m d=>⟨⟨b m d,?_⟩,?_⟩,j⟩,?_,s⟩
  .rcases a with a | ⟨⟨_,a⟩,_⟩
   .exact a
   .rw[a] at g;simp at g
  .rcases h6 with h6 | h6
   .left;exact eq_false_of_ne_true (h6 m d)
   .exact .inr h6
  .rcases a with a | ⟨_,a⟩
   .exact .inl a
   .right
    cases hx:m.abs with
    | true=>rfl
    | false=>exact absurd hx (a m d)
  .rcases a with a | ⟨⟨a,_⟩,_⟩
   .exact .inl a
   .exact .inr a
set_option maxRecDepth 9999 in
set_option maxHeartbeats 4000000 in
theorem X25 {c:Cla} {cs:List Value} (hs:X1 w σ) (hc:W8 σ c cs) (h: ∀w' σ',Stp w σ w' σ'->K (.bool (Q8f c)) w'):Q0 P F.bl [.agg cs.toArray] w K:=As (by
 unfold Oh;simp only[Z1,Y1,D0,En,M4];unfold J5 Y2 Z5 Y0 W0 X7 X5 V5 X2;obtain ⟨lv,fv,mv,rfl,f1,f2,f3,f4,f5⟩:=hc;have cr:c.name.length<=140737488355328:=by simp only[U9] at f4;omega
 have ct:c.super.length<=140737488355328:=by simp only[U9] at f5;omega
 refine J1 hs fun q w1 σ1 bd hq=>?_;have g1:=f1.up bd;have g2:=f2.up bd;have g3:=f3.up bd;have bf:=bd.sat
 have ch: ∀ok:Bool,ok=(O6 c.name&&O6 c.super&& !decide (c.name=c.super))->_:=fun ok e=>
  X2W (w1:=w1) (σ1:=σ1) (ok:=ok) bf hq (J:=fun v w=>lp (α:=Value×Value) (v,(.int .i64 0)) w fun bb o d_ w=>
   fieldAddr P T.a (.pointer (some q)) 6 w fun cu w=>
   Q9 P T.h cu w fun cv w=>
   V9 P .len [T.h] T.d [false] [cv] w fun cw w=>
   Y5 P .lss T.d (.tmp 71) (.tmp 74) o.2 cw w fun cx w=>
   X0 cx (
    Q1 o.1 true w (fieldAddr P T.a (.pointer (some q)) 6) fun cz w=>
    Q1 o.1 true w (Q9 P T.h cz) fun c0 w=>
    Q1 o.1 true w (fun w J=>J o.2 w) fun c1 w=>
    Q1 o.1 true w (indexAddr P T.h c0 c1) fun c2 w=>
    Q1 o.1 true w (fieldAddr P T.j c2 0) fun c3 w=>
    Q1 o.1 true w (Q9 P T.b c3) fun c4 w=>
    Q1 o.1 true w (Q0 P F.v [c4]) fun c5 w=>
    pick P o.1 c5 (.bool false) w fun am w=>
    Q1 am true w (fieldAddr P T.a (.pointer (some q)) 6) fun c6 w=>
    Q1 am true w (Q9 P T.h c6) fun c7 w=>
    Q1 am true w (fun w J=>J o.2 w) fun c8 w=>
    Q1 am true w (indexAddr P T.h c7 c8) fun c9 w=>
    Q1 am true w (fieldAddr P T.j c9 1) fun da w=>
    Q1 am true w (Q9 P T.b da) fun db w=>
    Q1 am true w (Q0 P F.h [db]) fun dc w=>
    pick P am dc (.bool false) w fun cd w=>
    Q1 cd true w (fieldAddr P T.a (.pointer (some q)) 3) fun dd w=>
    Q1 cd true w (Q9 P T.n dd) fun de w=>
    Q1 cd true w (V1 P .not de) fun ck w=>
    pick P cd ck (.bool false) w fun cl w=>
    lp (α:=Value×Value) (cl,(.int .i64 0)) w fun bc l d_ w=>
     Y5 P .lss T.d (.tmp 102) (.tmp 103) l.2 o.2 w fun cm w=>
     X0 cm (
      dr w fun d n=>
      J8 d (fun a1=> ∀w:World,n w->Q1 l.1 true w (fieldAddr P T.a (.pointer (some q)) 6) (dk d a1 w)) fun a1=>
      J8 d (fun a3=> ∀w:World,n w->Q1 l.1 true w (fun w J=>J l.2 w) (dk d a3 w)) fun a3=>
      J8 d (fun a6=> ∀w:World,n w->Q1 l.1 true w (fieldAddr P T.a (.pointer (some q)) 6) (dk d a6 w)) fun a6=>
      J8 d (fun a8=> ∀w:World,n w->Q1 l.1 true w (fun w J=>J o.2 w) (dk d a8 w)) fun a8=>
      J8 d (fun a2=> ∀ao:Value,∀w:World,n w->a1 ao w->Q1 l.1 true w (Q9 P T.h ao) (dk d a2 w)) fun a2=>
      J8 d (fun a4=> ∀ap:Value,∀aq:Value,∀w:World,n w->a2 ap w->a3 aq w->Q1 l.1 true w (indexAddr P T.h ap aq) (dk d a4 w)) fun a4=>
      J8 d (fun a5=> ∀ar:Value,∀w:World,n w->a4 ar w->Q1 l.1 true w (fieldAddr P T.j ar 0) (dk d a5 w)) fun a5=>
      J8 d (fun cb=> ∀av:Value,∀w:World,n w->a5 av w->Q1 l.1 true w (Q9 P T.b av) (dk d cb w)) fun cb=>
      J8 d (fun a7=> ∀aw:Value,∀w:World,n w->a6 aw w->Q1 l.1 true w (Q9 P T.h aw) (dk d a7 w)) fun a7=>
      J8 d (fun a9=> ∀ax:Value,∀ay:Value,∀w:World,n w->a7 ax w->a8 ay w->Q1 l.1 true w (indexAddr P T.h ax ay) (dk d a9 w)) fun a9=>
      J8 d (fun ba=> ∀az:Value,∀w:World,n w->a9 az w->Q1 l.1 true w (fieldAddr P T.j az 0) (dk d ba w)) fun ba=>
      J8 d (fun cc=> ∀a0:Value,∀w:World,n w->ba a0 w->Q1 l.1 true w (Q9 P T.b a0) (dk d cc w)) fun cc=>
      ∀ao:Value,∀aq:Value,∀aw:Value,∀ay:Value,∀ap:Value,∀ar:Value,∀av:Value,∀cf:Value,∀ax:Value,∀az:Value,∀a0:Value,∀cg:Value,∀w:World,n w->a1 ao w->a3 aq w->a6 aw w->a8 ay w->a2 ap w->a4 ar w->a5 av w->cb cf w->a7 ax w->a9 az w->ba a0 w->cc cg w->
      Q1 l.1 true w (Y5 P .neq T.b (.tmp 114) (.tmp 120) cf cg) fun co w=>
      pick P l.1 co (.bool false) w fun cp w=>
      Y5 P .add T.d (.tmp 105) (.const (.int .i64 1)) l.2 (.int .i64 1) w fun cn w=>
      bc (cp,cn) w) (
      Y5 P .add T.d (.tmp 76) (.const (.int .i64 1)) o.2 (.int .i64 1) w fun cy w=>
      bb (l.1,cy) w)) (
    lp (α:=Value×Value) (o.1,(.int .i64 0)) w fun H f d_ w=>
     fieldAddr P T.a (.pointer (some q)) 7 w fun bg w=>
     Q9 P T.f bg w fun bh w=>
     V9 P .len [T.f] T.d [false] [bh] w fun bi w=>
     Y5 P .lss T.d (.tmp 123) (.tmp 126) f.2 bi w fun bj w=>
     X0 bj (
      fieldAddr P T.a (.pointer (some q)) 7 w fun bl w=>
      Q9 P T.f bl w fun bm w=>
      indexAddr P T.f bm f.2 w fun bn w=>
      Q9 P T.c bn w fun bo w=>
      Qh P T.c w fun t9 w=>
      M3 P T.c t9 bo w fun _u w=>
      Q1 f.1 true w (Q9 P T.c t9) fun bp w=>
      Q1 f.1 true w (Q0 P F.a2 [bp]) fun bq w=>
      pick P f.1 bq (.bool false) w fun j w=>
      Q1 j true w (fieldAddr P T.c t9 3) fun br w=>
      Q1 j true w (Q9 P T.n br) fun bs w=>
      Q1 j true w (V1 P .not bs) fun bu w=>
      Q1 j true w (fun w J=>J bu w) fun M w=>
      Q1 M false w (fieldAddr P T.a (.pointer (some q)) 4) fun bv w=>
      Q1 M false w (Q9 P T.n bv) fun bw w=>
      Q1 j true w (pick P M (.bool true) bw) fun bx w=>
      pick P j bx (.bool false) w fun k w=>
      Q1 k true w (fieldAddr P T.a (.pointer (some q)) 3) fun bz w=>
      Q1 k true w (Q9 P T.n bz) fun b0 w=>
      Q1 k true w (V1 P .not b0) fun b1 w=>
      Q1 k true w (fun w J=>J b1 w) fun N w=>
      Q1 N false w (fieldAddr P T.c t9 3) fun b2 w=>
      Q1 N false w (Q9 P T.n b2) fun b3 w=>
      Q1 k true w (pick P N (.bool true) b3) fun b4 w=>
      pick P k b4 (.bool false) w fun b5 w=>
      lp (α:=Value×Value) (b5,(.int .i64 0)) w fun L b d_ w=>
       Y5 P .lss T.d (.tmp 158) (.tmp 159) b.2 f.2 w fun b6 w=>
       X0 b6 (
        dr w fun d n=>
        J8 d (fun z=> ∀w:World,n w->Q1 b.1 true w (fieldAddr P T.a (.pointer (some q)) 7) (dk d z w)) fun z=>
        J8 d (fun B=> ∀w:World,n w->Q1 b.1 true w (fun w J=>J b.2 w) (dk d B w)) fun B=>
        J8 d (fun E=> ∀w:World,n w->Q1 b.1 true w (fieldAddr P T.c t9 0) (dk d E w)) fun E=>
        J8 d (fun A=> ∀p:Value,∀w:World,n w->z p w->Q1 b.1 true w (Q9 P T.f p) (dk d A w)) fun A=>
        J8 d (fun C=> ∀r:Value,∀s:Value,∀w:World,n w->A r w->B s w->Q1 b.1 true w (indexAddr P T.f r s) (dk d C w)) fun C=>
        J8 d (fun D=> ∀t:Value,∀w:World,n w->C t w->Q1 b.1 true w (fieldAddr P T.c t 0) (dk d D w)) fun D=>
        J8 d (fun O=> ∀u:Value,∀w:World,n w->D u w->Q1 b.1 true w (Q9 P T.b u) (dk d O w)) fun O=>
        J8 d (fun Q=> ∀y:Value,∀w:World,n w->E y w->Q1 b.1 true w (Q9 P T.b y) (dk d Q w)) fun Q=>
        ∀p:Value,∀s:Value,∀y:Value,∀r:Value,∀t:Value,∀u:Value,∀R:Value,∀U:Value,∀w:World,n w->z p w->B s w->E y w->A r w->C t w->D u w->O R w->Q U w->
        Q1 b.1 true w (Y5 P .neq T.b (.tmp 170) (.tmp 172) R U) fun b8 w=>
        pick P b.1 b8 (.bool false) w fun b9 w=>
        Y5 P .add T.d (.tmp 161) (.const (.int .i64 1)) b.2 (.int .i64 1) w fun b7 w=>
        L (b9,b7) w) (
        Y5 P .add T.d (.tmp 128) (.const (.int .i64 1)) f.2 (.int .i64 1) w fun bk w=>
        H (b.1,bk) w)) (
      Q1 f.1 true w (fieldAddr P T.a (.pointer (some q)) 3) fun V w=>
      Q1 f.1 true w (Q9 P T.n V) fun W w=>
      Q1 f.1 true w (V1 P .not W) fun X w=>
      Q1 f.1 true w (fun w J=>J X w) fun g w=>
      Q1 g false w (fieldAddr P T.a (.pointer (some q)) 4) fun Y w=>
      Q1 g false w (Q9 P T.n Y) fun Z w=>
      Q1 g false w (fun w J=>J Z w) fun i w=>
      Q1 i true w (fieldAddr P T.a (.pointer (some q)) 1) fun aa w=>
      Q1 i true w (Q9 P T.b aa) fun ab w=>
      Q1 i true w (Y5 P .eql T.b (.tmp 185) (.const (.string ⟨#[79,98,106,101,99,116]⟩)) ab (.string ⟨#[79,98,106,101,99,116]⟩)) fun ac w=>
      Q1 g false w (pick P i ac (.bool false)) fun ad w=>
      Q1 f.1 true w (pick P g (.bool true) ad) fun ae w=>
      pick P f.1 ae (.bool false) w fun a w=>
      Q1 a true w (fieldAddr P T.a (.pointer (some q)) 4) fun af w=>
      Q1 a true w (Q9 P T.n af) fun ag w=>
      Q1 a true w (fun w J=>J ag w) fun m w=>
      Q1 m true w (fieldAddr P T.a (.pointer (some q)) 5) fun ah w=>
      Q1 m true w (Q9 P T.n ah) fun ai w=>
      Q1 a true w (pick P m ai (.bool false)) fun aj w=>
      Q1 a true w (V1 P .not aj) fun ak w=>
      pick P a ak (.bool false) w fun al w=>
      K al w))) f4 g1 fun w2 σ2 an=>
  X4C (J:=fun v w=>lp (α:=Value×Value) (v,(.int .i64 0)) w fun H f d_ w=>
   fieldAddr P T.a (.pointer (some q)) 7 w fun bg w=>
   Q9 P T.f bg w fun bh w=>
   V9 P .len [T.f] T.d [false] [bh] w fun bi w=>
   Y5 P .lss T.d (.tmp 123) (.tmp 126) f.2 bi w fun bj w=>
   X0 bj (
    fieldAddr P T.a (.pointer (some q)) 7 w fun bl w=>
    Q9 P T.f bl w fun bm w=>
    indexAddr P T.f bm f.2 w fun bn w=>
    Q9 P T.c bn w fun bo w=>
    Qh P T.c w fun t9 w=>
    M3 P T.c t9 bo w fun _u w=>
    Q1 f.1 true w (Q9 P T.c t9) fun bp w=>
    Q1 f.1 true w (Q0 P F.a2 [bp]) fun bq w=>
    pick P f.1 bq (.bool false) w fun j w=>
    Q1 j true w (fieldAddr P T.c t9 3) fun br w=>
    Q1 j true w (Q9 P T.n br) fun bs w=>
    Q1 j true w (V1 P .not bs) fun bu w=>
    Q1 j true w (fun w J=>J bu w) fun M w=>
    Q1 M false w (fieldAddr P T.a (.pointer (some q)) 4) fun bv w=>
    Q1 M false w (Q9 P T.n bv) fun bw w=>
    Q1 j true w (pick P M (.bool true) bw) fun bx w=>
    pick P j bx (.bool false) w fun k w=>
    Q1 k true w (fieldAddr P T.a (.pointer (some q)) 3) fun bz w=>
    Q1 k true w (Q9 P T.n bz) fun b0 w=>
    Q1 k true w (V1 P .not b0) fun b1 w=>
    Q1 k true w (fun w J=>J b1 w) fun N w=>
    Q1 N false w (fieldAddr P T.c t9 3) fun b2 w=>
    Q1 N false w (Q9 P T.n b2) fun b3 w=>
    Q1 k true w (pick P N (.bool true) b3) fun b4 w=>
    pick P k b4 (.bool false) w fun b5 w=>
    lp (α:=Value×Value) (b5,(.int .i64 0)) w fun L b d_ w=>
     Y5 P .lss T.d (.tmp 158) (.tmp 159) b.2 f.2 w fun b6 w=>
     X0 b6 (
      dr w fun d n=>
      J8 d (fun z=> ∀w:World,n w->Q1 b.1 true w (fieldAddr P T.a (.pointer (some q)) 7) (dk d z w)) fun z=>
      J8 d (fun B=> ∀w:World,n w->Q1 b.1 true w (fun w J=>J b.2 w) (dk d B w)) fun B=>
      J8 d (fun E=> ∀w:World,n w->Q1 b.1 true w (fieldAddr P T.c t9 0) (dk d E w)) fun E=>
      J8 d (fun A=> ∀p:Value,∀w:World,n w->z p w->Q1 b.1 true w (Q9 P T.f p) (dk d A w)) fun A=>
      J8 d (fun C=> ∀r:Value,∀s:Value,∀w:World,n w->A r w->B s w->Q1 b.1 true w (indexAddr P T.f r s) (dk d C w)) fun C=>
      J8 d (fun D=> ∀t:Value,∀w:World,n w->C t w->Q1 b.1 true w (fieldAddr P T.c t 0) (dk d D w)) fun D=>
      J8 d (fun O=> ∀u:Value,∀w:World,n w->D u w->Q1 b.1 true w (Q9 P T.b u) (dk d O w)) fun O=>
      J8 d (fun Q=> ∀y:Value,∀w:World,n w->E y w->Q1 b.1 true w (Q9 P T.b y) (dk d Q w)) fun Q=>
      ∀p:Value,∀s:Value,∀y:Value,∀r:Value,∀t:Value,∀u:Value,∀R:Value,∀U:Value,∀w:World,n w->z p w->B s w->E y w->A r w->C t w->D u w->O R w->Q U w->
      Q1 b.1 true w (Y5 P .neq T.b (.tmp 170) (.tmp 172) R U) fun b8 w=>
      pick P b.1 b8 (.bool false) w fun b9 w=>
      Y5 P .add T.d (.tmp 161) (.const (.int .i64 1)) b.2 (.int .i64 1) w fun b7 w=>
      L (b9,b7) w) (
      Y5 P .add T.d (.tmp 128) (.const (.int .i64 1)) f.2 (.int .i64 1) w fun bk w=>
      H (b.1,bk) w)) (
    Q1 f.1 true w (fieldAddr P T.a (.pointer (some q)) 3) fun V w=>
    Q1 f.1 true w (Q9 P T.n V) fun W w=>
    Q1 f.1 true w (V1 P .not W) fun X w=>
    Q1 f.1 true w (fun w J=>J X w) fun g w=>
    Q1 g false w (fieldAddr P T.a (.pointer (some q)) 4) fun Y w=>
    Q1 g false w (Q9 P T.n Y) fun Z w=>
    Q1 g false w (fun w J=>J Z w) fun i w=>
    Q1 i true w (fieldAddr P T.a (.pointer (some q)) 1) fun aa w=>
    Q1 i true w (Q9 P T.b aa) fun ab w=>
    Q1 i true w (Y5 P .eql T.b (.tmp 185) (.const (.string ⟨#[79,98,106,101,99,116]⟩)) ab (.string ⟨#[79,98,106,101,99,116]⟩)) fun ac w=>
    Q1 g false w (pick P i ac (.bool false)) fun ad w=>
    Q1 f.1 true w (pick P g (.bool true) ad) fun ae w=>
    pick P f.1 ae (.bool false) w fun a w=>
    Q1 a true w (fieldAddr P T.a (.pointer (some q)) 4) fun af w=>
    Q1 a true w (Q9 P T.n af) fun ag w=>
    Q1 a true w (fun w J=>J ag w) fun m w=>
    Q1 m true w (fieldAddr P T.a (.pointer (some q)) 5) fun ah w=>
    Q1 m true w (Q9 P T.n ah) fun ai w=>
    Q1 a true w (pick P m ai (.bool false)) fun aj w=>
    Q1 a true w (V1 P .not aj) fun ak w=>
    pick P a ak (.bool false) w fun al w=>
    K al w)) an.sat (hq.up an) (g2.up an) fun w3 σ3 be=>
  X4I (J:=fun v w=>Q1 v true w (fieldAddr P T.a (.pointer (some q)) 3) fun V w=>
   Q1 v true w (Q9 P T.n V) fun W w=>
   Q1 v true w (V1 P .not W) fun X w=>
   Q1 v true w (fun w J=>J X w) fun g w=>
   Q1 g false w (fieldAddr P T.a (.pointer (some q)) 4) fun Y w=>
   Q1 g false w (Q9 P T.n Y) fun Z w=>
   Q1 g false w (fun w J=>J Z w) fun i w=>
   Q1 i true w (fieldAddr P T.a (.pointer (some q)) 1) fun aa w=>
   Q1 i true w (Q9 P T.b aa) fun ab w=>
   Q1 i true w (Y5 P .eql T.b (.tmp 185) (.const (.string ⟨#[79,98,106,101,99,116]⟩)) ab (.string ⟨#[79,98,106,101,99,116]⟩)) fun ac w=>
   Q1 g false w (pick P i ac (.bool false)) fun ad w=>
   Q1 v true w (pick P g (.bool true) ad) fun ae w=>
   pick P v ae (.bool false) w fun a w=>
   Q1 a true w (fieldAddr P T.a (.pointer (some q)) 4) fun af w=>
   Q1 a true w (Q9 P T.n af) fun ag w=>
   Q1 a true w (fun w J=>J ag w) fun m w=>
   Q1 m true w (fieldAddr P T.a (.pointer (some q)) 5) fun ah w=>
   Q1 m true w (Q9 P T.n ah) fun ai w=>
   Q1 a true w (pick P m ai (.bool false)) fun aj w=>
   Q1 a true w (V1 P .not aj) fun ak w=>
   pick P a ak (.bool false) w fun al w=>
   K al w) be.sat ((hq.up an).up be) ((g3.up an).up be) fun w4 σ4 ci=>
  X4z (K:=K) ci.sat (((hq.up an).up be).up ci) (by rw[e];exact h _ _ (bd.trans (an.trans (be.trans ci))))
 (repeat refine Hd.h ?_)
 refine ld bf hq rfl ?_;refine Zi c.name cr ?_;cases d1:O6 c.name with
 | false=>(repeat refine Hd.h ?_);exact ch false (by rw[d1];rfl)
 | true=>
  (repeat refine Hd.h ?_)
  refine ld bf hq rfl ?_
  (repeat refine Hd.h ?_)
  refine Zi c.super ct ?_;cases d2:O6 c.super with
  | false=>(repeat refine Hd.h ?_);exact ch false (by rw[d1,d2];rfl)
  | true=>
   (repeat refine Hd.h ?_)
   refine ld bf hq rfl ?_
   (repeat refine Hd.h ?_)
   refine ld bf hq rfl ?_
   (repeat refine Hd.h ?_)
   refine Hl ?_
   (repeat refine Hd.h ?_)
   exact ch _ (by rw[d1,d2];rfl))
theorem Q5u {c:Cla} {cs:List Value} (r:X1 w σ) (d:W8 σ c cs) (h: ∀w' t,Stp w σ w' t->K (I (E2 c)) w'):Q0 P F.bk [.agg cs.toArray] w K:=Ar (by
 unfold Og;have g:=Rep.one (R:=W8) d;obtain ⟨s,p,mv,rfl,k,l,m,n,o⟩:=d;have d:W8 σ c _:=⟨s,p,mv,rfl,k,l,m,n,o⟩;refine J1 r fun q w1 σ1 a i=>?_;unfold E2 at h;refine Z8 a.sat i rfl ?_;refine X3g a.sat (RCl_lift d ⟨a.le⟩) fun u y b=>?_;cases f:Jr c with
 | true=>simp only[f,if_true] at h;(try simp only[↓M1,M1,Mb,reduceIte]);exact h _ _ (a.trans b)
 | false=>
  simp only[f,Bool.false_eq_true,if_false] at h
  (try simp only[↓M1,M1,Mb,reduceIte])
  refine Z8 b.sat (i.up b) rfl ?_;refine X25 b.sat (RCl_lift d ⟨(a.trans b).le⟩) fun v z e=>?_;rw[X3i];cases j:Ro c with
  | true=>simp only[j,if_true] at h;(try simp only[↓M1,M1,Mb,reduceIte]);exact h _ _ (a.trans (b.trans e))
  | false=>simp only[j,Bool.false_eq_true,if_false] at h;(try simp only[↓M1,M1,Mb,reduceIte]);exact h _ _ (a.trans (b.trans e)))
end Go.Proofs.Y
namespace Go.Hm
open Go.Kd
theorem X0a {a:List Cla} {m:Nat} (b:m<a.length):Z7 a (Y7 a m)=some m↔Z7 (a.take m) (Y7 a m)=none:=by
 have g:Y7 a m=a[m].name:=by unfold Y7;rw[List.getD_eq_getElem?_getD,List.getElem?_eq_getElem b];rfl
 unfold Z7;rw[List.findIdx?_eq_some_iff_getElem,List.findIdx?_eq_none_iff];constructor
 .rintro ⟨i,k,d⟩ c e
  obtain ⟨j,f,rfl⟩:=List.mem_take_iff_getElem.1 e
  simpa using d j (by omega)
 .intro h
  refine ⟨b,by simp[g],fun j f=>?_⟩
  simpa using h a[j] (List.mem_take_iff_getElem.2 ⟨j,by omega,rfl⟩)
theorem X0v {a:List Cla} (d:A9 a) {m:Nat} (b:m<a.length):Vx a (Y7 a m) (Y7 a m)=A0 a a[m]:=by
 have c:Y7 a m=a[m].name:=by unfold Y7;rw[List.getD_eq_getElem?_getD,List.getElem?_eq_getElem b];rfl
 unfold Vx A0;rw[Zh d b,List.getD_eq_getElem?_getD,List.getElem?_eq_getElem b];simp only[Option.getD_some,c]
end Go.Hm
namespace Go.Proofs.Y
open Go.Emb Go.RowKit Go.Kd Go.Hm
variable {w : World} {K : Value -> World -> Prop} {σ : Q2} {l : List Cla}
theorem X0f: ∀c∈T6,Jr c=false:=by decide
theorem Q9Z {c:Cla} (h:E2 c=0):Jr c=false:=by
 unfold E2 at h
 split at h
 .cases h
 .rename_i a;exact eq_false_of_ne_true a
set_option maxRecDepth 9999 in
set_option maxHeartbeats 4000000 in
theorem X4V {lv:Value} (hs:X1 w σ) (hl:Sl 8 W8 σ lv l) (cw:l.length<=900)
 (C: ∀i e w' B,Cs E2 l=some (i,e)->Stp w σ w' B->K (.tuple #[.slice none 0 0,I i,I e]) w')
 (h0: ∀v w' B,Cs E2 l=none->Stp w σ w' B->Sl 8 W8 B v (Q5 l)->Ok (Q5 l)->A9 (Q5 l)->K (.tuple #[v,I 0,I 0]) w'):Q0 P F.bL [lv] w K:=Q1X (by
 unfold Rd;simp only[Z1];unfold Y2 Z5 U4 X7 X5 X2;have t:T6.length=8:=rfl;have c8:(Q5 l).length=8+l.length:=by simp[Q5,t]
 refine X21 hs fun x0 w1 σ1 bu be=>?_;refine Q9N be ?_;rw[t]
 refine O7 l.length (fun n x w'=> ∃B,Stp w σ w' B/\W1 w.heap.size T.a 8 W8 B w' x (T6++l.take n)/\D2 E2 l 0=D2 E2 (l.drop n) n)
  ⟨σ1,bu,by simpa using be,rfl⟩ fun n x w4 d H f=>?_
 obtain ⟨σ4,Y,ay,D⟩:=f;have ab:=hl.up Y;refine Q6 ab ?_;refine Z4 ?_;refine Q3 (fun hh=>?_) (fun hh=>?_)
 .have a:n<l.length:=by simpa using hh
  obtain ⟨b9,bk,ca,p1,r1⟩:=ab.elC a;refine U2 ab a ?_;refine Z8 Y.sat p1 rfl ?_;refine Q5u Y.sat r1 fun w6 σ6 aa=>?_;have bn:=Y.trans aa;have Q:=Lo a D;refine Sr ?_;refine Q3 (fun m=>?_) (fun m=>?_)
  .have A: ¬E2 l[n]=0:=by simpa using m
   rw[if_neg A] at Q;refine C _ _ _ _ ?_ bn;unfold Cs;rw[Q]
  .have hz:E2 l[n]=0:=by simpa using m
   rw[if_pos hz] at Q;refine U2 (ab.up aa) a ?_;refine Z8 aa.sat (p1.up aa) rfl ?_;have cj:=ay.up aa;have r6:=RCl_lift r1 ⟨aa.le⟩;refine Za (R:=W8) (x:=l[n]) bn cj (by simpa [Value.cells] using r6) rfl rfl rfl (by simp[t];omega) (by simp[t];omega) fun s v' w9 σ9 db p ck az=>?_
   refine H8 ?_;refine Z9 ab.max a ⟨σ9,p,?_,Q⟩;rw[List.take_add_one,List.getElem?_eq_getElem a,<-List.append_assoc];exact ck
 have a: ¬n<l.length:=by simpa using hh
 rw[List.take_of_length_le Q4] at ay;rw[List.drop_eq_nil_of_le Q4] at D;have D:D2 E2 l 0=none:=D;have bp:=T8 D;have bf: ∀c∈l,Qe c/\Nm c/\c.name≠[]:=fun c hc=>Gh (bp c hc)
 have q: ∀c∈Q5 l,Qe c:=fun c hc=>by
  rcases List.mem_append.1 hc with hc | hc
  .exact (Mt c hc).1
  .exact (bf c hc).1
 have a3: ∀c∈Q5 l,Nm c:=fun c hc=>by
  rcases List.mem_append.1 hc with hc | hc
  .exact (Mt c hc).2.1
  .exact (bf c hc).2.1
 have ac: ∀c∈Q5 l,Jr c=false:=fun c hc=>by
  rcases List.mem_append.1 hc with hc | hc
  .exact X0f c hc
  .exact Q9Z (bp c hc)
 have av:(Q5 l).length<=100000:=by omega
 unfold Cs at C h0;rw[D] at C h0;simp only at C h0;obtain ⟨σ5,o,J,df,cz⟩:=ay.keep Y;change Sl 8 W8 σ5 x (Q5 l) at J;clear ay Y ab a hh H D be bu
 have r: ∀{n:Nat} (H:n<l.length),∃(h:8+n<(Q5 l).length),(Q5 l)[8+n]=l[n]:=fun {n} H=>⟨by omega,by
  unfold Q5;rw[List.getElem_append_right (by rw[t];omega)]
  congr 1
  rw[t];omega⟩
 have bx: ∀{n:Nat} (H:n<l.length),Y7 (Q5 l) (8+n)=l[n].name:=fun {n} H=>by
  obtain ⟨C,h2⟩:=r H;rw[Tn C,h2]
 have br: ∀j,j<8->(Z7 ((Q5 l).take j) (Y7 (Q5 l) j)).isSome=false:=by
  have hd: ∀j,j<8->(Z7 (T6.take j) (Y7 T6 j)).isSome=false:=by decide
  intro j hj;have e1:(Q5 l).take j=T6.take j:=by unfold Q5;rw[List.take_append_of_le_length (by rw[t];omega)]
  have e2:Y7 (Q5 l) j=Y7 T6 j:=by
   unfold Y7 Q5;rw[List.getD_eq_getElem?_getD,List.getD_eq_getElem?_getD,List.getElem?_append_left (by rw[t];omega)]
  rw[e1,e2];exact hd j hj
 refine U8 l.length (fun n w'=>Stp w σ w' σ5/\ ∀j,j<8+n->(Z7 ((Q5 l).take j) (Y7 (Q5 l) j)).isSome=false) ⟨o,by simpa using br⟩ fun n w5 d H f=>?_
 clear o;obtain ⟨o,a2⟩:=f;have aq:=hl.up o;refine Q6 aq ?_;refine Z4 ?_;refine Q3 (fun hh=>?_) (fun hh=>?_)
 .have a:n<l.length:=by simpa using hh
  obtain ⟨b9,bk,ca,p1,r1⟩:=aq.elC a;refine U2 aq a ?_
  (try simp only[↓M1,M1,Mb,reduceIte])
  refine ld o.sat p1 rfl ?_;refine Xq o.sat J ?_;rw[K9 Q4 Q4];refine Sr ?_;obtain ⟨L,e8⟩:=r a;rw[<-bx a];have bq:=X0a L;cases ai:Z7 ((Q5 l).take (8+n)) (Y7 (Q5 l) (8+n)) with
  | none=>
   rw[bq.2 ai];have e:decide (M9 (some (8+n))=(8:Nat)+(n:Int))=true:=by simp[M9]
   rw[e]
   (try simp only[↓M1,M1,Mb,reduceIte])
   refine Y9 aq.max a ⟨o,fun j hj=>?_⟩
   by_cases ej:j=8+n
   .rw[ej,ai];rfl
   .exact a2 j Q4
  | some i=>
   have A:Z7 (Q5 l) (Y7 (Q5 l) (8+n))≠some (8+n):=fun e=>by rw[bq.1 e] at ai;cases ai
   have e:decide (M9 (Z7 (Q5 l) (Y7 (Q5 l) (8+n)))=(8:Nat)+(n:Int))=false:=by
    rw[decide_eq_false_iff_not];intro e;cases hf:Z7 (Q5 l) (Y7 (Q5 l) (8+n)) with
    | none=>rw[hf] at e;simp only[M9] at e;omega
    | some k=>
     rw[hf] at e A;simp only[M9] at e;apply A
     congr 1;omega
   rw[e]
   (try simp only[↓M1,M1,Mb,reduceIte])
   have O:Cd (Q5 l)=some (8+n):=by
    unfold Cd;rw[List.find?_range_eq_some];refine ⟨by rw[ai];rfl,by simpa using L,fun j hj=>by rw[a2 j hj];rfl⟩
   refine C _ _ _ _ ?_ o;rw[O];have:((8+n:Nat):Int)-8=n:=by omega
   simp only[this]
 have a: ¬n<l.length:=by simpa using hh
 have O:Cd (Q5 l)=none:=by
  unfold Cd;rw[List.find?_eq_none];intro j hj;rw[a2 j (by have:=List.mem_range.1 hj;omega)];simp
 rw[O] at C h0;simp only at C h0;have g:=Tq O;clear a2 hh a H aq br;refine U8 l.length (fun n w'=> ∃B,Stp w σ w' B/\SLe σ5 B/\D2 (fun c=>(E4 (Q5 l) c:Int)) l 0=D2 (fun c=>(E4 (Q5 l) c:Int)) (l.drop n) n) ⟨σ5,o,SLe.refl _,rfl⟩ fun n w6 d H f=>?_;obtain ⟨σ9,p,ax,Z⟩:=f;have ar:=hl.up p;refine Q6 ar ?_;refine Z4 ?_;refine Q3 (fun hh=>?_) (fun hh=>?_)
 .have a:n<l.length:=by simpa using hh
  obtain ⟨b9,bk,ca,p1,r1⟩:=ar.elC a;refine U2 ar a ?_;refine Z8 p.sat p1 rfl ?_;have U:=Lo a Z;refine X0Q p.sat (J.lift ax) r1 fun w8 ct an=>?_;refine Sr ?_;refine Q3 (fun m=>?_) (fun m=>?_)
  .have A: ¬(E4 (Q5 l) l[n]:Int)=0:=by simpa using m
   rw[if_neg A] at U;refine C _ _ _ _ ?_ (p.trans an);rw[U]
  .have hz:(E4 (Q5 l) l[n]:Int)=0:=by simpa using m
   rw[if_pos hz] at U;refine H8 ?_;exact Y9 ar.max a ⟨ct,p.trans an,ax.more ⟨an.le⟩,U⟩
 have a: ¬n<l.length:=by simpa using hh
 rw[List.drop_eq_nil_of_le Q4] at Z;have Z:D2 (fun c=>(E4 (Q5 l) c:Int)) l 0=none:=Z;rw[Z] at C h0;simp only at C h0;have b3:=T8 Z;clear hh a H o ar;refine Q6i p.sat (J.lift ax) g Q4 Q4 q fun vb di cd am ag=>?_;have b:=p.trans am;have bc:=ax.more ⟨am.le⟩;have a0:(Jf (Q5 l)).length=(Q5 l).length:=by simp[Jf]
 refine U8 l.length (fun n w'=>Stp w σ w' cd/\ ∀j (hj:j<l.length),j<n->A0 (Q5 l) l[j]=false) ⟨b,fun j _ h=>by omega⟩ fun n dj d H f=>?_
 clear b;obtain ⟨b,a1⟩:=f;have ao:=hl.up b;refine Q6 ao ?_;refine Z4 ?_;refine Q3 (fun hh=>?_) (fun hh=>?_)
 .have a:n<l.length:=by simpa using hh
  obtain ⟨L,e8⟩:=r a;refine Wb ⟨by omega,by omega⟩ ?_
  have ec:((8:Nat):Int)+(n:Int)=((8+n:Nat):Int):=by omega
  rw[ec];obtain ⟨c2,pb,_,rv,rfl,rb⟩:=ag.el (i:=8+n) (by rw[a0];exact L)
  have b2:(Jf (Q5 l))[8+n]'(by rw[a0];exact L)=(List.range (Q5 l).length).map fun j=>Vx (Q5 l) (Y7 (Q5 l) (8+n)) (Y7 (Q5 l) j):=by simp[Jf]
  rw[b2] at rb;obtain ⟨ci,bh,_,ah⟩:=rb.el (i:=8+n) (by simpa using L)
  have ah:ci=_:=ah;subst ah;simp only[List.getElem_map,List.getElem_range] at bh;rw[X0v g L,e8] at bh;refine U2 ag (by rw[a0];exact L) ?_
  refine Y4 b.sat pb rfl ?_;refine Wb ⟨by omega,by omega⟩ ?_
  rw[ec];refine U2 rb (by simpa using L) ?_
  refine Y4 b.sat bh rfl ?_;cases bw:A0 (Q5 l) l[n] with
  | true=>
   (try simp only[↓M1,M1,Mb,reduceIte])
   have bg:l.findIdx? (A0 (Q5 l))=some n:=by
    rw[List.findIdx?_eq_some_iff_getElem];exact ⟨a,bw,fun j hj=>by simpa using a1 j Q4 hj⟩
   refine C _ _ _ _ ?_ b;rw[bg]
  | false=>
   (try simp only[↓M1,M1,Mb,reduceIte])
   refine Y9 ao.max a ⟨b,fun j hj da=>?_⟩
   by_cases e:j=n
   .subst e;exact bw
   .exact a1 j hj Q4
 have a: ¬n<l.length:=by simpa using hh
 have ba: ∀c∈l,A0 (Q5 l) c=false:=fun c hc=>by
  obtain ⟨j,hj,rfl⟩:=List.getElem_of_mem hc;exact a1 j hj Q4
 have bg:l.findIdx? (A0 (Q5 l))=none:=by
  rw[List.findIdx?_eq_none_iff];exact ba
 rw[bg] at C h0;simp only at C h0;clear a1 hh a H ao ag am p a0;have af:=Q6V g (fun c hc=>(bf c hc).2.2) ba
 have ak:X2k (Q5 l):=fun c hc u hu=>by
  rcases List.mem_append.1 hc with hc | hc
  .rw[(Mt c hc).2.2] at hu;simp at hu
  .have:=b3 c hc
   unfold E4 at this
   split at this
   .simp at this
   .split at this
    .simp at this
    .rename_i z
     have z:c.like.any (C2 (Q5 l))=false:=eq_false_of_ne_true z;have:=List.any_eq_false.1 z u hu;unfold C2 at this;cases hd:lk (Q5 l) u with
     | none=>rw[hd] at this;simp at this
     | some d=>exact ⟨d,rfl⟩
 have b0:Ok (Q5 l):=⟨af,av,q,ak,a3⟩
 have b4: ∀i (hi:i<(Q5 l).length),8<=i-> ∀u∈V8 (Q5 l)[i],∃j,Z7 (Q5 l) u=some j:=fun i hi L u hu=>by
  have al:i-8<l.length:=by omega
  obtain ⟨c7,e8⟩:=r al;have cm:(Q5 l)[i]=l[i-8]:=by rw[<-e8];congr 1;omega
  rw[cm] at hu;have bb:=List.getElem_mem al
  rcases List.mem_cons.1 hu with hu | hu
  .have:=b3 _ bb
   unfold E4 at this
   split at this
   .simp at this
   .rename_i z
    unfold Jd at z;rw[<-hu] at z;cases hd:lk (Q5 l) u with
    | none=>rw[hd] at z;simp at z
    | some d=>obtain ⟨_,_,j,hj,_⟩:=L5 hd;exact ⟨j,hj⟩
  .obtain ⟨d,hd⟩:=ak _ (List.mem_append_right _ bb) u hu
   obtain ⟨_,_,j,hj,_⟩:=L5 hd;exact ⟨j,hj⟩
 refine Q14 (R:=H9) (e:=T.d) b M5 fun dt dl a9 a6 _=>?_
 refine O7 l.length (fun n x' w'=> ∃B out,Stp w σ w' B/\SLe σ5 B/\W1 w.heap.size T.d 1 H9 B w' x' (ints out)/\Few (Q5 l) out/\out=(((List.range (Q5 l).length).drop 8).take n).foldl (fun out i=>Yv (Q5 l) 8 out i) [])
  ⟨cd,[],b.trans a9,bc,a6,⟨List.nodup_nil,by simp⟩,rfl⟩ fun n x' dm d H f=>?_
 clear a6 a9 b bc ax;obtain ⟨dv,out,M,W,ae,aj,aw⟩:=f;have ap:=hl.up M;refine Q6 ap ?_;refine Z4 ?_;refine Q3 (fun hh=>?_) (fun hh=>?_)
 .have a:n<l.length:=by simpa using hh
  obtain ⟨L,e8⟩:=r a;refine Wb ⟨by omega,by omega⟩ ?_
  have ec:((8:Nat):Int)+(n:Int)=((8+n:Nat):Int):=by omega
  rw[ec];refine X4Y af g Q4 q Q4 b4 ((Q5 l).length+1) L (Nat.lt_succ_of_le (Kq _ _)) aj M (J.lift W) ae fun du dn cu bl b7 bo=>?_;refine H8 ?_;refine Z9 ap.max a ⟨cu,_,bl,W.more b7,bo,Tv af g Q4 _ _ _ L aj,?_⟩;rw[List.take_add_one,List.getElem?_drop,List.getElem?_range L,List.foldl_append,<-aw];rfl
 have a: ¬n<l.length:=by simpa using hh
 have cn:n=l.length:=by omega
 subst cn
 have b1:out=L3 (Q5 l) 8:=by
  rw[aw,List.take_of_length_le (by rw[List.length_drop,List.length_range];omega)];rfl
 subst b1;clear aw hh a H;have dc:=aj.len;have co:=X34 g;obtain ⟨ce,bm,b5,bd,_⟩:=ae.keep M;have b8:=W.more ⟨bd⟩;clear ae M bd W ap;have al:(ints (L3 (Q5 l) 8)).length=(L3 (Q5 l) 8).length:=by simp
 refine U8 (L3 (Q5 l) 8).length (fun n w'=> ∃B,Stp w σ w' B/\SLe ce B/\ ∀j∈(L3 (Q5 l) 8).take n,L2 (Q5 l) ((Q5 l).getD j Cla.zero)=0) ⟨ce,bm,SLe.refl _,by simp⟩ fun n dp d H f=>?_
 obtain ⟨dw,N,X,a4⟩:=f;have V:=b5.lift X;refine Q6 V ?_;rw[al];refine Z4 ?_;refine Q3 (fun hh=>?_) (fun hh=>?_)
 .have a:n<(L3 (Q5 l) 8).length:=by simpa using hh
  have bz:n<(ints (L3 (Q5 l) 8)).length:=by rw[al];exact a
  refine U2 V bz ?_;obtain ⟨cs,pc,_,cl⟩:=V.el bz;obtain ⟨rfl,_⟩:=cl;simp only[List.getElem_map] at pc;refine Y4 N.sat pc rfl ?_;have bs:=(co _ (List.getElem_mem a)).2;have az:(Q5 l).getD (L3 (Q5 l) 8)[n] Cla.zero=(Q5 l)[(L3 (Q5 l) 8)[n]]:=by rw[List.getD_eq_getElem?_getD,List.getElem?_eq_getElem bs];rfl
  refine Q98 N.sat (J.lift (b8.more X)) b0 g Q4 ac bs fun dq cf y=>?_;have a5:=N.trans y;refine Sr ?_;refine Q3 (fun m=>?_) (fun m=>?_)
  .have A: ¬L2 (Q5 l) (Q5 l)[(L3 (Q5 l) 8)[n]]=0:=by simpa using m
   have cx:=V.up y;have cb:=pc.up y;refine L9 y.sat ?_
   (repeat refine J9 Md ?_)
   (intros;(repeat (rename_i hx;subst hx));(try simp only[↓M2,M2,Mb,reduceIte]))
   rename_i cr a7;refine Y4 a7.sat cb rfl ?_;refine Hf ⟨by omega,by omega⟩ ?_
   have E:(L3 (Q5 l) 8).find? (fun j=> !decide (L2 (Q5 l) ((Q5 l).getD j Cla.zero)=0))=some (L3 (Q5 l) 8)[n]:=by
    rw[List.find?_eq_some_iff_getElem];refine ⟨by rw[az];simpa using A,n,a,rfl,fun j hj=>?_⟩
    have:=a4 _ (List.mem_take_iff_getElem.2 ⟨j,by omega,rfl⟩)
    rw[this];simp
   have:=C (((L3 (Q5 l) 8)[n]:Int)-8) (L2 (Q5 l) (Q5 l)[(L3 (Q5 l) 8)[n]]) cr cf (by rw[E];simp only[az]) (a5.trans a7.stp)
   exact this
  .have hz:L2 (Q5 l) (Q5 l)[(L3 (Q5 l) 8)[n]]=0:=by simpa using m
   refine H8 ?_;refine Y9 Q4 a ⟨cf,a5,X.more ⟨y.le⟩,fun j hj=>?_⟩;rw[List.take_add_one,List.getElem?_eq_getElem a] at hj
   rcases List.mem_append.1 hj with hj | hj
   .exact a4 j hj
   .simp at hj;subst hj;rw[az];exact hz
 .have a: ¬n<(L3 (Q5 l) 8).length:=by simpa using hh
  rw[List.take_of_length_le Q4] at a4
  have E:(L3 (Q5 l) 8).find? (fun j=> !decide (L2 (Q5 l) ((Q5 l).getD j Cla.zero)=0))=none:=by
   rw[List.find?_eq_none];intro j hj;rw[a4 j hj];simp
  rw[E] at h0;exact h0 _ _ _ rfl N (J.lift (b8.more X)) b0 g)
end Go.Proofs.Y
namespace Go.Hm
open Go.Kd
def X0i:Ins:=⟨[105,110,116],1,[]⟩
def Q1z:Ins:=⟨[114,101,116,117,114,110],0,[]⟩
def kA:Q8:=[65]
def fX:Fld:=⟨[120],Zp,false⟩
def Q2m:Fld:=⟨[110,101,120,116],kA,false⟩
def fL:Fld:=⟨[108],[65,91,93],false⟩
def mF:Hm.Met:=⟨[102],[Zp,kA],Zp,false,3,[X0i,Q1z],[]⟩
def mG:Hm.Met:=⟨[103],[],[],false,1,[Q1z],[]⟩
def cA:Cla:=⟨kA,L8,[],false,false,false,[fX,Q2m],[mF,mG]⟩
def cB:Cla:=⟨[66],kA,[[73]],false,false,false,[fL],[]⟩
def cI:Cla:=⟨[73],L8,[],true,true,false,[],[]⟩
def cD:Cla:=⟨[68],L8,[],false,true,false,[],[]⟩
def N9:List Cla:=[cA,cB,cI,cD]
end Go.Hm
namespace Go.Proofs.Y
open Go.Emb Go.RowKit Go.Kd Go.Hm
variable {w w' : World} {K : Value -> World -> Prop} {σ σ' : Q2}
set_option maxRecDepth 100000 in
theorem Q3u:Cs E2 N9=none:=by decide+kernel
theorem X4j: ∀c∈N9,Qe c:=X5L M5
theorem X4k:Wf N9:=X6H Q3u
set_option maxHeartbeats 1000000 in
theorem Q6g (Y:X1 w σ) (h: ∀v w' σ',Stp w σ w' σ'->Sl 8 W8 σ' v N9->K v w'):Q0 P F.ax [] w K:=Gw (by
 unfold Lf;refine W2 (cells:= #[S X0i.op,I 1,S []]) X3 ?_;refine W2 (cells:= #[S Q1z.op,I 0,S []]) X3 ?_;refine H0 (R:=Qx) (sz:=3) Y [.agg #[S X0i.op,I 1,S []], .agg #[S Q1z.op,I 0,S []]] [X0i,Q1z] rfl rfl (by simp;exact ⟨rfl,rfl⟩) rfl ⟨⟨rfl,by decide,by decide,by decide⟩,⟨rfl,by decide,by decide,by decide⟩,trivial⟩ fun Z w1 σ1 j e=>?_
 refine W2 (cells:= #[S fX.name,S fX.kind, .bool false]) X3 ?_;refine W2 (cells:= #[S Q2m.name,S Q2m.kind, .bool false]) X3 ?_;refine H0 (R:=C5) (sz:=3) j.sat [.agg #[S fX.name,S fX.kind, .bool false], .agg #[S Q2m.name,S Q2m.kind, .bool false]] [fX,Q2m] rfl rfl (by simp;exact ⟨rfl,rfl⟩) rfl ⟨⟨rfl,by decide,by decide⟩,⟨rfl,by decide,by decide⟩,trivial⟩ fun v2 w2 σ2 g f=>?_
 refine H0 (R:=V3) (sz:=1) g.sat [S Zp,S kA] [Zp,kA] rfl rfl (by simp;exact ⟨rfl,rfl⟩) rfl ⟨⟨rfl,by decide⟩,⟨rfl,by decide⟩,trivial⟩ fun v3 w3 σ3 c n=>?_
 have k:=e;have m:=f;have o:=n;obtain ⟨C,N,rfl,_⟩:=k;obtain ⟨D,O,rfl,_⟩:=m;obtain ⟨E,Q,rfl,_⟩:=o;have e:=(e.up g).up c;have f:=f.up c;refine W2 (cells:= #[S mF.name, .slice E 2 Q,S Zp, .bool false,I 3, .slice C 2 N, .slice none 0 0]) X3 ?_;refine W2 (cells:= #[S Q1z.op,I 0,S []]) X3 ?_;refine H0 (R:=Qx) (sz:=3) c.sat [.agg #[S Q1z.op,I 0,S []]] [Q1z] rfl rfl (by simp;rfl) rfl ⟨⟨rfl,by decide,by decide,by decide⟩,trivial⟩ fun v4 w4 σ4 a p=>?_
 have q:=p;obtain ⟨H,U,rfl,_⟩:=q;refine W2 (cells:= #[S mG.name, .slice none 0 0,S [], .bool false,I 1, .slice H 1 U, .slice none 0 0]) X3 ?_
 refine H0 (R:=E6) (sz:=7) a.sat [.agg #[S mF.name, .slice E 2 Q,S Zp, .bool false,I 3, .slice C 2 N, .slice none 0 0], .agg #[S mG.name, .slice none 0 0,S [], .bool false,I 1, .slice H 1 U, .slice none 0 0]] [mF,mG] rfl rfl (by simp;exact ⟨rfl,rfl⟩) rfl
  ⟨⟨_,_,_,rfl,n.up a,e.up a,Sl.nil,by decide,by decide,by decide⟩,⟨_,_,_,rfl,Sl.nil,p,Sl.nil,by decide,by decide,by decide⟩,trivial⟩ fun v5 w5 σ5 i r=>?_
 have s:=r;obtain ⟨J,V,rfl,_⟩:=s;refine W2 (cells:= #[S kA,S L8, .slice none 0 0, .bool false, .bool false, .bool false, .slice D 2 O, .slice J 2 V]) X3 ?_;refine H0 (R:=V3) (sz:=1) i.sat [S [73]] [[73]] rfl rfl (by simp;rfl) rfl ⟨⟨rfl,by decide⟩,trivial⟩ fun v6 w6 σ6 d t=>?_
 have u:=t;obtain ⟨L,W,rfl,_⟩:=u;refine W2 (cells:= #[S fL.name,S fL.kind, .bool false]) X3 ?_;refine H0 (R:=C5) (sz:=3) d.sat [.agg #[S fL.name,S fL.kind, .bool false]] [fL] rfl rfl (by simp;rfl) rfl ⟨⟨rfl,by decide,by decide⟩,trivial⟩ fun v7 w7 σ7 b y=>?_
 have z:=y;obtain ⟨M,X,rfl,_⟩:=z;refine W2 (cells:= #[S cB.name,S kA, .slice L 1 W, .bool false, .bool false, .bool false, .slice M 1 X, .slice none 0 0]) X3 ?_;refine W2 (cells:= #[S cI.name,S L8, .slice none 0 0, .bool true, .bool true, .bool false, .slice none 0 0, .slice none 0 0]) X3 ?_;refine W2 (cells:= #[S cD.name,S L8, .slice none 0 0, .bool false, .bool true, .bool false, .slice none 0 0, .slice none 0 0]) X3 ?_
 refine H0 (R:=W8) (sz:=8) b.sat [.agg #[S kA,S L8, .slice none 0 0, .bool false, .bool false, .bool false, .slice D 2 O, .slice J 2 V], .agg #[S cB.name,S kA, .slice L 1 W, .bool false, .bool false, .bool false, .slice M 1 X, .slice none 0 0], .agg #[S cI.name,S L8, .slice none 0 0, .bool true, .bool true, .bool false, .slice none 0 0, .slice none 0 0], .agg #[S cD.name,S L8, .slice none 0 0, .bool false, .bool true, .bool false, .slice none 0 0, .slice none 0 0]] N9 rfl rfl (by simp;exact ⟨rfl,rfl,rfl,rfl⟩) rfl
  ⟨⟨_,_,_,rfl,Sl.nil,(((f.up a).up i).up d).up b,(r.up d).up b,by decide,by decide⟩,⟨_,_,_,rfl,t.up b,y,Sl.nil,by decide,by decide⟩,⟨_,_,_,rfl,Sl.nil,Sl.nil,Sl.nil,by decide,by decide⟩,⟨_,_,_,rfl,Sl.nil,Sl.nil,Sl.nil,by decide,by decide⟩,trivial⟩ fun v8 w8 σ8 A B=>?_
 exact h _ _ _ ((((((((j.trans g).trans c).trans a).trans i).trans d).trans b)).trans A) B)
def part (m n:Nat) (z:Val):List Val:=(List.range m).map fun i=>if i<n then z else Val.zero
end Go.Proofs.Y
namespace Go.Emb
open Go.RowKit Go.Hm
variable {w w' : World} {σ σ1 σ2 : Q2}
theorem Stp.weak (h:Stp w σ1 w' σ2) (a: ∀b o,σ b=some o->σ1 b=some o):Stp w σ w' σ:=
 ⟨h.bel,fun b o e=>h.sat b o (h.le b o (a b o e)),fun _ _ e=>e,fun _ _=>rfl⟩
variable {w0 : World} {σ' σ0 : Q2}
theorem Nxt.stp' {D:Nat->Prop} (N:Nxt D w σ w' σ') (a:Stp w0 σ0 w σ) (f: ∀k,D k->w0.heap.size<=k):Stp w0 σ0 w' σ':=
 ⟨⟨N.kp.os.trans a.bel.os,N.kp.tape.trans a.bel.tape,N.kp.output.trans a.bel.output,Nat.le_trans a.bel.size N.kp.size,fun k d=>(N.kp.block k (Nat.lt_of_lt_of_le d a.bel.size) fun h=>absurd (f k h) Q4).trans (a.bel.block k d)⟩,N.sat,fun b o e=>N.le.le b o (a.le b o e),fun b c=>(N.old b (Nat.lt_of_lt_of_le c a.bel.size)).trans (a.old b c)⟩
end Go.Emb
namespace Go.Proofs.Y
open Go.Emb Go.RowKit Go.Kd Go.Hm
variable {w : World} {σ : Q2}
theorem RowsIs.nil {B:Nat}:RowsIs B (fun _=>False) σ w (.slice none 0 0) []:=
 ⟨[],U0.of_acc W1.nil,⟨rfl,fun i h=>absurd h (Nat.not_lt_zero i)⟩,List.pairwise_singleton _ _,fun k=>by simp[Value.ownBlock]⟩
end Go.Proofs.Y
namespace Go.Emb
open Go.RowKit Go.Hm
def RHp (σ:Q2) (x:List Cla×Int×List Cel) (ds:List Value):Prop:= ∃b a,ds=[b,I x.2.1,a]/\Sl 8 W8 σ b x.1/\Sl 2 Q3o σ a x.2.2
instance:Rep RHp:=⟨fun hk ⟨lv,cv,h1,h2,h3⟩=>⟨lv,cv,h1,h2.le hk,h3.le hk⟩,fun ⟨lv,cv,h1,h2,h3⟩ u hu=>by
 rw[h1] at hu;simp at hu;rcases hu with rfl | rfl | rfl
 .exact Qi h2
 .rfl
 .exact Qi h3⟩
theorem RHp.out {σ:Q2} {l:List Cla} {room:Int} {cs:List Cel} {ds:List Value} (h:RHp σ (l,room,cs) ds): ∃b a,ds=[b,I room,a]/\Sl 8 W8 σ b l/\Sl 2 Q3o σ a cs:=h
def X5j {α:Type} (c:α) (ds:List Value) (_:Q2) (x:α) (cs:List Value):Prop:=x=c/\cs=ds/\ ∀u∈ds,u.oneCell'=true
instance {α:Type} (c:α) (ds:List Value):Rep (X5j c ds):=⟨fun _ h=>h,fun h u hu=>h.2.2 u (h.2.1▸hu)⟩
variable {H : Type} {cs : List Value} {x : DataW H × List MemPlace}
def X6U (_:Q2) (x:ActH) (cs:List Value):Prop:=cs=[I x.kind,S x.s,I x.n,I x.ref,I x.v.sort,I x.v.n,S x.v.s,I x.v.ref]/\(P0 x.kind/\x.s.length<=U9/\P0 x.n/\P0 x.ref)/\P0 x.v.sort/\P0 x.v.n/\x.v.s.length<=U9/\P0 x.v.ref
instance:Rep X6U:=⟨fun _ h=>h,fun h u hu=>by rw[h.1] at hu;simp at hu;rcases hu with rfl | rfl | rfl | rfl | rfl | rfl | rfl | rfl<;>rfl⟩
end Go.Emb
namespace Go.Proofs.Y
open Go.Emb Go.RowKit Go.Kd Go.Hm
variable {w w' : World} {K : Value -> World -> Prop} {σ σ' : Q2} {ds : List Value} {room : Int} {cs : List Cel} {hp tv : Value}
theorem HeapIs.mono {B B':Nat} {D:Nat->Prop} (h:HeapIs B D σ w hp tv room cs) (hB:B'<=B):HeapIs B' D σ w hp tv room cs:=by
 obtain ⟨b,n,E,j,g,m,⟨vs,k,c,f,hD⟩,hE,a⟩:=h.ex;exact ⟨b,n,E,j,Nat.le_trans hB g,m,⟨vs,k.mono hB,⟨c.1,fun i d e=>(c.2 i d e).mono hB⟩,f,hD⟩,hE,a⟩
theorem X5t {a:Addr} {n:Int} (j:X1 w σ)
 (g:(n<0\/1048576<n)->K (.tuple #[.pointer none,I 90]) w)
 (h:0<=n->n<=1048576-> ∀b w' σ' D,Stp w σ w' σ'->HeapIs w.heap.size D σ' w' (.pointer (some ⟨b,0,none⟩)) (.pointer (some a)) n []->K (.tuple #[.pointer (some ⟨b,0,none⟩),I 0]) w'):Q0 P F.cO [.pointer (some a),I n] w K:=X0B (by
 unfold Q4b Y0 X5;refine Z4 ?_
 by_cases e:n<0
 .rw[decide_eq_true e]
  (try simp only[Ri,Jj,Cm,P1,Zg,Vy,Mw,Mc,Eo,Bool.not_true,Bool.not_false])
  exact g (.inl e)
 rw[decide_eq_false e]
 (try simp only[Ri,Jj,Cm,P1,Zg,Vy,Mw,Mc,Eo,Bool.not_true,Bool.not_false])
 refine Gb ?_
 by_cases c:(1048576:Int)<n
 .rw[decide_eq_true c]
  exact W7 (g (.inr c))
 rw[decide_eq_false c];refine L1 ?_;refine W2 (cells:= #[.pointer (some a),I n,I 0, .slice none 0 0]) X3 ?_;refine Q2c (cs:=[.pointer (some a),I n,I 0, .slice none 0 0]) j fun b w1 σ1 i d f=>?_;exact h Q4 Q4 b w1 σ1 _ d ⟨b,_,_,rfl,i,f,RowsIs.nil,id,fun k=>Iff.rfl⟩)
theorem X3s:P.underlying T.aC=some (.int .u16):=by kernel_rfl
set_option maxHeartbeats 1000000 in
theorem Q9C {r:Int} (hs:X1 w σ) (hg:Glb σ) (hr:0<=r)
 (h: ∀b a D ds w' σ',Stp w σ w' σ'->HeapIs w.heap.size D σ' w' (.pointer (some ⟨b,0,none⟩)) (.pointer (some a)) (r % 301) []->RHp σ' (Q5 N9,r % 301,[]) ds->Tab σ' (.pointer (some a)) (Q5 N9)->Ok (Q5 N9)->K (.tuple #[.pointer (some ⟨b,0,none⟩), .agg ds.toArray]) w'):Q0 P F.aF [.int .u16 r] w K:=Ag (by
 have hr0:=Int.emod_nonneg r (show (301:Int)≠0 by decide)
 have hr1:=Int.emod_lt_of_pos r (show (0:Int)<301 by decide)
 unfold Nw;simp only[M8];unfold Y0 X5;refine I4 hs fun b3 w1 σ1 hb3 hk1 hm1=>?_;refine Q6g hk1.sat fun v w2 σ2 hk2 hv2=>?_;refine X6m hk2.sat (hg.lift ⟨(hk1.trans hk2).le⟩) hv2 M5 X4j (fun i e _ _ hn=>by rw[Q3u] at hn;cases hn) fun tv w3 σ3 _ hk3 ht ok _=>?_
 obtain ⟨a,_,_,_,rfl,_⟩:=ht.ex;have hS3:=(hk1.trans hk2).trans hk3;refine J0 (vs:=[_,_,_]) rfl ?_;refine J0 (vs:=[_,_,_]) rfl ?_;refine J0 (vs:=[_,_,_]) rfl ?_;refine Q6g hk3.sat fun v4 w4 σ4 hk4 hv4=>?_;refine X4V hk4.sat hv4 M5 (fun i e _ _ hn=>by rw[Q3u] at hn;cases hn) fun lv w5 σ5 _ hk5 hlv ok5 _=>?_
 have hk35:=hk4.trans hk5;have hS5:=hS3.trans hk35;refine J0 (vs:=[_,_,_]) rfl ?_;refine J0 (vs:=[_,_,_]) rfl ?_;refine J0 (vs:=[_,_,_]) rfl ?_;refine Q4T ⟨by decide,hr⟩ ?_
 rw[Xm X3s Ga];have ew:IntKind.i64.wrap (r % 301)=r % 301:=K9 (n:=r % 301) Q4 Q4;rw[ew];simp only[decide_true,Bool.not_true,Bool.false_eq_true,reduceIte,↓M1,M1,Mb,reduceIte];refine X6h ?_;simp only[decide_true,Bool.not_true,Bool.false_eq_true,reduceIte,↓M1,M1,Mb,reduceIte];refine X5t (n:=r % 301) hk5.sat (fun hx=>absurd hx Q4) fun _ _ b6 w6 σ6 D hk6 h6=>?_;refine J0 (vs:=[_,_]) rfl ?_;refine J0 (vs:=[_,_]) rfl ?_;simp only[decide_true,Bool.not_true,↓M1,M1,Mb,reduceIte];refine W2 (cells:= #[lv,I (r % 301), .slice none 0 0]) (by obtain ⟨a5,c5,hle,_⟩:=id hlv;generalize (Q5 N9).length=n5 at hle;subst hle;kernel_rfl) ?_
 have hm6:=hm1.up ((hk2.trans hk3).trans (hk35.trans hk6));have hrh:RHp σ6 (Q5 N9,r % 301,[]) [lv,I (r % 301), .slice none 0 0]:=⟨_,_,rfl,hlv.up hk6,Sl.nil⟩;refine sta (ds:=[lv,I (r % 301), .slice none 0 0]) hm6 rfl rfl (by rw[List.all_toArray];exact List.all_eq_true.2 (Rep.one hrh)) fun w7 u7 hm7=>?_
 refine M6 hm7 rfl ?_;have hS6:=hS5.trans hk6;have hB3:=Qk hb3 (Stp.refl hs);have hS7:=u7.stp hS6 hB3 hm6.1
 have hb35:b3<w5.heap.size:=by
  have:=(hm1.up ((hk2.trans hk3).trans hk35)).lt;exact this
 exact h b6 a D _ w7 σ6 hS7 ((h6.nx (Nxt.of_upd hk6.sat u7 hm6.1) fun k hk e=>by have:=(h6.mem hk).1;omega).mono hS5.bel.size) hrh (ht.lift ⟨(hk35.trans hk6).le⟩) ok)
theorem X4N:I1 []=true:=by decide+kernel
theorem X74:P.underlying T.a2=some (.pointer T.a0):=by kernel_rfl
theorem X3j (d:Nat) (o:Option Addr):(Op.equalIn (d+1) T.a2 (.pointer o) (.pointer none)).run P w= .ok o.isNone w:=by
 cases o<;>simp[Op.equalIn,run_underlying X74]
theorem X2g {a:Addr} {b c:Operand} (h:K (.bool false) w):Y5 P .eql T.a2 b c (.pointer (some a)) (.pointer none) w K:=by
 have e:(Op.equal T.a2 (.pointer (some a)) (.pointer none)).run P w= .ok false w:=X3j 9999 _;unfold Y5;rw[Y3 (v:= .bool false) (w':=w) (by simp[eqGuard,Go.binOp,e])]
 exact h
end Go.Proofs.Y
namespace Go.Hm
open Go.Kd
theorem Q28: ∀(cs:List Cel) {c:Cel},c∈cs->(c.vals.length:Int)<=H7 cs
 | [],c,h=>by cases h
 | d::cs,c,h=>by
  have e:H7 (d::cs)=1+(d.vals.length:Int)+H7 cs:=by simp[H7]
  have:=Ru cs
  rcases List.mem_cons.1 h with rfl | h
  .omega
  .have:=Q28 cs h;omega
theorem X54 {cs:List Cel} {n:Nat} (h:H7 cs<=(n:Int)) (r:Int):El cs r<=n:=by
 unfold El Lk
 split
 .rename_i b
  obtain ⟨i,rfl,a⟩:=D5.1 b;rw[C9 a];have:=Q28 cs (List.getElem_mem a)
  simp;omega
 .simp
end Go.Hm
namespace Go.Proofs.Y
open Go.Emb Go.RowKit Go.Kd Go.Hm
variable {room : Int} {cs : List Cel}
structure Fit (cs : List Cel) : Prop where
  good : ∀ c ∈ cs, GoodC I1 (Q5 N9) cs c
  len : cs.length <= 1048576
  sz : ∀ r, El cs r <= 1000000000000
  refs : X15 cs
theorem X5M {room:Int} (h:GoodH I1 (Q5 N9) room cs) (c:room<=300):Fit cs:=by
 have a:=h.left;unfold Qn at a;have b:=Q05 cs;exact ⟨h.cells,by omega,fun r=>Nat.le_trans (X54 (n:=300) Q4 r) M5,X1E h.cells⟩
theorem X3t:P.built T.i []=some #[I 0,I 0,S [],I 0]:=by kernel_rfl
end Go.Proofs.Y
namespace Go.Proofs.Y
open Go.Kd Go.Emb
theorem Q3V: ∀(n:Nat) (s:Q8),s.length<=n->s.length<=(base s).1.length+2*(base s).2
 | 0,s,h=>by omega
 | n+1,s,h=>by
  rw[Vo]
  split
  .rename_i a
   have b:2<=s.length:=by
    unfold P7 at a;simp only[Bool.and_eq_true,decide_eq_true_eq] at a;exact a.1
   have c:(Kd.cutA s).length=s.length-2:=by unfold Kd.cutA;simp
   have:=Q3V n (Kd.cutA s) Q4;simp only;omega
  .simp
end Go.Proofs.Y
namespace Go.Hm
open Go.Kd Go.Proofs.Y
theorem X2V {l:List Cla} {s:Q8} (h:K3 l s=true):s.length<=40:=by
 unfold K3 at h;simp only[Bool.or_eq_true,Bool.and_eq_true,decide_eq_true_eq] at h
 rcases h with rfl | ⟨h,_⟩
 .decide
 .unfold right at h
  simp only[Bool.and_eq_true,decide_eq_true_eq] at h;have a:=Q3F (Vc h.2);have b:=Q3V _ s (Nat.le_refl _);omega
set_option maxRecDepth 100000 in
theorem X67: ∀c∈Q5 N9,(E7 (Q5 N9) c.name).length<=1000:=by decide+kernel
theorem Q6f (k:Q8):(E7 (Q5 N9) k).length<=1000:=by
 cases e:lk (Q5 N9) k with
 | none=>
  have:E7 (Q5 N9) k=[]:=by unfold E7 T3;rw[e]
  rw[this];decide
 | some c=>
  obtain ⟨rfl,a,_⟩:=L5 e;exact X67 c a
theorem Vr {α:Type} {f:α->Q8} {B:Nat}: ∀{xs:List α},(∀x∈xs,(f x).length<=B)->(xs.flatMap f).length<=xs.length*B
 | [],_=>by simp
 | x::xs,h=>by
  have b:=h x (by simp)
  have c:=Vr (xs:=xs) (B:=B) (f:=f) fun y a=>h y (by simp[a])
  rw[List.flatMap_cons,List.length_append,List.length_cons,Nat.add_mul];omega
theorem Q6c {ok:Q8->Bool} (b: ∀s,ok s=true->s.length<=4096) {cs:List Cel} {v:Val} (h:Yt ok cs v≠[]):v.s.length<=4096:=by
 have z: ∀{x:Val},v=x->x.s=[]->v.s.length<=4096:=fun e a=>by rw[e,a];decide
 unfold Yt at h
 split at h
 .rename_i e;exact z e rfl
 split at h
 .rename_i e;exact z e rfl
 split at h
 .rename_i e;exact z e.1 rfl
 split at h
 .rename_i e;exact b _ e.2
 split at h
 .rename_i e;exact z e rfl
 .exact absurd rfl h
theorem Bs {num:Int->Int} {v:Val} (a: -9223372036854775808<=v.n/\v.n<=9223372036854775807) (c:v.s.length<=4096):(S1 num v).length<=4200:=by
 have b:=C6 (Su v.sort);unfold S1;rw[List.length_append]
 split
 .have:=C6 (Q2F a);omega
 split
 .have:(Zn (decide (v.n=1))).length=1:=rfl
  omega
 split
 .have:=C6 (v:=v.s.length) (by omega)
  unfold W3;rw[List.length_append];omega
 split
 .have:=C6 (Su (num v.ref));omega
 .simp;omega
end Go.Hm
namespace Go.Proofs.Y
open Go.Emb Go.RowKit Go.Kd Go.Hm
variable {σ : Q2} {room : Int} {cs : List Cel} {hp tv : Value}
theorem Q2u (s:Q8) (h:I1 s=true):s.length<=4096:=by
 unfold I1 at h;simp only[Bool.and_eq_true,decide_eq_true_eq] at h;exact h.1
set_option maxHeartbeats 1000000 in
theorem Q5w (hh:O5 σ hp tv room cs) (g:GoodH I1 (Q5 N9) room cs) (d:room<=300) (ok:Ok (Q5 N9)):SendOk (Q5 N9) cs:=by
 have f:=X5M g d;have Q:=g.left;unfold Qn at Q;have E:=Q05 cs;have i:cs.length<=300:=by omega
 have b: ∀c∈cs,c.vals.length<=300:=fun c s=>by have:=Q28 cs s;omega
 refine ⟨ok,f.good,f.len,f.sz,fun k=>Nat.le_trans (Q6f k) M5,fun vs M a m=>?_⟩;have C:(N3 (Q5 N9) cs vs).length<=300:=Nat.le_trans (Q2z Fx fun x D=>Rn D) i;have l: ∀x∈N3 (Q5 N9) cs vs,x<cs.length:=fun x D=>Rn D;unfold Q02;generalize N3 (Q5 N9) cs vs=refs at*;have O:(V7 cs refs).length<=300:=Nat.le_trans Pr C;have R:=C6 (v:=(V7 cs refs).length) Q4;have V:=C6 (v:=refs.length) Q4;have Y:=C6 (v:=vs.length) Q4
 have u: ∀r∈refs,Fv cs r∈cs.map (·.kind):=fun r d=>by
  have h:=l r d;unfold Fv Qu;rw[List.getD_eq_getElem?_getD,List.getElem?_eq_getElem h];exact List.mem_map.2 ⟨_,List.getElem_mem h,rfl⟩
 have y: ∀k∈V7 cs refs,k.length<=40:=fun k q=>by
  unfold V7 at q
  rcases Sc.1 q with h | h
  .cases h
  .obtain ⟨r,d,rfl⟩:=List.mem_map.1 h
   obtain ⟨c,s,e⟩:=List.mem_map.1 (u r d);rw[<-e];exact X2V (g.cells c s).kd
 have U:((V7 cs refs).flatMap (Q6J (Q5 N9))).length<=(V7 cs refs).length*1060:=Vr fun k q=>by
  have J:=y k q;have L:=Q6f k;have h3:=C6 (v:=k.length) Q4;have h4:=C6 (v:=(E7 (Q5 N9) k).length) Q4;unfold Q6J W3;simp only[List.length_append];omega
 have W:(refs.flatMap (Db cs (V7 cs refs))).length<=refs.length*20:=Vr fun r d=>by
  have J:=C6 (Su (M9 ((V7 cs refs).findIdx? fun k=>decide (k=Fv cs r))));unfold Db;rw[List.length_append]
  split
  .simp;omega
  .have h:=l r d
   have L:(Qu cs r).vals.length<=300:=by
    unfold Qu;rw[List.getD_eq_getElem?_getD,List.getElem?_eq_getElem h];exact b _ (List.getElem_mem h)
   have:=C6 (v:=(Qu cs r).vals.length) Q4;omega
 have X:(refs.flatMap (fun r=>(K1 (Q5 N9) cs r).flatMap (S1 (Wp refs)))).length<=refs.length*(300*4200):=Vr fun r d=>by
  have h:=l r d
  have A:(K1 (Q5 N9) cs r).length<=300:=by
   unfold K1 Q2x;rw[List.length_map];refine Nat.le_trans (List.length_filter_le _ _) ?_;rw[List.length_range];unfold Qu;rw[List.getD_eq_getElem?_getD,List.getElem?_eq_getElem h];exact b _ (List.getElem_mem h)
  refine Nat.le_trans (Vr (B:=4200) fun p hp=>?_) (Nat.mul_le_mul_right _ A);obtain ⟨_,o,n⟩:=X35 hp;have m:=X3Z hh (List.getElem_mem o) n;obtain ⟨j,N,rfl⟩:=List.mem_iff_getElem.1 n;have t:=(g.cells _ (List.getElem_mem o)).fits j N;unfold Zm at t;simp only[Bool.and_eq_true,Bool.not_eq_true',decide_eq_false_iff_not] at t;exact Bs m.2.1 (Q6c Q2u t.1)
 have Z:(vs.flatMap (S1 (Wp refs))).length<=vs.length*4200:=Vr fun v H=>by
  have z:Yt I1 cs v≠[]:=fun e=>by
   unfold Q12 at a;rw[List.any_eq_false] at a;exact a v H (by simpa using e)
  exact Bs (m v H).2.1 (Q6c Q2u z)
 unfold Q01;simp only[List.length_append];omega
end Go.Proofs.Y
namespace Go.Hm
open Go.Kd
def gA:Q8:=[65]
def rV (n:Int):Val:=⟨4,0,[],n⟩
def Fc:Cel:=⟨gA,[⟨1,0,[],0⟩,Val.zero]⟩
set_option maxRecDepth 100000 in
theorem X5S {room:Int} {cs:List Cel} (h:3<=Qn room cs):Q1M (Q5 N9) room cs gA=(cs++[Fc],0):=by
 have a:Vd (Q5 N9) gA=true:=by decide+kernel
 have b:W9 (Q5 N9) gA=[⟨[120],Zp,false⟩,⟨[110,101,120,116],gA,false⟩]:=by decide+kernel
 unfold Q1M;rw[a,b];rw[if_neg (by simp),if_neg (by simp;omega)]
 rfl
end Go.Hm
namespace Go.Hm
open Go.Kd Go.Emb Go.Proofs.Y
set_option maxRecDepth 100000 in
theorem X4w:Ue I1 (Q5 N9) [] [⟨1,5,[],0⟩] 1000 1048576=(0,[0,0,1,1,10]):=by decide+kernel
set_option maxRecDepth 100000 in
theorem X4x:Ue I1 (Q5 N9) [] [Val.zero] 1000 1048576=(0,[0,0,1,0]):=by decide+kernel
set_option maxRecDepth 100000 in
theorem X4y:(Ue I1 (Q5 N9) [Fc] [rV 0] 1000 1048576).1=0/\10<(Ue I1 (Q5 N9) [Fc] [rV 0] 1000 1048576).2.length:=by decide+kernel
set_option maxRecDepth 100000 in
theorem X5I:(I7 (Q5 N9) (V7 [Fc] (N3 (Q5 N9) [Fc] [rV 0]))).length=1:=by decide+kernel
end Go.Hm
namespace Go.Proofs.Y
open Go.Emb Go.RowKit Go.Kd Go.Hm
variable {w w' : World} {K : Value -> World -> Prop} {σ σ' : Q2} {room : Int} {cs : List Cel} {hp tv : Value} {l : List Cla} {vs : List Val}
theorem Q2d {B:Nat} {v:Value} {xs:Q8} (b:X1 w σ) (h:U0 B T.t 1 Qy σ w v xs) (a:K (S xs) w):conv P T.l T.b v w K:=by
 obtain ⟨e,d,_,c,_⟩:=h.freeze b;exact X11 X0Y Q06 d c a
theorem Ii (e:X1 w σ) (h: ∀w' σ',Stp w σ w' σ'->K (.agg [I 1000,I 1048576].toArray) w'):Q0 P F.u [] w K:=Q0J (by
 unfold Dv;refine I4 e fun b w1 σ1 d f c=>?_;refine W2 (cells:= #[I 1000,I 1048576]) X3 ?_;refine sta (ds:=[I 1000,I 1048576]) c rfl rfl (by rw[List.all_toArray];rfl) fun i g a=>?_
 refine M6 a rfl ?_;exact h _ _ (g.stp f d c.1))
theorem Q9l {n:Int} (e:X1 w σ) (h: ∀w' σ',Stp w σ w' σ'->K (.agg [I (rV n).sort,I (rV n).n,S (rV n).s,I (rV n).ref].toArray) w'):Q0 P F.aT [I n] w K:=Q1R (by
 unfold Hx;refine I4 e fun b w1 σ1 d f c=>?_;refine W2 (cells:= #[I 4,I 0,S [],I n]) X3 ?_;refine sta (ds:=[I 4,I 0,S [],I n]) c rfl rfl (by rw[List.all_toArray];exact List.all_eq_true.2 Q8g) fun i g a=>?_
 refine M6 a rfl ?_;exact h _ _ (g.stp f d c.1))
theorem X2w {v:Value} (j:X1 w σ) (hh:O5 σ hp tv room cs) (e:Tab σ tv l) (a:SendOk l cs) (k:Sl 4 G1 σ v vs)
 (h: ∀f w' σ',Stp w σ w' σ'->Sl 2 Hn σ' f (I7 l (V7 cs (N3 l cs vs)))->K f w'):Q0 P F.cu [hp,v] w K:=Q6B (by
 unfold Q0j;simp only[M8];have b: ∀x∈N3 l cs vs,x<cs.length:=fun x m=>Rn m;refine Q75 j hh e a.ok a.good a.len a.sz k fun u r t y z c d s i=>?_;refine J0 (vs:=[_,_]) rfl ?_;refine J0 (vs:=[_,_]) rfl ?_;exact Q74 c.sat (hh.lift ⟨c.le⟩) (e.lift ⟨c.le⟩) a.ok a.len a.pr d b (Q2z Fx b) fun o p q n g=>h o p q (c.trans n) g)
theorem Q8q {B:Nat} {D:Nat->Prop} {x:Val} {o b:Int} (j:X1 w σ) (f:Glb σ) (e:HeapIs B D σ w hp tv room cs) (m:Tab σ tv (Q5 N9)) (ok:Ok (Q5 N9)) (g:GoodH I1 (Q5 N9) room cs) (i:room<=300) (q:VB x)
 (h: ∀d w',Stp w σ w' σ->U0 w.heap.size T.t 1 Qy σ w' d (Ue I1 (Q5 N9) cs [x] o b).2->K (.tuple #[d,I (Ue I1 (Q5 N9) cs [x] o b).1]) w'):
 Q0 P F.aD [hp, .agg [I x.sort,I x.n,S x.s,I x.ref].toArray, .agg [I o,I b].toArray] w K:=by
 obtain ⟨t,r,a,c,_⟩:=e.freeze j;refine Q6I r (f.lift a) c (m.lift a) (Q5w c g i ok) q fun d w' σ' k p=>?_;exact h d w' (k.weak a.le) (p.down (a.more ⟨k.le⟩) fun _ _ h=>h)
set_option maxHeartbeats 4000000 in
theorem Q9i (hs:X1 w σ) (hg:Glb σ) (h: ∀w' σ',Stp w σ w' σ'->K (.bool true) w'):Q0 P F.a7 [] w K:=Ah (by
 unfold Nx;simp only[M4,M8];unfold Y0 X7 X5 V5;refine Q9C hs hg M5 fun b1 a1 D1 a4 w1 σ1 k1 W f t1 ok=>?_;rw[show (50 % 301:Int)=50 from rfl] at W f
 refine J0 (vs:=[_,_]) rfl ?_;refine J0 (vs:=[_,_]) rfl ?_;refine I4 k1.sat fun b2 w2 σ2 v k2 j=>?_;refine sta j rfl (by obtain ⟨lv,cv,rfl,_⟩:=RHp.out f;rfl) (by rw[List.all_toArray];exact List.all_eq_true.2 (Rep.one f)) fun w3 u3 ag=>?_
 have c:Stp w1 σ1 w3 σ2:=u3.stp k2 v j.1;have S3:=k1.trans c;have Z:=W.up c;have t3:=t1.lift (⟨c.le⟩:SLe σ1 σ2);clear k1 c W f t1 j ag u3 k2 v;refine X2g ?_;refine L1 ?_;have V: ∀{w' σ'},Stp w σ w' σ'->Glb σ':=fun k=>hg.lift ⟨k.le⟩;refine W2 (cells:= #[I 1,I 5,S [],I 0]) X3 ?_;refine Ii S3.sat fun w4 σ4 o=>?_;have N:=S3.trans o;refine Q8q (x:=⟨1,5,[],0⟩) N.sat (V N) (Z.up o) (t3.lift ⟨o.le⟩) ok (GoodH.empty M5) M5 ⟨by decide,by decide,by decide,by decide⟩ fun va w5 k5 ha=>?_
 rw[X4w] at ha⊢;have S5:=N.trans k5;refine J0 (vs:=[_,_]) rfl ?_;refine J0 (vs:=[_,_]) rfl ?_;refine W2 X3t ?_;refine Ii S5.sat fun w6 σ6 H=>?_;have O:=S5.trans H;have E:=((Z.up o).up k5).up H;have t6:=(t3.lift (⟨o.le⟩:SLe _ _)).lift ⟨H.le⟩;have ab:=ha.up H
 have af: ∀k,va.ownBlock=some k-> ¬D1 k:=fun k z e=>by
  have:=(ha.mem z).1;have:=((Z.up o).mem e).2.1;omega
 refine Q8q (x:=Val.zero) O.sat (V O) E t6 ok (GoodH.empty M5) M5 Q5D fun vb w7 J hb=>?_;rw[X4x] at hb⊢;have Q:=O.trans J;refine J0 (vs:=[_,_]) rfl ?_;refine J0 (vs:=[_,_]) rfl ?_
 have y: ∀k,vb.ownBlock=some k-> ¬D1 k:=fun k z e=>by
  have:=(hb.mem z).1;have:=(E.mem e).2.1;omega
 have L:=GoodH.obj X4k X4N (GoodH.empty (ok:=I1) (l:=Q5 N9) (room:=50) M5) gA;refine X2u Q.sat Q.bel.size (E.up J) t6 ok (k:=gA) M5 M5 M5 fun w8 σ8 D8 D h8 a6=>?_;rw[X5S M5] at h8 L⊢;rw[show atM ([]:List Cel) 0=0 from rfl]
 have ac:=(ab.up J).nx D af;have ae:=hb.nx D y;have S8:Stp w σ w8 σ8:=D.stp' Q fun k z=>((E.up J).mem z).1;have t8:=t6.lift D.le;refine J0 (vs:=[_,_]) rfl ?_;refine J0 (vs:=[_,_]) rfl ?_;refine Q9l S8.sat fun w9 σ9 k9=>?_;refine Ii k9.sat fun bd bk aj=>?_;have a:=k9.trans aj;have i:=S8.trans a;have q:=h8.up a;have C:=t8.lift (⟨a.le⟩:SLe _ _);refine Q8q (x:=rV 0) i.sat (V i) q C ok L M5 ⟨by decide,by decide,by decide,by decide⟩ fun vc be g hc=>?_
 obtain ⟨U,a5⟩:=X4y;simp only[List.nil_append] at hc⊢;rw[U];have d:=i.trans g;have r:=(ac.up a).up g;have t:=(ae.up a).up g;have X:=q.up g;refine J0 (vs:=[_,_]) rfl ?_;refine J0 (vs:=[_,_]) rfl ?_;refine Q2d d.sat r ?_;refine Qs (s:=[0,0,1,1,10]) (u:=[0,0,1,1,10]) ?_;rw[decide_eq_true rfl]
 (repeat refine Hd.h ?_)
 refine Qr ?_;rw[show decide ((0:Int)=0)=true from rfl]
 (repeat refine Hd.h ?_)
 refine Q2d d.sat t ?_
 (repeat refine Hd.h ?_)
 refine Qs (s:=[0,0,1,0]) (u:=[0,0,1,0]) ?_;rw[decide_eq_true rfl]
 (repeat refine Hd.h ?_)
 refine Qr ?_;rw[show decide ((0:Int)=0)=true from rfl]
 (repeat refine Hd.h ?_)
 refine Qr ?_;rw[show decide ((0:Int)=0)=true from rfl]
 (repeat refine Hd.h ?_)
 refine Qr ?_;rw[show decide ((0:Int)=0)=true from rfl]
 (repeat refine Hd.h ?_)
 refine Sh hc ?_
 (repeat refine Hd.h ?_)
 refine Gb ?_;rw[decide_eq_true (by omega:(10:Int)<((Ue I1 (Q5 N9) [Fc] [rV 0] 1000 1048576).2.length:Nat))]
 (repeat refine Hd.h ?_)
 refine Q9l d.sat fun bf bl B=>?_;have M:=d.trans B
 (repeat refine Hd.h ?_)
 refine H0 (R:=G1) (sz:=4) M.sat [.agg [I (rV 0).sort,I (rV 0).n,S (rV 0).s,I (rV 0).ref].toArray] [rV 0] rfl rfl (by simp;rfl) rfl ⟨⟨rfl,by decide,by decide,by decide,by decide⟩,trivial⟩ fun vl bg bm c ah=>?_
 have b:=B.trans c;have p:=d.trans b;obtain ⟨σf,sf,m,A,_⟩:=(X.up b).freeze p.sat
 (repeat refine Hd.h ?_)
 refine X2w sf A ((C.lift (⟨b.le⟩:SLe _ _)).lift m) (Q5w A L M5 ok) (ah.lift m) fun ba bh bn ak Y=>?_
 (repeat refine Hd.h ?_)
 refine Q6 Y ?_;simp only[List.nil_append];rw[show ((I7 (Q5 N9) (V7 [Fc] (N3 (Q5 N9) [Fc] [rV 0]))).length:Int)=1 by rw[X5I];rfl]
 (repeat refine Hd.h ?_)
 refine Qr ?_;rw[show decide ((1:Int)=1)=true from rfl]
 (repeat refine Hd.h ?_)
 exact h _ _ (p.trans (ak.weak m.le)))
theorem Q07 {n:Int} (h:0<=n/\n<18446744073709551616):IntKind.u64.wrap n=n:=by
 rw[IntKind.wrap_u64];omega
theorem X3v {t:TypeId} {a b:Operand} {n:Nat} (c:n<18446744073709551616) (h:K (.int .u64 ((n / 128:Nat):Int)) w):Y5 P .quo t a b (.int .u64 (n:Int)) (.int .u64 128) w K:=by
 unfold Y5
 rw[Y3 (v:= .int .u64 ((n / 128:Nat):Int)) (w':=w) (by
  have e:(n:Int).tdiv 128=((n / 128:Nat):Int):=by rw[Int.tdiv_eq_ediv_of_nonneg Q4];omega
  simp[eqGuard,Go.binOp,Op.intDiv,e]
  exact Q07 Q4)]
 exact h
theorem X4X {n:Int} (a:P0 n) (h:K (.int .u64 ((Zb n:Nat):Int)) w):Q0 P F.bJ [I n] w K:=Q1U (by
 obtain ⟨b,c⟩:=a;unfold Ra X5;unfold Zb at h;refine Yg ?_
 by_cases e:0<=n
 .rw[decide_eq_true e]
  rw[if_pos e] at h;refine W7 ?_;rw[Xm Q6O Q2C,Q07 Q4];refine X41 ?_;rw[Q07 Q4];rw[show (((2*n).toNat:Nat):Int)=2*n by omega] at h
  exact h
 .rw[decide_eq_false e]
  rw[if_neg e] at h;refine L1 ?_;refine Wb Q4 ?_;refine X6M ?_;rw[K9 Q4 Q4];rw[Xm Q6O Q2C,Q07 Q4];refine X41 ?_;rw[Q07 Q4];refine H8 ?_;rw[Q07 Q4];rw[show (((2*(-(n+1))+1).toNat:Nat):Int)=2*(0-(n+1))+1 by omega] at h
  exact h)
theorem Q9D {n:Nat} (y:X1 w σ) (u:n<18446744073709551616) (h: ∀w' σ',Stp w σ w' σ'->K (S (U3 n)) w'):Q0 P F.aU [.int .u64 (n:Int)] w K:=Q1T (by
 unfold Hz X2;refine Uc (fun x w'=> ∃(m:Nat) (p:Q8) (σ':Q2),x.1= .int .u64 (m:Int)/\x.2=S p/\m<18446744073709551616/\p.length<=20-(U3 m).length/\Stp w σ w' σ'/\p++U3 m=U3 n) (fun x _=>match x.1 with | .int _ m=>m.toNat | _=>0) ⟨n,[],σ,rfl,rfl,u,by simp,Stp.refl y,rfl⟩ ?_
 rintro ⟨x,v⟩ d w1 ⟨m,p,σ1,q,c,l,o,g,e⟩;simp only at q c;subst q;subst c;refine Yg ?_;have k:=C6 l;have t:=Q9L (v:=m);refine Q3 (fun i=>?_) (fun i=>?_)
 .have a:128<=m:=by have:=of_decide_eq_true i;omega
  refine Q4T Q4 ?_;refine H8 ?_;rw[Q07 Q4,show (m:Int) % 128+128=((m % 128+128:Nat):Int) by omega]
  refine Q4U ?_;rw[show (m % 128+128) % 256=m % 128+128 by omega]
  rw[Q5B a] at e o k;simp only[List.length_cons] at o k;refine H0 (R:=Qy) (sz:=1) g.sat [.int .u8 ((m % 128+128:Nat):Int)] [UInt8.ofNat (m % 128+128)] rfl rfl (by simp;rfl) rfl ⟨by simp[Qy,Value.cells];omega,trivial⟩ fun s r j f b=>?_
  refine X11 X0Y Q06 f.sat b ?_;refine K4 (by simp;omega) ?_
  refine X3v l ?_;exact ⟨⟨m / 128,_,j,rfl,rfl,by omega,by simp;omega,g.trans f,by simpa using e⟩,by simp;omega⟩
 .have a:m<128:=by have:=of_decide_eq_false i;omega
  refine Q4U ?_;rw[show m % 256=m by omega]
  rw[Q5C a] at e;refine H0 (R:=Qy) (sz:=1) g.sat [.int .u8 (m:Int)] [UInt8.ofNat m] rfl rfl (by simp;rfl) rfl ⟨by simp[Qy,Value.cells];omega,trivial⟩ fun s r j f b=>?_
  refine X11 X0Y Q06 f.sat b ?_;refine K4 (by simp;omega) ?_
  rw[e];exact h r j (g.trans f))
theorem X4U {n:Int} (b:X1 w σ) (a:P0 n) (h: ∀w' σ',Stp w σ w' σ'->K (S (U3 (Zb n))) w'):Q0 P F.bI [I n] w K:=Q1S (by
 unfold Hy;refine X4X a ?_;exact Q9D b (Q2F a) h)
theorem X3e {s:Q8} (b:X1 w σ) (a:s.length<=U9) (h: ∀w' σ',Stp w σ w' σ'->K (S (W3 s)) w'):Q0 P F.bv [S s] w K:=Q0L (by
 unfold Dx X7 X2;unfold U9 at a;refine Pc Q06 ?_;refine Pd ?_;rw[Q3R Q4];refine Q9D b Q4 fun w1 σ1 c=>?_;have:=C6 (v:=s.length) Q4;refine K4 Q4 ?_;exact h w1 σ1 c)
theorem X3c {b:Bool} (h:K (S (Zn b)) w):Q0 P F.bu [.bool b] w K:=Q0K (by
 unfold Dw;cases b with
 | true=>exact W7 h
 | false=>exact L1 h)
end Go.Proofs.Y
namespace Go.Hm
open Go.Kd Go.Emb
theorem Q03 {ok:Q8->Bool} {l:List Cla} {cs:List Cel} {v:Val} (d:v.sort≠4) (a:Yt ok cs v≠[]) (b:(S1 (Wp []) v).length<=1000000):Ue ok l cs [v] 1000 1048576=(0,[0,0,1]++S1 (Wp []) v):=by
 have c:N3 l cs [v]=[]:=X0K.trans (Q96 d)
 have e:Q02 l cs [v]=[0,0,1]++S1 (Wp []) v:=by
  unfold Q02 Q01;rw[c]
  simp[V7,E1,show U3 0=[0] from rfl,show U3 1=[1] from rfl]
 unfold Ue
 have f:Q12 ok cs [v]=false:=by
  unfold Q12
  simp[a]
 rw[if_neg (by rw[f];simp),c,if_neg U5,e,if_neg (by
  simp only[List.length_append,List.length_cons,List.length_nil];omega)]
theorem X63 {ok:Q8->Bool} {cs:List Cel} {n:Int}:Yt ok cs ⟨1,n,[],0⟩≠[]:=by
 unfold Yt;rw[if_neg (by intro e;cases e),if_pos rfl]
 decide
theorem X4M {ok:Q8->Bool} {cs:List Cel} {s:Q8} (h:ok s=true):Yt ok cs ⟨3,0,s,0⟩≠[]:=by
 unfold Yt;rw[if_neg (by intro e;cases e),if_neg (by intro e;cases e),if_neg (by intro e;cases e.1),if_pos ⟨rfl,h⟩]
 decide
theorem X4L {ok:Q8->Bool} {cs:List Cel} {b:Bool}:Yt ok cs ⟨2,if b then 1 else 0,[],0⟩≠[]:=by
 unfold Yt;rw[if_neg (by intro e;cases e),if_neg (by intro e;cases e),if_pos ⟨rfl,by cases b<;>simp⟩]
 decide
end Go.Hm
namespace Go.Proofs.Y
open Go.Emb Go.RowKit Go.Kd Go.Hm
variable {w w' : World} {K : Value -> World -> Prop} {σ σ' : Q2} {vs : List Val}
theorem X59 {o:Operand} {a:Addr} {A:Value->World->Prop} (i:X1 w σ) (g:Glb σ) (h: ∀w' σ',Stp w σ w' σ'->A (.bool false) w'):
 Q0 P F.a7 [] w fun c w=>V1 P .not c w fun b w=>Q1 b false w (fun w J=>J (.pointer (some a)) w) fun d w=>Q1 b false w (Y5 P .eql T.a2 o (.const (.pointer none)) d (.pointer none)) fun e w=>pick P b (.bool true) e w fun f w=>A f w:=by
 refine Q9i i g fun w1 σ1 j=>?_;refine Ss ?_;rw[Bool.not_true]
 (repeat refine Hd.h ?_)
 refine X2g ?_
 (repeat refine Hd.h ?_)
 exact h _ _ j
set_option maxRecDepth 9999 in
set_option maxHeartbeats 4000000 in
theorem Q8O {n:Int} {s:Q8} {c:Bool} (hs:X1 w σ) (U:Glb σ) (hw:(Lit.int .i64 n).wf=true) (hl:s.length<=U9) (h: ∀w' σ',Stp w σ w' σ'->K (.bool true) w'):Q0 P F.bZ [I n,S s, .bool c] w K:=Be (by
 have W:P0 n:=by
  simp[Lit.wf,IntKind.min,IntKind.max,IntKind.signed,IntKind.bits] at hw
  exact ⟨by omega,by omega⟩
 unfold Uv;simp only[Z1,Y1,D0,En,M4,M8];unfold Y0 W0 X7 X5 X2;refine Q9C hs U M5 fun b1 a1 D1 a4 w1 σ1 k1 h1 i t1 ok=>?_;rw[show (10 % 301:Int)=10 from rfl] at h1 i
 refine J0 (vs:=[_,_]) rfl ?_;refine J0 (vs:=[_,_]) rfl ?_;have H:=i;obtain ⟨lv,cv,rfl,_⟩:=RHp.out i;refine Z0 (sz:=3) k1.sat rfl rfl (Rep.one H) fun q w2 σ2 J hq=>?_;have Y:=k1.trans J;refine X59 J.sat (U.lift ⟨Y.le⟩) fun w3 σ3 X=>?_;have D:=Y.trans X;have ag:=U.lift ⟨D.le⟩;have h3:=(h1.up J).up X;have t3:=t1.lift (⟨(J.trans X).le⟩:SLe σ1 σ3);clear k1 J X Y h1 H i t1 hq;have g: ∀w' σ',Stp w σ w' σ'->Q0 P F.a7 [] w' fun aq w=>K aq w:=fun w' σ' k=>Q9i k.sat (U.lift ⟨k.le⟩) fun w4 σ4 C=>h _ _ (k.trans C)
 (repeat refine Hd.h ?_)
 refine Pc Q06 ?_
 (repeat refine Hd.h ?_)
 refine Gb ?_
 (repeat refine Hd.h ?_)
 by_cases e4:(4096:Int)<(s.length:Nat)
 .rw[decide_eq_true e4]
  (repeat refine Hd.h ?_)
  refine W7 ?_;exact g _ _ D
 rw[decide_eq_false e4]
 (repeat refine Hd.h ?_)
 refine Q6k hl D.sat fun w4 ae=>?_;have C:=Stp.of_below D.sat ae;have Z:=D.trans C
 (repeat refine Hd.h ?_)
 cases ab:Lib.validD s with
 | false=>
  rw[Bool.not_false];refine W7 ?_;exact g _ _ Z
 | true=>
 rw[Bool.not_true];refine L1 ?_
 have A:I1 s=true:=by
  unfold I1;rw[ab,decide_eq_true Q4];rfl
 clear g;obtain ⟨σf,sf,B,j,_⟩:=(h3.up C).freeze Z.sat;have so:=Q5w j (GoodH.empty M5) M5 ok;have y:=(ag.lift (⟨C.le⟩:SLe _ _)).lift B;have tf:=(t3.lift (⟨C.le⟩:SLe _ _)).lift B;refine Xg (fun z w'=>z=I (if c then 1 else 0)/\w'=w4) ?_ (fun z dd w5 hz=>?_)
 .cases c with
  | true=>exact W7 ⟨rfl,rfl⟩
  | false=>exact L1 ⟨rfl,rfl⟩
 obtain ⟨rfl,rfl⟩:=hz;have z0:([]:Q8).length<=4096:=by decide
 have R:P0 0:=by decide
 have l1:(S1 (Wp []) ⟨1,n,[],0⟩).length<=1000000:=Nat.le_trans (Bs W z0) M5;have l2:(S1 (Wp []) ⟨3,0,s,0⟩).length<=1000000:=Nat.le_trans (Bs R (Q2u s A)) M5;have l3:(S1 (Wp []) ⟨2,if c then 1 else 0,[],0⟩).length<=1000000:=Nat.le_trans (Bs (by cases c<;>decide) z0) M5
 refine W2 (cells:= #[I 1,I n,S [],I 0]) X3 ?_;refine Ii sf fun w6 σ6 L=>?_;refine Q6I (x:=⟨1,n,[],0⟩) L.sat (y.lift ⟨L.le⟩) (j.lift ⟨L.le⟩) (tf.lift ⟨L.le⟩) so ⟨show P0 1 by decide,W,show ([]:Q8).length<=U9 by decide,R⟩ fun va w7 σ7 k7 ha=>?_
 rw[Q03 (show (1:Int)≠4 by decide) X63 l1] at ha⊢
 have ak:=L.trans k7;refine J0 (vs:=[_,_]) rfl ?_;refine J0 (vs:=[_,_]) rfl ?_;refine W2 (cells:= #[I 3,I 0,S s,I 0]) X3 ?_;refine Ii k7.sat fun w8 σ8 k8=>?_;have p:=ak.trans k8;refine Q6I (x:=⟨3,0,s,0⟩) k8.sat (y.lift ⟨p.le⟩) (j.lift ⟨p.le⟩) (tf.lift ⟨p.le⟩) so ⟨show P0 3 by decide,R,hl,R⟩ fun vb w9 σ9 k9 a=>?_
 rw[Q03 (show (3:Int)≠4 by decide) (X4M A) l2] at a⊢
 have al:=p.trans k9;refine J0 (vs:=[_,_]) rfl ?_;refine J0 (vs:=[_,_]) rfl ?_;refine W2 (cells:= #[I 2,I (if c then 1 else 0),S [],I 0]) X3 ?_
 refine Ii k9.sat fun bf bi m=>?_;have f:=al.trans m;refine Q6I (x:=⟨2,if c then 1 else 0,[],0⟩) m.sat (y.lift ⟨f.le⟩) (j.lift ⟨f.le⟩) (tf.lift ⟨f.le⟩) so ⟨show P0 2 by decide,by cases c<;>decide,show ([]:Q8).length<=U9 by decide,R⟩ fun vc bg bj o hc=>?_
 rw[Q03 (show (2:Int)≠4 by decide) X4L l3] at hc⊢
 have M:=f.trans o;have r:=((((ha.up k8).up k9).up m).up o);have u:=(a.up m).up o;refine J0 (vs:=[_,_]) rfl ?_;refine J0 (vs:=[_,_]) rfl ?_;have N:([0,0,1]++S1 (Wp []) ⟨1,n,[],0⟩:Q8)=[0,0,1,1]++U3 (Zb n):=rfl;have O:([0,0,1]++S1 (Wp []) ⟨3,0,s,0⟩:Q8)=[0,0,1,3]++W3 s:=rfl;have Q:([0,0,1]++S1 (Wp []) ⟨2,if c then 1 else 0,[],0⟩:Q8)=[0,0,1,2]++Zn c:=by cases c<;>rfl
 simp only[N] at r;simp only[O] at u;simp only[Q] at hc;have hi:=C6 (Q2F W);have a8:=Q2u s A;have ht:=C6 (v:=s.length) Q4;clear ha a N O Q l1 l2 l3;refine L9 o.sat ?_;refine J9 (V:= .bool true) (fun w a=>Qr (J3 rfl)) ?_;refine J9 (V:=I 0) (fun t w a e=>by subst e;(repeat refine Hd.h ?_);exact J3 rfl) ?_
 refine J9 (V:= .bool true) (fun t d w a e b=>by subst e;subst b;(repeat refine Hd.h ?_);exact Qr (J3 rfl)) ?_
 refine J9 (V:= .bool true) (fun t d w a e b=>by subst e;subst b;(repeat refine Hd.h ?_);exact J3 rfl) ?_
 refine J9 (V:=I 0) (fun t w a e=>by subst e;(repeat refine Hd.h ?_);exact J3 rfl) ?_
 refine J9 (V:= .bool true) (fun t d w a e b=>by subst e;subst b;(repeat refine Hd.h ?_);exact Qr (J3 rfl)) ?_
 refine J9 (V:= .bool true) (fun t d w a e b=>by subst e;subst b;(repeat refine Hd.h ?_);exact J3 rfl) ?_
 refine J9 (V:=va) (fun t w a e=>by subst e;(repeat refine Hd.h ?_);exact J3 rfl) ?_
 refine J9 (V:=I n) (fun t w a e=>by subst e;(repeat refine Hd.h ?_);exact J3 rfl) ?_
 refine J9 (V:=S ([0,0,1,1]++U3 (Zb n))) (fun t d w a e b=>by subst e;subst b;(repeat refine Hd.h ?_);exact Q2d a.sat (r.up a.stp) (J3 rfl)) ?_
 refine J9 (V:=S (U3 (Zb n))) (fun t d w a e b=>by subst e;subst b;(repeat refine Hd.h ?_);exact X4U a.sat W fun w' σ' hk=>Qv hk.bel rfl) ?_
 refine J9 (V:=S ([0,0,1,1]++U3 (Zb n))) (fun t d w a e b=>by subst e;subst b;(repeat refine Hd.h ?_);exact K4 (s:=[0,0,1,1]) (by simp;omega) (J3 rfl)) ?_
 refine J9 (V:= .bool true) (fun t d t3 w a e b e3=>by subst e;subst b;subst e3;(repeat refine Hd.h ?_);exact Qs (J3 U5)) ?_
 refine J9 (V:= .bool true) (fun t d w a e b=>by subst e;subst b;(repeat refine Hd.h ?_);exact J3 rfl) ?_
 refine J9 (V:=vb) (fun t w a e=>by subst e;(repeat refine Hd.h ?_);exact J3 rfl) ?_
 refine J9 (V:=S s) (fun t w a e=>by subst e;(repeat refine Hd.h ?_);exact J3 rfl) ?_
 refine J9 (V:=S ([0,0,1,3]++W3 s)) (fun t d w a e b=>by subst e;subst b;(repeat refine Hd.h ?_);exact Q2d a.sat (u.up a.stp) (J3 rfl)) ?_
 refine J9 (V:=S (W3 s)) (fun t d w a e b=>by subst e;subst b;(repeat refine Hd.h ?_);exact X3e a.sat hl fun w' σ' hk=>Qv hk.bel rfl) ?_
 refine J9 (V:=S ([0,0,1,3]++W3 s)) (fun t d w a e b=>by subst e;subst b;(repeat refine Hd.h ?_);exact K4 (s:=[0,0,1,3]) (by unfold W3;simp;omega) (J3 rfl)) ?_
 refine J9 (V:= .bool true) (fun t d t3 w a e b e3=>by subst e;subst b;subst e3;(repeat refine Hd.h ?_);exact Qs (J3 U5)) ?_
 refine J9 (V:= .bool true) (fun t d w a e b=>by subst e;subst b;(repeat refine Hd.h ?_);exact J3 rfl) ?_
 refine J9 (V:=vc) (fun t w a e=>by subst e;(repeat refine Hd.h ?_);exact J3 rfl) ?_
 refine J9 (V:= .bool c) (fun t w a e=>by subst e;(repeat refine Hd.h ?_);exact J3 rfl) ?_
 refine J9 (V:=S ([0,0,1,2]++Zn c)) (fun t d w a e b=>by subst e;subst b;(repeat refine Hd.h ?_);exact Q2d a.sat (hc.up a.stp) (J3 rfl)) ?_
 refine J9 (V:=S (Zn c)) (fun t d w a e b=>by subst e;subst b;(repeat refine Hd.h ?_);exact X3c (J3 rfl)) ?_
 refine J9 (V:=S ([0,0,1,2]++Zn c)) (fun t d w a e b=>by subst e;subst b;(repeat refine Hd.h ?_);exact K4 (s:=[0,0,1,2]) (by unfold Zn;simp) (J3 rfl)) ?_
 rintro _ _ _ _ _ _ _ _ _ _ _ _ _ _ _ _ _ _ _ _ _ _ _ _ _ _ bh E rfl rfl rfl rfl rfl rfl rfl rfl rfl rfl rfl rfl rfl rfl rfl rfl rfl rfl rfl rfl rfl rfl rfl rfl rfl rfl
 (repeat refine Hd.h ?_)
 refine Qs ?_;rw[decide_eq_true rfl]
 (repeat refine Hd.h ?_)
 exact h _ _ (Z.trans ((M.trans E.stp).weak B.le)))
end Go.Proofs.Y
namespace Go.Proofs.YtlfdfcejjgidpaaGreatDoor.sendPlain
open Go.Proofs.Y Go.ChangeShapes Go.WideShapes Go.ChangeAt Go.RowKit Go.Emb
theorem own : ownKnob Tryz.prog.godebug = none := by kernel_rfl
theorem lay : laidOutB Tryz.prog = true := by kernel_rfl
set_option maxRecDepth 100000 in
theorem X5Z (os : Os) (started : os.Started) (H : Type) (enc : TypeId × Value -> H) :
    ReturnsInHanded {} Tryz.checked os 3 .any (fun w args => (Rows.sendPlainSpec.pre enc Tryz.prog Tryz.f3 [] false w args /\ laidMetH Tryz.prog laidAll w) /\ sizedMet enc Tryz.prog Tryz.f3 (OpenSpec.ofChange Rows.sendPlainSpec) false w args) (Rows.sendPlainSpec.post enc Tryz.prog Tryz.f3 false true false false) := by
  refine returnsInHanded_of_change_and (C := Tryz.checked) (X := fun w _ => laidMetH Tryz.prog laidAll w) (fun _ _ _ hh h => h.of_heap hh) own started (by kernel_rfl) Tryz.func3
    (ChangeSpec.witness_shaped (enc := enc) (C := Tryz.checked) (os := os) (X := fun w _ => laidMetH Tryz.prog laidAll w) false (World.laidAll Tryz.prog os laidAll) #[.int .i64 0, .string ByteArray.empty, .bool false] 8 (World.laidAll_os _ _ _)
      (World.shaped_of_ZipB (by kernel_rfl) (by kernel_rfl)) (by kernel_rfl) (by kernel_rfl) (by kernel_rfl) (by rw [MakeChecks.laidMetH_plain _ _ _ (by kernel_rfl)]; exact laidMet_laidAll _ (by kernel_rfl) (by kernel_rfl))) ?_
  intro W base args ds gs before hval0 hW _ hsz0 hL _
  have hsz : (DataW.weightsEach Tryz.prog (Tryz.f3.params.toList ++ Rows.sendPlainSpec.plain.varTypes Tryz.prog) (ds ++ gs)).all (· <= reachBytes) = true := hsz0
  have hval : ∀ (j : Nat) t v, Tryz.f3.params[j]? = some t -> args[j]? = some v -> Value.okWide Tryz.prog W .any base t v := hval0
  have hW' := hW
  obtain ⟨p, q, hA0, hV, rfl, hfz, hnd⟩ := hW
  have hA : DataW.TrodAll enc Tryz.prog W 0 (fun _ => true) true Tryz.f3.params.toList args.toList ds p := hA0
  have hlt := DataW.TrodAll.lt hA
  rw [Tryz.params3] at hA hval hsz
  obtain ⟨v0, vs0, d0, ds0, p0, q0, hargs, rfl, rfl, h0, r0⟩ := trodAll_cons hA
  obtain ⟨v1, vs1, d1, ds1, p1, q1, rfl, rfl, rfl, h1, r1⟩ := trodAll_cons r0
  obtain ⟨v2, vs2, d2, ds2, p2, q2, rfl, rfl, rfl, h2, r2⟩ := trodAll_cons r1
  obtain ⟨rfl, rfl, rfl⟩ := trodAll_nil r2
  obtain rfl : args = #[v0, v1, v2] := by cases args; simp_all
  obtain ⟨rfl, rfl⟩ := trodVars_none hV
  have g0 : ∀ x ∈ p0, x.block < W.heap.size := fun x hx => hlt x (by simp [hx])
  have k0 := fun (W' : World) (bel : Below W.heap.size W W') => Below.trod lay (by kernel_rfl) (of_decide_eq_true (by kernel_rfl)) h0 bel g0
  obtain ⟨a0, rfl, _, _, w0⟩ := open_int Tryz.underlying2 (hval 0 2 v0 rfl rfl) h0
  have g1 : ∀ x ∈ p1, x.block < W.heap.size := fun x hx => hlt x (by simp [hx])
  have k1 := fun (W' : World) (bel : Below W.heap.size W W') => Below.trod lay (by kernel_rfl) (of_decide_eq_true (by kernel_rfl)) h1 bel g1
  obtain ⟨a1, rfl, w1⟩ := X5T (hval 1 9 v1 rfl rfl) h1 (X6b hsz (j := 1) (t := 9) rfl rfl)
  have g2 : ∀ x ∈ p2, x.block < W.heap.size := fun x hx => hlt x (by simp [hx])
  have k2 := fun (W' : World) (bel : Below W.heap.size W W') => Below.trod lay (by kernel_rfl) (of_decide_eq_true (by kernel_rfl)) h2 bel g2
  obtain ⟨a2, rfl, _, _⟩ := open_bool Tryz.underlying4 (hval 2 4 v2 rfl rfl) h2
  have hc : Q0 Tryz.prog 3 [.int .i64 a0, S a1, .bool a2] W (fun e w' => e = .bool true /\ Below W.heap.size W w') := Q8O X27 (X5R hL) w0 w1 (fun w' σ' hb => ⟨rfl, hb.bel⟩)
  refine (Q55 Tryz.func3 (by kernel_rfl) (by kernel_rfl) hc).mono fun e W' he => ?_
  obtain ⟨v, rfl⟩ : ∃ v, e = .returned v := by cases e <;> first | exact ⟨_, rfl⟩ | exact he.elim
  obtain ⟨rfl, bel⟩ := he
  exact ⟨_, rfl, _, _, _, [], _, [], hW', trodAll_mk1 (shut_bool Tryz.underlying4 _), (trodAll_cons_mk (k0 W' bel) (trodAll_cons_mk (k1 W' bel) (trodAll_cons_mk (k2 W' bel) trodAll_mk0))), rfl, bel.frame _, fun h => by cases h⟩
theorem over : Rows.sendPlainRow.holds Tryz.pinned (OpenSpec.ofChange Rows.sendPlainSpec) :=
  OpenClaim.holds_of_wide 3 Tryz.f3 rfl rfl rfl rfl rfl rfl rfl ⟨rfl, rfl, rfl, rfl, rfl⟩ rfl rfl rfl rfl rfl (by kernel_rfl) Tryz.func3 (by kernel_rfl)
    (of_decide_eq_true (by kernel_rfl)) (by unfold Func.isWrapper; first | (rw [if_pos (by decide +kernel)]; kernel_rfl) | (rw [if_neg (by decide +kernel)]; exact ⟨rfl, rfl⟩))
    (fun os started H enc _ => X5Z os started H enc)
end Go.Proofs.YtlfdfcejjgidpaaGreatDoor.sendPlain
namespace Go.Proofs.YtlfdfcejjgidpaaGreatDoor
open Go.Proofs.Y
theorem Q4L : Rows.SendPlainSaid := sendPlain.over
end Go.Proofs.YtlfdfcejjgidpaaGreatDoor
