/- Parts of a proof about the given program: its functions as texts of their own, what each computes, plain laws of that. The conditions of each stand in its statement. -/
import Derived.Test.YtfppjenblllfaaaGreatDoorB5
import Derived.Test.YtfppjenblllfaaaGreatDoorB3
import Derived.Test.YtfppjenblllfaaaGreatDoorB4
import Derived.Test.YtfppjenblllfaaaGreatDoorRows
import Derived.WalkKit
import Derived.ProofKit
import Derived.OpenShut
import Derived.ShutString
import Derived.ChangeOld
import Derived.Below
import Derived.SizedLaws
import Derived.Lay
import Derived.Carry
import Derived.MakeChecks
import Derived.PinnedBridge
set_option linter.unnecessarySimpa false
set_option linter.defProp false
set_option linter.unusedSectionVars false
set_option linter.unusedVariables false
set_option linter.unusedSimpArgs false
namespace Go.Proofs.YtfppjenblllfaaaGreatDoor
open Go.Emb Go.RowKit Go.Kd Go.Hm
variable {w w' w1 : World} {K : Value → World → Prop} {σ σ' σ1 : Q4} {v u : Value} {B : Nat} {D D1 : Nat → Prop} {p tv pv cv hv : Value} {m : Hm.Met} {i : Ins} {d d' d2 : Dr} {l : List Cla} {E E' : World → Prop} {c f : Q9} {k : Bool}
theorem Q7N {d:Dr} {z:Int} (h:F0 d z=true): ∃n:Nat,z=n∧n<d.locals.length:=by
 unfold F0 at h
 simp only[Bool.and_eq_true,decide_eq_true_eq] at h
 exact ⟨z.toNat,by omega,by omega⟩
theorem Q6h {a:Q9}:(elem a).length≤a.length:=by
 unfold elem;split
 ·unfold Kd.cutA;simp
 ·exact Nat.zero_le _
theorem X2C:B7 l m i c f k .load:=fun {w σ B D p tv pv cv hv v d K} h y R hh=>by
 have y:v=U5 F.b3:=y
 subst y
 have Q:V9 l m i c f k d .load=if (d.wrong (F0 d i.n) 74).e=0 then (if ((d.wrong (F0 d i.n) 74).wrong (!decide ((d.wrong (F0 d i.n) 74).locals.getD i.n.toNat []=[])) 74).e=0 then ((d.wrong (F0 d i.n) 74).wrong (!decide ((d.wrong (F0 d i.n) 74).locals.getD i.n.toNat []=[])) 74).put [(d.wrong (F0 d i.n) 74).locals.getD i.n.toNat []] else ((d.wrong (F0 d i.n) 74).wrong (!decide ((d.wrong (F0 d i.n) 74).locals.getD i.n.toNat []=[])) 74)) else d.wrong (F0 d i.n) 74:=rfl
 rw[Q] at hh
 refine X8 (first:=[]) (caps:=[]) (Q0E ?_)
 unfold Dy
 refine Q8a h (h.to hh (by rw[Dr.wrong_st];exact h.len) fun w1 σ1 D1 Y j a=>?_)
 cases o:F0 d i.n with
 | false=>
  have J: ¬(d.wrong false 74).e=0:=fun e=>absurd (Dr.wrong_ok (by decide) e).2.1 (by decide)
  rw[o] at j a
  rw[if_neg J] at a⊢
  refine G1 ?_
  rw[show decide ((0:Int)≤ -1)=false from by decide]
  simp only[E2,E7,G6,B0]
  refine V0 ?_
  exact a.fin j.sat j.dr
 | true=>
  rw[o,Dr.wrong_true] at j a
  rw[Dr.wrong_true,if_pos R] at*
  obtain ⟨n,en,z⟩:=Q7N o
  rw[en] at a⊢
  rw[show ((n:Int)).toNat=n from rfl] at a
  refine G1 ?_
  rw[show decide ((0:Int)≤(n:Int))=true from by simp]
  simp only[L4,G7]
  obtain ⟨b,sv,lv,rfl,L,hq,M⟩:=j.cells
  refine H9 ?_
  refine J7 ?_
  refine J7 ?_
  refine B4 (i:=13) L rfl ?_
  refine X3S M z fun A=>?_
  refine I4 ?_
  refine Xi j (j.to a (by rw[Dr.wrong_st];exact j.len) fun Z V U W s g=>?_)
  by_cases r:(d.wrong (!decide (d.locals.getD n []=[])) 74).e=0
  ·rw[decide_eq_true r]
   rw[if_pos r] at g
   refine J5 ?_
   obtain ⟨X,H,O,N,t,C,q⟩:=s.cells
   cases N
   refine H9 ?_
   refine J7 ?_
   refine J7 ?_
   refine B4 (i:=13) t rfl ?_
   rw[Dr.wrong_lo] at q
   refine X3S q z fun A=>?_
   exact Dm (E:=K (.tuple #[])) s A g
  ·rw[decide_eq_false r]
   rw[if_neg r] at g
   refine V0 ?_
   exact g.fin s.sat s.dr
theorem X1j:B7 l m i c f k .store:=fun {w σ B D p tv pv cv hv v d K} h R e0 hh=>by
 have R:v=U5 F.aP:=R
 subst R
 have ea:V9 l m i c f k d .store=if ((d.wrong (F0 d i.n) 74).take 1).e=0 then ⟨((d.wrong (F0 d i.n) 74).take 1).stack,((d.wrong (F0 d i.n) 74).take 1).locals.set i.n.toNat (((d.wrong (F0 d i.n) 74).taken 1).getD 0 []),0⟩ else (d.wrong (F0 d i.n) 74).take 1:=rfl
 rw[ea] at hh
 refine X8 (first:=[]) (caps:=[]) (Tm ?_)
 unfold Nr
 refine Q8a h (h.to hh (by rw[Dr.wrong_st];exact h.len) fun w1 σ1 D1 N1 h1 J=>?_)
 refine Na (n:=1) h1 (by decide) fun v2 w2 σ2 N2 o t=>?_
 have a:=J.go N2 fun j H=> .inl H
 refine Re (k:=0) o.sat t (by rw[Dr.taken_len];decide) fun Z=>?_
 obtain ⟨b,sv,O,rfl,hB,r,hq,W,X,Y,hD⟩:=o.dr.ex
 refine H9 ?_
 refine J7 ?_
 refine B4 (i:=14) r rfl ?_
 refine Jz ?_
 by_cases g:((d.wrong (F0 d i.n) 74).take 1).e=0
 ·rw[decide_eq_true g]
  rw[if_pos g] at a
  have V:=(Dr.take_ok g).1
  obtain ⟨_,z,ed⟩:=Dr.wrong_ok (by decide) V
  rw[if_pos V]
  obtain ⟨n,en,hn⟩:=Q7N z
  rw[en] at a⊢
  rw[show ((n:Int)).toNat=n from rfl] at a
  refine J5 ?_
  refine H9 ?_
  refine J7 ?_
  refine J7 ?_
  refine B4 (i:=13) r rfl ?_
  have q:n<((d.wrong (F0 d i.n) 74).take 1).locals.length:=by rw[Dr.take_loc g,Dr.wrong_lo];exact hn
  have A:=r
  have C:=g
  rw[en] at q W r Z hq
  refine X40 (y:=((d.wrong (F0 d n) 74).taken 1).getD 0 []) o.sat W q rfl rfl ⟨rfl,Z⟩ fun w3 L s N U=>?_
  have Q:b≠O.ownBlock.getD 0:=fun e=>Y _ N e.symm
  have M:sv.ownBlock≠some (O.ownBlock.getD 0):=fun e=>(X _ e).2 N
  refine a w3 σ2 D1 (Nxt.updD o.sat L s ((hD _).2 (.inr (.inr N)))) ⟨b,sv,O,rfl,hB,?_,hq.updD L M,U,X,Y,hD⟩ fun j H=> .inl H
  have:=A.upd L Q
  rw[C] at this
  exact this
 ·rw[decide_eq_false g]
  rw[if_neg g] at a
  refine V0 ?_
  exact a.fin o.sat o.dr
theorem X3W:B7 l m i c f k .pop:=fun {w σ B D p tv pv cv hv v d K} h a t hh=>by
 have a:v=U5 F.bV:=a
 subst a
 refine X8 (first:=[]) (caps:=[]) (Q3P ?_)
 unfold Ge
 refine Na (n:=1) h (by decide) fun s r q o b e=>?_
 exact (hh.go o fun j g=> .inl g).fin b.sat b.dr
theorem X44:B7 l m i c f k .nop:=fun {w σ B D p tv pv cv hv v d K} h a b hh=>by
 have a:v=U5 F.bW:=a
 subst a
 refine X8 (first:=[]) (caps:=[]) (Q3A ?_)
 unfold Gf
 exact hh.fin h.sat h.dr
theorem X4b:B7 l m i c f k .dup:=fun {w σ B D p tv pv cv hv v d K} h o L hh=>by
 have o:v=U5 F.bg:=o
 subst o
 refine X8 (first:=[]) (caps:=[]) (Q1C ?_)
 unfold Eu
 refine Na (n:=1) h (by decide) fun J H z t b a=>?_
 have g:=hh.go t fun j s=> .inl s
 refine Re (k:=0) b.sat a (by rw[Dr.taken_len];decide) fun r=>?_
 refine O4 (R:=X9) (sz:=1) b.sat [S ((d.taken 1).getD 0 []),S ((d.taken 1).getD 0 [])] [(d.taken 1).getD 0 [],(d.taken 1).getD 0 []] rfl rfl (by simp;rfl) rfl ⟨⟨rfl,r⟩,⟨rfl,r⟩,trivial⟩ fun y A C q e=>?_
 exact Q8E (b.up q) e (by simp) (g.up q)
theorem X2V:B7 l m i c f k .swap:=fun {w σ B D p tv pv cv hv v d K} h y e0 hh=>by
 have y:v=U5 F.b4:=y
 subst y
 refine X8 (first:=[]) (caps:=[]) (Q0R ?_)
 unfold Ed
 refine Na (n:=2) h (by decide) fun Z Y U J A a=>?_
 have q:=hh.go J fun j H=> .inl H
 have o:0<(d.taken 2).length:=by rw[Dr.taken_len];decide
 have g:1<(d.taken 2).length:=by rw[Dr.taken_len];decide
 obtain ⟨q0,L⟩:=Sl.elS a o
 obtain ⟨M,O⟩:=Sl.elS a g
 refine U8 A.sat ?_
 refine Z8 (fun w b=>U7 (i:=1) (a.up b.stp) g (Y1 rfl)) ?_
 refine Z8 (fun w b=>U7 (i:=0) (a.up b.stp) o (Y1 rfl)) ?_
 refine Z8 (V:=S (d.taken 2)[1]) (fun t w b e=>?_) ?_
 ·subst e;exact Y0 b.sat (M.up b.stp) rfl (Y1 rfl)
 refine Z8 (V:=S (d.taken 2)[0]) (fun t w b e=>?_) ?_
 ·subst e;exact Y0 b.sat (q0.up b.stp) rfl (Y1 rfl)
 rintro _ _ _ _ W r rfl rfl rfl rfl
 have s:=r.stp
 refine O4 (R:=X9) (sz:=1) s.sat [S (d.taken 2)[1],S (d.taken 2)[0]] [(d.taken 2)[1],(d.taken 2)[0]] rfl rfl (by simp;exact ⟨rfl,rfl⟩) rfl ⟨⟨rfl,O⟩,⟨rfl,L⟩,trivial⟩ fun X w4 Q C z=>?_
 refine Q8E ((A.up s).up C) z (by simp) ?_
 have N:V9 l m i c f k d .swap=(d.take 2).put [(d.taken 2)[1],(d.taken 2)[0]]:=by
  show (d.take 2).put [(d.taken 2).getD 1 [],(d.taken 2).getD 0 []]=_
  rw[getD_get o,getD_get g]
 rw[N] at q
 exact (q.up s).up C
theorem X2u:B7 l m i c f k .size:=fun {w σ B D p tv pv cv hv v d K} h o N hh=>by
 have o:v=U5 F.b5:=o
 subst o
 refine X8 (first:=[]) (caps:=[]) (Q0c ?_)
 unfold Ef
 refine Na (n:=1) h (by decide) fun M H z s a b=>?_
 have g:=hh.go s fun j q=> .inl q
 refine Re (k:=0) a.sat b (by rw[Dr.taken_len];decide) fun t=>?_
 refine X0G a t (a.to g (by rw[Dr.wrong_st];exact a.len) fun A C J L r e=>?_)
 exact Dm (y:=U9) (E:=K (.tuple #[])) r (by decide) e
theorem X2Z (y:i.s.length≤Y9):B7 l m i c f k .make:=fun {w σ B D p tv pv cv hv v d K} h r Y hh=>by
 have r:v=U5 F.aI:=r
 subst r
 refine X8 (first:=[]) (caps:=[]) (Pg ?_)
 unfold Mw
 obtain ⟨b,sv,X,rfl,N,Z,O⟩:=h.cells
 have J:V9 l m i c f k d .make=if (d.wrong (Zv l i.s) 76).e=0 then (d.wrong (Zv l i.s) 76).put [i.s] else d.wrong (Zv l i.s) 76:=rfl
 rw[J] at hh
 refine U8 h.sat ?_
 have hz0:True:=trivial
 (repeat (apply Z8;(· intros;(repeat (rename_i q;subst q));(try simp only[hz0,E2,E7,G6,L4,N5,Bool.not_true,Bool.not_false]);first | exact Y1 rfl | exact H9 (Y1 rfl) | exact J7 (Y1 rfl) | exact G1 (Y1 rfl) | exact I4 (Y1 rfl) | (rw[Ys];exact dml (by assumption) (by assumption) rfl) | exact dml (by assumption) (by assumption) rfl | exact Vi (J6.up (by assumption) (Hst.stp (by assumption))) (Y1 rfl);done)))
 (intros;(repeat (rename_i q;subst q)))
 rename_i w1 j
 refine Q9Z j.sat (h.tab.lift ⟨j.stp.le⟩) fun U L A=>?_
 have g:=j.stp.trans A
 refine Xi (h.up g) ((h.up g).to (hh.up g) (by rw[Dr.wrong_st];exact h.len) fun M Q V W o a=>?_)
 by_cases n:(d.wrong (Zv l i.s) 76).e=0
 ·rw[decide_eq_true n]
  rw[if_pos n] at a
  refine J5 ?_
  obtain ⟨R,z,H,C,t,_⟩:=o.cells
  cases C
  refine H9 ?_
  refine J7 ?_
  refine J7 ?_
  refine B4 (i:=10) t rfl ?_
  exact Dm (E:=K (.tuple #[])) o y a
 ·rw[decide_eq_false n]
  rw[if_neg n] at a
  refine V0 ?_
  exact a.fin o.sat o.dr
theorem X16 (t:i.s.length≤1000):B7 l m i c f k .array:=fun {w σ B D p tv pv cv hv v d K} h n M hh=>by
 have n:v=U5 F.aQ:=n
 subst n
 refine X8 (first:=[]) (caps:=[]) (Ta ?_)
 unfold Nh
 have hB:Y9≥1002:=by decide
 have o:(i.s++[91,93]).length≤1002:=by rw[List.length_append];simp;omega
 have a:i.s.length+([91,93]:Q9).length≤9223372036854775807:=by simp;omega
 refine Q3q h (by omega) (h.to hh (by rw[Dr.wrong_st];exact h.len) fun w1 σ1 D1 C b j=>?_)
 refine Df (u:=[91,93]) a ?_
 refine Yu _ (by omega) fun H r=>?_
 have g:=Stp.of_below b.sat r
 refine Xi (b.up g) ((b.up g).to (j.up g) (by rw[Dr.wrong_st];exact b.len) fun z A J L q e=>?_)
 refine Df (u:=[91,93]) a ?_
 exact Q2M (y:=U9) (E:=K (.tuple #[])) q (by omega) (by decide) e
theorem X4w:B7 l m i c f k .at_:=fun {w σ B D p tv pv cv hv v d K} h t V hh=>by
 have t:v=U5 F.bs:=t
 subst t
 refine X8 (first:=[]) (caps:=[]) (Q2e ?_)
 unfold Sf
 refine Na (n:=2) h (by decide) fun R O J z g a=>?_
 have s:=hh.go z fun j y=> .inl y
 refine Re (k:=1) g.sat a (by rw[Dr.taken_len];decide) fun r=>?_
 refine Q3w (c:=U9) g r (by decide) (g.to s (by rw[Dr.wrong_st];exact g.len) fun L N Q A e q=>?_)
 refine Re (k:=0) e.sat (a.lift A.le) (by rw[Dr.taken_len];decide) fun b=>?_
 refine X0G e b (e.to q (by rw[Dr.wrong_st];exact e.len) fun W H M U C o=>?_)
 exact Dm (E:=K (.tuple #[])) C (Nat.le_trans Q6h b) o
theorem X45:B7 l m i c f k .set_:=fun {w σ B D p tv pv cv hv v d K} h N e0 hh=>by
 have N:v=U5 F.bi:=N
 subst N
 refine X8 (first:=[]) (caps:=[]) (Q1t ?_)
 unfold Ex
 refine Na (n:=3) h (by decide) fun v2 w2 Q Y g a=>?_
 have r:=hh.go Y fun j W=> .inl W
 refine Zg (fun z w'=> ∃s:Q9,z=S s∧s.length≤Y9∧s=(if (d.take 3).e=0 then elem ((d.taken 3).getD 0 []) else [])∧Stp w2 Q w' Q) ?_ (fun z dd w3 hz=>?_)
 ·obtain ⟨b,sv,lv,rfl,Z,hq,hl⟩:=g.cells
  refine H9 ?_
  refine J7 ?_
  refine B4 (i:=14) Z rfl ?_
  refine Jz ?_
  by_cases t:(d.take 3).e=0
  ·rw[decide_eq_true t]
   refine J5 ?_
   refine Re (k:=0) g.sat a (by rw[Dr.taken_len];decide) fun q=>?_
   refine Q5w _ (by unfold Y9 at q;omega) fun w4 X=>?_
   exact ⟨_,rfl,Nat.le_trans Q6h q,(if_pos t).symm,Stp.of_below g.sat X⟩
  ·rw[decide_eq_false t]
   refine V0 ?_
   exact ⟨[],rfl,by decide,(if_neg t).symm,Stp.refl g.sat⟩
 ·obtain ⟨s,rfl,J,es,H⟩:=hz
  have ea:V9 l m i c f k d .set_=(((d.take 3).wrong (!decide ((if (d.take 3).e=0 then elem ((d.taken 3).getD 0 []) else [])=[])) 73).wrong (O3 l ((d.taken 3).getD 2 []) (if (d.take 3).e=0 then elem ((d.taken 3).getD 0 []) else [])) 73).wrong (O3 l ((d.taken 3).getD 1 []) U9) 73:=rfl
  rw[ea,←es] at r
  have C:=g.up H
  have o:=a.up H
  refine I4 ?_
  refine Xi C (C.to (r.up H) (by rw[Dr.wrong_st];exact C.len) fun w4 σ4 D4 U y A=>?_)
  refine Re (k:=2) y.sat (o.lift U.le) (by rw[Dr.taken_len];decide) fun O=>?_
  refine Q3w y O J (y.to A (by rw[Dr.wrong_st];exact y.len) fun w5 σ5 D5 V R L=>?_)
  refine Re (k:=1) R.sat ((o.lift U.le).lift V.le) (by rw[Dr.taken_len];decide) fun M=>?_
  exact Q3w (c:=U9) R M (by decide) L
theorem X4y (j:i.s.length≤Y9):B7 l m i c f k .is:=fun {w σ B D p tv pv cv hv v d K} h g A hh=>by
 have g:v=U5 F.bt:=g
 subst g
 refine X8 (first:=[]) (caps:=[]) (Q28 ?_)
 unfold Rc
 refine Q3q h j (h.to hh (by rw[Dr.wrong_st];exact h.len) fun w1 σ1 D1 t b a=>?_)
 refine X1D b (b.to a (by rw[Dr.wrong_st];exact Nat.le_trans Dr.take_len b.len) fun z q o r n e=>?_)
 exact Dm (y:=L8) (E:=K (.tuple #[])) n (by decide) e
theorem X2W (j:i.s.length≤Y9):B7 l m i c f k .cast:=fun {w σ B D p tv pv cv hv v d K} h g z hh=>by
 have g:v=U5 F.b8:=g
 subst g
 refine X8 (first:=[]) (caps:=[]) (Q0u ?_)
 unfold Dk
 refine Q3q h j (h.to hh (by rw[Dr.wrong_st];exact h.len) fun w1 σ1 D1 t b a=>?_)
 refine X1D b (b.to a (by rw[Dr.wrong_st];exact Nat.le_trans Dr.take_len b.len) fun y q o r n e=>?_)
 exact Dm (E:=K (.tuple #[])) n j e
theorem X3b (j:m.result.length≤Y9):B7 l m i c f k .ret:=fun {w σ B D p tv pv cv hv v d K} h e s hh=>by
 have e:v=U5 F.b9:=e
 subst e
 refine X8 (first:=[]) (caps:=[]) (Ay ?_)
 unfold Ds
 obtain ⟨b,sv,r,rfl,g,t,o⟩:=h.cells
 have n:V9 l m i c f k d .ret=if m.result=[] then d else d.all l [] [m.result]:=rfl
 rw[n] at hh
 refine H9 ?_
 refine J7 ?_
 refine J7 ?_
 refine B4 (i:=3) g rfl ?_
 refine I4 (u:=[]) ?_
 by_cases a:m.result=[]
 ·rw[decide_eq_true a,Bool.not_true]
  rw[if_pos a] at hh
  refine V0 ?_
  exact hh.fin h.sat h.dr
 ·rw[decide_eq_false a,Bool.not_false]
  rw[if_neg a] at hh
  refine J5 ?_
  refine H9 ?_
  refine J7 ?_
  refine J7 ?_
  refine B4 (i:=3) g rfl ?_
  exact Q2M (q:=[]) (E:=K (.tuple #[])) h (by decide) j hh
theorem X1q:B7 l m i c f k .equal:=fun {w σ B D p tv pv cv hv v d K} h t W hh=>by
 have t:v=U5 F.aR:=t
 subst t
 refine X8 (first:=[]) (caps:=[]) (Ti ?_)
 unfold Oh
 refine Na (n:=2) h (by decide) fun U Q L A e a=>?_
 have s:=hh.go A fun j z=> .inl z
 refine Re (k:=1) e.sat a (by rw[Dr.taken_len];decide) fun r=>?_
 refine Q29 e r (e.to s (by rw[Dr.wrong_st];exact e.len) fun M O R C b o=>?_)
 refine Re (k:=0) b.sat (a.lift C.le) (by rw[Dr.taken_len];decide) fun q=>?_
 refine Q29 b q (b.to o (by rw[Dr.wrong_st];exact b.len) fun X J N V H g=>?_)
 exact Dm (y:=L8) (E:=K (.tuple #[])) H (by decide) g
end Go.Proofs.YtfppjenblllfaaaGreatDoor

namespace Go.Emb
open Go.RowKit Go.Hm
section
variable {P : Program} {w w0 w1 w' : World} {K : Value → World → Prop} {σ σ0 : Q4} {α : Type} {R : Q4 → α → List Value → Prop} {sz : Nat} {e : TypeId} {v u : Value} {xs ys : List α}
def Full (v:Value):Prop:= ∃a n,v= .slice a n n
theorem X2x {t:TypeId} {by_:Nat} {z:Value} {n:Nat} {a:List (Nat×Value)} [ts:TS P t e] [tz:TZ P e sz by_ z] (o:Stp w0 σ0 w σ) (vs:List Value) (xs:List α) (C:n=vs.length) (L:a=en 0 vs) (hv: ∀v∈vs,v.cells.size=sz) (b:(decide (0<sz)&&decide (vs.length*sz≤16777216))=true) (r:Gy R σ vs xs)
 (h: ∀v w',Stp w σ w' σ→V3 w0.heap.size e sz R σ w' v xs→Full v→K v w'):buildSlice P t n a w K:=by
 subst C L
 simp only[Bool.and_eq_true,decide_eq_true_eq] at b
 obtain ⟨q,b⟩:=b
 obtain ⟨cells,A,g⟩:=Ul (P:=P) (t:=t) vs hv b w
 unfold buildSlice
 rw[Y2 A]
 have j:=r.len
 refine h _ _ (Stp.own o.sat _) ⟨cells.toList,⟨by rw[g,Oq hv,j], .inr ⟨_,_,cells,by rw[j],o.bel.size,heap_alloc_new w _,by omega,?_,?_,?_⟩⟩,?_,?_⟩ ⟨_,_,rfl⟩
 ·simp only[maxLen]
  have:vs.length*1≤vs.length*sz:=Nat.mul_le_mul_left _ q
  omega
 ·rw[←Array.length_toList,g,Oq hv,j]
 ·rw[List.take_of_length_le (by rw[g,Oq hv,j];exact Nat.le_refl _)]
 ·intro k y;cases y;exact o.sat.none (Nat.le_refl _)
 ·intro i x s
  obtain ⟨v,H,J⟩:=r.get s
  rw[g,Q2J hv i v H];exact J
theorem X3h {t Y:TypeId} {by_:Nat} {z:Value} {cs:List Bool} [ts:TS P t e] [tz:TZ P e sz by_ z] [hr:Rep R] (hS:Stp w0 σ0 w σ) (ha:V3 w0.heap.size e sz R σ w v xs) (hv:Full v) (C:Sl sz R σ u ys) (hz:(z.cells.size==sz&&decide (0<sz))=true)
 (hb:(xs.length+ys.length)*by_≤140737488355328) (hm:xs.length+ys.length≤1000000000000)
 (h: ∀A w',Stp w σ w' σ→V3 w0.heap.size e sz R σ w' A (xs++ys)→K A w'):X5 P .append [t,t] Y cs [v,u] w K:=by
 have Q:=ha
 obtain ⟨cells,U,h2,h3⟩:=ha
 obtain ⟨av,nv,rfl⟩:=hv
 rcases U.2 with ⟨N,Z⟩ | ⟨g,a0,ai,N,bb,hg,a9,ay,H,af⟩
 ·cases N
  have:xs=[]:=List.eq_nil_of_length_eq_zero Z
  subst this
  exact X3K hS Q ⟨_,rfl⟩ C hz (by simpa using hb) (by simpa using hm) h
 injection N with N Z e3
 subst N e3 Z
 have hs:=hS.sat
 obtain ⟨a,o,n,rfl,n1,n2,n3,n4,n5⟩:=C.cells hs
 obtain ⟨i,hi,V,ak,L⟩:=tz.info
 simp only[Bool.and_eq_true,beq_iff_eq,decide_eq_true_eq] at hz
 obtain ⟨aj,a3⟩:=hz
 have q:Src P i.size t (.slice a ys.length o) ys.length n w:=by
  cases a with
  | some b=>exact Src.ofSlice w ts.h b ys.length o n (by rw[V];exact n2) (n3 b rfl) n4
  | none=>
   have O:ys.length=0:=by
    obtain ⟨a',ax,e',q1,_,q3,_⟩:=C;injection e' with N Z e3;have:=n1 rfl;omega
   have hn:n=[]:=List.eq_nil_of_length_eq_zero (by rw[n2,O];simp)
   subst hn
   rw[O];exact Src.ofNil w ts.h o
 have W: ∀A w',(Builtin.append_ #[t,t] Y #[.slice (some ⟨g,0,none⟩) xs.length xs.length, .slice a ys.length o]).run P w= .ok A w'→Stp w σ w' σ→V3 w0.heap.size e sz R σ w' A (xs++ys)→X5 P .append [t,t] Y cs [.slice (some ⟨g,0,none⟩) xs.length xs.length, .slice a ys.length o] w K:=by
  intro A w' r hk hq
  have M:(builtin .append #[t,t] Y cs.toArray #[.slice (some ⟨g,0,none⟩) xs.length xs.length, .slice a ys.length o]).run P w= .ok (.value A) w':=by
   simp[builtin,r]
  unfold X5
  rw[Qu];unfold T5
  rw[M]
  exact h A w' hk hq
 by_cases O:ys=[]
 ·subst O
  have hn:n=[]:=List.eq_nil_of_length_eq_zero (by simpa using n2)
  subst hn
  refine W _ w ?_ (Stp.refl hs) (by rw[List.append_nil];exact Q)
  have hl:=q.len w
  have H:=q.cells
  simp only[List.length_nil] at hl H⊢
  simp[Builtin.append_,run_underlying ts.h,sizeOf,typeInfo,hi,hl,H,storeCells]
 ·have a2:0<ys.length:=List.length_pos_iff.2 O
  have J:(Builtin.firstCells i.size xs.length (.slice (some ⟨g,0,none⟩) xs.length xs.length)).run P w.drew= .ok cells.toArray w.drew:=by
   refine run_firstCells_some _ _ _ _ _ _ _ (by rw[V];exact U.1) fun j u C=>?_
   unfold World.cell?
   have hh:w.drew.heap[g]? =some (.cells ai e (0,0)):=hg
   rw[←af,List.getElem?_take] at C
   have ea:(⟨g,0,none⟩:Addr).add j=⟨g,j,none⟩:=by unfold Addr.add;split<;>simp_all
   rw[ea]
   simp only[hh]
   split at C
   ·simpa using C
   ·cases C
  have X:xs.length<xs.length+ys.length:=by omega
  have r:=run_append_grow_src (P:=P) w t t Y e i z ts.h hi L (some ⟨g,0,none⟩) xs.length xs.length cells J (.slice a ys.length o) ys.length n q X (by omega) (growslice_fits X (by rw[ak];exact hb))
  have ad:=grownCap_le_maxLen w (xs.length+ys.length) xs.length e (by simp only[maxLen];omega)
  have am:=grownCap_ge w (xs.length+ys.length) xs.length e
  have s:(xs++ys).length=xs.length+ys.length:=List.length_append
  have y:(cells++n).length=(xs.length+ys.length)*sz:=by rw[List.length_append,U.1,n2,Nat.add_mul]
  refine W _ _ r (Stp.of_below hs ((Below.refl _ _).drew.alloc (Nat.le_refl _) _)) ⟨cells++n,⟨by rw[s];exact y, .inr ⟨w.heap.size,_,_,by rw[s],hS.bel.size,heap_alloc_new w.drew _,by rw[s];exact am,ad,?_,?_⟩⟩,?_,fun j x hx=>?_⟩
  ·rw[Array.size_append,List.size_toArray,y,size_zeroCells,aj,←Nat.add_mul]
   congr 1;omega
  ·rw[Array.toList_append,s]
   rw[List.take_append_of_le_length (by simp only[List.toList_toArray];omega),List.take_of_length_le (by simp only[List.toList_toArray];omega)]
  ·intro k hk;cases hk;exact hs.none (Nat.le_refl _)
  ·by_cases hj:j<xs.length
   ·rw[List.getElem?_append_left hj] at hx
    rw[Vm cells n xs.length j U.1 hj]
    exact h3 j x hx
   ·rw[List.getElem?_append_right (by omega)] at hx
    have:=n5 _ _ hx
    rw[show j*sz=cells.length+(j-xs.length)*sz by rw[U.1,←Nat.add_mul];congr 1;omega,List.drop_append]
    simpa [List.drop_eq_nil_of_le] using this
def Q8R (w0:World) (σ:Q4) (e:TypeId) (sz:Nat) (R:Q4→α→List Value→Prop) (xs:List α) (v:Value) (w':World):Prop:=Stp w0 σ w' σ∧V3 w0.heap.size e sz R σ w' v xs∧Full v
theorem Q8R.st [Rep R]:P2 (fun w w'=>Below w.heap.size w w') (Q8R w0 σ e sz R xs):=fun _ _ _ ⟨a,h,g⟩ b=>⟨a.trans (Stp.of_below a.sat b),h.up (Stp.of_below a.sat b),g⟩
end
end Go.Emb
namespace Go.Proofs.YtfppjenblllfaaaGreatDoor
open Go.Emb Go.RowKit Go.Kd Go.Hm
variable {w w' w1 : World} {K : Value → World → Prop} {σ σ' σ1 : Q4} {v u : Value} {B : Nat} {D D1 : Nat → Prop} {p tv pv cv hv : Value} {m : Hm.Met} {i : Ins} {d d' d2 : Dr} {l : List Cla} {E E' : World → Prop} {c f : Q9} {k : Bool}
theorem Q5x {n:Nat} (h:F2 l c f=some n):n<(U1 l c).length:=(List.findIdx?_eq_some_iff_getElem.1 h).1
theorem Q41 (ok:Ok l) {x:Fld} (h:x∈U1 l c):x.kind.length≤Y9:=by
 unfold U1 at h
 obtain ⟨y,b,a⟩:=List.mem_flatMap.1 h
 have:=((ok.nm _ (Cd (List.mem_reverse.1 b))).2.1 x a).2
 exact Nat.le_trans this (by decide)
def X1P (o:Option (Q9×Q9)):Value:= .tuple #[S ((o.map (·.1)).getD []),S ((o.map (·.2)).getD [])]
theorem Cs {s:Q9}:(K7 s).1.length≤s.length∧(K7 s).2.1.length≤s.length:=by
 unfold K7
 split
 ·have:=X2T s
  exact ⟨by show (G0 s).1.length≤_;omega,by show (G0 s).2.1.length≤_;omega⟩
 ·exact ⟨Nat.zero_le _,Nat.zero_le _⟩
theorem Q5J {s:Q9} (b:s.length≤Y9) (h: ∀w',Below w.heap.size w w'→K (.tuple #[S (K7 s).1,S (K7 s).2.1,I (if (K7 s).2.2 then 0 else 30)]) w'):Q0 P F.bl [S s] w K:=
 Q7Q s (by unfold Y9 at b;omega) fun w1 a=>by
  have:=h w1 a
  unfold K7 at this
  by_cases e:P9 s
  ·rw[if_pos e] at this⊢;exact this
  ·rw[if_neg e] at this⊢;exact this
theorem Q7D (h:AtD B D w σ p tv pv cv hv m i l d) (hi:i.s.length≤Y9) (hp:K7 i.s=(c,f,k)) (hh:To B D w σ p tv pv cv hv m i (d.wrong (R9 l c f k).isSome 76) (K (if (d.wrong (R9 l c f k).isSome 76).e=0 then X1P (R9 l c f k) else X1P none))):Q0 P F.aV [p] w K:=Tt (by
 unfold Nj
 obtain ⟨b,sv,lv,rfl,hm,hq,hl⟩:=h.cells
 have a7:c.length≤Y9:=by have:=(Cs (s:=i.s)).1;rw[hp] at this;exact Nat.le_trans this hi
 refine H9 ?_
 refine J7 ?_
 refine J7 ?_
 refine B4 (i:=10) hm rfl ?_
 refine Q5J hi fun w1 b1=>?_
 rw[hp]
 have k1:=Stp.of_below h.sat b1
 refine Z7 (vs:=[_,_,_]) rfl ?_
 refine Z7 (vs:=[_,_,_]) rfl ?_
 refine Z7 (vs:=[_,_,_]) rfl ?_
 have h1:=h.up k1
 obtain ⟨b',a6,bb,eb,aw,_⟩:=h1.cells
 cases eb
 refine H9 ?_
 refine J7 ?_
 refine B4 (i:=0) aw rfl ?_
 refine Q7G h1.sat h1.tab h1.ok.acy h1.ok.len h1.ok.sm fun w2 σ2 k2=>?_
 have h2:=h1.up k2
 have al:=(hh.up k1).up k2
 refine Jz ?_
 have af: ∀q,(R9 l c f k).isSome=q→Q0 P F.c [.pointer (some ⟨b,0,none⟩), .bool q,I 76] w2 fun aq w=>
  J3 P .not aq w fun ak w=>
  X1 ak (
   K (.tuple #[(.string ⟨#[]⟩),(.string ⟨#[]⟩)]) w) (
   dr w fun o Y=>
   Q5 o (fun A=> ∀w,Y w→nilCheck P (.pointer (some ⟨b,0,none⟩)) w (dk o A w)) fun A=>
   Q5 o (fun H=> ∀J w,Y w→A J w→fieldAddr P T.m J 0 w (dk o H w)) fun H=>
   Q5 o (fun W=> ∀X w,Y w→H X w→Q2 P T.r X w (dk o W w)) fun W=>
   Q5 o (fun Q=> ∀C w,Y w→W C w→Q0 P F.af [C,S c] w (dk o Q w)) fun Q=>
   Q5 o (fun L=> ∀U w,Y w→Q U w→indexAddr P T.i U (I (L2 (F2 l c f))) w (dk o L w)) fun L=>
   Q5 o (fun M=> ∀O w,Y w→L O w→fieldAddr P T.l O 1 w (dk o M w)) fun M=>
   Q5 o (fun ac=> ∀N w,Y w→M N w→Q2 P T.a N w (dk o ac w)) fun ac=>
   ∀J X C U O N ah w,Y w→A J w→H X w→W C w→Q U w→L O w→M N w→ac ah w→
   K (.tuple #[S c,ah]) w):=fun q eq=>by
  subst eq
  refine Xi h2 (h2.to al (by rw[Dr.wrong_st];exact h2.len) fun w3 σ3 D3 N3 z r=>?_)
  refine Li ?_
  by_cases e3:(d.wrong (R9 l c f k).isSome 76).e=0
  ·rw[if_pos e3] at r
   rw[decide_eq_true e3,Bool.not_true]
   refine V0 ?_
   obtain ⟨_,g,_⟩:=Dr.wrong_ok (by decide) e3
   obtain ⟨n,hn,hk⟩: ∃n,F2 l c f=some n∧R9 l c f k=some (c,((U1 l c).getD n Fld.zero).kind):=by
    unfold R9 at g⊢
    cases k with
    | false=>simp at g
    | true=>
     simp only[if_true] at g⊢
     cases an:F2 l c f with
     | none=>rw[an] at g;simp at g
     | some n=>exact ⟨n,rfl,rfl⟩
   rw[hk] at r z
   rw[hn]
   have ad:n<(U1 l c).length:=Q5x hn
   have am:=z.tab
   obtain ⟨bd,a2,ay,eb,ax,_⟩:=z.cells
   cases eb
   refine U8 z.sat ?_
   refine Z8 (fun w j=>H9 (Y1 rfl)) ?_
   refine Z8 (fun t w j e=>by subst e;exact J7 (Y1 rfl)) ?_
   refine Z8 (V:=tv) (fun t w j e=>by subst e;exact B4 (i:=0) (ax.up j.stp) rfl (Y1 rfl)) ?_
   refine Hc (w:=w3) (σ:=σ3) (Φ:=fun σ' v=>Sl 3 E5 σ' v (U1 l c)) (fun t w j e=>?_) ?_
   ·subst e;exact Q6I j.sat (am.lift ⟨j.stp.le⟩) z.ok.acy z.ok.len z.ok.sm fun v' w' σ' hk av=>Ar j hk av
   refine W9 (fun v w'=> ∃σ',Stp w3 σ3 w' σ'∧ ∃a,v= .pointer (some a)∧Z0 σ' a [S (U1 l c)[n].name,S (U1 l c)[n].kind, .bool (U1 l c)[n].tr]) (fun _ _ _ ⟨σ',y,a,g2,g3⟩ j=>⟨σ',y.trans (Stp.of_below y.sat j),a,g2,g3⟩) (fun t w j e=>?_) ?_
   ·obtain ⟨σ',y,g2⟩:=e
    exact Q5B g2 ad fun a ha _=>⟨Below.refl _ _,σ',y,a,rfl,ha⟩
   refine W9 (fun v w'=> ∃σ',Stp w3 σ3 w' σ'∧ ∃a,v= .pointer (some (a.add 1))∧Z0 σ' a [S (U1 l c)[n].name,S (U1 l c)[n].kind, .bool (U1 l c)[n].tr]) (fun _ _ _ ⟨σ',y,a,g2,g3⟩ j=>⟨σ',y.trans (Stp.of_below y.sat j),a,g2,g3⟩) (fun t w j e=>?_) ?_
   ·obtain ⟨σ',y,a,rfl,g3⟩:=e
    exact J7 ⟨Below.refl _ _,σ',y,a,rfl,g3⟩
   refine Z8 (V:=S (U1 l c)[n].kind) (fun t w j e=>?_) ?_
   ·obtain ⟨σ',y,a,rfl,g3⟩:=e
    exact ld (i:=1) y.sat g3 rfl (Y1 rfl)
   rintro _ _ _ _ _ _ _ w4 Z- - - - - -rfl
   have:=(r.up Z.stp).fin Z.sat (z.up Z.stp).dr
   have ek:(U1 l c).getD n Fld.zero=(U1 l c)[n]:=by simp[List.getD,ad]
   rw[ek] at this
   exact this
  ·rw[if_neg e3] at r
   rw[decide_eq_false e3,Bool.not_false]
   refine J5 ?_
   exact r.fin z.sat z.dr
 cases k with
 | false=>
  rw[show decide ((if (false:Bool)=true then (0:Int) else 30)=0)=false from by decide]
  simp only[E2,E7,G6,L4,N5,B0,G7]
  exact af false rfl
 | true=>
  rw[show decide ((if (true:Bool)=true then (0:Int) else 30)=0)=true from by decide]
  simp only[E2,E7,G6,L4,N5,B0,G7]
  refine G1 ?_
  refine af _ ?_
  unfold R9
  rw[if_pos rfl]
  cases F2 l c f with
  | none=>simp[L2]
  | some n=>simp[L2])
theorem Q4G (ok:Ok l) {x y:Q9} (a:R9 l c f k=some (x,y)) (j:c.length≤Y9):x.length≤Y9∧y.length≤Y9:=by
 unfold R9 at a
 split at a
 ·cases b:F2 l c f with
  | none=>rw[b] at a;cases a
  | some n=>
   rw[b] at a
   cases a
   refine ⟨j,?_⟩
   have g:=Q5x b
   have h:(U1 l c).getD n Fld.zero=(U1 l c)[n]:=by simp[List.getD,g]
   rw[h]
   exact Q41 ok (List.getElem_mem g)
 ·cases a
theorem X3m (o:i.s.length≤Y9) (t:K7 i.s=(c,f,k)):B7 l m i c f k .get:=fun {w σ B D p tv pv cv hv v d K} h n C hh=>by
 have n:v=U5 F.bh:=n
 subst n
 have j:c.length≤Y9:=by have:=(Cs (s:=i.s)).1;rw[t] at this;exact Nat.le_trans this o
 refine X8 (first:=[]) (caps:=[]) (Q1w ?_)
 unfold Ev
 refine Q7D h o t (h.to hh (by rw[Dr.wrong_st];exact h.len) fun w1 σ1 D1 H b a=>?_)
 have z:V9 l m i c f k d .get=match R9 l c f k with
  | some (c,k)=>d.all l k [c]
  | none=>(d.wrong false 76).all l [] [[]]:=rfl
 rw[z] at a
 cases g:R9 l c f k with
 | none=>
  rw[g] at b a
  have b:AtD B D1 w1 σ1 p tv pv cv hv m i l (d.wrong false 76):=b
  rw[if_neg (show¬(d.wrong (Option.isSome (none:Option (Q9×Q9))) 76).e=0 from fun e=>absurd (Dr.wrong_ok (by decide) e).2.1 (by decide))]
  refine Z7 (vs:=[_,_]) rfl ?_
  refine Z7 (vs:=[_,_]) rfl ?_
  exact Q2M (q:=[]) (y:=[]) (E:=K (.tuple #[])) b (by decide) (by decide) a
 | some A=>
  obtain ⟨x,y⟩:=A
  rw[g] at b a
  have b:AtD B D1 w1 σ1 p tv pv cv hv m i l d:=b
  have r:=Q4G b.ok g j
  rw[if_pos (show (d.wrong (Option.isSome (some (x,y))) 76).e=0 from C)]
  refine Z7 (vs:=[_,_]) rfl ?_
  refine Z7 (vs:=[_,_]) rfl ?_
  exact Q2M (E:=K (.tuple #[])) b r.2 r.1 a
theorem X37 (o:i.s.length≤Y9) (t:K7 i.s=(c,f,k)):B7 l m i c f k .give:=fun {w σ B D p tv pv cv hv v d K} h n H hh=>by
 have n:v=U5 F.b6:=n
 subst n
 have j:c.length≤Y9:=by have:=(Cs (s:=i.s)).1;rw[t] at this;exact Nat.le_trans this o
 refine X8 (first:=[]) (caps:=[]) (As ?_)
 unfold Ee
 refine Q7D h o t (h.to hh (by rw[Dr.wrong_st];exact h.len) fun w1 σ1 D1 J b a=>?_)
 have A:V9 l m i c f k d .give=match R9 l c f k with
  | some (c,k)=>d.all l [] [c,k]
  | none=>(d.wrong false 76).all l [] [[],[]]:=rfl
 rw[A] at a
 cases g:R9 l c f k with
 | none=>
  rw[g] at b a
  have b:AtD B D1 w1 σ1 p tv pv cv hv m i l (d.wrong false 76):=b
  rw[if_neg (show¬(d.wrong (Option.isSome (none:Option (Q9×Q9))) 76).e=0 from fun e=>absurd (Dr.wrong_ok (by decide) e).2.1 (by decide))]
  refine Z7 (vs:=[_,_]) rfl ?_
  refine Z7 (vs:=[_,_]) rfl ?_
  exact Q3d (q:=[]) (y:=[]) (z:=[]) (E:=K (.tuple #[])) b (by decide) (by decide) (by decide) a
 | some C=>
  obtain ⟨x,y⟩:=C
  rw[g] at b a
  have b:AtD B D1 w1 σ1 p tv pv cv hv m i l d:=b
  have r:=Q4G b.ok g j
  rw[if_pos (show (d.wrong (Option.isSome (some (x,y))) 76).e=0 from H)]
  refine Z7 (vs:=[_,_]) rfl ?_
  refine Z7 (vs:=[_,_]) rfl ?_
  exact Q3d (q:=[]) (E:=K (.tuple #[])) b (by decide) r.1 r.2 a
theorem X2d (hi:i.s.length≤Y9) (hp:K7 i.s=(c,f,k)) (hx: ∀o x,J0 l c f=some (o,x)→x.params.length≤1000000∧x.result.length≤Y9):B7 l m i c f k .call:=fun {w σ B D p tv pv cv hv v d K} h L e0 hh=>by
 have L:v=U5 F.b7:=L
 subst L
 have ab:c.length≤Y9:=by have:=(Cs (s:=i.s)).1;rw[hp] at this;exact Nat.le_trans this hi
 refine X8 (first:=[]) (caps:=[]) (Q0i ?_)
 unfold El
 obtain ⟨b,sv,lv,rfl,hm,hq,hl⟩:=h.cells
 refine H9 ?_
 refine J7 ?_
 refine J7 ?_
 refine B4 (i:=10) hm rfl ?_
 refine Q5J hi fun w1 b1=>?_
 rw[hp]
 have k1:=Stp.of_below h.sat b1
 refine Z7 (vs:=[_,_,_]) rfl ?_
 refine Z7 (vs:=[_,_,_]) rfl ?_
 refine Z7 (vs:=[_,_,_]) rfl ?_
 have Q:=h.up k1
 obtain ⟨b',av,a5,eb,ag,_⟩:=Q.cells
 cases eb
 refine H9 ?_
 refine J7 ?_
 refine B4 (i:=0) ag rfl ?_
 refine Q6i Q.sat Q.tab Q.ok fun n J N w2 σ2 k2 j=>?_
 refine Z7 (vs:=[_,_,_]) rfl ?_
 refine Z7 (vs:=[_,_,_]) rfl ?_
 refine Z7 (vs:=[_,_,_]) rfl ?_
 refine Y5 (sz:=7) k2.sat rfl rfl (Rep.one j) fun q w3 σ3 k3 r=>?_
 have C:=(k1.trans k2).trans k3
 have Y:=h.up C
 have H:=hh.up C
 have ea:V9 l m i c f k d .call=match J0 l c f with
  | some (_,x)=>d.all l x.result (c::x.params)
  | none=>d.wrong false 76:=rfl
 rw[ea] at H
 refine Xi Y (Y.to H (by rw[Dr.wrong_st];exact Y.len) fun W A D4 N4 y a=>?_)
 cases z:J0 l c f with
 | none=>
  rw[z] at a y
  rw[decide_eq_false (show¬(d.wrong (Option.isSome (none:Option (Q9×Hm.Met))) 76).e=0 from fun e=>absurd (Dr.wrong_ok (by decide) e).2.1 (by decide))]
  refine V0 ?_
  exact a.fin y.sat y.dr
 | some ox=>
  obtain ⟨o,x⟩:=ox
  rw[z] at a y j r
  rw[decide_eq_true (show (d.wrong (Option.isSome (some (o,x))) 76).e=0 from e0)]
  have y:AtD B D4 W A _ tv pv cv hv m i l d:=y
  have a:To B D4 W A _ tv pv cv hv m i (d.all l x.result (c::x.params)) (K (.tuple #[])):=a
  have j:L9 σ2 x [S x.name,n,S x.result, .bool x.abs,I x.locals,J,N]:=j
  have r:Z0 σ3 q [S x.name,n,S x.result, .bool x.abs,I x.locals,J,N]:=r
  have Z:Sl 1 X9 A n x.params:=(j.parts.1.up k3).lift N4.le
  have M:=r.lift N4.le
  obtain ⟨ax,ae⟩:=hx o x z
  refine J5 ?_
  refine U8 y.sat ?_
  refine Z8 (fun w g=>J7 (Y1 rfl)) ?_
  refine Z8 (fun w g=>J7 (Y1 rfl)) ?_
  refine Z8 (V:=S x.result) (fun t w g e=>by subst e;exact ld (i:=2) g.sat (M.up g.stp) rfl (Y1 rfl)) ?_
  refine W9 (Q8R W A T.a 1 X9 [c]) Q8R.st (fun w g=>X2x g.stp [_] [c] rfl rfl (by simp;rfl) rfl ⟨⟨rfl,ab⟩,trivial⟩ fun v' w' O ha L=>⟨O.bel,g.stp.trans O,ha,L⟩) ?_
  refine Z8 (V:=n) (fun t w g e=>by subst e;exact ld (i:=1) g.sat (M.up g.stp) rfl (Y1 rfl)) ?_
  refine Q1k (w:=W) (σ:=A) (R:=X9) (sz:=1) (e:=T.a) (c::x.params) (fun t1 t2 w g U f2=>?_) ?_
  ·subst f2
   obtain ⟨U,a1,b1⟩:=U
   exact X3h U a1 b1 (Z.up U) rfl (by simp;omega) (by simp;omega) fun v' w' O ha=>Q2P g O ha
  rintro _ _ _ _ _ a7 w5 aw rfl rfl rfl-rfl ⟨X,af⟩
  obtain ⟨σ6,k6,aa,_⟩:=af.keep X
  exact Q57 (y.up k6) aa ae (by simp;omega) (a.up k6)
end Go.Proofs.YtfppjenblllfaaaGreatDoor

namespace Go.Proofs.YtfppjenblllfaaaGreatDoor
open Go.Emb Go.RowKit Go.Kd Go.Hm
variable {w w' w1 : World} {K : Value → World → Prop} {σ σ' σ1 : Q4} {v u : Value} {tv : Value} {m : Hm.Met} {i : Ins} {l : List Cla}
theorem X4M {t:TypeId} {sz by_ k b:Nat} {z:Value} [TG P t true] [TZ P t sz by_ z] {cs ds:List Value} (c:Z9 σ w b cs) (a: ∀i v,ds[i]? =some v→cs[k+i]? =some v) (d:ds.length=sz) (h:K (.agg ds.toArray) w):Q2 P t (.pointer (some ((⟨b,0,none⟩:Addr).add k))) w K:=
 So d (fun i v e=>by rw[Ys];exact c.cell (a i v e)) h
theorem Q5d {t:TypeId} {sz by_ b:Nat} {z:Value} [tz:TZ P t sz by_ z] {cs ds:List Value} (a:Z9 σ w b cs) (e:cs.length=sz) (d:ds.length=sz) (f: ∀u∈ds,u.oneCell'=true)
 (h: ∀w',Upd w b w'→Z9 σ w' b ds→K undef w'):Z6 P t (.pointer (some ⟨b,0,none⟩)) (.agg ds.toArray) w K:=
 sta a e d (by rw[List.all_toArray];exact List.all_eq_true.2 f) fun w' c a=>h w' c a
def QF (w0:World) (σ:Q4) (xs:List Q9) (v:Value) (w':World):Prop:=Stp w0 σ w' σ∧J6 w0.heap.size T.a 1 X9 σ w' v xs
theorem QF.st {w0:World} {xs:List Q9}:P2 (fun w w'=>Below w.heap.size w w') (QF w0 σ xs):=fun _ _ _ ⟨a,c⟩ b=>⟨a.trans (Stp.of_below a.sat b),c.up (Stp.of_below a.sat b)⟩
def QFR (w0:World) (σ:Q4) (xs:List Q9) (p:Iv) (v:Value) (w':World):Prop:=QF w0 σ xs v w'∧ ∀k,v.ownBlock=some k→p.1≤k∧k<p.2
theorem QFR.st {w0:World} {xs:List Q9} (p:Iv):P2 (fun w w'=>Below w.heap.size w w') (QFR w0 σ xs p):=fun _ _ _ ⟨c,a⟩ b=>⟨QF.st _ _ _ c b,a⟩
theorem Q4s {w0:World} {xs:List Q9} (a:Hst w0 σ w σ) (f:Sl 1 X9 σ v xs) (d:xs.length≤1000000):Q0 P F.b [v] w (dkR (fun w w'=>Below w.heap.size w w') (QFR w0 σ xs) w):=
 Q3X a.sat f d fun g w' c b=>⟨c.bel,⟨a.stp.trans c,(J6.of_acc b).mono a.stp.bel.size⟩,fun k e=>⟨(b.mem k e).1,(b.mem k e).2.1⟩⟩
theorem X2m {A:(World→World→Prop)→(World→Prop)→Prop} (b:X4 w σ) (h:A (fun w w'=>Below w.heap.size w w') (fun w'=>Hst w σ w' σ)):drR w A:=
 X3R _ _ ⟨Stp.of_below b (Below.refl _ _).drew⟩ (fun _ _ a c=>⟨a.stp.trans (Stp.of_below a.sat c)⟩) (fun _ _ h=>h.size) h
def Q5a (d:Dr):Shp×Int:=if d.e=0 then (⟨true,d.stack,d.locals⟩,0) else (Shp.zero,d.e)
def FnF (σ:Q4) (w0:World) (o:Option Dact) (v:Value) (w':World):Prop:= ∃σ',Stp w0 σ w' σ'∧ ∀a,o=some a→Pp σ' a v
def TbF (σ:Q4) (w0:World) (v:Value) (w':World):Prop:= ∃σ' r a,Stp w0 σ w' σ'∧v= .map (some r)∧P6 σ' r a∧Kp σ' a Ly
theorem TbF.st {w0:World}:P2 (fun w w'=>Below w.heap.size w w') (TbF σ w0):=fun _ _ _ ⟨σ',r,c,a,d,b,f⟩ e=>⟨σ',r,c,a.trans (Stp.of_below a.sat e),d,b,f⟩
theorem FnF.st {w0:World} {o:Option Dact}:P2 (fun w w'=>Below w.heap.size w w') (FnF σ w0 o):=fun _ _ _ ⟨σ',a,b⟩ c=>⟨σ',a.trans (Stp.of_below a.sat c),b⟩
set_option maxHeartbeats 2000000 in
theorem X1Q {ms is:List Value} {sv lv:Value} {xs ys:List Q9} {b0:Bool} {c f:Q9} {k:Bool} (hs:X4 w σ) (ht:Tab σ tv l) (ok:Ok l) (hm:L9 σ m ms) (hi:I0 σ i is) (hx:Sl 1 X9 σ sv xs) (hy:Sl 1 X9 σ lv ys) (hl:xs.length≤1000) (R:ys.length≤1000) (bd: ∀a,Ly.lookup i.op=some a→B7 l m i c f k a)
 (h: ∀ds w' σ',Stp w σ w' σ'→W8 σ' (Rs l m i c f k ⟨b0,xs,ys⟩).1 ds→K (.tuple #[.agg ds.toArray,I (Rs l m i c f k ⟨b0,xs,ys⟩).2]) w'):
 Q0 P F.ce [tv, .agg ms.toArray, .agg is.toArray, .agg [.bool b0,sv,lv].toArray] w K:=Q9X (by
 obtain ⟨pv,cv,hv,rfl,Q⟩:=hm
 obtain ⟨rfl,ec⟩:=hi
 obtain ⟨ta,cm⟩: ∃ta,tv= .pointer (some ta):=by obtain ⟨a,_,_,_,e,_⟩:=ht.ex;exact ⟨a,e⟩
 subst cm
 unfold Q4l
 refine Z1 hs fun qm w1 σ1 N cs=>?_
 refine Z1 N.sat fun qi w2 σ2 k2 cb=>?_
 refine Z1 k2.sat fun qs w3 σ3 k3 b5=>?_
 have a7:=(cs.up k2).up k3
 have av:=cb.up k3
 have S3:=(N.trans k2).trans k3
 have cu:=hx.up S3
 have bz:=hy.up S3
 refine P3 k3.sat fun b8 O σ4 aq k4 ar=>?_
 have S4:=S3.trans k4
 have an:=a7.up k4
 have ab:=av.up k4
 have Z:=b5.up k4
 have ct:=cu.up k4
 have cn:=bz.up k4
 refine X2m k4.sat ?_
 refine Z8 (fun L _ w g=>J7 (Y1 rfl)) ?_
 refine Z8 (fun L _ w g=>J7 (Y1 rfl)) ?_
 refine Z8 (V:= .agg [S m.name,pv,S m.result, .bool m.abs,I m.locals,cv,hv].toArray) (fun L _ w g=>Z2 g.sat (an.up g.stp) rfl (Y1 rfl)) ?_
 refine Z8 (V:= .agg [S i.op,I i.n,S i.s].toArray) (fun L _ w g=>Z2 g.sat (ab.up g.stp) rfl (Y1 rfl)) ?_
 refine Z8 (V:=sv) (fun t L _ w g e=>?_) ?_
 ·subst e
  exact ld (i:=1) g.sat (Z.up g.stp) rfl (Y1 rfl)
 refine Q8c (QFR O σ4 xs) QFR.st (fun t L _ w g e=>?_) ?_
 ·subst e
  exact Q4s g ct (by omega)
 refine Z8 (V:=lv) (fun t L _ w g e=>?_) ?_
 ·subst e
  exact ld (i:=2) g.sat (Z.up g.stp) rfl (Y1 rfl)
 refine Q8c (QFR O σ4 ys) QFR.st (fun t L _ w g e=>?_) ?_
 ·subst e
  exact Q4s g cn (by omega)
 refine W9 (fun v w'=> ∃t u,v= .agg #[.bool true,t,u]∧QF O σ4 xs t w'∧QF O σ4 ys u w'∧ ∀k,t.ownBlock=some k→u.ownBlock≠some k) (fun _ _ _ ⟨t,u,M,J,h3,h4⟩ g=>⟨t,u,M,QF.st _ _ _ J g,QF.st _ _ _ h3 g,h4⟩) (fun q A L hA w g af ag=>?_) ?_
 ·refine W4 (cells:= #[.bool true,q,A]) (by obtain ⟨⟨_,a,dt,rfl,_⟩,_⟩:=af;obtain ⟨⟨_,a2,df,rfl,_⟩,_⟩:=ag;kernel_rfl) ?_
  exact ⟨Below.refl _ _,q,A,rfl,af.1,ag.1,fun k e1 e2=>by
   have g1:=af.2 k e1
   have g2:=ag.2 k e2
   rcases hA 6 8 (by decide) with h | h<;>omega⟩
 rintro _ _ _ _ _ _ _ _ _ L-w5 eg rfl rfl rfl rfl rfl-rfl-⟨q,A,rfl,⟨k5,q5⟩,⟨-,y5⟩,ca⟩
 obtain ⟨co,cl,ce,_⟩:=Q
 refine W4 (cells:= #[.pointer (some ta),S m.name,pv,S m.result, .bool m.abs,I m.locals,cv,hv,S i.op,I i.n,S i.s, .bool true,q,A,I 0]) (by
  obtain ⟨a1,c1,rfl,_⟩:=co;obtain ⟨a2,c2,rfl,_⟩:=cl;obtain ⟨a3,c3,rfl,_⟩:=ce;obtain ⟨a4,c4,rfl,_⟩:=q5;obtain ⟨a5,c5,rfl,_⟩:=y5;kernel_rfl) ?_
 refine Q0r k5.sat fun b w6 σ6 g Y ax=>?_
 have de:=ar.lt
 have cj:O.heap.size≤b:=Nat.le_trans k5.bel.size g
 have U:=(ar.up k5).up Y
 have S5:=S4.trans k5
 have S6:=S5.trans Y
 have q6:=q5.up Y
 have y6:=y5.up Y
 have bj:DrIs O.heap.size (fun k=>k=b∨q.ownBlock=some k∨A.ownBlock=some k) σ6 w6 (.pointer (some ⟨b,0,none⟩)) (.pointer (some ta)) pv cv hv m i ⟨xs,ys,0⟩:=
  ⟨b,q,A,rfl,cj,ax,q6,y6,fun k y=>⟨fun e=>by have:=(q5.mem y).2.1;omega,ca k y⟩,fun k y e=>by have:=(y5.mem y).2.1;omega,fun k=>Iff.rfl⟩
 have A6:AtD O.heap.size _ w6 σ6 (.pointer (some ⟨b,0,none⟩)) (.pointer (some ta)) pv cv hv m i l ⟨xs,ys,0⟩:=⟨Y.sat,Nat.le_trans k5.bel.size Y.bel.size,bj,ht.lift ⟨S6.le⟩,ok,by show xs.length≤100000;omega⟩
 generalize (fun k=>k=b∨q.ownBlock=some k∨A.ownBlock=some k)=D at*
 have ba: ∀k,D k→O.heap.size≤k:=fun k y=>(A6.dr.mem y).1
 have dd:=(ab.up k5).up Y
 clear bj q5 q6 y5 y6 ax
 generalize (Value.pointer (some ⟨b,0,none⟩))=p at*
 have a8:Rs l m i c f k ⟨b0,xs,ys⟩=match Ly.lookup i.op with
  | none=>(Shp.zero,76)
  | some a=>Q5a ((V9 l m i c f k ⟨xs,ys,0⟩ a).wrong (decide ((V9 l m i c f k ⟨xs,ys,0⟩ a).stack.length≤24)) 72):=rfl
 rw[a8] at h
 clear a8
 generalize ho:Ly.lookup i.op=o at*
 refine U8 Y.sat ?_
 (repeat refine Z8 Xq ?_)
 refine W9 (TbF σ6 w6) TbF.st (fun w g=>X30 g.sat fun r mp w' σ' N M J=>⟨N.bel,σ',r,mp,g.stp.trans N,rfl,M,J⟩) ?_
 (repeat refine Z8 Xq ?_)
 refine W9 (fun v w'=> ∃v0,v= .tuple #[v0, .bool o.isSome]∧FnF σ6 w6 o v0 w') (fun _ _ _ ⟨v0,M,J⟩ g=>⟨v0,M,FnF.st _ _ _ J g⟩) (fun d9 dj w g cf cg=>?_) ?_
 ·subst cg
  obtain ⟨σ',r,mp,N,rfl,M,J⟩:=cf
  have h3:=J i.op
  rw[ho] at h3
  refine Q5Y (sz:=1) (by_:=8) (z:= .nilFunc) (tz:=⟨by kernel_rfl⟩) X7 (M.is N.sat) i.op ?_
  refine ⟨Below.refl _ _,?_⟩
  cases o with
  | none=>
   have h3:M9 mp i.op=none:=h3
   rw[h3]
   exact ⟨_,rfl,σ',N,fun a e=>by cases e⟩
  | some a=>
   obtain ⟨v,h4,h5⟩:=h3
   rw[h4]
   exact ⟨v,rfl,σ',N,fun a e=>by cases e;exact h5⟩
 refine W9 (FnF σ6 w6 o) FnF.st (fun t w g ak=>?_) ?_
 ·obtain ⟨v0,rfl,J⟩:=ak
  exact Z7 rfl ⟨Below.refl _ _,J⟩
 refine Z8 (V:= .bool o.isSome) (fun t w g ak=>?_) ?_
 ·obtain ⟨v0,rfl,J⟩:=ak
  exact Z7 rfl (Y1 rfl)
 rintro _ _ _ _ du _ w7 dq rfl-rfl-ch rfl
 obtain ⟨σ7,k7,hf⟩:=ch
 refine Li ?_
 cases o with
 | none=>
  refine J5 ?_
  refine W4 (cells:= #[.bool false, .slice none 0 0, .slice none 0 0]) (by kernel_rfl) ?_
  refine Qv (ds:=[.bool false, .slice none 0 0, .slice none 0 0]) (U.up k7) (S6.trans k7) (Nat.le_trans S3.bel.size aq) rfl rfl (by simp;exact ⟨rfl,rfl⟩) fun w9 b6 B=>?_
  refine W6 B rfl ?_
  exact h _ _ _ b6.stp ⟨_,_,rfl,Sl.nil,Sl.nil⟩
 | some a=>
  refine V0 ?_
  refine bd a rfl (A6.up k7) (hf a rfl) rfl fun w8 σ8 D8 N8 h8 d3=>?_
  replace h: ∀ds w' σ',Stp w σ w' σ'→W8 σ' (Q5a ((V9 l m i c f k ⟨xs,ys,0⟩ a).wrong (decide ((V9 l m i c f k ⟨xs,ys,0⟩ a).stack.length≤24)) 72)).1 ds→K (.tuple #[.agg ds.toArray,I (Q5a ((V9 l m i c f k ⟨xs,ys,0⟩ a).wrong (decide ((V9 l m i c f k ⟨xs,ys,0⟩ a).stack.length≤24)) 72)).2]) w':=h
  generalize V9 l m i c f k ⟨xs,ys,0⟩ a=d at*
  have S7:=S6.trans k7
  have cw: ∀k,D k→w.heap.size≤k:=fun k y=>Nat.le_trans S4.bel.size (ba k y)
  have W: ∀k,D8 k→O.heap.size≤k:=fun k y=>(h8.mem y).1
  have ap:=h8
  obtain ⟨b1,d7,dp,rfl,cx,Q,ay,cq,g1,g2,cr⟩:=h8.ex
  refine H9 ?_
  refine J7 ?_
  refine J7 ?_
  refine B4 (i:=12) Q rfl ?_
  refine Vi ay ?_
  refine X4g ?_
  rw[show decide (((d.stack.length:Nat):Int)≤24)=decide (d.stack.length≤24) from decide_eq_decide.2 (by omega)]
  refine Q14 N8.sat ap fun w9 N9 h9=>?_
  generalize d.wrong (decide (d.stack.length≤24)) 72=d2 at*
  unfold Q5a at h
  clear ap Q ay cq g1 g2 cr h8 cx
  obtain ⟨b2,H,E,e2,eh,ah,aj,R,g1,g2,dl⟩:=h9.ex
  cases e2
  have S8:=S7.nx N8 cw
  have S9:=S8.nx N9 fun k y=>Nat.le_trans S4.bel.size (W k y)
  have bg: ¬D8 b8:=fun e=>by have:=W _ e;omega
  have ae: ¬D b8:=fun e=>by have:=ba _ e;omega
  have B:=((U.up k7).nx N8 ae).nx N9 bg
  have X:=Nat.le_trans S3.bel.size aq
  refine H9 ?_
  refine J7 ?_
  refine B4 (i:=14) ah rfl ?_
  refine A0 ?_
  by_cases he:d2.e=0
  ·simp only[if_pos he] at h
   rw[show (!decide (d2.e=0))=false from by simp[he]]
   refine V0 ?_
   refine H9 ?_
   refine J7 ?_
   refine X4M (k:=11) (ds:=[.bool true,H,E]) ah (fun j v hj=>by rcases j with _ | _ | _ | j<;>first | exact hj | cases hj) rfl ?_
   have M: ∀u∈[Value.bool true,H,E],u.oneCell'=true:=by
    obtain ⟨a1,c1,rfl,_⟩:=aj;obtain ⟨a2,c2,rfl,_⟩:=R;simp;exact ⟨rfl,rfl,rfl⟩
   refine Q5d (ds:=[.bool true,H,E]) B rfl rfl M fun a9 ad C=>?_
   refine W6 C rfl ?_
   have cz:Stp w σ a9 σ8:=ad.stp S9 X B.1
   have az:H.ownBlock≠some b8:=fun e=>by have:=(aj.mem e).1;omega
   have a6:E.ownBlock≠some b8:=fun e=>by have:=(R.mem e).1;omega
   have a0:=(aj.updD ad az).mono S4.bel.size
   have aa:=(R.updD ad a6).mono S4.bel.size
   obtain ⟨σa,Sa,qa,ci,aw⟩:=a0.keep cz
   have b4:=aa.shiftR ci fun k y=>(aw k fun e=>(g1 k e.symm).2 y).trans (aa.mem y).2.2
   obtain ⟨σb,Sb,qb,bx,_⟩:=b4.keep Sa
   exact h _ _ _ Sb ⟨H,E,rfl,qa.lift bx,qb⟩
  ·simp only[if_neg he] at h
   rw[show (!decide (d2.e=0))=true from by simp[he]]
   refine J5 ?_
   refine X3J (ds:=[.bool false, .slice none 0 0, .slice none 0 0]) S9 X B rfl rfl ?_
   refine Z8 (V:= .pointer (some ⟨b1,0,none⟩)) (fun w g=>H9 (Kl rfl)) ?_
   refine Z8 (V:= .pointer (some ((⟨b1,0,none⟩:Addr).add 14))) (fun t w g e=>by subst e;exact J7 (Kl rfl)) ?_
   refine Z8 (V:= .agg [.bool false, .slice none 0 0, .slice none 0 0].toArray) (fun w g=>W4 (by kernel_rfl) (Kl rfl)) ?_
   refine Z8 (V:=I d2.e) (fun t w g e=>?_) ?_
   ·subst e
    exact B4 (i:=14) (ah.kp g.kp fun e=>by omega) rfl (Kl rfl)
   refine X0Q rfl (by simp;exact ⟨rfl,rfl⟩) (fun v w e=>e) ?_ B.1
   rintro _ _ _ _ _ a9 bf rfl rfl rfl rfl C
   refine W6 C rfl ?_
   exact h _ _ _ bf.hst.stp ⟨_,_,rfl,Sl.nil,Sl.nil⟩)
end Go.Proofs.YtfppjenblllfaaaGreatDoor

namespace Go.Proofs.YtfppjenblllfaaaGreatDoor
open Go.Emb Go.RowKit Go.Kd Go.Hm
variable {w w' w0 w1 : World} {K : Value → World → Prop} {σ σ' σ0 σ1 : Q4} {v u : Value} {tv : Value} {l : List Cla} {b b6 : Nat} {xs ys : List Q9} {x : Q9}
theorem Q4w {σ1:Q4} {cs ds:List Value} (h:Z9 σ w b cs) (k:Z9 σ1 w b ds):cs=ds:=by
 obtain ⟨_,e,h⟩:=h
 obtain ⟨_,f,k⟩:=k
 rw[h] at k
 have:=Option.some.inj k
 simp at this
 exact this.1
structure ShS (w0 : World) (σ0 : Q4) (w : World) (σ : Q4) (b : Nat) (xs ys : List Q9) : Prop where
  stp : Stp w0 σ0 w σ
  ge : w0.heap.size ≤ b
  ex : ∃ v1 v2, Z9 σ w b [.bool true, v1, v2] ∧ J6 w0.heap.size T.a 1 X9 σ w v1 xs ∧ J6 w0.heap.size T.a 1 X9 σ w v2 ys ∧ (∀ k, v1.ownBlock = some k → k ≠ b ∧ v2.ownBlock ≠ some k) ∧ ∀ k, v2.ownBlock = some k → k ≠ b
theorem ShS.up (h:ShS w0 σ0 w σ b xs ys) (k:Stp w σ w' σ'):ShS w0 σ0 w' σ' b xs ys:=by
 obtain ⟨e,c,f,d,a,g,i⟩:=h.ex
 exact ⟨h.stp.trans k,h.ge,e,c,f.up k,d.up k,a.up k,g,i⟩
theorem X3F (e:X4 w σ) (h: ∀b w',ShS w σ w' σ b [] []→K (.pointer (some ⟨b,0,none⟩)) w'):L3 P T.f w fun p w=>Z6 P T.f p (.agg #[.bool true, .slice none 0 0, .slice none 0 0]) w fun _ w=>K p w:=
 Sj e fun b w1 d g a=>Q5d (sz:=3) (ds:=[.bool true, .slice none 0 0, .slice none 0 0]) a rfl rfl (by simp;exact ⟨rfl,rfl⟩) fun i f c=>
  h b i ⟨f.stp g d a.1,d,_,_,c,J6.of_acc V3.nil,J6.of_acc V3.nil,nofun,nofun⟩
theorem X4v {s z:Value} (h:ShS w0 σ0 w σ b xs ys) (J:Z9 σ w b [.bool true,s,z]) (V:Sl 1 X9 σ u [x]) (Z:xs.length≤1000000) (hh: ∀w',ShS w0 σ0 w' σ b (xs++[x]) ys→K undef w'):
 X5 P .append [T.c,T.c] T.c [false,false] [s,u] w fun n w=>fieldAddr P T.f (.pointer (some ⟨b,0,none⟩)) 1 w fun j w=>Z6 P T.c j n w K:=by
 obtain ⟨X,W,o,N,D,y,C⟩:=h.ex
 have e:=Q4w J o
 simp only[List.cons.injEq,and_true,true_and] at e
 obtain ⟨rfl,rfl⟩:=e
 refine Q2N h.stp.sat h.stp.bel.size N V (by rfl) (by simp only[List.length_cons,List.length_nil];omega) (by simp only[List.length_cons,List.length_nil];omega) fun m R q Y p r=>?_
 have f: ∀k,m.ownBlock=some k→s.ownBlock=some k∨w.heap.size≤k:=fun k d=>by
  rcases r with ⟨a,O,Q,M⟩ | ⟨_,g⟩
  ·left;rw[Q];rw[M] at d;cases a<;>exact d
  ·exact .inr (g k d)
 have A:=o.kp q fun e=>(y b e.1).1 rfl
 have L:=D.kp q fun k d e=>(y k e.1).2 d
 have B: ∀k,m.ownBlock=some k→k≠b∧z.ownBlock≠some k:=fun k d=>by
  rcases f k d with h | h
  ·exact y k h
  ·have:=o.lt
   exact ⟨by omega,fun e=>by have:=(D.mem e).2.1;omega⟩
 refine J7 ?_
 refine Og (i:=1) A (by simp) (by obtain ⟨a,c,rfl,_⟩:=p;rfl) (by obtain ⟨a,c,rfl,_⟩:=p;rfl) fun H t U=>?_
 have E:Stp w0 σ0 R σ:=h.stp.kp q fun k d=>⟨d.2.1,d.2.2⟩
 exact hh H ⟨t.stp E h.ge A.1,h.ge,m,z,U,p.updD t fun e=>(B b e).1 rfl,L.updD t fun e=>C b e rfl,B,C⟩
theorem X4d {s z:Value} (h:ShS w0 σ0 w σ b xs ys) (L:Z9 σ w b [.bool true,s,z]) (W:Sl 1 X9 σ u [x]) (hl:ys.length≤1000000) (hh: ∀w',ShS w0 σ0 w' σ b xs (ys++[x])→K undef w'):
 X5 P .append [T.c,T.c] T.c [false,false] [z,u] w fun n w=>fieldAddr P T.f (.pointer (some ⟨b,0,none⟩)) 2 w fun m w=>Z6 P T.c m n w K:=by
 obtain ⟨Y,X,o,C,O,y,D⟩:=h.ex
 have e:=Q4w L o
 simp only[List.cons.injEq,and_true,true_and] at e
 obtain ⟨rfl,rfl⟩:=e
 refine Q2N h.stp.sat h.stp.bel.size O W (by rfl) (by simp only[List.length_cons,List.length_nil];omega) (by simp only[List.length_cons,List.length_nil];omega) fun j U q Z p r=>?_
 have f: ∀k,j.ownBlock=some k→z.ownBlock=some k∨w.heap.size≤k:=fun k d=>by
  rcases r with ⟨a,Q,R,N⟩ | ⟨_,g⟩
  ·left;rw[R];rw[N] at d;cases a<;>exact d
  ·exact .inr (g k d)
 have A:=o.kp q fun e=>D b e.1 rfl
 have M:=C.kp q fun k d e=>(y k d).2 e.1
 have B: ∀k,j.ownBlock=some k→k≠b:=fun k d=>by
  rcases f k d with h | h
  ·exact D k h
  ·have:=o.lt
   omega
 have E: ∀k,s.ownBlock=some k→k≠b∧j.ownBlock≠some k:=fun k d=>⟨(y k d).1,fun e=>by
  rcases f k e with h | h
  ·exact (y k d).2 h
  ·have:=(C.mem d).2.1;omega⟩
 refine J7 ?_
 refine Og (i:=2) A (by simp) (by obtain ⟨a,c,rfl,_⟩:=p;rfl) (by obtain ⟨a,c,rfl,_⟩:=p;rfl) fun J t V=>?_
 have H:Stp w0 σ0 U σ:=h.stp.kp q fun k d=>⟨d.2.1,d.2.2⟩
 exact hh J ⟨t.stp H h.ge A.1,h.ge,s,j,V,M.updD t fun e=>(E b e).1 rfl,p.updD t fun e=>B b e rfl,E,B⟩
theorem X3u {s:List Value} {K:Value→World→Prop} (h:ShS w0 σ0 w σ b xs ys) (S0:Stp w1 σ1 w0 σ0) (d:Z9 σ0 w0 b6 s) (L:s.length=3) (i:w1.heap.size≤b6) (hh: ∀ds w' σ',Stp w1 σ1 w' σ'→W8 σ' ⟨true,xs,ys⟩ ds→K (.agg ds.toArray) w'):
 Q2 P T.f (.pointer (some ⟨b,0,none⟩)) w fun t w=>Z6 P T.f (.pointer (some ⟨b6,0,none⟩)) t w fun _u w=>W2 P T.f (.pointer (some ⟨b6,0,none⟩)) w fun C=>K C w:=by
 obtain ⟨f,o,A,m,n,H,W⟩:=h.ex
 have Q:=d.lt
 refine Q8z A rfl ?_
 have D: ∀u∈[Value.bool true,f,o],u.oneCell'=true:=by
  obtain ⟨V,U,rfl,_⟩:=m;obtain ⟨R,Y,rfl,_⟩:=n;simp;exact ⟨rfl,rfl,rfl⟩
 refine Q5d (ds:=[.bool true,f,o]) (d.up h.stp) L rfl D fun J j z=>?_
 refine W6 z rfl ?_
 have S:=S0.trans h.stp
 have B:Stp w1 σ1 J σ:=j.stp S i (d.up h.stp).1
 have y:=(m.updD j fun e=>by have:=(m.mem e).1;omega).mono S0.bel.size
 have r:=(n.updD j fun e=>by have:=(n.mem e).1;omega).mono S0.bel.size
 obtain ⟨X,N,M,p,a⟩:=y.keep B
 have g:=r.shiftR p fun k q=>(a k fun e=>(H k e.symm).2 q).trans (r.mem q).2.2
 obtain ⟨σb,E,O,c,_⟩:=g.keep N
 exact hh _ _ _ E ⟨f,o,rfl,M.lift c,O⟩
theorem Q0C {e ds:List Value} {s:Shp} {K:Value→World→Prop} (S0:Stp w1 σ1 w σ) (d:Z9 σ w b6 e) (j:e.length=3) (c:w1.heap.size≤b6) (a:W8 σ s ds) (hh: ∀w',Stp w1 σ1 w' σ→K (.agg ds.toArray) w'):
 Z6 P T.f (.pointer (some ⟨b6,0,none⟩)) (.agg ds.toArray) w fun _u w=>W2 P T.f (.pointer (some ⟨b6,0,none⟩)) w fun g=>K g w:=by
 refine Q5d (ds:=ds) d j (by obtain ⟨_,_,rfl,_⟩:=a;rfl) (Rep.one a) fun i h f=>?_
 exact W6 f (by obtain ⟨_,_,rfl,_⟩:=a;rfl) (hh i (h.stp S0 c d.1))
theorem W8.zero:W8 σ Shp.zero [.bool false, .slice none 0 0, .slice none 0 0]:=⟨_,_,rfl,Sl.nil,Sl.nil⟩
theorem Q6o (h:K (.agg [.bool false, .slice none 0 0, .slice none 0 0].toArray) w):D7 P T.f [] w K:=W4 (by kernel_rfl) h
theorem X1r (h:K (.agg #[.bool true, .slice none 0 0, .slice none 0 0]) w):D7 P T.f [(0, .bool true)] w K:=W4 (by kernel_rfl) h
end Go.Proofs.YtfppjenblllfaaaGreatDoor

namespace Go.Proofs.YtfppjenblllfaaaGreatDoor
open Go.Emb Go.RowKit Go.Kd Go.Hm
variable {w w' w0 w1 : World} {K : Value → World → Prop} {σ σ' σ0 σ1 : Q4} {v u : Value} {tv : Value} {l : List Cla} {b b6 : Nat} {xs ys : List Q9} {x : Q9} {s t : Shp}
theorem X0Y (d:X4 w σ) (j:Sl 1 X9 σ v xs) (g:xs.length≤1000000)
 (h: ∀a w' σ',Stp w σ w' σ'→Sl 1 X9 σ' a xs→K a w'):Q0 P F.b [v] w K:=
 Q3X d j g fun a w' e c=>by
  obtain ⟨σ',i,f,_⟩:=c.keep e
  exact h a w' σ' i f
def SlF (w0:World) (σ:Q4) (xs:List Q9) (v:Value) (w':World):Prop:= ∃σ',Stp w0 σ w' σ'∧Sl 1 X9 σ' v xs
theorem SlF.st:P2 (fun w w'=>Below w.heap.size w w') (SlF w0 σ xs):=fun _ _ _ ⟨σ',a,c⟩ d=>⟨σ',a.trans (Stp.of_below a.sat d),c⟩
theorem Q47 (c:Hst w0 σ w σ) (f:Sl 1 X9 σ v xs) (d:xs.length≤1000000):Q0 P F.b [v] w (dk (fun w w'=>Below w.heap.size w w') (SlF w0 σ xs) w):=
 X0Y c.sat f d fun g w' σ' a e=>⟨a.bel,σ',c.stp.trans a,e⟩
theorem W8.liftS {ds:List Value} (h:W8 σ s ds) (k:Stp w σ w' σ'):W8 σ' s ds:=Rep.up k.le h
theorem Q4K {ds:List Value} (hs:X4 w σ) (hr:W8 σ s ds) (h1:s.stack.length≤1000000) (Y:s.locals.length≤1000000) (h: ∀n w' σ',Stp w σ w' σ'→W8 σ' s n→K (.agg n.toArray) w'):Q0 P F.c7 [.agg ds.toArray] w K:=Q4Q (by
 obtain ⟨sv,lv,rfl,z,A⟩:=hr
 unfold Pj
 refine Q0r hs fun b w1 σ1 c D a=>?_
 have ac:=a.lt
 refine P3 D.sat fun b2 M J E q o=>?_
 have p:=D.trans q
 have a:=a.up q
 have z:=z.up p
 have A:=A.up p
 refine U8 q.sat ?_
 (repeat refine Z8 Xq ?_)
 refine Z8 (V:=sv) (fun t w c e=>by subst e;exact B4 (i:=1) (a.up c.stp) rfl (Y1 rfl)) ?_
 refine W9 (SlF M J s.stack) SlF.st (fun t w c e=>by subst e;exact Q47 c z h1) ?_
 refine Z8 (V:=lv) (fun t w c e=>by subst e;exact B4 (i:=2) (a.up c.stp) rfl (Y1 rfl)) ?_
 (repeat refine Z8 Xq ?_)
 refine W9 (SlF M J s.locals) SlF.st (fun t w c e=>by subst e;exact Q47 c A Y) ?_
 rintro _ _ _ y _ _ C w3 R rfl rfl rfl Q rfl rfl f8
 obtain ⟨σa,N,g⟩:=Q
 obtain ⟨σb,U,f⟩:=f8
 obtain ⟨σ3,r,X,W⟩:=N.join U
 have g:=g.lift X
 have f:=f.lift W
 have m:=a.up r
 refine Og (i:=1) m (by simp) (Xu g) (I9 g) fun w4 L j=>?_
 refine J7 ?_
 refine Og (i:=2) j (by simp) (Xu f) (I9 f) fun w5 H B=>?_
 refine Q8z (cs:=[.bool s.seen,y,C]) B rfl ?_
 have Z:=p.trans r
 have S5:=H.stp (L.stp Z c m.1) c j.1
 have d:b2≠b:=fun e=>by subst e;omega
 have k:=(((o.up r).upd L d).upd H d)
 exact Q0C (s:=s) (K:=K) S5 k rfl (Nat.le_trans D.bel.size E) ⟨y,C,rfl,g,f⟩ fun w6 O=>h _ _ _ O ⟨y,C,rfl,g,f⟩)
theorem X49 {α:Type} {f:Q9→Q9→α} {xs cs:List Q9} {i:Nat} (d:i<xs.length) (c:i<cs.length):(List.zipWith f xs cs).take (i+1)=(List.zipWith f xs cs).take i++[f xs[i] cs[i]]:=by
 have a:i<(List.zipWith f xs cs).length:=by simp;omega
 rw[List.take_add_one,List.getElem?_eq_getElem a]
 simp
theorem X3z {f:Q9→Q9→Q9} {xs cs:List Q9} {e:Q9} (j:xs.length=cs.length):(List.zipWith f xs cs).any (fun s=>decide (s=e))=false↔ ∀i (g:i<xs.length) (c:i<cs.length),f xs[i] cs[i]≠e:=by
 rw[List.any_eq_false]
 constructor
 ·intro h i g c
  have:=h (f xs[i] cs[i]) (List.mem_iff_getElem.2 ⟨i,by simp;omega,by simp⟩)
  simpa using this
 ·intro h x a
  obtain ⟨i,d,rfl⟩:=List.mem_iff_getElem.1 a
  simp at d
  simpa using h i (by omega) (by omega)
set_option maxHeartbeats 1000000 in
theorem X2I {ds es:List Value} (hs:X4 w σ) (ht:Tab σ tv (Q7 l)) (ok:Ok (Q7 l)) (hr:W8 σ s ds) (hu:W8 σ t es) (h1:s.stack.length≤1000) (h2:s.locals.length≤1000) (h3:t.stack.length≤1000) (h4:t.locals.length≤1000)
 (h: ∀q w' σ',Stp w σ w' σ'→W8 σ' (Mi (Q7 l) s t).1 q→K (.tuple #[.agg q.toArray,I (Mi (Q7 l) s t).2]) w'):Q0 P F.cE [tv, .agg ds.toArray, .agg es.toArray] w K:=Q66 (by
 have ap:=hr
 have a5:=hu
 obtain ⟨sv,lv,rfl,q1,Y⟩:=hr
 obtain ⟨bm,bu,rfl,q3,X⟩:=hu
 unfold Q0m
 refine Z1 hs fun qa w1 σ1 k1 c=>?_
 refine Z1 k1.sat fun qb w2 σ2 k2 g=>?_
 have c:=c.up k2
 refine P3 k2.sat fun b6 w3 U o k3 A=>?_
 have c:=c.up k3
 have g:=g.up k3
 have S2:=k1.trans k2
 have a:=S2.trans k3
 have o:w.heap.size≤b6:=Nat.le_trans S2.bel.size o
 have af:=ht.lift ⟨a.le⟩
 refine J7 ?_
 refine ld (i:=0) a.sat c rfl ?_
 refine Li ?_
 cases e1:s.seen with
 | false=>
  have H:Mi (Q7 l) s t=(t,0):=by unfold Mi;rw[if_pos e1]
  rw[H] at h
  refine J5 ?_
  refine Z2 a.sat g rfl ?_
  refine Q4K a.sat (W8.liftS a5 a) (by omega) (by omega) fun q w4 σ4 k4 y=>?_
  exact Q0C (K:=fun r w=>K (.tuple #[r,I 0]) w) (a.trans k4) (A.up k4) rfl o y fun w5 f=>h _ _ _ f y
 | true=>
 refine V0 ?_
 refine J7 ?_
 refine ld (i:=0) a.sat g rfl ?_
 refine Li ?_
 cases e2:t.seen with
 | false=>
  have H:Mi (Q7 l) s t=(s,0):=by unfold Mi;rw[if_neg (by simp[e1]),if_pos e2]
  rw[H] at h
  refine J5 ?_
  refine Z2 a.sat c rfl ?_
  refine Q4K a.sat (W8.liftS ap a) (by omega) (by omega) fun q w4 σ4 k4 y=>?_
  exact Q0C (K:=fun r w=>K (.tuple #[r,I 0]) w) (a.trans k4) (A.up k4) rfl o y fun w5 f=>h _ _ _ f y
 | true=>
 refine V0 ?_
 have q1:=q1.up a
 have Y:=Y.up a
 have q3:=q3.up a
 have X:=X.up a
 refine J7 ?_
 refine ld (i:=1) a.sat c rfl ?_
 refine X0 q1 ?_
 refine J7 ?_
 refine ld (i:=1) a.sat g rfl ?_
 refine X0 q3 ?_
 refine A0 ?_
 have en:Mi (Q7 l) s t=if s.stack.length≠t.stack.length∨s.locals.length≠t.locals.length then (Shp.zero,75)
  else if (List.zipWith (I3 (Q7 l)) s.stack t.stack).any (fun s=>decide (s=[])) then (Shp.zero,75)
  else (⟨true,List.zipWith (I3 (Q7 l)) s.stack t.stack,List.zipWith (Za (Q7 l)) s.locals t.locals⟩,0):=by
  unfold Mi;rw[if_neg (by simp[e1]),if_neg (by simp[e2])]
 rw[en] at h
 clear en
 have Q:(s.stack.length≠t.stack.length∨s.locals.length≠t.locals.length)→ ∀w σ',Stp w3 U w σ'→D7 P T.f [] w fun a6 w=>Z6 P T.f (.pointer (some ⟨b6,0,none⟩)) a6 w fun _u w=>W2 P T.f (.pointer (some ⟨b6,0,none⟩)) w fun r0=>K (.tuple #[r0,I 75]) w:=fun E w σ' k=>by
  rw[if_pos E] at h
  refine Q6o ?_
  exact Q0C (K:=fun r w=>K (.tuple #[r,I 75]) w) (a.trans k) (A.up k) rfl o W8.zero fun w5 f=>h _ _ _ f W8.zero
 by_cases el:s.stack.length=t.stack.length
 case neg=>
  rw[show (!decide ((s.stack.length:Int)=(t.stack.length:Nat)))=true from by simp;omega]
  (repeat refine Hd.h ?_)
  refine J5 ?_
  exact Q (.inl el) w3 U (Stp.refl a.sat)
 rw[show (!decide ((s.stack.length:Int)=(t.stack.length:Nat)))=false from by simp[el]]
 (repeat refine Hd.h ?_)
 refine ld (i:=2) a.sat c rfl ?_
 (repeat refine Hd.h ?_)
 refine X0 Y ?_
 (repeat refine Hd.h ?_)
 refine ld (i:=2) a.sat g rfl ?_
 (repeat refine Hd.h ?_)
 refine X0 X ?_
 (repeat refine Hd.h ?_)
 refine A0 ?_
 (repeat refine Hd.h ?_)
 by_cases H:s.locals.length=t.locals.length
 case neg=>
  rw[show (!decide ((s.locals.length:Int)=(t.locals.length:Nat)))=true from by simp;omega]
  refine J5 ?_
  exact Q (.inr H) w3 U (Stp.refl a.sat)
 rw[show (!decide ((s.locals.length:Int)=(t.locals.length:Nat)))=false from by simp[H]]
 refine V0 ?_
 clear Q
 rw[if_neg (by simp[el,H])] at h
 refine X1r ?_
 refine X3F a.sat fun b w4 A4=>?_
 have S4:=A4.stp
 refine J7 ?_
 refine ld (i:=1) S4.sat (c.up S4) rfl ?_
 refine X0 q1 ?_
 refine U4 s.stack.length (fun k w'=> ∃σ',ShS w3 U w' σ' b ((List.zipWith (I3 (Q7 l)) s.stack t.stack).take k) []∧ ∀j (g1:j<s.stack.length) (g2:j<t.stack.length),j<k→I3 (Q7 l) s.stack[j] t.stack[j]≠[]) ⟨U,A4,fun j _ _ h=>absurd h (Nat.not_lt_zero _)⟩ fun k w5 d hk hi=>?_
 obtain ⟨σ5,A5,N⟩:=hi
 have f:=A5.stp
 refine Z4 ?_
 refine Q6 (fun E=>?_) (fun E=>?_)
 ·have m:k<s.stack.length:=by simp at E;omega
  have n:k<t.stack.length:=by omega
  refine Zw (q1.up f) m fun a1 M B=>?_
  refine Y0 f.sat M rfl ?_
  refine J7 ?_
  refine ld (i:=1) f.sat (g.up f) rfl ?_
  refine Zw (q3.up f) n fun a2 L C=>?_
  refine Y0 f.sat L rfl ?_
  refine Q9I f.sat (af.lift ⟨f.le⟩) ok B C fun w6 σ6 k6=>?_
  have D:=A5.up k6
  refine Dg ?_
  by_cases ej:I3 (Q7 l) s.stack[k] t.stack[k]=[]
  ·rw[decide_eq_true ej]
   refine J5 ?_
   have V:(List.zipWith (I3 (Q7 l)) s.stack t.stack).any (fun s=>decide (s=[]))=true:=by
    rw[←Bool.not_eq_false,X3z el]
    exact fun hh=>hh k m n ej
   rw[if_pos V] at h
   refine Q6o ?_
   exact Q0C (K:=fun r w=>K (.tuple #[r,I 75]) w) (a.trans D.stp) (A.up D.stp) rfl o W8.zero fun w5 f=>h _ _ _ f W8.zero
  ·rw[decide_eq_false ej]
   refine V0 ?_
   obtain ⟨v1,v2,m6,p1,p2,n1,n2⟩:=D.ex
   refine J7 ?_
   refine B4 (i:=1) m6 rfl ?_
   have J:=Q5n ok B C
   refine O4 (R:=X9) (sz:=1) D.stp.sat [S (I3 (Q7 l) s.stack[k] t.stack[k])] [I3 (Q7 l) s.stack[k] t.stack[k]] rfl rfl (by simp;rfl) rfl ⟨⟨rfl,J⟩,trivial⟩ fun v7 w7 σ7 W ay=>?_
   refine X4v (D.up W) (m6.up W) ay (by rw[List.length_take];omega) fun w8 A8=>?_
   (try simp only[↓M1,M1,Mb,reduceIte])
   refine Y6 (by omega) m ⟨σ7,?_,fun j g1 g2 hj=>?_⟩
   ·rw[X49 m n];exact A8
   ·by_cases e:j=k
    ·subst e;exact ej
    ·exact N j g1 g2 (by omega)
 have O:k=s.stack.length:=by simp at E;omega
 subst O
 have V:(List.zipWith (I3 (Q7 l)) s.stack t.stack).any (fun s=>decide (s=[]))=false:=(X3z el).2 fun j g1 g2=>N j g1 g2 g1
 rw[if_neg (by simp[V])] at h
 rw[List.take_of_length_le (by simp;omega)] at A5
 clear N V
 refine J7 ?_
 refine ld (i:=2) f.sat (c.up f) rfl ?_
 refine X0 (Y.up f) ?_
 refine U4 s.locals.length (fun k w'=> ∃σ',ShS w3 U w' σ' b (List.zipWith (I3 (Q7 l)) s.stack t.stack) ((List.zipWith (Za (Q7 l)) s.locals t.locals).take k)) ⟨σ5,A5⟩ fun k w6 d hk hi=>?_
 obtain ⟨σ6,D⟩:=hi
 have p:=D.stp
 refine Z4 ?_
 refine Q6 (fun E=>?_) (fun E=>?_)
 ·have m:k<s.locals.length:=by simp at E;omega
  have n:k<t.locals.length:=by omega
  refine Zw (Y.up p) m fun a1 M B=>?_
  refine Y0 p.sat M rfl ?_
  refine Zg (fun z w'=> ∃σ',Stp w6 σ6 w' σ'∧z=S (Za (Q7 l) s.locals[k] t.locals[k])∧(Za (Q7 l) s.locals[k] t.locals[k]).length≤Y9) ?_ fun z d w7 V=>?_
  ·refine I4 ?_
   by_cases e3:s.locals[k]=[]
   ·rw[show (!decide (s.locals[k]=[]))=false from by simp[e3]]
    (repeat refine Hd.h ?_)
    refine V0 ?_
    have Z:Za (Q7 l) s.locals[k] t.locals[k]=[]:=by unfold Za;rw[if_pos (.inl e3)]
    rw[Z]
    exact ⟨σ6,Stp.refl p.sat,rfl,Nat.zero_le _⟩
   ·rw[show (!decide (s.locals[k]=[]))=true from by simp[e3]]
    (repeat refine Hd.h ?_)
    refine ld (i:=2) p.sat (g.up p) rfl ?_
    (repeat refine Hd.h ?_)
    refine Zw (X.up p) n fun a2 L C=>?_
    (repeat refine Hd.h ?_)
    refine Y0 p.sat L rfl ?_
    (repeat refine Hd.h ?_)
    refine I4 ?_
    (repeat refine Hd.h ?_)
    by_cases e4:t.locals[k]=[]
    ·rw[show (!decide (t.locals[k]=[]))=false from by simp[e4]]
     refine V0 ?_
     have Z:Za (Q7 l) s.locals[k] t.locals[k]=[]:=by unfold Za;rw[if_pos (.inr e4)]
     rw[Z]
     exact ⟨σ6,Stp.refl p.sat,rfl,Nat.zero_le _⟩
    ·rw[show (!decide (t.locals[k]=[]))=true from by simp[e4]]
     refine J5 ?_
     have Z:Za (Q7 l) s.locals[k] t.locals[k]=I3 (Q7 l) s.locals[k] t.locals[k]:=X1t _ _ _
     rw[Z]
     refine J7 ?_
     refine ld (i:=2) p.sat (g.up p) rfl ?_
     refine Zw (X.up p) n fun a3 av b9=>?_
     refine Y0 p.sat av rfl ?_
     refine Q9I p.sat (af.lift ⟨p.le⟩) ok B C fun w7 σ7 W=>?_
     exact ⟨σ7,W,rfl,Q5n ok B C⟩
  ·obtain ⟨σ7,W,rfl,J⟩:=V
   have A7:=D.up W
   obtain ⟨v1,v2,m7,p1,p2,n1,n2⟩:=A7.ex
   refine J7 ?_
   refine B4 (i:=2) m7 rfl ?_
   refine O4 (R:=X9) (sz:=1) A7.stp.sat [S (Za (Q7 l) s.locals[k] t.locals[k])] [Za (Q7 l) s.locals[k] t.locals[k]] rfl rfl (by simp;rfl) rfl ⟨⟨rfl,J⟩,trivial⟩ fun v8 w8 σ8 k8 ao=>?_
   refine X4d (A7.up k8) (m7.up k8) ao (by rw[List.length_take];omega) fun w9 A9=>?_
   (try simp only[↓M1,M1,Mb,reduceIte])
   refine Y6 (by omega) m ⟨σ8,?_⟩
   rw[X49 m n];exact A9
 have O:k=s.locals.length:=by simp at E;omega
 subst O
 rw[List.take_of_length_le (by simp;omega)] at D
 exact X3u (K:=fun r w=>K (.tuple #[r,I 0]) w) D a A rfl o fun q w' σ' k' aw=>h q w' σ' k' aw)
end Go.Proofs.YtfppjenblllfaaaGreatDoor

namespace Go.Proofs.YtfppjenblllfaaaGreatDoor
open Go.Emb Go.RowKit Go.Kd Go.Hm
variable {w : World} {K : Value → World → Prop} {σ : Q4} {l : List Cla} {v : Value}
end Go.Proofs.YtfppjenblllfaaaGreatDoor

namespace Go.Proofs.YtfppjenblllfaaaGreatDoor
open Go.Emb Go.RowKit Go.Kd Go.Hm
variable {w : World} {K : Value → World → Prop} {σ : Q4} {l : List Cla} {v : Value}
end Go.Proofs.YtfppjenblllfaaaGreatDoor

namespace Go.Proofs.YtfppjenblllfaaaGreatDoor
open Go.Emb Go.RowKit Go.Kd Go.Hm
variable {w w' w0 w1 : World} {K : Value → World → Prop} {σ σ' σ0 σ1 : Q4} {v u : Value} {tv : Value} {l : List Cla} {b b6 : Nat} {xs ys : List Q9} {x : Q9} {s t : Shp}
end Go.Proofs.YtfppjenblllfaaaGreatDoor

namespace Go.Hm
open Go.Kd
def Q3R (s:Shp):Bool:=(decide (s.stack.length≤40)&&decide (s.locals.length≤40))&&(s.stack.all (fun x=>decide (x.length≤100))&&s.locals.all (fun x=>decide (x.length≤100)))
theorem Q9K {xs:List Q9} {f:Q9→Bool} (h: ∀j (a:j<xs.length),f xs[j]=true):xs.all f=true:=List.all_eq_true.2 fun x c=>by
 obtain ⟨j,a,rfl⟩:=List.mem_iff_getElem.1 c
 exact h j a
theorem Q81 {xs:List Q9} {f:Q9→Bool} {j:Nat} (a:j<xs.length) (h:f xs[j]=false):xs.all f=false:=by
 rw[←Bool.not_eq_true,List.all_eq_true]
 intro hh
 rw[hh xs[j] (List.getElem_mem a)] at h
 cases h
end Go.Hm
namespace Go.Proofs.YtfppjenblllfaaaGreatDoor
open Go.Emb Go.RowKit Go.Kd Go.Hm
variable {w w' w0 w1 : World} {K : Value → World → Prop} {σ σ' σ0 σ1 : Q4} {v u : Value} {tv : Value} {l : List Cla} {b b6 : Nat} {xs ys : List Q9} {x : Q9} {s t : Shp}
theorem X0A {ds:List Value} (U:X4 w σ) (R:W8 σ s ds) (h: ∀w',Below w.heap.size w w'→K (.bool (Q3R s)) w'):Q0 P F.b1 [.agg ds.toArray] w K:=Q0k (by
 obtain ⟨sv,V,rfl,r,y⟩:=R
 unfold Ei
 refine Z1 U fun q w1 σ1 c z=>?_
 have r:=r.up c
 have y:=y.up c
 have N:=r.max
 have L:=y.max
 refine J7 ?_
 refine ld (i:=1) c.sat z rfl ?_
 refine X0 r ?_
 refine Ci ?_
 unfold Q3R at h
 by_cases H:s.stack.length≤40
 case neg=>
  rw[decide_eq_false H] at h
  rw[show decide ((40:Int)<(s.stack.length:Nat))=true from by simp;omega]
  (repeat refine Hd.h ?_)
  refine J5 ?_
  exact h _ c.bel
 rw[decide_eq_true H] at h
 rw[show decide ((40:Int)<(s.stack.length:Nat))=false from by simp;omega]
 (repeat refine Hd.h ?_)
 refine ld (i:=2) c.sat z rfl ?_
 (repeat refine Hd.h ?_)
 refine X0 y ?_
 (repeat refine Hd.h ?_)
 refine Ci ?_
 (repeat refine Hd.h ?_)
 by_cases E:s.locals.length≤40
 case neg=>
  rw[decide_eq_false E] at h
  rw[show decide ((40:Int)<(s.locals.length:Nat))=true from by simp;omega]
  refine J5 ?_
  exact h _ c.bel
 rw[decide_eq_true E] at h
 rw[show decide ((40:Int)<(s.locals.length:Nat))=false from by simp;omega]
 refine V0 ?_
 simp only[Bool.true_and] at h
 refine U4 s.stack.length (fun k w'=>w'=w1∧ ∀j (g:j<s.stack.length),j<k→decide (s.stack[j].length≤100)=true) ⟨rfl,fun j _ h=>absurd h (Nat.not_lt_zero _)⟩ fun k J d Q B=>?_
 obtain ⟨rfl,m⟩:=B
 refine J7 ?_
 refine ld (i:=1) c.sat z rfl ?_
 refine X0 r ?_
 refine Z4 ?_
 refine Q6 (fun p=>?_) (fun p=>?_)
 ·have a:k<s.stack.length:=by simp at p;omega
  refine J7 ?_
  refine ld (i:=1) c.sat z rfl ?_
  refine Zw r a fun M o C=>?_
  refine Y0 c.sat o rfl ?_
  refine Gm (by kernel_rfl) ?_
  refine Ci ?_
  by_cases A:s.stack[k].length≤100
  ·rw[show decide ((100:Int)<(s.stack[k].length:Nat))=false from by simp;omega]
   refine V0 ?_
   (try simp only[↓M1,M1,Mb,reduceIte])
   exact Y6 N a ⟨rfl,fun j g O=>by
    by_cases e:j=k
    ·subst e;simpa using A
    ·exact m j g (by omega)⟩
  ·rw[show decide ((100:Int)<(s.stack[k].length:Nat))=true from by simp;omega]
   refine J5 ?_
   have D:=Q81 (f:=fun x=>decide (x.length≤100)) a (by simpa using A)
   rw[D,Bool.false_and] at h
   exact h _ c.bel
 have n:k=s.stack.length:=by simp at p;omega
 subst n
 rw[Q9K (f:=fun x=>decide (x.length≤100)) fun j g=>m j g g,Bool.true_and] at h
 clear m
 refine U4 s.locals.length (fun k w'=>w'=J∧ ∀j (g:j<s.locals.length),j<k→decide (s.locals[j].length≤100)=true) ⟨rfl,fun j _ h=>absurd h (Nat.not_lt_zero _)⟩ fun k J d Q B=>?_
 obtain ⟨rfl,m⟩:=B
 refine J7 ?_
 refine ld (i:=2) c.sat z rfl ?_
 refine X0 y ?_
 refine Z4 ?_
 refine Q6 (fun p=>?_) (fun p=>?_)
 ·have a:k<s.locals.length:=by simp at p;omega
  refine J7 ?_
  refine ld (i:=2) c.sat z rfl ?_
  refine Zw y a fun M o C=>?_
  refine Y0 c.sat o rfl ?_
  refine Gm (by kernel_rfl) ?_
  refine Ci ?_
  by_cases A:s.locals[k].length≤100
  ·rw[show decide ((100:Int)<(s.locals[k].length:Nat))=false from by simp;omega]
   refine V0 ?_
   (try simp only[↓M1,M1,Mb,reduceIte])
   exact Y6 L a ⟨rfl,fun j g O=>by
    by_cases e:j=k
    ·subst e;simpa using A
    ·exact m j g (by omega)⟩
  ·rw[show decide ((100:Int)<(s.locals[k].length:Nat))=true from by simp;omega]
   refine J5 ?_
   have D:=Q81 (f:=fun x=>decide (x.length≤100)) a (by simpa using A)
   rw[D] at h
   exact h _ c.bel
 have n:k=s.locals.length:=by simp at p;omega
 subst n
 rw[Q9K (f:=fun x=>decide (x.length≤100)) fun j g=>m j g g] at h
 exact h _ c.bel)
end Go.Proofs.YtfppjenblllfaaaGreatDoor

namespace Go.Proofs.YtfppjenblllfaaaGreatDoor
open Go.Emb Go.RowKit Go.Kd Go.Hm
variable {w w' w0 w1 : World} {K : Value → World → Prop} {σ σ' σ0 σ1 : Q4} {v u : Value} {tv : Value} {l : List Cla} {b b6 : Nat} {xs ys : List Q9} {x : Q9} {s t : Shp}
end Go.Proofs.YtfppjenblllfaaaGreatDoor

namespace Go.Hm
open Go.Kd
def X22:Hm.Met:=⟨[],[],[],false,0,[],[]⟩
def Q98:Ins:=⟨[97,100,100],0,[]⟩
def Q0P:Q9:=O9++[91,93]
def sh1:Shp:=⟨true,[U9],[]⟩
def sh2:Shp:=⟨true,[Q0P],[]⟩
set_option maxRecDepth 100000 in
theorem X0J:Rs (Q7 Qy) X22 Q98 [] [] false ⟨true,[U9,U9],[]⟩=(sh1,0):=by decide+kernel
set_option maxRecDepth 100000 in
theorem Q7h:Mi (Q7 Qy) ⟨true,[C2],[]⟩ sh2=(sh2,0):=by decide+kernel
end Go.Hm
namespace Go.Proofs.YtfppjenblllfaaaGreatDoor
open Go.Emb Go.RowKit Go.Kd Go.Hm
variable {w w' w0 w1 : World} {K : Value → World → Prop} {σ σ' σ0 σ1 : Q4} {v u : Value} {tv : Value} {l : List Cla} {b b6 : Nat} {xs ys : List Q9} {x : Q9} {s t : Shp}
theorem Q5s (B:X4 w σ) (z:Glb σ)
 (h: ∀a v w' σ',Stp w σ w' σ'→Tab σ' (.pointer (some a)) (Q7 Qy)→Sl 8 V4 σ' v (Q7 Qy)→Ok (Q7 Qy)→K (.tuple #[.pointer (some a),v]) w'):Q0 P F.aC [] w K:=Gk (by
 unfold Vt
 refine Q4L B fun v N H d k=>?_
 refine X4c d.sat (z.lift ⟨d.le⟩) k (by decide) X2E (fun i e _ _ g=>by rw[Q2l] at g;cases g) fun tv J L _ j y ok _=>?_
 obtain ⟨a,_,_,_,rfl,_⟩:=y.ex
 have m:=d.trans j
 refine Z7 (vs:=[_,_,_]) rfl ?_
 refine Z7 (vs:=[_,_,_]) rfl ?_
 refine Z7 (vs:=[_,_,_]) rfl ?_
 refine Q4L j.sat fun M O E f r=>?_
 refine X2O f.sat r (by decide) (fun i e _ _ g=>by rw[Q2l] at g;cases g) fun A D C _ p n q _=>?_
 have c:=f.trans p
 have o:=m.trans c
 refine Z7 (vs:=[_,_,_]) rfl ?_
 refine Z7 (vs:=[_,_,_]) rfl ?_
 refine Z7 (vs:=[_,_,_]) rfl ?_
 refine A0 ?_
 simp only[decide_true,Bool.not_true]
 (repeat refine Hd.h ?_)
 refine A0 ?_
 simp only[decide_true,Bool.not_true]
 (repeat refine Hd.h ?_)
 refine X0x ?_
 (repeat refine Hd.h ?_)
 refine V0 ?_
 exact h a A D C o (y.lift ⟨c.le⟩) n q)
set_option maxHeartbeats 2000000 in
theorem Q65 (hs:X4 w σ) (hg:Glb σ) (h: ∀w' σ',Stp w σ w' σ'→K (.bool true) w'):Q0 P F.ah [] w K:=Kv (by
 unfold Mj
 refine Q5s hs hg fun a lv w1 σ1 S1 ht hl ok=>?_
 refine Z7 (vs:=[_,_]) rfl ?_
 refine Z7 (vs:=[_,_]) rfl ?_
 refine X0x ?_
 (repeat refine Hd.h ?_)
 refine X0 hl ?_
 (repeat refine Hd.h ?_)
 refine Jz ?_
 (repeat refine Hd.h ?_)
 rw[show decide (((Q7 Qy).length:Int)=0)=false from by decide]
 refine V0 ?_
 refine Hs ?_
 refine W4 (cells:= #[S Q98.op,I 0,S []]) (by kernel_rfl) ?_
 refine O4 (R:=X9) (sz:=1) S1.sat [S U9,S U9] [U9,U9] rfl rfl (by simp;rfl) rfl ⟨⟨rfl,by decide⟩,⟨rfl,by decide⟩,trivial⟩ fun v2 w2 σ2 V N=>?_
 refine W4 (cells:= #[.bool true,v2, .slice none 0 0]) (by obtain ⟨a,c,rfl,_⟩:=N;kernel_rfl) ?_
 refine X1Q (m:=X22) (i:=Q98) (c:=[]) (f:=[]) (k:=false) V.sat (ht.lift ⟨V.le⟩) ok ⟨_,_,_,rfl,Sl.nil,Sl.nil,Sl.nil,by decide,by decide,by decide⟩ ⟨rfl,by decide,by decide,by decide⟩ N Sl.nil (by decide) (by decide) (fun a ha=>by
  have e:Ly.lookup Q98.op=some (.takes U9 [U9,U9]):=by decide+kernel
  rw[e] at ha;cases ha
  exact @Q6D _ _ _ _ _ _ _ _ (by decide)) fun ds w3 σ3 k3 O=>?_
 rw[X0J] at O⊢
 have S3:=(S1.trans V).trans k3
 refine Z7 (vs:=[_,_]) rfl ?_
 refine Z7 (vs:=[_,_]) rfl ?_
 have d:W8 σ3 sh1 ds:=O
 refine Y5 (sz:=3) k3.sat rfl (by obtain ⟨_,_,rfl,_⟩:=d;rfl) (Rep.one d) fun qa w4 σ4 D W=>?_
 refine O4 (R:=X9) (sz:=1) D.sat [S C2] [C2] rfl rfl (by simp;rfl) rfl ⟨⟨rfl,by decide⟩,trivial⟩ fun v5 w5 σ5 B U=>?_
 refine W4 (cells:= #[.bool true,v5, .slice none 0 0]) (by obtain ⟨a,c,rfl,_⟩:=U;kernel_rfl) ?_
 refine O4 (R:=X9) (sz:=1) B.sat [S Q0P] [Q0P] rfl rfl (by simp;rfl) rfl ⟨⟨rfl,by decide⟩,trivial⟩ fun v6 w6 σ6 y M=>?_
 refine W4 (cells:= #[.bool true,v6, .slice none 0 0]) (by obtain ⟨a,c,rfl,_⟩:=M;kernel_rfl) ?_
 have X:=(((V.trans k3).trans D).trans B).trans y
 refine X2I (s:=⟨true,[C2],[]⟩) (t:=sh2) y.sat (ht.lift ⟨X.le⟩) ok ⟨_,_,rfl,U.up y,Sl.nil⟩ ⟨_,_,rfl,M,Sl.nil⟩ (by decide) (by decide) (by decide) (by decide) fun es w7 σ7 J H=>?_
 rw[Q7h] at H⊢
 refine Z7 (vs:=[_,_]) rfl ?_
 refine Z7 (vs:=[_,_]) rfl ?_
 have j:W8 σ7 sh2 es:=H
 refine Y5 (sz:=3) J.sat rfl (by obtain ⟨_,_,rfl,_⟩:=j;rfl) (Rep.one j) fun qb w8 σ8 z ab=>?_
 have o:=(((W.up B).up y).up J).up z
 have n:=W8.liftS d ((((D.trans B).trans y).trans J).trans z)
 have L:=W8.liftS j z
 refine Z2 z.sat o (by obtain ⟨_,_,rfl,_⟩:=d;rfl) ?_
 refine O4 (R:=X9) (sz:=1) z.sat [S U9] [U9] rfl rfl (by simp;rfl) rfl ⟨⟨rfl,by decide⟩,trivial⟩ fun v9 w9 σ9 A Q=>?_
 refine W4 (cells:= #[.bool true,v9, .slice none 0 0]) (by obtain ⟨a,c,rfl,_⟩:=Q;kernel_rfl) ?_
 refine Q4y (b:=sh1) (es:=[.bool true,v9, .slice none 0 0]) A.sat (W8.liftS n A) ⟨_,_,rfl,Q,Sl.nil⟩ fun ah E=>?_
 have av:=(((S3.trans D).trans B).trans y).trans (J.trans (z.trans (A.trans (Stp.of_below A.sat E))))
 have p:=A.trans (Stp.of_below A.sat E)
 rw[show decide (sh1=sh1)=true from by decide]
 (repeat refine Hd.h ?_)
 refine Jz ?_
 simp only[decide_true]
 (repeat refine Hd.h ?_)
 refine Z2 p.sat (ab.up p) (by obtain ⟨_,_,rfl,_⟩:=j;rfl) ?_
 (repeat refine Hd.h ?_)
 refine O4 (R:=X9) (sz:=1) p.sat [S Q0P] [Q0P] rfl rfl (by simp;rfl) rfl ⟨⟨rfl,by decide⟩,trivial⟩ fun C ao al q r=>?_
 (repeat refine Hd.h ?_)
 refine W4 (cells:= #[.bool true,C, .slice none 0 0]) (by obtain ⟨a,c,rfl,_⟩:=r;kernel_rfl) ?_
 (repeat refine Hd.h ?_)
 refine Q4y (b:=sh2) (es:=[.bool true,C, .slice none 0 0]) q.sat (W8.liftS L (p.trans q)) ⟨_,_,rfl,r,Sl.nil⟩ fun ak Y=>?_
 have g:=p.trans (q.trans (Stp.of_below q.sat Y))
 rw[show decide (sh2=sh2)=true from by decide]
 (repeat refine Hd.h ?_)
 refine Jz ?_
 simp only[decide_true]
 (repeat refine Hd.h ?_)
 refine Z2 g.sat (o.up g) (by obtain ⟨_,_,rfl,_⟩:=d;rfl) ?_
 (repeat refine Hd.h ?_)
 refine Z2 g.sat (o.up g) (by obtain ⟨_,_,rfl,_⟩:=d;rfl) ?_
 (repeat refine Hd.h ?_)
 refine X36 (a:=sh1) (b:=sh1) g.sat (W8.liftS n g) (W8.liftS n g) fun aj Z=>?_
 rw[show decide (sh1=sh1)=true from by decide]
 (repeat refine Hd.h ?_)
 exact h _ _ ((((S3.trans D).trans B).trans y).trans (J.trans (z.trans (g.trans (Stp.of_below g.sat Z))))))
end Go.Proofs.YtfppjenblllfaaaGreatDoor

namespace Go.Hm
open Go.Kd
theorem Kw {s:Shp} (h:Q3R s=true):s.stack.length≤1000∧s.locals.length≤1000:=by
 simp only[Q3R,Bool.and_eq_true,decide_eq_true_eq] at h
 omega
end Go.Hm
namespace Go.Proofs.YtfppjenblllfaaaGreatDoor
open Go.Emb Go.RowKit Go.Kd Go.Hm
variable {w w' w0 w1 : World} {K : Value → World → Prop} {σ σ' σ0 σ1 : Q4} {v u : Value} {tv : Value} {l : List Cla} {s t : Shp} {ds es : List Value}
theorem X2v (h:W8 σ s ds):ds.length=3:=by obtain ⟨_,_,rfl,_⟩:=h;rfl
theorem X0l {A:Value→World→Prop} (c:X4 w σ) (b:W8 σ s ds) (h: ∀a w' σ',Stp w σ w' σ'→Z0 σ' a ds→A (.pointer (some a)) w'):L3 P T.f w fun p w=>Z6 P T.f p (.agg ds.toArray) w fun _ w=>A p w:=
 Y5 (sz:=3) (A:=fun p _ w=>A p w) c rfl (X2v b) (Rep.one b) h
end Go.Proofs.YtfppjenblllfaaaGreatDoor

namespace Go.Proofs.YtfppjenblllfaaaGreatDoor
open Go.Emb Go.RowKit Go.Kd Go.Hm
variable {w w' w0 w1 : World} {K : Value → World → Prop} {σ σ' σ0 σ1 : Q4} {v u : Value} {tv : Value} {l : List Cla} {s t : Shp} {ds es : List Value}
end Go.Proofs.YtfppjenblllfaaaGreatDoor

namespace Go.Hm
open Go.Kd
def doP (l:List Cla) (m:Hm.Met) (i:Ins) (s:Shp):Shp×Int:=Rs l m i (K7 i.s).1 (K7 i.s).2.1 (K7 i.s).2.2 s
end Go.Hm
namespace Go.Proofs.YtfppjenblllfaaaGreatDoor
open Go.Emb Go.RowKit Go.Kd Go.Hm
variable {w w' w0 w1 : World} {K : Value → World → Prop} {σ σ' σ0 σ1 : Q4} {v u : Value} {tv : Value} {l : List Cla} {s t : Shp} {ms is ds es : List Value} {m : Hm.Met} {i : Ins} {c f : Q9} {k : Bool}
theorem X3p (j:i.s.length≤200) (g:m.result.length≤Y9) (h: ∀o x,J0 l c f=some (o,x)→x.params.length≤1000000∧x.result.length≤Y9) (d:K7 i.s=(c,f,k)) {a:Dact} (e:X1h a=true):B7 l m i c f k a:=by
 have hB:(200:Nat)≤Y9:=by decide
 have b:=Nat.le_trans j hB
 cases a with
 | puts q=>exact @X2K _ _ _ _ _ _ _
 | takes q ys=>exact @Q6D _ _ _ _ _ _ _ _ (of_decide_eq_true e)
 | load=>exact @X2C _ _ _ _ _ _
 | store=>exact @X1j _ _ _ _ _ _
 | pop=>exact @X3W _ _ _ _ _ _
 | dup=>exact @X4b _ _ _ _ _ _
 | swap=>exact @X2V _ _ _ _ _ _
 | size=>exact @X2u _ _ _ _ _ _
 | nop=>exact @X44 _ _ _ _ _ _
 | make=>exact @X2Z _ _ _ _ _ _ b
 | get=>exact @X3m _ _ _ _ _ _ b d
 | give=>exact @X37 _ _ _ _ _ _ b d
 | call=>exact @X2d _ _ _ _ _ _ b d h
 | array=>exact @X16 _ _ _ _ _ _ (by omega)
 | at_=>exact @X4w _ _ _ _ _ _
 | set_=>exact @X45 _ _ _ _ _ _
 | is=>exact @X4y _ _ _ _ _ _ b
 | cast=>exact @X2W _ _ _ _ _ _ b
 | ret=>exact @X3b _ _ _ _ _ _ g
 | equal=>exact @X1q _ _ _ _ _ _
theorem Wf.met_sm (d:Wf l) (ok:Ok (Q7 l)) {o:Q9} {x:Hm.Met} (h:J0 (Q7 l) c f=some (o,x)):x.params.length≤1000000∧x.result.length≤Y9:=by
 obtain ⟨y,g,e,_⟩:=d.method_some h
 have a:=(V1 g).2.1
 have b:=List.mem_of_find?_eq_some e
 exact ⟨((ok.sm y a).2.2.2 x b).1,Nat.le_trans ((ok.nm y a).2.2 x b).1 (by decide)⟩
theorem X1T (C:X4 w σ) (q:Tab σ tv (Q7 l)) (g:Wf l) (ok:Ok (Q7 l)) (y:L9 σ m ms) (j:I0 σ i is) (B:W8 σ s ds) (n:s.stack.length≤1000) (r:s.locals.length≤1000) (A:i.s.length≤200) (z:m.result.length≤100)
 (h: ∀b w' σ',Stp w σ w' σ'→W8 σ' (doP (Q7 l) m i s).1 b→K (.tuple #[.agg b.toArray,I (doP (Q7 l) m i s).2]) w'):Q0 P F.ce [tv, .agg ms.toArray, .agg is.toArray, .agg ds.toArray] w K:=by
 obtain ⟨sv,E,rfl,p,d⟩:=B
 exact X1Q C q ok y j p d n r (fun a D=>X3p A (Nat.le_trans z (by decide)) (fun o x e=>g.met_sm ok e) rfl (X3G D)) h
theorem Z0.pre {a:Addr} (h:Z0 σ a (ds++es)):Z0 σ a ds:=by
 obtain ⟨o,E1,e,g,n,d⟩:=h
 exact ⟨o,E1,e,g,n,fun j v b=>d j v (by rw[List.getElem?_append_left (List.getElem?_eq_some_iff.1 b).1];exact b)⟩
theorem Q2x {t e:TypeId} {n sz by_:Nat} {z:Value} [ta:TA P t n e] [tz:TZ P e sz by_ z] {a:Addr} {k:Nat} (b:k<n) (h:K (.pointer (some (a.add (k*sz)))) w):indexAddr P t (.pointer (some a)) (I k) w K:=by
 rw[Q5G (by omega) (by omega)];exact h
set_option maxHeartbeats 2000000 in
theorem Q55 (hs:X4 w σ) (hg:Glb σ) (hm:L9 σ m ms) (hi:I0 σ i is) (hr:W8 σ s ds) (hu:W8 σ t es) (h: ∀w' σ',Stp w σ w' σ'→K (.bool true) w'):Q0 P F.bS [.agg ms.toArray, .agg is.toArray, .agg (List.toArray (ds++es))] w K:=Ep (by
 obtain ⟨pv,cv,hv,rfl,bw⟩:=id hm
 obtain ⟨rfl,V⟩:=id hi
 obtain ⟨a1,a2,rfl,W,ql⟩:=id hr
 obtain ⟨a3,a4,rfl,Z,qm⟩:=id hu
 unfold Yo
 refine Z1 hs fun qa w1 σ1 k1 j=>?_
 refine Z1 k1.sat fun qb w2 σ2 Y g=>?_
 refine Z1 Y.sat fun X w3 σ3 k3 q=>?_
 have S3:=(k1.trans Y).trans k3
 refine Q5s S3.sat (hg.lift ⟨S3.le⟩) fun a lv w4 σ4 U ht hl ok=>?_
 refine Z7 (vs:=[_,_]) rfl ?_
 refine Z7 (vs:=[_,_]) rfl ?_
 have S4:=S3.trans U
 refine Q65 S4.sat (hg.lift ⟨S4.le⟩) fun w5 σ5 O=>?_
 have z:=S4.trans O
 have j:=(((j.up Y).up k3).up U).up O
 have g:=((g.up k3).up U).up O
 have q:=(q.up U).up O
 have n:Z0 σ5 (X.add (0*3)) [.bool s.seen,a1,a2]:=by have:=Z0.pre (ds:=[.bool s.seen,a1,a2]) q;rwa [Nat.zero_mul,show X.add 0=X from by unfold Addr.add;rw[if_pos rfl]]
 have o:Z0 σ5 (X.add (1*3)) [.bool t.seen,a3,a4]:=Z0.tail (xs:=[.bool s.seen,a1,a2]) q
 have L:=W8.liftS hr z
 have J:=W8.liftS hu z
 have M:=ht.lift ⟨O.le⟩
 have N: ∀w6 σ6,Stp w5 σ5 w6 σ6→Q0 P F.ah [] w6 fun t w=>K t w:=fun w6 σ6 r=>by
  have S6:=z.trans r
  exact Q65 S6.sat (hg.lift ⟨S6.le⟩) fun w7 σ7 D=>h _ _ (S6.trans D)
 refine Li ?_
 rw[Bool.not_true]
 (repeat refine Hd.h ?_)
 refine Q2x (k:=0) (by decide) ?_
 (repeat refine Hd.h ?_)
 refine Z2 z.sat n rfl ?_
 (repeat refine Hd.h ?_)
 refine X0A z.sat L fun w6 b6=>?_
 have r:=Stp.of_below z.sat b6
 (repeat refine Hd.h ?_)
 cases e1:Q3R s with
 | false=>
  rw[Bool.not_false]
  (repeat refine Hd.h ?_)
  refine J5 ?_
  exact N _ _ r
 | true=>
 rw[Bool.not_true]
 (repeat refine Hd.h ?_)
 refine Q2x (k:=1) (by decide) ?_
 (repeat refine Hd.h ?_)
 refine Z2 r.sat (o.up r) rfl ?_
 (repeat refine Hd.h ?_)
 refine X0A r.sat (W8.liftS J r) fun w7 b7=>?_
 have D:=r.trans (Stp.of_below r.sat b7)
 (repeat refine Hd.h ?_)
 cases e2:Q3R t with
 | false=>
  rw[Bool.not_false]
  (repeat refine Hd.h ?_)
  refine J5 ?_
  exact N _ _ D
 | true=>
 rw[Bool.not_true]
 (repeat refine Hd.h ?_)
 refine ld (i:=0) D.sat (g.up D) rfl ?_
 (repeat refine Hd.h ?_)
 refine Q4M D.sat fun w8 σ8 ai=>?_
 have b:=D.trans ai
 (repeat refine Hd.h ?_)
 refine Z4 ?_
 (repeat refine Hd.h ?_)
 cases e3:decide (Wz i.op<0) with
 | true=>
  (repeat refine Hd.h ?_)
  refine J5 ?_
  exact N _ _ b
 | false=>
 (repeat refine Hd.h ?_)
 refine ld (i:=2) b.sat (g.up b) rfl ?_
 (repeat refine Hd.h ?_)
 refine Gm X7 ?_
 (repeat refine Hd.h ?_)
 refine Ci ?_
 (repeat refine Hd.h ?_)
 cases e4:decide ((200:Int)<i.s.length) with
 | true=>
  (repeat refine Hd.h ?_)
  refine J5 ?_
  exact N _ _ b
 | false=>
 (repeat refine Hd.h ?_)
 refine ld (i:=2) b.sat (j.up b) rfl ?_
 (repeat refine Hd.h ?_)
 refine Gm X7 ?_
 (repeat refine Hd.h ?_)
 refine Ci ?_
 (repeat refine Hd.h ?_)
 cases e5:decide ((100:Int)<m.result.length) with
 | true=>
  (repeat refine Hd.h ?_)
  refine J5 ?_
  exact N _ _ b
 | false=>
 (repeat refine Hd.h ?_)
 refine V0 ?_
 clear N
 have g4:i.s.length≤200:=by have:=of_decide_eq_false e4;omega
 have g5:m.result.length≤100:=by have:=of_decide_eq_false e5;omega
 refine Z2 b.sat (j.up b) rfl ?_
 refine Z2 b.sat (g.up b) rfl ?_
 refine Q2x (k:=0) (by decide) ?_
 refine Z2 b.sat (n.up b) rfl ?_
 have S8:=z.trans b
 have H:=RMe_lift hm ⟨S8.le⟩
 refine X1T (s:=s) b.sat (M.lift ⟨b.le⟩) Q7F ok H ⟨rfl,V⟩ (W8.liftS L b) (Kw e1).1 (Kw e1).2 g4 g5 fun cs w9 σ9 k9 hc=>?_
 refine Z7 (vs:=[_,_]) rfl ?_
 refine Z7 (vs:=[_,_]) rfl ?_
 refine X0l k9.sat hc fun qd bo bn e p=>?_
 have kA:=k9.trans e
 have d:=b.trans kA
 refine Z2 e.sat (j.up d) rfl ?_
 refine Z2 e.sat (g.up d) rfl ?_
 refine Q2x (k:=1) (by decide) ?_
 refine Z2 e.sat (o.up d) rfl ?_
 refine X1T (s:=t) e.sat (M.lift ⟨d.le⟩) Q7F ok (RMe_lift H ⟨kA.le⟩) ⟨rfl,V⟩ (W8.liftS J d) (Kw e2).1 (Kw e2).2 g4 g5 fun bj bs bq E B=>?_
 refine Z7 (vs:=[_,_]) rfl ?_
 refine Z7 (vs:=[_,_]) rfl ?_
 refine X0l E.sat B fun qe bp bu A R=>?_
 have kB:=E.trans A
 have C:=d.trans kB
 have Q:=z.trans C
 have sB:=A.sat
 have hc:=W8.liftS hc (e.trans kB)
 have B:=W8.liftS B A
 have p:=p.up kB
 have n:=n.up C
 have o:=o.up C
 have W:=W.up Q
 have Z:=Z.up Q
 have ql:=ql.up Q
 clear k1 Y k3 U O r D b k9 e E A kA kB d C j g q L J M H S3 S4 z S8 b6 b7
 refine A0 ?_
 by_cases z1:(doP (Q7 Qy) m i s).2=0
 case neg=>
  rw[decide_eq_false z1,Bool.not_false]
  (repeat refine Hd.h ?_)
  refine J5 ?_
  exact h _ _ Q
 rw[decide_eq_true z1,Bool.not_true]
 (repeat refine Hd.h ?_)
 refine A0 ?_
 by_cases z2:(doP (Q7 Qy) m i t).2=0
 case neg=>
  rw[decide_eq_false z2,Bool.not_false]
  (repeat refine Hd.h ?_)
  refine J5 ?_
  exact h _ _ Q
 rw[decide_eq_true z2,Bool.not_true]
 (repeat refine Hd.h ?_)
 refine V0 ?_
 obtain ⟨f1,f2,f3,f4⟩:=X39 z1 z2
 change ((doP (Q7 Qy) m i s).1.stack.length:Int)-s.stack.length=((doP (Q7 Qy) m i t).1.stack.length:Int)-t.stack.length at f1
 change (doP (Q7 Qy) m i s).1.locals.length=s.locals.length at f2
 change (doP (Q7 Qy) m i s).1.seen=true at f3
 change (doP (Q7 Qy) m i t).1.seen=true at f4
 generalize (doP (Q7 Qy) m i s).1=x at*
 generalize (doP (Q7 Qy) m i t).1=y at*
 obtain ⟨b1,b2,rfl,q1,q2⟩:=hc
 obtain ⟨b3,b4,rfl,q3,q4⟩:=B
 have m1:=q1.max
 have m2:=W.max
 have m3:=q3.max
 have m4:=Z.max
 refine J7 ?_
 refine ld (i:=1) sB p rfl ?_
 refine X0 q1 ?_
 refine Q2x (k:=0) (by decide) ?_
 refine J7 ?_
 refine ld (i:=1) sB n rfl ?_
 refine X0 W ?_
 refine Q5i ?_
 refine J7 ?_
 refine ld (i:=1) sB R rfl ?_
 refine X0 q3 ?_
 refine Q2x (k:=1) (by decide) ?_
 refine J7 ?_
 refine ld (i:=1) sB o rfl ?_
 refine X0 Z ?_
 refine Q5i ?_
 rw[F3 (by omega) (by omega),F3 (by omega) (by omega)]
 refine Jz ?_
 rw[decide_eq_true f1]
 (repeat refine Hd.h ?_)
 refine ld (i:=2) sB p rfl ?_
 (repeat refine Hd.h ?_)
 refine X0 q2 ?_
 (repeat refine Hd.h ?_)
 refine Q2x (k:=0) (by decide) ?_
 (repeat refine Hd.h ?_)
 refine ld (i:=2) sB n rfl ?_
 (repeat refine Hd.h ?_)
 refine X0 ql ?_
 (repeat refine Hd.h ?_)
 refine Jz ?_
 rw[f2,decide_eq_true rfl]
 (repeat refine Hd.h ?_)
 refine ld (i:=0) sB p rfl ?_
 rw[f3]
 (repeat refine Hd.h ?_)
 refine ld (i:=0) sB R rfl ?_
 rw[f4]
 (repeat refine Hd.h ?_)
 exact h _ _ Q)
end Go.Proofs.YtfppjenblllfaaaGreatDoor

namespace Go.Proofs.YtfppjenblllfaaaGreatDoor.stepHeights
open Go.ChangeShapes Go.WideShapes Go.ChangeAt Go.RowKit
open Go.Emb
theorem own : ownKnob Tryz.prog.godebug = none := by kernel_rfl
theorem lay : laidOutB Tryz.prog = true := by kernel_rfl
set_option maxRecDepth 100000 in
theorem X3Y (os : Os) (started : os.Started) (H : Type) (enc : TypeId × Value → H) :
    ReturnsInHanded {} Tryz.checked os 5 .any (fun w args => (Rows.stepHeightsSpec.pre enc Tryz.prog Tryz.f5 [] false w args ∧ laidMetH Tryz.prog laidAll w) ∧ sizedMet enc Tryz.prog Tryz.f5 (OpenSpec.ofChange Rows.stepHeightsSpec) false w args) (Rows.stepHeightsSpec.post enc Tryz.prog Tryz.f5 false true false false) := by
  refine returnsInHanded_of_change_and (C := Tryz.checked) (X := fun w _ => laidMetH Tryz.prog laidAll w) (fun _ _ _ hh h => h.of_heap hh) own started (by kernel_rfl) Tryz.func5
    (ChangeSpec.witness_shaped (enc := enc) (C := Tryz.checked) (os := os) (X := fun w _ => laidMetH Tryz.prog laidAll w) false (World.laidAll Tryz.prog os laidAll) #[.agg #[.string ByteArray.empty, .slice none 0 0, .string ByteArray.empty, .bool false, .int .i64 0, .slice none 0 0, .slice none 0 0], .agg #[.string ByteArray.empty, .int .i64 0, .string ByteArray.empty], .agg #[.bool false, .slice none 0 0, .slice none 0 0, .bool false, .slice none 0 0, .slice none 0 0]] 8 (World.laidAll_os _ _ _)
      (World.shaped_of_ZipB (by kernel_rfl) (by kernel_rfl)) (by kernel_rfl) (by kernel_rfl) (by kernel_rfl) (by rw [MakeChecks.laidMetH_plain _ _ _ (by kernel_rfl)]; exact laidMet_laidAll _ (by kernel_rfl) (by kernel_rfl))) ?_
  intro W base args ds gs before hval0 hW _ hsz0 hL _
  have hsz : (DataW.weightsEach Tryz.prog (Tryz.f5.params.toList ++ Rows.stepHeightsSpec.plain.varTypes Tryz.prog) (ds ++ gs)).all (· ≤ reachBytes) = true := hsz0
  have hval : ∀ (j : Nat) t v, Tryz.f5.params[j]? = some t → args[j]? = some v → Value.okWide Tryz.prog W .any base t v := hval0
  have hW' := hW
  obtain ⟨p, q, hA0, hV, rfl, hfz, hnd⟩ := hW
  have hA : DataW.TrodAll enc Tryz.prog W 0 (fun _ => true) true Tryz.f5.params.toList args.toList ds p := hA0
  have hlt := DataW.TrodAll.lt hA
  rw [Tryz.params5] at hA hval hsz
  obtain ⟨v0, vs0, d0, ds0, p0, q0, hargs, rfl, rfl, h0, r0⟩ := trodAll_cons hA
  obtain ⟨v1, vs1, d1, ds1, p1, q1, rfl, rfl, rfl, h1, r1⟩ := trodAll_cons r0
  obtain ⟨v2, vs2, d2, ds2, p2, q2, rfl, rfl, rfl, h2, r2⟩ := trodAll_cons r1
  obtain ⟨rfl, rfl, rfl⟩ := trodAll_nil r2
  obtain rfl : args = #[v0, v1, v2] := by cases args; simp_all
  obtain ⟨rfl, rfl⟩ := trodVars_none hV
  have g0 : ∀ x ∈ p0, x.block < W.heap.size := fun x hx => hlt x (by simp [hx])
  have k0 := fun (W' : World) (bel : Below W.heap.size W W') => Below.trod lay (by kernel_rfl) (of_decide_eq_true (by kernel_rfl)) h0 bel g0
  obtain ⟨y0, c0, rfl, e0⟩ := X41 (hval 0 40 v0 rfl rfl) h0 (Q6y hsz (j := 0) (t := 40) rfl rfl)
  have g1 : ∀ x ∈ p1, x.block < W.heap.size := fun x hx => hlt x (by simp [hx])
  have k1 := fun (W' : World) (bel : Below W.heap.size W W') => Below.trod lay (by kernel_rfl) (of_decide_eq_true (by kernel_rfl)) h1 bel g1
  obtain ⟨y1, c1, rfl, e1⟩ := X3V (hval 1 42 v1 rfl rfl) h1 (Q6y hsz (j := 1) (t := 42) rfl rfl)
  have g2 : ∀ x ∈ p2, x.block < W.heap.size := fun x hx => hlt x (by simp [hx])
  have k2 := fun (W' : World) (bel : Below W.heap.size W W') => Below.trod lay (by kernel_rfl) (of_decide_eq_true (by kernel_rfl)) h2 bel g2
  obtain ⟨y2, z2, c2, f2, rfl, e2, m2⟩ := X2b (hval 2 43 v2 rfl rfl) h2 (Q6y hsz (j := 2) (t := 43) rfl rfl)
  have hc : Q0 Tryz.prog 5 [.agg (List.toArray c0), .agg (List.toArray c1), .agg (List.toArray (c2 ++ f2))] W (fun e w' => e = .bool true ∧ Below W.heap.size W w') := Q55 X0f (X3H hL) e0 e1 e2 m2 (fun w' σ' hb => ⟨rfl, hb.bel⟩)
  refine (Q3E Tryz.func5 (by kernel_rfl) (by kernel_rfl) hc).mono fun e W' he => ?_
  obtain ⟨v, rfl⟩ : ∃ v, e = .returned v := by cases e <;> first | exact ⟨_, rfl⟩ | exact he.elim
  obtain ⟨rfl, bel⟩ := he
  exact ⟨_, rfl, _, _, _, [], _, [], hW', trodAll_mk1 (shut_bool Tryz.underlying4 _), (trodAll_cons_mk (k0 W' bel) (trodAll_cons_mk (k1 W' bel) (trodAll_cons_mk (k2 W' bel) trodAll_mk0))), rfl, bel.frame _, fun h => by cases h⟩
theorem over : Rows.stepHeightsRow.holds Tryz.pinned (OpenSpec.ofChange Rows.stepHeightsSpec) :=
  OpenClaim.holds_of_wide 5 Tryz.f5 rfl rfl rfl rfl rfl rfl rfl ⟨rfl, rfl, rfl, rfl, rfl⟩ rfl rfl rfl rfl rfl (by kernel_rfl) Tryz.func5 (by kernel_rfl)
    (of_decide_eq_true (by kernel_rfl)) (by unfold Func.isWrapper; first | (rw [if_pos (by decide +kernel)]; kernel_rfl) | (rw [if_neg (by decide +kernel)]; exact ⟨rfl, rfl⟩))
    (fun os started H enc _ => X3Y os started H enc)
end Go.Proofs.YtfppjenblllfaaaGreatDoor.stepHeights
namespace Go.Proofs.YtfppjenblllfaaaGreatDoor
theorem Q1s : Rows.StepHeightsSaid := stepHeights.over
end Go.Proofs.YtfppjenblllfaaaGreatDoor
