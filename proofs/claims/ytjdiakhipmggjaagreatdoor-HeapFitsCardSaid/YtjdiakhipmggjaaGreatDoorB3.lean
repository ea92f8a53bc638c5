/- Parts of a proof about the given program: its functions as texts of their own, what each computes, plain laws of that. The conditions of each stand in its statement. -/
import Derived.Test.YtjdiakhipmggjaaGreatDoorB2
import Derived.ChangeArms
import Derived.DataReads
import Derived.SizedLaws
import Derived.Deep.AppendSrc
import Derived.Laws.StructEq
import Derived.Test.YtjdiakhipmggjaaGreatDoorB1
set_option linter.unnecessarySimpa false
set_option linter.defProp false
set_option linter.unusedSectionVars false
set_option linter.unusedVariables false
set_option linter.unusedSimpArgs false
namespace Go.Emb
theorem aS {p:Prop} (h:p:=by (first | assumption | exact Stp.sat (by assumption) | exact Hst.sat (by assumption))):p:=h
theorem aL {p:Prop} (h:p:=by (first | assumption | exact Sl.lift (by assumption) (by (repeat (first | exact SLe.refl _ | refine SLe.more ?_ (by assumption) | refine SLe.more ?_ (Nxt.le (by assumption)) | refine SLe.step ?_ (by assumption)))) | exact Z4.lift (by assumption) (by (repeat (first | exact SLe.refl _ | refine SLe.more ?_ (by assumption) | refine SLe.more ?_ (Nxt.le (by assumption)) | refine SLe.step ?_ (by assumption)))) | exact Xh.lift (by assumption) (by (repeat (first | exact SLe.refl _ | refine SLe.more ?_ (by assumption) | refine SLe.more ?_ (Nxt.le (by assumption)) | refine SLe.step ?_ (by assumption)))) | exact RCl_lift (by assumption) (by (repeat (first | exact SLe.refl _ | refine SLe.more ?_ (by assumption) | refine SLe.more ?_ (Nxt.le (by assumption)) | refine SLe.step ?_ (by assumption)))) | exact RMe_lift (by assumption) (by (repeat (first | exact SLe.refl _ | refine SLe.more ?_ (by assumption) | refine SLe.more ?_ (Nxt.le (by assumption)) | refine SLe.step ?_ (by assumption)))) | exact Glb.lift (by assumption) (by (repeat (first | exact SLe.refl _ | refine SLe.more ?_ (by assumption) | refine SLe.more ?_ (Nxt.le (by assumption)) | refine SLe.step ?_ (by assumption)))) | exact Tab.lift (by assumption) (by (repeat (first | exact SLe.refl _ | refine SLe.more ?_ (by assumption) | refine SLe.more ?_ (Nxt.le (by assumption)) | refine SLe.step ?_ (by assumption)))) | exact RIn_any (by assumption) | exact RFd_any (by assumption) | exact RCa_any (by assumption))):p:=h
theorem aR {p:Prop} (h:p:=by with_unfolding_all rfl):p:=h
theorem aF {p:Prop} (a:p:=by (refine Eq.subst (motive:=fun b=>K b _) ?_ (h _ _ (by (repeat (first | exact Stp.refl (by (first | assumption | exact Stp.sat (by assumption) | exact Hst.sat (by assumption))) | assumption | refine Stp.trans ?_ (by first | assumption | exact Hst.stp (by assumption))))));clear h;(try clear hA);(try clear hB);(try clear hC);first | rfl | ((try simp only[Bool.not_eq_true',Bool.not_eq_false',Bool.not_true,Bool.not_false,Bool.not_eq_true] at*);simp only[*,Mb,reduceIte];done) | (simp[*];done) | simp_all)):p:=a
theorem au {p:Prop} (h:p:=by (first | assumption | (first | assumption | exact Stp.sat (by assumption) | exact Hst.sat (by assumption)) | (first | assumption | exact Sl.lift (by assumption) (by (repeat (first | exact SLe.refl _ | refine SLe.more ?_ (by assumption) | refine SLe.more ?_ (Nxt.le (by assumption)) | refine SLe.step ?_ (by assumption)))) | exact Z4.lift (by assumption) (by (repeat (first | exact SLe.refl _ | refine SLe.more ?_ (by assumption) | refine SLe.more ?_ (Nxt.le (by assumption)) | refine SLe.step ?_ (by assumption)))) | exact Xh.lift (by assumption) (by (repeat (first | exact SLe.refl _ | refine SLe.more ?_ (by assumption) | refine SLe.more ?_ (Nxt.le (by assumption)) | refine SLe.step ?_ (by assumption)))) | exact RCl_lift (by assumption) (by (repeat (first | exact SLe.refl _ | refine SLe.more ?_ (by assumption) | refine SLe.more ?_ (Nxt.le (by assumption)) | refine SLe.step ?_ (by assumption)))) | exact RMe_lift (by assumption) (by (repeat (first | exact SLe.refl _ | refine SLe.more ?_ (by assumption) | refine SLe.more ?_ (Nxt.le (by assumption)) | refine SLe.step ?_ (by assumption)))) | exact Glb.lift (by assumption) (by (repeat (first | exact SLe.refl _ | refine SLe.more ?_ (by assumption) | refine SLe.more ?_ (Nxt.le (by assumption)) | refine SLe.step ?_ (by assumption)))) | exact Tab.lift (by assumption) (by (repeat (first | exact SLe.refl _ | refine SLe.more ?_ (by assumption) | refine SLe.more ?_ (Nxt.le (by assumption)) | refine SLe.step ?_ (by assumption)))) | exact RIn_any (by assumption) | exact RFd_any (by assumption) | exact RCa_any (by assumption)) | exact Nat.le_trans (by assumption) (by decide) | omega)):p:=h
end Go.Emb
namespace Go.Proofs.YtjdiakhipmggjaaGreatDoor
open Go.Emb
theorem X49 {a:List UInt8} {cs:List Bool} {r:TypeId} {w:World} {K:Value→World→Prop}:X3 P .len [T.c] r cs [S a] w K=K (I a.length) w:=R4 X8
theorem X3G {d c:Operand} {a b:Bool} {w:World} {K:Value→World→Prop}:Q3 P .eql T.t d c (.bool a) (.bool b) w K=K (.bool (a==b)) w:=Q5i Q32
theorem X3C {d c:Operand} {a b:Bool} {w:World} {K:Value→World→Prop}:Q3 P .neq T.t d c (.bool a) (.bool b) w K=K (.bool (!(a==b))) w:=Q5Z Q32
def Mm:=And.intro @fa <| And.intro @L9 <| And.intro @Qb <| And.intro @X49 <| And.intro @X3G @X3C
def M1:=And.intro Mm Mr
def M2:=And.intro Mm Mp
end Go.Proofs.YtjdiakhipmggjaaGreatDoor

namespace Go.Proofs.YtjdiakhipmggjaaGreatDoor
open Go.Emb Go.RowKit Go.Kd Go.Hm
variable {w : World} {K : Value → World → Prop} {σ : Q6}
def Wk (m:Hm.Met):Bool:=decide (32<m.params.length)||decide (32<m.catches.length)||decide (200<m.code.length)||decide (64<m.locals)
def Zu (c:Cla):Bool:=c.methods.any Wk||decide (32<c.like.length)||decide (32<c.fields.length)||decide (32<c.methods.length)
theorem X3l {c : Cla} {cs : List Value} (hs : X2 w σ) (hc : V0 σ c cs) (h : ∀ w', Below w.heap.size w w' → K (.bool (Zu c)) w') : Q1 P F.cE [.agg cs.toArray] w K := Q6o (by
  obtain ⟨lv, fv, mv, rfl, hl, hf, hm, hn, hsu⟩ := hc
  unfold Q0Y
  refine E3 hs fun a w1 σ1 hk ha => ?_
  have hs := hk.sat
  replace hl := hl.up hk
  replace hf := hf.up hk
  replace hm := hm.up hk
  simp only [Value.cells] at ha
  ((try simp only [↓M1, M1, Mb, reduceIte]); repeat ((first | refine ld (by assumption) (by assumption) rfl ?_ | refine X7 (by assumption) (by assumption) rfl ?_ | refine Q8 (by assumption) ?_); (try simp only [↓M1, M1, Mb, reduceIte])))
  refine U3 c.methods.length (fun n w' => Below w1.heap.size w1 w' ∧ ((c.methods.take n).any Wk) = false) ⟨Below.refl _ _, by simp⟩ fun n w2 d hn hi => ?_
  obtain ⟨hb, hp⟩ := hi
  have hs2 := hs.below hb
  ((try simp only [↓M1, M1, Mb, reduceIte]); repeat ((first | refine ld (by assumption) (by assumption) rfl ?_ | refine X7 (by assumption) (by assumption) rfl ?_ | refine Q8 (by assumption) ?_); (try simp only [↓M1, M1, Mb, reduceIte])))
  refine Q7 (fun hc => ?_) (fun hc => ?_)
  · have hn' : n < c.methods.length := by simpa using hc
    refine M7 hm hn' fun p cs hl1 hlen hr => ?_
    refine Y4 hs2 hl1 hlen ?_
    refine Y8 hs2 (by rfl) hlen (Rep.one hr) fun q w3 σ3 hk3 hq => ?_
    obtain ⟨pv, cv, hv, rfl, g1, g2, g3, g4⟩ := hr
    have hs3 := hk3.sat
    replace g1 := g1.up hk3
    replace g2 := g2.up hk3
    replace g3 := g3.up hk3
    ((try simp only [↓M1, M1, Mb, reduceIte]); repeat ((first | refine ld (by assumption) (by assumption) rfl ?_ | refine X7 (by assumption) (by assumption) rfl ?_ | refine Q8 (by assumption) ?_); (try simp only [↓M1, M1, Mb, reduceIte])))
    (repeat' ((first | refine Z8 (fun hh => ?_) (fun hh => ?_) | refine Q7 (fun hh => ?_) (fun hh => ?_)) <;> (try simp only [hh, Bool.not_true, Bool.not_false, ↓M1, M1, Mb, reduceIte]) <;> ((try simp only [↓M1, M1, Mb, reduceIte]); repeat ((first | refine ld (by assumption) (by assumption) rfl ?_ | refine X7 (by assumption) (by assumption) rfl ?_ | refine Q8 (by assumption) ?_); (try simp only [↓M1, M1, Mb, reduceIte])))))
    all_goals first
      | refine Y5 hm.max hn' ⟨bt hb hk3.bel, ?_⟩
        rw [L3 hn', hp]; simp only [Wk]; (first | (simp only [decide_eq_true_eq, decide_eq_false_iff_not, Bool.not_true, Bool.not_false, Bool.not_eq_true', Bool.not_eq_false', Bool.or_eq_true, Bool.and_eq_true, Bool.or_eq_false_iff, Bool.and_eq_false_iff, Bool.false_or, Bool.true_and, Bool.or_false, Bool.and_true] at *; first | omega | (and_intros <;> omega)) | (rw [Bool.eq_iff_iff]; (simp only [decide_eq_true_eq, decide_eq_false_iff_not, Bool.not_true, Bool.not_false, Bool.not_eq_true', Bool.not_eq_false', Bool.or_eq_true, Bool.and_eq_true, Bool.or_eq_false_iff, Bool.and_eq_false_iff, Bool.false_or, Bool.true_and, Bool.or_false, Bool.and_true] at *; first | omega | (and_intros <;> omega))))
      | have e : Zu c = true := by
          have : Wk c.methods[n] = true := by simp only [Wk]; (first | (simp only [decide_eq_true_eq, decide_eq_false_iff_not, Bool.not_true, Bool.not_false, Bool.not_eq_true', Bool.not_eq_false', Bool.or_eq_true, Bool.and_eq_true, Bool.or_eq_false_iff, Bool.and_eq_false_iff, Bool.false_or, Bool.true_and, Bool.or_false, Bool.and_true] at *; first | omega | (and_intros <;> omega)) | (rw [Bool.eq_iff_iff]; (simp only [decide_eq_true_eq, decide_eq_false_iff_not, Bool.not_true, Bool.not_false, Bool.not_eq_true', Bool.not_eq_false', Bool.or_eq_true, Bool.and_eq_true, Bool.or_eq_false_iff, Bool.and_eq_false_iff, Bool.false_or, Bool.true_and, Bool.or_false, Bool.and_true] at *; first | omega | (and_intros <;> omega))))
          simp [Zu, C0 hn' this]
        rw [← e]; exact h _ (bt hk.bel (bt hb hk3.bel))
  · have hn' : ¬ n < c.methods.length := by simpa using hc
    rw [E0 hn'] at hp
    have h := h w2 (bt hk.bel hb)
    ((try simp only [↓M1, M1, Mb, reduceIte]); repeat ((first | refine ld (by assumption) (by assumption) rfl ?_ | refine X7 (by assumption) (by assumption) rfl ?_ | refine Q8 (by assumption) ?_); (try simp only [↓M1, M1, Mb, reduceIte])))
    (repeat' ((first | refine Z8 (fun hh => ?_) (fun hh => ?_) | refine Q7 (fun hh => ?_) (fun hh => ?_)) <;> (try simp only [hh, Bool.not_true, Bool.not_false, ↓M1, M1, Mb, reduceIte]) <;> ((try simp only [↓M1, M1, Mb, reduceIte]); repeat ((first | refine ld (by assumption) (by assumption) rfl ?_ | refine X7 (by assumption) (by assumption) rfl ?_ | refine Q8 (by assumption) ?_); (try simp only [↓M1, M1, Mb, reduceIte])))))
    all_goals
      refine Eq.subst (motive := fun b => K (.bool b) w2) ?_ h
      simp only [Zu, hp]
      (first | (simp only [decide_eq_true_eq, decide_eq_false_iff_not, Bool.not_true, Bool.not_false, Bool.not_eq_true', Bool.not_eq_false', Bool.or_eq_true, Bool.and_eq_true, Bool.or_eq_false_iff, Bool.and_eq_false_iff, Bool.false_or, Bool.true_and, Bool.or_false, Bool.and_true] at *; first | omega | (and_intros <;> omega)) | (rw [Bool.eq_iff_iff]; (simp only [decide_eq_true_eq, decide_eq_false_iff_not, Bool.not_true, Bool.not_false, Bool.not_eq_true', Bool.not_eq_false', Bool.or_eq_true, Bool.and_eq_true, Bool.or_eq_false_iff, Bool.and_eq_false_iff, Bool.false_or, Bool.true_and, Bool.or_false, Bool.and_true] at *; first | omega | (and_intros <;> omega)))))
end Go.Proofs.YtjdiakhipmggjaaGreatDoor

namespace Go.Emb
open Go.RowKit Go.Hm
variable {H : Type} {enc : TypeId × Value → H} {P : Program} {W : World} {t : TypeId} {cs : List Value} {fuel : Nat} {x : DataW H × List MemPlace}
def Uo (W:World):Q6:=fun b=>W.heap[b]?
theorem Q9N:X2 W (Uo W):=fun b o h=>h
def Wt (P:Program) (t:TypeId) (d:DataW H):Prop:= ∀n∈d.weights P t,n≤reachBytes
theorem X2E {a:Addr} {n:Nat} (h:W.cells? 0 a n=some cs) (C:0<n):cs.length=n∧Z4 (Uo W) a cs:=by
 obtain ⟨_,m,u⟩:=World.cells?_some h
 refine ⟨m,?_⟩
 have key: ∀i v,cs[i]? =some v→ ∃arr e f,W.heap[a.block]? =some (.cells arr e f)∧(a.add i).spot=none∧arr[a.off+i]? =some v:=by
  intro i v g
  have z:i<cs.length:=(List.getElem?_eq_some_iff.1 g).1
  have b:=u i (by omega)
  rw[g] at b
  unfold World.cell? at b
  rw[S7,Qc] at b
  cases k:W.heap[a.block]? with
  | none=>rw[k] at b;cases b
  | some o=>
   rw[k] at b
   cases o with
   | cells arr e f=>
    simp only at b
    split at b
    ·cases b
    ·rename_i w
     exact ⟨arr,e,f,rfl,by simpa using w,b⟩
   | _=>cases b
 cases j:cs with
 | nil=>subst j;simp at m;omega
 | cons c r=>
  obtain ⟨arr,e,f,p,q,D⟩:=key 0 c (by rw[j];rfl)
  refine ⟨by simpa [Addr.add] using q,arr,e,f,p,fun i v g=>?_⟩
  obtain ⟨l,A,s,d,B,y⟩:=key i v (by rw[j];exact g)
  rw[p] at d
  injection d with d
  injection d with d
  subst d
  exact y
theorem Q9C (b:P.underlying t=some .string) (h:DataW.trod enc P W 0 (fun _=>true) true fuel t cs=some x) (a:Wt P t x.1): ∃s:Kd.X0,cs=[S s]∧s.length≤U1:=by
 obtain ⟨⟨⟨s⟩⟩,rfl,rfl,_⟩:=DataW.trod_string b h
 refine ⟨s,rfl,?_⟩
 have:=a s.length (by simp[DataW.weights])
 exact this
theorem Ig (c:P.underlying t=some (.int .i64)) (h:DataW.trod enc P W 0 (fun _=>true) true fuel t cs=some x): ∃n,cs=[I n]∧Yi n:=by
 obtain ⟨n,b,_,a⟩:=DataW.trod_int c h
 refine ⟨n,b,?_⟩
 simp only[Lit.wf,Bool.and_eq_true,decide_eq_true_eq] at a
 exact ⟨a.1,a.2⟩
theorem X1U {α:Type} {Q:Nat→α→Prop}: ∀(n:Nat),(∀i,i<n→ ∃y,Q i y)→ ∃xs:List α,xs.length=n∧ ∀i y,xs[i]? =some y→Q i y:=by
 intro n
 induction n with
 | zero=>intro _;exact ⟨[],rfl,by simp⟩
 | succ n c=>
  intro h
  obtain ⟨xs,e,d⟩:=c fun i b=>h i (by omega)
  obtain ⟨y,f⟩:=h n (by omega)
  refine ⟨xs++[y],by simp[e],fun i z a=>?_⟩
  by_cases b:i<xs.length
  ·rw[List.getElem?_append_left b] at a;exact d i z a
  ·rw[List.getElem?_append_right (by omega)] at a
   have:i-xs.length=0:=by
    have:=(List.getElem?_eq_some_iff.1 a).1
    simp at this;omega
   rw[this] at a
   simp at a
   subst a
   rw[show i=n by omega];exact f
theorem X2Z {e:TypeId} {d:DataW H}: ∀{l:List (DataW H)},d∈l→ ∀n∈d.weights P e,n∈DataW.weightsAll P e l:=by
 intro l
 induction l with
 | nil=>intro h;simp at h
 | cons a r c=>
  intro h n b
  simp only[DataW.weightsAll,List.mem_append]
  rcases List.mem_cons.1 h with rfl | h
  ·exact .inl b
  ·exact .inr (c h n b)
theorem X3B {α:Type} {R:Q6→α→List Value→Prop} {e:TypeId} {sz:Nat} (z:P.underlying t=some (.slice e)) (B:P.cellsOf e=sz) (O:0<sz)
 (r: ∀fuel cs (x:DataW H×List MemPlace),DataW.trod enc P W 0 (fun _=>true) true fuel e cs=some x→Wt P e x.1→ ∃y,R (Uo W) y cs)
 (h:DataW.trod enc P W 0 (fun _=>true) true fuel t cs=some x) (Q:Wt P t x.1): ∃v xs,cs=[v]∧Sl sz R (Uo W) v xs:=by
 rcases DataW.trod_slice z h with ⟨rfl,rfl⟩ | ⟨a,f,s,d,u,n,_,rfl,rfl,_,C,q,w,k,_⟩
 ·exact ⟨_,[],rfl,Sl.nil⟩
 subst B
 have step: ∀i,i<f→ ∃y,∃c,Z4 (Uo W) (a.add (i*P.cellsOf e)) c∧c.length=P.cellsOf e∧R (Uo W) y c:=by
  intro i J
  have A:=k i J
  have l:i<d.length:=by omega
  rw[List.getElem?_eq_getElem l] at A
  obtain ⟨c,L,M⟩:=Option.bind_eq_some_iff.1 A
  obtain ⟨D,p⟩:=X2E L O
  obtain ⟨y,j⟩:=r n c _ M (fun m q=>Q m (by
   simp only[DataW.weights,z,List.mem_cons,List.mem_append]
   exact .inr (.inl (X2Z (List.mem_map.2 ⟨_,List.getElem_mem l,rfl⟩) m q))))
  exact ⟨y,c,p,D,j⟩
 obtain ⟨xs,o,g⟩:=X1U f step
 refine ⟨_,xs,rfl,some a,s,by rw[o],by rw[o];exact C,q,by simp,fun b E=>?_⟩
 cases E
 refine ⟨fun N=>?_,fun i y j=>g i y j⟩
 obtain ⟨y,j⟩: ∃y,xs[0]? =some y:=⟨xs[0],List.getElem?_eq_getElem N⟩
 obtain ⟨c,p,_,_⟩:=g 0 y j
 have:=p.1
 simpa [Addr.add] using this
theorem Q7h: ∀{a:List TypeId} {l:List (DataW H)} {i:Nat} {u:TypeId} {d:DataW H},a[i]? =some u→l[i]? =some d→ ∀n∈d.weights P u,n∈DataW.weightsEach P a l:=
 fun e b n c=>DataW.weights_mem_each e b n c
theorem Li {e:Array Field} (d:P.underlying t=some (.struct e)) (h:DataW.trod enc P W 0 (fun _=>true) true fuel t cs=some x) (s:Wt P t x.1) (i:Nat) {o:Nat} {b:TypeId}
 (q:(e[i]?).map (fun f=>(f.type,f.offset))=some (b,o)) (j:P.cellsOf b=1): ∃n y,DataW.trod enc P W 0 (fun _=>true) true n b ((cs.drop o).take 1)=some y∧Wt P b y.1:=by
 obtain ⟨xs,n,_,rfl,v,l,p⟩:=DataW.trod_struct d h
 obtain ⟨f,a,r⟩:=Option.map_eq_some_iff.1 q
 cases r
 have c:=p i f a
 have g:i<xs.length:=by rw[l];exact (Array.getElem?_eq_some_iff.1 a).1
 rw[List.getElem?_eq_getElem g,j] at c
 refine ⟨n,_,c,fun m k=>s m ?_⟩
 simp only[DataW.weights,d]
 exact Q7h (i:=i) (u:=f.type) (by rw[List.getElem?_map,Array.getElem?_toList,a];rfl) (by rw[List.getElem?_map,List.getElem?_eq_getElem g];rfl) m k
theorem Q9c {a:Array Field} {k:Nat} (d:P.underlying t=some (.struct a)) (c:P.cellsOf t=k) (h:DataW.trod enc P W 0 (fun _=>true) true fuel t cs=some x):cs.length=k:=by
 obtain ⟨_,_,_,_,b,_,_⟩:=DataW.trod_struct d h
 rw[b,c]
theorem X1y {α:Type} {l:List α} (h:l.length=3): ∃a b c,l=[a,b,c]:=by
 match l,h with
 | [a,b,c],_=>exact ⟨a,b,c,rfl⟩
theorem X4f {α:Type} {l:List α} (h:l.length=4): ∃a b c d,l=[a,b,c,d]:=by
 match l,h with
 | [a,b,c,d],_=>exact ⟨a,b,c,d,rfl⟩
theorem X4b {α:Type} {l:List α} (h:l.length=8): ∃a b c d e f g i,l=[a,b,c,d,e,f,g,i]:=by
 match l,h with
 | [a,b,c,d,e,f,g,i],_=>exact ⟨a,b,c,d,e,f,g,i,rfl⟩
end Go.Emb
namespace Go.Proofs.YtjdiakhipmggjaaGreatDoor
open Go.Emb Go.RowKit Go.Kd Go.Hm
variable {H : Type} {enc : TypeId × Value → H} {W : World} {cs : List Value} {fuel : Nat} {x : DataW H × List MemPlace}
theorem Ki:P.cellsOf T.c=1:=by kernel_rfl
theorem X39:P.cellsOf T.t=1:=by kernel_rfl
theorem Q52:P.cellsOf T.e=1:=by kernel_rfl
end Go.Proofs.YtjdiakhipmggjaaGreatDoor

namespace Go.Emb
def J3 {α β:Type} (a:β→α→Bool×β):β→List α→Nat→Option Nat×β
 | s,[],_=>(none,s)
 | s,x::xs,i=>if (a s x).1 then (some i,(a s x).2) else J3 a (a s x).2 xs (i+1)
def L6 (o:Option Nat):Int:=match o with | some i=>i | none=> -1
theorem K6 {α:Type} (p:α→Bool): ∀(xs:List α) (i:Nat),(J3 (fun (_:Unit) x=>(p x,())) () xs i).1=(xs.findIdx? p).map (· +i):=by
 intro xs
 induction xs with
 | nil=>intro i;rfl
 | cons x r ih=>
  intro i
  rw[List.findIdx?_cons]
  simp only[J3]
  cases p x with
  | true=>simp
  | false=>
   simp only[Bool.false_eq_true,if_false]
   rw[ih (i+1),Option.map_map]
   congr 1;funext n;simp only[Function.comp];omega
theorem Dl {α β:Type} (a:β→α→Bool×β) (s:β) (xs:List α) (i:Nat):decide ((0:Int)≤L6 (J3 a s xs i).1)=(J3 a s xs i).1.isSome:=by
 cases (J3 a s xs i).1<;>simp[L6]
end Go.Emb
namespace Go.Proofs.YtjdiakhipmggjaaGreatDoor
open Go.Emb Go.RowKit Go.Kd Go.Hm
variable {w : World} {K : Value → World → Prop} {σ : Q6}
theorem Vq {β:Type} {xs:List Hm.Met} {v f:Value} (a:β→Hm.Met→Bool×β) (j:β) (b:β→World→Prop) (D:Nat→Prop) (l: ∀s w,b s w→X2 w σ) (C:b j w) (t:Sl 7 E4 σ v xs)
 (B: ∀s x cs (w1:World) (K:Value→World→Prop),x∈xs→Kpt D w w1→b s w1→E4 σ x cs→cs.length=7→(∀w',Kpt D w w'→b (a s x).2 w'→K (.bool (a s x).1) w')→Z3 P f [.agg cs.toArray] w1 K)
 (h: ∀w',Kpt D w w'→b (J3 a j xs 0).2 w'→K (I (L6 (J3 a j xs 0).1)) w'):Q1 P F.g [v,f] w K:=Xx (by
 unfold B7
 ((try simp only[↓M1,M1,Mb,reduceIte]);repeat ((first | refine ld (by assumption) (by assumption) rfl ?_ | refine X7 (by assumption) (by assumption) rfl ?_ | refine Q8 (by assumption) ?_);(try simp only[↓M1,M1,Mb,reduceIte])))
 refine U3 xs.length (fun n w'=>Kpt D w w'∧ ∃s,b s w'∧J3 a j xs 0=J3 a s (xs.drop n) n) ⟨Kpt.refl,j,C,rfl⟩ fun n w1 d E k=>?_
 obtain ⟨u,s,k,g⟩:=k
 have r:=l s w1 k
 ((try simp only[↓M1,M1,Mb,reduceIte]);repeat ((first | refine ld (by assumption) (by assumption) rfl ?_ | refine X7 (by assumption) (by assumption) rfl ?_ | refine Q8 (by assumption) ?_);(try simp only[↓M1,M1,Mb,reduceIte])))
 refine Q7 (fun o=>?_) (fun o=>?_)
 ·have c:n<xs.length:=by simpa using o
  refine M7 t c fun p cs z e y=>?_
  refine Y4 r z e ?_
  refine B s xs[n] cs w1 _ (List.getElem_mem c) u k y e fun A i m=>?_
  rw[List.drop_eq_getElem_cons c] at g
  simp only[J3] at g
  refine Q7 (fun q=>?_) (fun q=>?_)
  ·rw[q] at g
   have:=h A i
   rw[g] at this
   exact this m
  ·rw[q] at g
   ((try simp only[↓M1,M1,Mb,reduceIte]);repeat ((first | refine ld (by assumption) (by assumption) rfl ?_ | refine X7 (by assumption) (by assumption) rfl ?_ | refine Q8 (by assumption) ?_);(try simp only[↓M1,M1,Mb,reduceIte])))
   exact Y5 t.max c ⟨i,_,m,by simpa using g⟩
 ·have c: ¬n<xs.length:=by simpa using o
  rw[List.drop_eq_nil_of_le (by omega)] at g
  have:=h w1 u
  rw[g] at this
  exact this k)
theorem Jf {β:Type} {xs:List Hm.Met} {v f:Value} (b:β→Hm.Met→Bool×β) (d:β) (a:β→World→Prop) (D:Nat→Prop) (c: ∀s w,a s w→X2 w σ) (k:a d w) (e:Sl 7 E4 σ v xs)
 (j: ∀s x cs (w1:World) (K:Value→World→Prop),x∈xs→Kpt D w w1→a s w1→E4 σ x cs→cs.length=7→(∀w',Kpt D w w'→a (b s x).2 w'→K (.bool (b s x).1) w')→Z3 P f [.agg cs.toArray] w1 K)
 (h: ∀w',Kpt D w w'→a (J3 b d xs 0).2 w'→K (.bool (J3 b d xs 0).1.isSome) w'):Q1 P F.a [v,f] w K:=Ql (by
 unfold S9
 refine Vq b d a D c k e j fun w1 g i=>?_
 (try simp only[↓M1,M1,Mb,reduceIte])
 rw[Dl]
 exact h w1 g i)
theorem Fb {xs:List Hm.Met} {v f:Value} (p:Hm.Met→Bool) (hs:X2 w σ) (hv:Sl 7 E4 σ v xs)
 (hf: ∀x cs (w1:World) (K:Value→World→Prop),x∈xs→X2 w1 σ→E4 σ x cs→cs.length=7→(∀w',Below w1.heap.size w1 w'→K (.bool (p x)) w')→Z3 P f [.agg cs.toArray] w1 K)
 (h: ∀w',Below w.heap.size w w'→K (I (L6 (xs.findIdx? p))) w'):Q1 P F.g [v,f] w K:=by
 refine Vq (fun (_:Unit) x=>(p x,())) () (fun _ w'=>Below w.heap.size w w') (fun _=>False) (fun _ w' hb=>hs.below hb) (Below.refl _ _) hv (fun s x cs w1 K hx hk hi hr hl hK=>hf x cs w1 K hx (hs.below hi) hr hl fun w' hb=>hK w' (.of_below (bt hi hb)) (bt hi hb)) fun w' hk hi=>?_
 rw[K6]
 simpa using h w' hi
theorem B9 {xs:List Hm.Met} {v f:Value} (p:Hm.Met→Bool) (hs:X2 w σ) (hv:Sl 7 E4 σ v xs)
 (hf: ∀x cs (w1:World) (K:Value→World→Prop),x∈xs→X2 w1 σ→E4 σ x cs→cs.length=7→(∀w',Below w1.heap.size w1 w'→K (.bool (p x)) w')→Z3 P f [.agg cs.toArray] w1 K)
 (h: ∀w',Below w.heap.size w w'→K (.bool (xs.any p)) w'):Q1 P F.a [v,f] w K:=by
 refine Jf (fun (_:Unit) x=>(p x,())) () (fun _ w'=>Below w.heap.size w w') (fun _=>False) (fun _ w' hb=>hs.below hb) (Below.refl _ _) hv (fun s x cs w1 K hx hk hi hr hl hK=>hf x cs w1 K hx (hs.below hi) hr hl fun w' hb=>hK w' (.of_below (bt hi hb)) (bt hi hb)) fun w' hk hi=>?_
 rw[K6]
 simpa using h w' hi
theorem Ln {β:Type} {xs:List Fld} {v f:Value} (a:β→Fld→Bool×β) (j:β) (b:β→World→Prop) (D:Nat→Prop) (l: ∀s w,b s w→X2 w σ) (C:b j w) (t:Sl 3 R8 σ v xs)
 (B: ∀s x cs (w1:World) (K:Value→World→Prop),x∈xs→Kpt D w w1→b s w1→R8 σ x cs→cs.length=3→(∀w',Kpt D w w'→b (a s x).2 w'→K (.bool (a s x).1) w')→Z3 P f [.agg cs.toArray] w1 K)
 (h: ∀w',Kpt D w w'→b (J3 a j xs 0).2 w'→K (I (L6 (J3 a j xs 0).1)) w'):Q1 P F.i [v,f] w K:=Yx (by
 unfold G3
 ((try simp only[↓M1,M1,Mb,reduceIte]);repeat ((first | refine ld (by assumption) (by assumption) rfl ?_ | refine X7 (by assumption) (by assumption) rfl ?_ | refine Q8 (by assumption) ?_);(try simp only[↓M1,M1,Mb,reduceIte])))
 refine U3 xs.length (fun n w'=>Kpt D w w'∧ ∃s,b s w'∧J3 a j xs 0=J3 a s (xs.drop n) n) ⟨Kpt.refl,j,C,rfl⟩ fun n w1 d E k=>?_
 obtain ⟨u,s,k,g⟩:=k
 have r:=l s w1 k
 ((try simp only[↓M1,M1,Mb,reduceIte]);repeat ((first | refine ld (by assumption) (by assumption) rfl ?_ | refine X7 (by assumption) (by assumption) rfl ?_ | refine Q8 (by assumption) ?_);(try simp only[↓M1,M1,Mb,reduceIte])))
 refine Q7 (fun o=>?_) (fun o=>?_)
 ·have c:n<xs.length:=by simpa using o
  refine M7 t c fun p cs z e y=>?_
  refine Y4 r z e ?_
  refine B s xs[n] cs w1 _ (List.getElem_mem c) u k y e fun A i m=>?_
  rw[List.drop_eq_getElem_cons c] at g
  simp only[J3] at g
  refine Q7 (fun q=>?_) (fun q=>?_)
  ·rw[q] at g
   have:=h A i
   rw[g] at this
   exact this m
  ·rw[q] at g
   ((try simp only[↓M1,M1,Mb,reduceIte]);repeat ((first | refine ld (by assumption) (by assumption) rfl ?_ | refine X7 (by assumption) (by assumption) rfl ?_ | refine Q8 (by assumption) ?_);(try simp only[↓M1,M1,Mb,reduceIte])))
   exact Y5 t.max c ⟨i,_,m,by simpa using g⟩
 ·have c: ¬n<xs.length:=by simpa using o
  rw[List.drop_eq_nil_of_le (by omega)] at g
  have:=h w1 u
  rw[g] at this
  exact this k)
theorem Rv {β:Type} {xs:List Fld} {v f:Value} (b:β→Fld→Bool×β) (d:β) (a:β→World→Prop) (D:Nat→Prop) (c: ∀s w,a s w→X2 w σ) (k:a d w) (e:Sl 3 R8 σ v xs)
 (j: ∀s x cs (w1:World) (K:Value→World→Prop),x∈xs→Kpt D w w1→a s w1→R8 σ x cs→cs.length=3→(∀w',Kpt D w w'→a (b s x).2 w'→K (.bool (b s x).1) w')→Z3 P f [.agg cs.toArray] w1 K)
 (h: ∀w',Kpt D w w'→a (J3 b d xs 0).2 w'→K (.bool (J3 b d xs 0).1.isSome) w'):Q1 P F.f [v,f] w K:=Xf (by
 unfold B0
 refine Ln b d a D c k e j fun w1 g i=>?_
 (try simp only[↓M1,M1,Mb,reduceIte])
 rw[Dl]
 exact h w1 g i)
theorem Gh {xs:List Fld} {v f:Value} (p:Fld→Bool) (hs:X2 w σ) (hv:Sl 3 R8 σ v xs)
 (hf: ∀x cs (w1:World) (K:Value→World→Prop),x∈xs→X2 w1 σ→R8 σ x cs→cs.length=3→(∀w',Below w1.heap.size w1 w'→K (.bool (p x)) w')→Z3 P f [.agg cs.toArray] w1 K)
 (h: ∀w',Below w.heap.size w w'→K (I (L6 (xs.findIdx? p))) w'):Q1 P F.i [v,f] w K:=by
 refine Ln (fun (_:Unit) x=>(p x,())) () (fun _ w'=>Below w.heap.size w w') (fun _=>False) (fun _ w' hb=>hs.below hb) (Below.refl _ _) hv (fun s x cs w1 K hx hk hi hr hl hK=>hf x cs w1 K hx (hs.below hi) hr hl fun w' hb=>hK w' (.of_below (bt hi hb)) (bt hi hb)) fun w' hk hi=>?_
 rw[K6]
 simpa using h w' hi
theorem Jo {xs:List Fld} {v f:Value} (p:Fld→Bool) (hs:X2 w σ) (hv:Sl 3 R8 σ v xs)
 (hf: ∀x cs (w1:World) (K:Value→World→Prop),x∈xs→X2 w1 σ→R8 σ x cs→cs.length=3→(∀w',Below w1.heap.size w1 w'→K (.bool (p x)) w')→Z3 P f [.agg cs.toArray] w1 K)
 (h: ∀w',Below w.heap.size w w'→K (.bool (xs.any p)) w'):Q1 P F.f [v,f] w K:=by
 refine Rv (fun (_:Unit) x=>(p x,())) () (fun _ w'=>Below w.heap.size w w') (fun _=>False) (fun _ w' hb=>hs.below hb) (Below.refl _ _) hv (fun s x cs w1 K hx hk hi hr hl hK=>hf x cs w1 K hx (hs.below hi) hr hl fun w' hb=>hK w' (.of_below (bt hi hb)) (bt hi hb)) fun w' hk hi=>?_
 rw[K6]
 simpa using h w' hi
theorem Gm {β:Type} {xs:List Ins} {v f:Value} (a:β→Ins→Bool×β) (j:β) (b:β→World→Prop) (D:Nat→Prop) (l: ∀s w,b s w→X2 w σ) (C:b j w) (t:Sl 3 Qj σ v xs)
 (B: ∀s x cs (w1:World) (K:Value→World→Prop),x∈xs→Kpt D w w1→b s w1→Qj σ x cs→cs.length=3→(∀w',Kpt D w w'→b (a s x).2 w'→K (.bool (a s x).1) w')→Z3 P f [.agg cs.toArray] w1 K)
 (h: ∀w',Kpt D w w'→b (J3 a j xs 0).2 w'→K (I (L6 (J3 a j xs 0).1)) w'):Q1 P F.a5 [v,f] w K:=Yu (by
 unfold G1
 ((try simp only[↓M1,M1,Mb,reduceIte]);repeat ((first | refine ld (by assumption) (by assumption) rfl ?_ | refine X7 (by assumption) (by assumption) rfl ?_ | refine Q8 (by assumption) ?_);(try simp only[↓M1,M1,Mb,reduceIte])))
 refine U3 xs.length (fun n w'=>Kpt D w w'∧ ∃s,b s w'∧J3 a j xs 0=J3 a s (xs.drop n) n) ⟨Kpt.refl,j,C,rfl⟩ fun n w1 d E k=>?_
 obtain ⟨u,s,k,g⟩:=k
 have r:=l s w1 k
 ((try simp only[↓M1,M1,Mb,reduceIte]);repeat ((first | refine ld (by assumption) (by assumption) rfl ?_ | refine X7 (by assumption) (by assumption) rfl ?_ | refine Q8 (by assumption) ?_);(try simp only[↓M1,M1,Mb,reduceIte])))
 refine Q7 (fun o=>?_) (fun o=>?_)
 ·have c:n<xs.length:=by simpa using o
  refine M7 t c fun p cs z e y=>?_
  refine Y4 r z e ?_
  refine B s xs[n] cs w1 _ (List.getElem_mem c) u k y e fun A i m=>?_
  rw[List.drop_eq_getElem_cons c] at g
  simp only[J3] at g
  refine Q7 (fun q=>?_) (fun q=>?_)
  ·rw[q] at g
   have:=h A i
   rw[g] at this
   exact this m
  ·rw[q] at g
   ((try simp only[↓M1,M1,Mb,reduceIte]);repeat ((first | refine ld (by assumption) (by assumption) rfl ?_ | refine X7 (by assumption) (by assumption) rfl ?_ | refine Q8 (by assumption) ?_);(try simp only[↓M1,M1,Mb,reduceIte])))
   exact Y5 t.max c ⟨i,_,m,by simpa using g⟩
 ·have c: ¬n<xs.length:=by simpa using o
  rw[List.drop_eq_nil_of_le (by omega)] at g
  have:=h w1 u
  rw[g] at this
  exact this k)
theorem Co {β:Type} {xs:List Ins} {v f:Value} (b:β→Ins→Bool×β) (d:β) (a:β→World→Prop) (D:Nat→Prop) (c: ∀s w,a s w→X2 w σ) (k:a d w) (e:Sl 3 Qj σ v xs)
 (j: ∀s x cs (w1:World) (K:Value→World→Prop),x∈xs→Kpt D w w1→a s w1→Qj σ x cs→cs.length=3→(∀w',Kpt D w w'→a (b s x).2 w'→K (.bool (b s x).1) w')→Z3 P f [.agg cs.toArray] w1 K)
 (h: ∀w',Kpt D w w'→a (J3 b d xs 0).2 w'→K (.bool (J3 b d xs 0).1.isSome) w'):Q1 P F.l [v,f] w K:=Xe (by
 unfold B2
 refine Gm b d a D c k e j fun w1 g i=>?_
 (try simp only[↓M1,M1,Mb,reduceIte])
 rw[Dl]
 exact h w1 g i)
theorem Si {xs:List Ins} {v f:Value} (p:Ins→Bool) (hs:X2 w σ) (hv:Sl 3 Qj σ v xs)
 (hf: ∀x cs (w1:World) (K:Value→World→Prop),x∈xs→X2 w1 σ→Qj σ x cs→cs.length=3→(∀w',Below w1.heap.size w1 w'→K (.bool (p x)) w')→Z3 P f [.agg cs.toArray] w1 K)
 (h: ∀w',Below w.heap.size w w'→K (.bool (xs.any p)) w'):Q1 P F.l [v,f] w K:=by
 refine Co (fun (_:Unit) x=>(p x,())) () (fun _ w'=>Below w.heap.size w w') (fun _=>False) (fun _ w' hb=>hs.below hb) (Below.refl _ _) hv (fun s x cs w1 K hx hk hi hr hl hK=>hf x cs w1 K hx (hs.below hi) hr hl fun w' hb=>hK w' (.of_below (bt hi hb)) (bt hi hb)) fun w' hk hi=>?_
 rw[K6]
 simpa using h w' hi
theorem Gx {β:Type} {xs:List Cat} {v f:Value} (a:β→Cat→Bool×β) (j:β) (b:β→World→Prop) (D:Nat→Prop) (l: ∀s w,b s w→X2 w σ) (C:b j w) (t:Sl 4 Jj σ v xs)
 (B: ∀s x cs (w1:World) (K:Value→World→Prop),x∈xs→Kpt D w w1→b s w1→Jj σ x cs→cs.length=4→(∀w',Kpt D w w'→b (a s x).2 w'→K (.bool (a s x).1) w')→Z3 P f [.agg cs.toArray] w1 K)
 (h: ∀w',Kpt D w w'→b (J3 a j xs 0).2 w'→K (I (L6 (J3 a j xs 0).1)) w'):Q1 P F.a6 [v,f] w K:=Ym (by
 unfold G4
 ((try simp only[↓M1,M1,Mb,reduceIte]);repeat ((first | refine ld (by assumption) (by assumption) rfl ?_ | refine X7 (by assumption) (by assumption) rfl ?_ | refine Q8 (by assumption) ?_);(try simp only[↓M1,M1,Mb,reduceIte])))
 refine U3 xs.length (fun n w'=>Kpt D w w'∧ ∃s,b s w'∧J3 a j xs 0=J3 a s (xs.drop n) n) ⟨Kpt.refl,j,C,rfl⟩ fun n w1 d E k=>?_
 obtain ⟨u,s,k,g⟩:=k
 have r:=l s w1 k
 ((try simp only[↓M1,M1,Mb,reduceIte]);repeat ((first | refine ld (by assumption) (by assumption) rfl ?_ | refine X7 (by assumption) (by assumption) rfl ?_ | refine Q8 (by assumption) ?_);(try simp only[↓M1,M1,Mb,reduceIte])))
 refine Q7 (fun o=>?_) (fun o=>?_)
 ·have c:n<xs.length:=by simpa using o
  refine M7 t c fun p cs z e y=>?_
  refine Y4 r z e ?_
  refine B s xs[n] cs w1 _ (List.getElem_mem c) u k y e fun A i m=>?_
  rw[List.drop_eq_getElem_cons c] at g
  simp only[J3] at g
  refine Q7 (fun q=>?_) (fun q=>?_)
  ·rw[q] at g
   have:=h A i
   rw[g] at this
   exact this m
  ·rw[q] at g
   ((try simp only[↓M1,M1,Mb,reduceIte]);repeat ((first | refine ld (by assumption) (by assumption) rfl ?_ | refine X7 (by assumption) (by assumption) rfl ?_ | refine Q8 (by assumption) ?_);(try simp only[↓M1,M1,Mb,reduceIte])))
   exact Y5 t.max c ⟨i,_,m,by simpa using g⟩
 ·have c: ¬n<xs.length:=by simpa using o
  rw[List.drop_eq_nil_of_le (by omega)] at g
  have:=h w1 u
  rw[g] at this
  exact this k)
theorem Sg {β:Type} {xs:List Cat} {v f:Value} (b:β→Cat→Bool×β) (d:β) (a:β→World→Prop) (D:Nat→Prop) (c: ∀s w,a s w→X2 w σ) (k:a d w) (e:Sl 4 Jj σ v xs)
 (j: ∀s x cs (w1:World) (K:Value→World→Prop),x∈xs→Kpt D w w1→a s w1→Jj σ x cs→cs.length=4→(∀w',Kpt D w w'→a (b s x).2 w'→K (.bool (b s x).1) w')→Z3 P f [.agg cs.toArray] w1 K)
 (h: ∀w',Kpt D w w'→a (J3 b d xs 0).2 w'→K (.bool (J3 b d xs 0).1.isSome) w'):Q1 P F.m [v,f] w K:=Xd (by
 unfold B1
 refine Gx b d a D c k e j fun w1 g i=>?_
 (try simp only[↓M1,M1,Mb,reduceIte])
 rw[Dl]
 exact h w1 g i)
theorem Ck {xs:List Cat} {v f:Value} (p:Cat→Bool) (hs:X2 w σ) (hv:Sl 4 Jj σ v xs)
 (hf: ∀x cs (w1:World) (K:Value→World→Prop),x∈xs→X2 w1 σ→Jj σ x cs→cs.length=4→(∀w',Below w1.heap.size w1 w'→K (.bool (p x)) w')→Z3 P f [.agg cs.toArray] w1 K)
 (h: ∀w',Below w.heap.size w w'→K (.bool (xs.any p)) w'):Q1 P F.m [v,f] w K:=by
 refine Sg (fun (_:Unit) x=>(p x,())) () (fun _ w'=>Below w.heap.size w w') (fun _=>False) (fun _ w' hb=>hs.below hb) (Below.refl _ _) hv (fun s x cs w1 K hx hk hi hr hl hK=>hf x cs w1 K hx (hs.below hi) hr hl fun w' hb=>hK w' (.of_below (bt hi hb)) (bt hi hb)) fun w' hk hi=>?_
 rw[K6]
 simpa using h w' hi
theorem Gv {β:Type} {xs:List Cla} {v f:Value} (a:β→Cla→Bool×β) (j:β) (b:β→World→Prop) (D:Nat→Prop) (l: ∀s w,b s w→X2 w σ) (C:b j w) (t:Sl 8 V0 σ v xs)
 (B: ∀s x cs (w1:World) (K:Value→World→Prop),x∈xs→Kpt D w w1→b s w1→V0 σ x cs→cs.length=8→(∀w',Kpt D w w'→b (a s x).2 w'→K (.bool (a s x).1) w')→Z3 P f [.agg cs.toArray] w1 K)
 (h: ∀w',Kpt D w w'→b (J3 a j xs 0).2 w'→K (I (L6 (J3 a j xs 0).1)) w'):Q1 P F.o [v,f] w K:=Yq (by
 unfold G8
 ((try simp only[↓M1,M1,Mb,reduceIte]);repeat ((first | refine ld (by assumption) (by assumption) rfl ?_ | refine X7 (by assumption) (by assumption) rfl ?_ | refine Q8 (by assumption) ?_);(try simp only[↓M1,M1,Mb,reduceIte])))
 refine U3 xs.length (fun n w'=>Kpt D w w'∧ ∃s,b s w'∧J3 a j xs 0=J3 a s (xs.drop n) n) ⟨Kpt.refl,j,C,rfl⟩ fun n w1 d E k=>?_
 obtain ⟨u,s,k,g⟩:=k
 have r:=l s w1 k
 ((try simp only[↓M1,M1,Mb,reduceIte]);repeat ((first | refine ld (by assumption) (by assumption) rfl ?_ | refine X7 (by assumption) (by assumption) rfl ?_ | refine Q8 (by assumption) ?_);(try simp only[↓M1,M1,Mb,reduceIte])))
 refine Q7 (fun o=>?_) (fun o=>?_)
 ·have c:n<xs.length:=by simpa using o
  refine M7 t c fun p cs z e y=>?_
  refine Y4 r z e ?_
  refine B s xs[n] cs w1 _ (List.getElem_mem c) u k y e fun A i m=>?_
  rw[List.drop_eq_getElem_cons c] at g
  simp only[J3] at g
  refine Q7 (fun q=>?_) (fun q=>?_)
  ·rw[q] at g
   have:=h A i
   rw[g] at this
   exact this m
  ·rw[q] at g
   ((try simp only[↓M1,M1,Mb,reduceIte]);repeat ((first | refine ld (by assumption) (by assumption) rfl ?_ | refine X7 (by assumption) (by assumption) rfl ?_ | refine Q8 (by assumption) ?_);(try simp only[↓M1,M1,Mb,reduceIte])))
   exact Y5 t.max c ⟨i,_,m,by simpa using g⟩
 ·have c: ¬n<xs.length:=by simpa using o
  rw[List.drop_eq_nil_of_le (by omega)] at g
  have:=h w1 u
  rw[g] at this
  exact this k)
theorem Fq {xs:List Cla} {v f:Value} (p:Cla→Bool) (hs:X2 w σ) (hv:Sl 8 V0 σ v xs)
 (hf: ∀x cs (w1:World) (K:Value→World→Prop),x∈xs→X2 w1 σ→V0 σ x cs→cs.length=8→(∀w',Below w1.heap.size w1 w'→K (.bool (p x)) w')→Z3 P f [.agg cs.toArray] w1 K)
 (h: ∀w',Below w.heap.size w w'→K (I (L6 (xs.findIdx? p))) w'):Q1 P F.o [v,f] w K:=by
 refine Gv (fun (_:Unit) x=>(p x,())) () (fun _ w'=>Below w.heap.size w w') (fun _=>False) (fun _ w' hb=>hs.below hb) (Below.refl _ _) hv (fun s x cs w1 K hx hk hi hr hl hK=>hf x cs w1 K hx (hs.below hi) hr hl fun w' hb=>hK w' (.of_below (bt hi hb)) (bt hi hb)) fun w' hk hi=>?_
 rw[K6]
 simpa using h w' hi
theorem Q1k {β:Type} {xs:List X0} {v f:Value} (a:β→X0→Bool×β) (i:β) (b:β→World→Prop) (D:Nat→Prop) (l: ∀s w,b s w→X2 w σ) (E:b i w) (t:Sl 1 U6 σ v xs)
 (C: ∀s x (w1:World) (K:Value→World→Prop),x∈xs→Kpt D w w1→b s w1→x.length≤U1→(∀w',Kpt D w w'→b (a s x).2 w'→K (.bool (a s x).1) w')→Z3 P f [S x] w1 K)
 (h: ∀w',Kpt D w w'→b (J3 a i xs 0).2 w'→K (I (L6 (J3 a i xs 0).1)) w'):Q1 P F.v [v,f] w K:=Vk (by
 unfold T0
 ((try simp only[↓M1,M1,Mb,reduceIte]);repeat ((first | refine ld (by assumption) (by assumption) rfl ?_ | refine X7 (by assumption) (by assumption) rfl ?_ | refine Q8 (by assumption) ?_);(try simp only[↓M1,M1,Mb,reduceIte])))
 refine U3 xs.length (fun n w'=>Kpt D w w'∧ ∃s,b s w'∧J3 a i xs 0=J3 a s (xs.drop n) n) ⟨Kpt.refl,i,E,rfl⟩ fun n w1 d H j=>?_
 obtain ⟨y,s,j,e⟩:=j
 have r:=l s w1 j
 ((try simp only[↓M1,M1,Mb,reduceIte]);repeat ((first | refine ld (by assumption) (by assumption) rfl ?_ | refine X7 (by assumption) (by assumption) rfl ?_ | refine Q8 (by assumption) ?_);(try simp only[↓M1,M1,Mb,reduceIte])))
 refine Q7 (fun o=>?_) (fun o=>?_)
 ·have c:n<xs.length:=by simpa using o
  refine M7 t c fun p cs A u z=>?_
  obtain ⟨rfl,k⟩:=z
  refine X7 r A rfl ?_
  refine C s xs[n] w1 _ (List.getElem_mem c) y j k fun B g m=>?_
  rw[List.drop_eq_getElem_cons c] at e
  simp only[J3] at e
  refine Q7 (fun q=>?_) (fun q=>?_)
  ·rw[q] at e
   have:=h B g
   rw[e] at this
   exact this m
  ·rw[q] at e
   ((try simp only[↓M1,M1,Mb,reduceIte]);repeat ((first | refine ld (by assumption) (by assumption) rfl ?_ | refine X7 (by assumption) (by assumption) rfl ?_ | refine Q8 (by assumption) ?_);(try simp only[↓M1,M1,Mb,reduceIte])))
   exact Y5 t.max c ⟨g,_,m,by simpa using e⟩
 ·have c: ¬n<xs.length:=by simpa using o
  rw[List.drop_eq_nil_of_le (by omega)] at e
  have:=h w1 y
  rw[e] at this
  exact this j)
theorem Q10 {xs:List X0} {v f:Value} (p:X0→Bool) (hs:X2 w σ) (hv:Sl 1 U6 σ v xs)
 (hf: ∀x (w1:World) (K:Value→World→Prop),x∈xs→X2 w1 σ→x.length≤U1→(∀w',Below w1.heap.size w1 w'→K (.bool (p x)) w')→Z3 P f [S x] w1 K)
 (h: ∀w',Below w.heap.size w w'→K (I (L6 (xs.findIdx? p))) w'):Q1 P F.v [v,f] w K:=by
 refine Q1k (fun (_:Unit) x=>(p x,())) () (fun _ w'=>Below w.heap.size w w') (fun _=>False) (fun _ w' hb=>hs.below hb) (Below.refl _ _) hv (fun s x w1 K hx hk hi hr hK=>hf x w1 K hx (hs.below hi) hr fun w' hb=>hK w' (.of_below (bt hi hb)) (bt hi hb)) fun w' hk hi=>?_
 rw[K6]
 simpa using h w' hi
theorem Q5e {α:Type} (p:α→Bool) (xs:List α):decide ((0:Int)≤L6 (xs.findIdx? p))=xs.any p:=by
 rw[Bool.eq_iff_iff,List.any_eq_true]
 simp only[decide_eq_true_eq]
 cases h:xs.findIdx? p with
 | none=>
  simp only[L6]
  constructor
  ·intro h;omega
  ·rintro ⟨x,c,a⟩;have:=List.findIdx?_eq_none_iff.1 h x c;rw[a] at this;cases this
 | some i=>
  simp only[L6]
  obtain ⟨b,a,_⟩:=List.findIdx?_eq_some_iff_getElem.1 h
  exact ⟨fun _=>⟨xs[i],List.getElem_mem b,a⟩,fun _=>by omega⟩
theorem P6 {xs:List X0} {v f:Value} (p:X0→Bool) (b:X2 w σ) (c:Sl 1 U6 σ v xs)
 (d: ∀x (w1:World) (K:Value→World→Prop),x∈xs→X2 w1 σ→x.length≤U1→(∀w',Below w1.heap.size w1 w'→K (.bool (p x)) w')→Z3 P f [S x] w1 K)
 (h: ∀w',Below w.heap.size w w'→K (.bool (xs.any p)) w'):Q1 P F.c [v,f] w K:=Jg (by
 unfold K1
 refine Q10 p b c d fun w1 a=>?_
 (try simp only[↓M1,M1,Mb,reduceIte])
 rw[Q5e]
 exact h w1 a)
theorem Q3I {xs:List X0} {v:Value} {x:X0} (q:X2 w σ) (f:Sl 1 U6 σ v xs)
 (h:K (I (L6 (xs.findIdx? fun y=>decide (x=y)))) w):Q1 P F.av [v,S x] w K:=Me (by
 unfold Qk
 ((try simp only[↓M1,M1,Mb,reduceIte]);repeat ((first | refine ld (by assumption) (by assumption) rfl ?_ | refine X7 (by assumption) (by assumption) rfl ?_ | refine Q8 (by assumption) ?_);(try simp only[↓M1,M1,Mb,reduceIte])))
 refine U3 xs.length (fun n w'=>w=w'∧(xs.take n).any (fun y=>decide (x=y))=false) ⟨rfl,rfl⟩ fun n w1 d r b=>?_
 obtain ⟨rfl,b⟩:=b
 ((try simp only[↓M1,M1,Mb,reduceIte]);repeat ((first | refine ld (by assumption) (by assumption) rfl ?_ | refine X7 (by assumption) (by assumption) rfl ?_ | refine Q8 (by assumption) ?_);(try simp only[↓M1,M1,Mb,reduceIte])))
 refine Q7 (fun c=>?_) (fun c=>?_)
 ·have a:n<xs.length:=by simpa using c
  refine M7 f a fun p cs o g k=>?_
  obtain ⟨rfl,i⟩:=k
  ((try simp only[↓M1,M1,Mb,reduceIte]);repeat ((first | refine ld (by assumption) (by assumption) rfl ?_ | refine X7 (by assumption) (by assumption) rfl ?_ | refine Q8 (by assumption) ?_);(try simp only[↓M1,M1,Mb,reduceIte])))
  refine Q7 (fun e=>?_) (fun e=>?_)
  ·have:xs.findIdx? (fun y=>decide (x=y))=some n:=by
    rw[List.findIdx?_eq_some_iff_getElem]
    refine ⟨a,e,fun j m=>?_⟩
    have:=List.any_eq_false.1 b (xs[j]) (List.mem_take_iff_getElem.2 ⟨j,by omega,rfl⟩)
    exact this
   rw[this] at h;exact h
  ·((try simp only[↓M1,M1,Mb,reduceIte]);repeat ((first | refine ld (by assumption) (by assumption) rfl ?_ | refine X7 (by assumption) (by assumption) rfl ?_ | refine Q8 (by assumption) ?_);(try simp only[↓M1,M1,Mb,reduceIte])))
   exact Y5 f.max a ⟨rfl,by rw[L3 a,b,e];rfl⟩
 ·have a: ¬n<xs.length:=by simpa using c
  rw[E0 a] at b
  have:xs.findIdx? (fun y=>decide (x=y))=none:=by
   rw[List.findIdx?_eq_none_iff];intro y l;simpa using List.any_eq_false.1 b y l
  rw[this] at h;exact h)
theorem Q1Z {xs:List X0} {v:Value} {x:X0} (a:X2 w σ) (b:Sl 1 U6 σ v xs)
 (h:K (.bool (xs.any fun y=>decide (x=y))) w):Q1 P F.ag [v,S x] w K:=Vr (by
 unfold T4
 refine Q3I a b ?_
 (try simp only[↓M1,M1,Mb,reduceIte])
 rw[Q5e]
 exact h)
end Go.Proofs.YtjdiakhipmggjaaGreatDoor

namespace Go.Emb
abbrev Q6.Le (σ σ':Q6):Prop:= ∀b o,σ b=some o→σ' b=some o
def C8 {α:Type} (f:α→List UInt8):List α→List α→Bool
 | _,[]=>true
 | seen,x::r=> !(seen.any fun y=>decide (f y=f x))&&C8 f (seen++[x]) r
theorem Vm {α:Type} (p:α→Bool) (xs:List α):(!xs.any fun x=> !p x)=xs.all p:=by
 rw[List.all_eq_not_any_not]
end Go.Emb
namespace Go.Proofs.YtjdiakhipmggjaaGreatDoor
open Go.Emb Go.RowKit Go.Kd Go.Hm
variable {w : World} {K : Value → World → Prop} {σ : Q6}
theorem Q0g {xs:List Hm.Met} {v:Value} {fn:Fn} {l d:Array Value} (p:Hm.Met→Bool) (z:X2 w σ) (q:Sl 7 E4 σ v xs)
 (A: ∀(σ1:Q6) x cs (w1:World) (K:Value→World→Prop),σ.Le σ1→x∈xs→X2 w1 σ1→E4 σ1 x cs→cs.length=7→(∀w',Below w1.heap.size w1 w'→K (.bool (p x)) w')→Z3 P (.func fn l d) [.agg cs.toArray] w1 K)
 (h: ∀w',Below w.heap.size w w'→K (.bool (xs.all p)) w'):Q1 P F.ao [v, .func fn l d] w K:=Sk (by
 unfold Jq
 refine E3 z fun a w1 σ1 f m=>?_
 simp only[Value.cells] at m
 ((try simp only[↓M1,M1,Mb,reduceIte]);repeat ((first | refine ld (by assumption) (by assumption) rfl ?_ | refine X7 (by assumption) (by assumption) rfl ?_ | refine Q8 (by assumption) ?_);(try simp only[↓M1,M1,Mb,reduceIte])))
 refine B9 (fun x=> !p x) f.sat (q.up f) (fun x cs n K C g r k B=>?_) fun n u=>?_
 ·refine Z7 (Hh ?_)
  unfold Za
  refine E3 g fun b t s c i=>?_
  refine X7 c.sat (m.up c) rfl ?_
  refine Y4 c.sat i k ?_
  refine A s x _ t _ (fun b o e=>c.le b o (f.le b o e)) C c.sat (Rep.up c.le r) k fun y j=>?_
  (try simp only[↓M1,M1,Mb,reduceIte])
  exact B y (bt c.bel j)
 ·(try simp only[↓M1,M1,Mb,reduceIte])
  rw[Vm]
  exact h n (bt f.bel u))
theorem Q1T {xs:List Fld} {v:Value} {fn:Fn} {l d:Array Value} (p:Fld→Bool) (z:X2 w σ) (q:Sl 3 R8 σ v xs)
 (A: ∀(σ1:Q6) x cs (w1:World) (K:Value→World→Prop),σ.Le σ1→x∈xs→X2 w1 σ1→R8 σ1 x cs→cs.length=3→(∀w',Below w1.heap.size w1 w'→K (.bool (p x)) w')→Z3 P (.func fn l d) [.agg cs.toArray] w1 K)
 (h: ∀w',Below w.heap.size w w'→K (.bool (xs.all p)) w'):Q1 P F.au [v, .func fn l d] w K:=Ct (by
 unfold Va
 refine E3 z fun a w1 σ1 f m=>?_
 simp only[Value.cells] at m
 ((try simp only[↓M1,M1,Mb,reduceIte]);repeat ((first | refine ld (by assumption) (by assumption) rfl ?_ | refine X7 (by assumption) (by assumption) rfl ?_ | refine Q8 (by assumption) ?_);(try simp only[↓M1,M1,Mb,reduceIte])))
 refine Jo (fun x=> !p x) f.sat (q.up f) (fun x cs n K C g r k B=>?_) fun n u=>?_
 ·refine Z7 (Hy ?_)
  unfold Zy
  refine E3 g fun b t s c i=>?_
  refine X7 c.sat (m.up c) rfl ?_
  refine Y4 c.sat i k ?_
  refine A s x _ t _ (fun b o e=>c.le b o (f.le b o e)) C c.sat (Rep.up c.le r) k fun y j=>?_
  (try simp only[↓M1,M1,Mb,reduceIte])
  exact B y (bt c.bel j)
 ·(try simp only[↓M1,M1,Mb,reduceIte])
  rw[Vm]
  exact h n (bt f.bel u))
theorem Q1V {xs:List Ins} {v:Value} {fn:Fn} {l d:Array Value} (p:Ins→Bool) (z:X2 w σ) (q:Sl 3 Qj σ v xs)
 (A: ∀(σ1:Q6) x cs (w1:World) (K:Value→World→Prop),σ.Le σ1→x∈xs→X2 w1 σ1→Qj σ1 x cs→cs.length=3→(∀w',Below w1.heap.size w1 w'→K (.bool (p x)) w')→Z3 P (.func fn l d) [.agg cs.toArray] w1 K)
 (h: ∀w',Below w.heap.size w w'→K (.bool (xs.all p)) w'):Q1 P F.aw [v, .func fn l d] w K:=Cs (by
 unfold Vd
 refine E3 z fun a w1 σ1 f m=>?_
 simp only[Value.cells] at m
 ((try simp only[↓M1,M1,Mb,reduceIte]);repeat ((first | refine ld (by assumption) (by assumption) rfl ?_ | refine X7 (by assumption) (by assumption) rfl ?_ | refine Q8 (by assumption) ?_);(try simp only[↓M1,M1,Mb,reduceIte])))
 refine Si (fun x=> !p x) f.sat (q.up f) (fun x cs n K C g r k B=>?_) fun n u=>?_
 ·refine Z7 (Hz ?_)
  unfold Jc
  refine E3 g fun b t s c i=>?_
  refine X7 c.sat (m.up c) rfl ?_
  refine Y4 c.sat i k ?_
  refine A s x _ t _ (fun b o e=>c.le b o (f.le b o e)) C c.sat (Rep.up c.le r) k fun y j=>?_
  (try simp only[↓M1,M1,Mb,reduceIte])
  exact B y (bt c.bel j)
 ·(try simp only[↓M1,M1,Mb,reduceIte])
  rw[Vm]
  exact h n (bt f.bel u))
theorem Q21 {xs:List Cat} {v:Value} {fn:Fn} {l d:Array Value} (p:Cat→Bool) (z:X2 w σ) (q:Sl 4 Jj σ v xs)
 (A: ∀(σ1:Q6) x cs (w1:World) (K:Value→World→Prop),σ.Le σ1→x∈xs→X2 w1 σ1→Jj σ1 x cs→cs.length=4→(∀w',Below w1.heap.size w1 w'→K (.bool (p x)) w')→Z3 P (.func fn l d) [.agg cs.toArray] w1 K)
 (h: ∀w',Below w.heap.size w w'→K (.bool (xs.all p)) w'):Q1 P F.ax [v, .func fn l d] w K:=Cu (by
 unfold Uy
 refine E3 z fun a w1 σ1 f m=>?_
 simp only[Value.cells] at m
 ((try simp only[↓M1,M1,Mb,reduceIte]);repeat ((first | refine ld (by assumption) (by assumption) rfl ?_ | refine X7 (by assumption) (by assumption) rfl ?_ | refine Q8 (by assumption) ?_);(try simp only[↓M1,M1,Mb,reduceIte])))
 refine Ck (fun x=> !p x) f.sat (q.up f) (fun x cs n K C g r k B=>?_) fun n u=>?_
 ·refine Z7 (Rd ?_)
  unfold Zz
  refine E3 g fun b t s c i=>?_
  refine X7 c.sat (m.up c) rfl ?_
  refine Y4 c.sat i k ?_
  refine A s x _ t _ (fun b o e=>c.le b o (f.le b o e)) C c.sat (Rep.up c.le r) k fun y j=>?_
  (try simp only[↓M1,M1,Mb,reduceIte])
  exact B y (bt c.bel j)
 ·(try simp only[↓M1,M1,Mb,reduceIte])
  rw[Vm]
  exact h n (bt f.bel u))
theorem Gf {xs:List X0} {v:Value} {fn:Fn} {g c:Array Value} (p:X0→Bool) (n:X2 w σ) (j:Sl 1 U6 σ v xs)
 (o: ∀(σ1:Q6) x (w1:World) (K:Value→World→Prop),σ.Le σ1→x∈xs→X2 w1 σ1→x.length≤U1→(∀w',Below w1.heap.size w1 w'→K (.bool (p x)) w')→Z3 P (.func fn g c) [S x] w1 K)
 (h: ∀w',Below w.heap.size w w'→K (.bool (xs.all p)) w'):Q1 P F.a9 [v, .func fn g c] w K:=Iw (by
 unfold Nn
 refine E3 n fun a w1 σ1 d i=>?_
 simp only[Value.cells] at i
 ((try simp only[↓M1,M1,Mb,reduceIte]);repeat ((first | refine ld (by assumption) (by assumption) rfl ?_ | refine X7 (by assumption) (by assumption) rfl ?_ | refine Q8 (by assumption) ?_);(try simp only[↓M1,M1,Mb,reduceIte])))
 refine P6 (fun x=> !p x) d.sat (j.up d) (fun x f K r b k q=>?_) fun f l=>?_
 ·refine Z7 (Bw ?_)
  unfold Vx
  refine X7 b i rfl ?_
  refine o σ1 x f _ d.le r b k fun m e=>?_
  (try simp only[↓M1,M1,Mb,reduceIte])
  exact q m e
 ·(try simp only[↓M1,M1,Mb,reduceIte])
  rw[Vm]
  exact h f (bt d.bel l))
theorem Q1S {xs:List Hm.Met} {v:Value} {fn:Fn} {E l:Array Value} (f:Hm.Met→X0) (hs:X2 w σ) (u:Sl 7 E4 σ v xs)
 (Z: ∀(σ1:Q6) x cs (w1:World) (K:Value→World→Prop),σ.Le σ1→X2 w1 σ1→E4 σ1 x cs→cs.length=7→(∀w',Below w1.heap.size w1 w'→K (S (f x)) w')→Z3 P (.func fn E l) [.agg cs.toArray] w1 K)
 (h: ∀w',Below w.heap.size w w'→K (.bool (C8 f [] xs)) w'):Q1 P F.ar [v, .func fn E l] w K:=Cy (by
 unfold Ve
 refine E3 hs fun a w1 σ1 A ha=>?_
 simp only[Value.cells] at ha
 have V:=A.sat
 replace u:=u.up A
 ((try simp only[↓M1,M1,Mb,reduceIte]);repeat ((first | refine ld (by assumption) (by assumption) rfl ?_ | refine X7 (by assumption) (by assumption) rfl ?_ | refine Q8 (by assumption) ?_);(try simp only[↓M1,M1,Mb,reduceIte])))
 refine U3 xs.length (fun n w'=>Below w1.heap.size w1 w'∧C8 f [] xs=C8 f (xs.take n) (xs.drop n)) ⟨Below.refl _ _,rfl⟩ fun n w2 d hn hi=>?_
 obtain ⟨i,r⟩:=hi
 have B:=V.below i
 ((try simp only[↓M1,M1,Mb,reduceIte]);repeat ((first | refine ld (by assumption) (by assumption) rfl ?_ | refine X7 (by assumption) (by assumption) rfl ?_ | refine Q8 (by assumption) ?_);(try simp only[↓M1,M1,Mb,reduceIte])))
 refine Q7 (fun H=>?_) (fun H=>?_)
 ·have k:n<xs.length:=by simpa using H
  rw[List.drop_eq_getElem_cons k] at r
  simp only[C8] at r
  refine M7 u k fun p cs hl g X=>?_
  refine Y4 B hl g ?_
  refine Y8 B (by rfl) g (Rep.one X) fun q w3 σ3 j hq=>?_
  refine Ei (u.up j) none (some (I n)) 0 n (.inl ⟨rfl,rfl⟩) (.inr rfl) (by omega) (by omega) fun v' R=>?_
  ((try simp only[↓M1,M1,Mb,reduceIte]);repeat ((first | refine ld (by assumption) (by assumption) rfl ?_ | refine X7 (by assumption) (by assumption) rfl ?_ | refine Q8 (by assumption) ?_);(try simp only[↓M1,M1,Mb,reduceIte])))
  refine B9 (fun y=>decide (f y=f xs[n])) j.sat R (fun y ys Y K hy M N D hK=>?_) fun Y U=>?_
  ·refine Z7 (Rh ?_)
   unfold Ja
   refine E3 M fun b w5 Q c O=>?_
   have C:=(ha.up j).up c
   have W:=hq.up c
   have s:σ.Le Q:=fun b o e=>c.le b o (j.le b o (A.le b o e))
   refine Dk (Below.refl _ _) ?_
   refine X4 (.func fn E l) (fun w i=>X7 (c.sat.below i) C rfl (X6 rfl)) ?_
   refine X4 (.agg ys.toArray) (fun w i=>Y4 (c.sat.below i) O D (X6 rfl)) ?_
   refine X4 (S (f y)) (fun t t' w i e e'=>by rw[e,e'];exact Z Q y ys w _ s (c.sat.below i) (Rep.up c.le N) D fun w' L=>Q3d L rfl) ?_
   refine X4 (.func fn E l) (fun w i=>X7 (c.sat.below i) C rfl (X6 rfl)) ?_
   refine X4 (.agg cs.toArray) (fun w i=>Y4 (c.sat.below i) W g (X6 rfl)) ?_
   rintro _ _ _ _ _ w6 z rfl rfl rfl rfl rfl
   refine Z Q xs[n] cs w6 _ s (c.sat.below z) (Rep.up (fun b o e=>c.le b o (j.le b o e)) X) g fun w7 J=>?_
   (try simp only[↓M1,M1,Mb,reduceIte])
   exact hK w7 (bt (bt c.bel z) J)
  ·have m:=bt i (bt j.bel U)
   simp only[List.drop_zero,Nat.sub_zero] at*
   refine Q7 (fun hh=>?_) (fun hh=>?_)
   ·rw[hh] at r
    have:=h Y (bt A.bel m)
    rw[r] at this;exact this
   ·rw[hh] at r
    ((try simp only[↓M1,M1,Mb,reduceIte]);repeat ((first | refine ld (by assumption) (by assumption) rfl ?_ | refine X7 (by assumption) (by assumption) rfl ?_ | refine Q8 (by assumption) ?_);(try simp only[↓M1,M1,Mb,reduceIte])))
    refine Y5 u.max k ⟨m,?_⟩
    rw[r,List.take_add_one,List.getElem?_eq_getElem k];rfl
 ·have k: ¬n<xs.length:=by simpa using H
  rw[List.drop_eq_nil_of_le (by omega)] at r
  have:=h w2 (bt A.bel i)
  rw[r] at this;exact this)
theorem Q2y {xs:List Fld} {v:Value} {fn:Fn} {E l:Array Value} (f:Fld→X0) (hs:X2 w σ) (u:Sl 3 R8 σ v xs)
 (Z: ∀(σ1:Q6) x cs (w1:World) (K:Value→World→Prop),σ.Le σ1→X2 w1 σ1→R8 σ1 x cs→cs.length=3→(∀w',Below w1.heap.size w1 w'→K (S (f x)) w')→Z3 P (.func fn E l) [.agg cs.toArray] w1 K)
 (h: ∀w',Below w.heap.size w w'→K (.bool (C8 f [] xs)) w'):Q1 P F.aF [v, .func fn E l] w K:=Bt (by
 unfold Vn
 refine E3 hs fun a w1 σ1 A ha=>?_
 simp only[Value.cells] at ha
 have V:=A.sat
 replace u:=u.up A
 ((try simp only[↓M1,M1,Mb,reduceIte]);repeat ((first | refine ld (by assumption) (by assumption) rfl ?_ | refine X7 (by assumption) (by assumption) rfl ?_ | refine Q8 (by assumption) ?_);(try simp only[↓M1,M1,Mb,reduceIte])))
 refine U3 xs.length (fun n w'=>Below w1.heap.size w1 w'∧C8 f [] xs=C8 f (xs.take n) (xs.drop n)) ⟨Below.refl _ _,rfl⟩ fun n w2 d hn hi=>?_
 obtain ⟨i,r⟩:=hi
 have B:=V.below i
 ((try simp only[↓M1,M1,Mb,reduceIte]);repeat ((first | refine ld (by assumption) (by assumption) rfl ?_ | refine X7 (by assumption) (by assumption) rfl ?_ | refine Q8 (by assumption) ?_);(try simp only[↓M1,M1,Mb,reduceIte])))
 refine Q7 (fun H=>?_) (fun H=>?_)
 ·have k:n<xs.length:=by simpa using H
  rw[List.drop_eq_getElem_cons k] at r
  simp only[C8] at r
  refine M7 u k fun p cs hl g X=>?_
  refine Y4 B hl g ?_
  refine Y8 B (by rfl) g (Rep.one X) fun q w3 σ3 j hq=>?_
  refine Ei (u.up j) none (some (I n)) 0 n (.inl ⟨rfl,rfl⟩) (.inr rfl) (by omega) (by omega) fun v' R=>?_
  ((try simp only[↓M1,M1,Mb,reduceIte]);repeat ((first | refine ld (by assumption) (by assumption) rfl ?_ | refine X7 (by assumption) (by assumption) rfl ?_ | refine Q8 (by assumption) ?_);(try simp only[↓M1,M1,Mb,reduceIte])))
  refine Jo (fun y=>decide (f y=f xs[n])) j.sat R (fun y ys Y K hy M N D hK=>?_) fun Y U=>?_
  ·refine Z7 (Cc ?_)
   unfold Jl
   refine E3 M fun b w5 Q c O=>?_
   have C:=(ha.up j).up c
   have W:=hq.up c
   have s:σ.Le Q:=fun b o e=>c.le b o (j.le b o (A.le b o e))
   refine Dk (Below.refl _ _) ?_
   refine X4 (.func fn E l) (fun w i=>X7 (c.sat.below i) C rfl (X6 rfl)) ?_
   refine X4 (.agg ys.toArray) (fun w i=>Y4 (c.sat.below i) O D (X6 rfl)) ?_
   refine X4 (S (f y)) (fun t t' w i e e'=>by rw[e,e'];exact Z Q y ys w _ s (c.sat.below i) (Rep.up c.le N) D fun w' L=>Q3d L rfl) ?_
   refine X4 (.func fn E l) (fun w i=>X7 (c.sat.below i) C rfl (X6 rfl)) ?_
   refine X4 (.agg cs.toArray) (fun w i=>Y4 (c.sat.below i) W g (X6 rfl)) ?_
   rintro _ _ _ _ _ w6 z rfl rfl rfl rfl rfl
   refine Z Q xs[n] cs w6 _ s (c.sat.below z) (Rep.up (fun b o e=>c.le b o (j.le b o e)) X) g fun w7 J=>?_
   (try simp only[↓M1,M1,Mb,reduceIte])
   exact hK w7 (bt (bt c.bel z) J)
  ·have m:=bt i (bt j.bel U)
   simp only[List.drop_zero,Nat.sub_zero] at*
   refine Q7 (fun hh=>?_) (fun hh=>?_)
   ·rw[hh] at r
    have:=h Y (bt A.bel m)
    rw[r] at this;exact this
   ·rw[hh] at r
    ((try simp only[↓M1,M1,Mb,reduceIte]);repeat ((first | refine ld (by assumption) (by assumption) rfl ?_ | refine X7 (by assumption) (by assumption) rfl ?_ | refine Q8 (by assumption) ?_);(try simp only[↓M1,M1,Mb,reduceIte])))
    refine Y5 u.max k ⟨m,?_⟩
    rw[r,List.take_add_one,List.getElem?_eq_getElem k];rfl
 ·have k: ¬n<xs.length:=by simpa using H
  rw[List.drop_eq_nil_of_le (by omega)] at r
  have:=h w2 (bt A.bel i)
  rw[r] at this;exact this)
theorem Q4V {xs:List X0} {v:Value} {fn:Fn} {D k:Array Value} (f:X0→X0) (hs:X2 w σ) (s:Sl 1 U6 σ v xs)
 (V: ∀(σ1:Q6) x (w1:World) (K:Value→World→Prop),σ.Le σ1→X2 w1 σ1→x.length≤U1→(∀w',Below w1.heap.size w1 w'→K (S (f x)) w')→Z3 P (.func fn D k) [S x] w1 K)
 (h: ∀w',Below w.heap.size w w'→K (.bool (C8 f [] xs)) w'):Q1 P F.aT [v, .func fn D k] w K:=Ar (by
 unfold Oq
 refine E3 hs fun a w1 σ1 z W=>?_
 simp only[Value.cells] at W
 have Q:=z.sat
 replace s:=s.up z
 ((try simp only[↓M1,M1,Mb,reduceIte]);repeat ((first | refine ld (by assumption) (by assumption) rfl ?_ | refine X7 (by assumption) (by assumption) rfl ?_ | refine Q8 (by assumption) ?_);(try simp only[↓M1,M1,Mb,reduceIte])))
 refine U3 xs.length (fun n w'=>Below w1.heap.size w1 w'∧C8 f [] xs=C8 f (xs.take n) (xs.drop n)) ⟨Below.refl _ _,rfl⟩ fun n w2 d hn hi=>?_
 obtain ⟨c,m⟩:=hi
 have A:=Q.below c
 ((try simp only[↓M1,M1,Mb,reduceIte]);repeat ((first | refine ld (by assumption) (by assumption) rfl ?_ | refine X7 (by assumption) (by assumption) rfl ?_ | refine Q8 (by assumption) ?_);(try simp only[↓M1,M1,Mb,reduceIte])))
 refine Q7 (fun E=>?_) (fun E=>?_)
 ·have i:n<xs.length:=by simpa using E
  rw[List.drop_eq_getElem_cons i] at m
  simp only[C8] at m
  refine M7 s i fun p cs Z R Y=>?_
  obtain ⟨rfl,B⟩:=Y
  refine X7 A Z rfl ?_
  refine U9 A (by rfl) rfl rfl fun q w3 L j hq=>?_
  refine Ei (s.up j) none (some (I n)) 0 n (.inl ⟨rfl,rfl⟩) (.inr rfl) (by omega) (by omega) fun v' N=>?_
  ((try simp only[↓M1,M1,Mb,reduceIte]);repeat ((first | refine ld (by assumption) (by assumption) rfl ?_ | refine X7 (by assumption) (by assumption) rfl ?_ | refine Q8 (by assumption) ?_);(try simp only[↓M1,M1,Mb,reduceIte])))
  refine P6 (fun y=>decide (f y=f xs[n])) j.sat N (fun y U K hy g M hK=>?_) fun U O=>?_
  ·refine Z7 (Fv ?_)
   unfold Lm
   have C:=W.up j
   have r:σ.Le L:=fun b o e=>j.le b o (z.le b o e)
   refine Dk (Below.refl _ _) ?_
   refine X4 (.func fn D k) (fun w c=>X7 (g.below c) C rfl (X6 rfl)) ?_
   refine X4 (S (f y)) (fun t w c e=>by rw[e];exact V L y w _ r (g.below c) M fun w' J=>Q3d J rfl) ?_
   refine X4 (.func fn D k) (fun w c=>X7 (g.below c) C rfl (X6 rfl)) ?_
   refine X4 (S xs[n]) (fun w c=>X7 (g.below c) hq rfl (X6 rfl)) ?_
   rintro _ _ _ _ X u rfl rfl rfl rfl
   refine V L xs[n] X _ r (g.below u) B fun w7 H=>?_
   (try simp only[↓M1,M1,Mb,reduceIte])
   exact hK w7 (bt u H)
  ·have l:=bt c (bt j.bel O)
   simp only[List.drop_zero,Nat.sub_zero] at*
   refine Q7 (fun hh=>?_) (fun hh=>?_)
   ·rw[hh] at m
    have:=h U (bt z.bel l)
    rw[m] at this;exact this
   ·rw[hh] at m
    ((try simp only[↓M1,M1,Mb,reduceIte]);repeat ((first | refine ld (by assumption) (by assumption) rfl ?_ | refine X7 (by assumption) (by assumption) rfl ?_ | refine Q8 (by assumption) ?_);(try simp only[↓M1,M1,Mb,reduceIte])))
    refine Y5 s.max i ⟨l,?_⟩
    rw[m,List.take_add_one,List.getElem?_eq_getElem i];rfl
 ·have i: ¬n<xs.length:=by simpa using E
  rw[List.drop_eq_nil_of_le (by omega)] at m
  have:=h w2 (bt z.bel c)
  rw[m] at this;exact this)
theorem Q6W {P:Program} {w:World} (d:Nat) (t e:TypeId) (a:Option Addr) (n c:Nat) (h:P.underlying t=some (.slice e)):
 (Op.equalIn (d+1) t (.slice a n c) (.slice none 0 0)).run P w= .ok a.isNone w:=by
 cases a<;>simp[Op.equalIn,run_underlying h]
theorem Q1B {t e:TypeId} {f i:Operand} [ts:TS P t e] {a:Option Addr} {n c:Nat} {b:Bool} (d:a.isNone=b) (g:K (.bool b) w):Q3 P .eql t f i (.slice a n c) (.slice none 0 0) w K:=by
 have j:(Op.equal t (.slice a n c) (.slice none 0 0)).run P w= .ok b w:=by
  have:=Q6W (P:=P) (w:=w) 9999 t e a n c ts.h
  rw[d] at this
  exact this
 unfold Q3
 rw[X9 (v:= .bool b) (w':=w) (by simp[eqGuard,Go.binOp,j])]
 exact g
theorem Wz {xs:List X0} {v:Value} (g:X2 w σ) (f:Sl 1 U6 σ v xs) (u:xs.length≤1000000)
 (h: ∀i w' b,Stp w σ w' b→Sl 1 U6 b i xs→K i w'):Q1 P F.a7 [v] w K:=Nj (by
 unfold Qp
 have c:=f
 obtain ⟨a,m,rfl,z,A,k,t⟩:=f
 refine Q1B rfl ?_
 refine Q7 (fun e=>?_) (fun e=>?_)
 ·have:a=none:=by simpa using e
  have B:=k this
  have n:xs=[]:=List.eq_nil_of_length_eq_zero (by omega)
  subst n
  exact h _ w σ (Stp.refl g) Sl.nil
 ·refine Zc (R:=U6) (sz:=1) (Stp.refl g) [] [] rfl rfl (by simp) (by rfl) trivial fun y w1 l o _=>?_
  refine app l o c (by rfl) (by simp only[List.length_nil];omega) (by simp only[List.length_nil];omega) fun s r C q d _=>?_
  obtain ⟨b,p,j,_⟩:=d.keep q
  exact h _ r b p j)
theorem Ey {xs:List Fld} {v:Value} (g:X2 w σ) (f:Sl 3 R8 σ v xs) (u:xs.length≤1000000)
 (h: ∀i w' b,Stp w σ w' b→Sl 3 R8 b i xs→K i w'):Q1 P F.ab [v] w K:=Uc (by
 unfold K7
 have c:=f
 obtain ⟨a,m,rfl,z,A,k,t⟩:=f
 refine Q1B rfl ?_
 refine Q7 (fun e=>?_) (fun e=>?_)
 ·have:a=none:=by simpa using e
  have B:=k this
  have n:xs=[]:=List.eq_nil_of_length_eq_zero (by omega)
  subst n
  exact h _ w σ (Stp.refl g) Sl.nil
 ·refine Zc (R:=R8) (sz:=3) (Stp.refl g) [] [] rfl rfl (by simp) (by rfl) trivial fun y w1 l o _=>?_
  refine app l o c (by rfl) (by simp only[List.length_nil];omega) (by simp only[List.length_nil];omega) fun s r C q d _=>?_
  obtain ⟨b,p,j,_⟩:=d.keep q
  exact h _ r b p j)
theorem Ee {xs:List Ins} {v:Value} (g:X2 w σ) (f:Sl 3 Qj σ v xs) (u:xs.length≤1000000)
 (h: ∀i w' b,Stp w σ w' b→Sl 3 Qj b i xs→K i w'):Q1 P F.ac [v] w K:=Ue (by
 unfold K5
 have c:=f
 obtain ⟨a,m,rfl,z,A,k,t⟩:=f
 refine Q1B rfl ?_
 refine Q7 (fun e=>?_) (fun e=>?_)
 ·have:a=none:=by simpa using e
  have B:=k this
  have n:xs=[]:=List.eq_nil_of_length_eq_zero (by omega)
  subst n
  exact h _ w σ (Stp.refl g) Sl.nil
 ·refine Zc (R:=Qj) (sz:=3) (Stp.refl g) [] [] rfl rfl (by simp) (by rfl) trivial fun y w1 l o _=>?_
  refine app l o c (by rfl) (by simp only[List.length_nil];omega) (by simp only[List.length_nil];omega) fun s r C q d _=>?_
  obtain ⟨b,p,j,_⟩:=d.keep q
  exact h _ r b p j)
theorem En {xs:List Cat} {v:Value} (g:X2 w σ) (f:Sl 4 Jj σ v xs) (u:xs.length≤1000000)
 (h: ∀i w' b,Stp w σ w' b→Sl 4 Jj b i xs→K i w'):Q1 P F.ad [v] w K:=Jt (by
 unfold K8
 have c:=f
 obtain ⟨a,m,rfl,z,A,k,t⟩:=f
 refine Q1B rfl ?_
 refine Q7 (fun e=>?_) (fun e=>?_)
 ·have:a=none:=by simpa using e
  have B:=k this
  have n:xs=[]:=List.eq_nil_of_length_eq_zero (by omega)
  subst n
  exact h _ w σ (Stp.refl g) Sl.nil
 ·refine Zc (R:=Jj) (sz:=4) (Stp.refl g) [] [] rfl rfl (by simp) (by rfl) trivial fun y w1 l o _=>?_
  refine app l o c (by rfl) (by simp only[List.length_nil];omega) (by simp only[List.length_nil];omega) fun s r C q d _=>?_
  obtain ⟨b,p,j,_⟩:=d.keep q
  exact h _ r b p j)
end Go.Proofs.YtjdiakhipmggjaaGreatDoor

namespace Go.Hm
open Go.Kd
structure Opr where
  name : X0
  number : Bool
  text : Bool
deriving DecidableEq
def Uh:List Opr:=[
 ⟨[105,110,116],true,false⟩,
 ⟨[116,114,117,101],false,false⟩,
 ⟨[102,97,108,115,101],false,false⟩,
 ⟨[119,111,114,100],false,true⟩,
 ⟨[110,117,108,108],false,false⟩,
 ⟨[108,111,97,100],true,false⟩,
 ⟨[115,116,111,114,101],true,false⟩,
 ⟨[112,111,112],false,false⟩,
 ⟨[100,117,112],false,false⟩,
 ⟨[115,119,97,112],false,false⟩,
 ⟨[97,100,100],false,false⟩,
 ⟨[115,117,98],false,false⟩,
 ⟨[109,117,108],false,false⟩,
 ⟨[100,105,118],false,false⟩,
 ⟨[114,101,109],false,false⟩,
 ⟨[110,101,103],false,false⟩,
 ⟨[108,101,115,115],false,false⟩,
 ⟨[115,97,109,101],false,false⟩,
 ⟨[110,111,116],false,false⟩,
 ⟨[98,111,116,104],false,false⟩,
 ⟨[106,111,105,110],false,false⟩,
 ⟨[115,105,122,101],false,false⟩,
 ⟨[106,117,109,112],true,false⟩,
 ⟨[98,114,97,110,99,104],true,false⟩,
 ⟨[110,101,119],false,true⟩,
 ⟨[103,101,116],false,true⟩,
 ⟨[112,117,116],false,true⟩,
 ⟨[99,97,108,108],false,true⟩,
 ⟨[97,114,114,97,121],false,true⟩,
 ⟨[97,116],false,false⟩,
 ⟨[115,101,116],false,false⟩,
 ⟨[105,115],false,true⟩,
 ⟨[99,97,115,116],false,true⟩,
 ⟨[114,101,116,117,114,110],false,false⟩,
 ⟨[116,104,114,111,119],false,false⟩,
 ⟨[111,117,116],false,false⟩,
 ⟨[101,113,117,97,108],false,false⟩,
 ⟨[97,110,100],false,false⟩,
 ⟨[111,114],false,false⟩,
 ⟨[120,111,114],false,false⟩,
 ⟨[115,104,108],false,false⟩,
 ⟨[115,104,114],false,false⟩]
end Go.Hm
namespace Go.Emb
open Go.Hm
def ROp (_:Q6) (o:Opr) (cs:List Value):Prop:=cs=[S o.name, .bool o.number, .bool o.text]
def cOp (o:Opr):List Value:=[S o.name, .bool o.number, .bool o.text]
instance:Rep ROp:=⟨fun _ h=>h,fun h u hu=>by rw[h] at hu;simp at hu;rcases hu with rfl | rfl | rfl<;>rfl⟩
end Go.Emb
namespace Go.Proofs.YtjdiakhipmggjaaGreatDoor
open Go.Emb Go.RowKit Go.Kd Go.Hm
variable {w : World} {K : Value → World → Prop} {σ : Q6}
theorem Q65 {a:X0} (l:a.length≤U1) (h: ∀w',Below w.heap.size w w'→K (.bool (D2 a)) w'):Q1 P F.bT [S a] w K:=Q3X (by
 unfold Gt
 have b:a.length≤140737488355328:=by simp only[U1] at l;omega
 refine Q5O a b fun w1 f=>?_
 cases d:name a
 ·(try simp only[↓M1,M1,Mb,reduceIte])
  have:=h w1 f
  rwa [show D2 a=false by cases a with | nil=>rfl | cons c r=>simp[D2,d]] at this
 ·(try simp only[↓M1,M1,Mb,reduceIte])
  refine Rq a b fun m k=>?_
  (try simp only[↓M1,M1,Mb,reduceIte])
  have:=h m (bt f k)
  rwa [show D2 a= !M6 a by
   cases a with
   | nil=>simp[name] at d
   | cons c r=>
    obtain ⟨g,j⟩:=Pg d
    simp only[M6,D2,d,Bool.true_and]
    simp only[S6,j,Bool.or_false] at g
    cases i:Xi c.toNat<;>cases e:A8 c.toNat
    ·simp[i,e] at g
    ·rfl
    ·rfl
    ·exfalso
     simp only[Xi,A8,Bool.and_eq_true,decide_eq_true_eq] at i e
     omega] at this)
theorem X2q {t e:TypeId} {n sz b:Nat} {z:Value} [ta:TA P t n e] [tz:TZ P e sz b z] {a:Addr} (d:K (.slice (some a) n n) w):R7 P t (.pointer (some a)) none none none w K:=by
 unfold R7
 have:(Instr.sliceAt t (.pointer (some a)) none none none).run P w= .ok (.slice (some (if n=0 then a else a.add (0*sz))) (n-0) (n-0)) w:=by
  simp[Instr.sliceAt,run_underlying ta.h,Instr.sureAddr,Instr.sliceBounds,L2 tz]
 rw[X9 this]
 have c:(if n=0 then a else a.add (0*sz))=a:=by
  by_cases h:n=0
  ·rw[if_pos h]
  ·rw[if_neg h,Nat.zero_mul,add_zero]
 rw[c];exact d
def Q2M (σ:Q6):Prop:=Z4 σ ⟨G.a,0,none⟩ (Uh.flatMap cOp)
theorem Q7z (i:Nat) (o:Opr) (h:Uh[i]? =some o):((Uh.flatMap cOp).drop (i*3)).take 3=cOp o:=by
 have c:i<42:=(List.getElem?_eq_some_iff.1 h).1
 have key: ∀l:List Opr,∀i o,l[i]? =some o→((l.flatMap cOp).drop (i*3)).take 3=cOp o:=by
  intro l
  induction l with
  | nil=>intro i o h;simp at h
  | cons a r b=>
   intro i o h
   cases i with
   | zero=>simp at h;subst h;rfl
   | succ i=>
    have:=b i o (by simpa using h)
    rw[List.flatMap_cons,show (i+1)*3=(cOp a).length+i*3 by simp[cOp];omega,List.drop_append]
    simpa [List.drop_eq_nil_of_le] using this
 exact key _ i o h
theorem Q3o {σ:Q6} {a:Addr} {cs:List Value} (h:Z4 σ a cs) (i n:Nat):Z4 σ (a.add i) ((cs.drop i).take n):=by
 obtain ⟨g,arr,e,c,d,f⟩:=h
 refine ⟨I8 g _,arr,e,c,by rw[S7];exact d,fun j v b=>?_⟩
 rw[List.getElem?_take] at b
 split at b
 ·rw[List.getElem?_drop] at b
  rw[Qc,Nat.add_assoc];exact f _ _ b
 ·cases b
theorem X2M (h:Q2M σ):Sl 3 ROp σ (.slice (some ⟨G.a,0,none⟩) 42 42) Uh:=by
 refine ⟨_,42,rfl,by decide,by decide,by simp,?_⟩
 rintro _ ⟨⟩
 refine ⟨fun _=>rfl,fun i x a=>⟨cOp x,?_,rfl,rfl⟩⟩
 rw[←Q7z i x a]
 exact Q3o h (i*3) 3
theorem Ag {β:Type} {xs:List Opr} {v f:Value} (a:β→Opr→Bool×β) (j:β) (b:β→World→Prop) (D:Nat→Prop) (l: ∀s w,b s w→X2 w σ) (C:b j w) (t:Sl 3 ROp σ v xs)
 (B: ∀s x cs (w1:World) (K:Value→World→Prop),x∈xs→Kpt D w w1→b s w1→ROp σ x cs→cs.length=3→(∀w',Kpt D w w'→b (a s x).2 w'→K (.bool (a s x).1) w')→Z3 P f [.agg cs.toArray] w1 K)
 (h: ∀w',Kpt D w w'→b (J3 a j xs 0).2 w'→K (I (L6 (J3 a j xs 0).1)) w'):Q1 P F.t [v,f] w K:=Ub (by
 unfold K9
 ((try simp only[↓M1,M1,Mb,reduceIte]);repeat ((first | refine ld (by assumption) (by assumption) rfl ?_ | refine X7 (by assumption) (by assumption) rfl ?_ | refine Q8 (by assumption) ?_);(try simp only[↓M1,M1,Mb,reduceIte])))
 refine U3 xs.length (fun n w'=>Kpt D w w'∧ ∃s,b s w'∧J3 a j xs 0=J3 a s (xs.drop n) n) ⟨Kpt.refl,j,C,rfl⟩ fun n w1 d E k=>?_
 obtain ⟨u,s,k,g⟩:=k
 have r:=l s w1 k
 ((try simp only[↓M1,M1,Mb,reduceIte]);repeat ((first | refine ld (by assumption) (by assumption) rfl ?_ | refine X7 (by assumption) (by assumption) rfl ?_ | refine Q8 (by assumption) ?_);(try simp only[↓M1,M1,Mb,reduceIte])))
 refine Q7 (fun o=>?_) (fun o=>?_)
 ·have c:n<xs.length:=by simpa using o
  refine M7 t c fun p cs z e y=>?_
  refine Y4 r z e ?_
  refine B s xs[n] cs w1 _ (List.getElem_mem c) u k y e fun A i m=>?_
  rw[List.drop_eq_getElem_cons c] at g
  simp only[J3] at g
  refine Q7 (fun q=>?_) (fun q=>?_)
  ·rw[q] at g
   have:=h A i
   rw[g] at this
   exact this m
  ·rw[q] at g
   ((try simp only[↓M1,M1,Mb,reduceIte]);repeat ((first | refine ld (by assumption) (by assumption) rfl ?_ | refine X7 (by assumption) (by assumption) rfl ?_ | refine Q8 (by assumption) ?_);(try simp only[↓M1,M1,Mb,reduceIte])))
   exact Y5 t.max c ⟨i,_,m,by simpa using g⟩
 ·have c: ¬n<xs.length:=by simpa using o
  rw[List.drop_eq_nil_of_le (by omega)] at g
  have:=h w1 u
  rw[g] at this
  exact this k)
theorem Av {xs:List Opr} {v f:Value} (p:Opr→Bool) (hs:X2 w σ) (hv:Sl 3 ROp σ v xs)
 (hf: ∀x cs (w1:World) (K:Value→World→Prop),x∈xs→X2 w1 σ→ROp σ x cs→cs.length=3→(∀w',Below w1.heap.size w1 w'→K (.bool (p x)) w')→Z3 P f [.agg cs.toArray] w1 K)
 (h: ∀w',Below w.heap.size w w'→K (I (L6 (xs.findIdx? p))) w'):Q1 P F.t [v,f] w K:=by
 refine Ag (fun (_:Unit) x=>(p x,())) () (fun _ w'=>Below w.heap.size w w') (fun _=>False) (fun _ w' hb=>hs.below hb) (Below.refl _ _) hv (fun s x cs w1 K hx hk hi hr hl hK=>hf x cs w1 K hx (hs.below hi) hr hl fun w' hb=>hK w' (.of_below (bt hi hb)) (bt hi hb)) fun w' hk hi=>?_
 rw[K6]
 simpa using h w' hi
theorem Q2M.le {σ a:Q6} (h:Q2M σ) (c: ∀b o,σ b=some o→a b=some o):Q2M a:=Z4.le h c
def Qs (n:X0):Option Nat:=Uh.findIdx? fun o=>decide (o.name=n)
theorem X3x {a:X0} (r:X2 w σ) (t:Q2M σ) (h: ∀w',Below w.heap.size w w'→K (I (L6 (Qs a))) w'):Q1 P F.cK [S a] w K:=Q6J (by
 unfold Q2f
 refine E3 r fun p w1 σ1 c f=>?_
 simp only[Value.cells] at f
 refine X2q ?_
 ((try simp only[↓M1,M1,Mb,reduceIte]);repeat ((first | refine ld (by assumption) (by assumption) rfl ?_ | refine X7 (by assumption) (by assumption) rfl ?_ | refine Q8 (by assumption) ?_);(try simp only[↓M1,M1,Mb,reduceIte])))
 refine Av (fun o=>decide (o.name=a)) c.sat (X2M (t.le c.le)) (fun x cs g K y d i u s=>?_) fun g n=>?_
 ·refine Z7 (Q4X ?_)
  unfold Ts
  refine E3 d fun q m v b l=>?_
  have e:cs=[S x.name, .bool x.number, .bool x.text]:=i
  subst e
  have j:=b.sat
  have k:=f.up b
  simp only[Value.cells] at l
  ((try simp only[↓M1,M1,Mb,reduceIte]);repeat ((first | refine ld (by assumption) (by assumption) rfl ?_ | refine X7 (by assumption) (by assumption) rfl ?_ | refine Q8 (by assumption) ?_);(try simp only[↓M1,M1,Mb,reduceIte])))
  exact s m b.bel
 ·(try simp only[↓M1,M1,Mb,reduceIte])
  exact h g (bt c.bel n))
def R9 (n:X0):Bool×Bool×Bool:=match Qs n with
 | none=>(false,false,false)
 | some i=>((Uh.getD i ⟨[],false,false⟩).number,(Uh.getD i ⟨[],false,false⟩).text,true)
theorem X28 {a:X0} (j:X2 w σ) (l:Q2M σ) (h: ∀w',Below w.heap.size w w'→K (.tuple #[.bool (R9 a).1, .bool (R9 a).2.1, .bool (R9 a).2.2]) w'):Q1 P F.cl [S a] w K:=Q5G (by
 unfold Q0p
 refine X3x j l fun w1 b=>?_
 have c:=j.below b
 unfold R9 at h
 cases g:Qs a with
 | none=>
  rw[g] at h
  simp only[L6]
  (try simp only[↓M1,M1,Mb,reduceIte])
  simp only[show decide ((-1:Int)<0)=true from rfl,↓M1,M1,Mb,reduceIte]
  exact h w1 b
 | some i=>
  rw[g] at h
  simp only at h
  have n:i<42:=(List.findIdx?_eq_some_iff_getElem.1 g).1
  have k:Uh[i]? =some (Uh.getD i ⟨[],false,false⟩):=by
   rw[List.getD,List.getElem?_eq_getElem (by exact n)];rfl
  generalize Uh.getD i ⟨[],false,false⟩=o at h k
  have d:=Q3o l (i*3) 3
  rw[Q7z i o k] at d
  simp only[L6]
  have m:decide ((i:Int)<0)=false:=by simp
  simp only[m,↓M1,M1,Mb,reduceIte]
  have A: ∀{w:World} {K:Value→World→Prop},K (.pointer (some ((⟨G.a,0,none⟩:Addr).add (i*3)))) w→indexAddr P T.af (.pointer (some ⟨G.a,0,none⟩)) (I i) w K:=by
   intro w K h
   rw[Q9K (by omega) (by omega)]
   simpa using h
  refine Dk (Below.refl _ _) ?_
  refine X4 (.pointer (some ((⟨G.a,0,none⟩:Addr).add (i*3)))) (fun w b=>A (X6 rfl)) ?_
  refine X4 (.pointer (some (((⟨G.a,0,none⟩:Addr).add (i*3)).add 1))) (fun t w b e=>by rw[e,fa];exact X6 rfl) ?_
  refine X4 (.pointer (some ((⟨G.a,0,none⟩:Addr).add (i*3)))) (fun w b=>A (X6 rfl)) ?_
  refine X4 (.pointer (some (((⟨G.a,0,none⟩:Addr).add (i*3)).add 2))) (fun t w b e=>by rw[e,fa];exact X6 rfl) ?_
  refine X4 (.bool o.number) (fun t w b e=>by rw[e];exact ld (c.below b) d rfl (X6 rfl)) ?_
  refine X4 (.bool o.text) (fun t w b e=>by rw[e];exact ld (c.below b) d rfl (X6 rfl)) ?_
  rintro _ _ _ _ _ _ p f rfl rfl rfl rfl rfl rfl
  exact h p (bt b f))
end Go.Proofs.YtjdiakhipmggjaaGreatDoor

namespace Go.Emb
open Go.RowKit Go.Hm
variable {P : Program} {w w0 w1 w' w'' : World} {K : Value → World → Prop} {σ σ0 σ1 σ' : Q6}
structure SLe (σ σ' : Q6) : Prop where
  le : ∀ b o, σ b = some o → σ' b = some o
theorem SLe.refl (σ:Q6):SLe σ σ:=⟨fun _ _ h=>h⟩
theorem SLe.step {w w':World} (h:SLe σ0 σ) (k:Stp w σ w' σ'):SLe σ0 σ':=⟨fun b o e=>k.le b o (h.le b o e)⟩
theorem SLe.more (h:SLe σ0 σ) (k:SLe σ σ'):SLe σ0 σ':=⟨fun b o e=>k.le b o (h.le b o e)⟩
structure Hst (w : World) (σ : Q6) (w' : World) (σ' : Q6) : Prop where
  stp : Stp w σ w' σ'
theorem Hst.sat (h:Hst w σ w' σ'):X2 w' σ':=h.stp.sat
section lifts
variable {α : Type} {R : Q6 → α → List Value → Prop} {sz : Nat} {v : Value} {xs : List α} {a : Addr} {cs : List Value}
theorem Sl.lift [Rep R] (h:Sl sz R σ0 v xs) (k:SLe σ0 σ):Sl sz R σ v xs:=h.le k.le
theorem Z4.lift (h:Z4 σ0 a cs) (k:SLe σ0 σ):Z4 σ a cs:=h.le k.le
theorem Xh.lift {r:Nat} {m:List (List UInt8×Value)} (h:Xh σ0 r m) (k:SLe σ0 σ):Xh σ r m:=h.le k.le
theorem RMe_lift {x:Hm.Met} (h:E4 σ0 x cs) (k:SLe σ0 σ):E4 σ x cs:=Rep.up k.le h
theorem RCl_lift {x:Cla} (h:V0 σ0 x cs) (k:SLe σ0 σ):V0 σ x cs:=Rep.up k.le h
theorem RFd_any {x:Fld} (h:R8 σ0 x cs):R8 σ x cs:=h
theorem RIn_any {x:Ins} (h:Qj σ0 x cs):Qj σ x cs:=h
theorem RCa_any {x:Cat} (h:Jj σ0 x cs):Jj σ x cs:=h
theorem Y1.step {b:Nat} (h:Y1 σ w b cs) (k:Stp w σ w' σ'):Y1 σ' w' b cs:=h.up k
theorem V6.step [Rep R] {B:Nat} {e:TypeId} (h:V6 B e sz R σ w v xs) (k:Stp w σ w' σ'):V6 B e sz R σ' w' v xs:=h.up k
end lifts
theorem L1 {Q:World→Prop} (d:X2 w σ) (h: ∀w' σ',Stp w σ w' σ'→Q w'): ∀w',Below w.heap.size w w'→Q w':=fun w' c=>h w' σ (Stp.of_below d c)
section plain
variable {k : IntKind} {t : TypeId} {ox oy : Operand} {a b : Int} {x y : Bool} {s u : List UInt8}
theorem O4 (h:K (.int k (k.wrap (a+b))) w):Q3 P .add t ox oy (.int k a) (.int k b) w K:=by rw[Gp];exact h
theorem Xp (c: -9223372036854775808≤a+b∧a+b≤9223372036854775807) (h:K (I (a+b)) w):Q3 P .add t ox oy (I a) (I b) w K:=by rw[Gp,F9 c.1 c.2];exact h
theorem Zg (c: -9223372036854775808≤a-b∧a-b≤9223372036854775807) (h:K (I (a-b)) w):Q3 P .sub t ox oy (I a) (I b) w K:=by rw[Q3W,F9 c.1 c.2];exact h
theorem Z2 (h:K (.bool (decide (a<b))) w):Q3 P .lss t ox oy (.int k a) (.int k b) w K:=by rw[Q44];exact h
theorem Q53 (h:K (.bool (decide (a≤b))) w):Q3 P .leq t ox oy (.int k a) (.int k b) w K:=by rw[Q45];exact h
theorem Pr (h:K (.bool (decide (b<a))) w):Q3 P .gtr t ox oy (.int k a) (.int k b) w K:=by rw[Rn];exact h
theorem P5 (h:K (.bool (decide (b≤a))) w):Q3 P .geq t ox oy (.int k a) (.int k b) w K:=by rw[Q1C];exact h
theorem P3 (h:K (.bool (decide (a=b))) w):Q3 P .eql t ox oy (.int k a) (.int k b) w K:=by rw[Q1z];exact h
theorem Ut (h:K (.bool (!decide (a=b))) w):Q3 P .neq t ox oy (.int k a) (.int k b) w K:=by rw[Q47];exact h
theorem We (h:K (.bool (!x)) w):J9 P .not (.bool x) w K:=by rw[Q3P];exact h
theorem K2 (h:K (.bool (decide (s=u))) w):Q3 P .eql t ox oy (S s) (S u) w K:=by rw[Fc];exact h
theorem Wl (h:K (.bool (!decide (s=u))) w):Q3 P .neq t ox oy (S s) (S u) w K:=by rw[Fo];exact h
theorem Rk (c:s.length+u.length≤9223372036854775807) (h:K (S (s++u)) w):Q3 P .add t ox oy (S s) (S u) w K:=by rw[Q2l c];exact h
theorem Cg {cs:List Bool} {r:TypeId} (c:P.underlying t=some .string) (h:K (I s.length) w):X3 P .len [t] r cs [S s] w K:=by rw[R4 c];exact h
theorem X1T {v u:Value} (h:K v w):pick P (.bool true) v u w K:=by rw[M4];exact h
theorem X2j {v u:Value} (h:K u w):pick P (.bool false) v u w K:=by rw[W9];exact h
theorem L8 {v u:Value} (h:K (if x=true then v else u) w):pick P (.bool x) v u w K:=by rw[Hb];exact h
theorem J6 {vs:List Value} {i:Nat} {v:Value} (c:vs[i]? =some v) (h:K v w):ext P (.tuple vs.toArray) i w K:=by rw[Jz c];exact h
theorem J4 {t e:Prop} (h:t):X1 (.bool true) t e:=by rw[H6];exact h
theorem Z9 {t e:Prop} (h:e):X1 (.bool false) t e:=by rw[M3];exact h
theorem X2L {c:World→(Value→World→Prop)→Prop} (h:c w K):Q0 (.bool true) true w c K:=by rw[W3];exact h
theorem X37 {c:World→(Value→World→Prop)→Prop} (h:c w K):Q0 (.bool false) false w c K:=by rw[W8];exact h
theorem X26 {c:World→(Value→World→Prop)→Prop} (h:K undef w):Q0 (.bool true) false w c K:=by rw[S3];exact h
theorem X1O {c:World→(Value→World→Prop)→Prop} (h:K undef w):Q0 (.bool false) true w c K:=by rw[E1];exact h
end plain
section mem
variable {α : Type} {R : Q6 → α → List Value → Prop} {sz : Nat} {v : Value} {xs : List α} {a : Addr} {cs : List Value}
theorem Y9 {t:TypeId} (c:X2 w σ) (h: ∀a w' σ',Stp w σ w' σ'→Z4 σ' a cs→K (.pointer (some a)) w'):box P t (.agg cs.toArray) w K:=
 E3 c fun a w' σ' d f=>h a w' σ' d (by simpa [Value.cells] using f)
theorem U7 {t:TypeId} (d:X2 w σ) (f:v.cells= #[v]) (h: ∀a w' σ',Stp w σ w' σ'→Z4 σ' a [v]→K (.pointer (some a)) w'):box P t v w K:=
 E3 d fun a w' σ' g c=>h a w' σ' g (by rw[f] at c;exact c)
theorem Wu (h:Sl sz R σ v xs):v.cells= #[v]:=by
 obtain ⟨a,c,rfl,_⟩:=h;rfl
theorem W4 {t:TypeId} {k c:Nat} {d:TypeId} {sz by_:Nat} {z:Value} [tf:TF P t k c d] [tz:TZ P d sz by_ z] [nz:NZ sz] (h:K (.pointer (some (a.add c))) w):fieldAddr P t (.pointer (some a)) k w K:=by
 rw[fa];exact h
theorem J0 {t:TypeId} {k c:Nat} {d:TypeId} [tf:TF P t k c d] [tg:TG P d false] {cs:List Value} {v:Value} (f:cs[c]? =some v) (h:K v w):F4 P t (.agg cs.toArray) k w K:=by
 rw[X24 (v:=v) (by simpa using f)];exact h
end mem
theorem U2 {A:(World→World→Prop)→(World→Prop)→Prop} (d:X2 w σ) (h:A (fun w w'=>Below w.heap.size w w') (fun w'=>Hst w σ w' σ)):dr w A:=
 Im _ _ ⟨Stp.of_below d (Below.refl _ _).drew⟩ (fun _ _ c f=>⟨c.stp.trans (Stp.of_below c.sat f)⟩) h
theorem N0 {α:Type} {R:Q6→α→List Value→Prop} {sz:Nat} {v:Value} {xs:List α} {t:TypeId} (c:X2 w σ) (d:Sl sz R σ v xs) (h: ∀a w' σ',Stp w σ w' σ'→Z4 σ' a [v]→K (.pointer (some a)) w'):box P t v w K:=
 U7 c (Wu d) h
section elems
variable {v : Value} {t e : TypeId} {by_ : Nat} {z : Value} {n : Nat}
theorem Q5w {xs:List Kd.X0} [TS P t e] [TZ P e 1 by_ z] (h:Sl 1 U6 σ v xs) (d:n<xs.length) (f: ∀a,Z4 σ a [S xs[n]]→xs[n].length≤U1→K (.pointer (some a)) w):indexAddr P t v (I n) w K:=
 M7 h d fun a cs i j g=>by obtain ⟨rfl,c⟩:=g;exact f a i c
theorem Q9b {xs:List Fld} [TS P t e] [TZ P e 3 by_ z] (h:Sl 3 R8 σ v xs) (d:n<xs.length) (f: ∀a,Z4 σ a [S xs[n].name,S xs[n].kind, .bool xs[n].tr]→R8 σ xs[n] [S xs[n].name,S xs[n].kind, .bool xs[n].tr]→K (.pointer (some a)) w):indexAddr P t v (I n) w K:=
 M7 h d fun a cs i j g=>by obtain ⟨rfl,c⟩:=g;exact f a i ⟨rfl,c⟩
end elems
end Go.Emb

namespace Go.Hm
open Go.Kd
abbrev Wx:=X0→Option Cla
def Z1 (l:List Cla) (n:X0):Option Nat:=l.findIdx? fun c=>decide (c.name=n)
def lk (l:List Cla):Wx:=fun n=>(Z1 l n).bind (l[·]?)
def U4 (c:Cla):List X0:=c.super::c.like
def U0:X0:=[79,98,106,101,99,116]
def L5:X0:=[70,97,117,108,116]
def H7:X0:=[110,117,108,108]
def O9:X0:=[116,101,120,116]
def Qg:X0:=[119,104,97,116]
def U5:List X0:=[[78,117,108,108,70,97,117,108,116],[73,110,100,101,120,70,97,117,108,116],[67,97,115,116,70,97,117,108,116],[90,101,114,111,70,97,117,108,116],[82,111,111,109,70,97,117,108,116],[67,97,108,108,70,97,117,108,116]]
def I0:List Cla:=[⟨U0,[],[],false,false,false,[],[]⟩,⟨L5,U0,[],false,false,false,[⟨Qg,O9,false⟩],[]⟩]++U5.map fun n=>⟨n,L5,[],false,false,true,[],[]⟩
def Uz (L:Wx):Nat→List X0→List X0→List X0
 | 0,_,a=>a
 | _,[],a=>a
 | f+1,n::b,a=>match L n with
  | none=>Uz L f b a
  | some c=>if n∈a then Uz L f b a else Uz L f (b++U4 c) (a++[n])
def weigh (l:List Cla) (a:List X0):Nat:=(l.map fun c=>if c.name∈a then 0 else (U4 c).length).sum
def F8 (l:List Cla) (n:X0):List X0:=Uz (lk l) (1+weigh l []) [n] []
def Q0O (l:List Cla) (n:X0):Bool:=(Z1 l n).isSome
def N1 (l:List Cla) (s:X0):Bool:=decide (s=H7)||(right s&&(plain (base s).1||Q0O l (base s).1))
def Xr (l:List Cla) (a b:X0):Bool:=
 if !N1 l a|| !N1 l b then false else if a=b then true else if plain a||plain b then false else if a=H7 then true
 else if elem a≠[] then decide (b=U0) else (F8 l a).contains b
def I5 (L:Wx):Nat→X0→List Cla
 | 0,_=>[]
 | f+1,n=>match L n with
  | none=>[]
  | some c=>c::I5 L f c.super
def chain (l:List Cla) (n:X0):List Cla:=I5 (lk l) (l.length+1) n
def Y6 (l:List Cla) (n:X0):List Fld:=(chain l n).reverse.flatMap (·.fields)
def Jw (l:List Cla) (n f:X0):Option Nat:=(Y6 l n).findIdx? fun x=>decide (x.name=f)
def F2 (c:Cla) (n:X0):Option Hm.Met:=c.methods.find? fun m=>decide (m.name=n)
def Rw (L:Wx):Nat→Cla→X0→Option (X0×Hm.Met)
 | 0,_,_=>none
 | f+1,c,n=>c.like.findSome? fun u=>match L u with
  | none=>none
  | some d=>match F2 d n with
   | some m=>some (u,m)
   | none=>Rw L f d n
def V3 (l:List Cla) (k n:X0):Option (X0×Hm.Met):=
 match (chain l k).findSome? fun c=>(F2 c n).map (c.name,·) with
 | some r=>some r
 | none=>(chain l k).findSome? fun c=>Rw (lk l) (l.length+1) c n
def A0 (l:List Cla) (n:X0):Bool:=match lk l n with
 | some c=> !c.abs
 | none=>false
def H8:List X0→X0
 | []=>[]
 | [a]=>a
 | a::b::r=>a++[44]++H8 (b::r)
def Qw (m:Hm.Met):X0:=[40]++H8 m.params++[41]++m.result
def O3 (l:List Cla) (s:X0):Bool:= !decide (s=H7)&&N1 l s
def Yt (l:List Cla) (c:Cla):Bool:=c.fields.any fun f=>(Jw l c.super f.name).isSome
def B8 (l:List Cla) (c:Cla):Bool:=c.fields.any (fun f=> !O3 l f.kind)||c.methods.any fun m=>(!O3 l m.result&& !decide (m.result=[]))||m.params.any fun s=> !O3 l s
def Lf (l:List Cla) (n:X0):List Hm.Met:=(F8 l n).flatMap fun u=>((lk l u).map (·.methods)).getD []
def Md (a:List Hm.Met):Bool:=a.any fun x=>a.any fun y=>decide (x.name=y.name)&& !decide (Qw x=Qw y)
def Zh (l:List Cla) (c:Cla):Bool:=Md (Lf l c.name)
def Zb (l:List Cla) (k n:X0):Bool:=match V3 l k n with
 | none=>true
 | some r=>r.2.abs
def Dj (l:List Cla) (c:Cla):Bool:= !c.abs&&(Lf l c.name).any fun m=>Zb l c.name m.name
def V7 (l:List Cla) (c:Cla):Nat:=if Yt l c then 64 else if B8 l c then 65 else if Zh l c then 66 else if Dj l c then 67 else 0
def Qt (l:List Cla) (n:X0):Bool:=match lk l n with
 | none=>true
 | some d=>d.iface||d.fin
def R5 (l:List Cla) (n:X0):Bool:=match lk l n with
 | none=>true
 | some d=> !d.iface
def O8 (l:List Cla) (c:Cla):Nat:=if Qt l c.super then 61 else if c.like.any (R5 l) then 62 else 0
def P9 (l:List Cla) (c:Cla):Bool:=(U4 c).any fun n=>(F8 l n).contains c.name
def A5 (l:List Cla) (frm:Nat):Nat→List Nat→Nat→List Nat
 | 0,a,_=>a
 | f+1,a,i=>if i<frm then a else if i∈a then a else ((U4 (l.getD i Cla.zero)).foldl (fun a n=>A5 l frm f a ((Z1 l n).getD 0)) a)++[i]
def V8 (l:List Cla) (frm:Nat):List Nat:=((List.range l.length).drop frm).foldl (fun a i=>A5 l frm (l.length+1) a i) []
end Go.Hm

namespace Go.Emb
open Go.RowKit Go.Hm
variable {P : Program} {w w0 w1 w' w'' : World} {K : Value → World → Prop} {σ σ0 σ1 σ' : Q6}
def J8 {α:Type} (B:Nat) (e:TypeId) (sz:Nat) (R:Q6→α→List Value→Prop) (σ:Q6) (w:World) (v:Value) (xs:List α):Prop:=
 ∃a c,v= .slice a xs.length c∧xs.length≤c∧c≤maxLen∧(∀b,a=some b→b.spot=none∧B≤b.block∧b.block<w.heap.size∧σ b.block=none)∧(0<c→ ∃g f d,a=some ⟨g,f,none⟩∧B≤g∧σ g=none∧w.heap[g]? =some (.cells d e (0,0))∧f+c*sz≤d.size∧ ∀i x,xs[i]? =some x→R σ x ((d.toList.drop (f+i*sz)).take sz))
section
variable {α : Type} {R : Q6 → α → List Value → Prop} {B sz : Nat} {e : TypeId} {v u : Value} {xs ys : List α}
theorem J8.of_acc (h:V6 B e sz R σ w v xs):J8 B e sz R σ w v xs:=by
 obtain ⟨cells,p,k,o⟩:=h
 rcases p.2 with ⟨rfl,q⟩ | ⟨g,d,b,rfl,j,m,c,a,r,f⟩
 ·exact ⟨none,0,by rw[q],by omega,by simp,by simp,fun h=>by omega⟩
 ·refine ⟨_,d,rfl,c,a,by rintro _ ⟨⟩;exact ⟨rfl,j,(Array.getElem?_eq_some_iff.1 m).1,k g rfl⟩,fun _=>⟨g,0,b,rfl,j,k g rfl,m,by omega,fun i x l=>?_⟩⟩
  have n:i<xs.length:=(List.getElem?_eq_some_iff.1 l).1
  have hh:i*sz+sz≤xs.length*sz:=by rw[←Nat.succ_mul];exact Nat.mul_le_mul_right _ n
  have:=o i x l
  rw[←f,List.drop_take,List.take_take] at this
  rw[Nat.zero_add]
  rwa [show min sz (xs.length*sz-i*sz)=sz by omega] at this
theorem J8.mem (h:J8 B e sz R σ w v xs) {k:Nat} (c:v.ownBlock=some k):B≤k∧k<w.heap.size∧σ k=none:=by
 obtain ⟨a,d,rfl,i,f,b,g⟩:=h
 cases a with
 | none=>cases c
 | some a=>cases c;exact (b a rfl).2
theorem J8.up [hr:Rep R] (h:J8 B e sz R σ w v xs) (d:Stp w σ w' σ'):J8 B e sz R σ' w' v xs:=by
 obtain ⟨a,l,rfl,y,s,c,t⟩:=h
 refine ⟨a,l,rfl,y,s,fun b f=>⟨(c b f).1,(c b f).2.1,Nat.lt_of_lt_of_le (c b f).2.2.1 d.bel.size,(d.old _ (c b f).2.2.1).trans (c b f).2.2.2⟩,fun p=>?_⟩
 obtain ⟨g,k,j,rfl,A,q,n,o,r⟩:=t p
 have m:=(Array.getElem?_eq_some_iff.1 n).1
 exact ⟨g,k,j,rfl,A,(d.old g m).trans q,(d.bel.block g m).trans n,o,fun i x z=>hr.up d.le (r i x z)⟩
theorem J8.step [hr:Rep R] (h:J8 B e sz R σ w v xs) (a:Stp w σ w' σ'):J8 B e sz R σ' w' v xs:=h.up a
theorem J8.kp {D:Nat→Prop} (h:J8 B e sz R σ w v xs) (n:Kpt D w w') (i: ∀k,v.ownBlock=some k→ ¬D k):J8 B e sz R σ w' v xs:=by
 obtain ⟨a,l,rfl,z,t,c,y⟩:=h
 refine ⟨a,l,rfl,z,t,fun b d=>⟨(c b d).1,(c b d).2.1,Nat.lt_of_lt_of_le (c b d).2.2.1 n.size,(c b d).2.2.2⟩,fun o=>?_⟩
 obtain ⟨g,j,f,rfl,A,p,m,q,r⟩:=y o
 have s:=(Array.getElem?_eq_some_iff.1 m).1
 exact ⟨g,j,f,rfl,A,p,(n.block g s (i g rfl)).trans m,q,r⟩
theorem Q1o {b t:TypeId} {cs:List Bool} [ts:TS P b e] (h:J8 B e sz R σ w v xs) (d:K (I xs.length) w):X3 P .len [b] t cs [v] w K:=by
 obtain ⟨a,c,rfl,_⟩:=h
 rw[Q1r];exact d
theorem Q5p {t:TypeId} {i:Nat} {z:Value} [TS P t e] [TZ P e sz i z] (h:J8 B e sz R σ w v xs) {n:Nat} (p:n<xs.length)
 (m: ∀a cs,(∀j u,cs[j]? =some u→w.cell? (a.add j)=some u)→cs.length=sz→R σ xs[n] cs→K (.pointer (some a)) w):indexAddr P t v (I n) w K:=by
 obtain ⟨a,f,rfl,A,y,q,o⟩:=h
 obtain ⟨g,d,c,rfl,C,s,l,r,k⟩:=o (by omega)
 rw[Sh (by omega) (by omega)]
 have hh:n*sz+sz≤f*sz:=by rw[←Nat.succ_mul];exact Nat.mul_le_mul_right _ (by omega)
 refine m _ ((c.toList.drop (d+n*sz)).take sz) ?_ ?_ (k n _ (by simp[p]))
 ·intro j u b
  rw[List.getElem?_take] at b
  split at b
  ·rw[List.getElem?_drop] at b
   unfold World.cell?
   rw[S7,S7,Qc,Qc,I8 (I8 rfl _)]
   simp only[l]
   simpa using b
  ·cases b
 ·rw[List.length_take,List.length_drop,Array.length_toList];omega
theorem X3S {t:TypeId} {o:Nat} {z:Value} [ts:TS P t e] [tz:TZ P e sz o z] (h:J8 B e sz R σ w v xs) (l:Nat) (M:l≤xs.length)
 (D: ∀k,J8 B e sz R σ w k (xs.drop l)→(k.ownBlock=v.ownBlock∨k.ownBlock=none)→K k w):R7 P t v (some (I l)) none none w K:=by
 obtain ⟨a,c,rfl,E,N,d,p⟩:=h
 have hh: ∀w:World,(Instr.sliceBounds true xs.length c (some (I l)) none none).run P w= .ok (l,xs.length,c) w:=by
  intro w
  have C:(l:Int)≤xs.length:=by omega
  simp[Instr.sliceBounds,Instr.sliceBound,asIntOf,E,C]
  intros;omega
 unfold R7
 have:(Instr.sliceAt t (.slice a xs.length c) (some (I l)) none none).run P w= .ok (.slice (if c=l then a else a.map (·.add (l*sz))) (xs.length-l) (c-l)) w:=by
  simp[Instr.sliceAt,run_underlying ts.h,Instr.slice,hh,L2 tz]
 rw[X9 this]
 refine D _ ⟨_,c-l,by rw[List.length_drop],by rw[List.length_drop];omega,by omega,?_,fun L=>?_⟩ ?_
 ·intro b j
  split at j
  ·exact d b j
  ·cases a with
   | none=>cases j
   | some a=>cases j;exact ⟨I8 (d a rfl).1 _,by rw[S7];exact (d a rfl).2⟩
 ·have y:=p (by omega)
  clear p
  obtain ⟨g,n,m,rfl,H,r,A,J,s⟩:=y
  refine ⟨g,n+l*sz,m,?_,H,r,A,?_,fun i x q=>?_⟩
  ·rw[if_neg (by omega)];simp only[Option.map_some];congr 1;unfold Addr.add;split<;>simp_all
  ·have:l*sz+(c-l)*sz=c*sz:=by rw[←Nat.add_mul];congr 1;omega
   omega
  ·rw[List.getElem?_drop] at q
   have:=s _ _ q
   rwa [Nat.add_mul,←Nat.add_assoc] at this
 ·left
  by_cases f:c=l
  ·rw[if_pos f];cases a<;>rfl
  ·rw[if_neg f]
   cases a with
   | none=>rfl
   | some a=>simp only[Option.map_some,Value.ownBlock,S7]
theorem Q8M {t X:TypeId} {aa:Nat} {z:Value} {cs:List Bool} [ts:TS P t e] [tz:TZ P e sz aa z] [hr:Rep R] (Y:X2 w σ) (hB:B≤w.heap.size) (ha:J8 B e sz R σ w v xs) (H:Sl sz R σ u ys) (hz:(z.cells.size==sz&&decide (0<sz))=true)
 (U:(xs.length+ys.length)*aa≤140737488355328) (hm:xs.length+ys.length≤1000000000000)
 (h: ∀s w',Kpt (fun k=>v.ownBlock=some k∧B≤k∧σ k=none) w w'→X2 w' σ→J8 B e sz R σ w' s (xs++ys)→((∃a m,v= .slice a xs.length m∧s= .slice a (xs.length+ys.length) m)∨(Below w.heap.size w w'∧ ∀k,s.ownBlock=some k→w.heap.size≤k))→K s w'):X3 P .append [t,t] X cs [v,u] w K:=by
 obtain ⟨A,c,rfl,c1,c2,D,c3⟩:=ha
 obtain ⟨a,m,d,rfl,n1,n2,n3,n4,n5⟩:=H.cells Y
 obtain ⟨i,hi,E,ar,M⟩:=tz.info
 simp only[Bool.and_eq_true,beq_iff_eq,decide_eq_true_eq] at hz
 obtain ⟨am,a7⟩:=hz
 have N: ∀s w',(Builtin.append_ #[t,t] X #[.slice A xs.length c, .slice a ys.length m]).run P w= .ok s w'→Kpt (fun k=>(Value.slice A xs.length c).ownBlock=some k∧B≤k∧σ k=none) w w'→J8 B e sz R σ w' s (xs++ys)→((∃a m,(Value.slice A xs.length c)= .slice a xs.length m∧s= .slice a (xs.length+ys.length) m)∨(Below w.heap.size w w'∧ ∀k,s.ownBlock=some k→w.heap.size≤k))→X3 P .append [t,t] X cs [.slice A xs.length c, .slice a ys.length m] w K:=by
  intro s w' C hk hq ap
  have O:(builtin .append #[t,t] X cs.toArray #[.slice A xs.length c, .slice a ys.length m]).run P w= .ok (.value s) w':=by
   simp[builtin,C]
  unfold X3
  rw[A9];unfold T2
  rw[O]
  exact h s w' hk (fun k o ho=>by rw[hk.block k (Y.lt ho) fun e=>by rw[e.2.2] at ho;cases ho];exact Y k o ho) hq ap
 have q:Src P i.size t (.slice a ys.length m) ys.length d w:=by
  cases a with
  | some b=>exact Src.ofSlice w ts.h b ys.length m d (by rw[E];exact n2) (n3 b rfl) n4
  | none=>
   have hy:ys.length=0:=by
    obtain ⟨a',a1,e',q1,_,V,_⟩:=H;injection e' with e1 e2 e3;have:=n1 rfl;omega
   have hn:d=[]:=List.eq_nil_of_length_eq_zero (by rw[n2,hy];simp)
   subst hn
   rw[hy];exact Src.ofNil w ts.h m
 by_cases r:xs.length+ys.length≤c
 ·by_cases J:c=0
  ·-- nothing at all
   subst J
   have p:xs=[]:=List.eq_nil_of_length_eq_zero (by omega)
   have hy:ys=[]:=List.eq_nil_of_length_eq_zero (by omega)
   subst p hy
   have hn:d=[]:=List.eq_nil_of_length_eq_zero (by simpa using n2)
   subst hn
   refine N (.slice A 0 0) w ?_ Kpt.refl ⟨A,0,rfl,by simp,by simp,D,fun h=>by omega⟩ (.inl ⟨_,_,rfl,rfl⟩)
   have hl:=q.len w
   have y:=q.cells
   simp only[List.length_nil] at hl y⊢
   cases A<;>simp[Builtin.append_,run_underlying ts.h,sizeOf,typeInfo,hi,hl,y,storeCells]
  ·obtain ⟨g,l,f,rfl,q1,q2,V,q4,q5⟩:=c3 (by omega)
   have e1:(xs.length+ys.length)*sz≤c*sz:=Nat.mul_le_mul_right _ r
   rw[Nat.add_mul] at e1
   have Z:=run_storeCells_at P g (l+xs.length*sz) e d 0 f w V (by omega) n4
   simp only[Nat.add_zero] at Z
   obtain ⟨ab,ao⟩:=Nf (cs:=(f.toList.take (l+xs.length*sz)++d++f.toList.drop (l+xs.length*sz+d.length)).toArray) V
   refine N (.slice (some ⟨g,l,none⟩) (xs.length+ys.length) c) _ ?_ (Kpt.of_upd ab ⟨rfl,q1,q2⟩) ?_ (.inl ⟨_,_,rfl,rfl⟩)
   ·have hl:=q.len w
    have y:=q.cells
    rw[E] at y
    simp[Builtin.append_,run_underlying ts.h,sizeOf,typeInfo,hi,hl,y,E,r,Addr.add_lit,Z]
   ·refine ⟨_,c,by rw[List.length_append],by rw[List.length_append];exact r,c2,fun b U=>⟨(D b U).1,(D b U).2.1,by rw[ab.size];exact (D b U).2.2.1,(D b U).2.2.2⟩,fun _=>⟨g,l,_,rfl,q1,q2,ao,?_,fun j x p=>?_⟩⟩
    ·simp;omega
    ·by_cases Q:j<xs.length
     ·rw[List.getElem?_append_left Q] at p
      have:=q5 j x p
      have hh:j*sz+sz≤xs.length*sz:=by rw[←Nat.succ_mul];exact Nat.mul_le_mul_right _ Q
      have e2:((f.toList.take (l+xs.length*sz)++d++f.toList.drop (l+xs.length*sz+d.length)).toArray.toList.drop (l+j*sz)).take sz=(f.toList.drop (l+j*sz)).take sz:=by
       rw[List.toList_toArray,List.append_assoc]
       rw[List.drop_append_of_le_length (by rw[List.length_take,Array.length_toList (xs:=f)];omega),List.take_append_of_le_length (by rw[List.length_drop,List.length_take,Array.length_toList (xs:=f)];omega),List.drop_take,List.take_take]
       congr 1;omega
      rw[e2];exact this
     ·rw[List.getElem?_append_right (by omega)] at p
      have:=n5 _ _ p
      have aw:j-xs.length<ys.length:=(List.getElem?_eq_some_iff.1 p).1
      have hh:(j-xs.length)*sz+sz≤ys.length*sz:=by rw[←Nat.succ_mul];exact Nat.mul_le_mul_right _ aw
      have bj:j*sz=xs.length*sz+(j-xs.length)*sz:=by rw[←Nat.add_mul];congr 1;omega
      have e2:((f.toList.take (l+xs.length*sz)++d++f.toList.drop (l+xs.length*sz+d.length)).toArray.toList.drop (l+j*sz)).take sz=(d.drop ((j-xs.length)*sz)).take sz:=by
       rw[List.toList_toArray,List.append_assoc]
       rw[List.drop_append,List.drop_eq_nil_of_le (by rw[List.length_take,Array.length_toList (xs:=f)];omega),List.nil_append,List.length_take,Array.length_toList (xs:=f),
        show l+j*sz-min (l+xs.length*sz) f.size=(j-xs.length)*sz by omega,
        List.drop_append_of_le_length (by omega),List.take_append_of_le_length (by rw[List.length_drop];omega)]
      rw[e2];exact this
 ·-- a new row
  have L: ∃n:List Value,n.length=xs.length*sz∧(Builtin.firstCells i.size xs.length (.slice A xs.length c)).run P w.drew= .ok n.toArray w.drew∧ ∀j x,xs[j]? =some x→R σ x ((n.drop (j*sz)).take sz):=by
   by_cases J:c=0
   ·subst J
    have p:xs=[]:=List.eq_nil_of_length_eq_zero (by omega)
    subst p
    refine ⟨[],by simp,?_,by simp⟩
    cases A with
    | none=>exact run_firstCells_none w.drew i.size 0 0 0
    | some a'=>exact run_firstCells_some w.drew i.size 0 a' 0 0 [] (by simp) (by intro _ _ h';simp at h')
   ·obtain ⟨g,l,f,rfl,q1,q2,V,q4,q5⟩:=c3 (by omega)
    have e1:xs.length*sz≤c*sz:=Nat.mul_le_mul_right _ c1
    refine ⟨(f.toList.drop l).take (xs.length*sz),by rw[List.length_take,List.length_drop,Array.length_toList (xs:=f)];omega,?_,fun j x p=>?_⟩
    ·refine run_firstCells_some w.drew i.size xs.length ⟨g,l,none⟩ xs.length c _ (by rw[List.length_take,List.length_drop,Array.length_toList (xs:=f),E];omega) (fun j u H=>?_)
     rw[List.getElem?_take] at H
     split at H
     ·rw[List.getElem?_drop] at H
      have ax:w.drew.heap[g]? =some (.cells f e (0,0)):=V
      unfold World.cell?
      rw[S7,Qc,I8 rfl]
      simp only[ax]
      simpa using H
     ·cases H
    ·have Q:j<xs.length:=(List.getElem?_eq_some_iff.1 p).1
     have hh:j*sz+sz≤xs.length*sz:=by rw[←Nat.succ_mul];exact Nat.mul_le_mul_right _ Q
     have:=q5 j x p
     rw[List.drop_take,List.take_take,List.drop_drop,show min sz (xs.length*sz-j*sz)=sz by omega]
     exact this
  obtain ⟨n,o1,o2,o3⟩:=L
  have hg:c<xs.length+ys.length:=by omega
  have C:=run_append_grow_src (P:=P) w t t X e i z ts.h hi M A xs.length c n o2 (.slice a ys.length m) ys.length d q hg (by omega) (growslice_fits hg (by rw[ar];exact U))
  have av:=grownCap_le_maxLen w (xs.length+ys.length) c e (by simp only[maxLen];omega)
  have al:=grownCap_ge w (xs.length+ys.length) c e
  have hL:(n++d).length=(xs.length+ys.length)*sz:=by rw[List.length_append,o1,n2,Nat.add_mul]
  refine N _ _ C ?_ ?_ (.inr ⟨(Below.refl _ _).drew.alloc (Nat.le_refl _) _,by intro k hk;cases hk;exact Nat.le_refl _⟩)
  ·exact Kpt.of_below ((Below.refl _ _).drew.alloc (Nat.le_refl _) _)
  ·refine ⟨_,_,by rw[List.length_append],by rw[List.length_append];exact al,av,by rintro _ ⟨⟩;exact ⟨rfl,hB,(Array.getElem?_eq_some_iff.1 (heap_alloc_new w.drew _)).1,Y.none (Nat.le_refl _)⟩,fun _=>⟨w.heap.size,0,_,rfl,hB,Y.none (Nat.le_refl _),heap_alloc_new w.drew _,?_,fun j x p=>?_⟩⟩
   ·rw[Array.size_append,List.size_toArray,hL,size_zeroCells,am,←Nat.add_mul]
    rw[Nat.zero_add];exact Nat.mul_le_mul_right _ (by omega)
   ·rw[Nat.zero_add,Array.toList_append]
    have Q:j<xs.length+ys.length:=by have:=(List.getElem?_eq_some_iff.1 p).1;rwa [List.length_append] at this
    have hh:j*sz+sz≤(xs.length+ys.length)*sz:=by rw[←Nat.succ_mul];exact Nat.mul_le_mul_right _ Q
    rw[List.drop_append_of_le_length (by simp only[List.toList_toArray];omega),List.take_append_of_le_length (by rw[List.length_drop];simp only[List.toList_toArray];omega)]
    simp only[List.toList_toArray]
    by_cases W:j<xs.length
    ·rw[List.getElem?_append_left W] at p
     rw[Ww n d xs.length j o1 W]
     exact o3 j x p
    ·rw[List.getElem?_append_right (by omega)] at p
     have:=n5 _ _ p
     rw[show j*sz=n.length+(j-xs.length)*sz by rw[o1,←Nat.add_mul];congr 1;omega,List.drop_append]
     simpa [List.drop_eq_nil_of_le] using this
end
theorem M9 {b:Nat} (h:w1.heap.size≤b) (k:Stp w σ w1 σ1):w.heap.size≤b:=Nat.le_trans k.bel.size h
theorem M8 {t:TypeId} {sz a:Nat} {z:Value} [tz:TZ P t sz a z] (d:X2 w σ) (h: ∀b w' σ',w.heap.size≤b→Stp w σ w' σ'→Y1 σ' w' b z.cells.toList→K (.pointer (some ⟨b,0,none⟩)) w'):W0 P t w K:=
 Iu d fun b w' c f g=>h b w' σ c f g
theorem Ev {t:TypeId} {cs:List Value} (c:X2 w σ) (h: ∀b w' σ',w.heap.size≤b→Stp w σ w' σ'→Y1 σ' w' b cs→K (.pointer (some ⟨b,0,none⟩)) w'):box P t (.agg cs.toArray) w K:=
 Q5L c fun b w' a d f=>h b w' σ a d (by simpa [Value.cells] using f)
theorem G7 {t:TypeId} {sz a:Nat} {z:Value} [tz:TZ P t sz a z] {b:Nat} {cs ds:List Value} (d:Y1 σ w b cs) (j:Stp w0 σ0 w σ) (f:w0.heap.size≤b) (i:cs.length=sz) (g:ds.length=sz) (l: ∀u∈ds,u.oneCell'=true)
 (h: ∀w',Hst w0 σ0 w' σ→Y1 σ w' b ds→K undef w'):Y0 P t (.pointer (some ⟨b,0,none⟩)) (.agg ds.toArray) w K:=
 Mj d i g (by rw[List.all_toArray];exact List.all_eq_true.2 l) fun w' k c=>h w' ⟨k.stp j f d.1⟩ c
structure Nxt (D : Nat → Prop) (w : World) (σ : Q6) (w' : World) (σ' : Q6) : Prop where
  kp : Kpt D w w'
  le : SLe σ σ'
  old : ∀ k, k < w.heap.size → σ' k = σ k
  sat : X2 w' σ'
theorem Nxt.of_stp {D:Nat→Prop} (h:Stp w σ w' σ'):Nxt D w σ w' σ':=⟨Kpt.of_below h.bel,⟨h.le⟩,h.old,h.sat⟩
theorem Nxt.mono {D D':Nat→Prop} (h:Nxt D w σ w' σ') (a: ∀k,k<w.heap.size→D k→D' k):Nxt D' w σ w' σ':=⟨h.kp.mono a,h.le,h.old,h.sat⟩
theorem Nxt.trans {D:Nat→Prop} (h:Nxt D w σ w' σ') (k:Nxt D w' σ' w'' σ1):Nxt D w σ w'' σ1:=
 ⟨h.kp.trans k.kp,h.le.more k.le,fun i a=>(k.old i (Nat.lt_of_lt_of_le a h.kp.size)).trans (h.old i a),k.sat⟩
theorem Y1.nx {D:Nat→Prop} {b:Nat} {cs:List Value} (h:Y1 σ w b cs) (k:Nxt D w σ w' σ') (d: ¬D b):Y1 σ' w' b cs:=by
 have a:=h.lt
 obtain ⟨f,e,c⟩:=h
 exact ⟨(k.old b a).trans f,e,(k.kp.block b a d).trans c⟩
theorem C5.nx {D:Nat→Prop} {r:Nat} {m:List (List UInt8×Value)} (h:C5 σ w r m) (k:Nxt D w σ w' σ') (a: ¬D r):C5 σ' w' r m:=
 ⟨(k.old r h.lt).trans h.1,(k.kp.block r h.lt a).symm▸h.2⟩
section
variable {α : Type} {R : Q6 → α → List Value → Prop} {B sz : Nat} {e : TypeId} {v u : Value} {xs : List α} {x : α}
theorem V6.nx [hr:Rep R] {D:Nat→Prop} (h:V6 B e sz R σ w v xs) (k:Nxt D w σ w' σ') (c: ∀k,v.ownBlock=some k→ ¬D k):V6 B e sz R σ' w' v xs:=by
 have j:=h.kp k.kp c
 obtain ⟨cells,d,b,g⟩:=j
 refine ⟨cells,d,fun i a=>(k.old i (h.mem i a).2.1).trans (b i a),fun i x f=>hr.up k.le.le (g i x f)⟩
theorem J8.nx [hr:Rep R] {D:Nat→Prop} (h:J8 B e sz R σ w v xs) (k:Nxt D w σ w' σ') (o: ∀k,v.ownBlock=some k→ ¬D k):J8 B e sz R σ' w' v xs:=by
 obtain ⟨a,l,rfl,z,t,c,y⟩:=h
 refine ⟨a,l,rfl,z,t,fun b d=>⟨(c b d).1,(c b d).2.1,Nat.lt_of_lt_of_le (c b d).2.2.1 k.kp.size,(k.old _ (c b d).2.2.1).trans (c b d).2.2.2⟩,fun p=>?_⟩
 obtain ⟨g,j,f,rfl,C,q,n,r,s⟩:=y p
 have m:=(Array.getElem?_eq_some_iff.1 n).1
 exact ⟨g,j,f,rfl,C,(k.old g m).trans q,(k.kp.block g m (o g rfl)).trans n,r,fun i x A=>hr.up k.le.le (s i x A)⟩
theorem Ug {t r:TypeId} {d:Nat} {z:Value} {cs:List Bool} {A:Value→Value→World→Prop} [ts:TS P t e] [tz:TZ P e sz d z] [hr:Rep R] (m:Stp w0 σ0 w σ) (D:V6 w0.heap.size e sz R σ w v xs) (q:R σ x u.cells.toList) (o:u.cells.size=sz) (C:(z.cells.size==sz&&decide (0<sz))=true) (g:(decide (0<sz)&&decide ([u].length*sz≤16777216))=true)
 (y:(xs.length+1)*d≤140737488355328) (p:xs.length+1≤9223372036854775807)
 (h: ∀s b w' σ',Nxt (fun k=>v.ownBlock=some k) w σ w' σ'→Stp w0 σ0 w' σ'→V6 w0.heap.size e sz R σ' w' b (xs++[x])→(b.ownBlock=v.ownBlock∨ ∀k,b.ownBlock=some k→w.heap.size≤k)→A s b w'):
 buildSlice P t 1 [(0,u)] w (fun s w=>X3 P .append [t,t] r cs [v,s] w (fun b w=>A s b w)):=by
 refine P1 m.sat [u] [x] rfl rfl (by simpa using o) g ⟨q,trivial⟩ fun s w1 σ1 a i=>?_
 refine app (m.trans a) (D.up a) i C (by simpa using y) (by simpa using p) fun b n E c j hat=>?_
 have l:Kpt (fun k=>v.ownBlock=some k) w n:=(Kpt.of_below a.bel).trans (Kpt.of_grown E fun k a=>a)
 refine h s b n σ1 ⟨l,⟨a.le⟩,a.old,c.sat⟩ c j ?_
 rcases hat with hat | hat
 ·exact .inl hat
 ·exact .inr fun k f=>Nat.le_trans a.bel.size (hat k f)
theorem Wh {t l:TypeId} {c:Nat} {z:Value} {cs:List Bool} {ys:List α} [ts:TS P t e] [tz:TZ P e sz c z] [hr:Rep R] (p:Stp w0 σ0 w σ) (o:V6 w0.heap.size e sz R σ w v xs) (j:Sl sz R σ u ys) (n:(z.cells.size==sz&&decide (0<sz))=true)
 (m:(xs.length+ys.length)*c≤140737488355328) (g:xs.length+ys.length≤9223372036854775807)
 (h: ∀a w',Nxt (fun k=>v.ownBlock=some k) w σ w' σ→Stp w0 σ0 w' σ→V6 w0.heap.size e sz R σ w' a (xs++ys)→(a.ownBlock=v.ownBlock∨ ∀k,a.ownBlock=some k→w.heap.size≤k)→K a w'):X3 P .append [t,t] l cs [v,u] w K:=
 app p o j n m g fun a q r b d f=>h a q ⟨Kpt.of_grown r fun k i=>i,SLe.refl _,fun _ _=>rfl,b.sat⟩ b d f
end
section
variable {α : Type} {R : Q6 → α → List Value → Prop} {B sz : Nat} {e : TypeId} {v u : Value} {xs : List α} {x : α}
theorem J8.mono {B':Nat} (h:J8 B e sz R σ w v xs) (k:B'≤B):J8 B' e sz R σ w v xs:=by
 obtain ⟨a,i,rfl,p,l,d,o⟩:=h
 refine ⟨a,i,rfl,p,l,fun b c=>⟨(d b c).1,Nat.le_trans k (d b c).2.1,(d b c).2.2⟩,fun m=>?_⟩
 obtain ⟨g,j,f,rfl,n,q⟩:=o m
 exact ⟨g,j,f,rfl,Nat.le_trans k n,q⟩
theorem J8.own (h:J8 B e sz R σ w v xs) {k:Nat} (a:v.ownBlock=some k):B≤k:=(h.mem a).1
theorem J8.keep [hr:Rep R] (h:J8 w0.heap.size e sz R σ w v xs) (p:Stp w0 σ0 w σ): ∃σ',Stp w0 σ0 w σ'∧Sl sz R σ' v xs∧SLe σ σ'∧(∀k,some k≠v.ownBlock→σ' k=σ k):=by
 obtain ⟨a,f,rfl,D,A,n,C⟩:=h
 by_cases r:f=0
 ·have m:xs=[]:=List.eq_nil_of_length_eq_zero (by omega)
  subst r m
  exact ⟨σ,p,⟨a,0,rfl,by simp,by simp,fun _=>rfl,fun b z=>⟨fun _=>(n b z).1,by simp⟩⟩,SLe.refl _,fun _ _=>rfl⟩
 ·obtain ⟨g,o,c,rfl,E,q,t,H,s⟩:=C (by omega)
  have d:=Q6.put_le p.sat q (.cells c e (0,0))
  refine ⟨σ.put g (.cells c e (0,0)),p.put q E t,⟨_,f,rfl,D,A,by simp,?_⟩,⟨d⟩,?_⟩
  ·rintro _ ⟨⟩
   refine ⟨fun _=>rfl,fun i x m=>⟨(c.toList.drop (o+i*sz)).take sz,⟨I8 rfl _,c,e,(0,0),by rw[S7];simp[Q6.put],?_⟩,?_,hr.up d (s i x m)⟩⟩
   ·intro j u l
    rw[Qc]
    rw[List.getElem?_take] at l
    split at l
    ·rw[List.getElem?_drop] at l;simpa using l
    ·cases l
   ·have J:i<xs.length:=(List.getElem?_eq_some_iff.1 m).1
    have h:i*sz+sz≤f*sz:=by rw[←Nat.succ_mul];exact Nat.mul_le_mul_right _ (by omega)
    rw[List.length_take,List.length_drop,Array.length_toList (xs:=c)];omega
  ·intro k y
   have:k≠g:=by intro e;subst e;exact y rfl
   simp only[Q6.put,if_neg this]
theorem Q2V {t Q:TypeId} {H:Nat} {z:Value} {A:Value→Value→World→Prop} {ds:List Value} [ts:TS P t e] [tz:TZ P e sz H z] {L:Nat} {W:Value} [tz':TZ P Q sz L W] (hS:Stp w0 σ0 w σ) (ha:J8 w0.heap.size e sz R σ w v xs) {n:Nat} (hn:n<xs.length) (s:ds.length=sz) (hx:R σ x ds) (h1: ∀u∈ds,u.oneCell'=true)
 (h: ∀p u w',Kpt (fun k=>v.ownBlock=some k) w w'→Hst w0 σ0 w' σ→J8 w0.heap.size e sz R σ w' v (xs.set n x)→A p u w'):
 indexAddr P t v (I n) w (fun p w=>Y0 P Q p (.agg ds.toArray) w (fun u w=>A p u w)):=by
 obtain ⟨a,i,rfl,X,c2,f,c3⟩:=ha
 obtain ⟨g,c,d,rfl,U,N,O,q4,V⟩:=c3 (by omega)
 rw[Sh (by omega) (by omega)]
 have hh:n*sz+sz≤i*sz:=by rw[←Nat.succ_mul];exact Nat.mul_le_mul_right _ (by omega)
 have q:(⟨g,c,none⟩:Addr).add ((n:Int).toNat*sz)=⟨g,c+n*sz,none⟩:=by unfold Addr.add;split<;>simp_all
 rw[q]
 have o:=run_storeCells_at P g (c+n*sz) e ds 0 d w O (by omega) h1
 simp only[Nat.add_zero] at o
 obtain ⟨l,E⟩:=Nf (cs:=(d.toList.take (c+n*sz)++ds++d.toList.drop (c+n*sz+ds.length)).toArray) O
 unfold Y0
 rw[Lh (w':=w.setRow g (d.toList.take (c+n*sz)++ds++d.toList.drop (c+n*sz+ds.length)).toArray) (by
  simp[Instr.storeAt,Instr.sureAddr,storeVar,L2 tz',Value.cells,s]
  simpa [s] using o)]
 have Y:Kpt (fun k=>(Value.slice (some ⟨g,c,none⟩) xs.length i).ownBlock=some k) w (w.setRow g (d.toList.take (c+n*sz)++ds++d.toList.drop (c+n*sz+ds.length)).toArray):=Kpt.of_upd l rfl
 refine h _ _ _ Y ⟨l.stp hS U N⟩ ⟨_,i,by rw[List.length_set],by rw[List.length_set];exact X,c2,fun b r=>⟨(f b r).1,(f b r).2.1,by rw[l.size];exact (f b r).2.2.1,(f b r).2.2.2⟩,fun _=>⟨g,c,_,rfl,U,N,E,?_,fun j y m=>?_⟩⟩
 ·simp;omega
 ·rw[List.toList_toArray]
  have Z:=Array.length_toList (xs:=d)
  have C:j<xs.length:=by have:=(List.getElem?_eq_some_iff.1 m).1;simpa using this
  have ab:j*sz+sz≤i*sz:=by rw[←Nat.succ_mul];exact Nat.mul_le_mul_right _ (by omega)
  by_cases M:j=n
  ·subst M
   rw[List.getElem?_set_self C] at m
   cases m
   rw[List.append_assoc,List.drop_append,List.drop_eq_nil_of_le (by rw[List.length_take];omega),List.nil_append,List.length_take,show c+j*sz-min (c+j*sz) d.toList.length=0 by omega,List.drop_zero,List.take_append_of_le_length (by omega),List.take_of_length_le (by omega)]
   exact hx
  ·rw[List.getElem?_set_ne (by omega)] at m
   have:=V j y m
   rcases Nat.lt_or_gt_of_ne M with J | hgt
   ·have D:j*sz+sz≤n*sz:=by rw[←Nat.succ_mul];exact Nat.mul_le_mul_right _ J
    rw[List.append_assoc,List.drop_append_of_le_length (by rw[List.length_take];omega),List.take_append_of_le_length (by rw[List.length_drop,List.length_take];omega),List.drop_take,List.take_take]
    rwa [show min sz (c+n*sz-(c+j*sz))=sz by omega]
   ·have D:n*sz+sz≤j*sz:=by rw[←Nat.succ_mul];exact Nat.mul_le_mul_right _ hgt
    rw[List.drop_append,List.drop_eq_nil_of_le (by rw[List.length_append,List.length_take];omega),List.nil_append,List.length_append,List.length_take,List.drop_drop,s]
    rwa [show c+n*sz+sz+(c+j*sz-(min (c+n*sz) d.toList.length+sz))=c+j*sz by omega]
end
theorem Q6d (p:Nat→Prop): ∀n,p n→ ∃m,p m∧ ∀k,p k→m≤k:=by
 intro n
 induction n using Nat.strongRecOn with
 | _ n c=>
  intro h
  by_cases b: ∃k,k<n∧p k
  ·obtain ⟨k,g,d⟩:=b;exact c k g d
  ·exact ⟨n,h,fun k f=>Nat.le_of_not_lt fun a=>b ⟨k,a,f⟩⟩
noncomputable def Q1n (p:Nat→Prop):Nat:=open Classical in if h: ∃m,p m∧ ∀k,p k→m≤k then Classical.choose h else 0
theorem Q0i {p:Nat→Prop} {n:Nat} (h:p n):p (Q1n p)∧Q1n p≤n:=by
 have a:=Q6d p n h
 unfold Q1n
 rw[dif_pos a]
 exact ⟨(Classical.choose_spec a).1,(Classical.choose_spec a).2 n h⟩
theorem Ke {α:Type} {x0:α} {A:(α→World→Prop)→α→(Nat→Value)→World→Prop} (I:Nat→α→World→Prop) (n:Nat) (i:I n x0 w)
 (h: ∀a n x d w,I n x w→(∀b c w',b<n→I b c w'→a c w')→A a x d w):lp x0 w A:=by
 refine Wj (fun x w=> ∃n,I n x w) (fun x w=>Q1n fun n=>I n x w) ⟨n,i⟩ ?_
 rintro x d w ⟨n,k⟩
 obtain ⟨j,l⟩:=Q0i (p:=fun n=>I n x w) k
 refine h _ _ x d w j fun b c w' f g=>⟨⟨b,g⟩,?_⟩
 exact Nat.lt_of_le_of_lt (Q0i (p:=fun n=>I n c w') g).2 f
section
variable {α : Type} {R : Q6 → α → List Value → Prop} {B sz : Nat} {e : TypeId} {v u : Value} {xs ys : List α} {x : α}
theorem J8.below (h:J8 B e sz R σ w v xs) (a:Below w.heap.size w w'):J8 B e sz R σ w' v xs:=h.kp (D:=fun _=>False) (.of_below a) fun _ _=>id
theorem J8.pre {a:Option Addr} {n m b:Nat} (h:J8 B e sz R σ w (.slice a m b) (xs++ys)) (E:n=xs.length):J8 B e sz R σ w (.slice a n b) xs:=by
 obtain ⟨J,j,D,A,y,d,z⟩:=h
 injection D with s e2 C
 subst s C E
 rw[List.length_append] at A
 refine ⟨a,b,rfl,by omega,y,d,fun p=>?_⟩
 obtain ⟨g,f,c,l,H,q,t,o,r⟩:=z p
 exact ⟨g,f,c,l,H,q,t,o,fun i x k=>r i x (by rw[List.getElem?_append_left (List.getElem?_eq_some_iff.1 k).1];exact k)⟩
def Ih (B:Nat) (e:TypeId) (sz:Nat) (R:Q6→α→List Value→Prop) (σ:Q6) (v:Value) (xs:List α) (x:α) (w1 c:World):Prop:=
 Kpt (fun k=>v.ownBlock=some k) w1 c∧(J8 B e sz R σ w1 v xs→J8 B e sz R σ c v xs)∧
  ∀a b,v= .slice a xs.length b→J8 B e sz R σ w1 (.slice a (xs.length+1) b) (xs++[x])→J8 B e sz R σ c (.slice a (xs.length+1) b) (xs++[x])
theorem Ih.below (a:Below w.heap.size w w'):Ih B e sz R σ v xs x w w':=⟨.of_below a,fun h=>h.below a,fun _ _ _ h=>h.below a⟩
theorem Ih.refl:Ih B e sz R σ v xs x w w:=Ih.below (Below.refl _ _)
def VQa (N B:Nat) (e:TypeId) (sz:Nat) (R:Q6→α→List Value→Prop) (σ:Q6) (v:Value) (xs:List α) (x:α) (c:Value) (w:World):Prop:=
 J8 B e sz R σ w c (xs++[x])∧((∃a b,v= .slice a xs.length b∧c= .slice a (xs.length+1) b)∨((∀k,c.ownBlock=some k→N≤k)∧ ∀k,v.ownBlock=some k→k<N))
theorem VQa.stable {N:Nat} {i:Value} (h:VQa N B e sz R σ v xs x i w) (g:Ih B e sz R σ v xs x w w'):VQa N B e sz R σ v xs x i w':=by
 obtain ⟨j,b⟩:=h
 refine ⟨?_,b⟩
 rcases b with ⟨a,d,f,rfl⟩ | ⟨b,f⟩
 ·exact g.2.2 a d f j
 ·exact j.kp g.1 fun k l c=>by have:=b k l;have:=f k c;omega
theorem Kpt.more {D E:Nat→Prop} (h:Kpt D w w') (k:Kpt E w' w'') (hE: ∀j,E j→w.heap.size≤j):Kpt D w w'':=
 ⟨k.os.trans h.os,k.tape.trans h.tape,k.output.trans h.output,Nat.le_trans h.size k.size,fun i a b=>(k.block i (Nat.lt_of_lt_of_le a h.size) fun e=>by have:=hE i e;omega).trans (h.block i a b)⟩
end
end Go.Emb

namespace Go.Hm
open Go.Kd
theorem V4 {l:List Cla} {n:X0} {c:Cla} (h:lk l n=some c):c.name=n∧c∈l∧ ∃i,Z1 l n=some i∧l[i]? =some c:=by
 unfold lk at h
 cases b:Z1 l n with
 | none=>rw[b] at h;cases h
 | some i=>
  rw[b] at h
  obtain ⟨a,e,_⟩:=List.findIdx?_eq_some_iff_getElem.1 b
  have d:l[i]? =some c:=h
  rw[List.getElem?_eq_getElem a] at d
  cases d
  exact ⟨by simpa using e,List.getElem_mem a,i,rfl,List.getElem?_eq_getElem a⟩
theorem Zm {l:List Cla} {n:X0} {i:Nat} (h:Z1 l n=some i): ∃c,lk l n=some c∧l[i]? =some c∧c.name=n:=by
 obtain ⟨a,b,_⟩:=List.findIdx?_eq_some_iff_getElem.1 h
 refine ⟨l[i],?_,List.getElem?_eq_getElem a,by simpa using b⟩
 unfold lk;rw[h];simp[a]
theorem Q1G {l:List Cla} {n:X0}:Q0O l n=(lk l n).isSome:=by
 unfold Q0O
 cases a:Z1 l n with
 | none=>simp[lk,a]
 | some i=>obtain ⟨c,h,_⟩:=Zm a;simp[h]
theorem Q9l {l:List Cla} {c:Cla} (h:c∈l): ∃d,lk l c.name=some d:=by
 cases a:Z1 l c.name with
 | none=>
  have:=List.findIdx?_eq_none_iff.1 a c h
  simp at this
 | some i=>obtain ⟨d,h,_⟩:=Zm a;exact ⟨d,h⟩
inductive Reach (L : Wx) : X0 → X0 → Prop
  | refl {a : X0} {c : Cla} : L a = some c → Reach L a a
  | step {a u b : X0} {c : Cla} : L a = some c → u ∈ U4 c → Reach L u b → Reach L a b
theorem Reach.trans {L:Wx} {a b d:X0} (h:Reach L a b) (k:Reach L b d):Reach L a d:=by
 induction h with
 | refl _=>exact k
 | step f e _ c=>exact .step f e (c k)
theorem Reach.right {L:Wx} {a b:X0} (h:Reach L a b): ∃c,L b=some c:=by
 induction h with
 | refl h=>exact ⟨_,h⟩
 | step _ _ _ d=>exact d
theorem Reach.left {L:Wx} {a b:X0} (h:Reach L a b): ∃c,L a=some c:=by
 cases h with
 | refl h=>exact ⟨_,h⟩
 | step h _ _=>exact ⟨_,h⟩
theorem Q1D (L:Wx): ∀(f:Nat) (a b:List X0),∃r,Uz L f a b=b++r:=by
 intro f
 induction f with
 | zero=>intro a b;exact ⟨[],by simp[Uz]⟩
 | succ f c=>
  intro a b
  cases a with
  | nil=>exact ⟨[],by simp[Uz]⟩
  | cons n a=>
   simp only[Uz]
   split
   ·exact c _ _
   ·split
    ·exact c _ _
    ·obtain ⟨r,d⟩:=c (a++U4 ‹_›) (b++[n])
     exact ⟨n::r,by rw[d];simp⟩
theorem Q9a (L:Wx): ∀(f:Nat) (a b:List X0) (x:X0),x∈Uz L f a b→x∈b∨ ∃t∈a,Reach L t x:=by
 intro f
 induction f with
 | zero=>intro a b x h;exact .inl h
 | succ f d=>
  intro a b x h
  cases a with
  | nil=>exact .inl h
  | cons n a=>
   simp only[Uz] at h
   split at h
   ·rcases d _ _ _ h with h | ⟨t,ht,h⟩
    ·exact .inl h
    ·exact .inr ⟨t,by simp[ht],h⟩
   ·rename_i c e
    split at h
    ·rcases d _ _ _ h with h | ⟨t,ht,h⟩
     ·exact .inl h
     ·exact .inr ⟨t,by simp[ht],h⟩
    ·rcases d _ _ _ h with h | ⟨t,ht,h⟩
     ·rcases List.mem_append.1 h with h | h
      ·exact .inl h
      ·simp at h;subst h;exact .inr ⟨x,by simp, .refl e⟩
     ·rcases List.mem_append.1 ht with ht | ht
      ·exact .inr ⟨t,by simp[ht],h⟩
      ·exact .inr ⟨n,by simp, .step e ht h⟩
theorem X1c (l:List Cla) (a b:List X0) (h: ∀x∈a,x∈b):weigh l b≤weigh l a:=by
 unfold weigh
 induction l with
 | nil=>simp
 | cons c r e=>
  simp only[List.map_cons,List.sum_cons]
  by_cases d:c.name∈a
  ·rw[if_pos d,if_pos (h _ d)];omega
  ·rw[if_neg d];split<;>omega
theorem Kc (l:List Cla) (a:List X0) (c:Cla) (hc:c∈l) (g:c.name∉a):weigh l (a++[c.name])+(U4 c).length≤weigh l a:=by
 unfold weigh
 induction l with
 | nil=>simp at hc
 | cons d r f=>
  simp only[List.map_cons,List.sum_cons]
  have b:weigh r (a++[c.name])≤weigh r a:=X1c _ _ _ (by simp;intro x h;exact .inl h)
  unfold weigh at b
  rcases List.mem_cons.1 hc with rfl | hc
  ·rw[if_pos (by simp),if_neg g];omega
  ·have:=f hc
   by_cases e:d.name∈a
   ·rw[if_pos (by simp[e]),if_pos e];omega
   ·rw[if_neg e];split<;>omega
theorem X0l (l:List Cla): ∀(f:Nat) (a b:List X0),a.length+weigh l b≤f→
 (∀x∈b,∀c,lk l x=some c→ ∀u∈U4 c,∀d,lk l u=some d→u∈b∨u∈a)→
 (∀t∈a,∀d,lk l t=some d→t∈Uz (lk l) f a b)∧ ∀x∈Uz (lk l) f a b,∀c,lk l x=some c→ ∀u∈U4 c,∀d,lk l u=some d→u∈Uz (lk l) f a b:=by
 intro f
 induction f with
 | zero=>
  intro a b w o
  have:a=[]:=List.eq_nil_of_length_eq_zero (by omega)
  subst this
  refine ⟨by simp,fun x hx c i u j d g=>?_⟩
  rcases o x hx c i u j d g with h | h
  ·exact h
  ·simp at h
 | succ f v=>
  intro a b w o
  cases a with
  | nil=>
   refine ⟨by simp,fun x hx c i u j d g=>?_⟩
   rcases o x hx c i u j d g with h | h
   ·exact h
   ·simp at h
  | cons n a=>
   simp only[List.length_cons] at w
   simp only[Uz]
   split
   ·rename_i y
    obtain ⟨q,p⟩:=v a b (by omega) (fun x hx c i u j d g=>by
     rcases o x hx c i u j d g with h | h
     ·exact .inl h
     ·rcases List.mem_cons.1 h with rfl | h
      ·rw[y] at g;cases g
      ·exact .inr h)
    refine ⟨fun t ht d g=>?_,p⟩
    rcases List.mem_cons.1 ht with rfl | ht
    ·rw[y] at g;cases g
    ·exact q t ht d g
   ·rename_i c i
    split
    ·rename_i k
     obtain ⟨r,s⟩:=Q1D (lk l) f a b
     obtain ⟨q,p⟩:=v a b (by omega) (fun x hx c i u j d g=>by
      rcases o x hx c i u j d g with h | h
      ·exact .inl h
      ·rcases List.mem_cons.1 h with rfl | h
       ·exact .inl k
       ·exact .inr h)
     refine ⟨fun t ht d g=>?_,p⟩
     rcases List.mem_cons.1 ht with rfl | ht
     ·rw[s];simp[k]
     ·exact q t ht d g
    ·rename_i k
     obtain ⟨e,z,_⟩:=V4 i
     have B:=Kc l b c z (by rw[e];exact k)
     rw[e] at B
     obtain ⟨q,p⟩:=v (a++U4 c) (b++[n]) (by rw[List.length_append];omega) (fun x hx A m u j d g=>by
      rcases List.mem_append.1 hx with hx | hx
      ·rcases o x hx A m u j d g with h | h
       ·exact .inl (by simp[h])
       ·rcases List.mem_cons.1 h with rfl | h
        ·exact .inl (by simp)
        ·exact .inr (by simp[h])
      ·simp at hx;subst hx
       rw[i] at m;cases m
       exact .inr (by simp[j]))
     refine ⟨fun t ht d g=>?_,p⟩
     rcases List.mem_cons.1 ht with rfl | ht
     ·obtain ⟨r,s⟩:=Q1D (lk l) f (a++U4 c) (b++[t])
      rw[s];simp
     ·exact q t (by simp[ht]) d g
theorem Uv {l:List Cla} {a b:X0}:b∈F8 l a↔Reach (lk l) a b:=by
 obtain ⟨n,m⟩:=X0l l (1+weigh l []) [a] [] (by simp) (by simp)
 constructor
 ·intro h
  rcases Q9a _ _ _ _ _ h with h | ⟨t,e,j⟩
  ·simp at h
  ·simp at e;subst e;exact j
 ·intro h
  have key: ∀{x y:X0},Reach (lk l) x y→x∈F8 l a→y∈F8 l a:=by
   intro x y h
   induction h with
   | refl _=>exact id
   | step f i g k=>
    intro o
    obtain ⟨d,c⟩:=g.left
    exact k (m _ o _ f _ i _ c)
  obtain ⟨d,c⟩:=h.left
  exact key h (n a (by simp) d c)
theorem X0v (l:List Cla): ∀(f:Nat) (a b:List X0),a.length+weigh l b≤f→ ∀k,Uz (lk l) (f+k) a b=Uz (lk l) f a b:=by
 intro f
 induction f with
 | zero=>
  intro a b h k
  have:a=[]:=List.eq_nil_of_length_eq_zero (by omega)
  subst this
  cases k<;>rfl
 | succ f d=>
  intro a b h k
  cases a with
  | nil=>rw[Nat.succ_add];rfl
  | cons n a=>
   simp only[List.length_cons] at h
   rw[Nat.succ_add]
   simp only[Uz]
   split
   ·exact d _ _ (by omega) k
   ·rename_i c i
    split
    ·exact d _ _ (by omega) k
    ·rename_i g
     obtain ⟨e,m,_⟩:=V4 i
     have j:=Kc l b c m (by rw[e];exact g)
     rw[e] at j
     exact d _ _ (by rw[List.length_append];omega) k
end Go.Hm

namespace Go.Hm
open Go.Kd
def Wr (L:Wx) (a b:X0):Prop:= ∃c,L a=some c∧ ∃u∈U4 c,Reach L u b
def Jb (l:List Cla):Prop:= ∀a,¬Wr (lk l) a a
theorem Wr.reach {L:Wx} {a b:X0} (h:Wr L a b):Reach L a b:=by
 obtain ⟨c,d,u,f,e⟩:=h;exact .step d f e
theorem Wr.trans {L:Wx} {a b d:X0} (h:Wr L a b) (k:Reach L b d):Wr L a d:=by
 obtain ⟨c,e,u,g,f⟩:=h;exact ⟨c,e,u,g,f.trans k⟩
theorem Q0X {L:Wx} {a b:X0}:Reach L a b↔(a=b∧(∃c,L a=some c))∨Wr L a b:=by
 constructor
 ·intro h
  cases h with
  | refl h=>exact .inl ⟨rfl,_,h⟩
  | step f d e=>exact .inr ⟨_,f,_,d,e⟩
 ·rintro (⟨rfl,c,h⟩ | h)
  ·exact .refl h
  ·exact h.reach
def Xj (l:List Cla) (a b:X0):Bool:=match lk l a with
 | none=>false
 | some c=>(U4 c).any fun u=>(F8 l u).contains b
theorem Ul {l:List Cla} {a b:X0}:Xj l a b=true↔Wr (lk l) a b:=by
 unfold Xj Wr
 cases h:lk l a with
 | none=>simp
 | some c=>
  simp only[List.any_eq_true,List.contains_iff_mem,Uv]
  constructor
  ·rintro ⟨u,e,d⟩;exact ⟨c,rfl,u,e,d⟩
  ·rintro ⟨_,⟨⟩,u,e,d⟩;exact ⟨u,e,d⟩
def P0 (l:List Cla) (n:X0):Nat:=l.countP fun m=>Xj l n m.name
theorem Q1s (l:List Cla) (n:X0):P0 l n≤l.length:=List.countP_le_length
theorem Q4z {α:Type} {p q:α→Bool}: ∀{l:List α},(∀x∈l,p x=true→q x=true)→(∃x∈l,q x=true∧p x=false)→l.countP p<l.countP q:=by
 intro l
 induction l with
 | nil=>rintro _ ⟨x,hx,_⟩;simp at hx
 | cons a r e=>
  rintro h ⟨x,hx,d,c⟩
  have f:r.countP p≤r.countP q:=List.countP_mono_left fun x hx=>h x (by simp[hx])
  rw[List.countP_cons,List.countP_cons]
  rcases List.mem_cons.1 hx with rfl | hx
  ·rw[d,c];simp;omega
  ·have:=e (fun x hx=>h x (by simp[hx])) ⟨x,hx,d,c⟩
   have g:=h a (by simp)
   cases b:p a
   ·simp;split<;>omega
   ·rw[g b];simp;omega
theorem X1E {l:List Cla} (i:Jb l) {a b:X0} (h:Wr (lk l) a b):P0 l b<P0 l a:=by
 unfold P0
 refine Q4z (fun x _ g=>?_) ?_
 ·rw[Ul] at*
  exact h.trans g.reach
 ·obtain ⟨d,f⟩:=(Reach.right (h.reach))
  obtain ⟨e,j,_⟩:=V4 f
  refine ⟨d,j,?_,?_⟩
  ·rw[Ul,e];exact h
  ·cases c:Xj l b d.name with
   | false=>rfl
   | true=>rw[Ul,e] at c;exact absurd c (i b)
theorem Xs {l:List Cla} (f:Jb l) {a u:X0} {c d:Cla} (e:lk l a=some c) (g:u∈U4 c) (b:lk l u=some d):P0 l u<P0 l a:=
 X1E f ⟨c,e,u,g, .refl b⟩
theorem Q6F {l:List Cla} (i:Jb l): ∀(f g:Nat) (n:X0),P0 l n<f→P0 l n<g→I5 (lk l) f n=I5 (lk l) g n:=by
 intro f
 induction f with
 | zero=>intro g n h;omega
 | succ f b=>
  intro g n j k
  obtain ⟨g,rfl⟩: ∃m,g=m+1:=⟨g-1,by omega⟩
  simp only[I5]
  cases e:lk l n with
  | none=>rfl
  | some c=>
   simp only
   congr 1
   cases a:lk l c.super with
   | none=>cases f<;>cases g<;>simp[I5,a]
   | some d=>
    have:=Xs i e (by simp[U4]) a
    exact b g c.super (by omega) (by omega)
theorem T9 {l:List Cla} (b:Jb l) (n:X0):chain l n=match lk l n with | none=>[] | some c=>c::chain l c.super:=by
 have:=Q1s l n
 unfold chain
 rw[I5]
 cases e:lk l n with
 | none=>rfl
 | some c=>
  simp only
  congr 1
  cases a:lk l c.super with
  | none=>cases l.length<;>simp[I5,a]
  | some d=>
   have:=Xs b e (by simp[U4]) a
   exact Q6F b _ _ _ (by omega) (by omega)
theorem Yz {l:List Cla} {n:X0} (h:lk l n=none):chain l n=[]:=by simp[chain,I5,h]
theorem Dn {α β:Type} {f g:α→Option β}: ∀{l:List α},(∀x∈l,f x=g x)→l.findSome? f=l.findSome? g
 | [],_=>rfl
 | a::r,h=>by
  rw[List.findSome?_cons,List.findSome?_cons,h a (by simp),Dn fun x b=>h x (by simp[b])]
theorem Q6E {l:List Cla} (k:Jb l) (n:X0): ∀(f g:Nat) (c:Cla),lk l c.name=some c→P0 l c.name<f→P0 l c.name<g→Rw (lk l) f c n=Rw (lk l) g c n:=by
 intro f
 induction f with
 | zero=>intro g c _ h;omega
 | succ f j=>
  intro g c b o p
  obtain ⟨g,rfl⟩: ∃m,g=m+1:=⟨g-1,by omega⟩
  simp only[Rw]
  refine Dn fun u i=>?_
  cases a:lk l u with
  | none=>rfl
  | some d=>
   simp only
   cases F2 d n with
   | some m=>rfl
   | none=>
    simp only
    have:=Xs k b (by simp[U4,i]) a
    have e:=(V4 a).1
    exact j g d (by rw[e];exact a) (by rw[e];omega) (by rw[e];omega)
def V5 (l:List Cla) (c:Cla) (n:X0):Option (X0×Hm.Met):=Rw (lk l) (l.length+1) c n
theorem Q4F {l:List Cla} (b:Jb l) {c:Cla} (f:lk l c.name=some c) (n:X0):V5 l c n=c.like.findSome? fun u=>match lk l u with
 | none=>none
 | some d=>match F2 d n with
  | some m=>some (u,m)
  | none=>V5 l d n:=by
 have:=Q1s l c.name
 unfold V5
 rw[Rw]
 refine Dn fun u g=>?_
 cases a:lk l u with
 | none=>rfl
 | some d=>
  simp only
  cases F2 d n with
  | some m=>rfl
  | none=>
   have:=Xs b f (by simp[U4,g]) a
   have e:=(V4 a).1
   exact Q6E b n _ _ d (by rw[e];exact a) (by rw[e];omega) (by rw[e];omega)
def T5 (l:List Cla):Prop:=(l.map (·.name)).Nodup
theorem T5.lk {l:List Cla} (h:T5 l) {c:Cla} (k:c∈l):Go.Hm.lk l c.name=some c:=by
 obtain ⟨d,f⟩:=Q9l k
 obtain ⟨e,p,i,o,b⟩:=V4 f
 obtain ⟨j,m,rfl⟩:=List.getElem_of_mem k
 obtain ⟨a,g⟩:=List.getElem?_eq_some_iff.1 b
 have:i=j:=by
  have n:(l.map (·.name))[i]'(by simpa using a)=(l.map (·.name))[j]'(by simpa using m):=by simp[g,e]
  exact (List.getElem_inj h).1 n
 subst this
 rw[f,←g]
theorem T5.find {l:List Cla} (h:T5 l) {i:Nat} {c:Cla} (k:l[i]? =some c):Z1 l c.name=some i:=by
 obtain ⟨b,rfl⟩:=List.getElem?_eq_some_iff.1 k
 have:=h.lk (List.getElem_mem b)
 obtain ⟨e,n,j,d,f⟩:=V4 this
 obtain ⟨a,g⟩:=List.getElem?_eq_some_iff.1 f
 have:j=i:=by
  have m:(l.map (·.name))[j]'(by simpa using a)=(l.map (·.name))[i]'(by simpa using b):=by simp[g]
  exact (List.getElem_inj h).1 m
 rw[d,this]
end Go.Hm

namespace Go.Emb
open Go.RowKit Go.Hm
variable {P : Program} {w w0 w1 w' w'' : World} {K : Value → World → Prop} {σ σ0 σ1 σ2 σ' : Q6}
theorem Stp.join (c:Stp w σ w' σ1) (d:Stp w σ w' σ2): ∃f,Stp w σ w' f∧SLe σ1 f∧SLe σ2 f:=by
 have g: ∀b o,σ1 b=some o→(fun b=>(σ1 b).or (σ2 b)) b=some o:=fun b o e=>by simp[e]
 have j: ∀b o,σ2 b=some o→(fun b=>(σ1 b).or (σ2 b)) b=some o:=by
  intro b o e
  cases a:σ1 b with
  | none=>simp[a,e]
  | some p=>
   have i:=c.sat b p a
   have h:=d.sat b o e
   rw[i] at h;cases h;simp only[a,Option.some_or]
 refine ⟨fun b=>(σ1 b).or (σ2 b),⟨c.bel,?_,fun b o e=>g b o (c.le b o e),?_⟩,⟨g⟩,⟨j⟩⟩
 ·intro b o e
  cases a:σ1 b with
  | none=>simp only[a,Option.none_or] at e;exact d.sat b o e
  | some p=>simp only[a,Option.some_or] at e;cases e;exact c.sat b _ a
 ·intro b a
  simp only[c.old b a,d.old b a];cases σ b<;>rfl
theorem Wi {Φ:Q6→Value→Prop} {A a:(Value→World→Prop)→Prop} (h:A (fun v w'=> ∃σ',Stp w σ w' σ'∧Φ σ' v)) (e:a (fun v w'=> ∃σ',Stp w σ w' σ'∧Φ σ' v)):Q5 (fun w w'=>Below w.heap.size w w') A a:=
 E5 _ (fun _ _ _ ⟨σ',b,d⟩ c=>⟨σ',b.trans (Stp.of_below b.sat c),d⟩) h e
theorem Rr {Φ:Q6→Value→Prop} {v:Value} (b:Hst w σ w1 σ) (h:Stp w1 σ w' σ') (a:Φ σ' v):dk (fun w w'=>Below w.heap.size w w') (fun v w'=> ∃σ',Stp w σ w' σ'∧Φ σ' v) w1 v w':=
 ⟨h.bel,σ',b.stp.trans h,a⟩
theorem E4.mk {m:Hm.Met} {pv a b:Value} (h:Sl 1 U6 σ pv m.params) (d:Sl 3 Qj σ a m.code) (g:Sl 4 Jj σ b m.catches) (e:m.name.length≤U1) (f:m.result.length≤U1) (c:Yi m.locals):E4 σ m [S m.name,pv,S m.result, .bool m.abs,I m.locals,a,b]:=
 ⟨pv,a,b,rfl,h,d,g,e,f,c⟩
theorem V0.mk {c:Cla} {a b mv:Value} (h:Sl 1 U6 σ a c.like) (d:Sl 3 R8 σ b c.fields) (g:Sl 7 E4 σ mv c.methods) (e:c.name.length≤U1) (f:c.super.length≤U1):V0 σ c [S c.name,S c.super,a, .bool c.iface, .bool c.abs, .bool c.fin,b,mv]:=
 ⟨a,b,mv,rfl,h,d,g,e,f⟩
end Go.Emb
namespace Go.Hm
def SmM (m:Hm.Met):Prop:=m.params.length≤1000000∧m.code.length≤1000000∧m.catches.length≤1000000
def Qn (c:Cla):Prop:=c.like.length≤1000000∧c.fields.length≤1000000∧c.methods.length≤1000000∧ ∀m∈c.methods,SmM m
end Go.Hm
namespace Go.Proofs.YtjdiakhipmggjaaGreatDoor
open Go.Emb Go.RowKit Go.Kd Go.Hm
variable {w : World} {K : Value → World → Prop} {σ : Q6}
theorem Q4k {m:Hm.Met} {cs:List Value} (hs:X2 w σ) (Z:E4 σ m cs) (u:SmM m)
 (h: ∀pv o f w' σ',Stp w σ w' σ'→E4 σ' m [S m.name,pv,S m.result, .bool m.abs,I m.locals,o,f]→K (.agg [S m.name,pv,S m.result, .bool m.abs,I m.locals,o,f].toArray) w'):Q1 P F.c7 [.agg cs.toArray] w K:=Q4W (by
 obtain ⟨pv,o,f,rfl,z,C,B,g4,Y,X⟩:=Z
 obtain ⟨s1,s2,s3⟩:=u
 unfold Tv
 refine Ev hs fun b w1 σ1 d j a=>?_
 refine M8 j.sat fun b2 w2 σ2 H g c=>?_
 have aw:=a.lt
 replace a:=a.step g
 have J:=g.sat
 have z:=(z.up j).up g
 have C:=(C.up j).up g
 have B:=(B.up j).up g
 have L: ∀{w':World} (i:Nat) (v:Value),[S m.name,pv,S m.result, .bool m.abs,I m.locals,o,f][i]? =some v→Hst w2 σ2 w' σ2→w'.cell? ((⟨b,0,none⟩:Addr).add i)=some v:=fun i v f hh=>(a.step hh.stp).cell f
 refine U2 J ?_
 refine X4 (.pointer (some ((⟨b,0,none⟩:Addr).add 1))) (fun w d=>by rw[fa];exact X6 rfl) ?_
 refine X4 (.pointer (some ((⟨b,0,none⟩:Addr).add 5))) (fun w d=>by rw[fa];exact X6 rfl) ?_
 refine X4 (.pointer (some ((⟨b,0,none⟩:Addr).add 6))) (fun w d=>by rw[fa];exact X6 rfl) ?_
 refine X4 pv (fun t w d e=>by rw[e];exact Qd (L 1 pv rfl d) (X6 rfl)) ?_
 refine Wi (Φ:=fun σ' v=>Sl 1 U6 σ' v m.params) (fun t w d e=>by rw[e];exact Wz d.sat z s1 fun U w' σ' p f=>Rr d p f) ?_
 refine X4 o (fun t w d e=>by rw[e];exact Qd (L 5 o rfl d) (X6 rfl)) ?_
 refine Wi (Φ:=fun σ' v=>Sl 3 Qj σ' v m.code) (fun t w d e=>by rw[e];exact Ee d.sat C s2 fun U w' σ' p f=>Rr d p f) ?_
 refine X4 f (fun t w d e=>by rw[e];exact Qd (L 6 f rfl d) (X6 rfl)) ?_
 refine X4 (.pointer (some ((⟨b,0,none⟩:Addr).add 1))) (fun w d=>by rw[fa];exact X6 rfl) ?_
 refine Wi (Φ:=fun σ' v=>Sl 4 Jj σ' v m.catches) (fun t w d e=>by rw[e];exact En d.sat B s3 fun U w' σ' p f=>Rr d p f) ?_
 rintro t1 t2 t3 t4 t5 t6 t8 t9 ah y w3 ap e1 e2 e3 e4 ⟨σ5,k5,r⟩ e6 ⟨σ8,k8,q⟩ e9 E ⟨af,D,k⟩
 subst E
 obtain ⟨σa,ka,A,N⟩:=k5.join k8
 obtain ⟨σ3,M,R,l2⟩:=ka.join D
 have r:=(r.lift A).lift R
 have q:=(q.lift N).lift R
 have k:=k.lift l2
 have a:=a.step M
 have c:=c.step M
 have n:b2≠b:=by omega
 have l:=(j.trans g).trans M
 refine Ud a (by simp) (Wu r) (A6 r) fun w4 V a=>?_
 rw[fa]
 have l:=V.stp l d a.1
 have c:=c.upd V n
 refine Ud a (by simp) (Wu q) (A6 q) fun w5 W a=>?_
 rw[fa]
 have l:=W.stp l d a.1
 have c:=c.upd W n
 refine Ud a (by simp) (Wu k) (A6 k) fun w6 Q a=>?_
 have l:=Q.stp l d a.1
 have c:=c.upd Q n
 refine Sc a rfl ?_
 have O:=E4.mk r q k g4 Y X
 have s:=M9 H j
 refine Mj c rfl rfl (by rw[List.all_toArray];exact List.all_eq_true.2 (Rep.one O)) fun w7 u7 c=>?_
 have l:=u7.stp l s c.1
 refine V2 c rfl ?_
 exact h t5 t8 y w7 σ3 l O)
theorem X16 {c:Cla} {cs:List Value} (hs:X2 w σ) (hc:V0 σ c cs) (ah:Qn c)
 (h: ∀X U mv w' σ',Stp w σ w' σ'→V0 σ' c [S c.name,S c.super,X, .bool c.iface, .bool c.abs, .bool c.fin,U,mv]→K (.agg [S c.name,S c.super,X, .bool c.iface, .bool c.abs, .bool c.fin,U,mv].toArray) w'):Q1 P F.cx [.agg cs.toArray] w K:=Q4R (by
 obtain ⟨X,U,mv,rfl,g1,g2,V,g4,g5⟩:=hc
 obtain ⟨s1,s2,s3,s4⟩:=ah
 unfold Tw
 refine Ev hs fun b w1 σ1 l o f=>?_
 refine M8 o.sat fun W w2 σ2 ao m g=>?_
 have bv:=f.lt
 replace f:=f.step m
 have ap:=m.sat
 have g1:=(g1.up o).up m
 have g2:=(g2.up o).up m
 have V:=(V.up o).up m
 have L: ∀{w':World} (i:Nat) (v:Value),[S c.name,S c.super,X, .bool c.iface, .bool c.abs, .bool c.fin,U,mv][i]? =some v→Hst w2 σ2 w' σ2→w'.cell? ((⟨b,0,none⟩:Addr).add i)=some v:=fun i v R hh=>(f.step hh.stp).cell R
 refine U2 ap ?_
 refine X4 (.pointer (some ((⟨b,0,none⟩:Addr).add 2))) (fun w l=>by rw[fa];exact X6 rfl) ?_
 refine X4 (.pointer (some ((⟨b,0,none⟩:Addr).add 6))) (fun w l=>by rw[fa];exact X6 rfl) ?_
 refine X4 X (fun t w l e=>by rw[e];exact Qd (L 2 X rfl l) (X6 rfl)) ?_
 refine Wi (Φ:=fun σ' v=>Sl 1 U6 σ' v c.like) (fun t w l e=>by rw[e];exact Wz l.sat g1 s1 fun v' w' σ' H R=>Rr l H R) ?_
 refine X4 U (fun t w l e=>by rw[e];exact Qd (L 6 U rfl l) (X6 rfl)) ?_
 refine X4 (.pointer (some ((⟨b,0,none⟩:Addr).add 2))) (fun w l=>by rw[fa];exact X6 rfl) ?_
 refine Wi (Φ:=fun σ' v=>Sl 3 R8 σ' v c.fields) (fun t w l e=>by rw[e];exact Ey l.sat g2 s2 fun v' w' σ' H R=>Rr l H R) ?_
 rintro t6 t9 t7 t8 bi bh Z w3 br e6 e9 e7 ⟨σ8,k8,f8⟩ bl ak ⟨bf,am,z⟩
 subst ak
 obtain ⟨σ3,k3,l1,l2⟩:=k8.join am
 have f8:=f8.lift l1
 have z:=z.lift l2
 have V:=V.up k3
 have f:=f.step k3
 have g:=g.step k3
 have N:W≠b:=by omega
 have hS:=(o.trans m).trans k3
 refine Ud f (by simp) (Wu f8) (A6 f8) fun w4 u4 f=>?_
 rw[fa]
 have hS:=u4.stp hS l f.1
 have g:=g.upd u4 N
 refine Ud f (by simp) (Wu z) (A6 z) fun w5 u5 f=>?_
 rw[fa]
 have hS:=u5.stp hS l f.1
 have g:=g.upd u5 N
 refine Ye f rfl ?_
 refine Q8 V ?_
 refine E8 c.methods.length (fun n a w'=> ∃σ',Stp w σ w' σ'∧SLe σ3 σ'∧V6 w.heap.size T.d 7 E4 σ' w' a (c.methods.take n)∧Y1 σ' w' b [S c.name,S c.super,t8, .bool c.iface, .bool c.abs, .bool c.fin,Z,mv]∧Y1 σ' w' W [S [],S [], .slice none 0 0, .bool false, .bool false, .bool false, .slice none 0 0, .slice none 0 0]∧ ∀k,a.ownBlock=some k→k≠b∧k≠W)
  ⟨σ3,hS,SLe.refl _,V6.nil,f,g,fun k H=>by cases H⟩ fun n a w6 d hn hi=>?_
 obtain ⟨σ6,B,C,ha,f,g,j⟩:=hi
 refine Z2 ?_
 refine Q7 (fun hh=>?_) (fun hh=>?_)
 ·have y:n<c.methods.length:=by simpa using hh
  have ad:c.methods.length≤9223372036854775807:=by omega
  refine M7 (V.lift C) y fun p cs hl A Y=>?_
  refine Y4 B.sat hl A ?_
  refine Y8 B.sat (by rfl) A (Rep.one Y) fun q w7 σ7 r hq=>?_
  refine Y4 r.sat hq A ?_
  refine Q4k r.sat (Rep.up r.le Y) (s4 _ (List.getElem_mem y)) fun pv cv R w8 σ8 O aq=>?_
  have J:=(Nxt.of_stp (D:=fun k=>a.ownBlock=some k) r).trans (Nxt.of_stp O)
  have an:=(ha.up r).up O
  have ay:=(f.nx J fun e=>(j _ e).1 rfl).lt
  have a0:=(g.nx J fun e=>(j _ e).2 rfl).lt
  refine Ug ((B.trans r).trans O) an aq rfl rfl rfl (by rw[List.length_take];omega) (by rw[List.length_take];omega) fun s v' w9 σ9 u av al hat=>?_
  refine O4 ?_
  have u:=J.trans u
  refine J5 ad y ⟨σ9,av,C.more u.le,?_,f.nx u fun e=>(j _ e).1 rfl,g.nx u fun e=>(j _ e).2 rfl,?_⟩
  ·rw[List.take_add_one,List.getElem?_eq_getElem y];exact al
  ·intro k H
   rcases hat with hat | hat
   ·exact j k (hat▸H)
   ·have:=hat k H
    constructor<;>omega
 ·have y: ¬n<c.methods.length:=by simpa using hh
  rw[List.take_of_length_le (by omega)] at ha
  obtain ⟨σ7,Q,M,aa,E⟩:=ha.keep B
  have f:Y1 σ7 w6 b _:=⟨(E b fun e=>(j b e.symm).1 rfl).trans f.1,f.2⟩
  have g:Y1 σ7 w6 W _:=⟨(E W fun e=>(j W e.symm).2 rfl).trans g.1,g.2⟩
  rw[fa]
  refine Ud f (by simp) (Wu M) (A6 M) fun w7 u7 f=>?_
  have Q:=u7.stp Q l f.1
  have g:=g.upd u7 N
  refine Sc f rfl ?_
  have Y:=V0.mk (f8.lift (C.more ⟨aa⟩)) (z.lift (C.more ⟨aa⟩)) M g4 g5
  have ae:=M9 ao o
  refine Mj g rfl rfl (by rw[List.all_toArray];exact List.all_eq_true.2 (Rep.one Y)) fun w8 u8 g=>?_
  have ar:=u8.stp Q ae g.1
  refine V2 g rfl ?_
  exact h t8 Z a w8 σ7 ar Y)
end Go.Proofs.YtjdiakhipmggjaaGreatDoor

namespace Go.Hm
open Go.Kd
def C7 {α:Type}:Nat→List α→List α
 | 0,xs=>xs
 | i+1,xs=>match (C7 i xs)[i]?,(C7 i xs)[xs.length-1-i]? with
  | some a,some b=>((C7 i xs).set i b).set (xs.length-1-i) a
  | _,_=>C7 i xs
theorem Q0z {α:Type} (xs:List α): ∀i,2*i≤xs.length→(C7 i xs).length=xs.length∧ ∀k,k<xs.length→(C7 i xs)[k]? =if k<i∨xs.length-1-k<i then xs[xs.length-1-k]? else xs[k]?
 | 0,_=>⟨rfl,fun k j=>by simp[C7]⟩
 | i+1,h=>by
  obtain ⟨m,f⟩:=Q0z xs i (by omega)
  have b:=f i (by omega)
  have a:=f (xs.length-1-i) (by omega)
  rw[if_neg (by omega)] at b a
  have n:i<xs.length:=by omega
  have d:xs.length-1-i<xs.length:=by omega
  rw[List.getElem?_eq_getElem (l:=xs) n] at b
  rw[List.getElem?_eq_getElem (l:=xs) d] at a
  simp only[C7,b,a]
  refine ⟨by simp[m],fun k j=>?_⟩
  by_cases c:k=xs.length-1-i
  ·subst c
   rw[List.getElem?_set_self (by simp[m];omega),if_pos (by omega)]
   rw[show xs.length-1-(xs.length-1-i)=i by omega,List.getElem?_eq_getElem (by omega)]
  ·rw[List.getElem?_set_ne (by omega)]
   by_cases e:k=i
   ·subst e
    rw[List.getElem?_set_self (by omega),if_pos (by omega),List.getElem?_eq_getElem (by omega)]
   ·rw[List.getElem?_set_ne (by omega),f k j]
    by_cases g:k<i∨xs.length-1-k<i
    ·rw[if_pos g,if_pos (by omega)]
    ·rw[if_neg g,if_neg (by omega)]
theorem X02 {α:Type} (xs:List α) (i:Nat) (c:2*i≤xs.length) (e:xs.length≤2*i+1):C7 i xs=xs.reverse:=by
 obtain ⟨f,d⟩:=Q0z xs i c
 apply List.ext_getElem?
 intro k
 by_cases b:k<xs.length
 ·rw[d k b,List.getElem?_reverse b]
  by_cases a:k<i∨xs.length-1-k<i
  ·rw[if_pos a]
  ·rw[if_neg a];congr 1;omega
 ·rw[List.getElem?_eq_none (by omega),List.getElem?_eq_none (by simp;omega)]
theorem Ta (L:Wx): ∀(f:Nat) (n:X0),(I5 L f n).length≤f
 | 0,_=>by simp[I5]
 | f+1,n=>by
  simp only[I5]
  split
  ·simp
  ·have:=Ta L f (by rename_i c _;exact c.super)
   simp only[List.length_cons];rename_i c _;have:=Ta L f c.super;omega
theorem Be (l:List Cla) (n:X0):(chain l n).length≤l.length+1:=Ta _ _ _
theorem Bf {l:List Cla} {n:X0} {c:Cla} (h:c∈chain l n):c∈l:=by
 have key: ∀(f:Nat) (n:X0),c∈I5 (lk l) f n→c∈l:=by
  intro f
  induction f with
  | zero=>intro n h;simp[I5] at h
  | succ f a=>
   intro n h
   simp only[I5] at h
   split at h
   ·simp at h
   ·rename_i d b
    rcases List.mem_cons.1 h with rfl | h
    ·exact (V4 b).2.1
    ·exact a _ h
 exact key _ _ h
theorem Vv {α β:Type} (f:α→List β) (k:Nat): ∀(xs:List α),(∀x∈xs,(f x).length≤k)→(xs.flatMap f).length≤xs.length*k
 | [],_=>by simp
 | x::r,h=>by
  have c:=h x (by simp)
  have b:=Vv f k r fun y a=>h y (by simp[a])
  simp only[List.flatMap_cons,List.length_append,List.length_cons,Nat.add_mul];omega
end Go.Hm

namespace Go.Hm
open Go.Kd
def Y2 (l:List Cla) (i:Nat):X0:=(l.getD i Cla.zero).name
theorem Yh {l:List Cla} (b:T5 l) {i:Nat} (a:i<l.length):lk l (Y2 l i)=some (l.getD i Cla.zero):=by
 have e:l.getD i Cla.zero=l[i]:=by rw[List.getD_eq_getElem?_getD,List.getElem?_eq_getElem a];rfl
 unfold Y2
 rw[e];exact b.lk (List.getElem_mem a)
theorem S5 {l:List Cla} {u:X0} {j:Nat} (h:Z1 l u=some j):j<l.length∧Y2 l j=u:=by
 obtain ⟨a,b,_⟩:=List.findIdx?_eq_some_iff_getElem.1 h
 refine ⟨a,?_⟩
 unfold Y2
 rw[List.getD_eq_getElem?_getD,List.getElem?_eq_getElem a]
 simpa using b
theorem Q1I {l:List Cla} (f:Jb l) (e:T5 l) {i j:Nat} (b:i<l.length) {u:X0} (g:u∈U4 (l.getD i Cla.zero)) (a:Z1 l u=some j):P0 l (Y2 l j)<P0 l (Y2 l i):=by
 obtain ⟨c,d,_⟩:=Zm a
 rw[(S5 a).2]
 exact Xs f (Yh e b) g d
theorem Bu {α β:Type} {f g:β→α→β}: ∀(xs:List α) (b:β),(∀b x,x∈xs→f b x=g b x)→xs.foldl f b=xs.foldl g b
 | [],_,_=>rfl
 | x::r,b,h=>by
  rw[List.foldl_cons,List.foldl_cons,h b x (by simp)]
  exact Bu r _ fun b y a=>h b y (by simp[a])
theorem Yk {l:List Cla} {frm:Nat} (f:Nat) (a:List Nat) {i:Nat} (h:i<frm):A5 l frm f a i=a:=by
 cases f<;>simp[A5,h]
theorem Q9U {l:List Cla} (p:Jb l) (o:T5 l) {frm:Nat} (d:0<frm): ∀(f g:Nat) (a:List Nat) (i:Nat),i<l.length→P0 l (Y2 l i)<f→P0 l (Y2 l i)<g→A5 l frm f a i=A5 l frm g a i:=by
 intro f
 induction f with
 | zero=>intro g a i _ h;omega
 | succ f n=>
  intro g a i k r q
  obtain ⟨g,rfl⟩: ∃m,g=m+1:=⟨g-1,by omega⟩
  simp only[A5]
  split
  ·rfl
  ·split
   ·rfl
   ·congr 1
    refine Bu _ _ fun b u e=>?_
    cases c:Z1 l u with
    | none=>simp only[Option.getD_none];rw[Yk f b d,Yk g b d]
    | some j=>
     simp only[Option.getD_some]
     have:=Q1I p o k e c
     exact n g b j (S5 c).1 (by omega) (by omega)
def Xy (l:List Cla) (frm:Nat) (a:List Nat) (i:Nat):List Nat:=A5 l frm (l.length+1) a i
theorem Q7t {l:List Cla} (e:Jb l) (f:T5 l) {frm:Nat} (c:0<frm) (a:List Nat) {i:Nat} (g:i<l.length):Xy l frm a i=if i<frm then a else if i∈a then a else
 ((U4 (l.getD i Cla.zero)).foldl (fun a n=>Xy l frm a ((Z1 l n).getD 0)) a)++[i]:=by
 have k:=Q1s l (Y2 l i)
 unfold Xy
 rw[A5]
 split
 ·rfl
 ·split
  ·rfl
  ·congr 1
   refine Bu _ _ fun b u h=>?_
   cases d:Z1 l u with
   | none=>simp only[Option.getD_none];rw[Yk _ b c,Yk _ b c]
   | some j=>
    simp only[Option.getD_some]
    have:=Q1I e f g h d
    exact Q9U e f c _ _ b j (S5 d).1 (by omega) (by omega)
theorem Ll {α:Type} {p:Nat→Prop} {f:List Nat→α→List Nat}: ∀(xs:List α) (b:List Nat),(∀b x,x∈xs→ ∀y∈f b x,y∈b∨p y)→ ∀y∈xs.foldl f b,y∈b∨p y
 | [],b,_=>fun y a=> .inl a
 | x::r,b,h=>fun y a=>by
  rw[List.foldl_cons] at a
  rcases Ll r _ (fun b z c=>h b z (by simp[c])) y a with h1 | h1
  ·exact h b x (by simp) y h1
  ·exact .inr h1
theorem Q5a {l:List Cla} (n:T5 l) {frm:Nat} (s:0<frm): ∀(f:Nat) (a:List Nat) (i:Nat),i<l.length→ ∀y∈A5 l frm f a i,y∈a∨(y<l.length∧(y=i∨Wr (lk l) (Y2 l i) (Y2 l y))):=by
 intro f
 induction f with
 | zero=>intro a i _ y hy;exact .inl hy
 | succ f r=>
  intro a i k y hy
  simp only[A5] at hy
  split at hy
  ·exact .inl hy
  ·split at hy
   ·exact .inl hy
   ·rcases List.mem_append.1 hy with hy | hy
    ·refine Ll (p:=fun y=>y<l.length∧(y=i∨Wr (lk l) (Y2 l i) (Y2 l y))) _ _ (fun b u m y hy=>?_) y hy
     cases e:Z1 l u with
     | none=>
      rw[e] at hy
      simp only[Option.getD_none] at hy
      rw[Yk f b s] at hy
      exact .inl hy
     | some j=>
      rw[e] at hy
      simp only[Option.getD_some] at hy
      obtain ⟨g,d⟩:=S5 e
      obtain ⟨c,q,_⟩:=Zm e
      rcases r b j g y hy with h | ⟨o,rfl | h2⟩
      ·exact .inl h
      ·exact .inr ⟨o, .inr ⟨_,Yh n k,u,m,by rw[d];exact .refl q⟩⟩
      ·exact .inr ⟨o, .inr ⟨_,Yh n k,u,m,by rw[←d];exact h2.reach⟩⟩
    ·simp at hy;subst hy;exact .inr ⟨k, .inl rfl⟩
theorem Q2Y {α:Type} {q:List Nat→Prop} {f:List Nat→α→List Nat}: ∀(xs:List α) (b:List Nat),(∀b x,x∈xs→q b→q (f b x))→q b→q (xs.foldl f b)
 | [],b,_,h=>h
 | x::r,b,a,h=>by
  rw[List.foldl_cons]
  exact Q2Y r _ (fun b z c=>a b z (by simp[c])) (a b x (by simp) h)
def Few (l:List Cla) (a:List Nat):Prop:=a.Nodup∧ ∀y∈a,y<l.length
theorem Few.len {l:List Cla} {b:List Nat} (h:Few l b):b.length≤l.length:=by
 have key: ∀(n:Nat) (b:List Nat),b.Nodup→(∀y∈b,y<n)→b.length≤n:=by
  intro n
  induction n with
  | zero=>
   intro b _ h
   cases b with
   | nil=>simp
   | cons a r=>have:=h a (by simp);omega
  | succ n i=>
   intro b f h
   have k:=i (b.filter (fun y=> !decide (y=n))) (f.sublist List.filter_sublist) (fun y c=>by
    have:=List.mem_filter.1 c
    have j:=h y this.1
    have o:y≠n:=by simpa using this.2
    omega)
   have j:b.length≤(b.filter (fun y=> !decide (y=n))).length+1:=by
    clear k h
    induction b with
    | nil=>simp
    | cons a r d=>
     obtain ⟨m,g⟩:=List.nodup_cons.1 f
     by_cases e:a=n
     ·subst e
      have:r.filter (fun y=> !decide (y=a))=r:=List.filter_eq_self.2 fun y c=>by simp;rintro rfl;exact m c
      simp[this]
     ·have:=d g
      simp[e];exact this
   omega
 exact key _ _ h.1 h.2
theorem Ka {l:List Cla} (w:Jb l) (t:T5 l) {frm:Nat} (v:0<frm): ∀(f:Nat) (d:List Nat) (i:Nat),i<l.length→Few l d→Few l (A5 l frm f d i):=by
 intro f
 induction f with
 | zero=>intro d i _ h;exact h
 | succ f C=>
  intro d i A h
  simp only[A5]
  split
  ·exact h
  ·split
   ·exact h
   ·rename_i r
    have z:Few l ((U4 (l.getD i Cla.zero)).foldl (fun d n=>A5 l frm f d ((Z1 l n).getD 0)) d):=by
     refine Q2Y _ _ (fun b u s k=>?_) h
     cases e:Z1 l u with
     | none=>simp only[Option.getD_none];rw[Yk f b v];exact k
     | some j=>exact C b j (S5 e).1 k
    have q:i∉(U4 (l.getD i Cla.zero)).foldl (fun d n=>A5 l frm f d ((Z1 l n).getD 0)) d:=by
     intro g
     rcases Ll (p:=fun y=>Wr (lk l) (Y2 l i) (Y2 l y)) _ _ (fun b u s y hy=>by
      cases e:Z1 l u with
      | none=>
       rw[e] at hy
       simp only[Option.getD_none] at hy
       rw[Yk f b v] at hy
       exact .inl hy
      | some j=>
       rw[e] at hy
       simp only[Option.getD_some] at hy
       obtain ⟨o,m⟩:=S5 e
       obtain ⟨c,B,_⟩:=Zm e
       rcases Q5a t v f b j o y hy with h | ⟨h1,rfl | h2⟩
       ·exact .inl h
       ·exact .inr ⟨_,Yh t A,u,s,by rw[m];exact .refl B⟩
       ·exact .inr ⟨_,Yh t A,u,s,by rw[←m];exact h2.reach⟩) i g with h1 | h1
     ·exact r h1
     ·exact w _ h1
    refine ⟨?_,fun y hy=>?_⟩
    ·rw[List.nodup_append]
     exact ⟨z.1,by simp,by rintro a w b k rfl;simp at k;subst k;exact q w⟩
    ·rcases List.mem_append.1 hy with hy | hy
     ·exact z.2 y hy
     ·simp at hy;omega
end Go.Hm

namespace Go.Emb
open Go.RowKit Go.Hm
variable {P : Program} {w w0 w1 w' w'' : World} {K : Value → World → Prop} {σ σ0 σ1 σ' : Q6}
def Vs (sz:Nat) (v:Value) (i:Nat):Addr:=match v with
 | .slice (some b) _ _=>b.add (i*sz)
 | _=>⟨0,0,none⟩
section
variable {α : Type} {R : Q6 → α → List Value → Prop} {sz : Nat} {v : Value} {xs : List α}
theorem Sl.el (h:Sl sz R σ v xs) {i:Nat} (d:i<xs.length): ∃cs,Z4 σ (Vs sz v i) cs∧cs.length=sz∧R σ xs[i] cs:=by
 obtain ⟨a,f,rfl,l,m,e,g⟩:=h
 cases a with
 | none=>have:=e rfl;omega
 | some b=>
  obtain ⟨cs,k,c,j⟩:=(g b rfl).2 i xs[i] (by simp[d])
  exact ⟨cs,k,c,j⟩
theorem Y3 {t e:TypeId} {c:Nat} {z:Value} [TS P t e] [TZ P e sz c z] (h:Sl sz R σ v xs) {i:Nat} (j:i<xs.length) (g:K (.pointer (some (Vs sz v i))) w):indexAddr P t v (I i) w K:=by
 obtain ⟨a,f,rfl,k,m,d,l⟩:=h
 cases a with
 | none=>have:=d rfl;omega
 | some b=>
  rw[Sh (by omega) (by omega)]
  simpa [Vs] using g
theorem Sl.elS {xs:List Kd.X0} (h:Sl 1 U6 σ v xs) {i:Nat} (a:i<xs.length):Z4 σ (Vs 1 v i) [S xs[i]]∧xs[i].length≤U1:=by
 obtain ⟨cs,c,d,rfl,b⟩:=h.el a;exact ⟨c,b⟩
theorem Sl.elF {xs:List Fld} (h:Sl 3 R8 σ v xs) {i:Nat} (a:i<xs.length):Z4 σ (Vs 3 v i) [S xs[i].name,S xs[i].kind, .bool xs[i].tr]∧R8 σ xs[i] [S xs[i].name,S xs[i].kind, .bool xs[i].tr]:=by
 obtain ⟨cs,c,d,rfl,b⟩:=h.el a;exact ⟨c,rfl,b⟩
theorem Sl.elI {xs:List Ins} (h:Sl 3 Qj σ v xs) {i:Nat} (a:i<xs.length):Z4 σ (Vs 3 v i) [S xs[i].op,I xs[i].n,S xs[i].s]∧Qj σ xs[i] [S xs[i].op,I xs[i].n,S xs[i].s]:=by
 obtain ⟨cs,c,d,rfl,b⟩:=h.el a;exact ⟨c,rfl,b⟩
theorem Sl.elK {xs:List Cat} (h:Sl 4 Jj σ v xs) {i:Nat} (a:i<xs.length):Z4 σ (Vs 4 v i) [I xs[i].frm,I xs[i].to,I xs[i].at_,S xs[i].cls]∧Jj σ xs[i] [I xs[i].frm,I xs[i].to,I xs[i].at_,S xs[i].cls]:=by
 obtain ⟨cs,c,d,rfl,b⟩:=h.el a;exact ⟨c,rfl,b⟩
theorem Sl.conv {α β:Type} {R:Q6→α→List Value→Prop} {R':Q6→β→List Value→Prop} {sz:Nat} {v:Value} {xs:List α} {ys:List β} (h:Sl sz R σ v xs) (f:ys.length=xs.length) (l: ∀i (j:i<xs.length) (s:i<ys.length) cs,R σ xs[i] cs→R' σ ys[i] cs):Sl sz R' σ v ys:=by
 obtain ⟨a,d,rfl,n,o,m,e⟩:=h
 refine ⟨a,d,by rw[f],by rw[f];exact n,o,m,fun b g=>⟨fun t=>(e b g).1 (by omega),fun i x q=>?_⟩⟩
 obtain ⟨j,rfl⟩:=List.getElem?_eq_some_iff.1 q
 have c:i<xs.length:=by omega
 obtain ⟨cs,p,k,r⟩:=(e b g).2 i xs[i] (List.getElem?_eq_getElem c)
 exact ⟨cs,p,k,l i c j cs r⟩
theorem Sl.elM {xs:List Hm.Met} (h:Sl 7 E4 σ v xs) {i:Nat} (c:i<xs.length): ∃pv a b,Z4 σ (Vs 7 v i) [S xs[i].name,pv,S xs[i].result, .bool xs[i].abs,I xs[i].locals,a,b]∧E4 σ xs[i] [S xs[i].name,pv,S xs[i].result, .bool xs[i].abs,I xs[i].locals,a,b]:=by
 obtain ⟨cs,e,f,pv,a,b,rfl,d⟩:=h.el c;exact ⟨pv,a,b,e,pv,a,b,rfl,d⟩
theorem Sl.elC {xs:List Cla} (h:Sl 8 V0 σ v xs) {i:Nat} (c:i<xs.length): ∃a b mv,Z4 σ (Vs 8 v i) [S xs[i].name,S xs[i].super,a, .bool xs[i].iface, .bool xs[i].abs, .bool xs[i].fin,b,mv]∧V0 σ xs[i] [S xs[i].name,S xs[i].super,a, .bool xs[i].iface, .bool xs[i].abs, .bool xs[i].fin,b,mv]:=by
 obtain ⟨cs,e,f,a,b,mv,rfl,d⟩:=h.el c;exact ⟨a,b,mv,e,a,b,mv,rfl,d⟩
end
theorem J7 {b:World→World→Prop} {A a:(Value→World→Prop)→Prop} {V:Value} (h:A (fun v _=>V=v)) (c:a (fun v _=>V=v)):Q5 b A a:=E5 _ (fun _ _ _ h _=>h) h c
theorem N2 {v V:Value} (h:V=v):dk (fun w w'=>Below w.heap.size w w') (fun v _=>V=v) w v w:=⟨Below.refl _ _,h⟩
theorem S1 {v V:Value} (a:Below w.heap.size w w') (h:V=v):dk (fun w w'=>Below w.heap.size w w') (fun v _=>V=v) w v w':=⟨a,h⟩
theorem G5 {c b:Bool} {V:Value} {a:World→(Value→World→Prop)→Prop} (h:c=b→a w (dk (fun w w'=>Below w.heap.size w w') (fun v _=>V=v) w)):Q0 (.bool c) b w a (dk (fun w w'=>Below w.heap.size w w') (fun v _=>(if c=b then V else undef)=v) w):=by
 by_cases e:c=b
 ·simp only[e,if_true]
  subst e
  have:=h rfl
  cases c
  ·rw[W8];exact this
  ·rw[W3];exact this
 ·have d:c= !b:=by cases c<;>cases b<;>simp_all
  rw[if_neg e];subst d
  cases b
  ·rw[Bool.not_false,S3];exact ⟨Below.refl _ _,rfl⟩
  ·rw[Bool.not_true,E1];exact ⟨Below.refl _ _,rfl⟩
theorem Xa {p:Prop} (hq:p:=by intros;(repeat (rename_i hx;subst hx));(repeat' (first | (with_reducible exact N2 rfl) | (with_reducible exact S1 (Stp.bel (by (repeat (first | exact Stp.refl (by (first | assumption | exact Stp.sat (by assumption) | exact Hst.sat (by assumption))) | assumption | refine Stp.trans ?_ (by first | assumption | exact Hst.stp (by assumption)))))) rfl) | (with_reducible intro _) | (simp only[↓M2,M2,Mb,reduceIte]) | (with_reducible show Q2 _ _ _ _ _;first | refine X7 aS aL aR ?_ | refine Y4 aS aL aR ?_ | refine ld aS aL aR ?_) | (with_reducible show indexAddr _ _ _ _ _ _;refine Y3 aL au ?_) | (with_reducible show X3 _ _ _ _ _ _ _ _;refine Q8 aL ?_) | (with_reducible show F4 _ _ _ _ _ _;refine J0 aR ?_) | (with_reducible show pick _ _ _ _ _ _;refine L8 ?_) | (apply G5;intro hh;(try simp only[hh,reduceIte,↓M2,M2,Mb,reduceIte]))));done):p:=hq
end Go.Emb

namespace Go.Emb
open Go.RowKit Go.Hm
variable {P : Program} {w w0 w1 w' w'' : World} {K : Value → World → Prop} {σ σ0 σ1 σ' : Q6}
section
variable {α : Type} {R : Q6 → α → List Value → Prop} {B sz : Nat} {e : TypeId} {v u : Value} {xs ys : List α}
def Emp (v:Value):Prop:= ∃a,v= .slice a 0 0
theorem Q7H {t r:TypeId} {y:Nat} {z:Value} {cs:List Bool} [ts:TS P t e] [tz:TZ P e sz y z] [hr:Rep R] (hS:Stp w0 σ0 w σ) (ha:V6 w0.heap.size e sz R σ w v []) (hv:Emp v) (N:X2 w σ') (V:Sl sz R σ' u ys) (hR: ∀x cs,R σ' x cs→R σ x cs) (Z:(z.cells.size==sz&&decide (0<sz))=true)
 (hb:ys.length*y≤140737488355328) (hm:ys.length≤1000000000000)
 (h: ∀l w',Stp w σ w' σ→V6 w0.heap.size e sz R σ w' l ys→K l w'):X3 P .append [t,t] r cs [v,u] w K:=by
 obtain ⟨j,rfl⟩:=hv
 have M:=hS.sat
 obtain ⟨a,d,c,rfl,n1,C,n3,n4,n5⟩:=V.cells N
 obtain ⟨i,W,O,D,n⟩:=tz.info
 simp only[Bool.and_eq_true,beq_iff_eq,decide_eq_true_eq] at Z
 obtain ⟨J,ae⟩:=Z
 have g:Src P i.size t (.slice a ys.length d) ys.length c w:=by
  cases a with
  | some b=>exact Src.ofSlice w ts.h b ys.length d c (by rw[O];exact C) (n3 b rfl) n4
  | none=>
   have s:ys.length=0:=by
    obtain ⟨Y,X,e',q1,_,q3,_⟩:=V;injection e' with e1 e2 e3;have:=n1 rfl;omega
   have Q:c=[]:=List.eq_nil_of_length_eq_zero (by rw[C,s];simp)
   subst Q
   rw[s];exact Src.ofNil w ts.h d
 have q: ∀l w',(Builtin.append_ #[t,t] r #[.slice j 0 0, .slice a ys.length d]).run P w= .ok l w'→Stp w σ w' σ→V6 w0.heap.size e sz R σ w' l ys→X3 P .append [t,t] r cs [.slice j 0 0, .slice a ys.length d] w K:=by
  intro l w' f L hq
  have o:(builtin .append #[t,t] r cs.toArray #[.slice j 0 0, .slice a ys.length d]).run P w= .ok (.value l) w':=by
   simp[builtin,f]
  unfold X3
  rw[A9];unfold T2
  rw[o]
  exact h l w' L hq
 by_cases s:ys=[]
 ·subst s
  have Q:c=[]:=List.eq_nil_of_length_eq_zero (by simpa using C)
  subst Q
  refine q (.slice j 0 0) w ?_ (Stp.refl M) ha
  have U:=g.len w
  have p:=g.cells
  simp only[List.length_nil] at U p⊢
  cases j<;>simp[Builtin.append_,run_underlying ts.h,sizeOf,typeInfo,W,U,p,storeCells]
 ·have af:0<ys.length:=List.length_pos_iff.2 s
  have m:(Builtin.firstCells i.size 0 (.slice j 0 0)).run P w.drew= .ok (#[]:Array Value) w.drew:=by
   cases j with
   | none=>exact run_firstCells_none w.drew i.size 0 0 0
   | some Y=>exact run_firstCells_some w.drew i.size 0 Y 0 0 [] (by simp) (by intro _ _ h';simp at h')
  have hg:0<0+ys.length:=by omega
  have f:=run_append_grow_src (P:=P) w t t r e i z ts.h W n j 0 0 [] m (.slice a ys.length d) ys.length c g hg (by omega) (growslice_fits hg (by rw[D,Nat.zero_add];exact hb))
  simp only[Nat.zero_add] at f
  have E:=grownCap_le_maxLen w ys.length 0 e (by simp only[maxLen];omega)
  have H:=grownCap_ge w ys.length 0 e
  refine q _ _ f (Stp.of_below M ((Below.refl _ _).drew.alloc (Nat.le_refl _) _)) ⟨c,⟨C, .inr ⟨w.heap.size,_,_,rfl,hS.bel.size,heap_alloc_new w.drew _,H,E,?_,?_⟩⟩,?_,fun i x hx=>hR _ _ (n5 i x hx)⟩
  ·simp only[List.nil_append]
   rw[Array.size_append,List.size_toArray,C,size_zeroCells,J,←Nat.add_mul]
   congr 1;omega
  ·simp only[List.nil_append]
   rw[Array.toList_append]
   rw[List.take_append_of_le_length (by simp only[List.toList_toArray];omega),List.take_of_length_le (by simp only[List.toList_toArray];omega)]
  ·intro k L;cases L;exact M.none (Nat.le_refl _)
theorem X2K {t l:TypeId} {a:Nat} {z:Value} {cs:List Bool} [ts:TS P t e] [tz:TZ P e sz a z] [hr:Rep R] (c:Stp w0 σ0 w σ) (i:V6 w0.heap.size e sz R σ w v []) (g:Emp v) (k:Sl sz R σ u ys) (f:(z.cells.size==sz&&decide (0<sz))=true)
 (d:ys.length*a≤140737488355328) (j:ys.length≤1000000000000)
 (h: ∀b w',Stp w σ w' σ→V6 w0.heap.size e sz R σ w' b ys→K b w'):X3 P .append [t,t] l cs [v,u] w K:=
 Q7H c i g c.sat k (fun _ _ h=>h) f d j h
end
def X0t {α:Type} (w0:World) (σ:Q6) (e:TypeId) (sz:Nat) (R:Q6→α→List Value→Prop) (xs:List α) (v:Value) (w':World):Prop:=Stp w0 σ w' σ∧V6 w0.heap.size e sz R σ w' v xs
def Q8u {α:Type} (w0:World) (σ:Q6) (e:TypeId) (sz:Nat) (R:Q6→α→List Value→Prop) (v:Value) (w':World):Prop:=Stp w0 σ w' σ∧V6 w0.heap.size e sz R σ w' v ([]:List α)∧Emp v
section
variable {α : Type} {R : Q6 → α → List Value → Prop} {sz : Nat} {e : TypeId} {v u : Value} {xs ys : List α} {A rest : (Value → World → Prop) → Prop}
theorem Q1A [Rep R] (xs:List α) (h:A (X0t w σ e sz R xs)) (d:rest (X0t w σ e sz R xs)):Q5 (fun w w'=>Below w.heap.size w w') A rest:=
 E5 _ (fun _ _ _ ⟨a,c⟩ b=>⟨a.trans (Stp.of_below a.sat b),c.up (Stp.of_below a.sat b)⟩) h d
theorem X1Z [Rep R] (h:A (Q8u w σ e sz R)) (d:rest (Q8u w σ e sz R)):Q5 (fun w w'=>Below w.heap.size w w') A rest:=
 E5 _ (fun _ _ _ ⟨a,c,f⟩ b=>⟨a.trans (Stp.of_below a.sat b),c.up (Stp.of_below a.sat b),f⟩) h d
theorem Q3l (b:Hst w σ w1 σ) (h:Stp w1 σ w' σ) (a:V6 w.heap.size e sz R σ w' v xs):dk (fun w w'=>Below w.heap.size w w') (X0t w σ e sz R xs) w1 v w':=⟨h.bel,b.stp.trans h,a⟩
theorem X2H (c:Hst w σ w1 σ) (h:Stp w1 σ w' σ) (b:V6 w.heap.size e sz R σ w' v ([]:List α)) (a:Emp v):dk (fun w w'=>Below w.heap.size w w') (Q8u w σ e sz R) w1 v w':=⟨h.bel,c.stp.trans h,b,a⟩
theorem Et {t:TypeId} {c:Nat} {z:Value} [ts:TS P t e] [tz:TZ P e sz c z] (R:Q6→α→List Value→Prop) (a:Stp w0 σ0 w σ) (i:0<sz)
 (h: ∀v w',Stp w σ w' σ→V6 w0.heap.size e sz R σ w' v ([]:List α)→Emp v→K v w'):buildSlice P t 0 [] w K:=by
 obtain ⟨cells,f,d⟩:=Ht (P:=P) (t:=t) (sz:=sz) (e:=e) [] (by simp) (by simp) w
 unfold buildSlice
 have b:(Instr.buildSlice t 0 ([]:List (Nat×Value)).toArray).run P w=_:=f
 rw[X9 b]
 refine h _ _ (Stp.own a.sat _) ⟨[],⟨by simp, .inr ⟨_,_,cells,rfl,a.bel.size,heap_alloc_new w _,by simp,by simp[maxLen],?_,by simp⟩⟩,?_,by simp⟩ ⟨_,rfl⟩
 ·have:cells.size=0:=by rw[←Array.length_toList,d];rfl
  simp[this]
 ·intro k g;cases g;exact a.sat.none (Nat.le_refl _)
theorem Q34 [Rep R] {t:TypeId} {b:Nat} {z:Value} [ts:TS P t e] [tz:TZ P e sz b z] (a:(decide (0<sz))=true) (f:rest (Q8u w σ e sz R)):
 Q5 (fun w w'=>Below w.heap.size w w') (fun φ=> ∀w1:World,Hst w σ w1 σ→buildSlice P t 0 [] w1 (dk (fun w w'=>Below w.heap.size w w') φ w1)) rest:=
 X1Z (fun w1 c=>Et R c.stp (by simpa using a) fun v w' h g d=>X2H c h g d) f
end
theorem V0.parts {c:Cla} {a b g d e f i mv:Value} (h:V0 σ c [a,b,g,d,e,f,i,mv]):Sl 1 U6 σ g c.like∧Sl 3 R8 σ i c.fields∧Sl 7 E4 σ mv c.methods∧c.name.length≤U1∧c.super.length≤U1:=by
 obtain ⟨_,_,_,j,k⟩:=h
 simp only[List.cons.injEq,and_true] at j
 obtain ⟨_,_,rfl,_,_,_,rfl,rfl⟩:=j
 exact k
theorem E4.parts {m:Hm.Met} {a pv b d e c g:Value} (h:E4 σ m [a,pv,b,d,e,c,g]):Sl 1 U6 σ pv m.params∧Sl 3 Qj σ c m.code∧Sl 4 Jj σ g m.catches∧m.name.length≤U1∧m.result.length≤U1∧Yi m.locals:=by
 obtain ⟨_,_,_,f,i⟩:=h
 simp only[List.cons.injEq,and_true] at f
 obtain ⟨_,rfl,_,_,_,rfl,rfl⟩:=f
 exact i
end Go.Emb

namespace Go.Emb
open Go.RowKit
variable {P : Program} {w : World} {K : Value → World → Prop}
theorem X2p {d:Nat} {xs ys:Array Value}:(Op.eqFields d xs ys []).run P w= .ok true w:=by simp[Op.eqFields]
theorem Kq {d:Nat} {xs ys:Array Value} {f:Field} {a:List Field} {u v:Value} {b c:Bool} (g:f.name≠ "_") [tg:TG P f.type false] (i:xs[f.offset]? =some u) (h:ys[f.offset]? =some v)
 (j:(Op.equalIn d f.type u v).run P w= .ok b w) (e:(Op.eqFields d xs ys a).run P w= .ok c w):(Op.eqFields d xs ys (f::a)).run P w= .ok (b&&c) w:=by
 simp only[Op.eqFields,if_pos g]
 simp[part,Xu tg,i,h,j]
 cases b
 ·simp
 ·simp[e]
theorem X1K {d:Nat} {t:TypeId} (c:P.underlying t=some .string) (a b:List UInt8):(Op.equalIn (d+1) t (S a) (S b)).run P w= .ok (decide (a=b)) w:=by
 simp[Op.equalIn,run_underlying c,Hc]
theorem Q3N {d:Nat} {t:TypeId} {k c:IntKind} (f:P.underlying t=some (.int k)) (a b:Int):(Op.equalIn (d+1) t (.int c a) (.int c b)).run P w= .ok (decide (a=b)) w:=by
 simp[Op.equalIn,run_underlying f]
 by_cases e:a=b<;>simp[e]
theorem X2a {t:TypeId} {c a:Operand} {xs ys:List Value} {b:Bool} (i:P.underlying t=some (.struct (P.fieldsOf t))) (f:P.stoodInHeld t=false) (g:P.eqGuardType P.depth t=false)
 (d:(Op.eqFields 9999 xs.toArray ys.toArray (P.fieldsOf t).toList).run P w= .ok b w) (h:K (.bool (!b)) w):Q3 P .neq t c a (.agg xs.toArray) (.agg ys.toArray) w K:=by
 have e:Q3 P .neq t c a (.agg xs.toArray) (.agg ys.toArray) w K=K (.bool (!b)) w:=X9 (by
  simp only[Sem.run_bind,run_eqGuard_agg w .neq t c a xs.toArray ys.toArray g,Result.andThen_ok]
  rw[run_neq_struct,run_equalIn_struct w 9999 t _ _ i f,d];rfl)
 rw[e];exact h
theorem X29 {t:TypeId} {c a:Operand} {xs ys:List Value} {b:Bool} (i:P.underlying t=some (.struct (P.fieldsOf t))) (f:P.stoodInHeld t=false) (g:P.eqGuardType P.depth t=false)
 (d:(Op.eqFields 9999 xs.toArray ys.toArray (P.fieldsOf t).toList).run P w= .ok b w) (h:K (.bool b) w):Q3 P .eql t c a (.agg xs.toArray) (.agg ys.toArray) w K:=by
 have e:Q3 P .eql t c a (.agg xs.toArray) (.agg ys.toArray) w K=K (.bool b) w:=X9 (by
  simp only[Sem.run_bind,run_eqGuard_agg w .eql t c a xs.toArray ys.toArray g,Result.andThen_ok]
  rw[run_eql_struct,run_equalIn_struct w 9999 t _ _ i f,d];rfl)
 rw[e];exact h
end Go.Emb
namespace Go.Proofs.YtjdiakhipmggjaaGreatDoor
open Go.Emb Go.RowKit Go.Kd Go.Hm
variable {w : World} {K : Value → World → Prop} {σ : Q6}
end Go.Proofs.YtjdiakhipmggjaaGreatDoor

namespace Go.Proofs.YtjdiakhipmggjaaGreatDoor
open Go.Emb Go.RowKit Go.Kd
variable {w : World} {K : Value → World → Prop}
end Go.Proofs.YtjdiakhipmggjaaGreatDoor
