/- Parts of a proof about the given program: its functions as texts of their own, what each computes, plain laws of that. The conditions of each stand in its statement. -/
import Derived.Test.YtjdiakhipmggjaaGreatDoorB2
import Derived.ChangeArms
import Derived.DataReads
import Derived.SizedLaws
import Derived.Deep.AppendSrc
import Derived.Laws.StructEq
import Derived.Test.YtjdiakhipmggjaaGreatDoorB1
set_option linter.unnecessarySimpa false
set_option linter.defProp false
set_option linter.unusedSectionVars false
set_option linter.unusedVariables false
set_option linter.unusedSimpArgs false
namespace Go.Emb
theorem aS {p:Prop} (h:p:=by (first | assumption | exact Stp.sat (by assumption) | exact Hst.sat (by assumption))):p:=h
theorem aL {p:Prop} (h:p:=by (first | assumption | exact Sl.lift (by assumption) (by (repeat (first | exact SLe.refl _ | refine SLe.more ?_ (by assumption) | refine SLe.more ?_ (Nxt.le (by assumption)) | refine SLe.step ?_ (by assumption)))) | exact Z4.lift (by assumption) (by (repeat (first | exact SLe.refl _ | refine SLe.more ?_ (by assumption) | refine SLe.more ?_ (Nxt.le (by assumption)) | refine SLe.step ?_ (by assumption)))) | exact Xd.lift (by assumption) (by (repeat (first | exact SLe.refl _ | refine SLe.more ?_ (by assumption) | refine SLe.more ?_ (Nxt.le (by assumption)) | refine SLe.step ?_ (by assumption)))) | exact RCl_lift (by assumption) (by (repeat (first | exact SLe.refl _ | refine SLe.more ?_ (by assumption) | refine SLe.more ?_ (Nxt.le (by assumption)) | refine SLe.step ?_ (by assumption)))) | exact RMe_lift (by assumption) (by (repeat (first | exact SLe.refl _ | refine SLe.more ?_ (by assumption) | refine SLe.more ?_ (Nxt.le (by assumption)) | refine SLe.step ?_ (by assumption)))) | exact Glb.lift (by assumption) (by (repeat (first | exact SLe.refl _ | refine SLe.more ?_ (by assumption) | refine SLe.more ?_ (Nxt.le (by assumption)) | refine SLe.step ?_ (by assumption)))) | exact Tab.lift (by assumption) (by (repeat (first | exact SLe.refl _ | refine SLe.more ?_ (by assumption) | refine SLe.more ?_ (Nxt.le (by assumption)) | refine SLe.step ?_ (by assumption)))) | exact RIn_any (by assumption) | exact RFd_any (by assumption) | exact RCa_any (by assumption))):p:=h
theorem aR {p:Prop} (h:p:=by with_unfolding_all rfl):p:=h
theorem aF {p:Prop} (a:p:=by (refine Eq.subst (motive:=fun b=>K b _) ?_ (h _ _ (by (repeat (first | exact Stp.refl (by (first | assumption | exact Stp.sat (by assumption) | exact Hst.sat (by assumption))) | assumption | refine Stp.trans ?_ (by first | assumption | exact Hst.stp (by assumption))))));clear h;(try clear hA);(try clear hB);(try clear hC);first | rfl | ((try simp only[Bool.not_eq_true',Bool.not_eq_false',Bool.not_true,Bool.not_false,Bool.not_eq_true] at*);simp only[*,Mb,reduceIte];done) | (simp[*];done) | simp_all)):p:=a
theorem au {p:Prop} (h:p:=by (first | assumption | (first | assumption | exact Stp.sat (by assumption) | exact Hst.sat (by assumption)) | (first | assumption | exact Sl.lift (by assumption) (by (repeat (first | exact SLe.refl _ | refine SLe.more ?_ (by assumption) | refine SLe.more ?_ (Nxt.le (by assumption)) | refine SLe.step ?_ (by assumption)))) | exact Z4.lift (by assumption) (by (repeat (first | exact SLe.refl _ | refine SLe.more ?_ (by assumption) | refine SLe.more ?_ (Nxt.le (by assumption)) | refine SLe.step ?_ (by assumption)))) | exact Xd.lift (by assumption) (by (repeat (first | exact SLe.refl _ | refine SLe.more ?_ (by assumption) | refine SLe.more ?_ (Nxt.le (by assumption)) | refine SLe.step ?_ (by assumption)))) | exact RCl_lift (by assumption) (by (repeat (first | exact SLe.refl _ | refine SLe.more ?_ (by assumption) | refine SLe.more ?_ (Nxt.le (by assumption)) | refine SLe.step ?_ (by assumption)))) | exact RMe_lift (by assumption) (by (repeat (first | exact SLe.refl _ | refine SLe.more ?_ (by assumption) | refine SLe.more ?_ (Nxt.le (by assumption)) | refine SLe.step ?_ (by assumption)))) | exact Glb.lift (by assumption) (by (repeat (first | exact SLe.refl _ | refine SLe.more ?_ (by assumption) | refine SLe.more ?_ (Nxt.le (by assumption)) | refine SLe.step ?_ (by assumption)))) | exact Tab.lift (by assumption) (by (repeat (first | exact SLe.refl _ | refine SLe.more ?_ (by assumption) | refine SLe.more ?_ (Nxt.le (by assumption)) | refine SLe.step ?_ (by assumption)))) | exact RIn_any (by assumption) | exact RFd_any (by assumption) | exact RCa_any (by assumption)) | exact Nat.le_trans (by assumption) (by decide) | omega)):p:=h
end Go.Emb
namespace Go.Proofs.YtjdiakhipmggjaaGreatDoor
open Go.Emb
theorem X3j {a:List UInt8} {cs:List Bool} {r:TypeId} {w:World} {K:Value→World→Prop}:X3 P .len [T.c] r cs [S a] w K=K (I a.length) w:=R1 X8
theorem X3a {d c:Operand} {a b:Bool} {w:World} {K:Value→World→Prop}:Q3 P .eql T.u d c (.bool a) (.bool b) w K=K (.bool (a==b)) w:=Q5N Q2N
theorem X3p {d c:Operand} {a b:Bool} {w:World} {K:Value→World→Prop}:Q3 P .neq T.u d c (.bool a) (.bool b) w K=K (.bool (!(a==b))) w:=Q5P Q2N
def Mm:=And.intro @fa <| And.intro @M3 <| And.intro @A9 <| And.intro @X3j <| And.intro @X3a @X3p
def M1:=And.intro Mm Mr
def M2:=And.intro Mm Mp
end Go.Proofs.YtjdiakhipmggjaaGreatDoor

namespace Go.Proofs.YtjdiakhipmggjaaGreatDoor
open Go.Emb Go.RowKit Go.Kd Go.Hm
variable {w : World} {K : Value → World → Prop} {σ : Q5}
def Wa (m:Hm.Met):Bool:=decide (32<m.params.length)||decide (32<m.catches.length)||decide (200<m.code.length)||decide (64<m.locals)
def Zl (c:Cla):Bool:=c.methods.any Wa||decide (32<c.like.length)||decide (32<c.fields.length)||decide (32<c.methods.length)
theorem X2k {c : Cla} {cs : List Value} (hs : X2 w σ) (hc : V0 σ c cs) (h : ∀ w', Below w.heap.size w w' → K (.bool (Zl c)) w') : Q1 P F.cE [.agg cs.toArray] w K := Q5j (by
  obtain ⟨lv, fv, mv, rfl, hl, hf, hm, hn, hsu⟩ := hc
  unfold Q0w
  refine E4 hs fun a w1 σ1 hk ha => ?_
  have hs := hk.sat
  replace hl := hl.up hk
  replace hf := hf.up hk
  replace hm := hm.up hk
  simp only [Value.cells] at ha
  ((try simp only [↓M1, M1, Mb, reduceIte]); repeat ((first | refine ld (by assumption) (by assumption) rfl ?_ | refine X7 (by assumption) (by assumption) rfl ?_ | refine Q8 (by assumption) ?_); (try simp only [↓M1, M1, Mb, reduceIte])))
  refine U1 c.methods.length (fun n w' => Below w1.heap.size w1 w' ∧ ((c.methods.take n).any Wa) = false) ⟨Below.refl _ _, by simp⟩ fun n w2 d hn hi => ?_
  obtain ⟨hb, hp⟩ := hi
  have hs2 := hs.below hb
  ((try simp only [↓M1, M1, Mb, reduceIte]); repeat ((first | refine ld (by assumption) (by assumption) rfl ?_ | refine X7 (by assumption) (by assumption) rfl ?_ | refine Q8 (by assumption) ?_); (try simp only [↓M1, M1, Mb, reduceIte])))
  refine Q7 (fun hc => ?_) (fun hc => ?_)
  · have hn' : n < c.methods.length := by simpa using hc
    refine M9 hm hn' fun p cs hl1 hlen hr => ?_
    refine Y4 hs2 hl1 hlen ?_
    refine Y9 hs2 (by rfl) hlen (Rep.one hr) fun q w3 σ3 hk3 hq => ?_
    obtain ⟨pv, cv, hv, rfl, g1, g2, g3, g4⟩ := hr
    have hs3 := hk3.sat
    replace g1 := g1.up hk3
    replace g2 := g2.up hk3
    replace g3 := g3.up hk3
    ((try simp only [↓M1, M1, Mb, reduceIte]); repeat ((first | refine ld (by assumption) (by assumption) rfl ?_ | refine X7 (by assumption) (by assumption) rfl ?_ | refine Q8 (by assumption) ?_); (try simp only [↓M1, M1, Mb, reduceIte])))
    (repeat' ((first | refine Z8 (fun hh => ?_) (fun hh => ?_) | refine Q7 (fun hh => ?_) (fun hh => ?_)) <;> (try simp only [hh, Bool.not_true, Bool.not_false, ↓M1, M1, Mb, reduceIte]) <;> ((try simp only [↓M1, M1, Mb, reduceIte]); repeat ((first | refine ld (by assumption) (by assumption) rfl ?_ | refine X7 (by assumption) (by assumption) rfl ?_ | refine Q8 (by assumption) ?_); (try simp only [↓M1, M1, Mb, reduceIte])))))
    all_goals first
      | refine Y6 hm.max hn' ⟨bt hb hk3.bel, ?_⟩
        rw [L4 hn', hp]; simp only [Wa]; (first | (simp only [decide_eq_true_eq, decide_eq_false_iff_not, Bool.not_true, Bool.not_false, Bool.not_eq_true', Bool.not_eq_false', Bool.or_eq_true, Bool.and_eq_true, Bool.or_eq_false_iff, Bool.and_eq_false_iff, Bool.false_or, Bool.true_and, Bool.or_false, Bool.and_true] at *; first | omega | (and_intros <;> omega)) | (rw [Bool.eq_iff_iff]; (simp only [decide_eq_true_eq, decide_eq_false_iff_not, Bool.not_true, Bool.not_false, Bool.not_eq_true', Bool.not_eq_false', Bool.or_eq_true, Bool.and_eq_true, Bool.or_eq_false_iff, Bool.and_eq_false_iff, Bool.false_or, Bool.true_and, Bool.or_false, Bool.and_true] at *; first | omega | (and_intros <;> omega))))
      | have e : Zl c = true := by
          have : Wa c.methods[n] = true := by simp only [Wa]; (first | (simp only [decide_eq_true_eq, decide_eq_false_iff_not, Bool.not_true, Bool.not_false, Bool.not_eq_true', Bool.not_eq_false', Bool.or_eq_true, Bool.and_eq_true, Bool.or_eq_false_iff, Bool.and_eq_false_iff, Bool.false_or, Bool.true_and, Bool.or_false, Bool.and_true] at *; first | omega | (and_intros <;> omega)) | (rw [Bool.eq_iff_iff]; (simp only [decide_eq_true_eq, decide_eq_false_iff_not, Bool.not_true, Bool.not_false, Bool.not_eq_true', Bool.not_eq_false', Bool.or_eq_true, Bool.and_eq_true, Bool.or_eq_false_iff, Bool.and_eq_false_iff, Bool.false_or, Bool.true_and, Bool.or_false, Bool.and_true] at *; first | omega | (and_intros <;> omega))))
          simp [Zl, S1 hn' this]
        rw [← e]; exact h _ (bt hk.bel (bt hb hk3.bel))
  · have hn' : ¬ n < c.methods.length := by simpa using hc
    rw [D9 hn'] at hp
    have h := h w2 (bt hk.bel hb)
    ((try simp only [↓M1, M1, Mb, reduceIte]); repeat ((first | refine ld (by assumption) (by assumption) rfl ?_ | refine X7 (by assumption) (by assumption) rfl ?_ | refine Q8 (by assumption) ?_); (try simp only [↓M1, M1, Mb, reduceIte])))
    (repeat' ((first | refine Z8 (fun hh => ?_) (fun hh => ?_) | refine Q7 (fun hh => ?_) (fun hh => ?_)) <;> (try simp only [hh, Bool.not_true, Bool.not_false, ↓M1, M1, Mb, reduceIte]) <;> ((try simp only [↓M1, M1, Mb, reduceIte]); repeat ((first | refine ld (by assumption) (by assumption) rfl ?_ | refine X7 (by assumption) (by assumption) rfl ?_ | refine Q8 (by assumption) ?_); (try simp only [↓M1, M1, Mb, reduceIte])))))
    all_goals
      refine Eq.subst (motive := fun b => K (.bool b) w2) ?_ h
      simp only [Zl, hp]
      (first | (simp only [decide_eq_true_eq, decide_eq_false_iff_not, Bool.not_true, Bool.not_false, Bool.not_eq_true', Bool.not_eq_false', Bool.or_eq_true, Bool.and_eq_true, Bool.or_eq_false_iff, Bool.and_eq_false_iff, Bool.false_or, Bool.true_and, Bool.or_false, Bool.and_true] at *; first | omega | (and_intros <;> omega)) | (rw [Bool.eq_iff_iff]; (simp only [decide_eq_true_eq, decide_eq_false_iff_not, Bool.not_true, Bool.not_false, Bool.not_eq_true', Bool.not_eq_false', Bool.or_eq_true, Bool.and_eq_true, Bool.or_eq_false_iff, Bool.and_eq_false_iff, Bool.false_or, Bool.true_and, Bool.or_false, Bool.and_true] at *; first | omega | (and_intros <;> omega)))))
end Go.Proofs.YtjdiakhipmggjaaGreatDoor

namespace Go.Emb
open Go.RowKit Go.Hm
variable {H : Type} {enc : TypeId × Value → H} {P : Program} {W : World} {t : TypeId} {cs : List Value} {fuel : Nat} {x : DataW H × List MemPlace}
def Wc (W:World):Q5:=fun b=>W.heap[b]?
theorem Q9C:X2 W (Wc W):=fun b o h=>h
def Wt (P:Program) (t:TypeId) (d:DataW H):Prop:= ∀n∈d.weights P t,n≤reachBytes
theorem X1v {a:Addr} {n:Nat} (h:W.cells? 0 a n=some cs) (D:0<n):cs.length=n∧Z4 (Wc W) a cs:=by
 obtain ⟨_,m,q⟩:=World.cells?_some h
 refine ⟨m,?_⟩
 have key: ∀i v,cs[i]? =some v→ ∃arr e f,W.heap[a.block]? =some (.cells arr e f)∧(a.add i).spot=none∧arr[a.off+i]? =some v:=by
  intro i v g
  have A:i<cs.length:=(List.getElem?_eq_some_iff.1 g).1
  have b:=q i (by omega)
  rw[g] at b
  unfold World.cell? at b
  rw[R9,A7] at b
  cases p:W.heap[a.block]? with
  | none=>rw[p] at b;cases b
  | some o=>
   rw[p] at b
   cases o with
   | cells arr e f=>
    simp only at b
    split at b
    ·cases b
    ·rename_i w
     exact ⟨arr,e,f,rfl,by simpa using w,b⟩
   | _=>cases b
 cases j:cs with
 | nil=>subst j;simp at m;omega
 | cons c r=>
  obtain ⟨arr,e,f,l,s,B⟩:=key 0 c (by rw[j];rfl)
  refine ⟨by simpa [Addr.add] using s,arr,e,f,l,fun i v g=>?_⟩
  obtain ⟨k,C,y,d,z,u⟩:=key i v (by rw[j];exact g)
  rw[l] at d
  injection d with d
  injection d with d
  subst d
  exact u
theorem Q9c (a:P.underlying t=some .string) (h:DataW.trod enc P W 0 (fun _=>true) true fuel t cs=some x) (b:Wt P t x.1): ∃s:Kd.X0,cs=[S s]∧s.length≤U0:=by
 obtain ⟨⟨⟨s⟩⟩,rfl,rfl,_⟩:=DataW.trod_string a h
 refine ⟨s,rfl,?_⟩
 have:=b s.length (by simp[DataW.weights])
 exact this
theorem Gl (b:P.underlying t=some (.int .i64)) (h:DataW.trod enc P W 0 (fun _=>true) true fuel t cs=some x): ∃n,cs=[I n]∧Yc n:=by
 obtain ⟨n,c,_,a⟩:=DataW.trod_int b h
 refine ⟨n,c,?_⟩
 simp only[Lit.wf,Bool.and_eq_true,decide_eq_true_eq] at a
 exact ⟨a.1,a.2⟩
theorem X1P {α:Type} {Q:Nat→α→Prop}: ∀(n:Nat),(∀i,i<n→ ∃y,Q i y)→ ∃xs:List α,xs.length=n∧ ∀i y,xs[i]? =some y→Q i y:=by
 intro n
 induction n with
 | zero=>intro _;exact ⟨[],rfl,by simp⟩
 | succ n c=>
  intro h
  obtain ⟨xs,e,f⟩:=c fun i b=>h i (by omega)
  obtain ⟨y,d⟩:=h n (by omega)
  refine ⟨xs++[y],by simp[e],fun i z a=>?_⟩
  by_cases b:i<xs.length
  ·rw[List.getElem?_append_left b] at a;exact f i z a
  ·rw[List.getElem?_append_right (by omega)] at a
   have:i-xs.length=0:=by
    have:=(List.getElem?_eq_some_iff.1 a).1
    simp at this;omega
   rw[this] at a
   simp at a
   subst a
   rw[show i=n by omega];exact d
theorem X30 {e:TypeId} {d:DataW H}: ∀{l:List (DataW H)},d∈l→ ∀n∈d.weights P e,n∈DataW.weightsAll P e l:=by
 intro l
 induction l with
 | nil=>intro h;simp at h
 | cons a r c=>
  intro h n b
  simp only[DataW.weightsAll,List.mem_append]
  rcases List.mem_cons.1 h with rfl | h
  ·exact .inl b
  ·exact .inr (c h n b)
theorem X3u {α:Type} {R:Q5→α→List Value→Prop} {e:TypeId} {sz:Nat} (u:P.underlying t=some (.slice e)) (N:P.cellsOf e=sz) (M:0<sz)
 (p: ∀fuel cs (x:DataW H×List MemPlace),DataW.trod enc P W 0 (fun _=>true) true fuel e cs=some x→Wt P e x.1→ ∃y,R (Wc W) y cs)
 (h:DataW.trod enc P W 0 (fun _=>true) true fuel t cs=some x) (L:Wt P t x.1): ∃v xs,cs=[v]∧Sl sz R (Wc W) v xs:=by
 rcases DataW.trod_slice u h with ⟨rfl,rfl⟩ | ⟨a,o,q,d,z,n,_,rfl,rfl,_,Q,s,A,g,_⟩
 ·exact ⟨_,[],rfl,Sl.nil⟩
 subst N
 have step: ∀i,i<o→ ∃y,∃c,Z4 (Wc W) (a.add (i*P.cellsOf e)) c∧c.length=P.cellsOf e∧R (Wc W) y c:=by
  intro i D
  have w:=g i D
  have j:i<d.length:=by omega
  rw[List.getElem?_eq_getElem j] at w
  obtain ⟨c,B,C⟩:=Option.bind_eq_some_iff.1 w
  obtain ⟨E,r⟩:=X1v B M
  obtain ⟨y,f⟩:=p n c _ C (fun m s=>L m (by
   simp only[DataW.weights,u,List.mem_cons,List.mem_append]
   exact .inr (.inl (X30 (List.mem_map.2 ⟨_,List.getElem_mem j,rfl⟩) m s))))
  exact ⟨y,c,r,E,f⟩
 obtain ⟨xs,l,k⟩:=X1P o step
 refine ⟨_,xs,rfl,some a,q,by rw[l],by rw[l];exact Q,s,by simp,fun b O=>?_⟩
 cases O
 refine ⟨fun J=>?_,fun i y f=>k i y f⟩
 obtain ⟨y,f⟩: ∃y,xs[0]? =some y:=⟨xs[0],List.getElem?_eq_getElem J⟩
 obtain ⟨c,r,_,_⟩:=k 0 y f
 have:=r.1
 simpa [Addr.add] using this
theorem Q7p: ∀{a:List TypeId} {l:List (DataW H)} {i:Nat} {u:TypeId} {d:DataW H},a[i]? =some u→l[i]? =some d→ ∀n∈d.weights P u,n∈DataW.weightsEach P a l:=
 fun c e n b=>DataW.weights_mem_each c e n b
theorem Wz {d:Array Field} (c:P.underlying t=some (.struct d)) (h:DataW.trod enc P W 0 (fun _=>true) true fuel t cs=some x) (q:Wt P t x.1) (i:Nat) {o:Nat} {b:TypeId}
 (l:(d[i]?).map (fun f=>(f.type,f.offset))=some (b,o)) (r:P.cellsOf b=1): ∃n y,DataW.trod enc P W 0 (fun _=>true) true n b ((cs.drop o).take 1)=some y∧Wt P b y.1:=by
 obtain ⟨xs,n,_,rfl,v,j,k⟩:=DataW.trod_struct c h
 obtain ⟨f,a,p⟩:=Option.map_eq_some_iff.1 l
 cases p
 have g:=k i f a
 have e:i<xs.length:=by rw[j];exact (Array.getElem?_eq_some_iff.1 a).1
 rw[List.getElem?_eq_getElem e,r] at g
 refine ⟨n,_,g,fun m s=>q m ?_⟩
 simp only[DataW.weights,c]
 exact Q7p (i:=i) (u:=f.type) (by rw[List.getElem?_map,Array.getElem?_toList,a];rfl) (by rw[List.getElem?_map,List.getElem?_eq_getElem e];rfl) m s
theorem Q8y {d:Array Field} {k:Nat} (b:P.underlying t=some (.struct d)) (a:P.cellsOf t=k) (h:DataW.trod enc P W 0 (fun _=>true) true fuel t cs=some x):cs.length=k:=by
 obtain ⟨_,_,_,_,c,_,_⟩:=DataW.trod_struct b h
 rw[c,a]
theorem X0N {α:Type} {l:List α} (h:l.length=3): ∃a b c,l=[a,b,c]:=by
 match l,h with
 | [a,b,c],_=>exact ⟨a,b,c,rfl⟩
theorem X3E {α:Type} {l:List α} (h:l.length=4): ∃a b c d,l=[a,b,c,d]:=by
 match l,h with
 | [a,b,c,d],_=>exact ⟨a,b,c,d,rfl⟩
theorem X33 {α:Type} {l:List α} (h:l.length=8): ∃a b c d e f g i,l=[a,b,c,d,e,f,g,i]:=by
 match l,h with
 | [a,b,c,d,e,f,g,i],_=>exact ⟨a,b,c,d,e,f,g,i,rfl⟩
end Go.Emb
namespace Go.Proofs.YtjdiakhipmggjaaGreatDoor
open Go.Emb Go.RowKit Go.Kd Go.Hm
variable {H : Type} {enc : TypeId × Value → H} {W : World} {cs : List Value} {fuel : Nat} {x : DataW H × List MemPlace}
theorem Kf:P.cellsOf T.c=1:=by kernel_rfl
theorem X2R:P.cellsOf T.u=1:=by kernel_rfl
theorem Q4N:P.cellsOf T.e=1:=by kernel_rfl
end Go.Proofs.YtjdiakhipmggjaaGreatDoor

namespace Go.Emb
def J0 {α β:Type} (a:β→α→Bool×β):β→List α→Nat→Option Nat×β
 | s,[],_=>(none,s)
 | s,x::xs,i=>if (a s x).1 then (some i,(a s x).2) else J0 a (a s x).2 xs (i+1)
def L5 (o:Option Nat):Int:=match o with | some i=>i | none=> -1
theorem K5 {α:Type} (p:α→Bool): ∀(xs:List α) (i:Nat),(J0 (fun (_:Unit) x=>(p x,())) () xs i).1=(xs.findIdx? p).map (· +i):=by
 intro xs
 induction xs with
 | nil=>intro i;rfl
 | cons x r ih=>
  intro i
  rw[List.findIdx?_cons]
  simp only[J0]
  cases p x with
  | true=>simp
  | false=>
   simp only[Bool.false_eq_true,if_false]
   rw[ih (i+1),Option.map_map]
   congr 1;funext n;simp only[Function.comp];omega
theorem Dd {α β:Type} (a:β→α→Bool×β) (s:β) (xs:List α) (i:Nat):decide ((0:Int)≤L5 (J0 a s xs i).1)=(J0 a s xs i).1.isSome:=by
 cases (J0 a s xs i).1<;>simp[L5]
end Go.Emb
namespace Go.Proofs.YtjdiakhipmggjaaGreatDoor
open Go.Emb Go.RowKit Go.Kd Go.Hm
variable {w : World} {K : Value → World → Prop} {σ : Q5}
theorem Vt {β:Type} {xs:List Hm.Met} {v f:Value} (b:β→Hm.Met→Bool×β) (j:β) (a:β→World→Prop) (D:Nat→Prop) (k: ∀s w,a s w→X2 w σ) (C:a j w) (u:Sl 7 E5 σ v xs)
 (A: ∀s x cs (w1:World) (K:Value→World→Prop),x∈xs→Kpt D w w1→a s w1→E5 σ x cs→cs.length=7→(∀w',Kpt D w w'→a (b s x).2 w'→K (.bool (b s x).1) w')→Z3 P f [.agg cs.toArray] w1 K)
 (h: ∀w',Kpt D w w'→a (J0 b j xs 0).2 w'→K (I (L5 (J0 b j xs 0).1)) w'):Q1 P F.g [v,f] w K:=Xs (by
 unfold C9
 ((try simp only[↓M1,M1,Mb,reduceIte]);repeat ((first | refine ld (by assumption) (by assumption) rfl ?_ | refine X7 (by assumption) (by assumption) rfl ?_ | refine Q8 (by assumption) ?_);(try simp only[↓M1,M1,Mb,reduceIte])))
 refine U1 xs.length (fun n w'=>Kpt D w w'∧ ∃s,a s w'∧J0 b j xs 0=J0 b s (xs.drop n) n) ⟨Kpt.refl,j,C,rfl⟩ fun n w1 d E i=>?_
 obtain ⟨t,s,i,g⟩:=i
 have o:=k s w1 i
 ((try simp only[↓M1,M1,Mb,reduceIte]);repeat ((first | refine ld (by assumption) (by assumption) rfl ?_ | refine X7 (by assumption) (by assumption) rfl ?_ | refine Q8 (by assumption) ?_);(try simp only[↓M1,M1,Mb,reduceIte])))
 refine Q7 (fun q=>?_) (fun q=>?_)
 ·have c:n<xs.length:=by simpa using q
  refine M9 u c fun p cs B e z=>?_
  refine Y4 o B e ?_
  refine A s xs[n] cs w1 _ (List.getElem_mem c) t i z e fun y m l=>?_
  rw[List.drop_eq_getElem_cons c] at g
  simp only[J0] at g
  refine Q7 (fun r=>?_) (fun r=>?_)
  ·rw[r] at g
   have:=h y m
   rw[g] at this
   exact this l
  ·rw[r] at g
   ((try simp only[↓M1,M1,Mb,reduceIte]);repeat ((first | refine ld (by assumption) (by assumption) rfl ?_ | refine X7 (by assumption) (by assumption) rfl ?_ | refine Q8 (by assumption) ?_);(try simp only[↓M1,M1,Mb,reduceIte])))
   exact Y6 u.max c ⟨m,_,l,by simpa using g⟩
 ·have c: ¬n<xs.length:=by simpa using q
  rw[List.drop_eq_nil_of_le (by omega)] at g
  have:=h w1 t
  rw[g] at this
  exact this i)
theorem Zq {β:Type} {xs:List Hm.Met} {v f:Value} (b:β→Hm.Met→Bool×β) (d:β) (a:β→World→Prop) (D:Nat→Prop) (c: ∀s w,a s w→X2 w σ) (k:a d w) (j:Sl 7 E5 σ v xs)
 (g: ∀s x cs (w1:World) (K:Value→World→Prop),x∈xs→Kpt D w w1→a s w1→E5 σ x cs→cs.length=7→(∀w',Kpt D w w'→a (b s x).2 w'→K (.bool (b s x).1) w')→Z3 P f [.agg cs.toArray] w1 K)
 (h: ∀w',Kpt D w w'→a (J0 b d xs 0).2 w'→K (.bool (J0 b d xs 0).1.isSome) w'):Q1 P F.a [v,f] w K:=Qd (by
 unfold R8
 refine Vt b d a D c k j g fun w1 i e=>?_
 (try simp only[↓M1,M1,Mb,reduceIte])
 rw[Dd]
 exact h w1 i e)
theorem Bx {xs:List Hm.Met} {v f:Value} (p:Hm.Met→Bool) (hs:X2 w σ) (hv:Sl 7 E5 σ v xs)
 (hf: ∀x cs (w1:World) (K:Value→World→Prop),x∈xs→X2 w1 σ→E5 σ x cs→cs.length=7→(∀w',Below w1.heap.size w1 w'→K (.bool (p x)) w')→Z3 P f [.agg cs.toArray] w1 K)
 (h: ∀w',Below w.heap.size w w'→K (I (L5 (xs.findIdx? p))) w'):Q1 P F.g [v,f] w K:=by
 refine Vt (fun (_:Unit) x=>(p x,())) () (fun _ w'=>Below w.heap.size w w') (fun _=>False) (fun _ w' hb=>hs.below hb) (Below.refl _ _) hv (fun s x cs w1 K hx hk hi hr hl hK=>hf x cs w1 K hx (hs.below hi) hr hl fun w' hb=>hK w' (.of_below (bt hi hb)) (bt hi hb)) fun w' hk hi=>?_
 rw[K5]
 simpa using h w' hi
theorem B4 {xs:List Hm.Met} {v f:Value} (p:Hm.Met→Bool) (hs:X2 w σ) (hv:Sl 7 E5 σ v xs)
 (hf: ∀x cs (w1:World) (K:Value→World→Prop),x∈xs→X2 w1 σ→E5 σ x cs→cs.length=7→(∀w',Below w1.heap.size w1 w'→K (.bool (p x)) w')→Z3 P f [.agg cs.toArray] w1 K)
 (h: ∀w',Below w.heap.size w w'→K (.bool (xs.any p)) w'):Q1 P F.a [v,f] w K:=by
 refine Zq (fun (_:Unit) x=>(p x,())) () (fun _ w'=>Below w.heap.size w w') (fun _=>False) (fun _ w' hb=>hs.below hb) (Below.refl _ _) hv (fun s x cs w1 K hx hk hi hr hl hK=>hf x cs w1 K hx (hs.below hi) hr hl fun w' hb=>hK w' (.of_below (bt hi hb)) (bt hi hb)) fun w' hk hi=>?_
 rw[K5]
 simpa using h w' hi
theorem La {β:Type} {xs:List Fld} {v f:Value} (b:β→Fld→Bool×β) (j:β) (a:β→World→Prop) (D:Nat→Prop) (k: ∀s w,a s w→X2 w σ) (C:a j w) (u:Sl 3 R3 σ v xs)
 (A: ∀s x cs (w1:World) (K:Value→World→Prop),x∈xs→Kpt D w w1→a s w1→R3 σ x cs→cs.length=3→(∀w',Kpt D w w'→a (b s x).2 w'→K (.bool (b s x).1) w')→Z3 P f [.agg cs.toArray] w1 K)
 (h: ∀w',Kpt D w w'→a (J0 b j xs 0).2 w'→K (I (L5 (J0 b j xs 0).1)) w'):Q1 P F.i [v,f] w K:=Yq (by
 unfold F6
 ((try simp only[↓M1,M1,Mb,reduceIte]);repeat ((first | refine ld (by assumption) (by assumption) rfl ?_ | refine X7 (by assumption) (by assumption) rfl ?_ | refine Q8 (by assumption) ?_);(try simp only[↓M1,M1,Mb,reduceIte])))
 refine U1 xs.length (fun n w'=>Kpt D w w'∧ ∃s,a s w'∧J0 b j xs 0=J0 b s (xs.drop n) n) ⟨Kpt.refl,j,C,rfl⟩ fun n w1 d E i=>?_
 obtain ⟨t,s,i,g⟩:=i
 have o:=k s w1 i
 ((try simp only[↓M1,M1,Mb,reduceIte]);repeat ((first | refine ld (by assumption) (by assumption) rfl ?_ | refine X7 (by assumption) (by assumption) rfl ?_ | refine Q8 (by assumption) ?_);(try simp only[↓M1,M1,Mb,reduceIte])))
 refine Q7 (fun q=>?_) (fun q=>?_)
 ·have c:n<xs.length:=by simpa using q
  refine M9 u c fun p cs B e z=>?_
  refine Y4 o B e ?_
  refine A s xs[n] cs w1 _ (List.getElem_mem c) t i z e fun y m l=>?_
  rw[List.drop_eq_getElem_cons c] at g
  simp only[J0] at g
  refine Q7 (fun r=>?_) (fun r=>?_)
  ·rw[r] at g
   have:=h y m
   rw[g] at this
   exact this l
  ·rw[r] at g
   ((try simp only[↓M1,M1,Mb,reduceIte]);repeat ((first | refine ld (by assumption) (by assumption) rfl ?_ | refine X7 (by assumption) (by assumption) rfl ?_ | refine Q8 (by assumption) ?_);(try simp only[↓M1,M1,Mb,reduceIte])))
   exact Y6 u.max c ⟨m,_,l,by simpa using g⟩
 ·have c: ¬n<xs.length:=by simpa using q
  rw[List.drop_eq_nil_of_le (by omega)] at g
  have:=h w1 t
  rw[g] at this
  exact this i)
theorem Rg {β:Type} {xs:List Fld} {v f:Value} (b:β→Fld→Bool×β) (d:β) (a:β→World→Prop) (D:Nat→Prop) (c: ∀s w,a s w→X2 w σ) (k:a d w) (j:Sl 3 R3 σ v xs)
 (g: ∀s x cs (w1:World) (K:Value→World→Prop),x∈xs→Kpt D w w1→a s w1→R3 σ x cs→cs.length=3→(∀w',Kpt D w w'→a (b s x).2 w'→K (.bool (b s x).1) w')→Z3 P f [.agg cs.toArray] w1 K)
 (h: ∀w',Kpt D w w'→a (J0 b d xs 0).2 w'→K (.bool (J0 b d xs 0).1.isSome) w'):Q1 P F.f [v,f] w K:=Qw (by
 unfold C4
 refine La b d a D c k j g fun w1 i e=>?_
 (try simp only[↓M1,M1,Mb,reduceIte])
 rw[Dd]
 exact h w1 i e)
theorem Ge {xs:List Fld} {v f:Value} (p:Fld→Bool) (hs:X2 w σ) (hv:Sl 3 R3 σ v xs)
 (hf: ∀x cs (w1:World) (K:Value→World→Prop),x∈xs→X2 w1 σ→R3 σ x cs→cs.length=3→(∀w',Below w1.heap.size w1 w'→K (.bool (p x)) w')→Z3 P f [.agg cs.toArray] w1 K)
 (h: ∀w',Below w.heap.size w w'→K (I (L5 (xs.findIdx? p))) w'):Q1 P F.i [v,f] w K:=by
 refine La (fun (_:Unit) x=>(p x,())) () (fun _ w'=>Below w.heap.size w w') (fun _=>False) (fun _ w' hb=>hs.below hb) (Below.refl _ _) hv (fun s x cs w1 K hx hk hi hr hl hK=>hf x cs w1 K hx (hs.below hi) hr hl fun w' hb=>hK w' (.of_below (bt hi hb)) (bt hi hb)) fun w' hk hi=>?_
 rw[K5]
 simpa using h w' hi
theorem Jl {xs:List Fld} {v f:Value} (p:Fld→Bool) (hs:X2 w σ) (hv:Sl 3 R3 σ v xs)
 (hf: ∀x cs (w1:World) (K:Value→World→Prop),x∈xs→X2 w1 σ→R3 σ x cs→cs.length=3→(∀w',Below w1.heap.size w1 w'→K (.bool (p x)) w')→Z3 P f [.agg cs.toArray] w1 K)
 (h: ∀w',Below w.heap.size w w'→K (.bool (xs.any p)) w'):Q1 P F.f [v,f] w K:=by
 refine Rg (fun (_:Unit) x=>(p x,())) () (fun _ w'=>Below w.heap.size w w') (fun _=>False) (fun _ w' hb=>hs.below hb) (Below.refl _ _) hv (fun s x cs w1 K hx hk hi hr hl hK=>hf x cs w1 K hx (hs.below hi) hr hl fun w' hb=>hK w' (.of_below (bt hi hb)) (bt hi hb)) fun w' hk hi=>?_
 rw[K5]
 simpa using h w' hi
theorem Gh {β:Type} {xs:List Ins} {v f:Value} (b:β→Ins→Bool×β) (j:β) (a:β→World→Prop) (D:Nat→Prop) (k: ∀s w,a s w→X2 w σ) (C:a j w) (u:Sl 3 Qk σ v xs)
 (A: ∀s x cs (w1:World) (K:Value→World→Prop),x∈xs→Kpt D w w1→a s w1→Qk σ x cs→cs.length=3→(∀w',Kpt D w w'→a (b s x).2 w'→K (.bool (b s x).1) w')→Z3 P f [.agg cs.toArray] w1 K)
 (h: ∀w',Kpt D w w'→a (J0 b j xs 0).2 w'→K (I (L5 (J0 b j xs 0).1)) w'):Q1 P F.a6 [v,f] w K:=Yk (by
 unfold B8
 ((try simp only[↓M1,M1,Mb,reduceIte]);repeat ((first | refine ld (by assumption) (by assumption) rfl ?_ | refine X7 (by assumption) (by assumption) rfl ?_ | refine Q8 (by assumption) ?_);(try simp only[↓M1,M1,Mb,reduceIte])))
 refine U1 xs.length (fun n w'=>Kpt D w w'∧ ∃s,a s w'∧J0 b j xs 0=J0 b s (xs.drop n) n) ⟨Kpt.refl,j,C,rfl⟩ fun n w1 d E i=>?_
 obtain ⟨t,s,i,g⟩:=i
 have o:=k s w1 i
 ((try simp only[↓M1,M1,Mb,reduceIte]);repeat ((first | refine ld (by assumption) (by assumption) rfl ?_ | refine X7 (by assumption) (by assumption) rfl ?_ | refine Q8 (by assumption) ?_);(try simp only[↓M1,M1,Mb,reduceIte])))
 refine Q7 (fun q=>?_) (fun q=>?_)
 ·have c:n<xs.length:=by simpa using q
  refine M9 u c fun p cs B e z=>?_
  refine Y4 o B e ?_
  refine A s xs[n] cs w1 _ (List.getElem_mem c) t i z e fun y m l=>?_
  rw[List.drop_eq_getElem_cons c] at g
  simp only[J0] at g
  refine Q7 (fun r=>?_) (fun r=>?_)
  ·rw[r] at g
   have:=h y m
   rw[g] at this
   exact this l
  ·rw[r] at g
   ((try simp only[↓M1,M1,Mb,reduceIte]);repeat ((first | refine ld (by assumption) (by assumption) rfl ?_ | refine X7 (by assumption) (by assumption) rfl ?_ | refine Q8 (by assumption) ?_);(try simp only[↓M1,M1,Mb,reduceIte])))
   exact Y6 u.max c ⟨m,_,l,by simpa using g⟩
 ·have c: ¬n<xs.length:=by simpa using q
  rw[List.drop_eq_nil_of_le (by omega)] at g
  have:=h w1 t
  rw[g] at this
  exact this i)
theorem Sy {β:Type} {xs:List Ins} {v f:Value} (b:β→Ins→Bool×β) (d:β) (a:β→World→Prop) (D:Nat→Prop) (c: ∀s w,a s w→X2 w σ) (k:a d w) (j:Sl 3 Qk σ v xs)
 (g: ∀s x cs (w1:World) (K:Value→World→Prop),x∈xs→Kpt D w w1→a s w1→Qk σ x cs→cs.length=3→(∀w',Kpt D w w'→a (b s x).2 w'→K (.bool (b s x).1) w')→Z3 P f [.agg cs.toArray] w1 K)
 (h: ∀w',Kpt D w w'→a (J0 b d xs 0).2 w'→K (.bool (J0 b d xs 0).1.isSome) w'):Q1 P F.l [v,f] w K:=Qz (by
 unfold C5
 refine Gh b d a D c k j g fun w1 i e=>?_
 (try simp only[↓M1,M1,Mb,reduceIte])
 rw[Dd]
 exact h w1 i e)
theorem Rx {xs:List Ins} {v f:Value} (p:Ins→Bool) (hs:X2 w σ) (hv:Sl 3 Qk σ v xs)
 (hf: ∀x cs (w1:World) (K:Value→World→Prop),x∈xs→X2 w1 σ→Qk σ x cs→cs.length=3→(∀w',Below w1.heap.size w1 w'→K (.bool (p x)) w')→Z3 P f [.agg cs.toArray] w1 K)
 (h: ∀w',Below w.heap.size w w'→K (.bool (xs.any p)) w'):Q1 P F.l [v,f] w K:=by
 refine Sy (fun (_:Unit) x=>(p x,())) () (fun _ w'=>Below w.heap.size w w') (fun _=>False) (fun _ w' hb=>hs.below hb) (Below.refl _ _) hv (fun s x cs w1 K hx hk hi hr hl hK=>hf x cs w1 K hx (hs.below hi) hr hl fun w' hb=>hK w' (.of_below (bt hi hb)) (bt hi hb)) fun w' hk hi=>?_
 rw[K5]
 simpa using h w' hi
theorem Gc {β:Type} {xs:List Cat} {v f:Value} (b:β→Cat→Bool×β) (j:β) (a:β→World→Prop) (D:Nat→Prop) (k: ∀s w,a s w→X2 w σ) (C:a j w) (u:Sl 4 Ui σ v xs)
 (A: ∀s x cs (w1:World) (K:Value→World→Prop),x∈xs→Kpt D w w1→a s w1→Ui σ x cs→cs.length=4→(∀w',Kpt D w w'→a (b s x).2 w'→K (.bool (b s x).1) w')→Z3 P f [.agg cs.toArray] w1 K)
 (h: ∀w',Kpt D w w'→a (J0 b j xs 0).2 w'→K (I (L5 (J0 b j xs 0).1)) w'):Q1 P F.a7 [v,f] w K:=Yf (by
 unfold F3
 ((try simp only[↓M1,M1,Mb,reduceIte]);repeat ((first | refine ld (by assumption) (by assumption) rfl ?_ | refine X7 (by assumption) (by assumption) rfl ?_ | refine Q8 (by assumption) ?_);(try simp only[↓M1,M1,Mb,reduceIte])))
 refine U1 xs.length (fun n w'=>Kpt D w w'∧ ∃s,a s w'∧J0 b j xs 0=J0 b s (xs.drop n) n) ⟨Kpt.refl,j,C,rfl⟩ fun n w1 d E i=>?_
 obtain ⟨t,s,i,g⟩:=i
 have o:=k s w1 i
 ((try simp only[↓M1,M1,Mb,reduceIte]);repeat ((first | refine ld (by assumption) (by assumption) rfl ?_ | refine X7 (by assumption) (by assumption) rfl ?_ | refine Q8 (by assumption) ?_);(try simp only[↓M1,M1,Mb,reduceIte])))
 refine Q7 (fun q=>?_) (fun q=>?_)
 ·have c:n<xs.length:=by simpa using q
  refine M9 u c fun p cs B e z=>?_
  refine Y4 o B e ?_
  refine A s xs[n] cs w1 _ (List.getElem_mem c) t i z e fun y m l=>?_
  rw[List.drop_eq_getElem_cons c] at g
  simp only[J0] at g
  refine Q7 (fun r=>?_) (fun r=>?_)
  ·rw[r] at g
   have:=h y m
   rw[g] at this
   exact this l
  ·rw[r] at g
   ((try simp only[↓M1,M1,Mb,reduceIte]);repeat ((first | refine ld (by assumption) (by assumption) rfl ?_ | refine X7 (by assumption) (by assumption) rfl ?_ | refine Q8 (by assumption) ?_);(try simp only[↓M1,M1,Mb,reduceIte])))
   exact Y6 u.max c ⟨m,_,l,by simpa using g⟩
 ·have c: ¬n<xs.length:=by simpa using q
  rw[List.drop_eq_nil_of_le (by omega)] at g
  have:=h w1 t
  rw[g] at this
  exact this i)
theorem Rh {β:Type} {xs:List Cat} {v f:Value} (b:β→Cat→Bool×β) (d:β) (a:β→World→Prop) (D:Nat→Prop) (c: ∀s w,a s w→X2 w σ) (k:a d w) (j:Sl 4 Ui σ v xs)
 (g: ∀s x cs (w1:World) (K:Value→World→Prop),x∈xs→Kpt D w w1→a s w1→Ui σ x cs→cs.length=4→(∀w',Kpt D w w'→a (b s x).2 w'→K (.bool (b s x).1) w')→Z3 P f [.agg cs.toArray] w1 K)
 (h: ∀w',Kpt D w w'→a (J0 b d xs 0).2 w'→K (.bool (J0 b d xs 0).1.isSome) w'):Q1 P F.m [v,f] w K:=Qx (by
 unfold C6
 refine Gc b d a D c k j g fun w1 i e=>?_
 (try simp only[↓M1,M1,Mb,reduceIte])
 rw[Dd]
 exact h w1 i e)
theorem Sj {xs:List Cat} {v f:Value} (p:Cat→Bool) (hs:X2 w σ) (hv:Sl 4 Ui σ v xs)
 (hf: ∀x cs (w1:World) (K:Value→World→Prop),x∈xs→X2 w1 σ→Ui σ x cs→cs.length=4→(∀w',Below w1.heap.size w1 w'→K (.bool (p x)) w')→Z3 P f [.agg cs.toArray] w1 K)
 (h: ∀w',Below w.heap.size w w'→K (.bool (xs.any p)) w'):Q1 P F.m [v,f] w K:=by
 refine Rh (fun (_:Unit) x=>(p x,())) () (fun _ w'=>Below w.heap.size w w') (fun _=>False) (fun _ w' hb=>hs.below hb) (Below.refl _ _) hv (fun s x cs w1 K hx hk hi hr hl hK=>hf x cs w1 K hx (hs.below hi) hr hl fun w' hb=>hK w' (.of_below (bt hi hb)) (bt hi hb)) fun w' hk hi=>?_
 rw[K5]
 simpa using h w' hi
theorem Fs {β:Type} {xs:List Cla} {v f:Value} (b:β→Cla→Bool×β) (j:β) (a:β→World→Prop) (D:Nat→Prop) (k: ∀s w,a s w→X2 w σ) (C:a j w) (u:Sl 8 V0 σ v xs)
 (A: ∀s x cs (w1:World) (K:Value→World→Prop),x∈xs→Kpt D w w1→a s w1→V0 σ x cs→cs.length=8→(∀w',Kpt D w w'→a (b s x).2 w'→K (.bool (b s x).1) w')→Z3 P f [.agg cs.toArray] w1 K)
 (h: ∀w',Kpt D w w'→a (J0 b j xs 0).2 w'→K (I (L5 (J0 b j xs 0).1)) w'):Q1 P F.o [v,f] w K:=Yp (by
 unfold B9
 ((try simp only[↓M1,M1,Mb,reduceIte]);repeat ((first | refine ld (by assumption) (by assumption) rfl ?_ | refine X7 (by assumption) (by assumption) rfl ?_ | refine Q8 (by assumption) ?_);(try simp only[↓M1,M1,Mb,reduceIte])))
 refine U1 xs.length (fun n w'=>Kpt D w w'∧ ∃s,a s w'∧J0 b j xs 0=J0 b s (xs.drop n) n) ⟨Kpt.refl,j,C,rfl⟩ fun n w1 d E i=>?_
 obtain ⟨t,s,i,g⟩:=i
 have o:=k s w1 i
 ((try simp only[↓M1,M1,Mb,reduceIte]);repeat ((first | refine ld (by assumption) (by assumption) rfl ?_ | refine X7 (by assumption) (by assumption) rfl ?_ | refine Q8 (by assumption) ?_);(try simp only[↓M1,M1,Mb,reduceIte])))
 refine Q7 (fun q=>?_) (fun q=>?_)
 ·have c:n<xs.length:=by simpa using q
  refine M9 u c fun p cs B e z=>?_
  refine Y4 o B e ?_
  refine A s xs[n] cs w1 _ (List.getElem_mem c) t i z e fun y m l=>?_
  rw[List.drop_eq_getElem_cons c] at g
  simp only[J0] at g
  refine Q7 (fun r=>?_) (fun r=>?_)
  ·rw[r] at g
   have:=h y m
   rw[g] at this
   exact this l
  ·rw[r] at g
   ((try simp only[↓M1,M1,Mb,reduceIte]);repeat ((first | refine ld (by assumption) (by assumption) rfl ?_ | refine X7 (by assumption) (by assumption) rfl ?_ | refine Q8 (by assumption) ?_);(try simp only[↓M1,M1,Mb,reduceIte])))
   exact Y6 u.max c ⟨m,_,l,by simpa using g⟩
 ·have c: ¬n<xs.length:=by simpa using q
  rw[List.drop_eq_nil_of_le (by omega)] at g
  have:=h w1 t
  rw[g] at this
  exact this i)
theorem Fe {xs:List Cla} {v f:Value} (p:Cla→Bool) (hs:X2 w σ) (hv:Sl 8 V0 σ v xs)
 (hf: ∀x cs (w1:World) (K:Value→World→Prop),x∈xs→X2 w1 σ→V0 σ x cs→cs.length=8→(∀w',Below w1.heap.size w1 w'→K (.bool (p x)) w')→Z3 P f [.agg cs.toArray] w1 K)
 (h: ∀w',Below w.heap.size w w'→K (I (L5 (xs.findIdx? p))) w'):Q1 P F.o [v,f] w K:=by
 refine Fs (fun (_:Unit) x=>(p x,())) () (fun _ w'=>Below w.heap.size w w') (fun _=>False) (fun _ w' hb=>hs.below hb) (Below.refl _ _) hv (fun s x cs w1 K hx hk hi hr hl hK=>hf x cs w1 K hx (hs.below hi) hr hl fun w' hb=>hK w' (.of_below (bt hi hb)) (bt hi hb)) fun w' hk hi=>?_
 rw[K5]
 simpa using h w' hi
theorem Q08 {β:Type} {xs:List X0} {v f:Value} (b:β→X0→Bool×β) (j:β) (a:β→World→Prop) (D:Nat→Prop) (k: ∀s w,a s w→X2 w σ) (E:a j w) (y:Sl 1 U9 σ v xs)
 (B: ∀s x (w1:World) (K:Value→World→Prop),x∈xs→Kpt D w w1→a s w1→x.length≤U0→(∀w',Kpt D w w'→a (b s x).2 w'→K (.bool (b s x).1) w')→Z3 P f [S x] w1 K)
 (h: ∀w',Kpt D w w'→a (J0 b j xs 0).2 w'→K (I (L5 (J0 b j xs 0).1)) w'):Q1 P F.w [v,f] w K:=Vb (by
 unfold P4
 ((try simp only[↓M1,M1,Mb,reduceIte]);repeat ((first | refine ld (by assumption) (by assumption) rfl ?_ | refine X7 (by assumption) (by assumption) rfl ?_ | refine Q8 (by assumption) ?_);(try simp only[↓M1,M1,Mb,reduceIte])))
 refine U1 xs.length (fun n w'=>Kpt D w w'∧ ∃s,a s w'∧J0 b j xs 0=J0 b s (xs.drop n) n) ⟨Kpt.refl,j,E,rfl⟩ fun n w1 d H i=>?_
 obtain ⟨u,s,i,e⟩:=i
 have o:=k s w1 i
 ((try simp only[↓M1,M1,Mb,reduceIte]);repeat ((first | refine ld (by assumption) (by assumption) rfl ?_ | refine X7 (by assumption) (by assumption) rfl ?_ | refine Q8 (by assumption) ?_);(try simp only[↓M1,M1,Mb,reduceIte])))
 refine Q7 (fun q=>?_) (fun q=>?_)
 ·have c:n<xs.length:=by simpa using q
  refine M9 y c fun p cs C t A=>?_
  obtain ⟨rfl,g⟩:=A
  refine X7 o C rfl ?_
  refine B s xs[n] w1 _ (List.getElem_mem c) u i g fun z m l=>?_
  rw[List.drop_eq_getElem_cons c] at e
  simp only[J0] at e
  refine Q7 (fun r=>?_) (fun r=>?_)
  ·rw[r] at e
   have:=h z m
   rw[e] at this
   exact this l
  ·rw[r] at e
   ((try simp only[↓M1,M1,Mb,reduceIte]);repeat ((first | refine ld (by assumption) (by assumption) rfl ?_ | refine X7 (by assumption) (by assumption) rfl ?_ | refine Q8 (by assumption) ?_);(try simp only[↓M1,M1,Mb,reduceIte])))
   exact Y6 y.max c ⟨m,_,l,by simpa using e⟩
 ·have c: ¬n<xs.length:=by simpa using q
  rw[List.drop_eq_nil_of_le (by omega)] at e
  have:=h w1 u
  rw[e] at this
  exact this i)
theorem Q0t {xs:List X0} {v f:Value} (p:X0→Bool) (hs:X2 w σ) (hv:Sl 1 U9 σ v xs)
 (hf: ∀x (w1:World) (K:Value→World→Prop),x∈xs→X2 w1 σ→x.length≤U0→(∀w',Below w1.heap.size w1 w'→K (.bool (p x)) w')→Z3 P f [S x] w1 K)
 (h: ∀w',Below w.heap.size w w'→K (I (L5 (xs.findIdx? p))) w'):Q1 P F.w [v,f] w K:=by
 refine Q08 (fun (_:Unit) x=>(p x,())) () (fun _ w'=>Below w.heap.size w w') (fun _=>False) (fun _ w' hb=>hs.below hb) (Below.refl _ _) hv (fun s x w1 K hx hk hi hr hK=>hf x w1 K hx (hs.below hi) hr fun w' hb=>hK w' (.of_below (bt hi hb)) (bt hi hb)) fun w' hk hi=>?_
 rw[K5]
 simpa using h w' hi
theorem Q5f {α:Type} (p:α→Bool) (xs:List α):decide ((0:Int)≤L5 (xs.findIdx? p))=xs.any p:=by
 rw[Bool.eq_iff_iff,List.any_eq_true]
 simp only[decide_eq_true_eq]
 cases h:xs.findIdx? p with
 | none=>
  simp only[L5]
  constructor
  ·intro h;omega
  ·rintro ⟨x,c,a⟩;have:=List.findIdx?_eq_none_iff.1 h x c;rw[a] at this;cases this
 | some i=>
  simp only[L5]
  obtain ⟨b,a,_⟩:=List.findIdx?_eq_some_iff_getElem.1 h
  exact ⟨fun _=>⟨xs[i],List.getElem_mem b,a⟩,fun _=>by omega⟩
theorem K8 {xs:List X0} {v f:Value} (p:X0→Bool) (c:X2 w σ) (d:Sl 1 U9 σ v xs)
 (a: ∀x (w1:World) (K:Value→World→Prop),x∈xs→X2 w1 σ→x.length≤U0→(∀w',Below w1.heap.size w1 w'→K (.bool (p x)) w')→Z3 P f [S x] w1 K)
 (h: ∀w',Below w.heap.size w w'→K (.bool (xs.any p)) w'):Q1 P F.c [v,f] w K:=Ja (by
 unfold I3
 refine Q0t p c d a fun w1 b=>?_
 (try simp only[↓M1,M1,Mb,reduceIte])
 rw[Q5f]
 exact h w1 b)
theorem Q3F {xs:List X0} {v:Value} {x:X0} (m:X2 w σ) (i:Sl 1 U9 σ v xs)
 (h:K (I (L5 (xs.findIdx? fun y=>decide (x=y)))) w):Q1 P F.ap [v,S x] w K:=Nc (by
 unfold Qh
 ((try simp only[↓M1,M1,Mb,reduceIte]);repeat ((first | refine ld (by assumption) (by assumption) rfl ?_ | refine X7 (by assumption) (by assumption) rfl ?_ | refine Q8 (by assumption) ?_);(try simp only[↓M1,M1,Mb,reduceIte])))
 refine U1 xs.length (fun n w'=>w=w'∧(xs.take n).any (fun y=>decide (x=y))=false) ⟨rfl,rfl⟩ fun n w1 d o b=>?_
 obtain ⟨rfl,b⟩:=b
 ((try simp only[↓M1,M1,Mb,reduceIte]);repeat ((first | refine ld (by assumption) (by assumption) rfl ?_ | refine X7 (by assumption) (by assumption) rfl ?_ | refine Q8 (by assumption) ?_);(try simp only[↓M1,M1,Mb,reduceIte])))
 refine Q7 (fun c=>?_) (fun c=>?_)
 ·have a:n<xs.length:=by simpa using c
  refine M9 i a fun p cs r f k=>?_
  obtain ⟨rfl,g⟩:=k
  ((try simp only[↓M1,M1,Mb,reduceIte]);repeat ((first | refine ld (by assumption) (by assumption) rfl ?_ | refine X7 (by assumption) (by assumption) rfl ?_ | refine Q8 (by assumption) ?_);(try simp only[↓M1,M1,Mb,reduceIte])))
  refine Q7 (fun e=>?_) (fun e=>?_)
  ·have:xs.findIdx? (fun y=>decide (x=y))=some n:=by
    rw[List.findIdx?_eq_some_iff_getElem]
    refine ⟨a,e,fun j q=>?_⟩
    have:=List.any_eq_false.1 b (xs[j]) (List.mem_take_iff_getElem.2 ⟨j,by omega,rfl⟩)
    exact this
   rw[this] at h;exact h
  ·((try simp only[↓M1,M1,Mb,reduceIte]);repeat ((first | refine ld (by assumption) (by assumption) rfl ?_ | refine X7 (by assumption) (by assumption) rfl ?_ | refine Q8 (by assumption) ?_);(try simp only[↓M1,M1,Mb,reduceIte])))
   exact Y6 i.max a ⟨rfl,by rw[L4 a,b,e];rfl⟩
 ·have a: ¬n<xs.length:=by simpa using c
  rw[D9 a] at b
  have:xs.findIdx? (fun y=>decide (x=y))=none:=by
   rw[List.findIdx?_eq_none_iff];intro y l;simpa using List.any_eq_false.1 b y l
  rw[this] at h;exact h)
theorem Q1B {xs:List X0} {v:Value} {x:X0} (a:X2 w σ) (b:Sl 1 U9 σ v xs)
 (h:K (.bool (xs.any fun y=>decide (x=y))) w):Q1 P F.af [v,S x] w K:=Vs (by
 unfold T0
 refine Q3F a b ?_
 (try simp only[↓M1,M1,Mb,reduceIte])
 rw[Q5f]
 exact h)
end Go.Proofs.YtjdiakhipmggjaaGreatDoor

namespace Go.Emb
abbrev Q5.Le (σ σ':Q5):Prop:= ∀b o,σ b=some o→σ' b=some o
def C1 {α:Type} (f:α→List UInt8):List α→List α→Bool
 | _,[]=>true
 | seen,x::r=> !(seen.any fun y=>decide (f y=f x))&&C1 f (seen++[x]) r
theorem Vq {α:Type} (p:α→Bool) (xs:List α):(!xs.any fun x=> !p x)=xs.all p:=by
 rw[List.all_eq_not_any_not]
end Go.Emb
namespace Go.Proofs.YtjdiakhipmggjaaGreatDoor
open Go.Emb Go.RowKit Go.Kd Go.Hm
variable {w : World} {K : Value → World → Prop} {σ : Q5}
theorem Q0F {xs:List Hm.Met} {v:Value} {fn:Fn} {l d:Array Value} (p:Hm.Met→Bool) (t:X2 w σ) (B:Sl 7 E5 σ v xs)
 (s: ∀(σ1:Q5) x cs (w1:World) (K:Value→World→Prop),σ.Le σ1→x∈xs→X2 w1 σ1→E5 σ1 x cs→cs.length=7→(∀w',Below w1.heap.size w1 w'→K (.bool (p x)) w')→Z3 P (.func fn l d) [.agg cs.toArray] w1 K)
 (h: ∀w',Below w.heap.size w w'→K (.bool (xs.all p)) w'):Q1 P F.al [v, .func fn l d] w K:=Rz (by
 unfold Ud
 refine E4 t fun a w1 σ1 f k=>?_
 simp only[Value.cells] at k
 ((try simp only[↓M1,M1,Mb,reduceIte]);repeat ((first | refine ld (by assumption) (by assumption) rfl ?_ | refine X7 (by assumption) (by assumption) rfl ?_ | refine Q8 (by assumption) ?_);(try simp only[↓M1,M1,Mb,reduceIte])))
 refine B4 (fun x=> !p x) f.sat (B.up f) (fun x cs m K y g r n z=>?_) fun m C=>?_
 ·refine Z6 (Ew ?_)
  unfold Yz
  refine E4 g fun b u q c i=>?_
  refine X7 c.sat (k.up c) rfl ?_
  refine Y4 c.sat i n ?_
  refine s q x _ u _ (fun b o e=>c.le b o (f.le b o e)) y c.sat (Rep.up c.le r) n fun A j=>?_
  (try simp only[↓M1,M1,Mb,reduceIte])
  exact z A (bt c.bel j)
 ·(try simp only[↓M1,M1,Mb,reduceIte])
  rw[Vq]
  exact h m (bt f.bel C))
theorem Q1N {xs:List Fld} {v:Value} {fn:Fn} {l d:Array Value} (p:Fld→Bool) (t:X2 w σ) (B:Sl 3 R3 σ v xs)
 (s: ∀(σ1:Q5) x cs (w1:World) (K:Value→World→Prop),σ.Le σ1→x∈xs→X2 w1 σ1→R3 σ1 x cs→cs.length=3→(∀w',Below w1.heap.size w1 w'→K (.bool (p x)) w')→Z3 P (.func fn l d) [.agg cs.toArray] w1 K)
 (h: ∀w',Below w.heap.size w w'→K (.bool (xs.all p)) w'):Q1 P F.ao [v, .func fn l d] w K:=Ch (by
 unfold Ur
 refine E4 t fun a w1 σ1 f k=>?_
 simp only[Value.cells] at k
 ((try simp only[↓M1,M1,Mb,reduceIte]);repeat ((first | refine ld (by assumption) (by assumption) rfl ?_ | refine X7 (by assumption) (by assumption) rfl ?_ | refine Q8 (by assumption) ?_);(try simp only[↓M1,M1,Mb,reduceIte])))
 refine Jl (fun x=> !p x) f.sat (B.up f) (fun x cs m K y g r n z=>?_) fun m C=>?_
 ·refine Z6 (Hx ?_)
  unfold Zu
  refine E4 g fun b u q c i=>?_
  refine X7 c.sat (k.up c) rfl ?_
  refine Y4 c.sat i n ?_
  refine s q x _ u _ (fun b o e=>c.le b o (f.le b o e)) y c.sat (Rep.up c.le r) n fun A j=>?_
  (try simp only[↓M1,M1,Mb,reduceIte])
  exact z A (bt c.bel j)
 ·(try simp only[↓M1,M1,Mb,reduceIte])
  rw[Vq]
  exact h m (bt f.bel C))
theorem Q1H {xs:List Ins} {v:Value} {fn:Fn} {l d:Array Value} (p:Ins→Bool) (t:X2 w σ) (B:Sl 3 Qk σ v xs)
 (s: ∀(σ1:Q5) x cs (w1:World) (K:Value→World→Prop),σ.Le σ1→x∈xs→X2 w1 σ1→Qk σ1 x cs→cs.length=3→(∀w',Below w1.heap.size w1 w'→K (.bool (p x)) w')→Z3 P (.func fn l d) [.agg cs.toArray] w1 K)
 (h: ∀w',Below w.heap.size w w'→K (.bool (xs.all p)) w'):Q1 P F.aq [v, .func fn l d] w K:=Cd (by
 unfold Ux
 refine E4 t fun a w1 σ1 f k=>?_
 simp only[Value.cells] at k
 ((try simp only[↓M1,M1,Mb,reduceIte]);repeat ((first | refine ld (by assumption) (by assumption) rfl ?_ | refine X7 (by assumption) (by assumption) rfl ?_ | refine Q8 (by assumption) ?_);(try simp only[↓M1,M1,Mb,reduceIte])))
 refine Rx (fun x=> !p x) f.sat (B.up f) (fun x cs m K y g r n z=>?_) fun m C=>?_
 ·refine Z6 (Hr ?_)
  unfold Zt
  refine E4 g fun b u q c i=>?_
  refine X7 c.sat (k.up c) rfl ?_
  refine Y4 c.sat i n ?_
  refine s q x _ u _ (fun b o e=>c.le b o (f.le b o e)) y c.sat (Rep.up c.le r) n fun A j=>?_
  (try simp only[↓M1,M1,Mb,reduceIte])
  exact z A (bt c.bel j)
 ·(try simp only[↓M1,M1,Mb,reduceIte])
  rw[Vq]
  exact h m (bt f.bel C))
theorem Q1F {xs:List Cat} {v:Value} {fn:Fn} {l d:Array Value} (p:Cat→Bool) (t:X2 w σ) (B:Sl 4 Ui σ v xs)
 (s: ∀(σ1:Q5) x cs (w1:World) (K:Value→World→Prop),σ.Le σ1→x∈xs→X2 w1 σ1→Ui σ1 x cs→cs.length=4→(∀w',Below w1.heap.size w1 w'→K (.bool (p x)) w')→Z3 P (.func fn l d) [.agg cs.toArray] w1 K)
 (h: ∀w',Below w.heap.size w w'→K (.bool (xs.all p)) w'):Q1 P F.ar [v, .func fn l d] w K:=Ck (by
 unfold Ut
 refine E4 t fun a w1 σ1 f k=>?_
 simp only[Value.cells] at k
 ((try simp only[↓M1,M1,Mb,reduceIte]);repeat ((first | refine ld (by assumption) (by assumption) rfl ?_ | refine X7 (by assumption) (by assumption) rfl ?_ | refine Q8 (by assumption) ?_);(try simp only[↓M1,M1,Mb,reduceIte])))
 refine Sj (fun x=> !p x) f.sat (B.up f) (fun x cs m K y g r n z=>?_) fun m C=>?_
 ·refine Z6 (Hw ?_)
  unfold Zr
  refine E4 g fun b u q c i=>?_
  refine X7 c.sat (k.up c) rfl ?_
  refine Y4 c.sat i n ?_
  refine s q x _ u _ (fun b o e=>c.le b o (f.le b o e)) y c.sat (Rep.up c.le r) n fun A j=>?_
  (try simp only[↓M1,M1,Mb,reduceIte])
  exact z A (bt c.bel j)
 ·(try simp only[↓M1,M1,Mb,reduceIte])
  rw[Vq]
  exact h m (bt f.bel C))
theorem Fh {xs:List X0} {v:Value} {fn:Fn} {i c:Array Value} (p:X0→Bool) (l:X2 w σ) (q:Sl 1 U9 σ v xs)
 (k: ∀(σ1:Q5) x (w1:World) (K:Value→World→Prop),σ.Le σ1→x∈xs→X2 w1 σ1→x.length≤U0→(∀w',Below w1.heap.size w1 w'→K (.bool (p x)) w')→Z3 P (.func fn i c) [S x] w1 K)
 (h: ∀w',Below w.heap.size w w'→K (.bool (xs.all p)) w'):Q1 P F.aa [v, .func fn i c] w K:=Km (by
 unfold Lp
 refine E4 l fun a w1 σ1 d g=>?_
 simp only[Value.cells] at g
 ((try simp only[↓M1,M1,Mb,reduceIte]);repeat ((first | refine ld (by assumption) (by assumption) rfl ?_ | refine X7 (by assumption) (by assumption) rfl ?_ | refine Q8 (by assumption) ?_);(try simp only[↓M1,M1,Mb,reduceIte])))
 refine K8 (fun x=> !p x) d.sat (q.up d) (fun x e K m b j n=>?_) fun e r=>?_
 ·refine Z6 (Bd ?_)
  unfold Vi
  refine X7 b g rfl ?_
  refine k σ1 x e _ d.le m b j fun o f=>?_
  (try simp only[↓M1,M1,Mb,reduceIte])
  exact n o f
 ·(try simp only[↓M1,M1,Mb,reduceIte])
  rw[Vq]
  exact h e (bt d.bel r))
theorem Q1D {xs:List Hm.Met} {v:Value} {fn:Fn} {E l:Array Value} (f:Hm.Met→X0) (hs:X2 w σ) (B:Sl 7 E5 σ v xs)
 (Z: ∀(σ1:Q5) x cs (w1:World) (K:Value→World→Prop),σ.Le σ1→X2 w1 σ1→E5 σ1 x cs→cs.length=7→(∀w',Below w1.heap.size w1 w'→K (S (f x)) w')→Z3 P (.func fn E l) [.agg cs.toArray] w1 K)
 (h: ∀w',Below w.heap.size w w'→K (.bool (C1 f [] xs)) w'):Q1 P F.an [v, .func fn E l] w K:=Cb (by
 unfold Uu
 refine E4 hs fun a w1 σ1 z X=>?_
 simp only[Value.cells] at X
 have L:=z.sat
 replace B:=B.up z
 ((try simp only[↓M1,M1,Mb,reduceIte]);repeat ((first | refine ld (by assumption) (by assumption) rfl ?_ | refine X7 (by assumption) (by assumption) rfl ?_ | refine Q8 (by assumption) ?_);(try simp only[↓M1,M1,Mb,reduceIte])))
 refine U1 xs.length (fun n w'=>Below w1.heap.size w1 w'∧C1 f [] xs=C1 f (xs.take n) (xs.drop n)) ⟨Below.refl _ _,rfl⟩ fun n w2 d hn hi=>?_
 obtain ⟨j,m⟩:=hi
 have u:=L.below j
 ((try simp only[↓M1,M1,Mb,reduceIte]);repeat ((first | refine ld (by assumption) (by assumption) rfl ?_ | refine X7 (by assumption) (by assumption) rfl ?_ | refine Q8 (by assumption) ?_);(try simp only[↓M1,M1,Mb,reduceIte])))
 refine Q7 (fun W=>?_) (fun W=>?_)
 ·have k:n<xs.length:=by simpa using W
  rw[List.drop_eq_getElem_cons k] at m
  simp only[C1] at m
  refine M9 B k fun p cs hl g Y=>?_
  refine Y4 u hl g ?_
  refine Y9 u (by rfl) g (Rep.one Y) fun q w3 σ3 i hq=>?_
  refine Dq (B.up i) none (some (I n)) 0 n (.inl ⟨rfl,rfl⟩) (.inr rfl) (by omega) (by omega) fun v' U=>?_
  ((try simp only[↓M1,M1,Mb,reduceIte]);repeat ((first | refine ld (by assumption) (by assumption) rfl ?_ | refine X7 (by assumption) (by assumption) rfl ?_ | refine Q8 (by assumption) ?_);(try simp only[↓M1,M1,Mb,reduceIte])))
  refine B4 (fun y=>decide (f y=f xs[n])) i.sat U (fun y ys w4 K hy V O D hK=>?_) fun w4 Q=>?_
  ·refine Z6 (Hs ?_)
   unfold Zs
   refine E4 V fun b w5 H c M=>?_
   have C:=(X.up i).up c
   have J:=hq.up c
   have s:σ.Le H:=fun b o e=>c.le b o (i.le b o (z.le b o e))
   refine De (Below.refl _ _) ?_
   refine X4 (.func fn E l) (fun w j=>X7 (c.sat.below j) C rfl (X6 rfl)) ?_
   refine X4 (.agg ys.toArray) (fun w j=>Y4 (c.sat.below j) M D (X6 rfl)) ?_
   refine X4 (S (f y)) (fun t t' w j e e'=>by rw[e,e'];exact Z H y ys w _ s (c.sat.below j) (Rep.up c.le O) D fun w' R=>Q3e R rfl) ?_
   refine X4 (.func fn E l) (fun w j=>X7 (c.sat.below j) C rfl (X6 rfl)) ?_
   refine X4 (.agg cs.toArray) (fun w j=>Y4 (c.sat.below j) J g (X6 rfl)) ?_
   rintro _ _ _ _ _ w6 A rfl rfl rfl rfl rfl
   refine Z H xs[n] cs w6 _ s (c.sat.below A) (Rep.up (fun b o e=>c.le b o (i.le b o e)) Y) g fun w7 N=>?_
   (try simp only[↓M1,M1,Mb,reduceIte])
   exact hK w7 (bt (bt c.bel A) N)
  ·have r:=bt j (bt i.bel Q)
   simp only[List.drop_zero,Nat.sub_zero] at*
   refine Q7 (fun hh=>?_) (fun hh=>?_)
   ·rw[hh] at m
    have:=h w4 (bt z.bel r)
    rw[m] at this;exact this
   ·rw[hh] at m
    ((try simp only[↓M1,M1,Mb,reduceIte]);repeat ((first | refine ld (by assumption) (by assumption) rfl ?_ | refine X7 (by assumption) (by assumption) rfl ?_ | refine Q8 (by assumption) ?_);(try simp only[↓M1,M1,Mb,reduceIte])))
    refine Y6 B.max k ⟨r,?_⟩
    rw[m,List.take_add_one,List.getElem?_eq_getElem k];rfl
 ·have k: ¬n<xs.length:=by simpa using W
  rw[List.drop_eq_nil_of_le (by omega)] at m
  have:=h w2 (bt z.bel j)
  rw[m] at this;exact this)
theorem Q2o {xs:List Fld} {v:Value} {fn:Fn} {E l:Array Value} (f:Fld→X0) (hs:X2 w σ) (B:Sl 3 R3 σ v xs)
 (Z: ∀(σ1:Q5) x cs (w1:World) (K:Value→World→Prop),σ.Le σ1→X2 w1 σ1→R3 σ1 x cs→cs.length=3→(∀w',Below w1.heap.size w1 w'→K (S (f x)) w')→Z3 P (.func fn E l) [.agg cs.toArray] w1 K)
 (h: ∀w',Below w.heap.size w w'→K (.bool (C1 f [] xs)) w'):Q1 P F.aB [v, .func fn E l] w K:=Bt (by
 unfold Vo
 refine E4 hs fun a w1 σ1 z X=>?_
 simp only[Value.cells] at X
 have L:=z.sat
 replace B:=B.up z
 ((try simp only[↓M1,M1,Mb,reduceIte]);repeat ((first | refine ld (by assumption) (by assumption) rfl ?_ | refine X7 (by assumption) (by assumption) rfl ?_ | refine Q8 (by assumption) ?_);(try simp only[↓M1,M1,Mb,reduceIte])))
 refine U1 xs.length (fun n w'=>Below w1.heap.size w1 w'∧C1 f [] xs=C1 f (xs.take n) (xs.drop n)) ⟨Below.refl _ _,rfl⟩ fun n w2 d hn hi=>?_
 obtain ⟨j,m⟩:=hi
 have u:=L.below j
 ((try simp only[↓M1,M1,Mb,reduceIte]);repeat ((first | refine ld (by assumption) (by assumption) rfl ?_ | refine X7 (by assumption) (by assumption) rfl ?_ | refine Q8 (by assumption) ?_);(try simp only[↓M1,M1,Mb,reduceIte])))
 refine Q7 (fun W=>?_) (fun W=>?_)
 ·have k:n<xs.length:=by simpa using W
  rw[List.drop_eq_getElem_cons k] at m
  simp only[C1] at m
  refine M9 B k fun p cs hl g Y=>?_
  refine Y4 u hl g ?_
  refine Y9 u (by rfl) g (Rep.one Y) fun q w3 σ3 i hq=>?_
  refine Dq (B.up i) none (some (I n)) 0 n (.inl ⟨rfl,rfl⟩) (.inr rfl) (by omega) (by omega) fun v' U=>?_
  ((try simp only[↓M1,M1,Mb,reduceIte]);repeat ((first | refine ld (by assumption) (by assumption) rfl ?_ | refine X7 (by assumption) (by assumption) rfl ?_ | refine Q8 (by assumption) ?_);(try simp only[↓M1,M1,Mb,reduceIte])))
  refine Jl (fun y=>decide (f y=f xs[n])) i.sat U (fun y ys w4 K hy V O D hK=>?_) fun w4 Q=>?_
  ·refine Z6 (Ry ?_)
   unfold Ue
   refine E4 V fun b w5 H c M=>?_
   have C:=(X.up i).up c
   have J:=hq.up c
   have s:σ.Le H:=fun b o e=>c.le b o (i.le b o (z.le b o e))
   refine De (Below.refl _ _) ?_
   refine X4 (.func fn E l) (fun w j=>X7 (c.sat.below j) C rfl (X6 rfl)) ?_
   refine X4 (.agg ys.toArray) (fun w j=>Y4 (c.sat.below j) M D (X6 rfl)) ?_
   refine X4 (S (f y)) (fun t t' w j e e'=>by rw[e,e'];exact Z H y ys w _ s (c.sat.below j) (Rep.up c.le O) D fun w' R=>Q3e R rfl) ?_
   refine X4 (.func fn E l) (fun w j=>X7 (c.sat.below j) C rfl (X6 rfl)) ?_
   refine X4 (.agg cs.toArray) (fun w j=>Y4 (c.sat.below j) J g (X6 rfl)) ?_
   rintro _ _ _ _ _ w6 A rfl rfl rfl rfl rfl
   refine Z H xs[n] cs w6 _ s (c.sat.below A) (Rep.up (fun b o e=>c.le b o (i.le b o e)) Y) g fun w7 N=>?_
   (try simp only[↓M1,M1,Mb,reduceIte])
   exact hK w7 (bt (bt c.bel A) N)
  ·have r:=bt j (bt i.bel Q)
   simp only[List.drop_zero,Nat.sub_zero] at*
   refine Q7 (fun hh=>?_) (fun hh=>?_)
   ·rw[hh] at m
    have:=h w4 (bt z.bel r)
    rw[m] at this;exact this
   ·rw[hh] at m
    ((try simp only[↓M1,M1,Mb,reduceIte]);repeat ((first | refine ld (by assumption) (by assumption) rfl ?_ | refine X7 (by assumption) (by assumption) rfl ?_ | refine Q8 (by assumption) ?_);(try simp only[↓M1,M1,Mb,reduceIte])))
    refine Y6 B.max k ⟨r,?_⟩
    rw[m,List.take_add_one,List.getElem?_eq_getElem k];rfl
 ·have k: ¬n<xs.length:=by simpa using W
  rw[List.drop_eq_nil_of_le (by omega)] at m
  have:=h w2 (bt z.bel j)
  rw[m] at this;exact this)
theorem Q4E {xs:List X0} {v:Value} {fn:Fn} {D k:Array Value} (f:X0→X0) (hs:X2 w σ) (B:Sl 1 U9 σ v xs)
 (V: ∀(σ1:Q5) x (w1:World) (K:Value→World→Prop),σ.Le σ1→X2 w1 σ1→x.length≤U0→(∀w',Below w1.heap.size w1 w'→K (S (f x)) w')→Z3 P (.func fn D k) [S x] w1 K)
 (h: ∀w',Below w.heap.size w w'→K (.bool (C1 f [] xs)) w'):Q1 P F.aR [v, .func fn D k] w K:=An (by
 unfold Db
 refine E4 hs fun a w1 σ1 z R=>?_
 simp only[Value.cells] at R
 have E:=z.sat
 replace B:=B.up z
 ((try simp only[↓M1,M1,Mb,reduceIte]);repeat ((first | refine ld (by assumption) (by assumption) rfl ?_ | refine X7 (by assumption) (by assumption) rfl ?_ | refine Q8 (by assumption) ?_);(try simp only[↓M1,M1,Mb,reduceIte])))
 refine U1 xs.length (fun n w'=>Below w1.heap.size w1 w'∧C1 f [] xs=C1 f (xs.take n) (xs.drop n)) ⟨Below.refl _ _,rfl⟩ fun n Y d hn hi=>?_
 obtain ⟨j,l⟩:=hi
 have s:=E.below j
 ((try simp only[↓M1,M1,Mb,reduceIte]);repeat ((first | refine ld (by assumption) (by assumption) rfl ?_ | refine X7 (by assumption) (by assumption) rfl ?_ | refine Q8 (by assumption) ?_);(try simp only[↓M1,M1,Mb,reduceIte])))
 refine Q7 (fun Q=>?_) (fun Q=>?_)
 ·have c:n<xs.length:=by simpa using Q
  rw[List.drop_eq_getElem_cons c] at l
  simp only[C1] at l
  refine M9 B c fun p cs hl U hr=>?_
  obtain ⟨rfl,u⟩:=hr
  refine X7 s hl rfl ?_
  refine U7 s (by rfl) rfl rfl fun q w3 H g hq=>?_
  refine Dq (B.up g) none (some (I n)) 0 n (.inl ⟨rfl,rfl⟩) (.inr rfl) (by omega) (by omega) fun v' O=>?_
  ((try simp only[↓M1,M1,Mb,reduceIte]);repeat ((first | refine ld (by assumption) (by assumption) rfl ?_ | refine X7 (by assumption) (by assumption) rfl ?_ | refine Q8 (by assumption) ?_);(try simp only[↓M1,M1,Mb,reduceIte])))
  refine K8 (fun y=>decide (f y=f xs[n])) g.sat O (fun y W K hy i L hK=>?_) fun W M=>?_
  ·refine Z6 (Fj ?_)
   unfold Wx
   have C:=R.up g
   have r:σ.Le H:=fun b o e=>g.le b o (z.le b o e)
   refine De (Below.refl _ _) ?_
   refine X4 (.func fn D k) (fun w j=>X7 (i.below j) C rfl (X6 rfl)) ?_
   refine X4 (S (f y)) (fun t w j e=>by rw[e];exact V H y w _ r (i.below j) L fun w' N=>Q3e N rfl) ?_
   refine X4 (.func fn D k) (fun w j=>X7 (i.below j) C rfl (X6 rfl)) ?_
   refine X4 (S xs[n]) (fun w j=>X7 (i.below j) hq rfl (X6 rfl)) ?_
   rintro _ _ _ _ Z A rfl rfl rfl rfl
   refine V H xs[n] Z _ r (i.below A) u fun X J=>?_
   (try simp only[↓M1,M1,Mb,reduceIte])
   exact hK X (bt A J)
  ·have m:=bt j (bt g.bel M)
   simp only[List.drop_zero,Nat.sub_zero] at*
   refine Q7 (fun hh=>?_) (fun hh=>?_)
   ·rw[hh] at l
    have:=h W (bt z.bel m)
    rw[l] at this;exact this
   ·rw[hh] at l
    ((try simp only[↓M1,M1,Mb,reduceIte]);repeat ((first | refine ld (by assumption) (by assumption) rfl ?_ | refine X7 (by assumption) (by assumption) rfl ?_ | refine Q8 (by assumption) ?_);(try simp only[↓M1,M1,Mb,reduceIte])))
    refine Y6 B.max c ⟨m,?_⟩
    rw[l,List.take_add_one,List.getElem?_eq_getElem c];rfl
 ·have c: ¬n<xs.length:=by simpa using Q
  rw[List.drop_eq_nil_of_le (by omega)] at l
  have:=h Y (bt z.bel j)
  rw[l] at this;exact this)
theorem Q6u {P:Program} {w:World} (d:Nat) (t e:TypeId) (a:Option Addr) (n c:Nat) (h:P.underlying t=some (.slice e)):
 (Op.equalIn (d+1) t (.slice a n c) (.slice none 0 0)).run P w= .ok a.isNone w:=by
 cases a<;>simp[Op.equalIn,run_underlying h]
theorem Q1k {t e:TypeId} {j f:Operand} [ts:TS P t e] {a:Option Addr} {n c:Nat} {b:Bool} (i:a.isNone=b) (d:K (.bool b) w):Q3 P .eql t j f (.slice a n c) (.slice none 0 0) w K:=by
 have g:(Op.equal t (.slice a n c) (.slice none 0 0)).run P w= .ok b w:=by
  have:=Q6u (P:=P) (w:=w) 9999 t e a n c ts.h
  rw[i] at this
  exact this
 unfold Q3
 rw[X9 (v:= .bool b) (w':=w) (by simp[eqGuard,Go.binOp,g])]
 exact d
theorem Lk {xs:List X0} {v:Value} (e:X2 w σ) (g:Sl 1 U9 σ v xs) (B:xs.length≤1000000)
 (h: ∀f w' b,Stp w σ w' b→Sl 1 U9 b f xs→K f w'):Q1 P F.a8 [v] w K:=Lz (by
 unfold Qe
 have c:=g
 obtain ⟨a,k,rfl,t,u,m,y⟩:=g
 refine Q1k rfl ?_
 refine Q7 (fun i=>?_) (fun i=>?_)
 ·have:a=none:=by simpa using i
  have C:=m this
  have q:xs=[]:=List.eq_nil_of_length_eq_zero (by omega)
  subst q
  exact h _ w σ (Stp.refl e) Sl.nil
 ·refine Yu (R:=U9) (sz:=1) (Stp.refl e) [] [] rfl rfl (by simp) (by rfl) trivial fun A w1 n j _=>?_
  refine app n j c (by rfl) (by simp only[List.length_nil];omega) (by simp only[List.length_nil];omega) fun z l s r d _=>?_
  obtain ⟨b,p,o,_⟩:=d.keep r
  exact h _ l b p o)
theorem Eo {xs:List Fld} {v:Value} (e:X2 w σ) (g:Sl 3 R3 σ v xs) (B:xs.length≤1000000)
 (h: ∀f w' b,Stp w σ w' b→Sl 3 R3 b f xs→K f w'):Q1 P F.ac [v] w K:=Js (by
 unfold K4
 have c:=g
 obtain ⟨a,k,rfl,t,u,m,y⟩:=g
 refine Q1k rfl ?_
 refine Q7 (fun i=>?_) (fun i=>?_)
 ·have:a=none:=by simpa using i
  have C:=m this
  have q:xs=[]:=List.eq_nil_of_length_eq_zero (by omega)
  subst q
  exact h _ w σ (Stp.refl e) Sl.nil
 ·refine Yu (R:=R3) (sz:=3) (Stp.refl e) [] [] rfl rfl (by simp) (by rfl) trivial fun A w1 n j _=>?_
  refine app n j c (by rfl) (by simp only[List.length_nil];omega) (by simp only[List.length_nil];omega) fun z l s r d _=>?_
  obtain ⟨b,p,o,_⟩:=d.keep r
  exact h _ l b p o)
theorem Et {xs:List Ins} {v:Value} (e:X2 w σ) (g:Sl 3 Qk σ v xs) (B:xs.length≤1000000)
 (h: ∀f w' b,Stp w σ w' b→Sl 3 Qk b f xs→K f w'):Q1 P F.ad [v] w K:=Jd (by
 unfold I9
 have c:=g
 obtain ⟨a,k,rfl,t,u,m,y⟩:=g
 refine Q1k rfl ?_
 refine Q7 (fun i=>?_) (fun i=>?_)
 ·have:a=none:=by simpa using i
  have C:=m this
  have q:xs=[]:=List.eq_nil_of_length_eq_zero (by omega)
  subst q
  exact h _ w σ (Stp.refl e) Sl.nil
 ·refine Yu (R:=Qk) (sz:=3) (Stp.refl e) [] [] rfl rfl (by simp) (by rfl) trivial fun A w1 n j _=>?_
  refine app n j c (by rfl) (by simp only[List.length_nil];omega) (by simp only[List.length_nil];omega) fun z l s r d _=>?_
  obtain ⟨b,p,o,_⟩:=d.keep r
  exact h _ l b p o)
theorem Er {xs:List Cat} {v:Value} (e:X2 w σ) (g:Sl 4 Ui σ v xs) (B:xs.length≤1000000)
 (h: ∀f w' b,Stp w σ w' b→Sl 4 Ui b f xs→K f w'):Q1 P F.ae [v] w K:=Jj (by
 unfold K2
 have c:=g
 obtain ⟨a,k,rfl,t,u,m,y⟩:=g
 refine Q1k rfl ?_
 refine Q7 (fun i=>?_) (fun i=>?_)
 ·have:a=none:=by simpa using i
  have C:=m this
  have q:xs=[]:=List.eq_nil_of_length_eq_zero (by omega)
  subst q
  exact h _ w σ (Stp.refl e) Sl.nil
 ·refine Yu (R:=Ui) (sz:=4) (Stp.refl e) [] [] rfl rfl (by simp) (by rfl) trivial fun A w1 n j _=>?_
  refine app n j c (by rfl) (by simp only[List.length_nil];omega) (by simp only[List.length_nil];omega) fun z l s r d _=>?_
  obtain ⟨b,p,o,_⟩:=d.keep r
  exact h _ l b p o)
end Go.Proofs.YtjdiakhipmggjaaGreatDoor

namespace Go.Hm
open Go.Kd
structure Opr where
  name : X0
  number : Bool
  text : Bool
deriving DecidableEq
def Ji:List Opr:=[
 ⟨[105,110,116],true,false⟩,
 ⟨[116,114,117,101],false,false⟩,
 ⟨[102,97,108,115,101],false,false⟩,
 ⟨[119,111,114,100],false,true⟩,
 ⟨[110,117,108,108],false,false⟩,
 ⟨[108,111,97,100],true,false⟩,
 ⟨[115,116,111,114,101],true,false⟩,
 ⟨[112,111,112],false,false⟩,
 ⟨[100,117,112],false,false⟩,
 ⟨[115,119,97,112],false,false⟩,
 ⟨[97,100,100],false,false⟩,
 ⟨[115,117,98],false,false⟩,
 ⟨[109,117,108],false,false⟩,
 ⟨[100,105,118],false,false⟩,
 ⟨[114,101,109],false,false⟩,
 ⟨[110,101,103],false,false⟩,
 ⟨[108,101,115,115],false,false⟩,
 ⟨[115,97,109,101],false,false⟩,
 ⟨[110,111,116],false,false⟩,
 ⟨[98,111,116,104],false,false⟩,
 ⟨[106,111,105,110],false,false⟩,
 ⟨[115,105,122,101],false,false⟩,
 ⟨[106,117,109,112],true,false⟩,
 ⟨[98,114,97,110,99,104],true,false⟩,
 ⟨[110,101,119],false,true⟩,
 ⟨[103,101,116],false,true⟩,
 ⟨[112,117,116],false,true⟩,
 ⟨[99,97,108,108],false,true⟩,
 ⟨[97,114,114,97,121],false,true⟩,
 ⟨[97,116],false,false⟩,
 ⟨[115,101,116],false,false⟩,
 ⟨[105,115],false,true⟩,
 ⟨[99,97,115,116],false,true⟩,
 ⟨[114,101,116,117,114,110],false,false⟩,
 ⟨[116,104,114,111,119],false,false⟩,
 ⟨[111,117,116],false,false⟩,
 ⟨[101,113,117,97,108],false,false⟩,
 ⟨[97,110,100],false,false⟩,
 ⟨[111,114],false,false⟩,
 ⟨[120,111,114],false,false⟩,
 ⟨[115,104,108],false,false⟩,
 ⟨[115,104,114],false,false⟩]
end Go.Hm
namespace Go.Emb
open Go.Hm
def ROp (_:Q5) (o:Opr) (cs:List Value):Prop:=cs=[S o.name, .bool o.number, .bool o.text]
def cOp (o:Opr):List Value:=[S o.name, .bool o.number, .bool o.text]
instance:Rep ROp:=⟨fun _ h=>h,fun h u hu=>by rw[h] at hu;simp at hu;rcases hu with rfl | rfl | rfl<;>rfl⟩
end Go.Emb
namespace Go.Proofs.YtjdiakhipmggjaaGreatDoor
open Go.Emb Go.RowKit Go.Kd Go.Hm
variable {w : World} {K : Value → World → Prop} {σ : Q5}
theorem Q60 {a:X0} (j:a.length≤U0) (h: ∀w',Below w.heap.size w w'→K (.bool (D1 a)) w'):Q1 P F.bS [S a] w K:=Q3G (by
 unfold Fl
 have b:a.length≤140737488355328:=by simp only[U0] at j;omega
 refine Q5W a b fun w1 i=>?_
 cases d:name a
 ·(try simp only[↓M1,M1,Mb,reduceIte])
  have:=h w1 i
  rwa [show D1 a=false by cases a with | nil=>rfl | cons c r=>simp[D1,d]] at this
 ·(try simp only[↓M1,M1,Mb,reduceIte])
  refine Hz a b fun l k=>?_
  (try simp only[↓M1,M1,Mb,reduceIte])
  have:=h l (bt i k)
  rwa [show D1 a= !M6 a by
   cases a with
   | nil=>simp[name] at d
   | cons c r=>
    obtain ⟨g,m⟩:=Ig d
    simp only[M6,D1,d,Bool.true_and]
    simp only[S2,m,Bool.or_false] at g
    cases e:Xa c.toNat<;>cases f:A4 c.toNat
    ·simp[e,f] at g
    ·rfl
    ·rfl
    ·exfalso
     simp only[Xa,A4,Bool.and_eq_true,decide_eq_true_eq] at e f
     omega] at this)
theorem X24 {t e:TypeId} {n sz b:Nat} {z:Value} [ta:TA P t n e] [tz:TZ P e sz b z] {a:Addr} (c:K (.slice (some a) n n) w):R2 P t (.pointer (some a)) none none none w K:=by
 unfold R2
 have:(Instr.sliceAt t (.pointer (some a)) none none none).run P w= .ok (.slice (some (if n=0 then a else a.add (0*sz))) (n-0) (n-0)) w:=by
  simp[Instr.sliceAt,run_underlying ta.h,Instr.sureAddr,Instr.sliceBounds,L2 tz]
 rw[X9 this]
 have d:(if n=0 then a else a.add (0*sz))=a:=by
  by_cases h:n=0
  ·rw[if_pos h]
  ·rw[if_neg h,Nat.zero_mul,add_zero]
 rw[d];exact c
def Q2n (σ:Q5):Prop:=Z4 σ ⟨G.a,0,none⟩ (Ji.flatMap cOp)
theorem Q6X (i:Nat) (o:Opr) (h:Ji[i]? =some o):((Ji.flatMap cOp).drop (i*3)).take 3=cOp o:=by
 have c:i<42:=(List.getElem?_eq_some_iff.1 h).1
 have key: ∀l:List Opr,∀i o,l[i]? =some o→((l.flatMap cOp).drop (i*3)).take 3=cOp o:=by
  intro l
  induction l with
  | nil=>intro i o h;simp at h
  | cons a r b=>
   intro i o h
   cases i with
   | zero=>simp at h;subst h;rfl
   | succ i=>
    have:=b i o (by simpa using h)
    rw[List.flatMap_cons,show (i+1)*3=(cOp a).length+i*3 by simp[cOp];omega,List.drop_append]
    simpa [List.drop_eq_nil_of_le] using this
 exact key _ i o h
theorem Q34 {σ:Q5} {a:Addr} {cs:List Value} (h:Z4 σ a cs) (i n:Nat):Z4 σ (a.add i) ((cs.drop i).take n):=by
 obtain ⟨c,arr,e,g,d,f⟩:=h
 refine ⟨I1 c _,arr,e,g,by rw[R9];exact d,fun j v b=>?_⟩
 rw[List.getElem?_take] at b
 split at b
 ·rw[List.getElem?_drop] at b
  rw[A7,Nat.add_assoc];exact f _ _ b
 ·cases b
theorem X2M (h:Q2n σ):Sl 3 ROp σ (.slice (some ⟨G.a,0,none⟩) 42 42) Ji:=by
 refine ⟨_,42,rfl,by decide,by decide,by simp,?_⟩
 rintro _ ⟨⟩
 refine ⟨fun _=>rfl,fun i x a=>⟨cOp x,?_,rfl,rfl⟩⟩
 rw[←Q6X i x a]
 exact Q34 h (i*3) 3
theorem Ab {β:Type} {xs:List Opr} {v f:Value} (b:β→Opr→Bool×β) (j:β) (a:β→World→Prop) (D:Nat→Prop) (k: ∀s w,a s w→X2 w σ) (C:a j w) (u:Sl 3 ROp σ v xs)
 (A: ∀s x cs (w1:World) (K:Value→World→Prop),x∈xs→Kpt D w w1→a s w1→ROp σ x cs→cs.length=3→(∀w',Kpt D w w'→a (b s x).2 w'→K (.bool (b s x).1) w')→Z3 P f [.agg cs.toArray] w1 K)
 (h: ∀w',Kpt D w w'→a (J0 b j xs 0).2 w'→K (I (L5 (J0 b j xs 0).1)) w'):Q1 P F.t [v,f] w K:=Ju (by
 unfold K0
 ((try simp only[↓M1,M1,Mb,reduceIte]);repeat ((first | refine ld (by assumption) (by assumption) rfl ?_ | refine X7 (by assumption) (by assumption) rfl ?_ | refine Q8 (by assumption) ?_);(try simp only[↓M1,M1,Mb,reduceIte])))
 refine U1 xs.length (fun n w'=>Kpt D w w'∧ ∃s,a s w'∧J0 b j xs 0=J0 b s (xs.drop n) n) ⟨Kpt.refl,j,C,rfl⟩ fun n w1 d E i=>?_
 obtain ⟨t,s,i,g⟩:=i
 have o:=k s w1 i
 ((try simp only[↓M1,M1,Mb,reduceIte]);repeat ((first | refine ld (by assumption) (by assumption) rfl ?_ | refine X7 (by assumption) (by assumption) rfl ?_ | refine Q8 (by assumption) ?_);(try simp only[↓M1,M1,Mb,reduceIte])))
 refine Q7 (fun q=>?_) (fun q=>?_)
 ·have c:n<xs.length:=by simpa using q
  refine M9 u c fun p cs B e z=>?_
  refine Y4 o B e ?_
  refine A s xs[n] cs w1 _ (List.getElem_mem c) t i z e fun y m l=>?_
  rw[List.drop_eq_getElem_cons c] at g
  simp only[J0] at g
  refine Q7 (fun r=>?_) (fun r=>?_)
  ·rw[r] at g
   have:=h y m
   rw[g] at this
   exact this l
  ·rw[r] at g
   ((try simp only[↓M1,M1,Mb,reduceIte]);repeat ((first | refine ld (by assumption) (by assumption) rfl ?_ | refine X7 (by assumption) (by assumption) rfl ?_ | refine Q8 (by assumption) ?_);(try simp only[↓M1,M1,Mb,reduceIte])))
   exact Y6 u.max c ⟨m,_,l,by simpa using g⟩
 ·have c: ¬n<xs.length:=by simpa using q
  rw[List.drop_eq_nil_of_le (by omega)] at g
  have:=h w1 t
  rw[g] at this
  exact this i)
theorem Th {xs:List Opr} {v f:Value} (p:Opr→Bool) (hs:X2 w σ) (hv:Sl 3 ROp σ v xs)
 (hf: ∀x cs (w1:World) (K:Value→World→Prop),x∈xs→X2 w1 σ→ROp σ x cs→cs.length=3→(∀w',Below w1.heap.size w1 w'→K (.bool (p x)) w')→Z3 P f [.agg cs.toArray] w1 K)
 (h: ∀w',Below w.heap.size w w'→K (I (L5 (xs.findIdx? p))) w'):Q1 P F.t [v,f] w K:=by
 refine Ab (fun (_:Unit) x=>(p x,())) () (fun _ w'=>Below w.heap.size w w') (fun _=>False) (fun _ w' hb=>hs.below hb) (Below.refl _ _) hv (fun s x cs w1 K hx hk hi hr hl hK=>hf x cs w1 K hx (hs.below hi) hr hl fun w' hb=>hK w' (.of_below (bt hi hb)) (bt hi hb)) fun w' hk hi=>?_
 rw[K5]
 simpa using h w' hi
theorem Q2n.le {σ a:Q5} (h:Q2n σ) (c: ∀b o,σ b=some o→a b=some o):Q2n a:=Z4.le h c
def Qb (n:X0):Option Nat:=Ji.findIdx? fun o=>decide (o.name=n)
theorem X2A {a:X0} (l:X2 w σ) (i:Q2n σ) (h: ∀w',Below w.heap.size w w'→K (I (L5 (Qb a))) w'):Q1 P F.cK [S a] w K:=Q6x (by
 unfold Q1Q
 refine E4 l fun p w1 σ1 e g=>?_
 simp only[Value.cells] at g
 refine X24 ?_
 ((try simp only[↓M1,M1,Mb,reduceIte]);repeat ((first | refine ld (by assumption) (by assumption) rfl ?_ | refine X7 (by assumption) (by assumption) rfl ?_ | refine Q8 (by assumption) ?_);(try simp only[↓M1,M1,Mb,reduceIte])))
 refine Th (fun o=>decide (o.name=a)) e.sat (X2M (i.le e.le)) (fun x cs f K v c j y r=>?_) fun f t=>?_
 ·refine Z6 (Q4G ?_)
  unfold Pu
  refine E4 c fun q m u b n=>?_
  have d:cs=[S x.name, .bool x.number, .bool x.text]:=j
  subst d
  have k:=b.sat
  have s:=g.up b
  simp only[Value.cells] at n
  ((try simp only[↓M1,M1,Mb,reduceIte]);repeat ((first | refine ld (by assumption) (by assumption) rfl ?_ | refine X7 (by assumption) (by assumption) rfl ?_ | refine Q8 (by assumption) ?_);(try simp only[↓M1,M1,Mb,reduceIte])))
  exact r m b.bel
 ·(try simp only[↓M1,M1,Mb,reduceIte])
  exact h f (bt e.bel t))
def takes (n:X0):Bool×Bool×Bool:=match Qb n with
 | none=>(false,false,false)
 | some i=>((Ji.getD i ⟨[],false,false⟩).number,(Ji.getD i ⟨[],false,false⟩).text,true)
theorem X1y {a:X0} (k:X2 w σ) (j:Q2n σ) (h: ∀w',Below w.heap.size w w'→K (.tuple #[.bool (takes a).1, .bool (takes a).2.1, .bool (takes a).2.2]) w'):Q1 P F.ck [S a] w K:=Q63 (by
 unfold Q09
 refine X2A k j fun w1 b=>?_
 have c:=k.below b
 unfold takes at h
 cases d:Qb a with
 | none=>
  rw[d] at h
  simp only[L5]
  (try simp only[↓M1,M1,Mb,reduceIte])
  simp only[show decide ((-1:Int)<0)=true from rfl,↓M1,M1,Mb,reduceIte]
  exact h w1 b
 | some i=>
  rw[d] at h
  simp only at h
  have p:i<42:=(List.findIdx?_eq_some_iff_getElem.1 d).1
  have l:Ji[i]? =some (Ji.getD i ⟨[],false,false⟩):=by
   rw[List.getD,List.getElem?_eq_getElem (by exact p)];rfl
  generalize Ji.getD i ⟨[],false,false⟩=o at h l
  have g:=Q34 j (i*3) 3
  rw[Q6X i o l] at g
  simp only[L5]
  have m:decide ((i:Int)<0)=false:=by simp
  simp only[m,↓M1,M1,Mb,reduceIte]
  have A: ∀{w:World} {K:Value→World→Prop},K (.pointer (some ((⟨G.a,0,none⟩:Addr).add (i*3)))) w→indexAddr P T.af (.pointer (some ⟨G.a,0,none⟩)) (I i) w K:=by
   intro w K h
   rw[Q9D (by omega) (by omega)]
   simpa using h
  refine De (Below.refl _ _) ?_
  refine X4 (.pointer (some ((⟨G.a,0,none⟩:Addr).add (i*3)))) (fun w b=>A (X6 rfl)) ?_
  refine X4 (.pointer (some (((⟨G.a,0,none⟩:Addr).add (i*3)).add 1))) (fun t w b e=>by rw[e,fa];exact X6 rfl) ?_
  refine X4 (.pointer (some ((⟨G.a,0,none⟩:Addr).add (i*3)))) (fun w b=>A (X6 rfl)) ?_
  refine X4 (.pointer (some (((⟨G.a,0,none⟩:Addr).add (i*3)).add 2))) (fun t w b e=>by rw[e,fa];exact X6 rfl) ?_
  refine X4 (.bool o.number) (fun t w b e=>by rw[e];exact ld (c.below b) g rfl (X6 rfl)) ?_
  refine X4 (.bool o.text) (fun t w b e=>by rw[e];exact ld (c.below b) g rfl (X6 rfl)) ?_
  rintro _ _ _ _ _ _ n f rfl rfl rfl rfl rfl rfl
  exact h n (bt b f))
end Go.Proofs.YtjdiakhipmggjaaGreatDoor

namespace Go.Emb
open Go.RowKit Go.Hm
variable {P : Program} {w w0 w1 w' w'' : World} {K : Value → World → Prop} {σ σ0 σ1 σ' : Q5}
structure SLe (σ σ' : Q5) : Prop where
  le : ∀ b o, σ b = some o → σ' b = some o
theorem SLe.refl (σ:Q5):SLe σ σ:=⟨fun _ _ h=>h⟩
theorem SLe.step {w w':World} (h:SLe σ0 σ) (k:Stp w σ w' σ'):SLe σ0 σ':=⟨fun b o e=>k.le b o (h.le b o e)⟩
theorem SLe.more (h:SLe σ0 σ) (k:SLe σ σ'):SLe σ0 σ':=⟨fun b o e=>k.le b o (h.le b o e)⟩
structure Hst (w : World) (σ : Q5) (w' : World) (σ' : Q5) : Prop where
  stp : Stp w σ w' σ'
theorem Hst.sat (h:Hst w σ w' σ'):X2 w' σ':=h.stp.sat
section lifts
variable {α : Type} {R : Q5 → α → List Value → Prop} {sz : Nat} {v : Value} {xs : List α} {a : Addr} {cs : List Value}
theorem Sl.lift [Rep R] (h:Sl sz R σ0 v xs) (k:SLe σ0 σ):Sl sz R σ v xs:=h.le k.le
theorem Z4.lift (h:Z4 σ0 a cs) (k:SLe σ0 σ):Z4 σ a cs:=h.le k.le
theorem Xd.lift {r:Nat} {m:List (List UInt8×Value)} (h:Xd σ0 r m) (k:SLe σ0 σ):Xd σ r m:=h.le k.le
theorem RMe_lift {x:Hm.Met} (h:E5 σ0 x cs) (k:SLe σ0 σ):E5 σ x cs:=Rep.up k.le h
theorem RCl_lift {x:Cla} (h:V0 σ0 x cs) (k:SLe σ0 σ):V0 σ x cs:=Rep.up k.le h
theorem RFd_any {x:Fld} (h:R3 σ0 x cs):R3 σ x cs:=h
theorem RIn_any {x:Ins} (h:Qk σ0 x cs):Qk σ x cs:=h
theorem RCa_any {x:Cat} (h:Ui σ0 x cs):Ui σ x cs:=h
theorem Y1.step {b:Nat} (h:Y1 σ w b cs) (k:Stp w σ w' σ'):Y1 σ' w' b cs:=h.up k
theorem V5.step [Rep R] {B:Nat} {e:TypeId} (h:V5 B e sz R σ w v xs) (k:Stp w σ w' σ'):V5 B e sz R σ' w' v xs:=h.up k
end lifts
theorem L1 {Q:World→Prop} (d:X2 w σ) (h: ∀w' σ',Stp w σ w' σ'→Q w'): ∀w',Below w.heap.size w w'→Q w':=fun w' c=>h w' σ (Stp.of_below d c)
section plain
variable {k : IntKind} {t : TypeId} {ox oy : Operand} {a b : Int} {x y : Bool} {s u : List UInt8}
theorem L8 (h:K (.int k (k.wrap (a+b))) w):Q3 P .add t ox oy (.int k a) (.int k b) w K:=by rw[Fw];exact h
theorem X35 (h:K (.int k (k.wrap (a-b))) w):Q3 P .sub t ox oy (.int k a) (.int k b) w K:=by rw[Q1x];exact h
theorem Xg (c: -9223372036854775808≤a+b∧a+b≤9223372036854775807) (h:K (I (a+b)) w):Q3 P .add t ox oy (I a) (I b) w K:=by rw[Fw,S7 c.1 c.2];exact h
theorem Zg (c: -9223372036854775808≤a-b∧a-b≤9223372036854775807) (h:K (I (a-b)) w):Q3 P .sub t ox oy (I a) (I b) w K:=by rw[Q1x,S7 c.1 c.2];exact h
theorem Z2 (h:K (.bool (decide (a<b))) w):Q3 P .lss t ox oy (.int k a) (.int k b) w K:=by rw[Q3Q];exact h
theorem Q4K (h:K (.bool (decide (a≤b))) w):Q3 P .leq t ox oy (.int k a) (.int k b) w K:=by rw[Q3E];exact h
theorem Q1v (h:K (.bool (decide (b<a))) w):Q3 P .gtr t ox oy (.int k a) (.int k b) w K:=by rw[Ra];exact h
theorem P0 (h:K (.bool (decide (b≤a))) w):Q3 P .geq t ox oy (.int k a) (.int k b) w K:=by rw[Q1a];exact h
theorem K9 (h:K (.bool (decide (a=b))) w):Q3 P .eql t ox oy (.int k a) (.int k b) w K:=by rw[Q1o];exact h
theorem Zz (h:K (.bool (!decide (a=b))) w):Q3 P .neq t ox oy (.int k a) (.int k b) w K:=by rw[Q3o];exact h
theorem Wd (h:K (.bool (!x)) w):J7 P .not (.bool x) w K:=by rw[Q3s];exact h
theorem K6 (h:K (.bool (decide (s=u))) w):Q3 P .eql t ox oy (S s) (S u) w K:=by rw[Bk];exact h
theorem Vy (h:K (.bool (!decide (s=u))) w):Q3 P .neq t ox oy (S s) (S u) w K:=by rw[Bh];exact h
theorem Hy (c:s.length+u.length≤9223372036854775807) (h:K (S (s++u)) w):Q3 P .add t ox oy (S s) (S u) w K:=by rw[Q20 c];exact h
theorem Ff {cs:List Bool} {r:TypeId} (c:P.underlying t=some .string) (h:K (I s.length) w):X3 P .len [t] r cs [S s] w K:=by rw[R1 c];exact h
theorem X1x {v u:Value} (h:K v w):pick P (.bool true) v u w K:=by rw[M4];exact h
theorem X1r {v u:Value} (h:K u w):pick P (.bool false) v u w K:=by rw[W8];exact h
theorem O5 {v u:Value} (h:K (if x=true then v else u) w):pick P (.bool x) v u w K:=by rw[Dw];exact h
theorem J5 {vs:List Value} {i:Nat} {v:Value} (c:vs[i]? =some v) (h:K v w):ext P (.tuple vs.toArray) i w K:=by rw[Jy c];exact h
theorem J3 {t e:Prop} (h:t):X1 (.bool true) t e:=by rw[H4];exact h
theorem Z7 {t e:Prop} (h:e):X1 (.bool false) t e:=by rw[M5];exact h
theorem X2j {c:World→(Value→World→Prop)→Prop} (h:c w K):Q0 (.bool true) true w c K:=by rw[W2];exact h
theorem X2c {c:World→(Value→World→Prop)→Prop} (h:c w K):Q0 (.bool false) false w c K:=by rw[W6];exact h
theorem X1a {c:World→(Value→World→Prop)→Prop} (h:K undef w):Q0 (.bool true) false w c K:=by rw[R6];exact h
theorem X1B {c:World→(Value→World→Prop)→Prop} (h:K undef w):Q0 (.bool false) true w c K:=by rw[E0];exact h
end plain
section mem
variable {α : Type} {R : Q5 → α → List Value → Prop} {sz : Nat} {v : Value} {xs : List α} {a : Addr} {cs : List Value}
theorem Z0 {t:TypeId} (f:X2 w σ) (h: ∀a w' σ',Stp w σ w' σ'→Z4 σ' a cs→K (.pointer (some a)) w'):box P t (.agg cs.toArray) w K:=
 E4 f fun a w' σ' c d=>h a w' σ' c (by simpa [Value.cells] using d)
theorem U5 {t:TypeId} (g:X2 w σ) (f:v.cells= #[v]) (h: ∀a w' σ',Stp w σ w' σ'→Z4 σ' a [v]→K (.pointer (some a)) w'):box P t v w K:=
 E4 g fun a w' σ' d c=>h a w' σ' d (by rw[f] at c;exact c)
theorem Wk (h:Sl sz R σ v xs):v.cells= #[v]:=by
 obtain ⟨a,c,rfl,_⟩:=h;rfl
theorem W4 {t:TypeId} {k c:Nat} {d:TypeId} {sz by_:Nat} {z:Value} [tf:TF P t k c d] [tz:TZ P d sz by_ z] [nz:NZ sz] (h:K (.pointer (some (a.add c))) w):fieldAddr P t (.pointer (some a)) k w K:=by
 rw[fa];exact h
theorem J4 {t:TypeId} {k c:Nat} {d:TypeId} [tf:TF P t k c d] [tg:TG P d false] {cs:List Value} {v:Value} (f:cs[c]? =some v) (h:K v w):G1 P t (.agg cs.toArray) k w K:=by
 rw[X1J (v:=v) (by simpa using f)];exact h
end mem
theorem U2 {A:(World→World→Prop)→(World→Prop)→Prop} (f:X2 w σ) (h:A (fun w w'=>Below w.heap.size w w') (fun w'=>Hst w σ w' σ)):dr w A:=
 Im _ _ ⟨Stp.of_below f (Below.refl _ _).drew⟩ (fun _ _ c d=>⟨c.stp.trans (Stp.of_below c.sat d)⟩) h
theorem N1 {α:Type} {R:Q5→α→List Value→Prop} {sz:Nat} {v:Value} {xs:List α} {t:TypeId} (c:X2 w σ) (d:Sl sz R σ v xs) (h: ∀a w' σ',Stp w σ w' σ'→Z4 σ' a [v]→K (.pointer (some a)) w'):box P t v w K:=
 U5 c (Wk d) h
section elems
variable {v : Value} {t e : TypeId} {by_ : Nat} {z : Value} {n : Nat}
theorem Q5a {xs:List Kd.X0} [TS P t e] [TZ P e 1 by_ z] (h:Sl 1 U9 σ v xs) (c:n<xs.length) (d: ∀a,Z4 σ a [S xs[n]]→xs[n].length≤U0→K (.pointer (some a)) w):indexAddr P t v (I n) w K:=
 M9 h c fun a cs f j i=>by obtain ⟨rfl,g⟩:=i;exact d a f g
theorem Q8Z {xs:List Fld} [TS P t e] [TZ P e 3 by_ z] (h:Sl 3 R3 σ v xs) (c:n<xs.length) (d: ∀a,Z4 σ a [S xs[n].name,S xs[n].kind, .bool xs[n].tr]→R3 σ xs[n] [S xs[n].name,S xs[n].kind, .bool xs[n].tr]→K (.pointer (some a)) w):indexAddr P t v (I n) w K:=
 M9 h c fun a cs f j i=>by obtain ⟨rfl,g⟩:=i;exact d a f ⟨rfl,g⟩
end elems
end Go.Emb

namespace Go.Hm
open Go.Kd
abbrev Wg:=X0→Option Cla
def Z1 (l:List Cla) (n:X0):Option Nat:=l.findIdx? fun c=>decide (c.name=n)
def lk (l:List Cla):Wg:=fun n=>(Z1 l n).bind (l[·]?)
def U3 (c:Cla):List X0:=c.super::c.like
def J9:X0:=[79,98,106,101,99,116]
def L6:X0:=[70,97,117,108,116]
def H6:X0:=[110,117,108,108]
def D0:X0:=[116,101,120,116]
def Qg:X0:=[119,104,97,116]
def U4:List X0:=[[78,117,108,108,70,97,117,108,116],[73,110,100,101,120,70,97,117,108,116],[67,97,115,116,70,97,117,108,116],[90,101,114,111,70,97,117,108,116],[82,111,111,109,70,97,117,108,116],[67,97,108,108,70,97,117,108,116]]
def G2:List Cla:=[⟨J9,[],[],false,false,false,[],[]⟩,⟨L6,J9,[],false,false,false,[⟨Qg,D0,false⟩],[]⟩]++U4.map fun n=>⟨n,L6,[],false,false,true,[],[]⟩
def Us (L:Wg):Nat→List X0→List X0→List X0
 | 0,_,a=>a
 | _,[],a=>a
 | f+1,n::b,a=>match L n with
  | none=>Us L f b a
  | some c=>if n∈a then Us L f b a else Us L f (b++U3 c) (a++[n])
def weigh (l:List Cla) (a:List X0):Nat:=(l.map fun c=>if c.name∈a then 0 else (U3 c).length).sum
def F0 (l:List Cla) (n:X0):List X0:=Us (lk l) (1+weigh l []) [n] []
def Q0Q (l:List Cla) (n:X0):Bool:=(Z1 l n).isSome
def N0 (l:List Cla) (s:X0):Bool:=decide (s=H6)||(right s&&(plain (base s).1||Q0Q l (base s).1))
def Xl (l:List Cla) (a b:X0):Bool:=
 if !N0 l a|| !N0 l b then false else if a=b then true else if plain a||plain b then false else if a=H6 then true
 else if elem a≠[] then decide (b=J9) else (F0 l a).contains b
def G6 (L:Wg):Nat→X0→List Cla
 | 0,_=>[]
 | f+1,n=>match L n with
  | none=>[]
  | some c=>c::G6 L f c.super
def chain (l:List Cla) (n:X0):List Cla:=G6 (lk l) (l.length+1) n
def Y5 (l:List Cla) (n:X0):List Fld:=(chain l n).reverse.flatMap (·.fields)
def Jh (l:List Cla) (n f:X0):Option Nat:=(Y5 l n).findIdx? fun x=>decide (x.name=f)
def B6 (c:Cla) (n:X0):Option Hm.Met:=c.methods.find? fun m=>decide (m.name=n)
def Sw (L:Wg):Nat→Cla→X0→Option (X0×Hm.Met)
 | 0,_,_=>none
 | f+1,c,n=>c.like.findSome? fun u=>match L u with
  | none=>none
  | some d=>match B6 d n with
   | some m=>some (u,m)
   | none=>Sw L f d n
def V2 (l:List Cla) (k n:X0):Option (X0×Hm.Met):=
 match (chain l k).findSome? fun c=>(B6 c n).map (c.name,·) with
 | some r=>some r
 | none=>(chain l k).findSome? fun c=>Sw (lk l) (l.length+1) c n
def T7 (l:List Cla) (n:X0):Bool:=match lk l n with
 | some c=> !c.abs
 | none=>false
def H8:List X0→X0
 | []=>[]
 | [a]=>a
 | a::b::r=>a++[44]++H8 (b::r)
def Qp (m:Hm.Met):X0:=[40]++H8 m.params++[41]++m.result
def O6 (l:List Cla) (s:X0):Bool:= !decide (s=H6)&&N0 l s
def Yj (l:List Cla) (c:Cla):Bool:=c.fields.any fun f=>(Jh l c.super f.name).isSome
def B1 (l:List Cla) (c:Cla):Bool:=c.fields.any (fun f=> !O6 l f.kind)||c.methods.any fun m=>(!O6 l m.result&& !decide (m.result=[]))||m.params.any fun s=> !O6 l s
def Wv (l:List Cla) (n:X0):List Hm.Met:=(F0 l n).flatMap fun u=>((lk l u).map (·.methods)).getD []
def Ns (a:List Hm.Met):Bool:=a.any fun x=>a.any fun y=>decide (x.name=y.name)&& !decide (Qp x=Qp y)
def Zi (l:List Cla) (c:Cla):Bool:=Ns (Wv l c.name)
def Yx (l:List Cla) (k n:X0):Bool:=match V2 l k n with
 | none=>true
 | some r=>r.2.abs
def Dc (l:List Cla) (c:Cla):Bool:= !c.abs&&(Wv l c.name).any fun m=>Yx l c.name m.name
def V6 (l:List Cla) (c:Cla):Nat:=if Yj l c then 64 else if B1 l c then 65 else if Zi l c then 66 else if Dc l c then 67 else 0
def Qr (l:List Cla) (n:X0):Bool:=match lk l n with
 | none=>true
 | some d=>d.iface||d.fin
def R0 (l:List Cla) (n:X0):Bool:=match lk l n with
 | none=>true
 | some d=> !d.iface
def O9 (l:List Cla) (c:Cla):Nat:=if Qr l c.super then 61 else if c.like.any (R0 l) then 62 else 0
def P3 (l:List Cla) (c:Cla):Bool:=(U3 c).any fun n=>(F0 l n).contains c.name
def T8 (l:List Cla) (frm:Nat):Nat→List Nat→Nat→List Nat
 | 0,a,_=>a
 | f+1,a,i=>if i<frm then a else if i∈a then a else ((U3 (l.getD i Cla.zero)).foldl (fun a n=>T8 l frm f a ((Z1 l n).getD 0)) a)++[i]
def V7 (l:List Cla) (frm:Nat):List Nat:=((List.range l.length).drop frm).foldl (fun a i=>T8 l frm (l.length+1) a i) []
end Go.Hm

namespace Go.Emb
open Go.RowKit Go.Hm
variable {P : Program} {w w0 w1 w' w'' : World} {K : Value → World → Prop} {σ σ0 σ1 σ' : Q5}
def J8 {α:Type} (B:Nat) (e:TypeId) (sz:Nat) (R:Q5→α→List Value→Prop) (σ:Q5) (w:World) (v:Value) (xs:List α):Prop:=
 ∃a c,v= .slice a xs.length c∧xs.length≤c∧c≤maxLen∧(∀b,a=some b→b.spot=none∧B≤b.block∧b.block<w.heap.size∧σ b.block=none)∧(0<c→ ∃g d f,a=some ⟨g,d,none⟩∧B≤g∧σ g=none∧w.heap[g]? =some (.cells f e (0,0))∧d+c*sz≤f.size∧ ∀i x,xs[i]? =some x→R σ x ((f.toList.drop (d+i*sz)).take sz))
section
variable {α : Type} {R : Q5 → α → List Value → Prop} {B sz : Nat} {e : TypeId} {v u : Value} {xs ys : List α}
theorem J8.of_acc (h:V5 B e sz R σ w v xs):J8 B e sz R σ w v xs:=by
 obtain ⟨cells,q,k,n⟩:=h
 rcases q.2 with ⟨rfl,r⟩ | ⟨g,b,f,rfl,m,j,d,a,o,c⟩
 ·exact ⟨none,0,by rw[r],by omega,by simp,by simp,fun h=>by omega⟩
 ·refine ⟨_,b,rfl,d,a,by rintro _ ⟨⟩;exact ⟨rfl,m,(Array.getElem?_eq_some_iff.1 j).1,k g rfl⟩,fun _=>⟨g,0,f,rfl,m,k g rfl,j,by omega,fun i x l=>?_⟩⟩
  have p:i<xs.length:=(List.getElem?_eq_some_iff.1 l).1
  have hh:i*sz+sz≤xs.length*sz:=by rw[←Nat.succ_mul];exact Nat.mul_le_mul_right _ p
  have:=n i x l
  rw[←c,List.drop_take,List.take_take] at this
  rw[Nat.zero_add]
  rwa [show min sz (xs.length*sz-i*sz)=sz by omega] at this
theorem J8.mem (h:J8 B e sz R σ w v xs) {k:Nat} (c:v.ownBlock=some k):B≤k∧k<w.heap.size∧σ k=none:=by
 obtain ⟨a,d,rfl,f,g,b,i⟩:=h
 cases a with
 | none=>cases c
 | some a=>cases c;exact (b a rfl).2
theorem J8.up [hr:Rep R] (h:J8 B e sz R σ w v xs) (d:Stp w σ w' σ'):J8 B e sz R σ' w' v xs:=by
 obtain ⟨a,j,rfl,t,p,c,o⟩:=h
 refine ⟨a,j,rfl,t,p,fun b f=>⟨(c b f).1,(c b f).2.1,Nat.lt_of_lt_of_le (c b f).2.2.1 d.bel.size,(d.old _ (c b f).2.2.1).trans (c b f).2.2.2⟩,fun A=>?_⟩
 obtain ⟨g,k,l,rfl,s,r,m,z,q⟩:=o A
 have n:=(Array.getElem?_eq_some_iff.1 m).1
 exact ⟨g,k,l,rfl,s,(d.old g n).trans r,(d.bel.block g n).trans m,z,fun i x y=>hr.up d.le (q i x y)⟩
theorem J8.step [hr:Rep R] (h:J8 B e sz R σ w v xs) (a:Stp w σ w' σ'):J8 B e sz R σ' w' v xs:=h.up a
theorem J8.kp {D:Nat→Prop} (h:J8 B e sz R σ w v xs) (n:Kpt D w w') (j: ∀k,v.ownBlock=some k→ ¬D k):J8 B e sz R σ w' v xs:=by
 obtain ⟨a,f,rfl,t,o,c,p⟩:=h
 refine ⟨a,f,rfl,t,o,fun b d=>⟨(c b d).1,(c b d).2.1,Nat.lt_of_lt_of_le (c b d).2.2.1 n.size,(c b d).2.2.2⟩,fun z=>?_⟩
 obtain ⟨g,i,l,rfl,s,r,m,y,q⟩:=p z
 have A:=(Array.getElem?_eq_some_iff.1 m).1
 exact ⟨g,i,l,rfl,s,r,(n.block g A (j g rfl)).trans m,y,q⟩
theorem Q1t {b t:TypeId} {cs:List Bool} [ts:TS P b e] (h:J8 B e sz R σ w v xs) (c:K (I xs.length) w):X3 P .len [b] t cs [v] w K:=by
 obtain ⟨a,d,rfl,_⟩:=h
 rw[Q1r];exact c
theorem Q51 {t:TypeId} {f:Nat} {z:Value} [TS P t e] [TZ P e sz f z] (h:J8 B e sz R σ w v xs) {n:Nat} (q:n<xs.length)
 (p: ∀a cs,(∀j u,cs[j]? =some u→w.cell? (a.add j)=some u)→cs.length=sz→R σ xs[n] cs→K (.pointer (some a)) w):indexAddr P t v (I n) w K:=by
 obtain ⟨a,c,rfl,A,r,k,l⟩:=h
 obtain ⟨g,d,i,rfl,y,s,m,C,o⟩:=l (by omega)
 rw[Ro (by omega) (by omega)]
 have hh:n*sz+sz≤c*sz:=by rw[←Nat.succ_mul];exact Nat.mul_le_mul_right _ (by omega)
 refine p _ ((i.toList.drop (d+n*sz)).take sz) ?_ ?_ (o n _ (by simp[q]))
 ·intro j u b
  rw[List.getElem?_take] at b
  split at b
  ·rw[List.getElem?_drop] at b
   unfold World.cell?
   rw[R9,R9,A7,A7,I1 (I1 rfl _)]
   simp only[m]
   simpa using b
  ·cases b
 ·rw[List.length_take,List.length_drop,Array.length_toList];omega
theorem X3t {t:TypeId} {n:Nat} {z:Value} [ts:TS P t e] [tz:TZ P e sz n z] (h:J8 B e sz R σ w v xs) (l:Nat) (N:l≤xs.length)
 (C: ∀j,J8 B e sz R σ w j (xs.drop l)→(j.ownBlock=v.ownBlock∨j.ownBlock=none)→K j w):R2 P t v (some (I l)) none none w K:=by
 obtain ⟨a,c,rfl,H,J,d,p⟩:=h
 have hh: ∀w:World,(Instr.sliceBounds true xs.length c (some (I l)) none none).run P w= .ok (l,xs.length,c) w:=by
  intro w
  have s:(l:Int)≤xs.length:=by omega
  simp[Instr.sliceBounds,Instr.sliceBound,asIntOf,H,s]
  intros;omega
 unfold R2
 have:(Instr.sliceAt t (.slice a xs.length c) (some (I l)) none none).run P w= .ok (.slice (if c=l then a else a.map (·.add (l*sz))) (xs.length-l) (c-l)) w:=by
  simp[Instr.sliceAt,run_underlying ts.h,Instr.slice,hh,L2 tz]
 rw[X9 this]
 refine C _ ⟨_,c-l,by rw[List.length_drop],by rw[List.length_drop];omega,by omega,?_,fun M=>?_⟩ ?_
 ·intro b k
  split at k
  ·exact d b k
  ·cases a with
   | none=>cases k
   | some a=>cases k;exact ⟨I1 (d a rfl).1 _,by rw[R9];exact (d a rfl).2⟩
 ·have r:=p (by omega)
  clear p
  obtain ⟨g,m,o,rfl,E,D,y,L,A⟩:=r
  refine ⟨g,m+l*sz,o,?_,E,D,y,?_,fun i x q=>?_⟩
  ·rw[if_neg (by omega)];simp only[Option.map_some];congr 1;unfold Addr.add;split<;>simp_all
  ·have:l*sz+(c-l)*sz=c*sz:=by rw[←Nat.add_mul];congr 1;omega
   omega
  ·rw[List.getElem?_drop] at q
   have:=A _ _ q
   rwa [Nat.add_mul,←Nat.add_assoc] at this
 ·left
  by_cases f:c=l
  ·rw[if_pos f];cases a<;>rfl
  ·rw[if_neg f]
   cases a with
   | none=>rfl
   | some a=>simp only[Option.map_some,Value.ownBlock,R9]
theorem Q8i {t ty:TypeId} {X:Nat} {z:Value} {cs:List Bool} [ts:TS P t e] [tz:TZ P e sz X z] [hr:Rep R] (hs:X2 w σ) (hB:B≤w.heap.size) (ha:J8 B e sz R σ w v xs) (H:Sl sz R σ u ys) (hz:(z.cells.size==sz&&decide (0<sz))=true)
 (U:(xs.length+ys.length)*X≤140737488355328) (hm:xs.length+ys.length≤1000000000000)
 (h: ∀s w',Kpt (fun k=>v.ownBlock=some k∧B≤k∧σ k=none) w w'→X2 w' σ→J8 B e sz R σ w' s (xs++ys)→((∃a m,v= .slice a xs.length m∧s= .slice a (xs.length+ys.length) m)∨(Below w.heap.size w w'∧ ∀k,s.ownBlock=some k→w.heap.size≤k))→K s w'):X3 P .append [t,t] ty cs [v,u] w K:=by
 obtain ⟨C,c,rfl,c1,c2,A,c3⟩:=ha
 obtain ⟨a,m,d,rfl,n1,n2,n3,n4,n5⟩:=H.cells hs
 obtain ⟨i,hi,E,al,N⟩:=tz.info
 simp only[Bool.and_eq_true,beq_iff_eq,decide_eq_true_eq] at hz
 obtain ⟨ao,a9⟩:=hz
 have M: ∀s w',(Builtin.append_ #[t,t] ty #[.slice C xs.length c, .slice a ys.length m]).run P w= .ok s w'→Kpt (fun k=>(Value.slice C xs.length c).ownBlock=some k∧B≤k∧σ k=none) w w'→J8 B e sz R σ w' s (xs++ys)→((∃a m,(Value.slice C xs.length c)= .slice a xs.length m∧s= .slice a (xs.length+ys.length) m)∨(Below w.heap.size w w'∧ ∀k,s.ownBlock=some k→w.heap.size≤k))→X3 P .append [t,t] ty cs [.slice C xs.length c, .slice a ys.length m] w K:=by
  intro s w' D hk hq ap
  have J:(builtin .append #[t,t] ty cs.toArray #[.slice C xs.length c, .slice a ys.length m]).run P w= .ok (.value s) w':=by
   simp[builtin,D]
  unfold X3
  rw[T9];unfold P5
  rw[J]
  exact h s w' hk (fun k o ho=>by rw[hk.block k (hs.lt ho) fun e=>by rw[e.2.2] at ho;cases ho];exact hs k o ho) hq ap
 have q:Src P i.size t (.slice a ys.length m) ys.length d w:=by
  cases a with
  | some b=>exact Src.ofSlice w ts.h b ys.length m d (by rw[E];exact n2) (n3 b rfl) n4
  | none=>
   have hy:ys.length=0:=by
    obtain ⟨a',a1,e',q1,_,W,_⟩:=H;injection e' with e1 e2 e3;have:=n1 rfl;omega
   have hn:d=[]:=List.eq_nil_of_length_eq_zero (by rw[n2,hy];simp)
   subst hn
   rw[hy];exact Src.ofNil w ts.h m
 by_cases r:xs.length+ys.length≤c
 ·by_cases L:c=0
  ·-- nothing at all
   subst L
   have p:xs=[]:=List.eq_nil_of_length_eq_zero (by omega)
   have hy:ys=[]:=List.eq_nil_of_length_eq_zero (by omega)
   subst p hy
   have hn:d=[]:=List.eq_nil_of_length_eq_zero (by simpa using n2)
   subst hn
   refine M (.slice C 0 0) w ?_ Kpt.refl ⟨C,0,rfl,by simp,by simp,A,fun h=>by omega⟩ (.inl ⟨_,_,rfl,rfl⟩)
   have hl:=q.len w
   have y:=q.cells
   simp only[List.length_nil] at hl y⊢
   cases C<;>simp[Builtin.append_,run_underlying ts.h,sizeOf,typeInfo,hi,hl,y,storeCells]
  ·obtain ⟨g,l,f,rfl,q1,q2,W,q4,q5⟩:=c3 (by omega)
   have e1:(xs.length+ys.length)*sz≤c*sz:=Nat.mul_le_mul_right _ r
   rw[Nat.add_mul] at e1
   have Y:=run_storeCells_at P g (l+xs.length*sz) e d 0 f w W (by omega) n4
   simp only[Nat.add_zero] at Y
   obtain ⟨V,ak⟩:=My (cs:=(f.toList.take (l+xs.length*sz)++d++f.toList.drop (l+xs.length*sz+d.length)).toArray) W
   refine M (.slice (some ⟨g,l,none⟩) (xs.length+ys.length) c) _ ?_ (Kpt.of_upd V ⟨rfl,q1,q2⟩) ?_ (.inl ⟨_,_,rfl,rfl⟩)
   ·have hl:=q.len w
    have y:=q.cells
    rw[E] at y
    simp[Builtin.append_,run_underlying ts.h,sizeOf,typeInfo,hi,hl,y,E,r,Addr.add_lit,Y]
   ·refine ⟨_,c,by rw[List.length_append],by rw[List.length_append];exact r,c2,fun b U=>⟨(A b U).1,(A b U).2.1,by rw[V.size];exact (A b U).2.2.1,(A b U).2.2.2⟩,fun _=>⟨g,l,_,rfl,q1,q2,ak,?_,fun j x p=>?_⟩⟩
    ·simp;omega
    ·by_cases Q:j<xs.length
     ·rw[List.getElem?_append_left Q] at p
      have:=q5 j x p
      have hh:j*sz+sz≤xs.length*sz:=by rw[←Nat.succ_mul];exact Nat.mul_le_mul_right _ Q
      have e2:((f.toList.take (l+xs.length*sz)++d++f.toList.drop (l+xs.length*sz+d.length)).toArray.toList.drop (l+j*sz)).take sz=(f.toList.drop (l+j*sz)).take sz:=by
       rw[List.toList_toArray,List.append_assoc]
       rw[List.drop_append_of_le_length (by rw[List.length_take,Array.length_toList (xs:=f)];omega),List.take_append_of_le_length (by rw[List.length_drop,List.length_take,Array.length_toList (xs:=f)];omega),List.drop_take,List.take_take]
       congr 1;omega
      rw[e2];exact this
     ·rw[List.getElem?_append_right (by omega)] at p
      have:=n5 _ _ p
      have ar:j-xs.length<ys.length:=(List.getElem?_eq_some_iff.1 p).1
      have hh:(j-xs.length)*sz+sz≤ys.length*sz:=by rw[←Nat.succ_mul];exact Nat.mul_le_mul_right _ ar
      have bc:j*sz=xs.length*sz+(j-xs.length)*sz:=by rw[←Nat.add_mul];congr 1;omega
      have e2:((f.toList.take (l+xs.length*sz)++d++f.toList.drop (l+xs.length*sz+d.length)).toArray.toList.drop (l+j*sz)).take sz=(d.drop ((j-xs.length)*sz)).take sz:=by
       rw[List.toList_toArray,List.append_assoc]
       rw[List.drop_append,List.drop_eq_nil_of_le (by rw[List.length_take,Array.length_toList (xs:=f)];omega),List.nil_append,List.length_take,Array.length_toList (xs:=f),
        show l+j*sz-min (l+xs.length*sz) f.size=(j-xs.length)*sz by omega,
        List.drop_append_of_le_length (by omega),List.take_append_of_le_length (by rw[List.length_drop];omega)]
      rw[e2];exact this
 ·-- a new row
  have O: ∃n:List Value,n.length=xs.length*sz∧(Builtin.firstCells i.size xs.length (.slice C xs.length c)).run P w.drew= .ok n.toArray w.drew∧ ∀j x,xs[j]? =some x→R σ x ((n.drop (j*sz)).take sz):=by
   by_cases L:c=0
   ·subst L
    have p:xs=[]:=List.eq_nil_of_length_eq_zero (by omega)
    subst p
    refine ⟨[],by simp,?_,by simp⟩
    cases C with
    | none=>exact run_firstCells_none w.drew i.size 0 0 0
    | some a'=>exact run_firstCells_some w.drew i.size 0 a' 0 0 [] (by simp) (by intro _ _ h';simp at h')
   ·obtain ⟨g,l,f,rfl,q1,q2,W,q4,q5⟩:=c3 (by omega)
    have e1:xs.length*sz≤c*sz:=Nat.mul_le_mul_right _ c1
    refine ⟨(f.toList.drop l).take (xs.length*sz),by rw[List.length_take,List.length_drop,Array.length_toList (xs:=f)];omega,?_,fun j x p=>?_⟩
    ·refine run_firstCells_some w.drew i.size xs.length ⟨g,l,none⟩ xs.length c _ (by rw[List.length_take,List.length_drop,Array.length_toList (xs:=f),E];omega) (fun j u H=>?_)
     rw[List.getElem?_take] at H
     split at H
     ·rw[List.getElem?_drop] at H
      have av:w.drew.heap[g]? =some (.cells f e (0,0)):=W
      unfold World.cell?
      rw[R9,A7,I1 rfl]
      simp only[av]
      simpa using H
     ·cases H
    ·have Q:j<xs.length:=(List.getElem?_eq_some_iff.1 p).1
     have hh:j*sz+sz≤xs.length*sz:=by rw[←Nat.succ_mul];exact Nat.mul_le_mul_right _ Q
     have:=q5 j x p
     rw[List.drop_take,List.take_take,List.drop_drop,show min sz (xs.length*sz-j*sz)=sz by omega]
     exact this
  obtain ⟨n,o1,o2,o3⟩:=O
  have hg:c<xs.length+ys.length:=by omega
  have D:=run_append_grow_src (P:=P) w t t ty e i z ts.h hi N C xs.length c n o2 (.slice a ys.length m) ys.length d q hg (by omega) (growslice_fits hg (by rw[al];exact U))
  have az:=grownCap_le_maxLen w (xs.length+ys.length) c e (by simp only[maxLen];omega)
  have am:=grownCap_ge w (xs.length+ys.length) c e
  have hL:(n++d).length=(xs.length+ys.length)*sz:=by rw[List.length_append,o1,n2,Nat.add_mul]
  refine M _ _ D ?_ ?_ (.inr ⟨(Below.refl _ _).drew.alloc (Nat.le_refl _) _,by intro k hk;cases hk;exact Nat.le_refl _⟩)
  ·exact Kpt.of_below ((Below.refl _ _).drew.alloc (Nat.le_refl _) _)
  ·refine ⟨_,_,by rw[List.length_append],by rw[List.length_append];exact am,az,by rintro _ ⟨⟩;exact ⟨rfl,hB,(Array.getElem?_eq_some_iff.1 (heap_alloc_new w.drew _)).1,hs.none (Nat.le_refl _)⟩,fun _=>⟨w.heap.size,0,_,rfl,hB,hs.none (Nat.le_refl _),heap_alloc_new w.drew _,?_,fun j x p=>?_⟩⟩
   ·rw[Array.size_append,List.size_toArray,hL,size_zeroCells,ao,←Nat.add_mul]
    rw[Nat.zero_add];exact Nat.mul_le_mul_right _ (by omega)
   ·rw[Nat.zero_add,Array.toList_append]
    have Q:j<xs.length+ys.length:=by have:=(List.getElem?_eq_some_iff.1 p).1;rwa [List.length_append] at this
    have hh:j*sz+sz≤(xs.length+ys.length)*sz:=by rw[←Nat.succ_mul];exact Nat.mul_le_mul_right _ Q
    rw[List.drop_append_of_le_length (by simp only[List.toList_toArray];omega),List.take_append_of_le_length (by rw[List.length_drop];simp only[List.toList_toArray];omega)]
    simp only[List.toList_toArray]
    by_cases Z:j<xs.length
    ·rw[List.getElem?_append_left Z] at p
     rw[Wj n d xs.length j o1 Z]
     exact o3 j x p
    ·rw[List.getElem?_append_right (by omega)] at p
     have:=n5 _ _ p
     rw[show j*sz=n.length+(j-xs.length)*sz by rw[o1,←Nat.add_mul];congr 1;omega,List.drop_append]
     simpa [List.drop_eq_nil_of_le] using this
end
theorem M7 {b:Nat} (h:w1.heap.size≤b) (k:Stp w σ w1 σ1):w.heap.size≤b:=Nat.le_trans k.bel.size h
theorem M8 {t:TypeId} {sz a:Nat} {z:Value} [tz:TZ P t sz a z] (g:X2 w σ) (h: ∀b w' σ',w.heap.size≤b→Stp w σ w' σ'→Y1 σ' w' b z.cells.toList→K (.pointer (some ⟨b,0,none⟩)) w'):W0 P t w K:=
 Iv g fun b w' d c f=>h b w' σ d c f
theorem En {t:TypeId} {cs:List Value} (f:X2 w σ) (h: ∀b w' σ',w.heap.size≤b→Stp w σ w' σ'→Y1 σ' w' b cs→K (.pointer (some ⟨b,0,none⟩)) w'):box P t (.agg cs.toArray) w K:=
 Q53 f fun b w' c a d=>h b w' σ c a (by simpa [Value.cells] using d)
theorem F8 {t:TypeId} {sz c:Nat} {z:Value} [tz:TZ P t sz c z] {b:Nat} {cs ds:List Value} (d:Y1 σ w b cs) (l:Stp w0 σ0 w σ) (i:w0.heap.size≤b) (j:cs.length=sz) (k:ds.length=sz) (g: ∀u∈ds,u.oneCell'=true)
 (h: ∀w',Hst w0 σ0 w' σ→Y1 σ w' b ds→K undef w'):Y0 P t (.pointer (some ⟨b,0,none⟩)) (.agg ds.toArray) w K:=
 Nk d j k (by rw[List.all_toArray];exact List.all_eq_true.2 g) fun w' f a=>h w' ⟨f.stp l i d.1⟩ a
structure Nxt (D : Nat → Prop) (w : World) (σ : Q5) (w' : World) (σ' : Q5) : Prop where
  kp : Kpt D w w'
  le : SLe σ σ'
  old : ∀ k, k < w.heap.size → σ' k = σ k
  sat : X2 w' σ'
theorem Nxt.of_stp {D:Nat→Prop} (h:Stp w σ w' σ'):Nxt D w σ w' σ':=⟨Kpt.of_below h.bel,⟨h.le⟩,h.old,h.sat⟩
theorem Nxt.mono {D a:Nat→Prop} (h:Nxt D w σ w' σ') (b: ∀k,k<w.heap.size→D k→a k):Nxt a w σ w' σ':=⟨h.kp.mono b,h.le,h.old,h.sat⟩
theorem Nxt.trans {D:Nat→Prop} (h:Nxt D w σ w' σ') (k:Nxt D w' σ' w'' σ1):Nxt D w σ w'' σ1:=
 ⟨h.kp.trans k.kp,h.le.more k.le,fun i a=>(k.old i (Nat.lt_of_lt_of_le a h.kp.size)).trans (h.old i a),k.sat⟩
theorem Y1.nx {D:Nat→Prop} {b:Nat} {cs:List Value} (h:Y1 σ w b cs) (k:Nxt D w σ w' σ') (f: ¬D b):Y1 σ' w' b cs:=by
 have a:=h.lt
 obtain ⟨c,e,d⟩:=h
 exact ⟨(k.old b a).trans c,e,(k.kp.block b a f).trans d⟩
theorem C2.nx {D:Nat→Prop} {r:Nat} {m:List (List UInt8×Value)} (h:C2 σ w r m) (k:Nxt D w σ w' σ') (a: ¬D r):C2 σ' w' r m:=
 ⟨(k.old r h.lt).trans h.1,(k.kp.block r h.lt a).symm▸h.2⟩
section
variable {α : Type} {R : Q5 → α → List Value → Prop} {B sz : Nat} {e : TypeId} {v u : Value} {xs : List α} {x : α}
theorem V5.nx [hr:Rep R] {D:Nat→Prop} (h:V5 B e sz R σ w v xs) (k:Nxt D w σ w' σ') (j: ∀k,v.ownBlock=some k→ ¬D k):V5 B e sz R σ' w' v xs:=by
 have g:=h.kp k.kp j
 obtain ⟨cells,b,d,f⟩:=g
 refine ⟨cells,b,fun i a=>(k.old i (h.mem i a).2.1).trans (d i a),fun i x c=>hr.up k.le.le (f i x c)⟩
theorem J8.nx [hr:Rep R] {D:Nat→Prop} (h:J8 B e sz R σ w v xs) (k:Nxt D w σ w' σ') (q: ∀k,v.ownBlock=some k→ ¬D k):J8 B e sz R σ' w' v xs:=by
 obtain ⟨a,f,rfl,y,p,c,o⟩:=h
 refine ⟨a,f,rfl,y,p,fun b d=>⟨(c b d).1,(c b d).2.1,Nat.lt_of_lt_of_le (c b d).2.2.1 k.kp.size,(k.old _ (c b d).2.2.1).trans (c b d).2.2.2⟩,fun C=>?_⟩
 obtain ⟨g,j,l,rfl,t,s,m,A,r⟩:=o C
 have n:=(Array.getElem?_eq_some_iff.1 m).1
 exact ⟨g,j,l,rfl,t,(k.old g n).trans s,(k.kp.block g n (q g rfl)).trans m,A,fun i x z=>hr.up k.le.le (r i x z)⟩
theorem Jm {t E:TypeId} {d:Nat} {z:Value} {cs:List Bool} {A:Value→Value→World→Prop} [ts:TS P t e] [tz:TZ P e sz d z] [hr:Rep R] (n:Stp w0 σ0 w σ) (p:V5 w0.heap.size e sz R σ w v xs) (q:R σ x u.cells.toList) (y:u.cells.size=sz) (r:(z.cells.size==sz&&decide (0<sz))=true) (j:(decide (0<sz)&&decide ([u].length*sz≤16777216))=true)
 (C:(xs.length+1)*d≤140737488355328) (D:xs.length+1≤9223372036854775807)
 (h: ∀s b w' σ',Nxt (fun k=>v.ownBlock=some k) w σ w' σ'→Stp w0 σ0 w' σ'→V5 w0.heap.size e sz R σ' w' b (xs++[x])→(b.ownBlock=v.ownBlock∨ ∀k,b.ownBlock=some k→w.heap.size≤k)→A s b w'):
 buildSlice P t 1 [(0,u)] w (fun s w=>X3 P .append [t,t] E cs [v,s] w (fun b w=>A s b w)):=by
 refine P6 n.sat [u] [x] rfl rfl (by simpa using y) j ⟨q,trivial⟩ fun s w1 σ1 a i=>?_
 refine app (n.trans a) (p.up a) i r (by simpa using C) (by simpa using D) fun b m o c g hat=>?_
 have f:Kpt (fun k=>v.ownBlock=some k) w m:=(Kpt.of_below a.bel).trans (Kpt.of_grown o fun k a=>a)
 refine h s b m σ1 ⟨f,⟨a.le⟩,a.old,c.sat⟩ c g ?_
 rcases hat with hat | hat
 ·exact .inl hat
 ·exact .inr fun k l=>Nat.le_trans a.bel.size (hat k l)
theorem Vw {t q:TypeId} {c:Nat} {z:Value} {cs:List Bool} {ys:List α} [ts:TS P t e] [tz:TZ P e sz c z] [hr:Rep R] (r:Stp w0 σ0 w σ) (i:V5 w0.heap.size e sz R σ w v xs) (j:Sl sz R σ u ys) (n:(z.cells.size==sz&&decide (0<sz))=true)
 (o:(xs.length+ys.length)*c≤140737488355328) (p:xs.length+ys.length≤9223372036854775807)
 (h: ∀a w',Nxt (fun k=>v.ownBlock=some k) w σ w' σ→Stp w0 σ0 w' σ→V5 w0.heap.size e sz R σ w' a (xs++ys)→(a.ownBlock=v.ownBlock∨ ∀k,a.ownBlock=some k→w.heap.size≤k)→K a w'):X3 P .append [t,t] q cs [v,u] w K:=
 app r i j n o p fun a l g b d f=>h a l ⟨Kpt.of_grown g fun k m=>m,SLe.refl _,fun _ _=>rfl,b.sat⟩ b d f
end
section
variable {α : Type} {R : Q5 → α → List Value → Prop} {B sz : Nat} {e : TypeId} {v u : Value} {xs : List α} {x : α}
theorem J8.mono {B':Nat} (h:J8 B e sz R σ w v xs) (k:B'≤B):J8 B' e sz R σ w v xs:=by
 obtain ⟨a,f,rfl,m,n,d,p⟩:=h
 refine ⟨a,f,rfl,m,n,fun b c=>⟨(d b c).1,Nat.le_trans k (d b c).2.1,(d b c).2.2⟩,fun o=>?_⟩
 obtain ⟨g,i,j,rfl,l,q⟩:=p o
 exact ⟨g,i,j,rfl,Nat.le_trans k l,q⟩
theorem J8.own (h:J8 B e sz R σ w v xs) {k:Nat} (a:v.ownBlock=some k):B≤k:=(h.mem a).1
theorem J8.keep [hr:Rep R] (h:J8 w0.heap.size e sz R σ w v xs) (p:Stp w0 σ0 w σ): ∃σ',Stp w0 σ0 w σ'∧Sl sz R σ' v xs∧SLe σ σ'∧(∀k,some k≠v.ownBlock→σ' k=σ k):=by
 obtain ⟨a,f,rfl,C,s,n,r⟩:=h
 by_cases D:f=0
 ·have m:xs=[]:=List.eq_nil_of_length_eq_zero (by omega)
  subst D m
  exact ⟨σ,p,⟨a,0,rfl,by simp,by simp,fun _=>rfl,fun b E=>⟨fun _=>(n b E).1,by simp⟩⟩,SLe.refl _,fun _ _=>rfl⟩
 ·obtain ⟨g,o,c,rfl,A,q,t,J,y⟩:=r (by omega)
  have d:=Q5.put_le p.sat q (.cells c e (0,0))
  refine ⟨σ.put g (.cells c e (0,0)),p.put q A t,⟨_,f,rfl,C,s,by simp,?_⟩,⟨d⟩,?_⟩
  ·rintro _ ⟨⟩
   refine ⟨fun _=>rfl,fun i x m=>⟨(c.toList.drop (o+i*sz)).take sz,⟨I1 rfl _,c,e,(0,0),by rw[R9];simp[Q5.put],?_⟩,?_,hr.up d (y i x m)⟩⟩
   ·intro j u l
    rw[A7]
    rw[List.getElem?_take] at l
    split at l
    ·rw[List.getElem?_drop] at l;simpa using l
    ·cases l
   ·have H:i<xs.length:=(List.getElem?_eq_some_iff.1 m).1
    have h:i*sz+sz≤f*sz:=by rw[←Nat.succ_mul];exact Nat.mul_le_mul_right _ (by omega)
    rw[List.length_take,List.length_drop,Array.length_toList (xs:=c)];omega
  ·intro k z
   have:k≠g:=by intro e;subst e;exact z rfl
   simp only[Q5.put,if_neg this]
theorem Q2P {t N:TypeId} {H:Nat} {z:Value} {A:Value→Value→World→Prop} {ds:List Value} [ts:TS P t e] [tz:TZ P e sz H z] {E:Nat} {X:Value} [tz':TZ P N sz E X] (hS:Stp w0 σ0 w σ) (V:J8 w0.heap.size e sz R σ w v xs) {n:Nat} (hn:n<xs.length) (s:ds.length=sz) (hx:R σ x ds) (h1: ∀u∈ds,u.oneCell'=true)
 (h: ∀p u w',Kpt (fun k=>v.ownBlock=some k) w w'→Hst w0 σ0 w' σ→J8 w0.heap.size e sz R σ w' v (xs.set n x)→A p u w'):
 indexAddr P t v (I n) w (fun p w=>Y0 P N p (.agg ds.toArray) w (fun u w=>A p u w)):=by
 obtain ⟨a,i,rfl,Y,c2,f,c3⟩:=V
 obtain ⟨g,c,d,rfl,Q,O,M,q4,Z⟩:=c3 (by omega)
 rw[Ro (by omega) (by omega)]
 have hh:n*sz+sz≤i*sz:=by rw[←Nat.succ_mul];exact Nat.mul_le_mul_right _ (by omega)
 have m:(⟨g,c,none⟩:Addr).add ((n:Int).toNat*sz)=⟨g,c+n*sz,none⟩:=by unfold Addr.add;split<;>simp_all
 rw[m]
 have q:=run_storeCells_at P g (c+n*sz) e ds 0 d w M (by omega) h1
 simp only[Nat.add_zero] at q
 obtain ⟨l,D⟩:=My (cs:=(d.toList.take (c+n*sz)++ds++d.toList.drop (c+n*sz+ds.length)).toArray) M
 unfold Y0
 rw[Ww (w':=w.setRow g (d.toList.take (c+n*sz)++ds++d.toList.drop (c+n*sz+ds.length)).toArray) (by
  simp[Instr.storeAt,Instr.sureAddr,storeVar,L2 tz',Value.cells,s]
  simpa [s] using q)]
 have hk:Kpt (fun k=>(Value.slice (some ⟨g,c,none⟩) xs.length i).ownBlock=some k) w (w.setRow g (d.toList.take (c+n*sz)++ds++d.toList.drop (c+n*sz+ds.length)).toArray):=Kpt.of_upd l rfl
 refine h _ _ _ hk ⟨l.stp hS Q O⟩ ⟨_,i,by rw[List.length_set],by rw[List.length_set];exact Y,c2,fun b r=>⟨(f b r).1,(f b r).2.1,by rw[l.size];exact (f b r).2.2.1,(f b r).2.2.2⟩,fun _=>⟨g,c,_,rfl,Q,O,D,?_,fun j y o=>?_⟩⟩
 ·simp;omega
 ·rw[List.toList_toArray]
  have ae:=Array.length_toList (xs:=d)
  have C:j<xs.length:=by have:=(List.getElem?_eq_some_iff.1 o).1;simpa using this
  have W:j*sz+sz≤i*sz:=by rw[←Nat.succ_mul];exact Nat.mul_le_mul_right _ (by omega)
  by_cases U:j=n
  ·subst U
   rw[List.getElem?_set_self C] at o
   cases o
   rw[List.append_assoc,List.drop_append,List.drop_eq_nil_of_le (by rw[List.length_take];omega),List.nil_append,List.length_take,show c+j*sz-min (c+j*sz) d.toList.length=0 by omega,List.drop_zero,List.take_append_of_le_length (by omega),List.take_of_length_le (by omega)]
   exact hx
  ·rw[List.getElem?_set_ne (by omega)] at o
   have:=Z j y o
   rcases Nat.lt_or_gt_of_ne U with L | hgt
   ·have J:j*sz+sz≤n*sz:=by rw[←Nat.succ_mul];exact Nat.mul_le_mul_right _ L
    rw[List.append_assoc,List.drop_append_of_le_length (by rw[List.length_take];omega),List.take_append_of_le_length (by rw[List.length_drop,List.length_take];omega),List.drop_take,List.take_take]
    rwa [show min sz (c+n*sz-(c+j*sz))=sz by omega]
   ·have J:n*sz+sz≤j*sz:=by rw[←Nat.succ_mul];exact Nat.mul_le_mul_right _ hgt
    rw[List.drop_append,List.drop_eq_nil_of_le (by rw[List.length_append,List.length_take];omega),List.nil_append,List.length_append,List.length_take,List.drop_drop,s]
    rwa [show c+n*sz+sz+(c+j*sz-(min (c+n*sz) d.toList.length+sz))=c+j*sz by omega]
end
theorem Q4Y (p:Nat→Prop): ∀n,p n→ ∃m,p m∧ ∀k,p k→m≤k:=by
 intro n
 induction n using Nat.strongRecOn with
 | _ n c=>
  intro h
  by_cases b: ∃k,k<n∧p k
  ·obtain ⟨k,d,g⟩:=b;exact c k d g
  ·exact ⟨n,h,fun k f=>Nat.le_of_not_lt fun a=>b ⟨k,a,f⟩⟩
noncomputable def Q1b (p:Nat→Prop):Nat:=open Classical in if h: ∃m,p m∧ ∀k,p k→m≤k then Classical.choose h else 0
theorem Q0Z {p:Nat→Prop} {n:Nat} (h:p n):p (Q1b p)∧Q1b p≤n:=by
 have a:=Q4Y p n h
 unfold Q1b
 rw[dif_pos a]
 exact ⟨(Classical.choose_spec a).1,(Classical.choose_spec a).2 n h⟩
theorem Kp {α:Type} {x0:α} {A:(α→World→Prop)→α→(Nat→Value)→World→Prop} (I:Nat→α→World→Prop) (n:Nat) (k:I n x0 w)
 (h: ∀a n x d w,I n x w→(∀b c w',b<n→I b c w'→a c w')→A a x d w):lp x0 w A:=by
 refine Vv (fun x w=> ∃n,I n x w) (fun x w=>Q1b fun n=>I n x w) ⟨n,k⟩ ?_
 rintro x d w ⟨n,j⟩
 obtain ⟨i,l⟩:=Q0Z (p:=fun n=>I n x w) j
 refine h _ _ x d w i fun b c w' f g=>⟨⟨b,g⟩,?_⟩
 exact Nat.lt_of_le_of_lt (Q0Z (p:=fun n=>I n c w') g).2 f
section
variable {α : Type} {R : Q5 → α → List Value → Prop} {B sz : Nat} {e : TypeId} {v u : Value} {xs ys : List α} {x : α}
theorem J8.below (h:J8 B e sz R σ w v xs) (a:Below w.heap.size w w'):J8 B e sz R σ w' v xs:=h.kp (D:=fun _=>False) (.of_below a) fun _ _=>id
theorem J8.pre {a:Option Addr} {n m b:Nat} (h:J8 B e sz R σ w (.slice a m b) (xs++ys)) (C:n=xs.length):J8 B e sz R σ w (.slice a n b) xs:=by
 obtain ⟨J,j,r,A,o,c,p⟩:=h
 injection r with l e2 E
 subst l E C
 rw[List.length_append] at A
 refine ⟨a,b,rfl,by omega,o,c,fun H=>?_⟩
 obtain ⟨g,d,f,q,z,y,s,D,t⟩:=p H
 exact ⟨g,d,f,q,z,y,s,D,fun i x k=>t i x (by rw[List.getElem?_append_left (List.getElem?_eq_some_iff.1 k).1];exact k)⟩
def Fp (B:Nat) (e:TypeId) (sz:Nat) (R:Q5→α→List Value→Prop) (σ:Q5) (v:Value) (xs:List α) (x:α) (w1 c:World):Prop:=
 Kpt (fun k=>v.ownBlock=some k) w1 c∧(J8 B e sz R σ w1 v xs→J8 B e sz R σ c v xs)∧
  ∀a b,v= .slice a xs.length b→J8 B e sz R σ w1 (.slice a (xs.length+1) b) (xs++[x])→J8 B e sz R σ c (.slice a (xs.length+1) b) (xs++[x])
theorem Fp.below (a:Below w.heap.size w w'):Fp B e sz R σ v xs x w w':=⟨.of_below a,fun h=>h.below a,fun _ _ _ h=>h.below a⟩
theorem Fp.refl:Fp B e sz R σ v xs x w w:=Fp.below (Below.refl _ _)
def VQa (N B:Nat) (e:TypeId) (sz:Nat) (R:Q5→α→List Value→Prop) (σ:Q5) (v:Value) (xs:List α) (x:α) (c:Value) (w:World):Prop:=
 J8 B e sz R σ w c (xs++[x])∧((∃a b,v= .slice a xs.length b∧c= .slice a (xs.length+1) b)∨((∀k,c.ownBlock=some k→N≤k)∧ ∀k,v.ownBlock=some k→k<N))
theorem VQa.stable {N:Nat} {j:Value} (h:VQa N B e sz R σ v xs x j w) (g:Fp B e sz R σ v xs x w w'):VQa N B e sz R σ v xs x j w':=by
 obtain ⟨i,b⟩:=h
 refine ⟨?_,b⟩
 rcases b with ⟨a,f,d,rfl⟩ | ⟨b,d⟩
 ·exact g.2.2 a f d i
 ·exact i.kp g.1 fun k l c=>by have:=b k l;have:=d k c;omega
theorem Kpt.more {D E:Nat→Prop} (h:Kpt D w w') (k:Kpt E w' w'') (hE: ∀j,E j→w.heap.size≤j):Kpt D w w'':=
 ⟨k.os.trans h.os,k.tape.trans h.tape,k.output.trans h.output,Nat.le_trans h.size k.size,fun i a b=>(k.block i (Nat.lt_of_lt_of_le a h.size) fun e=>by have:=hE i e;omega).trans (h.block i a b)⟩
end
end Go.Emb

namespace Go.Hm
open Go.Kd
theorem V3 {l:List Cla} {n:X0} {c:Cla} (h:lk l n=some c):c.name=n∧c∈l∧ ∃i,Z1 l n=some i∧l[i]? =some c:=by
 unfold lk at h
 cases b:Z1 l n with
 | none=>rw[b] at h;cases h
 | some i=>
  rw[b] at h
  obtain ⟨a,e,_⟩:=List.findIdx?_eq_some_iff_getElem.1 b
  have d:l[i]? =some c:=h
  rw[List.getElem?_eq_getElem a] at d
  cases d
  exact ⟨by simpa using e,List.getElem_mem a,i,rfl,List.getElem?_eq_getElem a⟩
theorem Zd {l:List Cla} {n:X0} {i:Nat} (h:Z1 l n=some i): ∃c,lk l n=some c∧l[i]? =some c∧c.name=n:=by
 obtain ⟨a,b,_⟩:=List.findIdx?_eq_some_iff_getElem.1 h
 refine ⟨l[i],?_,List.getElem?_eq_getElem a,by simpa using b⟩
 unfold lk;rw[h];simp[a]
theorem Q1s {l:List Cla} {n:X0}:Q0Q l n=(lk l n).isSome:=by
 unfold Q0Q
 cases a:Z1 l n with
 | none=>simp[lk,a]
 | some i=>obtain ⟨c,h,_⟩:=Zd a;simp[h]
theorem Q9J {l:List Cla} {c:Cla} (h:c∈l): ∃d,lk l c.name=some d:=by
 cases a:Z1 l c.name with
 | none=>
  have:=List.findIdx?_eq_none_iff.1 a c h
  simp at this
 | some i=>obtain ⟨d,h,_⟩:=Zd a;exact ⟨d,h⟩
inductive Reach (L : Wg) : X0 → X0 → Prop
  | refl {a : X0} {c : Cla} : L a = some c → Reach L a a
  | step {a u b : X0} {c : Cla} : L a = some c → u ∈ U3 c → Reach L u b → Reach L a b
theorem Reach.trans {L:Wg} {a b d:X0} (h:Reach L a b) (k:Reach L b d):Reach L a d:=by
 induction h with
 | refl _=>exact k
 | step e f _ c=>exact .step e f (c k)
theorem Reach.right {L:Wg} {a b:X0} (h:Reach L a b): ∃c,L b=some c:=by
 induction h with
 | refl h=>exact ⟨_,h⟩
 | step _ _ _ d=>exact d
theorem Reach.left {L:Wg} {a b:X0} (h:Reach L a b): ∃c,L a=some c:=by
 cases h with
 | refl h=>exact ⟨_,h⟩
 | step h _ _=>exact ⟨_,h⟩
theorem Q17 (L:Wg): ∀(f:Nat) (a b:List X0),∃r,Us L f a b=b++r:=by
 intro f
 induction f with
 | zero=>intro a b;exact ⟨[],by simp[Us]⟩
 | succ f c=>
  intro a b
  cases a with
  | nil=>exact ⟨[],by simp[Us]⟩
  | cons n a=>
   simp only[Us]
   split
   ·exact c _ _
   ·split
    ·exact c _ _
    ·obtain ⟨r,d⟩:=c (a++U3 ‹_›) (b++[n])
     exact ⟨n::r,by rw[d];simp⟩
theorem Q8N (L:Wg): ∀(f:Nat) (a b:List X0) (x:X0),x∈Us L f a b→x∈b∨ ∃t∈a,Reach L t x:=by
 intro f
 induction f with
 | zero=>intro a b x h;exact .inl h
 | succ f d=>
  intro a b x h
  cases a with
  | nil=>exact .inl h
  | cons n a=>
   simp only[Us] at h
   split at h
   ·rcases d _ _ _ h with h | ⟨t,ht,h⟩
    ·exact .inl h
    ·exact .inr ⟨t,by simp[ht],h⟩
   ·rename_i c e
    split at h
    ·rcases d _ _ _ h with h | ⟨t,ht,h⟩
     ·exact .inl h
     ·exact .inr ⟨t,by simp[ht],h⟩
    ·rcases d _ _ _ h with h | ⟨t,ht,h⟩
     ·rcases List.mem_append.1 h with h | h
      ·exact .inl h
      ·simp at h;subst h;exact .inr ⟨x,by simp, .refl e⟩
     ·rcases List.mem_append.1 ht with ht | ht
      ·exact .inr ⟨t,by simp[ht],h⟩
      ·exact .inr ⟨n,by simp, .step e ht h⟩
theorem X0a (l:List Cla) (b a:List X0) (h: ∀x∈b,x∈a):weigh l a≤weigh l b:=by
 unfold weigh
 induction l with
 | nil=>simp
 | cons c r e=>
  simp only[List.map_cons,List.sum_cons]
  by_cases d:c.name∈b
  ·rw[if_pos d,if_pos (h _ d)];omega
  ·rw[if_neg d];split<;>omega
theorem Kj (l:List Cla) (a:List X0) (c:Cla) (hc:c∈l) (f:c.name∉a):weigh l (a++[c.name])+(U3 c).length≤weigh l a:=by
 unfold weigh
 induction l with
 | nil=>simp at hc
 | cons d r g=>
  simp only[List.map_cons,List.sum_cons]
  have e:weigh r (a++[c.name])≤weigh r a:=X0a _ _ _ (by simp;intro x h;exact .inl h)
  unfold weigh at e
  rcases List.mem_cons.1 hc with rfl | hc
  ·rw[if_pos (by simp),if_neg f];omega
  ·have:=g hc
   by_cases b:d.name∈a
   ·rw[if_pos (by simp[b]),if_pos b];omega
   ·rw[if_neg b];split<;>omega
theorem X0m (l:List Cla): ∀(f:Nat) (a b:List X0),a.length+weigh l b≤f→
 (∀x∈b,∀c,lk l x=some c→ ∀u∈U3 c,∀d,lk l u=some d→u∈b∨u∈a)→
 (∀t∈a,∀d,lk l t=some d→t∈Us (lk l) f a b)∧ ∀x∈Us (lk l) f a b,∀c,lk l x=some c→ ∀u∈U3 c,∀d,lk l u=some d→u∈Us (lk l) f a b:=by
 intro f
 induction f with
 | zero=>
  intro a b w o
  have:a=[]:=List.eq_nil_of_length_eq_zero (by omega)
  subst this
  refine ⟨by simp,fun x hx c j u i d g=>?_⟩
  rcases o x hx c j u i d g with h | h
  ·exact h
  ·simp at h
 | succ f v=>
  intro a b w o
  cases a with
  | nil=>
   refine ⟨by simp,fun x hx c j u i d g=>?_⟩
   rcases o x hx c j u i d g with h | h
   ·exact h
   ·simp at h
  | cons n a=>
   simp only[List.length_cons] at w
   simp only[Us]
   split
   ·rename_i y
    obtain ⟨q,p⟩:=v a b (by omega) (fun x hx c j u i d g=>by
     rcases o x hx c j u i d g with h | h
     ·exact .inl h
     ·rcases List.mem_cons.1 h with rfl | h
      ·rw[y] at g;cases g
      ·exact .inr h)
    refine ⟨fun t ht d g=>?_,p⟩
    rcases List.mem_cons.1 ht with rfl | ht
    ·rw[y] at g;cases g
    ·exact q t ht d g
   ·rename_i c j
    split
    ·rename_i k
     obtain ⟨r,s⟩:=Q17 (lk l) f a b
     obtain ⟨q,p⟩:=v a b (by omega) (fun x hx c j u i d g=>by
      rcases o x hx c j u i d g with h | h
      ·exact .inl h
      ·rcases List.mem_cons.1 h with rfl | h
       ·exact .inl k
       ·exact .inr h)
     refine ⟨fun t ht d g=>?_,p⟩
     rcases List.mem_cons.1 ht with rfl | ht
     ·rw[s];simp[k]
     ·exact q t ht d g
    ·rename_i k
     obtain ⟨e,B,_⟩:=V3 j
     have z:=Kj l b c B (by rw[e];exact k)
     rw[e] at z
     obtain ⟨q,p⟩:=v (a++U3 c) (b++[n]) (by rw[List.length_append];omega) (fun x hx A m u i d g=>by
      rcases List.mem_append.1 hx with hx | hx
      ·rcases o x hx A m u i d g with h | h
       ·exact .inl (by simp[h])
       ·rcases List.mem_cons.1 h with rfl | h
        ·exact .inl (by simp)
        ·exact .inr (by simp[h])
      ·simp at hx;subst hx
       rw[j] at m;cases m
       exact .inr (by simp[i]))
     refine ⟨fun t ht d g=>?_,p⟩
     rcases List.mem_cons.1 ht with rfl | ht
     ·obtain ⟨r,s⟩:=Q17 (lk l) f (a++U3 c) (b++[t])
      rw[s];simp
     ·exact q t (by simp[ht]) d g
theorem Uk {l:List Cla} {a b:X0}:b∈F0 l a↔Reach (lk l) a b:=by
 obtain ⟨k,g⟩:=X0m l (1+weigh l []) [a] [] (by simp) (by simp)
 constructor
 ·intro h
  rcases Q8N _ _ _ _ _ h with h | ⟨t,e,n⟩
  ·simp at h
  ·simp at e;subst e;exact n
 ·intro h
  have key: ∀{x y:X0},Reach (lk l) x y→x∈F0 l a→y∈F0 l a:=by
   intro x y h
   induction h with
   | refl _=>exact id
   | step o f i j=>
    intro m
    obtain ⟨d,c⟩:=i.left
    exact j (g _ m _ o _ f _ c)
  obtain ⟨d,c⟩:=h.left
  exact key h (k a (by simp) d c)
theorem Q9Z (l:List Cla): ∀(f:Nat) (a b:List X0),a.length+weigh l b≤f→ ∀k,Us (lk l) (f+k) a b=Us (lk l) f a b:=by
 intro f
 induction f with
 | zero=>
  intro a b h k
  have:a=[]:=List.eq_nil_of_length_eq_zero (by omega)
  subst this
  cases k<;>rfl
 | succ f d=>
  intro a b h k
  cases a with
  | nil=>rw[Nat.succ_add];rfl
  | cons n a=>
   simp only[List.length_cons] at h
   rw[Nat.succ_add]
   simp only[Us]
   split
   ·exact d _ _ (by omega) k
   ·rename_i c i
    split
    ·exact d _ _ (by omega) k
    ·rename_i g
     obtain ⟨e,m,_⟩:=V3 i
     have j:=Kj l b c m (by rw[e];exact g)
     rw[e] at j
     exact d _ _ (by rw[List.length_append];omega) k
end Go.Hm

namespace Go.Hm
open Go.Kd
def Wh (L:Wg) (a b:X0):Prop:= ∃c,L a=some c∧ ∃u∈U3 c,Reach L u b
def Zy (l:List Cla):Prop:= ∀a,¬Wh (lk l) a a
theorem Wh.reach {L:Wg} {a b:X0} (h:Wh L a b):Reach L a b:=by
 obtain ⟨c,e,u,d,f⟩:=h;exact .step e d f
theorem Wh.trans {L:Wg} {a b d:X0} (h:Wh L a b) (k:Reach L b d):Wh L a d:=by
 obtain ⟨c,f,u,e,g⟩:=h;exact ⟨c,f,u,e,g.trans k⟩
theorem Q10 {L:Wg} {a b:X0}:Reach L a b↔(a=b∧(∃c,L a=some c))∨Wh L a b:=by
 constructor
 ·intro h
  cases h with
  | refl h=>exact .inl ⟨rfl,_,h⟩
  | step d e f=>exact .inr ⟨_,d,_,e,f⟩
 ·rintro (⟨rfl,c,h⟩ | h)
  ·exact .refl h
  ·exact h.reach
def Xc (l:List Cla) (a b:X0):Bool:=match lk l a with
 | none=>false
 | some c=>(U3 c).any fun u=>(F0 l u).contains b
theorem Jk {l:List Cla} {a b:X0}:Xc l a b=true↔Wh (lk l) a b:=by
 unfold Xc Wh
 cases h:lk l a with
 | none=>simp
 | some c=>
  simp only[List.any_eq_true,List.contains_iff_mem,Uk]
  constructor
  ·rintro ⟨u,d,e⟩;exact ⟨c,rfl,u,d,e⟩
  ·rintro ⟨_,⟨⟩,u,d,e⟩;exact ⟨u,d,e⟩
def K3 (l:List Cla) (n:X0):Nat:=l.countP fun m=>Xc l n m.name
theorem Q1q (l:List Cla) (n:X0):K3 l n≤l.length:=List.countP_le_length
theorem Q3T {α:Type} {p q:α→Bool}: ∀{l:List α},(∀x∈l,p x=true→q x=true)→(∃x∈l,q x=true∧p x=false)→l.countP p<l.countP q:=by
 intro l
 induction l with
 | nil=>rintro _ ⟨x,hx,_⟩;simp at hx
 | cons a r f=>
  rintro h ⟨x,hx,c,d⟩
  have g:r.countP p≤r.countP q:=List.countP_mono_left fun x hx=>h x (by simp[hx])
  rw[List.countP_cons,List.countP_cons]
  rcases List.mem_cons.1 hx with rfl | hx
  ·rw[c,d];simp;omega
  ·have:=f (fun x hx=>h x (by simp[hx])) ⟨x,hx,c,d⟩
   have e:=h a (by simp)
   cases b:p a
   ·simp;split<;>omega
   ·rw[e b];simp;omega
theorem X1W {l:List Cla} (f:Zy l) {a b:X0} (h:Wh (lk l) a b):K3 l b<K3 l a:=by
 unfold K3
 refine Q3T (fun x _ g=>?_) ?_
 ·rw[Jk] at*
  exact h.trans g.reach
 ·obtain ⟨d,i⟩:=(Reach.right (h.reach))
  obtain ⟨e,j,_⟩:=V3 i
  refine ⟨d,j,?_,?_⟩
  ·rw[Jk,e];exact h
  ·cases c:Xc l b d.name with
   | false=>rfl
   | true=>rw[Jk,e] at c;exact absurd c (f b)
theorem Xt {l:List Cla} (b:Zy l) {a u:X0} {c d:Cla} (f:lk l a=some c) (e:u∈U3 c) (g:lk l u=some d):K3 l u<K3 l a:=
 X1W b ⟨c,f,u,e, .refl g⟩
theorem Q6q {l:List Cla} (b:Zy l): ∀(f g:Nat) (n:X0),K3 l n<f→K3 l n<g→G6 (lk l) f n=G6 (lk l) g n:=by
 intro f
 induction f with
 | zero=>intro g n h;omega
 | succ f e=>
  intro g n k j
  obtain ⟨g,rfl⟩: ∃m,g=m+1:=⟨g-1,by omega⟩
  simp only[G6]
  cases i:lk l n with
  | none=>rfl
  | some c=>
   simp only
   congr 1
   cases a:lk l c.super with
   | none=>cases f<;>cases g<;>simp[G6,a]
   | some d=>
    have:=Xt b i (by simp[U3]) a
    exact e g c.super (by omega) (by omega)
theorem T4 {l:List Cla} (a:Zy l) (n:X0):chain l n=match lk l n with | none=>[] | some c=>c::chain l c.super:=by
 have:=Q1q l n
 unfold chain
 rw[G6]
 cases e:lk l n with
 | none=>rfl
 | some c=>
  simp only
  congr 1
  cases b:lk l c.super with
  | none=>cases l.length<;>simp[G6,b]
  | some d=>
   have:=Xt a e (by simp[U3]) b
   exact Q6q a _ _ _ (by omega) (by omega)
theorem Ys {l:List Cla} {n:X0} (h:lk l n=none):chain l n=[]:=by simp[chain,G6,h]
theorem Di {α β:Type} {f g:α→Option β}: ∀{l:List α},(∀x∈l,f x=g x)→l.findSome? f=l.findSome? g
 | [],_=>rfl
 | a::r,h=>by
  rw[List.findSome?_cons,List.findSome?_cons,h a (by simp),Di fun x b=>h x (by simp[b])]
theorem Q6A {l:List Cla} (b:Zy l) (n:X0): ∀(f g:Nat) (c:Cla),lk l c.name=some c→K3 l c.name<f→K3 l c.name<g→Sw (lk l) f c n=Sw (lk l) g c n:=by
 intro f
 induction f with
 | zero=>intro g c _ h;omega
 | succ f j=>
  intro g c k p o
  obtain ⟨g,rfl⟩: ∃m,g=m+1:=⟨g-1,by omega⟩
  simp only[Sw]
  refine Di fun u i=>?_
  cases a:lk l u with
  | none=>rfl
  | some d=>
   simp only
   cases B6 d n with
   | some m=>rfl
   | none=>
    simp only
    have:=Xt b k (by simp[U3,i]) a
    have e:=(V3 a).1
    exact j g d (by rw[e];exact a) (by rw[e];omega) (by rw[e];omega)
def V4 (l:List Cla) (c:Cla) (n:X0):Option (X0×Hm.Met):=Sw (lk l) (l.length+1) c n
theorem Q43 {l:List Cla} (b:Zy l) {c:Cla} (g:lk l c.name=some c) (n:X0):V4 l c n=c.like.findSome? fun u=>match lk l u with
 | none=>none
 | some d=>match B6 d n with
  | some m=>some (u,m)
  | none=>V4 l d n:=by
 have:=Q1q l c.name
 unfold V4
 rw[Sw]
 refine Di fun u f=>?_
 cases a:lk l u with
 | none=>rfl
 | some d=>
  simp only
  cases B6 d n with
  | some m=>rfl
  | none=>
   have:=Xt b g (by simp[U3,f]) a
   have e:=(V3 a).1
   exact Q6A b n _ _ d (by rw[e];exact a) (by rw[e];omega) (by rw[e];omega)
def T1 (l:List Cla):Prop:=(l.map (·.name)).Nodup
theorem T1.lk {l:List Cla} (h:T1 l) {c:Cla} (k:c∈l):Go.Hm.lk l c.name=some c:=by
 obtain ⟨d,f⟩:=Q9J k
 obtain ⟨e,p,i,o,a⟩:=V3 f
 obtain ⟨j,m,rfl⟩:=List.getElem_of_mem k
 obtain ⟨b,g⟩:=List.getElem?_eq_some_iff.1 a
 have:i=j:=by
  have n:(l.map (·.name))[i]'(by simpa using b)=(l.map (·.name))[j]'(by simpa using m):=by simp[g,e]
  exact (List.getElem_inj h).1 n
 subst this
 rw[f,←g]
theorem T1.find {l:List Cla} (h:T1 l) {i:Nat} {c:Cla} (m:l[i]? =some c):Z1 l c.name=some i:=by
 obtain ⟨b,rfl⟩:=List.getElem?_eq_some_iff.1 m
 have:=h.lk (List.getElem_mem b)
 obtain ⟨e,n,j,d,k⟩:=V3 this
 obtain ⟨a,g⟩:=List.getElem?_eq_some_iff.1 k
 have:j=i:=by
  have f:(l.map (·.name))[j]'(by simpa using a)=(l.map (·.name))[i]'(by simpa using b):=by simp[g]
  exact (List.getElem_inj h).1 f
 rw[d,this]
end Go.Hm

namespace Go.Emb
open Go.RowKit Go.Hm
variable {P : Program} {w w0 w1 w' w'' : World} {K : Value → World → Prop} {σ σ0 σ1 σ2 σ' : Q5}
theorem Stp.join (c:Stp w σ w' σ1) (f:Stp w σ w' σ2): ∃d,Stp w σ w' d∧SLe σ1 d∧SLe σ2 d:=by
 have h: ∀b o,σ1 b=some o→(fun b=>(σ1 b).or (σ2 b)) b=some o:=fun b o e=>by simp[e]
 have i: ∀b o,σ2 b=some o→(fun b=>(σ1 b).or (σ2 b)) b=some o:=by
  intro b o e
  cases a:σ1 b with
  | none=>simp[a,e]
  | some p=>
   have j:=c.sat b p a
   have g:=f.sat b o e
   rw[j] at g;cases g;simp only[a,Option.some_or]
 refine ⟨fun b=>(σ1 b).or (σ2 b),⟨c.bel,?_,fun b o e=>h b o (c.le b o e),?_⟩,⟨h⟩,⟨i⟩⟩
 ·intro b o e
  cases a:σ1 b with
  | none=>simp only[a,Option.none_or] at e;exact f.sat b o e
  | some p=>simp only[a,Option.some_or] at e;cases e;exact c.sat b _ a
 ·intro b a
  simp only[c.old b a,f.old b a];cases σ b<;>rfl
theorem Wb {Φ:Q5→Value→Prop} {A a:(Value→World→Prop)→Prop} (h:A (fun v w'=> ∃σ',Stp w σ w' σ'∧Φ σ' v)) (e:a (fun v w'=> ∃σ',Stp w σ w' σ'∧Φ σ' v)):Q6 (fun w w'=>Below w.heap.size w w') A a:=
 E7 _ (fun _ _ _ ⟨σ',b,c⟩ d=>⟨σ',b.trans (Stp.of_below b.sat d),c⟩) h e
theorem Rm {Φ:Q5→Value→Prop} {v:Value} (a:Hst w σ w1 σ) (h:Stp w1 σ w' σ') (b:Φ σ' v):dk (fun w w'=>Below w.heap.size w w') (fun v w'=> ∃σ',Stp w σ w' σ'∧Φ σ' v) w1 v w':=
 ⟨h.bel,σ',a.stp.trans h,b⟩
theorem E5.mk {m:Hm.Met} {pv b a:Value} (d:Sl 1 U9 σ pv m.params) (f:Sl 3 Qk σ b m.code) (g:Sl 4 Ui σ a m.catches) (e:m.name.length≤U0) (h:m.result.length≤U0) (c:Yc m.locals):E5 σ m [S m.name,pv,S m.result, .bool m.abs,I m.locals,b,a]:=
 ⟨pv,b,a,rfl,d,f,g,e,h,c⟩
theorem V0.mk {c:Cla} {b a mv:Value} (d:Sl 1 U9 σ b c.like) (f:Sl 3 R3 σ a c.fields) (g:Sl 7 E5 σ mv c.methods) (e:c.name.length≤U0) (h:c.super.length≤U0):V0 σ c [S c.name,S c.super,b, .bool c.iface, .bool c.abs, .bool c.fin,a,mv]:=
 ⟨b,a,mv,rfl,d,f,g,e,h⟩
end Go.Emb
namespace Go.Hm
def SmM (m:Hm.Met):Prop:=m.params.length≤1000000∧m.code.length≤1000000∧m.catches.length≤1000000
def Qj (c:Cla):Prop:=c.like.length≤1000000∧c.fields.length≤1000000∧c.methods.length≤1000000∧ ∀m∈c.methods,SmM m
end Go.Hm
namespace Go.Proofs.YtjdiakhipmggjaaGreatDoor
open Go.Emb Go.RowKit Go.Kd Go.Hm
variable {w : World} {K : Value → World → Prop} {σ : Q5}
theorem Q4m {m:Hm.Met} {cs:List Value} (hs:X2 w σ) (hm:E5 σ m cs) (E:SmM m)
 (h: ∀pv o f w' σ',Stp w σ w' σ'→E5 σ' m [S m.name,pv,S m.result, .bool m.abs,I m.locals,o,f]→K (.agg [S m.name,pv,S m.result, .bool m.abs,I m.locals,o,f].toArray) w'):Q1 P F.c6 [.agg cs.toArray] w K:=Q4v (by
 obtain ⟨pv,o,f,rfl,H,z,M,g4,g5,g6⟩:=hm
 obtain ⟨s1,s2,s3⟩:=E
 unfold Pz
 refine En hs fun b w1 σ1 d j a=>?_
 refine M8 j.sat fun X Y σ2 B g c=>?_
 have ac:=a.lt
 replace a:=a.step g
 have D:=g.sat
 have H:=(H.up j).up g
 have z:=(z.up j).up g
 have M:=(M.up j).up g
 have L: ∀{w':World} (i:Nat) (v:Value),[S m.name,pv,S m.result, .bool m.abs,I m.locals,o,f][i]? =some v→Hst Y σ2 w' σ2→w'.cell? ((⟨b,0,none⟩:Addr).add i)=some v:=fun i v f hh=>(a.step hh.stp).cell f
 refine U2 D ?_
 refine X4 (.pointer (some ((⟨b,0,none⟩:Addr).add 1))) (fun w d=>by rw[fa];exact X6 rfl) ?_
 refine X4 (.pointer (some ((⟨b,0,none⟩:Addr).add 5))) (fun w d=>by rw[fa];exact X6 rfl) ?_
 refine X4 (.pointer (some ((⟨b,0,none⟩:Addr).add 6))) (fun w d=>by rw[fa];exact X6 rfl) ?_
 refine X4 pv (fun t w d e=>by rw[e];exact A6 (L 1 pv rfl d) (X6 rfl)) ?_
 refine Wb (Φ:=fun σ' v=>Sl 1 U9 σ' v m.params) (fun t w d e=>by rw[e];exact Lk d.sat H s1 fun U w' σ' q f=>Rm d q f) ?_
 refine X4 o (fun t w d e=>by rw[e];exact A6 (L 5 o rfl d) (X6 rfl)) ?_
 refine Wb (Φ:=fun σ' v=>Sl 3 Qk σ' v m.code) (fun t w d e=>by rw[e];exact Et d.sat z s2 fun U w' σ' q f=>Rm d q f) ?_
 refine X4 f (fun t w d e=>by rw[e];exact A6 (L 6 f rfl d) (X6 rfl)) ?_
 refine X4 (.pointer (some ((⟨b,0,none⟩:Addr).add 1))) (fun w d=>by rw[fa];exact X6 rfl) ?_
 refine Wb (Φ:=fun σ' v=>Sl 4 Ui σ' v m.catches) (fun t w d e=>by rw[e];exact Er d.sat M s3 fun U w' σ' q f=>Rm d q f) ?_
 rintro t1 t2 t3 t4 t5 t6 t8 t9 ai J w3 ao e1 e2 e3 e4 ⟨σ5,k5,s⟩ e6 ⟨σ8,k8,r⟩ e9 u ⟨ad,y,k⟩
 subst u
 obtain ⟨σa,ka,N,C⟩:=k5.join k8
 obtain ⟨σ3,A,R,Z⟩:=ka.join y
 have s:=(s.lift N).lift R
 have r:=(r.lift C).lift R
 have k:=k.lift Z
 have a:=a.step A
 have c:=c.step A
 have n:X≠b:=by omega
 have l:=(j.trans g).trans A
 refine Ug a (by simp) (Wk s) (T3 s) fun w4 W a=>?_
 rw[fa]
 have l:=W.stp l d a.1
 have c:=c.upd W n
 refine Ug a (by simp) (Wk r) (T3 r) fun w5 O a=>?_
 rw[fa]
 have l:=O.stp l d a.1
 have c:=c.upd O n
 refine Ug a (by simp) (Wk k) (T3 k) fun w6 Q a=>?_
 have l:=Q.stp l d a.1
 have c:=c.upd Q n
 refine Si a rfl ?_
 have V:=E5.mk s r k g4 g5 g6
 have p:=M7 B j
 refine Nk c rfl rfl (by rw[List.all_toArray];exact List.all_eq_true.2 (Rep.one V)) fun w7 u7 c=>?_
 have l:=u7.stp l p c.1
 refine V1 c rfl ?_
 exact h t5 t8 J w7 σ3 l V)
theorem X0C {c:Cla} {cs:List Value} (hs:X2 w σ) (hc:V0 σ c cs) (ar:Qj c)
 (h: ∀X V mv w' σ',Stp w σ w' σ'→V0 σ' c [S c.name,S c.super,X, .bool c.iface, .bool c.abs, .bool c.fin,V,mv]→K (.agg [S c.name,S c.super,X, .bool c.iface, .bool c.abs, .bool c.fin,V,mv].toArray) w'):Q1 P F.cx [.agg cs.toArray] w K:=Q4F (by
 obtain ⟨X,V,mv,rfl,g1,g2,U,g4,g5⟩:=hc
 obtain ⟨s1,s2,s3,s4⟩:=ar
 unfold Ta
 refine En hs fun b w1 σ1 l o f=>?_
 refine M8 o.sat fun R w2 σ2 an m g=>?_
 have bd:=f.lt
 replace f:=f.step m
 have aq:=m.sat
 have g1:=(g1.up o).up m
 have g2:=(g2.up o).up m
 have U:=(U.up o).up m
 have L: ∀{w':World} (i:Nat) (v:Value),[S c.name,S c.super,X, .bool c.iface, .bool c.abs, .bool c.fin,V,mv][i]? =some v→Hst w2 σ2 w' σ2→w'.cell? ((⟨b,0,none⟩:Addr).add i)=some v:=fun i v W hh=>(f.step hh.stp).cell W
 refine U2 aq ?_
 refine X4 (.pointer (some ((⟨b,0,none⟩:Addr).add 2))) (fun w l=>by rw[fa];exact X6 rfl) ?_
 refine X4 (.pointer (some ((⟨b,0,none⟩:Addr).add 6))) (fun w l=>by rw[fa];exact X6 rfl) ?_
 refine X4 X (fun t w l e=>by rw[e];exact A6 (L 2 X rfl l) (X6 rfl)) ?_
 refine Wb (Φ:=fun σ' v=>Sl 1 U9 σ' v c.like) (fun t w l e=>by rw[e];exact Lk l.sat g1 s1 fun v' w' σ' E W=>Rm l E W) ?_
 refine X4 V (fun t w l e=>by rw[e];exact A6 (L 6 V rfl l) (X6 rfl)) ?_
 refine X4 (.pointer (some ((⟨b,0,none⟩:Addr).add 2))) (fun w l=>by rw[fa];exact X6 rfl) ?_
 refine Wb (Φ:=fun σ' v=>Sl 3 R3 σ' v c.fields) (fun t w l e=>by rw[e];exact Eo l.sat g2 s2 fun v' w' σ' E W=>Rm l E W) ?_
 rintro t6 t9 t7 t8 bj bp ac w3 br e6 e9 e7 ⟨σ8,k8,f8⟩ a7 ai ⟨be,aj,A⟩
 subst ai
 obtain ⟨σ3,k3,l1,l2⟩:=k8.join aj
 have f8:=f8.lift l1
 have A:=A.lift l2
 have U:=U.up k3
 have f:=f.step k3
 have g:=g.step k3
 have Q:R≠b:=by omega
 have Z:=(o.trans m).trans k3
 refine Ug f (by simp) (Wk f8) (T3 f8) fun w4 u4 f=>?_
 rw[fa]
 have Z:=u4.stp Z l f.1
 have g:=g.upd u4 Q
 refine Ug f (by simp) (Wk A) (T3 A) fun w5 u5 f=>?_
 rw[fa]
 have Z:=u5.stp Z l f.1
 have g:=g.upd u5 Q
 refine Xx f rfl ?_
 refine Q8 U ?_
 refine E3 c.methods.length (fun n a w'=> ∃σ',Stp w σ w' σ'∧SLe σ3 σ'∧V5 w.heap.size T.d 7 E5 σ' w' a (c.methods.take n)∧Y1 σ' w' b [S c.name,S c.super,t8, .bool c.iface, .bool c.abs, .bool c.fin,ac,mv]∧Y1 σ' w' R [S [],S [], .slice none 0 0, .bool false, .bool false, .bool false, .slice none 0 0, .slice none 0 0]∧ ∀k,a.ownBlock=some k→k≠b∧k≠R)
  ⟨σ3,Z,SLe.refl _,V5.nil,f,g,fun k E=>by cases E⟩ fun n a w6 d hn hi=>?_
 obtain ⟨σ6,C,B,ha,f,g,j⟩:=hi
 refine Z2 ?_
 refine Q7 (fun hh=>?_) (fun hh=>?_)
 ·have u:n<c.methods.length:=by simpa using hh
  have ad:c.methods.length≤9223372036854775807:=by omega
  refine M9 (U.lift B) u fun p cs hl y hr=>?_
  refine Y4 C.sat hl y ?_
  refine Y9 C.sat (by rfl) y (Rep.one hr) fun q w7 σ7 r hq=>?_
  refine Y4 r.sat hq y ?_
  refine Q4m r.sat (Rep.up r.le hr) (s4 _ (List.getElem_mem u)) fun pv cv W w8 σ8 O ap=>?_
  have J:=(Nxt.of_stp (D:=fun k=>a.ownBlock=some k) r).trans (Nxt.of_stp O)
  have am:=(ha.up r).up O
  have a2:=(f.nx J fun e=>(j _ e).1 rfl).lt
  have a4:=(g.nx J fun e=>(j _ e).2 rfl).lt
  refine Jm ((C.trans r).trans O) am ap rfl rfl rfl (by rw[List.length_take];omega) (by rw[List.length_take];omega) fun s v' w9 σ9 z ak aw hat=>?_
  refine L8 ?_
  have z:=J.trans z
  refine Z9 ad u ⟨σ9,ak,B.more z.le,?_,f.nx z fun e=>(j _ e).1 rfl,g.nx z fun e=>(j _ e).2 rfl,?_⟩
  ·rw[List.take_add_one,List.getElem?_eq_getElem u];exact aw
  ·intro k E
   rcases hat with hat | hat
   ·exact j k (hat▸E)
   ·have:=hat k E
    constructor<;>omega
 ·have u: ¬n<c.methods.length:=by simpa using hh
  rw[List.take_of_length_le (by omega)] at ha
  obtain ⟨σ7,N,M,ae,H⟩:=ha.keep C
  have f:Y1 σ7 w6 b _:=⟨(H b fun e=>(j b e.symm).1 rfl).trans f.1,f.2⟩
  have g:Y1 σ7 w6 R _:=⟨(H R fun e=>(j R e.symm).2 rfl).trans g.1,g.2⟩
  rw[fa]
  refine Ug f (by simp) (Wk M) (T3 M) fun w7 u7 f=>?_
  have N:=u7.stp N l f.1
  have g:=g.upd u7 Q
  refine Si f rfl ?_
  have hr:=V0.mk (f8.lift (B.more ⟨ae⟩)) (A.lift (B.more ⟨ae⟩)) M g4 g5
  have Y:=M7 an o
  refine Nk g rfl rfl (by rw[List.all_toArray];exact List.all_eq_true.2 (Rep.one hr)) fun w8 u8 g=>?_
  have ao:=u8.stp N Y g.1
  refine V1 g rfl ?_
  exact h t8 ac a w8 σ7 ao hr)
end Go.Proofs.YtjdiakhipmggjaaGreatDoor

namespace Go.Hm
open Go.Kd
def C0 {α:Type}:Nat→List α→List α
 | 0,xs=>xs
 | i+1,xs=>match (C0 i xs)[i]?,(C0 i xs)[xs.length-1-i]? with
  | some a,some b=>((C0 i xs).set i b).set (xs.length-1-i) a
  | _,_=>C0 i xs
theorem Q0r {α:Type} (xs:List α): ∀i,2*i≤xs.length→(C0 i xs).length=xs.length∧ ∀k,k<xs.length→(C0 i xs)[k]? =if k<i∨xs.length-1-k<i then xs[xs.length-1-k]? else xs[k]?
 | 0,_=>⟨rfl,fun k g=>by simp[C0]⟩
 | i+1,h=>by
  obtain ⟨j,a⟩:=Q0r xs i (by omega)
  have c:=a i (by omega)
  have d:=a (xs.length-1-i) (by omega)
  rw[if_neg (by omega)] at c d
  have n:i<xs.length:=by omega
  have e:xs.length-1-i<xs.length:=by omega
  rw[List.getElem?_eq_getElem (l:=xs) n] at c
  rw[List.getElem?_eq_getElem (l:=xs) e] at d
  simp only[C0,c,d]
  refine ⟨by simp[j],fun k g=>?_⟩
  by_cases b:k=xs.length-1-i
  ·subst b
   rw[List.getElem?_set_self (by simp[j];omega),if_pos (by omega)]
   rw[show xs.length-1-(xs.length-1-i)=i by omega,List.getElem?_eq_getElem (by omega)]
  ·rw[List.getElem?_set_ne (by omega)]
   by_cases f:k=i
   ·subst f
    rw[List.getElem?_set_self (by omega),if_pos (by omega),List.getElem?_eq_getElem (by omega)]
   ·rw[List.getElem?_set_ne (by omega),a k g]
    by_cases m:k<i∨xs.length-1-k<i
    ·rw[if_pos m,if_pos (by omega)]
    ·rw[if_neg m,if_neg (by omega)]
theorem Q95 {α:Type} (xs:List α) (i:Nat) (d:2*i≤xs.length) (e:xs.length≤2*i+1):C0 i xs=xs.reverse:=by
 obtain ⟨f,c⟩:=Q0r xs i d
 apply List.ext_getElem?
 intro k
 by_cases a:k<xs.length
 ·rw[c k a,List.getElem?_reverse a]
  by_cases b:k<i∨xs.length-1-k<i
  ·rw[if_pos b]
  ·rw[if_neg b];congr 1;omega
 ·rw[List.getElem?_eq_none (by omega),List.getElem?_eq_none (by simp;omega)]
theorem Ih (L:Wg): ∀(f:Nat) (n:X0),(G6 L f n).length≤f
 | 0,_=>by simp[G6]
 | f+1,n=>by
  simp only[G6]
  split
  ·simp
  ·have:=Ih L f (by rename_i c _;exact c.super)
   simp only[List.length_cons];rename_i c _;have:=Ih L f c.super;omega
theorem Cs (l:List Cla) (n:X0):(chain l n).length≤l.length+1:=Ih _ _ _
theorem Ct {l:List Cla} {n:X0} {c:Cla} (h:c∈chain l n):c∈l:=by
 have key: ∀(f:Nat) (n:X0),c∈G6 (lk l) f n→c∈l:=by
  intro f
  induction f with
  | zero=>intro n h;simp[G6] at h
  | succ f a=>
   intro n h
   simp only[G6] at h
   split at h
   ·simp at h
   ·rename_i d b
    rcases List.mem_cons.1 h with rfl | h
    ·exact (V3 b).2.1
    ·exact a _ h
 exact key _ _ h
theorem Vu {α β:Type} (f:α→List β) (k:Nat): ∀(xs:List α),(∀x∈xs,(f x).length≤k)→(xs.flatMap f).length≤xs.length*k
 | [],_=>by simp
 | x::r,h=>by
  have b:=h x (by simp)
  have c:=Vu f k r fun y a=>h y (by simp[a])
  simp only[List.flatMap_cons,List.length_append,List.length_cons,Nat.add_mul];omega
end Go.Hm

namespace Go.Hm
open Go.Kd
def Y2 (l:List Cla) (i:Nat):X0:=(l.getD i Cla.zero).name
theorem Xz {l:List Cla} (b:T1 l) {i:Nat} (a:i<l.length):lk l (Y2 l i)=some (l.getD i Cla.zero):=by
 have e:l.getD i Cla.zero=l[i]:=by rw[List.getD_eq_getElem?_getD,List.getElem?_eq_getElem a];rfl
 unfold Y2
 rw[e];exact b.lk (List.getElem_mem a)
theorem R7 {l:List Cla} {u:X0} {j:Nat} (h:Z1 l u=some j):j<l.length∧Y2 l j=u:=by
 obtain ⟨a,b,_⟩:=List.findIdx?_eq_some_iff_getElem.1 h
 refine ⟨a,?_⟩
 unfold Y2
 rw[List.getD_eq_getElem?_getD,List.getElem?_eq_getElem a]
 simpa using b
theorem Q1m {l:List Cla} (d:Zy l) (f:T1 l) {i j:Nat} (b:i<l.length) {u:X0} (e:u∈U3 (l.getD i Cla.zero)) (a:Z1 l u=some j):K3 l (Y2 l j)<K3 l (Y2 l i):=by
 obtain ⟨c,g,_⟩:=Zd a
 rw[(R7 a).2]
 exact Xt d (Xz f b) e g
theorem Bu {α β:Type} {f g:β→α→β}: ∀(xs:List α) (b:β),(∀b x,x∈xs→f b x=g b x)→xs.foldl f b=xs.foldl g b
 | [],_,_=>rfl
 | x::r,b,h=>by
  rw[List.foldl_cons,List.foldl_cons,h b x (by simp)]
  exact Bu r _ fun b y a=>h b y (by simp[a])
theorem Ym {l:List Cla} {frm:Nat} (f:Nat) (a:List Nat) {i:Nat} (h:i<frm):T8 l frm f a i=a:=by
 cases f<;>simp[T8,h]
theorem Q8O {l:List Cla} (e:Zy l) (p:T1 l) {frm:Nat} (c:0<frm): ∀(f g:Nat) (a:List Nat) (i:Nat),i<l.length→K3 l (Y2 l i)<f→K3 l (Y2 l i)<g→T8 l frm f a i=T8 l frm g a i:=by
 intro f
 induction f with
 | zero=>intro g a i _ h;omega
 | succ f o=>
  intro g a i n r q
  obtain ⟨g,rfl⟩: ∃m,g=m+1:=⟨g-1,by omega⟩
  simp only[T8]
  split
  ·rfl
  ·split
   ·rfl
   ·congr 1
    refine Bu _ _ fun b u k=>?_
    cases d:Z1 l u with
    | none=>simp only[Option.getD_none];rw[Ym f b c,Ym g b c]
    | some j=>
     simp only[Option.getD_some]
     have:=Q1m e p n k d
     exact o g b j (R7 d).1 (by omega) (by omega)
def Xh (l:List Cla) (frm:Nat) (a:List Nat) (i:Nat):List Nat:=T8 l frm (l.length+1) a i
theorem Q7b {l:List Cla} (d:Zy l) (f:T1 l) {frm:Nat} (c:0<frm) (a:List Nat) {i:Nat} (g:i<l.length):Xh l frm a i=if i<frm then a else if i∈a then a else
 ((U3 (l.getD i Cla.zero)).foldl (fun a n=>Xh l frm a ((Z1 l n).getD 0)) a)++[i]:=by
 have k:=Q1q l (Y2 l i)
 unfold Xh
 rw[T8]
 split
 ·rfl
 ·split
  ·rfl
  ·congr 1
   refine Bu _ _ fun b u h=>?_
   cases e:Z1 l u with
   | none=>simp only[Option.getD_none];rw[Ym _ b c,Ym _ b c]
   | some j=>
    simp only[Option.getD_some]
    have:=Q1m d f g h e
    exact Q8O d f c _ _ b j (R7 e).1 (by omega) (by omega)
theorem Wr {α:Type} {p:Nat→Prop} {f:List Nat→α→List Nat}: ∀(xs:List α) (b:List Nat),(∀b x,x∈xs→ ∀y∈f b x,y∈b∨p y)→ ∀y∈xs.foldl f b,y∈b∨p y
 | [],b,_=>fun y a=> .inl a
 | x::r,b,h=>fun y a=>by
  rw[List.foldl_cons] at a
  rcases Wr r _ (fun b z c=>h b z (by simp[c])) y a with h1 | h1
  ·exact h b x (by simp) y h1
  ·exact .inr h1
theorem Q56 {l:List Cla} (o:T1 l) {frm:Nat} (q:0<frm): ∀(f:Nat) (a:List Nat) (i:Nat),i<l.length→ ∀y∈T8 l frm f a i,y∈a∨(y<l.length∧(y=i∨Wh (lk l) (Y2 l i) (Y2 l y))):=by
 intro f
 induction f with
 | zero=>intro a i _ y hy;exact .inl hy
 | succ f r=>
  intro a i k y hy
  simp only[T8] at hy
  split at hy
  ·exact .inl hy
  ·split at hy
   ·exact .inl hy
   ·rcases List.mem_append.1 hy with hy | hy
    ·refine Wr (p:=fun y=>y<l.length∧(y=i∨Wh (lk l) (Y2 l i) (Y2 l y))) _ _ (fun b u m y hy=>?_) y hy
     cases e:Z1 l u with
     | none=>
      rw[e] at hy
      simp only[Option.getD_none] at hy
      rw[Ym f b q] at hy
      exact .inl hy
     | some j=>
      rw[e] at hy
      simp only[Option.getD_some] at hy
      obtain ⟨g,d⟩:=R7 e
      obtain ⟨c,s,_⟩:=Zd e
      rcases r b j g y hy with h | ⟨n,rfl | h2⟩
      ·exact .inl h
      ·exact .inr ⟨n, .inr ⟨_,Xz o k,u,m,by rw[d];exact .refl s⟩⟩
      ·exact .inr ⟨n, .inr ⟨_,Xz o k,u,m,by rw[←d];exact h2.reach⟩⟩
    ·simp at hy;subst hy;exact .inr ⟨k, .inl rfl⟩
theorem Q2O {α:Type} {q:List Nat→Prop} {f:List Nat→α→List Nat}: ∀(xs:List α) (b:List Nat),(∀b x,x∈xs→q b→q (f b x))→q b→q (xs.foldl f b)
 | [],b,_,h=>h
 | x::r,b,a,h=>by
  rw[List.foldl_cons]
  exact Q2O r _ (fun b z c=>a b z (by simp[c])) (a b x (by simp) h)
def Few (l:List Cla) (a:List Nat):Prop:=a.Nodup∧ ∀y∈a,y<l.length
theorem Few.len {l:List Cla} {b:List Nat} (h:Few l b):b.length≤l.length:=by
 have key: ∀(n:Nat) (b:List Nat),b.Nodup→(∀y∈b,y<n)→b.length≤n:=by
  intro n
  induction n with
  | zero=>
   intro b _ h
   cases b with
   | nil=>simp
   | cons a r=>have:=h a (by simp);omega
  | succ n k=>
   intro b f h
   have m:=k (b.filter (fun y=> !decide (y=n))) (f.sublist List.filter_sublist) (fun y c=>by
    have:=List.mem_filter.1 c
    have i:=h y this.1
    have o:y≠n:=by simpa using this.2
    omega)
   have i:b.length≤(b.filter (fun y=> !decide (y=n))).length+1:=by
    clear m h
    induction b with
    | nil=>simp
    | cons a r d=>
     obtain ⟨g,j⟩:=List.nodup_cons.1 f
     by_cases e:a=n
     ·subst e
      have:r.filter (fun y=> !decide (y=a))=r:=List.filter_eq_self.2 fun y c=>by simp;rintro rfl;exact g c
      simp[this]
     ·have:=d j
      simp[e];exact this
   omega
 exact key _ _ h.1 h.2
theorem Gy {l:List Cla} (o:Zy l) (w:T1 l) {frm:Nat} (t:0<frm): ∀(f:Nat) (d:List Nat) (i:Nat),i<l.length→Few l d→Few l (T8 l frm f d i):=by
 intro f
 induction f with
 | zero=>intro d i _ h;exact h
 | succ f B=>
  intro d i z h
  simp only[T8]
  split
  ·exact h
  ·split
   ·exact h
   ·rename_i v
    have A:Few l ((U3 (l.getD i Cla.zero)).foldl (fun d n=>T8 l frm f d ((Z1 l n).getD 0)) d):=by
     refine Q2O _ _ (fun b u q m=>?_) h
     cases e:Z1 l u with
     | none=>simp only[Option.getD_none];rw[Ym f b t];exact m
     | some j=>exact B b j (R7 e).1 m
    have s:i∉(U3 (l.getD i Cla.zero)).foldl (fun d n=>T8 l frm f d ((Z1 l n).getD 0)) d:=by
     intro g
     rcases Wr (p:=fun y=>Wh (lk l) (Y2 l i) (Y2 l y)) _ _ (fun b u q y hy=>by
      cases e:Z1 l u with
      | none=>
       rw[e] at hy
       simp only[Option.getD_none] at hy
       rw[Ym f b t] at hy
       exact .inl hy
      | some j=>
       rw[e] at hy
       simp only[Option.getD_some] at hy
       obtain ⟨r,k⟩:=R7 e
       obtain ⟨c,C,_⟩:=Zd e
       rcases Q56 w t f b j r y hy with h | ⟨h1,rfl | h2⟩
       ·exact .inl h
       ·exact .inr ⟨_,Xz w z,u,q,by rw[k];exact .refl C⟩
       ·exact .inr ⟨_,Xz w z,u,q,by rw[←k];exact h2.reach⟩) i g with h1 | h1
     ·exact v h1
     ·exact o _ h1
    refine ⟨?_,fun y hy=>?_⟩
    ·rw[List.nodup_append]
     exact ⟨A.1,by simp,by rintro a o b m rfl;simp at m;subst m;exact s o⟩
    ·rcases List.mem_append.1 hy with hy | hy
     ·exact A.2 y hy
     ·simp at hy;omega
end Go.Hm

namespace Go.Emb
open Go.RowKit Go.Hm
variable {P : Program} {w w0 w1 w' w'' : World} {K : Value → World → Prop} {σ σ0 σ1 σ' : Q5}
def Vp (sz:Nat) (v:Value) (i:Nat):Addr:=match v with
 | .slice (some b) _ _=>b.add (i*sz)
 | _=>⟨0,0,none⟩
section
variable {α : Type} {R : Q5 → α → List Value → Prop} {sz : Nat} {v : Value} {xs : List α}
theorem Sl.el (h:Sl sz R σ v xs) {i:Nat} (c:i<xs.length): ∃cs,Z4 σ (Vp sz v i) cs∧cs.length=sz∧R σ xs[i] cs:=by
 obtain ⟨a,f,rfl,l,m,d,g⟩:=h
 cases a with
 | none=>have:=d rfl;omega
 | some b=>
  obtain ⟨cs,e,j,k⟩:=(g b rfl).2 i xs[i] (by simp[c])
  exact ⟨cs,e,j,k⟩
theorem Y3 {t e:TypeId} {c:Nat} {z:Value} [TS P t e] [TZ P e sz c z] (h:Sl sz R σ v xs) {i:Nat} (j:i<xs.length) (d:K (.pointer (some (Vp sz v i))) w):indexAddr P t v (I i) w K:=by
 obtain ⟨a,g,rfl,k,l,f,m⟩:=h
 cases a with
 | none=>have:=f rfl;omega
 | some b=>
  rw[Ro (by omega) (by omega)]
  simpa [Vp] using d
theorem Sl.elS {xs:List Kd.X0} (h:Sl 1 U9 σ v xs) {i:Nat} (a:i<xs.length):Z4 σ (Vp 1 v i) [S xs[i]]∧xs[i].length≤U0:=by
 obtain ⟨cs,b,d,rfl,c⟩:=h.el a;exact ⟨b,c⟩
theorem Sl.elF {xs:List Fld} (h:Sl 3 R3 σ v xs) {i:Nat} (a:i<xs.length):Z4 σ (Vp 3 v i) [S xs[i].name,S xs[i].kind, .bool xs[i].tr]∧R3 σ xs[i] [S xs[i].name,S xs[i].kind, .bool xs[i].tr]:=by
 obtain ⟨cs,b,d,rfl,c⟩:=h.el a;exact ⟨b,rfl,c⟩
theorem Sl.elI {xs:List Ins} (h:Sl 3 Qk σ v xs) {i:Nat} (a:i<xs.length):Z4 σ (Vp 3 v i) [S xs[i].op,I xs[i].n,S xs[i].s]∧Qk σ xs[i] [S xs[i].op,I xs[i].n,S xs[i].s]:=by
 obtain ⟨cs,b,d,rfl,c⟩:=h.el a;exact ⟨b,rfl,c⟩
theorem Sl.elK {xs:List Cat} (h:Sl 4 Ui σ v xs) {i:Nat} (a:i<xs.length):Z4 σ (Vp 4 v i) [I xs[i].frm,I xs[i].to,I xs[i].at_,S xs[i].cls]∧Ui σ xs[i] [I xs[i].frm,I xs[i].to,I xs[i].at_,S xs[i].cls]:=by
 obtain ⟨cs,b,d,rfl,c⟩:=h.el a;exact ⟨b,rfl,c⟩
theorem Sl.conv {α β:Type} {R:Q5→α→List Value→Prop} {R':Q5→β→List Value→Prop} {sz:Nat} {v:Value} {xs:List α} {ys:List β} (h:Sl sz R σ v xs) (j:ys.length=xs.length) (r: ∀i (e:i<xs.length) (t:i<ys.length) cs,R σ xs[i] cs→R' σ ys[i] cs):Sl sz R' σ v ys:=by
 obtain ⟨a,d,rfl,l,k,m,f⟩:=h
 refine ⟨a,d,by rw[j],by rw[j];exact l,k,m,fun b g=>⟨fun s=>(f b g).1 (by omega),fun i x q=>?_⟩⟩
 obtain ⟨e,rfl⟩:=List.getElem?_eq_some_iff.1 q
 have c:i<xs.length:=by omega
 obtain ⟨cs,n,o,p⟩:=(f b g).2 i xs[i] (List.getElem?_eq_getElem c)
 exact ⟨cs,n,o,r i c e cs p⟩
theorem Sl.elM {xs:List Hm.Met} (h:Sl 7 E5 σ v xs) {i:Nat} (c:i<xs.length): ∃pv a b,Z4 σ (Vp 7 v i) [S xs[i].name,pv,S xs[i].result, .bool xs[i].abs,I xs[i].locals,a,b]∧E5 σ xs[i] [S xs[i].name,pv,S xs[i].result, .bool xs[i].abs,I xs[i].locals,a,b]:=by
 obtain ⟨cs,d,f,pv,a,b,rfl,e⟩:=h.el c;exact ⟨pv,a,b,d,pv,a,b,rfl,e⟩
theorem Sl.elC {xs:List Cla} (h:Sl 8 V0 σ v xs) {i:Nat} (c:i<xs.length): ∃b a mv,Z4 σ (Vp 8 v i) [S xs[i].name,S xs[i].super,b, .bool xs[i].iface, .bool xs[i].abs, .bool xs[i].fin,a,mv]∧V0 σ xs[i] [S xs[i].name,S xs[i].super,b, .bool xs[i].iface, .bool xs[i].abs, .bool xs[i].fin,a,mv]:=by
 obtain ⟨cs,d,f,b,a,mv,rfl,e⟩:=h.el c;exact ⟨b,a,mv,d,b,a,mv,rfl,e⟩
end
theorem J6 {b:World→World→Prop} {A a:(Value→World→Prop)→Prop} {V:Value} (h:A (fun v _=>V=v)) (c:a (fun v _=>V=v)):Q6 b A a:=E7 _ (fun _ _ _ h _=>h) h c
theorem E1 {v V:Value} (h:V=v):dk (fun w w'=>Below w.heap.size w w') (fun v _=>V=v) w v w:=⟨Below.refl _ _,h⟩
theorem B2 {v V:Value} (a:Below w.heap.size w w') (h:V=v):dk (fun w w'=>Below w.heap.size w w') (fun v _=>V=v) w v w':=⟨a,h⟩
theorem K1 {c b:Bool} {V:Value} {a:World→(Value→World→Prop)→Prop} (h:c=b→a w (dk (fun w w'=>Below w.heap.size w w') (fun v _=>V=v) w)):Q0 (.bool c) b w a (dk (fun w w'=>Below w.heap.size w w') (fun v _=>(if c=b then V else undef)=v) w):=by
 by_cases e:c=b
 ·simp only[e,if_true]
  subst e
  have:=h rfl
  cases c
  ·rw[W6];exact this
  ·rw[W2];exact this
 ·have d:c= !b:=by cases c<;>cases b<;>simp_all
  rw[if_neg e];subst d
  cases b
  ·rw[Bool.not_false,R6];exact ⟨Below.refl _ _,rfl⟩
  ·rw[Bool.not_true,E0];exact ⟨Below.refl _ _,rfl⟩
theorem Qt {p:Prop} (hq:p:=by intros;(repeat (rename_i hx;subst hx));(repeat' (first | (with_reducible exact E1 rfl) | (with_reducible exact B2 (Stp.bel (by (repeat (first | exact Stp.refl (by (first | assumption | exact Stp.sat (by assumption) | exact Hst.sat (by assumption))) | assumption | refine Stp.trans ?_ (by first | assumption | exact Hst.stp (by assumption)))))) rfl) | (with_reducible intro _) | (simp only[↓M2,M2,Mb,reduceIte]) | (with_reducible show Q2 _ _ _ _ _;first | refine X7 aS aL aR ?_ | refine Y4 aS aL aR ?_ | refine ld aS aL aR ?_) | (with_reducible show indexAddr _ _ _ _ _ _;refine Y3 aL au ?_) | (with_reducible show X3 _ _ _ _ _ _ _ _;refine Q8 aL ?_) | (with_reducible show G1 _ _ _ _ _ _;refine J4 aR ?_) | (with_reducible show pick _ _ _ _ _ _;refine O5 ?_) | (apply K1;intro hh;(try simp only[hh,reduceIte,↓M2,M2,Mb,reduceIte]))));done):p:=hq
end Go.Emb

namespace Go.Emb
open Go.RowKit Go.Hm
variable {P : Program} {w w0 w1 w' w'' : World} {K : Value → World → Prop} {σ σ0 σ1 σ' : Q5}
section
variable {α : Type} {R : Q5 → α → List Value → Prop} {B sz : Nat} {e : TypeId} {v u : Value} {xs ys : List α}
def Emp (v:Value):Prop:= ∃a,v= .slice a 0 0
theorem Q6R {t C:TypeId} {s:Nat} {z:Value} {cs:List Bool} [ts:TS P t e] [tz:TZ P e sz s z] [hr:Rep R] (hS:Stp w0 σ0 w σ) (ha:V5 w0.heap.size e sz R σ w v []) (hv:Emp v) (L:X2 w σ') (V:Sl sz R σ' u ys) (hR: ∀x cs,R σ' x cs→R σ x cs) (Y:(z.cells.size==sz&&decide (0<sz))=true)
 (hb:ys.length*s≤140737488355328) (hm:ys.length≤1000000000000)
 (h: ∀l w',Stp w σ w' σ→V5 w0.heap.size e sz R σ w' l ys→K l w'):X3 P .append [t,t] C cs [v,u] w K:=by
 obtain ⟨j,rfl⟩:=hv
 have H:=hS.sat
 obtain ⟨a,d,c,rfl,n1,p,n3,n4,n5⟩:=V.cells L
 obtain ⟨i,W,D,E,n⟩:=tz.info
 simp only[Bool.and_eq_true,beq_iff_eq,decide_eq_true_eq] at Y
 obtain ⟨O,am⟩:=Y
 have g:Src P i.size t (.slice a ys.length d) ys.length c w:=by
  cases a with
  | some b=>exact Src.ofSlice w ts.h b ys.length d c (by rw[D];exact p) (n3 b rfl) n4
  | none=>
   have r:ys.length=0:=by
    obtain ⟨X,Z,e',q1,_,q3,_⟩:=V;injection e' with e1 e2 e3;have:=n1 rfl;omega
   have N:c=[]:=List.eq_nil_of_length_eq_zero (by rw[p,r];simp)
   subst N
   rw[r];exact Src.ofNil w ts.h d
 have y: ∀l w',(Builtin.append_ #[t,t] C #[.slice j 0 0, .slice a ys.length d]).run P w= .ok l w'→Stp w σ w' σ→V5 w0.heap.size e sz R σ w' l ys→X3 P .append [t,t] C cs [.slice j 0 0, .slice a ys.length d] w K:=by
  intro l w' f J hq
  have m:(builtin .append #[t,t] C cs.toArray #[.slice j 0 0, .slice a ys.length d]).run P w= .ok (.value l) w':=by
   simp[builtin,f]
  unfold X3
  rw[T9];unfold P5
  rw[m]
  exact h l w' J hq
 by_cases r:ys=[]
 ·subst r
  have N:c=[]:=List.eq_nil_of_length_eq_zero (by simpa using p)
  subst N
  refine y (.slice j 0 0) w ?_ (Stp.refl H) ha
  have hl:=g.len w
  have q:=g.cells
  simp only[List.length_nil] at hl q⊢
  cases j<;>simp[Builtin.append_,run_underlying ts.h,sizeOf,typeInfo,W,hl,q,storeCells]
 ·have aj:0<ys.length:=List.length_pos_iff.2 r
  have o:(Builtin.firstCells i.size 0 (.slice j 0 0)).run P w.drew= .ok (#[]:Array Value) w.drew:=by
   cases j with
   | none=>exact run_firstCells_none w.drew i.size 0 0 0
   | some X=>exact run_firstCells_some w.drew i.size 0 X 0 0 [] (by simp) (by intro _ _ h';simp at h')
  have U:0<0+ys.length:=by omega
  have f:=run_append_grow_src (P:=P) w t t C e i z ts.h W n j 0 0 [] o (.slice a ys.length d) ys.length c g U (by omega) (growslice_fits U (by rw[E,Nat.zero_add];exact hb))
  simp only[Nat.zero_add] at f
  have Q:=grownCap_le_maxLen w ys.length 0 e (by simp only[maxLen];omega)
  have M:=grownCap_ge w ys.length 0 e
  refine y _ _ f (Stp.of_below H ((Below.refl _ _).drew.alloc (Nat.le_refl _) _)) ⟨c,⟨p, .inr ⟨w.heap.size,_,_,rfl,hS.bel.size,heap_alloc_new w.drew _,M,Q,?_,?_⟩⟩,?_,fun i x hx=>hR _ _ (n5 i x hx)⟩
  ·simp only[List.nil_append]
   rw[Array.size_append,List.size_toArray,p,size_zeroCells,O,←Nat.add_mul]
   congr 1;omega
  ·simp only[List.nil_append]
   rw[Array.toList_append]
   rw[List.take_append_of_le_length (by simp only[List.toList_toArray];omega),List.take_of_length_le (by simp only[List.toList_toArray];omega)]
  ·intro k J;cases J;exact H.none (Nat.le_refl _)
theorem X2n {t l:TypeId} {a:Nat} {z:Value} {cs:List Bool} [ts:TS P t e] [tz:TZ P e sz a z] [hr:Rep R] (c:Stp w0 σ0 w σ) (d:V5 w0.heap.size e sz R σ w v []) (k:Emp v) (f:Sl sz R σ u ys) (g:(z.cells.size==sz&&decide (0<sz))=true)
 (i:ys.length*a≤140737488355328) (j:ys.length≤1000000000000)
 (h: ∀b w',Stp w σ w' σ→V5 w0.heap.size e sz R σ w' b ys→K b w'):X3 P .append [t,t] l cs [v,u] w K:=
 Q6R c d k c.sat f (fun _ _ h=>h) g i j h
end
def X0q {α:Type} (w0:World) (σ:Q5) (e:TypeId) (sz:Nat) (R:Q5→α→List Value→Prop) (xs:List α) (v:Value) (w':World):Prop:=Stp w0 σ w' σ∧V5 w0.heap.size e sz R σ w' v xs
def Q7T {α:Type} (w0:World) (σ:Q5) (e:TypeId) (sz:Nat) (R:Q5→α→List Value→Prop) (v:Value) (w':World):Prop:=Stp w0 σ w' σ∧V5 w0.heap.size e sz R σ w' v ([]:List α)∧Emp v
section
variable {α : Type} {R : Q5 → α → List Value → Prop} {sz : Nat} {e : TypeId} {v u : Value} {xs ys : List α} {A rest : (Value → World → Prop) → Prop}
theorem Q1p [Rep R] (xs:List α) (h:A (X0q w σ e sz R xs)) (d:rest (X0q w σ e sz R xs)):Q6 (fun w w'=>Below w.heap.size w w') A rest:=
 E7 _ (fun _ _ _ ⟨a,c⟩ b=>⟨a.trans (Stp.of_below a.sat b),c.up (Stp.of_below a.sat b)⟩) h d
theorem X1R [Rep R] (h:A (Q7T w σ e sz R)) (f:rest (Q7T w σ e sz R)):Q6 (fun w w'=>Below w.heap.size w w') A rest:=
 E7 _ (fun _ _ _ ⟨a,c,d⟩ b=>⟨a.trans (Stp.of_below a.sat b),c.up (Stp.of_below a.sat b),d⟩) h f
theorem Q2A (b:Hst w σ w1 σ) (h:Stp w1 σ w' σ) (a:V5 w.heap.size e sz R σ w' v xs):dk (fun w w'=>Below w.heap.size w w') (X0q w σ e sz R xs) w1 v w':=⟨h.bel,b.stp.trans h,a⟩
theorem X2d (b:Hst w σ w1 σ) (h:Stp w1 σ w' σ) (a:V5 w.heap.size e sz R σ w' v ([]:List α)) (c:Emp v):dk (fun w w'=>Below w.heap.size w w') (Q7T w σ e sz R) w1 v w':=⟨h.bel,b.stp.trans h,a,c⟩
theorem Ed {t:TypeId} {a:Nat} {z:Value} [ts:TS P t e] [tz:TZ P e sz a z] (R:Q5→α→List Value→Prop) (c:Stp w0 σ0 w σ) (i:0<sz)
 (h: ∀v w',Stp w σ w' σ→V5 w0.heap.size e sz R σ w' v ([]:List α)→Emp v→K v w'):buildSlice P t 0 [] w K:=by
 obtain ⟨cells,f,g⟩:=Hf (P:=P) (t:=t) (sz:=sz) (e:=e) [] (by simp) (by simp) w
 unfold buildSlice
 have b:(Instr.buildSlice t 0 ([]:List (Nat×Value)).toArray).run P w=_:=f
 rw[X9 b]
 refine h _ _ (Stp.own c.sat _) ⟨[],⟨by simp, .inr ⟨_,_,cells,rfl,c.bel.size,heap_alloc_new w _,by simp,by simp[maxLen],?_,by simp⟩⟩,?_,by simp⟩ ⟨_,rfl⟩
 ·have:cells.size=0:=by rw[←Array.length_toList,g];rfl
  simp[this]
 ·intro k d;cases d;exact c.sat.none (Nat.le_refl _)
theorem Q2X [Rep R] {t:TypeId} {a:Nat} {z:Value} [ts:TS P t e] [tz:TZ P e sz a z] (b:(decide (0<sz))=true) (h:rest (Q7T w σ e sz R)):
 Q6 (fun w w'=>Below w.heap.size w w') (fun φ=> ∀w1:World,Hst w σ w1 σ→buildSlice P t 0 [] w1 (dk (fun w w'=>Below w.heap.size w w') φ w1)) rest:=
 X1R (fun w1 c=>Ed R c.stp (by simpa using b) fun v w' d f g=>X2d c d f g) h
end
theorem V0.parts {c:Cla} {a b i d e f g mv:Value} (h:V0 σ c [a,b,i,d,e,f,g,mv]):Sl 1 U9 σ i c.like∧Sl 3 R3 σ g c.fields∧Sl 7 E5 σ mv c.methods∧c.name.length≤U0∧c.super.length≤U0:=by
 obtain ⟨_,_,_,j,k⟩:=h
 simp only[List.cons.injEq,and_true] at j
 obtain ⟨_,_,rfl,_,_,_,rfl,rfl⟩:=j
 exact k
theorem E5.parts {m:Hm.Met} {a pv b d e f g:Value} (h:E5 σ m [a,pv,b,d,e,f,g]):Sl 1 U9 σ pv m.params∧Sl 3 Qk σ f m.code∧Sl 4 Ui σ g m.catches∧m.name.length≤U0∧m.result.length≤U0∧Yc m.locals:=by
 obtain ⟨_,_,_,c,i⟩:=h
 simp only[List.cons.injEq,and_true] at c
 obtain ⟨_,rfl,_,_,_,rfl,rfl⟩:=c
 exact i
end Go.Emb

namespace Go.Emb
open Go.RowKit
variable {P : Program} {w : World} {K : Value → World → Prop}
theorem X1e {d:Nat} {xs ys:Array Value}:(Op.eqFields d xs ys []).run P w= .ok true w:=by simp[Op.eqFields]
theorem Pk {d:Nat} {xs ys:Array Value} {f:Field} {a:List Field} {u v:Value} {b c:Bool} (e:f.name≠ "_") [tg:TG P f.type false] (g:xs[f.offset]? =some u) (j:ys[f.offset]? =some v)
 (h:(Op.equalIn d f.type u v).run P w= .ok b w) (i:(Op.eqFields d xs ys a).run P w= .ok c w):(Op.eqFields d xs ys (f::a)).run P w= .ok (b&&c) w:=by
 simp only[Op.eqFields,if_pos e]
 simp[part,Xu tg,g,j,h]
 cases b
 ·simp
 ·simp[i]
theorem X1U {d:Nat} {t:TypeId} (c:P.underlying t=some .string) (a b:List UInt8):(Op.equalIn (d+1) t (S a) (S b)).run P w= .ok (decide (a=b)) w:=by
 simp[Op.equalIn,run_underlying c,Eb]
theorem Q3q {d:Nat} {t:TypeId} {k c:IntKind} (f:P.underlying t=some (.int k)) (a b:Int):(Op.equalIn (d+1) t (.int c a) (.int c b)).run P w= .ok (decide (a=b)) w:=by
 simp[Op.equalIn,run_underlying f]
 by_cases e:a=b<;>simp[e]
theorem X1D {t:TypeId} {c a:Operand} {xs ys:List Value} {b:Bool} (d:P.underlying t=some (.struct (P.fieldsOf t))) (f:P.stoodInHeld t=false) (i:P.eqGuardType P.depth t=false)
 (g:(Op.eqFields 9999 xs.toArray ys.toArray (P.fieldsOf t).toList).run P w= .ok b w) (h:K (.bool b) w):Q3 P .eql t c a (.agg xs.toArray) (.agg ys.toArray) w K:=by
 have e:Q3 P .eql t c a (.agg xs.toArray) (.agg ys.toArray) w K=K (.bool b) w:=X9 (by
  simp only[Sem.run_bind,run_eqGuard_agg w .eql t c a xs.toArray ys.toArray i,Result.andThen_ok]
  rw[run_eql_struct,run_equalIn_struct w 9999 t _ _ d f,g];rfl)
 rw[e];exact h
end Go.Emb
namespace Go.Proofs.YtjdiakhipmggjaaGreatDoor
open Go.Emb Go.RowKit Go.Kd Go.Hm
variable {w : World} {K : Value → World → Prop} {σ : Q5}
end Go.Proofs.YtjdiakhipmggjaaGreatDoor

namespace Go.Proofs.YtjdiakhipmggjaaGreatDoor
open Go.Emb Go.RowKit Go.Kd
variable {w : World} {K : Value → World → Prop}
end Go.Proofs.YtjdiakhipmggjaaGreatDoor
