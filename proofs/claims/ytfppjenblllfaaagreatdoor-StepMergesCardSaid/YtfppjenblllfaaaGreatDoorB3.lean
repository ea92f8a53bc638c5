/- Parts of a proof about the given program: its functions as texts of their own, what each computes, plain laws of that. The conditions of each stand in its statement. -/
import Derived.Test.YtfppjenblllfaaaGreatDoorB2
import Derived.ChangeArms
import Derived.DataReads
import Derived.SizedLaws
import Derived.Deep.AppendSrc
import Derived.Laws.StructEq
import Derived.Test.YtfppjenblllfaaaGreatDoorB1
import Derived.Laws.OwnMore
import Derived.Laws.CopyRow
set_option linter.unnecessarySimpa false
set_option linter.defProp false
set_option linter.unusedSectionVars false
set_option linter.unusedVariables false
set_option linter.unusedSimpArgs false
namespace Go.Proofs.YtfppjenblllfaaaGreatDoor
open Go.Emb Go.RowKit Go.Kd Go.Hm
variable {w : World} {K : Value → World → Prop} {σ : Q5}
def Uj (m:Hm.Met):Bool:=decide (32<m.params.length)||decide (32<m.catches.length)||decide (200<m.code.length)||decide (64<m.locals)
def Xz (c:Cla):Bool:=c.methods.any Uj||decide (32<c.like.length)||decide (32<c.fields.length)||decide (32<c.methods.length)
theorem X22 {c : Cla} {cs : List Value} (hs : X4 w σ) (hc : U5 σ c cs) (h : ∀ w', Below w.heap.size w w' → K (.bool (Xz c)) w') : Q0 P F.cw [.agg cs.toArray] w K := Q48 (by
  obtain ⟨lv, fv, mv, rfl, hl, hf, hm, hn, hsu⟩ := hc
  unfold Ac
  refine N1 hs fun a w1 σ1 hk ha => ?_
  have hs := hk.sat
  replace hl := hl.up hk
  replace hf := hf.up hk
  replace hm := hm.up hk
  simp only [Value.cells] at ha
  ((try simp only [↓M1, M1, Mb, reduceIte]); repeat ((first | refine ld (by assumption) (by assumption) rfl ?_ | refine X8 (by assumption) (by assumption) rfl ?_ | refine Q8 (by assumption) ?_); (try simp only [↓M1, M1, Mb, reduceIte])))
  refine J1 c.methods.length (fun n w' => Below w1.heap.size w1 w' ∧ ((c.methods.take n).any Uj) = false) ⟨Below.refl _ _, by simp⟩ fun n w2 d hn hi => ?_
  obtain ⟨hb, hp⟩ := hi
  have hs2 := hs.below hb
  ((try simp only [↓M1, M1, Mb, reduceIte]); repeat ((first | refine ld (by assumption) (by assumption) rfl ?_ | refine X8 (by assumption) (by assumption) rfl ?_ | refine Q8 (by assumption) ?_); (try simp only [↓M1, M1, Mb, reduceIte])))
  refine Q6 (fun hc => ?_) (fun hc => ?_)
  · have hn' : n < c.methods.length := by simpa using hc
    refine L7 hm hn' fun p cs hl1 hlen hr => ?_
    refine Y9 hs2 hl1 hlen ?_
    refine Y6 hs2 (by rfl) hlen (Rep.one hr) fun q w3 σ3 hk3 hq => ?_
    obtain ⟨pv, cv, hv, rfl, g1, g2, g3, g4⟩ := hr
    have hs3 := hk3.sat
    replace g1 := g1.up hk3
    replace g2 := g2.up hk3
    replace g3 := g3.up hk3
    ((try simp only [↓M1, M1, Mb, reduceIte]); repeat ((first | refine ld (by assumption) (by assumption) rfl ?_ | refine X8 (by assumption) (by assumption) rfl ?_ | refine Q8 (by assumption) ?_); (try simp only [↓M1, M1, Mb, reduceIte])))
    (repeat' ((first | refine Z4 (fun hh => ?_) (fun hh => ?_) | refine Q6 (fun hh => ?_) (fun hh => ?_)) <;> (try simp only [hh, Bool.not_true, Bool.not_false, ↓M1, M1, Mb, reduceIte]) <;> ((try simp only [↓M1, M1, Mb, reduceIte]); repeat ((first | refine ld (by assumption) (by assumption) rfl ?_ | refine X8 (by assumption) (by assumption) rfl ?_ | refine Q8 (by assumption) ?_); (try simp only [↓M1, M1, Mb, reduceIte])))))
    all_goals first
      | refine Y2 hm.max hn' ⟨bt hb hk3.bel, ?_⟩
        rw [M4 hn', hp]; simp only [Uj]; (first | (simp only [decide_eq_true_eq, decide_eq_false_iff_not, Bool.not_true, Bool.not_false, Bool.not_eq_true', Bool.not_eq_false', Bool.or_eq_true, Bool.and_eq_true, Bool.or_eq_false_iff, Bool.and_eq_false_iff, Bool.false_or, Bool.true_and, Bool.or_false, Bool.and_true] at *; first | omega | (and_intros <;> omega)) | (rw [Bool.eq_iff_iff]; (simp only [decide_eq_true_eq, decide_eq_false_iff_not, Bool.not_true, Bool.not_false, Bool.not_eq_true', Bool.not_eq_false', Bool.or_eq_true, Bool.and_eq_true, Bool.or_eq_false_iff, Bool.and_eq_false_iff, Bool.false_or, Bool.true_and, Bool.or_false, Bool.and_true] at *; first | omega | (and_intros <;> omega))))
      | have e : Xz c = true := by
          have : Uj c.methods[n] = true := by simp only [Uj]; (first | (simp only [decide_eq_true_eq, decide_eq_false_iff_not, Bool.not_true, Bool.not_false, Bool.not_eq_true', Bool.not_eq_false', Bool.or_eq_true, Bool.and_eq_true, Bool.or_eq_false_iff, Bool.and_eq_false_iff, Bool.false_or, Bool.true_and, Bool.or_false, Bool.and_true] at *; first | omega | (and_intros <;> omega)) | (rw [Bool.eq_iff_iff]; (simp only [decide_eq_true_eq, decide_eq_false_iff_not, Bool.not_true, Bool.not_false, Bool.not_eq_true', Bool.not_eq_false', Bool.or_eq_true, Bool.and_eq_true, Bool.or_eq_false_iff, Bool.and_eq_false_iff, Bool.false_or, Bool.true_and, Bool.or_false, Bool.and_true] at *; first | omega | (and_intros <;> omega))))
          simp [Xz, C4 hn' this]
        rw [← e]; exact h _ (bt hk.bel (bt hb hk3.bel))
  · have hn' : ¬ n < c.methods.length := by simpa using hc
    rw [D5 hn'] at hp
    have h := h w2 (bt hk.bel hb)
    ((try simp only [↓M1, M1, Mb, reduceIte]); repeat ((first | refine ld (by assumption) (by assumption) rfl ?_ | refine X8 (by assumption) (by assumption) rfl ?_ | refine Q8 (by assumption) ?_); (try simp only [↓M1, M1, Mb, reduceIte])))
    (repeat' ((first | refine Z4 (fun hh => ?_) (fun hh => ?_) | refine Q6 (fun hh => ?_) (fun hh => ?_)) <;> (try simp only [hh, Bool.not_true, Bool.not_false, ↓M1, M1, Mb, reduceIte]) <;> ((try simp only [↓M1, M1, Mb, reduceIte]); repeat ((first | refine ld (by assumption) (by assumption) rfl ?_ | refine X8 (by assumption) (by assumption) rfl ?_ | refine Q8 (by assumption) ?_); (try simp only [↓M1, M1, Mb, reduceIte])))))
    all_goals
      refine Eq.subst (motive := fun b => K (.bool b) w2) ?_ h
      simp only [Xz, hp]
      (first | (simp only [decide_eq_true_eq, decide_eq_false_iff_not, Bool.not_true, Bool.not_false, Bool.not_eq_true', Bool.not_eq_false', Bool.or_eq_true, Bool.and_eq_true, Bool.or_eq_false_iff, Bool.and_eq_false_iff, Bool.false_or, Bool.true_and, Bool.or_false, Bool.and_true] at *; first | omega | (and_intros <;> omega)) | (rw [Bool.eq_iff_iff]; (simp only [decide_eq_true_eq, decide_eq_false_iff_not, Bool.not_true, Bool.not_false, Bool.not_eq_true', Bool.not_eq_false', Bool.or_eq_true, Bool.and_eq_true, Bool.or_eq_false_iff, Bool.and_eq_false_iff, Bool.false_or, Bool.true_and, Bool.or_false, Bool.and_true] at *; first | omega | (and_intros <;> omega)))))
end Go.Proofs.YtfppjenblllfaaaGreatDoor

namespace Go.Emb
open Go.RowKit Go.Hm
variable {H : Type} {enc : TypeId × Value → H} {P : Program} {W : World} {t : TypeId} {cs : List Value} {fuel : Nat} {x : DataW H × List MemPlace}
def Ul (W:World):Q5:=fun b=>W.heap[b]?
theorem Q8c:X4 W (Ul W):=fun b o h=>h
def Wt (P:Program) (t:TypeId) (d:DataW H):Prop:= ∀n∈d.weights P t,n≤reachBytes
theorem X1i {a:Addr} {n:Nat} (h:W.cells? 0 a n=some cs) (D:0<n):cs.length=n∧Z3 (Ul W) a cs:=by
 obtain ⟨_,k,u⟩:=World.cells?_some h
 refine ⟨k,?_⟩
 have key: ∀i v,cs[i]? =some v→ ∃D6 e f,W.heap[a.block]? =some (.cells D6 e f)∧(a.add i).spot=none∧D6[a.off+i]? =some v:=by
  intro i v g
  have z:i<cs.length:=(List.getElem?_eq_some_iff.1 g).1
  have b:=u i (by omega)
  rw[g] at b
  unfold World.cell? at b
  rw[C3,Xv] at b
  cases p:W.heap[a.block]? with
  | none=>rw[p] at b;cases b
  | some o=>
   rw[p] at b
   cases o with
   | cells D6 e f=>
    simp only at b
    split at b
    ·cases b
    ·rename_i y
     exact ⟨D6,e,f,rfl,by simpa using y,b⟩
   | _=>cases b
 cases j:cs with
 | nil=>subst j;simp at k;omega
 | cons c r=>
  obtain ⟨D6,e,f,m,w,A⟩:=key 0 c (by rw[j];rfl)
  refine ⟨by simpa [Addr.add] using w,D6,e,f,m,fun i v g=>?_⟩
  obtain ⟨l,B,s,d,C,q⟩:=key i v (by rw[j];exact g)
  rw[m] at d
  injection d with d
  injection d with d
  subst d
  exact q
theorem X1v (b:P.underlying t=some .string) (h:DataW.trod enc P W 0 (fun _=>true) true fuel t cs=some x) (a:Wt P t x.1): ∃s:Kd.X0,cs=[S s]∧s.length≤Z9:=by
 obtain ⟨⟨⟨s⟩⟩,rfl,rfl,_⟩:=DataW.trod_string b h
 refine ⟨s,rfl,?_⟩
 have:=a s.length (by simp[DataW.weights])
 exact this
theorem X0L (a:P.underlying t=some .bool) (h:DataW.trod enc P W 0 (fun _=>true) true fuel t cs=some x): ∃b,cs=[.bool b]:=by
 obtain ⟨b,c,_⟩:=DataW.trod_bool a h;exact ⟨b,c⟩
theorem X1b {α:Type} {Q:Nat→α→Prop}: ∀(n:Nat),(∀i,i<n→ ∃y,Q i y)→ ∃xs:List α,xs.length=n∧ ∀i y,xs[i]? =some y→Q i y:=by
 intro n
 induction n with
 | zero=>intro _;exact ⟨[],rfl,by simp⟩
 | succ n f=>
  intro h
  obtain ⟨xs,d,c⟩:=f fun i b=>h i (by omega)
  obtain ⟨y,e⟩:=h n (by omega)
  refine ⟨xs++[y],by simp[d],fun i z a=>?_⟩
  by_cases b:i<xs.length
  ·rw[List.getElem?_append_left b] at a;exact c i z a
  ·rw[List.getElem?_append_right (by omega)] at a
   have:i-xs.length=0:=by
    have:=(List.getElem?_eq_some_iff.1 a).1
    simp at this;omega
   rw[this] at a
   simp at a
   subst a
   rw[show i=n by omega];exact e
theorem X1O {e:TypeId} {d:DataW H}: ∀{l:List (DataW H)},d∈l→ ∀n∈d.weights P e,n∈DataW.weightsAll P e l:=by
 intro l
 induction l with
 | nil=>intro h;simp at h
 | cons a r c=>
  intro h n b
  simp only[DataW.weightsAll,List.mem_append]
  rcases List.mem_cons.1 h with rfl | h
  ·exact .inl b
  ·exact .inr (c h n b)
theorem X0e {α:Type} {R:Q5→α→List Value→Prop} {e:TypeId} {sz:Nat} (A:P.underlying t=some (.slice e)) (E:P.cellsOf e=sz) (D:0<sz)
 (r: ∀fuel cs (x:DataW H×List MemPlace),DataW.trod enc P W 0 (fun _=>true) true fuel e cs=some x→Wt P e x.1→ ∃y,R (Ul W) y cs)
 (h:DataW.trod enc P W 0 (fun _=>true) true fuel t cs=some x) (O:Wt P t x.1): ∃v xs,cs=[v]∧Sl sz R (Ul W) v xs:=by
 rcases DataW.trod_slice A h with ⟨rfl,rfl⟩ | ⟨a,g,q,d,w,n,_,rfl,rfl,_,C,p,u,k,_⟩
 ·exact ⟨_,[],rfl,Sl.nil⟩
 subst E
 have step: ∀i,i<g→ ∃y,∃c,Z3 (Ul W) (a.add (i*P.cellsOf e)) c∧c.length=P.cellsOf e∧R (Ul W) y c:=by
  intro i B
  have z:=k i B
  have o:i<d.length:=by omega
  rw[List.getElem?_eq_getElem o] at z
  obtain ⟨c,L,M⟩:=Option.bind_eq_some_iff.1 z
  obtain ⟨J,s⟩:=X1i L D
  obtain ⟨y,f⟩:=r n c _ M (fun m p=>O m (by
   simp only[DataW.weights,A,List.mem_cons,List.mem_append]
   exact .inr (.inl (X1O (List.mem_map.2 ⟨_,List.getElem_mem o,rfl⟩) m p))))
  exact ⟨y,c,s,J,f⟩
 obtain ⟨xs,j,l⟩:=X1b g step
 refine ⟨_,xs,rfl,some a,q,by rw[j],by rw[j];exact C,p,by simp,fun b Q=>?_⟩
 cases Q
 refine ⟨fun N=>?_,fun i y f=>l i y f⟩
 obtain ⟨y,f⟩: ∃y,xs[0]? =some y:=⟨xs[0],List.getElem?_eq_getElem N⟩
 obtain ⟨c,s,_,_⟩:=l 0 y f
 have:=s.1
 simpa [Addr.add] using this
theorem X1l: ∀{a:List TypeId} {l:List (DataW H)} {i:Nat} {u:TypeId} {d:DataW H},a[i]? =some u→l[i]? =some d→ ∀n∈d.weights P u,n∈DataW.weightsEach P a l:=
 fun e b n c=>DataW.weights_mem_each e b n c
theorem Q2f {e:Array Field} (g:P.underlying t=some (.struct e)) (h:DataW.trod enc P W 0 (fun _=>true) true fuel t cs=some x) (s:Wt P t x.1) (i:Nat) {o:Nat} {b:TypeId}
 (k:(e[i]?).map (fun f=>(f.type,f.offset))=some (b,o)) (p:P.cellsOf b=1): ∃n y,DataW.trod enc P W 0 (fun _=>true) true n b ((cs.drop o).take 1)=some y∧Wt P b y.1:=by
 obtain ⟨xs,n,_,rfl,v,q,r⟩:=DataW.trod_struct g h
 obtain ⟨f,a,l⟩:=Option.map_eq_some_iff.1 k
 cases l
 have d:=r i f a
 have c:i<xs.length:=by rw[q];exact (Array.getElem?_eq_some_iff.1 a).1
 rw[List.getElem?_eq_getElem c,p] at d
 refine ⟨n,_,d,fun m j=>s m ?_⟩
 simp only[DataW.weights,g]
 exact X1l (i:=i) (u:=f.type) (by rw[List.getElem?_map,Array.getElem?_toList,a];rfl) (by rw[List.getElem?_map,List.getElem?_eq_getElem c];rfl) m j
theorem X1W {c:Array Field} {k:Nat} (b:P.underlying t=some (.struct c)) (a:P.cellsOf t=k) (h:DataW.trod enc P W 0 (fun _=>true) true fuel t cs=some x):cs.length=k:=by
 obtain ⟨_,_,_,_,d,_,_⟩:=DataW.trod_struct b h
 rw[d,a]
theorem Q7n {α:Type} {l:List α} (h:l.length=3): ∃a b c,l=[a,b,c]:=by
 match l,h with
 | [a,b,c],_=>exact ⟨a,b,c,rfl⟩
end Go.Emb
namespace Go.Proofs.YtfppjenblllfaaaGreatDoor
open Go.Emb Go.RowKit Go.Kd Go.Hm
variable {H : Type} {enc : TypeId × Value → H} {W : World} {cs : List Value} {fuel : Nat} {x : DataW H × List MemPlace}
theorem Gw:P.cellsOf T.b=1:=by kernel_rfl
theorem Q8q:P.cellsOf T.m=1:=by kernel_rfl
theorem Q8f {t:TypeId} (b:P.underlying t=some .string) (h:DataW.trod enc P W 0 (fun _=>true) true fuel t cs=some x) (a:Wt P t x.1): ∃y,Y1 (Ul W) y cs:=by
 obtain ⟨s,q,r⟩:=X1v b h a;exact ⟨s,q,r⟩
theorem Q87:P.underlying T.c=some (.slice T.b):=by kernel_rfl
end Go.Proofs.YtfppjenblllfaaaGreatDoor

namespace Go.Emb
def J3 {α β:Type} (a:β→α→Bool×β):β→List α→Nat→Option Nat×β
 | s,[],_=>(none,s)
 | s,x::xs,i=>if (a s x).1 then (some i,(a s x).2) else J3 a (a s x).2 xs (i+1)
def W3 (o:Option Nat):Int:=match o with | some i=>i | none=> -1
theorem K4 {α:Type} (p:α→Bool): ∀(xs:List α) (i:Nat),(J3 (fun (_:Unit) x=>(p x,())) () xs i).1=(xs.findIdx? p).map (· +i):=by
 intro xs
 induction xs with
 | nil=>intro i;rfl
 | cons x r ih=>
  intro i
  rw[List.findIdx?_cons]
  simp only[J3]
  cases p x with
  | true=>simp
  | false=>
   simp only[Bool.false_eq_true,if_false]
   rw[ih (i+1),Option.map_map]
   congr 1;funext n;simp only[Function.comp];omega
theorem Ia {α β:Type} (a:β→α→Bool×β) (s:β) (xs:List α) (i:Nat):decide ((0:Int)≤W3 (J3 a s xs i).1)=(J3 a s xs i).1.isSome:=by
 cases (J3 a s xs i).1<;>simp[W3]
end Go.Emb
namespace Go.Proofs.YtfppjenblllfaaaGreatDoor
open Go.Emb Go.RowKit Go.Kd Go.Hm
variable {w : World} {K : Value → World → Prop} {σ : Q5}
theorem Ua {β:Type} {xs:List Hm.Met} {v f:Value} (a:β→Hm.Met→Bool×β) (j:β) (b:β→World→Prop) (D:Nat→Prop) (k: ∀s w,b s w→X4 w σ) (C:b j w) (t:Sl 7 M6 σ v xs)
 (z: ∀s x cs (w1:World) (K:Value→World→Prop),x∈xs→Kpt D w w1→b s w1→M6 σ x cs→cs.length=7→(∀w',Kpt D w w'→b (a s x).2 w'→K (.bool (a s x).1) w')→Z2 P f [.agg cs.toArray] w1 K)
 (h: ∀w',Kpt D w w'→b (J3 a j xs 0).2 w'→K (I (W3 (J3 a j xs 0).1)) w'):Q0 P F.g [v,f] w K:=Qq (by
 unfold H9
 ((try simp only[↓M1,M1,Mb,reduceIte]);repeat ((first | refine ld (by assumption) (by assumption) rfl ?_ | refine X8 (by assumption) (by assumption) rfl ?_ | refine Q8 (by assumption) ?_);(try simp only[↓M1,M1,Mb,reduceIte])))
 refine J1 xs.length (fun n w'=>Kpt D w w'∧ ∃s,b s w'∧J3 a j xs 0=J3 a s (xs.drop n) n) ⟨Kpt.refl,j,C,rfl⟩ fun n w1 d E i=>?_
 obtain ⟨u,s,i,e⟩:=i
 have q:=k s w1 i
 ((try simp only[↓M1,M1,Mb,reduceIte]);repeat ((first | refine ld (by assumption) (by assumption) rfl ?_ | refine X8 (by assumption) (by assumption) rfl ?_ | refine Q8 (by assumption) ?_);(try simp only[↓M1,M1,Mb,reduceIte])))
 refine Q6 (fun o=>?_) (fun o=>?_)
 ·have c:n<xs.length:=by simpa using o
  refine L7 t c fun p cs y g A=>?_
  refine Y9 q y g ?_
  refine z s xs[n] cs w1 _ (List.getElem_mem c) u i A g fun B l m=>?_
  rw[List.drop_eq_getElem_cons c] at e
  simp only[J3] at e
  refine Q6 (fun r=>?_) (fun r=>?_)
  ·rw[r] at e
   have:=h B l
   rw[e] at this
   exact this m
  ·rw[r] at e
   ((try simp only[↓M1,M1,Mb,reduceIte]);repeat ((first | refine ld (by assumption) (by assumption) rfl ?_ | refine X8 (by assumption) (by assumption) rfl ?_ | refine Q8 (by assumption) ?_);(try simp only[↓M1,M1,Mb,reduceIte])))
   exact Y2 t.max c ⟨l,_,m,by simpa using e⟩
 ·have c: ¬n<xs.length:=by simpa using o
  rw[List.drop_eq_nil_of_le (by omega)] at e
  have:=h w1 u
  rw[e] at this
  exact this i)
theorem Yk {β:Type} {xs:List Hm.Met} {v f:Value} (b:β→Hm.Met→Bool×β) (d:β) (a:β→World→Prop) (D:Nat→Prop) (c: ∀s w,a s w→X4 w σ) (k:a d w) (i:Sl 7 M6 σ v xs)
 (g: ∀s x cs (w1:World) (K:Value→World→Prop),x∈xs→Kpt D w w1→a s w1→M6 σ x cs→cs.length=7→(∀w',Kpt D w w'→a (b s x).2 w'→K (.bool (b s x).1) w')→Z2 P f [.agg cs.toArray] w1 K)
 (h: ∀w',Kpt D w w'→a (J3 b d xs 0).2 w'→K (.bool (J3 b d xs 0).1.isSome) w'):Q0 P F.a [v,f] w K:=K6 (by
 unfold E1
 refine Ua b d a D c k i g fun w1 j e=>?_
 (try simp only[↓M1,M1,Mb,reduceIte])
 rw[Ia]
 exact h w1 j e)
theorem Sk {xs:List Hm.Met} {v f:Value} (p:Hm.Met→Bool) (hs:X4 w σ) (hv:Sl 7 M6 σ v xs)
 (hf: ∀x cs (w1:World) (K:Value→World→Prop),x∈xs→X4 w1 σ→M6 σ x cs→cs.length=7→(∀w',Below w1.heap.size w1 w'→K (.bool (p x)) w')→Z2 P f [.agg cs.toArray] w1 K)
 (h: ∀w',Below w.heap.size w w'→K (I (W3 (xs.findIdx? p))) w'):Q0 P F.g [v,f] w K:=by
 refine Ua (fun (_:Unit) x=>(p x,())) () (fun _ w'=>Below w.heap.size w w') (fun _=>False) (fun _ w' hb=>hs.below hb) (Below.refl _ _) hv (fun s x cs w1 K hx hk hi hr hl hK=>hf x cs w1 K hx (hs.below hi) hr hl fun w' hb=>hK w' (.of_below (bt hi hb)) (bt hi hb)) fun w' hk hi=>?_
 rw[K4]
 simpa using h w' hi
theorem R1 {xs:List Hm.Met} {v f:Value} (p:Hm.Met→Bool) (hs:X4 w σ) (hv:Sl 7 M6 σ v xs)
 (hf: ∀x cs (w1:World) (K:Value→World→Prop),x∈xs→X4 w1 σ→M6 σ x cs→cs.length=7→(∀w',Below w1.heap.size w1 w'→K (.bool (p x)) w')→Z2 P f [.agg cs.toArray] w1 K)
 (h: ∀w',Below w.heap.size w w'→K (.bool (xs.any p)) w'):Q0 P F.a [v,f] w K:=by
 refine Yk (fun (_:Unit) x=>(p x,())) () (fun _ w'=>Below w.heap.size w w') (fun _=>False) (fun _ w' hb=>hs.below hb) (Below.refl _ _) hv (fun s x cs w1 K hx hk hi hr hl hK=>hf x cs w1 K hx (hs.below hi) hr hl fun w' hb=>hK w' (.of_below (bt hi hb)) (bt hi hb)) fun w' hk hi=>?_
 rw[K4]
 simpa using h w' hi
theorem Uv {β:Type} {xs:List Fld} {v f:Value} (a:β→Fld→Bool×β) (j:β) (b:β→World→Prop) (D:Nat→Prop) (k: ∀s w,b s w→X4 w σ) (C:b j w) (t:Sl 3 E2 σ v xs)
 (z: ∀s x cs (w1:World) (K:Value→World→Prop),x∈xs→Kpt D w w1→b s w1→E2 σ x cs→cs.length=3→(∀w',Kpt D w w'→b (a s x).2 w'→K (.bool (a s x).1) w')→Z2 P f [.agg cs.toArray] w1 K)
 (h: ∀w',Kpt D w w'→b (J3 a j xs 0).2 w'→K (I (W3 (J3 a j xs 0).1)) w'):Q0 P F.j [v,f] w K:=Qw (by
 unfold R7
 ((try simp only[↓M1,M1,Mb,reduceIte]);repeat ((first | refine ld (by assumption) (by assumption) rfl ?_ | refine X8 (by assumption) (by assumption) rfl ?_ | refine Q8 (by assumption) ?_);(try simp only[↓M1,M1,Mb,reduceIte])))
 refine J1 xs.length (fun n w'=>Kpt D w w'∧ ∃s,b s w'∧J3 a j xs 0=J3 a s (xs.drop n) n) ⟨Kpt.refl,j,C,rfl⟩ fun n w1 d E i=>?_
 obtain ⟨u,s,i,e⟩:=i
 have q:=k s w1 i
 ((try simp only[↓M1,M1,Mb,reduceIte]);repeat ((first | refine ld (by assumption) (by assumption) rfl ?_ | refine X8 (by assumption) (by assumption) rfl ?_ | refine Q8 (by assumption) ?_);(try simp only[↓M1,M1,Mb,reduceIte])))
 refine Q6 (fun o=>?_) (fun o=>?_)
 ·have c:n<xs.length:=by simpa using o
  refine L7 t c fun p cs y g A=>?_
  refine Y9 q y g ?_
  refine z s xs[n] cs w1 _ (List.getElem_mem c) u i A g fun B l m=>?_
  rw[List.drop_eq_getElem_cons c] at e
  simp only[J3] at e
  refine Q6 (fun r=>?_) (fun r=>?_)
  ·rw[r] at e
   have:=h B l
   rw[e] at this
   exact this m
  ·rw[r] at e
   ((try simp only[↓M1,M1,Mb,reduceIte]);repeat ((first | refine ld (by assumption) (by assumption) rfl ?_ | refine X8 (by assumption) (by assumption) rfl ?_ | refine Q8 (by assumption) ?_);(try simp only[↓M1,M1,Mb,reduceIte])))
   exact Y2 t.max c ⟨l,_,m,by simpa using e⟩
 ·have c: ¬n<xs.length:=by simpa using o
  rw[List.drop_eq_nil_of_le (by omega)] at e
  have:=h w1 u
  rw[e] at this
  exact this i)
theorem Hg {β:Type} {xs:List Fld} {v f:Value} (b:β→Fld→Bool×β) (d:β) (a:β→World→Prop) (D:Nat→Prop) (c: ∀s w,a s w→X4 w σ) (k:a d w) (i:Sl 3 E2 σ v xs)
 (g: ∀s x cs (w1:World) (K:Value→World→Prop),x∈xs→Kpt D w w1→a s w1→E2 σ x cs→cs.length=3→(∀w',Kpt D w w'→a (b s x).2 w'→K (.bool (b s x).1) w')→Z2 P f [.agg cs.toArray] w1 K)
 (h: ∀w',Kpt D w w'→a (J3 b d xs 0).2 w'→K (.bool (J3 b d xs 0).1.isSome) w'):Q0 P F.f [v,f] w K:=T5 (by
 unfold H5
 refine Uv b d a D c k i g fun w1 j e=>?_
 (try simp only[↓M1,M1,Mb,reduceIte])
 rw[Ia]
 exact h w1 j e)
theorem Ct {xs:List Fld} {v f:Value} (p:Fld→Bool) (hs:X4 w σ) (hv:Sl 3 E2 σ v xs)
 (hf: ∀x cs (w1:World) (K:Value→World→Prop),x∈xs→X4 w1 σ→E2 σ x cs→cs.length=3→(∀w',Below w1.heap.size w1 w'→K (.bool (p x)) w')→Z2 P f [.agg cs.toArray] w1 K)
 (h: ∀w',Below w.heap.size w w'→K (I (W3 (xs.findIdx? p))) w'):Q0 P F.j [v,f] w K:=by
 refine Uv (fun (_:Unit) x=>(p x,())) () (fun _ w'=>Below w.heap.size w w') (fun _=>False) (fun _ w' hb=>hs.below hb) (Below.refl _ _) hv (fun s x cs w1 K hx hk hi hr hl hK=>hf x cs w1 K hx (hs.below hi) hr hl fun w' hb=>hK w' (.of_below (bt hi hb)) (bt hi hb)) fun w' hk hi=>?_
 rw[K4]
 simpa using h w' hi
theorem Zk {xs:List Fld} {v f:Value} (p:Fld→Bool) (hs:X4 w σ) (hv:Sl 3 E2 σ v xs)
 (hf: ∀x cs (w1:World) (K:Value→World→Prop),x∈xs→X4 w1 σ→E2 σ x cs→cs.length=3→(∀w',Below w1.heap.size w1 w'→K (.bool (p x)) w')→Z2 P f [.agg cs.toArray] w1 K)
 (h: ∀w',Below w.heap.size w w'→K (.bool (xs.any p)) w'):Q0 P F.f [v,f] w K:=by
 refine Hg (fun (_:Unit) x=>(p x,())) () (fun _ w'=>Below w.heap.size w w') (fun _=>False) (fun _ w' hb=>hs.below hb) (Below.refl _ _) hv (fun s x cs w1 K hx hk hi hr hl hK=>hf x cs w1 K hx (hs.below hi) hr hl fun w' hb=>hK w' (.of_below (bt hi hb)) (bt hi hb)) fun w' hk hi=>?_
 rw[K4]
 simpa using h w' hi
theorem Sw {β:Type} {xs:List Ins} {v f:Value} (a:β→Ins→Bool×β) (j:β) (b:β→World→Prop) (D:Nat→Prop) (k: ∀s w,b s w→X4 w σ) (C:b j w) (t:Sl 3 I8 σ v xs)
 (z: ∀s x cs (w1:World) (K:Value→World→Prop),x∈xs→Kpt D w w1→b s w1→I8 σ x cs→cs.length=3→(∀w',Kpt D w w'→b (a s x).2 w'→K (.bool (a s x).1) w')→Z2 P f [.agg cs.toArray] w1 K)
 (h: ∀w',Kpt D w w'→b (J3 a j xs 0).2 w'→K (I (W3 (J3 a j xs 0).1)) w'):Q0 P F.a0 [v,f] w K:=Qx (by
 unfold R9
 ((try simp only[↓M1,M1,Mb,reduceIte]);repeat ((first | refine ld (by assumption) (by assumption) rfl ?_ | refine X8 (by assumption) (by assumption) rfl ?_ | refine Q8 (by assumption) ?_);(try simp only[↓M1,M1,Mb,reduceIte])))
 refine J1 xs.length (fun n w'=>Kpt D w w'∧ ∃s,b s w'∧J3 a j xs 0=J3 a s (xs.drop n) n) ⟨Kpt.refl,j,C,rfl⟩ fun n w1 d E i=>?_
 obtain ⟨u,s,i,e⟩:=i
 have q:=k s w1 i
 ((try simp only[↓M1,M1,Mb,reduceIte]);repeat ((first | refine ld (by assumption) (by assumption) rfl ?_ | refine X8 (by assumption) (by assumption) rfl ?_ | refine Q8 (by assumption) ?_);(try simp only[↓M1,M1,Mb,reduceIte])))
 refine Q6 (fun o=>?_) (fun o=>?_)
 ·have c:n<xs.length:=by simpa using o
  refine L7 t c fun p cs y g A=>?_
  refine Y9 q y g ?_
  refine z s xs[n] cs w1 _ (List.getElem_mem c) u i A g fun B l m=>?_
  rw[List.drop_eq_getElem_cons c] at e
  simp only[J3] at e
  refine Q6 (fun r=>?_) (fun r=>?_)
  ·rw[r] at e
   have:=h B l
   rw[e] at this
   exact this m
  ·rw[r] at e
   ((try simp only[↓M1,M1,Mb,reduceIte]);repeat ((first | refine ld (by assumption) (by assumption) rfl ?_ | refine X8 (by assumption) (by assumption) rfl ?_ | refine Q8 (by assumption) ?_);(try simp only[↓M1,M1,Mb,reduceIte])))
   exact Y2 t.max c ⟨l,_,m,by simpa using e⟩
 ·have c: ¬n<xs.length:=by simpa using o
  rw[List.drop_eq_nil_of_le (by omega)] at e
  have:=h w1 u
  rw[e] at this
  exact this i)
theorem Eu {β:Type} {xs:List Ins} {v f:Value} (b:β→Ins→Bool×β) (d:β) (a:β→World→Prop) (D:Nat→Prop) (c: ∀s w,a s w→X4 w σ) (k:a d w) (i:Sl 3 I8 σ v xs)
 (g: ∀s x cs (w1:World) (K:Value→World→Prop),x∈xs→Kpt D w w1→a s w1→I8 σ x cs→cs.length=3→(∀w',Kpt D w w'→a (b s x).2 w'→K (.bool (b s x).1) w')→Z2 P f [.agg cs.toArray] w1 K)
 (h: ∀w',Kpt D w w'→a (J3 b d xs 0).2 w'→K (.bool (J3 b d xs 0).1.isSome) w'):Q0 P F.l [v,f] w K:=T4 (by
 unfold H6
 refine Sw b d a D c k i g fun w1 j e=>?_
 (try simp only[↓M1,M1,Mb,reduceIte])
 rw[Ia]
 exact h w1 j e)
theorem Hi {xs:List Ins} {v f:Value} (p:Ins→Bool) (hs:X4 w σ) (hv:Sl 3 I8 σ v xs)
 (hf: ∀x cs (w1:World) (K:Value→World→Prop),x∈xs→X4 w1 σ→I8 σ x cs→cs.length=3→(∀w',Below w1.heap.size w1 w'→K (.bool (p x)) w')→Z2 P f [.agg cs.toArray] w1 K)
 (h: ∀w',Below w.heap.size w w'→K (.bool (xs.any p)) w'):Q0 P F.l [v,f] w K:=by
 refine Eu (fun (_:Unit) x=>(p x,())) () (fun _ w'=>Below w.heap.size w w') (fun _=>False) (fun _ w' hb=>hs.below hb) (Below.refl _ _) hv (fun s x cs w1 K hx hk hi hr hl hK=>hf x cs w1 K hx (hs.below hi) hr hl fun w' hb=>hK w' (.of_below (bt hi hb)) (bt hi hb)) fun w' hk hi=>?_
 rw[K4]
 simpa using h w' hi
theorem Sz {β:Type} {xs:List Cat} {v f:Value} (a:β→Cat→Bool×β) (j:β) (b:β→World→Prop) (D:Nat→Prop) (k: ∀s w,b s w→X4 w σ) (C:b j w) (t:Sl 4 Yo σ v xs)
 (z: ∀s x cs (w1:World) (K:Value→World→Prop),x∈xs→Kpt D w w1→b s w1→Yo σ x cs→cs.length=4→(∀w',Kpt D w w'→b (a s x).2 w'→K (.bool (a s x).1) w')→Z2 P f [.agg cs.toArray] w1 K)
 (h: ∀w',Kpt D w w'→b (J3 a j xs 0).2 w'→K (I (W3 (J3 a j xs 0).1)) w'):Q0 P F.a1 [v,f] w K:=Xg (by
 unfold C1
 ((try simp only[↓M1,M1,Mb,reduceIte]);repeat ((first | refine ld (by assumption) (by assumption) rfl ?_ | refine X8 (by assumption) (by assumption) rfl ?_ | refine Q8 (by assumption) ?_);(try simp only[↓M1,M1,Mb,reduceIte])))
 refine J1 xs.length (fun n w'=>Kpt D w w'∧ ∃s,b s w'∧J3 a j xs 0=J3 a s (xs.drop n) n) ⟨Kpt.refl,j,C,rfl⟩ fun n w1 d E i=>?_
 obtain ⟨u,s,i,e⟩:=i
 have q:=k s w1 i
 ((try simp only[↓M1,M1,Mb,reduceIte]);repeat ((first | refine ld (by assumption) (by assumption) rfl ?_ | refine X8 (by assumption) (by assumption) rfl ?_ | refine Q8 (by assumption) ?_);(try simp only[↓M1,M1,Mb,reduceIte])))
 refine Q6 (fun o=>?_) (fun o=>?_)
 ·have c:n<xs.length:=by simpa using o
  refine L7 t c fun p cs y g A=>?_
  refine Y9 q y g ?_
  refine z s xs[n] cs w1 _ (List.getElem_mem c) u i A g fun B l m=>?_
  rw[List.drop_eq_getElem_cons c] at e
  simp only[J3] at e
  refine Q6 (fun r=>?_) (fun r=>?_)
  ·rw[r] at e
   have:=h B l
   rw[e] at this
   exact this m
  ·rw[r] at e
   ((try simp only[↓M1,M1,Mb,reduceIte]);repeat ((first | refine ld (by assumption) (by assumption) rfl ?_ | refine X8 (by assumption) (by assumption) rfl ?_ | refine Q8 (by assumption) ?_);(try simp only[↓M1,M1,Mb,reduceIte])))
   exact Y2 t.max c ⟨l,_,m,by simpa using e⟩
 ·have c: ¬n<xs.length:=by simpa using o
  rw[List.drop_eq_nil_of_le (by omega)] at e
  have:=h w1 u
  rw[e] at this
  exact this i)
theorem El {β:Type} {xs:List Cat} {v f:Value} (b:β→Cat→Bool×β) (d:β) (a:β→World→Prop) (D:Nat→Prop) (c: ∀s w,a s w→X4 w σ) (k:a d w) (i:Sl 4 Yo σ v xs)
 (g: ∀s x cs (w1:World) (K:Value→World→Prop),x∈xs→Kpt D w w1→a s w1→Yo σ x cs→cs.length=4→(∀w',Kpt D w w'→a (b s x).2 w'→K (.bool (b s x).1) w')→Z2 P f [.agg cs.toArray] w1 K)
 (h: ∀w',Kpt D w w'→a (J3 b d xs 0).2 w'→K (.bool (J3 b d xs 0).1.isSome) w'):Q0 P F.m [v,f] w K:=T6 (by
 unfold H4
 refine Sz b d a D c k i g fun w1 j e=>?_
 (try simp only[↓M1,M1,Mb,reduceIte])
 rw[Ia]
 exact h w1 j e)
theorem Hh {xs:List Cat} {v f:Value} (p:Cat→Bool) (hs:X4 w σ) (hv:Sl 4 Yo σ v xs)
 (hf: ∀x cs (w1:World) (K:Value→World→Prop),x∈xs→X4 w1 σ→Yo σ x cs→cs.length=4→(∀w',Below w1.heap.size w1 w'→K (.bool (p x)) w')→Z2 P f [.agg cs.toArray] w1 K)
 (h: ∀w',Below w.heap.size w w'→K (.bool (xs.any p)) w'):Q0 P F.m [v,f] w K:=by
 refine El (fun (_:Unit) x=>(p x,())) () (fun _ w'=>Below w.heap.size w w') (fun _=>False) (fun _ w' hb=>hs.below hb) (Below.refl _ _) hv (fun s x cs w1 K hx hk hi hr hl hK=>hf x cs w1 K hx (hs.below hi) hr hl fun w' hb=>hK w' (.of_below (bt hi hb)) (bt hi hb)) fun w' hk hi=>?_
 rw[K4]
 simpa using h w' hi
theorem Cw {β:Type} {xs:List Cla} {v f:Value} (a:β→Cla→Bool×β) (j:β) (b:β→World→Prop) (D:Nat→Prop) (k: ∀s w,b s w→X4 w σ) (C:b j w) (t:Sl 8 U5 σ v xs)
 (z: ∀s x cs (w1:World) (K:Value→World→Prop),x∈xs→Kpt D w w1→b s w1→U5 σ x cs→cs.length=8→(∀w',Kpt D w w'→b (a s x).2 w'→K (.bool (a s x).1) w')→Z2 P f [.agg cs.toArray] w1 K)
 (h: ∀w',Kpt D w w'→b (J3 a j xs 0).2 w'→K (I (W3 (J3 a j xs 0).1)) w'):Q0 P F.o [v,f] w K:=Xb (by
 unfold C0
 ((try simp only[↓M1,M1,Mb,reduceIte]);repeat ((first | refine ld (by assumption) (by assumption) rfl ?_ | refine X8 (by assumption) (by assumption) rfl ?_ | refine Q8 (by assumption) ?_);(try simp only[↓M1,M1,Mb,reduceIte])))
 refine J1 xs.length (fun n w'=>Kpt D w w'∧ ∃s,b s w'∧J3 a j xs 0=J3 a s (xs.drop n) n) ⟨Kpt.refl,j,C,rfl⟩ fun n w1 d E i=>?_
 obtain ⟨u,s,i,e⟩:=i
 have q:=k s w1 i
 ((try simp only[↓M1,M1,Mb,reduceIte]);repeat ((first | refine ld (by assumption) (by assumption) rfl ?_ | refine X8 (by assumption) (by assumption) rfl ?_ | refine Q8 (by assumption) ?_);(try simp only[↓M1,M1,Mb,reduceIte])))
 refine Q6 (fun o=>?_) (fun o=>?_)
 ·have c:n<xs.length:=by simpa using o
  refine L7 t c fun p cs y g A=>?_
  refine Y9 q y g ?_
  refine z s xs[n] cs w1 _ (List.getElem_mem c) u i A g fun B l m=>?_
  rw[List.drop_eq_getElem_cons c] at e
  simp only[J3] at e
  refine Q6 (fun r=>?_) (fun r=>?_)
  ·rw[r] at e
   have:=h B l
   rw[e] at this
   exact this m
  ·rw[r] at e
   ((try simp only[↓M1,M1,Mb,reduceIte]);repeat ((first | refine ld (by assumption) (by assumption) rfl ?_ | refine X8 (by assumption) (by assumption) rfl ?_ | refine Q8 (by assumption) ?_);(try simp only[↓M1,M1,Mb,reduceIte])))
   exact Y2 t.max c ⟨l,_,m,by simpa using e⟩
 ·have c: ¬n<xs.length:=by simpa using o
  rw[List.drop_eq_nil_of_le (by omega)] at e
  have:=h w1 u
  rw[e] at this
  exact this i)
theorem Cn {xs:List Cla} {v f:Value} (p:Cla→Bool) (hs:X4 w σ) (hv:Sl 8 U5 σ v xs)
 (hf: ∀x cs (w1:World) (K:Value→World→Prop),x∈xs→X4 w1 σ→U5 σ x cs→cs.length=8→(∀w',Below w1.heap.size w1 w'→K (.bool (p x)) w')→Z2 P f [.agg cs.toArray] w1 K)
 (h: ∀w',Below w.heap.size w w'→K (I (W3 (xs.findIdx? p))) w'):Q0 P F.o [v,f] w K:=by
 refine Cw (fun (_:Unit) x=>(p x,())) () (fun _ w'=>Below w.heap.size w w') (fun _=>False) (fun _ w' hb=>hs.below hb) (Below.refl _ _) hv (fun s x cs w1 K hx hk hi hr hl hK=>hf x cs w1 K hx (hs.below hi) hr hl fun w' hb=>hK w' (.of_below (bt hi hb)) (bt hi hb)) fun w' hk hi=>?_
 rw[K4]
 simpa using h w' hi
theorem Ai {β:Type} {xs:List X0} {v f:Value} (a:β→X0→Bool×β) (i:β) (b:β→World→Prop) (D:Nat→Prop) (j: ∀s w,b s w→X4 w σ) (E:b i w) (t:Sl 1 Y1 σ v xs)
 (A: ∀s x (w1:World) (K:Value→World→Prop),x∈xs→Kpt D w w1→b s w1→x.length≤Z9→(∀w',Kpt D w w'→b (a s x).2 w'→K (.bool (a s x).1) w')→Z2 P f [S x] w1 K)
 (h: ∀w',Kpt D w w'→b (J3 a i xs 0).2 w'→K (I (W3 (J3 a i xs 0).1)) w'):Q0 P F.u [v,f] w K:=Jm (by
 unfold G2
 ((try simp only[↓M1,M1,Mb,reduceIte]);repeat ((first | refine ld (by assumption) (by assumption) rfl ?_ | refine X8 (by assumption) (by assumption) rfl ?_ | refine Q8 (by assumption) ?_);(try simp only[↓M1,M1,Mb,reduceIte])))
 refine J1 xs.length (fun n w'=>Kpt D w w'∧ ∃s,b s w'∧J3 a i xs 0=J3 a s (xs.drop n) n) ⟨Kpt.refl,i,E,rfl⟩ fun n w1 d H g=>?_
 obtain ⟨u,s,g,e⟩:=g
 have q:=j s w1 g
 ((try simp only[↓M1,M1,Mb,reduceIte]);repeat ((first | refine ld (by assumption) (by assumption) rfl ?_ | refine X8 (by assumption) (by assumption) rfl ?_ | refine Q8 (by assumption) ?_);(try simp only[↓M1,M1,Mb,reduceIte])))
 refine Q6 (fun o=>?_) (fun o=>?_)
 ·have c:n<xs.length:=by simpa using o
  refine L7 t c fun p cs z y B=>?_
  obtain ⟨rfl,l⟩:=B
  refine X8 q z rfl ?_
  refine A s xs[n] w1 _ (List.getElem_mem c) u g l fun C k m=>?_
  rw[List.drop_eq_getElem_cons c] at e
  simp only[J3] at e
  refine Q6 (fun r=>?_) (fun r=>?_)
  ·rw[r] at e
   have:=h C k
   rw[e] at this
   exact this m
  ·rw[r] at e
   ((try simp only[↓M1,M1,Mb,reduceIte]);repeat ((first | refine ld (by assumption) (by assumption) rfl ?_ | refine X8 (by assumption) (by assumption) rfl ?_ | refine Q8 (by assumption) ?_);(try simp only[↓M1,M1,Mb,reduceIte])))
   exact Y2 t.max c ⟨k,_,m,by simpa using e⟩
 ·have c: ¬n<xs.length:=by simpa using o
  rw[List.drop_eq_nil_of_le (by omega)] at e
  have:=h w1 u
  rw[e] at this
  exact this g)
theorem Ah {xs:List X0} {v f:Value} (p:X0→Bool) (hs:X4 w σ) (hv:Sl 1 Y1 σ v xs)
 (hf: ∀x (w1:World) (K:Value→World→Prop),x∈xs→X4 w1 σ→x.length≤Z9→(∀w',Below w1.heap.size w1 w'→K (.bool (p x)) w')→Z2 P f [S x] w1 K)
 (h: ∀w',Below w.heap.size w w'→K (I (W3 (xs.findIdx? p))) w'):Q0 P F.u [v,f] w K:=by
 refine Ai (fun (_:Unit) x=>(p x,())) () (fun _ w'=>Below w.heap.size w w') (fun _=>False) (fun _ w' hb=>hs.below hb) (Below.refl _ _) hv (fun s x w1 K hx hk hi hr hK=>hf x w1 K hx (hs.below hi) hr fun w' hb=>hK w' (.of_below (bt hi hb)) (bt hi hb)) fun w' hk hi=>?_
 rw[K4]
 simpa using h w' hi
theorem Q4Z {α:Type} (p:α→Bool) (xs:List α):decide ((0:Int)≤W3 (xs.findIdx? p))=xs.any p:=by
 rw[Bool.eq_iff_iff,List.any_eq_true]
 simp only[decide_eq_true_eq]
 cases h:xs.findIdx? p with
 | none=>
  simp only[W3]
  constructor
  ·intro h;omega
  ·rintro ⟨x,c,a⟩;have:=List.findIdx?_eq_none_iff.1 h x c;rw[a] at this;cases this
 | some i=>
  simp only[W3]
  obtain ⟨b,a,_⟩:=List.findIdx?_eq_some_iff_getElem.1 h
  exact ⟨fun _=>⟨xs[i],List.getElem_mem b,a⟩,fun _=>by omega⟩
theorem F5 {xs:List X0} {v f:Value} (p:X0→Bool) (a:X4 w σ) (b:Sl 1 Y1 σ v xs)
 (c: ∀x (w1:World) (K:Value→World→Prop),x∈xs→X4 w1 σ→x.length≤Z9→(∀w',Below w1.heap.size w1 w'→K (.bool (p x)) w')→Z2 P f [S x] w1 K)
 (h: ∀w',Below w.heap.size w w'→K (.bool (xs.any p)) w'):Q0 P F.d [v,f] w K:=Yn (by
 unfold B4
 refine Ah p a b c fun w1 d=>?_
 (try simp only[↓M1,M1,Mb,reduceIte])
 rw[Q4Z]
 exact h w1 d)
theorem Q2z {xs:List X0} {v:Value} {x:X0} (o:X4 w σ) (f:Sl 1 Y1 σ v xs)
 (h:K (I (W3 (xs.findIdx? fun y=>decide (x=y)))) w):Q0 P F.aq [v,S x] w K:=Lo (by
 unfold I9
 ((try simp only[↓M1,M1,Mb,reduceIte]);repeat ((first | refine ld (by assumption) (by assumption) rfl ?_ | refine X8 (by assumption) (by assumption) rfl ?_ | refine Q8 (by assumption) ?_);(try simp only[↓M1,M1,Mb,reduceIte])))
 refine J1 xs.length (fun n w'=>w=w'∧(xs.take n).any (fun y=>decide (x=y))=false) ⟨rfl,rfl⟩ fun n w1 d r b=>?_
 obtain ⟨rfl,b⟩:=b
 ((try simp only[↓M1,M1,Mb,reduceIte]);repeat ((first | refine ld (by assumption) (by assumption) rfl ?_ | refine X8 (by assumption) (by assumption) rfl ?_ | refine Q8 (by assumption) ?_);(try simp only[↓M1,M1,Mb,reduceIte])))
 refine Q6 (fun c=>?_) (fun c=>?_)
 ·have a:n<xs.length:=by simpa using c
  refine L7 f a fun p cs m g k=>?_
  obtain ⟨rfl,i⟩:=k
  ((try simp only[↓M1,M1,Mb,reduceIte]);repeat ((first | refine ld (by assumption) (by assumption) rfl ?_ | refine X8 (by assumption) (by assumption) rfl ?_ | refine Q8 (by assumption) ?_);(try simp only[↓M1,M1,Mb,reduceIte])))
  refine Q6 (fun e=>?_) (fun e=>?_)
  ·have:xs.findIdx? (fun y=>decide (x=y))=some n:=by
    rw[List.findIdx?_eq_some_iff_getElem]
    refine ⟨a,e,fun j q=>?_⟩
    have:=List.any_eq_false.1 b (xs[j]) (List.mem_take_iff_getElem.2 ⟨j,by omega,rfl⟩)
    exact this
   rw[this] at h;exact h
  ·((try simp only[↓M1,M1,Mb,reduceIte]);repeat ((first | refine ld (by assumption) (by assumption) rfl ?_ | refine X8 (by assumption) (by assumption) rfl ?_ | refine Q8 (by assumption) ?_);(try simp only[↓M1,M1,Mb,reduceIte])))
   exact Y2 f.max a ⟨rfl,by rw[M4 a,b,e];rfl⟩
 ·have a: ¬n<xs.length:=by simpa using c
  rw[D5 a] at b
  have:xs.findIdx? (fun y=>decide (x=y))=none:=by
   rw[List.findIdx?_eq_none_iff];intro y l;simpa using List.any_eq_false.1 b y l
  rw[this] at h;exact h)
theorem Q0B {xs:List X0} {v:Value} {x:X0} (a:X4 w σ) (b:Sl 1 Y1 σ v xs)
 (h:K (.bool (xs.any fun y=>decide (x=y))) w):Q0 P F.ad [v,S x] w K:=Jt (by
 unfold G6
 refine Q2z a b ?_
 (try simp only[↓M1,M1,Mb,reduceIte])
 rw[Q4Z]
 exact h)
end Go.Proofs.YtfppjenblllfaaaGreatDoor

namespace Go.Emb
abbrev Q5.Le (σ σ':Q5):Prop:= ∀b o,σ b=some o→σ' b=some o
def H1 {α:Type} (f:α→List UInt8):List α→List α→Bool
 | _,[]=>true
 | seen,x::r=> !(seen.any fun y=>decide (f y=f x))&&H1 f (seen++[x]) r
theorem Ub {α:Type} (p:α→Bool) (xs:List α):(!xs.any fun x=> !p x)=xs.all p:=by
 rw[List.all_eq_not_any_not]
end Go.Emb
namespace Go.Proofs.YtfppjenblllfaaaGreatDoor
open Go.Emb Go.RowKit Go.Kd Go.Hm
variable {w : World} {K : Value → World → Prop} {σ : Q5}
theorem Ts {xs:List Hm.Met} {v:Value} {fn:Fn} {m d:Array Value} (p:Hm.Met→Bool) (y:X4 w σ) (s:Sl 7 M6 σ v xs)
 (q: ∀(σ1:Q5) x cs (w1:World) (K:Value→World→Prop),σ.Le σ1→x∈xs→X4 w1 σ1→M6 σ1 x cs→cs.length=7→(∀w',Below w1.heap.size w1 w'→K (.bool (p x)) w')→Z2 P (.func fn m d) [.agg cs.toArray] w1 K)
 (h: ∀w',Below w.heap.size w w'→K (.bool (xs.all p)) w'):Q0 P F.al [v, .func fn m d] w K:=Hn (by
 unfold Zl
 refine N1 y fun a w1 σ1 f n=>?_
 simp only[Value.cells] at n
 ((try simp only[↓M1,M1,Mb,reduceIte]);repeat ((first | refine ld (by assumption) (by assumption) rfl ?_ | refine X8 (by assumption) (by assumption) rfl ?_ | refine Q8 (by assumption) ?_);(try simp only[↓M1,M1,Mb,reduceIte])))
 refine R1 (fun x=> !p x) f.sat (s.up f) (fun x cs l K C j r k u=>?_) fun l z=>?_
 ·refine Y8 (Oq ?_)
  unfold Xq
  refine N1 j fun b A B c g=>?_
  refine X8 c.sat (n.up c) rfl ?_
  refine Y9 c.sat g k ?_
  refine q B x _ A _ (fun b o e=>c.le b o (f.le b o e)) C c.sat (Rep.up c.le r) k fun t i=>?_
  (try simp only[↓M1,M1,Mb,reduceIte])
  exact u t (bt c.bel i)
 ·(try simp only[↓M1,M1,Mb,reduceIte])
  rw[Ub]
  exact h l (bt f.bel z))
theorem Q0t {xs:List Fld} {v:Value} {fn:Fn} {m d:Array Value} (p:Fld→Bool) (y:X4 w σ) (s:Sl 3 E2 σ v xs)
 (q: ∀(σ1:Q5) x cs (w1:World) (K:Value→World→Prop),σ.Le σ1→x∈xs→X4 w1 σ1→E2 σ1 x cs→cs.length=3→(∀w',Below w1.heap.size w1 w'→K (.bool (p x)) w')→Z2 P (.func fn m d) [.agg cs.toArray] w1 K)
 (h: ∀w',Below w.heap.size w w'→K (.bool (xs.all p)) w'):Q0 P F.ap [v, .func fn m d] w K:=Hs (by
 unfold Jh
 refine N1 y fun a w1 σ1 f n=>?_
 simp only[Value.cells] at n
 ((try simp only[↓M1,M1,Mb,reduceIte]);repeat ((first | refine ld (by assumption) (by assumption) rfl ?_ | refine X8 (by assumption) (by assumption) rfl ?_ | refine Q8 (by assumption) ?_);(try simp only[↓M1,M1,Mb,reduceIte])))
 refine Zk (fun x=> !p x) f.sat (s.up f) (fun x cs l K C j r k u=>?_) fun l z=>?_
 ·refine Y8 (De ?_)
  unfold Yg
  refine N1 j fun b A B c g=>?_
  refine X8 c.sat (n.up c) rfl ?_
  refine Y9 c.sat g k ?_
  refine q B x _ A _ (fun b o e=>c.le b o (f.le b o e)) C c.sat (Rep.up c.le r) k fun t i=>?_
  (try simp only[↓M1,M1,Mb,reduceIte])
  exact u t (bt c.bel i)
 ·(try simp only[↓M1,M1,Mb,reduceIte])
  rw[Ub]
  exact h l (bt f.bel z))
theorem Q0C {xs:List Ins} {v:Value} {fn:Fn} {m d:Array Value} (p:Ins→Bool) (y:X4 w σ) (s:Sl 3 I8 σ v xs)
 (q: ∀(σ1:Q5) x cs (w1:World) (K:Value→World→Prop),σ.Le σ1→x∈xs→X4 w1 σ1→I8 σ1 x cs→cs.length=3→(∀w',Below w1.heap.size w1 w'→K (.bool (p x)) w')→Z2 P (.func fn m d) [.agg cs.toArray] w1 K)
 (h: ∀w',Below w.heap.size w w'→K (.bool (xs.all p)) w'):Q0 P F.ar [v, .func fn m d] w K:=Hu (by
 unfold Jd
 refine N1 y fun a w1 σ1 f n=>?_
 simp only[Value.cells] at n
 ((try simp only[↓M1,M1,Mb,reduceIte]);repeat ((first | refine ld (by assumption) (by assumption) rfl ?_ | refine X8 (by assumption) (by assumption) rfl ?_ | refine Q8 (by assumption) ?_);(try simp only[↓M1,M1,Mb,reduceIte])))
 refine Hi (fun x=> !p x) f.sat (s.up f) (fun x cs l K C j r k u=>?_) fun l z=>?_
 ·refine Y8 (Dj ?_)
  unfold Yh
  refine N1 j fun b A B c g=>?_
  refine X8 c.sat (n.up c) rfl ?_
  refine Y9 c.sat g k ?_
  refine q B x _ A _ (fun b o e=>c.le b o (f.le b o e)) C c.sat (Rep.up c.le r) k fun t i=>?_
  (try simp only[↓M1,M1,Mb,reduceIte])
  exact u t (bt c.bel i)
 ·(try simp only[↓M1,M1,Mb,reduceIte])
  rw[Ub]
  exact h l (bt f.bel z))
theorem Q0z {xs:List Cat} {v:Value} {fn:Fn} {m d:Array Value} (p:Cat→Bool) (y:X4 w σ) (s:Sl 4 Yo σ v xs)
 (q: ∀(σ1:Q5) x cs (w1:World) (K:Value→World→Prop),σ.Le σ1→x∈xs→X4 w1 σ1→Yo σ1 x cs→cs.length=4→(∀w',Below w1.heap.size w1 w'→K (.bool (p x)) w')→Z2 P (.func fn m d) [.agg cs.toArray] w1 K)
 (h: ∀w',Below w.heap.size w w'→K (.bool (xs.all p)) w'):Q0 P F.au [v, .func fn m d] w K:=Hp (by
 unfold Jf
 refine N1 y fun a w1 σ1 f n=>?_
 simp only[Value.cells] at n
 ((try simp only[↓M1,M1,Mb,reduceIte]);repeat ((first | refine ld (by assumption) (by assumption) rfl ?_ | refine X8 (by assumption) (by assumption) rfl ?_ | refine Q8 (by assumption) ?_);(try simp only[↓M1,M1,Mb,reduceIte])))
 refine Hh (fun x=> !p x) f.sat (s.up f) (fun x cs l K C j r k u=>?_) fun l z=>?_
 ·refine Y8 (Dc ?_)
  unfold Yc
  refine N1 j fun b A B c g=>?_
  refine X8 c.sat (n.up c) rfl ?_
  refine Y9 c.sat g k ?_
  refine q B x _ A _ (fun b o e=>c.le b o (f.le b o e)) C c.sat (Rep.up c.le r) k fun t i=>?_
  (try simp only[↓M1,M1,Mb,reduceIte])
  exact u t (bt c.bel i)
 ·(try simp only[↓M1,M1,Mb,reduceIte])
  rw[Ub]
  exact h l (bt f.bel z))
theorem Cp {xs:List X0} {v:Value} {fn:Fn} {g b:Array Value} (p:X0→Bool) (o:X4 w σ) (l:Sl 1 Y1 σ v xs)
 (j: ∀(σ1:Q5) x (w1:World) (K:Value→World→Prop),σ.Le σ1→x∈xs→X4 w1 σ1→x.length≤Z9→(∀w',Below w1.heap.size w1 w'→K (.bool (p x)) w')→Z2 P (.func fn g b) [S x] w1 K)
 (h: ∀w',Below w.heap.size w w'→K (.bool (xs.all p)) w'):Q0 P F.a5 [v, .func fn g b] w K:=Gf (by
 unfold Li
 refine N1 o fun a w1 σ1 d i=>?_
 simp only[Value.cells] at i
 ((try simp only[↓M1,M1,Mb,reduceIte]);repeat ((first | refine ld (by assumption) (by assumption) rfl ?_ | refine X8 (by assumption) (by assumption) rfl ?_ | refine Q8 (by assumption) ?_);(try simp only[↓M1,M1,Mb,reduceIte])))
 refine F5 (fun x=> !p x) d.sat (l.up d) (fun x e K r c k n=>?_) fun e q=>?_
 ·refine Y8 (Sp ?_)
  unfold Ug
  refine X8 c i rfl ?_
  refine j σ1 x e _ d.le r c k fun m f=>?_
  (try simp only[↓M1,M1,Mb,reduceIte])
  exact n m f
 ·(try simp only[↓M1,M1,Mb,reduceIte])
  rw[Ub]
  exact h e (bt d.bel q))
theorem Q0w {xs:List Hm.Met} {v:Value} {fn:Fn} {E l:Array Value} (f:Hm.Met→X0) (hs:X4 w σ) (A:Sl 7 M6 σ v xs)
 (X: ∀(σ1:Q5) x cs (w1:World) (K:Value→World→Prop),σ.Le σ1→X4 w1 σ1→M6 σ1 x cs→cs.length=7→(∀w',Below w1.heap.size w1 w'→K (S (f x)) w')→Z2 P (.func fn E l) [.agg cs.toArray] w1 K)
 (h: ∀w',Below w.heap.size w w'→K (.bool (H1 f [] xs)) w'):Q0 P F.ao [v, .func fn E l] w K:=Hq (by
 unfold Jj
 refine N1 hs fun a w1 σ1 B ha=>?_
 simp only[Value.cells] at ha
 have N:=B.sat
 replace A:=A.up B
 ((try simp only[↓M1,M1,Mb,reduceIte]);repeat ((first | refine ld (by assumption) (by assumption) rfl ?_ | refine X8 (by assumption) (by assumption) rfl ?_ | refine Q8 (by assumption) ?_);(try simp only[↓M1,M1,Mb,reduceIte])))
 refine J1 xs.length (fun n w'=>Below w1.heap.size w1 w'∧H1 f [] xs=H1 f (xs.take n) (xs.drop n)) ⟨Below.refl _ _,rfl⟩ fun n w2 d hn hi=>?_
 obtain ⟨j,r⟩:=hi
 have D:=N.below j
 ((try simp only[↓M1,M1,Mb,reduceIte]);repeat ((first | refine ld (by assumption) (by assumption) rfl ?_ | refine X8 (by assumption) (by assumption) rfl ?_ | refine Q8 (by assumption) ?_);(try simp only[↓M1,M1,Mb,reduceIte])))
 refine Q6 (fun H=>?_) (fun H=>?_)
 ·have k:n<xs.length:=by simpa using H
  rw[List.drop_eq_getElem_cons k] at r
  simp only[H1] at r
  refine L7 A k fun p cs hl g Y=>?_
  refine Y9 D hl g ?_
  refine Y6 D (by rfl) g (Rep.one Y) fun q w3 σ3 i hq=>?_
  refine Su (A.up i) none (some (I n)) 0 n (.inl ⟨rfl,rfl⟩) (.inr rfl) (by omega) (by omega) fun v' V=>?_
  ((try simp only[↓M1,M1,Mb,reduceIte]);repeat ((first | refine ld (by assumption) (by assumption) rfl ?_ | refine X8 (by assumption) (by assumption) rfl ?_ | refine Q8 (by assumption) ?_);(try simp only[↓M1,M1,Mb,reduceIte])))
  refine R1 (fun y=>decide (f y=f xs[n])) i.sat V (fun y ys Z K hy J U C hK=>?_) fun Z R=>?_
  ·refine Y8 (Oy ?_)
   unfold Yd
   refine N1 J fun b w5 L c M=>?_
   have u:=(ha.up i).up c
   have W:=hq.up c
   have m:σ.Le L:=fun b o e=>c.le b o (i.le b o (B.le b o e))
   refine Ni (Below.refl _ _) ?_
   refine X2 (.func fn E l) (fun w j=>X8 (c.sat.below j) u rfl (X6 rfl)) ?_
   refine X2 (.agg ys.toArray) (fun w j=>Y9 (c.sat.below j) M C (X6 rfl)) ?_
   refine X2 (S (f y)) (fun t t' w j e e'=>by rw[e,e'];exact X L y ys w _ m (c.sat.below j) (Rep.up c.le U) C fun w' O=>Q1W O rfl) ?_
   refine X2 (.func fn E l) (fun w j=>X8 (c.sat.below j) u rfl (X6 rfl)) ?_
   refine X2 (.agg cs.toArray) (fun w j=>Y9 (c.sat.below j) W g (X6 rfl)) ?_
   rintro _ _ _ _ _ w6 z rfl rfl rfl rfl rfl
   refine X L xs[n] cs w6 _ m (c.sat.below z) (Rep.up (fun b o e=>c.le b o (i.le b o e)) Y) g fun w7 Q=>?_
   (try simp only[↓M1,M1,Mb,reduceIte])
   exact hK w7 (bt (bt c.bel z) Q)
  ·have s:=bt j (bt i.bel R)
   simp only[List.drop_zero,Nat.sub_zero] at*
   refine Q6 (fun hh=>?_) (fun hh=>?_)
   ·rw[hh] at r
    have:=h Z (bt B.bel s)
    rw[r] at this;exact this
   ·rw[hh] at r
    ((try simp only[↓M1,M1,Mb,reduceIte]);repeat ((first | refine ld (by assumption) (by assumption) rfl ?_ | refine X8 (by assumption) (by assumption) rfl ?_ | refine Q8 (by assumption) ?_);(try simp only[↓M1,M1,Mb,reduceIte])))
    refine Y2 A.max k ⟨s,?_⟩
    rw[r,List.take_add_one,List.getElem?_eq_getElem k];rfl
 ·have k: ¬n<xs.length:=by simpa using H
  rw[List.drop_eq_nil_of_le (by omega)] at r
  have:=h w2 (bt B.bel j)
  rw[r] at this;exact this)
theorem Q1d {xs:List Fld} {v:Value} {fn:Fn} {E l:Array Value} (f:Fld→X0) (hs:X4 w σ) (A:Sl 3 E2 σ v xs)
 (X: ∀(σ1:Q5) x cs (w1:World) (K:Value→World→Prop),σ.Le σ1→X4 w1 σ1→E2 σ1 x cs→cs.length=3→(∀w',Below w1.heap.size w1 w'→K (S (f x)) w')→Z2 P (.func fn E l) [.agg cs.toArray] w1 K)
 (h: ∀w',Below w.heap.size w w'→K (.bool (H1 f [] xs)) w'):Q0 P F.az [v, .func fn E l] w K:=Sr (by
 unfold Uf
 refine N1 hs fun a w1 σ1 B ha=>?_
 simp only[Value.cells] at ha
 have N:=B.sat
 replace A:=A.up B
 ((try simp only[↓M1,M1,Mb,reduceIte]);repeat ((first | refine ld (by assumption) (by assumption) rfl ?_ | refine X8 (by assumption) (by assumption) rfl ?_ | refine Q8 (by assumption) ?_);(try simp only[↓M1,M1,Mb,reduceIte])))
 refine J1 xs.length (fun n w'=>Below w1.heap.size w1 w'∧H1 f [] xs=H1 f (xs.take n) (xs.drop n)) ⟨Below.refl _ _,rfl⟩ fun n w2 d hn hi=>?_
 obtain ⟨j,r⟩:=hi
 have D:=N.below j
 ((try simp only[↓M1,M1,Mb,reduceIte]);repeat ((first | refine ld (by assumption) (by assumption) rfl ?_ | refine X8 (by assumption) (by assumption) rfl ?_ | refine Q8 (by assumption) ?_);(try simp only[↓M1,M1,Mb,reduceIte])))
 refine Q6 (fun H=>?_) (fun H=>?_)
 ·have k:n<xs.length:=by simpa using H
  rw[List.drop_eq_getElem_cons k] at r
  simp only[H1] at r
  refine L7 A k fun p cs hl g Y=>?_
  refine Y9 D hl g ?_
  refine Y6 D (by rfl) g (Rep.one Y) fun q w3 σ3 i hq=>?_
  refine Su (A.up i) none (some (I n)) 0 n (.inl ⟨rfl,rfl⟩) (.inr rfl) (by omega) (by omega) fun v' V=>?_
  ((try simp only[↓M1,M1,Mb,reduceIte]);repeat ((first | refine ld (by assumption) (by assumption) rfl ?_ | refine X8 (by assumption) (by assumption) rfl ?_ | refine Q8 (by assumption) ?_);(try simp only[↓M1,M1,Mb,reduceIte])))
  refine Zk (fun y=>decide (f y=f xs[n])) i.sat V (fun y ys Z K hy J U C hK=>?_) fun Z R=>?_
  ·refine Y8 (Dw ?_)
   unfold Yq
   refine N1 J fun b w5 L c M=>?_
   have u:=(ha.up i).up c
   have W:=hq.up c
   have m:σ.Le L:=fun b o e=>c.le b o (i.le b o (B.le b o e))
   refine Ni (Below.refl _ _) ?_
   refine X2 (.func fn E l) (fun w j=>X8 (c.sat.below j) u rfl (X6 rfl)) ?_
   refine X2 (.agg ys.toArray) (fun w j=>Y9 (c.sat.below j) M C (X6 rfl)) ?_
   refine X2 (S (f y)) (fun t t' w j e e'=>by rw[e,e'];exact X L y ys w _ m (c.sat.below j) (Rep.up c.le U) C fun w' O=>Q1W O rfl) ?_
   refine X2 (.func fn E l) (fun w j=>X8 (c.sat.below j) u rfl (X6 rfl)) ?_
   refine X2 (.agg cs.toArray) (fun w j=>Y9 (c.sat.below j) W g (X6 rfl)) ?_
   rintro _ _ _ _ _ w6 z rfl rfl rfl rfl rfl
   refine X L xs[n] cs w6 _ m (c.sat.below z) (Rep.up (fun b o e=>c.le b o (i.le b o e)) Y) g fun w7 Q=>?_
   (try simp only[↓M1,M1,Mb,reduceIte])
   exact hK w7 (bt (bt c.bel z) Q)
  ·have s:=bt j (bt i.bel R)
   simp only[List.drop_zero,Nat.sub_zero] at*
   refine Q6 (fun hh=>?_) (fun hh=>?_)
   ·rw[hh] at r
    have:=h Z (bt B.bel s)
    rw[r] at this;exact this
   ·rw[hh] at r
    ((try simp only[↓M1,M1,Mb,reduceIte]);repeat ((first | refine ld (by assumption) (by assumption) rfl ?_ | refine X8 (by assumption) (by assumption) rfl ?_ | refine Q8 (by assumption) ?_);(try simp only[↓M1,M1,Mb,reduceIte])))
    refine Y2 A.max k ⟨s,?_⟩
    rw[r,List.take_add_one,List.getElem?_eq_getElem k];rfl
 ·have k: ¬n<xs.length:=by simpa using H
  rw[List.drop_eq_nil_of_le (by omega)] at r
  have:=h w2 (bt B.bel j)
  rw[r] at this;exact this)
theorem Q3E {xs:List X0} {v:Value} {fn:Fn} {D k:Array Value} (f:X0→X0) (hs:X4 w σ) (z:Sl 1 Y1 σ v xs)
 (R: ∀(σ1:Q5) x (w1:World) (K:Value→World→Prop),σ.Le σ1→X4 w1 σ1→x.length≤Z9→(∀w',Below w1.heap.size w1 w'→K (S (f x)) w')→Z2 P (.func fn D k) [S x] w1 K)
 (h: ∀w',Below w.heap.size w w'→K (.bool (H1 f [] xs)) w'):Q0 P F.aK [v, .func fn D k] w K:=Kx (by
 unfold Mg
 refine N1 hs fun a w1 σ1 A V=>?_
 simp only[Value.cells] at V
 have H:=A.sat
 replace z:=z.up A
 ((try simp only[↓M1,M1,Mb,reduceIte]);repeat ((first | refine ld (by assumption) (by assumption) rfl ?_ | refine X8 (by assumption) (by assumption) rfl ?_ | refine Q8 (by assumption) ?_);(try simp only[↓M1,M1,Mb,reduceIte])))
 refine J1 xs.length (fun n w'=>Below w1.heap.size w1 w'∧H1 f [] xs=H1 f (xs.take n) (xs.drop n)) ⟨Below.refl _ _,rfl⟩ fun n w2 d hn X=>?_
 obtain ⟨j,m⟩:=X
 have C:=H.below j
 ((try simp only[↓M1,M1,Mb,reduceIte]);repeat ((first | refine ld (by assumption) (by assumption) rfl ?_ | refine X8 (by assumption) (by assumption) rfl ?_ | refine Q8 (by assumption) ?_);(try simp only[↓M1,M1,Mb,reduceIte])))
 refine Q6 (fun E=>?_) (fun E=>?_)
 ·have c:n<xs.length:=by simpa using E
  rw[List.drop_eq_getElem_cons c] at m
  simp only[H1] at m
  refine L7 z c fun p cs Y W hr=>?_
  obtain ⟨rfl,B⟩:=hr
  refine X8 C Y rfl ?_
  refine U3 C (by rfl) rfl rfl fun q w3 Q i hq=>?_
  refine Su (z.up i) none (some (I n)) 0 n (.inl ⟨rfl,rfl⟩) (.inr rfl) (by omega) (by omega) fun v' O=>?_
  ((try simp only[↓M1,M1,Mb,reduceIte]);repeat ((first | refine ld (by assumption) (by assumption) rfl ?_ | refine X8 (by assumption) (by assumption) rfl ?_ | refine Q8 (by assumption) ?_);(try simp only[↓M1,M1,Mb,reduceIte])))
  refine F5 (fun y=>decide (f y=f xs[n])) i.sat O (fun y U K hy g N hK=>?_) fun U M=>?_
  ·refine Y8 (Sy ?_)
   unfold Vn
   have s:=V.up i
   have l:σ.Le Q:=fun b o e=>i.le b o (A.le b o e)
   refine Ni (Below.refl _ _) ?_
   refine X2 (.func fn D k) (fun w j=>X8 (g.below j) s rfl (X6 rfl)) ?_
   refine X2 (S (f y)) (fun t w j e=>by rw[e];exact R Q y w _ l (g.below j) N fun w' J=>Q1W J rfl) ?_
   refine X2 (.func fn D k) (fun w j=>X8 (g.below j) s rfl (X6 rfl)) ?_
   refine X2 (S xs[n]) (fun w j=>X8 (g.below j) hq rfl (X6 rfl)) ?_
   rintro _ _ _ _ Z u rfl rfl rfl rfl
   refine R Q xs[n] Z _ l (g.below u) B fun w7 L=>?_
   (try simp only[↓M1,M1,Mb,reduceIte])
   exact hK w7 (bt u L)
  ·have r:=bt j (bt i.bel M)
   simp only[List.drop_zero,Nat.sub_zero] at*
   refine Q6 (fun hh=>?_) (fun hh=>?_)
   ·rw[hh] at m
    have:=h U (bt A.bel r)
    rw[m] at this;exact this
   ·rw[hh] at m
    ((try simp only[↓M1,M1,Mb,reduceIte]);repeat ((first | refine ld (by assumption) (by assumption) rfl ?_ | refine X8 (by assumption) (by assumption) rfl ?_ | refine Q8 (by assumption) ?_);(try simp only[↓M1,M1,Mb,reduceIte])))
    refine Y2 z.max c ⟨r,?_⟩
    rw[m,List.take_add_one,List.getElem?_eq_getElem c];rfl
 ·have c: ¬n<xs.length:=by simpa using E
  rw[List.drop_eq_nil_of_le (by omega)] at m
  have:=h w2 (bt A.bel j)
  rw[m] at this;exact this)
theorem Q5y {P:Program} {w:World} (d:Nat) (t e:TypeId) (a:Option Addr) (n c:Nat) (h:P.underlying t=some (.slice e)):
 (Op.equalIn (d+1) t (.slice a n c) (.slice none 0 0)).run P w= .ok a.isNone w:=by
 cases a<;>simp[Op.equalIn,run_underlying h]
theorem Bc {t e:TypeId} {g d:Operand} [ts:TS P t e] {a:Option Addr} {n c:Nat} {b:Bool} (j:a.isNone=b) (f:K (.bool b) w):Q3 P .eql t g d (.slice a n c) (.slice none 0 0) w K:=by
 have i:(Op.equal t (.slice a n c) (.slice none 0 0)).run P w= .ok b w:=by
  have:=Q5y (P:=P) (w:=w) 9999 t e a n c ts.h
  rw[j] at this
  exact this
 unfold Q3
 rw[Y0 (v:= .bool b) (w':=w) (by simp[eqGuard,Go.binOp,i])]
 exact f
theorem Vg {xs:List X0} {v:Value} (g:X4 w σ) (f:Sl 1 Y1 σ v xs) (s:xs.length≤1000000)
 (h: ∀i w' b,Stp w σ w' b→Sl 1 Y1 b i xs→K i w'):Q0 P F.b [v] w K:=K3 (by
 unfold R5
 have c:=f
 obtain ⟨a,n,rfl,y,z,j,C⟩:=f
 refine Bc rfl ?_
 refine Q6 (fun e=>?_) (fun e=>?_)
 ·have:a=none:=by simpa using e
  have A:=j this
  have r:xs=[]:=List.eq_nil_of_length_eq_zero (by omega)
  subst r
  exact h _ w σ (Stp.refl g) Sl.nil
 ·refine Qc (R:=Y1) (sz:=1) (Stp.refl g) [] [] rfl rfl (by simp) (by rfl) trivial fun t w1 m o _=>?_
  refine app m o c (by rfl) (by simp only[List.length_nil];omega) (by simp only[List.length_nil];omega) fun B l u q d _=>?_
  obtain ⟨b,k,p,_⟩:=d.keep q
  exact h _ l b k p)
theorem Od {xs:List Fld} {v:Value} (g:X4 w σ) (f:Sl 3 E2 σ v xs) (s:xs.length≤1000000)
 (h: ∀i w' b,Stp w σ w' b→Sl 3 E2 b i xs→K i w'):Q0 P F.a9 [v] w K:=Zm (by
 unfold F2
 have c:=f
 obtain ⟨a,n,rfl,y,z,j,C⟩:=f
 refine Bc rfl ?_
 refine Q6 (fun e=>?_) (fun e=>?_)
 ·have:a=none:=by simpa using e
  have A:=j this
  have r:xs=[]:=List.eq_nil_of_length_eq_zero (by omega)
  subst r
  exact h _ w σ (Stp.refl g) Sl.nil
 ·refine Qc (R:=E2) (sz:=3) (Stp.refl g) [] [] rfl rfl (by simp) (by rfl) trivial fun t w1 m o _=>?_
  refine app m o c (by rfl) (by simp only[List.length_nil];omega) (by simp only[List.length_nil];omega) fun B l u q d _=>?_
  obtain ⟨b,k,p,_⟩:=d.keep q
  exact h _ l b k p)
theorem Nz {xs:List Ins} {v:Value} (g:X4 w σ) (f:Sl 3 I8 σ v xs) (s:xs.length≤1000000)
 (h: ∀i w' b,Stp w σ w' b→Sl 3 I8 b i xs→K i w'):Q0 P F.aa [v] w K:=Yr (by
 unfold B9
 have c:=f
 obtain ⟨a,n,rfl,y,z,j,C⟩:=f
 refine Bc rfl ?_
 refine Q6 (fun e=>?_) (fun e=>?_)
 ·have:a=none:=by simpa using e
  have A:=j this
  have r:xs=[]:=List.eq_nil_of_length_eq_zero (by omega)
  subst r
  exact h _ w σ (Stp.refl g) Sl.nil
 ·refine Qc (R:=I8) (sz:=3) (Stp.refl g) [] [] rfl rfl (by simp) (by rfl) trivial fun t w1 m o _=>?_
  refine app m o c (by rfl) (by simp only[List.length_nil];omega) (by simp only[List.length_nil];omega) fun B l u q d _=>?_
  obtain ⟨b,k,p,_⟩:=d.keep q
  exact h _ l b k p)
theorem Nt {xs:List Cat} {v:Value} (g:X4 w σ) (f:Sl 4 Yo σ v xs) (s:xs.length≤1000000)
 (h: ∀i w' b,Stp w σ w' b→Sl 4 Yo b i xs→K i w'):Q0 P F.ab [v] w K:=Yu (by
 unfold F3
 have c:=f
 obtain ⟨a,n,rfl,y,z,j,C⟩:=f
 refine Bc rfl ?_
 refine Q6 (fun e=>?_) (fun e=>?_)
 ·have:a=none:=by simpa using e
  have A:=j this
  have r:xs=[]:=List.eq_nil_of_length_eq_zero (by omega)
  subst r
  exact h _ w σ (Stp.refl g) Sl.nil
 ·refine Qc (R:=Yo) (sz:=4) (Stp.refl g) [] [] rfl rfl (by simp) (by rfl) trivial fun t w1 m o _=>?_
  refine app m o c (by rfl) (by simp only[List.length_nil];omega) (by simp only[List.length_nil];omega) fun B l u q d _=>?_
  obtain ⟨b,k,p,_⟩:=d.keep q
  exact h _ l b k p)
end Go.Proofs.YtfppjenblllfaaaGreatDoor

namespace Go.Hm
open Go.Kd
structure Opr where
  name : X0
  number : Bool
  text : Bool
deriving DecidableEq
def Zh:List Opr:=[
 ⟨[105,110,116],true,false⟩,
 ⟨[116,114,117,101],false,false⟩,
 ⟨[102,97,108,115,101],false,false⟩,
 ⟨[119,111,114,100],false,true⟩,
 ⟨[110,117,108,108],false,false⟩,
 ⟨[108,111,97,100],true,false⟩,
 ⟨[115,116,111,114,101],true,false⟩,
 ⟨[112,111,112],false,false⟩,
 ⟨[100,117,112],false,false⟩,
 ⟨[115,119,97,112],false,false⟩,
 ⟨[97,100,100],false,false⟩,
 ⟨[115,117,98],false,false⟩,
 ⟨[109,117,108],false,false⟩,
 ⟨[100,105,118],false,false⟩,
 ⟨[114,101,109],false,false⟩,
 ⟨[110,101,103],false,false⟩,
 ⟨[108,101,115,115],false,false⟩,
 ⟨[115,97,109,101],false,false⟩,
 ⟨[110,111,116],false,false⟩,
 ⟨[98,111,116,104],false,false⟩,
 ⟨[106,111,105,110],false,false⟩,
 ⟨[115,105,122,101],false,false⟩,
 ⟨[106,117,109,112],true,false⟩,
 ⟨[98,114,97,110,99,104],true,false⟩,
 ⟨[110,101,119],false,true⟩,
 ⟨[103,101,116],false,true⟩,
 ⟨[112,117,116],false,true⟩,
 ⟨[99,97,108,108],false,true⟩,
 ⟨[97,114,114,97,121],false,true⟩,
 ⟨[97,116],false,false⟩,
 ⟨[115,101,116],false,false⟩,
 ⟨[105,115],false,true⟩,
 ⟨[99,97,115,116],false,true⟩,
 ⟨[114,101,116,117,114,110],false,false⟩,
 ⟨[116,104,114,111,119],false,false⟩,
 ⟨[111,117,116],false,false⟩,
 ⟨[101,113,117,97,108],false,false⟩,
 ⟨[97,110,100],false,false⟩,
 ⟨[111,114],false,false⟩,
 ⟨[120,111,114],false,false⟩,
 ⟨[115,104,108],false,false⟩,
 ⟨[115,104,114],false,false⟩]
end Go.Hm
namespace Go.Emb
open Go.Hm
def ROp (_:Q5) (o:Opr) (cs:List Value):Prop:=cs=[S o.name, .bool o.number, .bool o.text]
def cOp (o:Opr):List Value:=[S o.name, .bool o.number, .bool o.text]
instance:Rep ROp:=⟨fun _ h=>h,fun h u hu=>by rw[h] at hu;simp at hu;rcases hu with rfl | rfl | rfl<;>rfl⟩
end Go.Emb
namespace Go.Proofs.YtfppjenblllfaaaGreatDoor
open Go.Emb Go.RowKit Go.Kd Go.Hm
variable {w : World} {K : Value → World → Prop} {σ : Q5}
theorem Q4G {a:X0} (l:a.length≤Z9) (h: ∀w',Below w.heap.size w w'→K (.bool (L9 a)) w'):Q0 P F.bz [S a] w K:=Q2p (by
 unfold Ce
 have b:a.length≤140737488355328:=by simp only[Z9] at l;omega
 refine Q5f a b fun w1 g=>?_
 cases d:name a
 ·(try simp only[↓M1,M1,Mb,reduceIte])
  have:=h w1 g
  rwa [show L9 a=false by cases a with | nil=>rfl | cons c r=>simp[L9,d]] at this
 ·(try simp only[↓M1,M1,Mb,reduceIte])
  refine Dq a b fun j k=>?_
  (try simp only[↓M1,M1,Mb,reduceIte])
  have:=h j (bt g k)
  rwa [show L9 a= !W7 a by
   cases a with
   | nil=>simp[name] at d
   | cons c r=>
    obtain ⟨e,m⟩:=Gz d
    simp only[W7,L9,d,Bool.true_and]
    simp only[E3,m,Bool.or_false] at e
    cases f:Qa c.toNat<;>cases i:I7 c.toNat
    ·simp[f,i] at e
    ·rfl
    ·rfl
    ·exfalso
     simp only[Qa,I7,Bool.and_eq_true,decide_eq_true_eq] at f i
     omega] at this)
theorem X0B {t e:TypeId} {n sz by_:Nat} {z:Value} [ta:TA P t n e] [tz:TZ P e sz by_ z] {a:Addr} (b:K (.slice (some a) n n) w):H7 P t (.pointer (some a)) none none none w K:=by
 unfold H7
 have:(Instr.sliceAt t (.pointer (some a)) none none none).run P w= .ok (.slice (some (if n=0 then a else a.add (0*sz))) (n-0) (n-0)) w:=by
  simp[Instr.sliceAt,run_underlying ta.h,Instr.sureAddr,Instr.sliceBounds,W5 tz]
 rw[Y0 this]
 have c:(if n=0 then a else a.add (0*sz))=a:=by
  by_cases h:n=0
  ·rw[if_pos h]
  ·rw[if_neg h,Nat.zero_mul,add_zero]
 rw[c];exact b
def Q1e (σ:Q5):Prop:=Z3 σ ⟨G.a,0,none⟩ (Zh.flatMap cOp)
theorem Q6m (i:Nat) (o:Opr) (h:Zh[i]? =some o):((Zh.flatMap cOp).drop (i*3)).take 3=cOp o:=by
 have c:i<42:=(List.getElem?_eq_some_iff.1 h).1
 have key: ∀l:List Opr,∀i o,l[i]? =some o→((l.flatMap cOp).drop (i*3)).take 3=cOp o:=by
  intro l
  induction l with
  | nil=>intro i o h;simp at h
  | cons a r b=>
   intro i o h
   cases i with
   | zero=>simp at h;subst h;rfl
   | succ i=>
    have:=b i o (by simpa using h)
    rw[List.flatMap_cons,show (i+1)*3=(cOp a).length+i*3 by simp[cOp];omega,List.drop_append]
    simpa [List.drop_eq_nil_of_le] using this
 exact key _ i o h
theorem Q1K {σ:Q5} {a:Addr} {cs:List Value} (h:Z3 σ a cs) (i n:Nat):Z3 σ (a.add i) ((cs.drop i).take n):=by
 obtain ⟨f,D6,e,d,c,g⟩:=h
 refine ⟨I1 f _,D6,e,d,by rw[C3];exact c,fun j v b=>?_⟩
 rw[List.getElem?_take] at b
 split at b
 ·rw[List.getElem?_drop] at b
  rw[Xv,Nat.add_assoc];exact g _ _ b
 ·cases b
theorem X1A (h:Q1e σ):Sl 3 ROp σ (.slice (some ⟨G.a,0,none⟩) 42 42) Zh:=by
 refine ⟨_,42,rfl,by decide,by decide,by simp,?_⟩
 rintro _ ⟨⟩
 refine ⟨fun _=>rfl,fun i x a=>⟨cOp x,?_,rfl,rfl⟩⟩
 rw[←Q6m i x a]
 exact Q1K h (i*3) 3
theorem Kj {β:Type} {xs:List Opr} {v f:Value} (a:β→Opr→Bool×β) (j:β) (b:β→World→Prop) (D:Nat→Prop) (k: ∀s w,b s w→X4 w σ) (C:b j w) (t:Sl 3 ROp σ v xs)
 (z: ∀s x cs (w1:World) (K:Value→World→Prop),x∈xs→Kpt D w w1→b s w1→ROp σ x cs→cs.length=3→(∀w',Kpt D w w'→b (a s x).2 w'→K (.bool (a s x).1) w')→Z2 P f [.agg cs.toArray] w1 K)
 (h: ∀w',Kpt D w w'→b (J3 a j xs 0).2 w'→K (I (W3 (J3 a j xs 0).1)) w'):Q0 P F.s [v,f] w K:=Zn (by
 unfold B8
 ((try simp only[↓M1,M1,Mb,reduceIte]);repeat ((first | refine ld (by assumption) (by assumption) rfl ?_ | refine X8 (by assumption) (by assumption) rfl ?_ | refine Q8 (by assumption) ?_);(try simp only[↓M1,M1,Mb,reduceIte])))
 refine J1 xs.length (fun n w'=>Kpt D w w'∧ ∃s,b s w'∧J3 a j xs 0=J3 a s (xs.drop n) n) ⟨Kpt.refl,j,C,rfl⟩ fun n w1 d E i=>?_
 obtain ⟨u,s,i,e⟩:=i
 have q:=k s w1 i
 ((try simp only[↓M1,M1,Mb,reduceIte]);repeat ((first | refine ld (by assumption) (by assumption) rfl ?_ | refine X8 (by assumption) (by assumption) rfl ?_ | refine Q8 (by assumption) ?_);(try simp only[↓M1,M1,Mb,reduceIte])))
 refine Q6 (fun o=>?_) (fun o=>?_)
 ·have c:n<xs.length:=by simpa using o
  refine L7 t c fun p cs y g A=>?_
  refine Y9 q y g ?_
  refine z s xs[n] cs w1 _ (List.getElem_mem c) u i A g fun B l m=>?_
  rw[List.drop_eq_getElem_cons c] at e
  simp only[J3] at e
  refine Q6 (fun r=>?_) (fun r=>?_)
  ·rw[r] at e
   have:=h B l
   rw[e] at this
   exact this m
  ·rw[r] at e
   ((try simp only[↓M1,M1,Mb,reduceIte]);repeat ((first | refine ld (by assumption) (by assumption) rfl ?_ | refine X8 (by assumption) (by assumption) rfl ?_ | refine Q8 (by assumption) ?_);(try simp only[↓M1,M1,Mb,reduceIte])))
   exact Y2 t.max c ⟨l,_,m,by simpa using e⟩
 ·have c: ¬n<xs.length:=by simpa using o
  rw[List.drop_eq_nil_of_le (by omega)] at e
  have:=h w1 u
  rw[e] at this
  exact this i)
theorem Kw {xs:List Opr} {v f:Value} (p:Opr→Bool) (hs:X4 w σ) (hv:Sl 3 ROp σ v xs)
 (hf: ∀x cs (w1:World) (K:Value→World→Prop),x∈xs→X4 w1 σ→ROp σ x cs→cs.length=3→(∀w',Below w1.heap.size w1 w'→K (.bool (p x)) w')→Z2 P f [.agg cs.toArray] w1 K)
 (h: ∀w',Below w.heap.size w w'→K (I (W3 (xs.findIdx? p))) w'):Q0 P F.s [v,f] w K:=by
 refine Kj (fun (_:Unit) x=>(p x,())) () (fun _ w'=>Below w.heap.size w w') (fun _=>False) (fun _ w' hb=>hs.below hb) (Below.refl _ _) hv (fun s x cs w1 K hx hk hi hr hl hK=>hf x cs w1 K hx (hs.below hi) hr hl fun w' hb=>hK w' (.of_below (bt hi hb)) (bt hi hb)) fun w' hk hi=>?_
 rw[K4]
 simpa using h w' hi
theorem Q1e.le {σ a:Q5} (h:Q1e σ) (c: ∀b o,σ b=some o→a b=some o):Q1e a:=Z3.le h c
def P2 (n:X0):Option Nat:=Zh.findIdx? fun o=>decide (o.name=n)
theorem X1C {a:X0} (r:X4 w σ) (l:Q1e σ) (h: ∀w',Below w.heap.size w w'→K (I (W3 (P2 a))) w'):Q0 P F.cF [S a] w K:=Q5G (by
 unfold Q0K
 refine N1 r fun p w1 σ1 c g=>?_
 simp only[Value.cells] at g
 refine X0B ?_
 ((try simp only[↓M1,M1,Mb,reduceIte]);repeat ((first | refine ld (by assumption) (by assumption) rfl ?_ | refine X8 (by assumption) (by assumption) rfl ?_ | refine Q8 (by assumption) ?_);(try simp only[↓M1,M1,Mb,reduceIte])))
 refine Kw (fun o=>decide (o.name=a)) c.sat (X1A (l.le c.le)) (fun x cs f K y e k u m=>?_) fun f s=>?_
 ·refine Y8 (Q3A ?_)
  unfold Ij
  refine N1 e fun q t v b n=>?_
  have d:cs=[S x.name, .bool x.number, .bool x.text]:=k
  subst d
  have i:=b.sat
  have j:=g.up b
  simp only[Value.cells] at n
  ((try simp only[↓M1,M1,Mb,reduceIte]);repeat ((first | refine ld (by assumption) (by assumption) rfl ?_ | refine X8 (by assumption) (by assumption) rfl ?_ | refine Q8 (by assumption) ?_);(try simp only[↓M1,M1,Mb,reduceIte])))
  exact m t b.bel
 ·(try simp only[↓M1,M1,Mb,reduceIte])
  exact h f (bt c.bel s))
def takes (n:X0):Bool×Bool×Bool:=match P2 n with
 | none=>(false,false,false)
 | some i=>((Zh.getD i ⟨[],false,false⟩).number,(Zh.getD i ⟨[],false,false⟩).text,true)
theorem X17 {a:X0} (l:X4 w σ) (k:Q1e σ) (h: ∀w',Below w.heap.size w w'→K (.tuple #[.bool (takes a).1, .bool (takes a).2.1, .bool (takes a).2.2]) w'):Q0 P F.bY [S a] w K:=Q4S (by
 unfold Po
 refine X1C l k fun w1 b=>?_
 have c:=l.below b
 unfold takes at h
 cases f:P2 a with
 | none=>
  rw[f] at h
  simp only[W3]
  (try simp only[↓M1,M1,Mb,reduceIte])
  simp only[show decide ((-1:Int)<0)=true from rfl,↓M1,M1,Mb,reduceIte]
  exact h w1 b
 | some i=>
  rw[f] at h
  simp only at h
  have m:i<42:=(List.findIdx?_eq_some_iff_getElem.1 f).1
  have j:Zh[i]? =some (Zh.getD i ⟨[],false,false⟩):=by
   rw[List.getD,List.getElem?_eq_getElem (by exact m)];rfl
  generalize Zh.getD i ⟨[],false,false⟩=o at h j
  have d:=Q1K k (i*3) 3
  rw[Q6m i o j] at d
  simp only[W3]
  have p:decide ((i:Int)<0)=false:=by simp
  simp only[p,↓M1,M1,Mb,reduceIte]
  have A: ∀{w:World} {K:Value→World→Prop},K (.pointer (some ((⟨G.a,0,none⟩:Addr).add (i*3)))) w→indexAddr P T.a8 (.pointer (some ⟨G.a,0,none⟩)) (I i) w K:=by
   intro w K h
   rw[Q8X (by omega) (by omega)]
   simpa using h
  refine Ni (Below.refl _ _) ?_
  refine X2 (.pointer (some ((⟨G.a,0,none⟩:Addr).add (i*3)))) (fun w b=>A (X6 rfl)) ?_
  refine X2 (.pointer (some (((⟨G.a,0,none⟩:Addr).add (i*3)).add 1))) (fun t w b e=>by rw[e,fa];exact X6 rfl) ?_
  refine X2 (.pointer (some ((⟨G.a,0,none⟩:Addr).add (i*3)))) (fun w b=>A (X6 rfl)) ?_
  refine X2 (.pointer (some (((⟨G.a,0,none⟩:Addr).add (i*3)).add 2))) (fun t w b e=>by rw[e,fa];exact X6 rfl) ?_
  refine X2 (.bool o.number) (fun t w b e=>by rw[e];exact ld (c.below b) d rfl (X6 rfl)) ?_
  refine X2 (.bool o.text) (fun t w b e=>by rw[e];exact ld (c.below b) d rfl (X6 rfl)) ?_
  rintro _ _ _ _ _ _ n g rfl rfl rfl rfl rfl rfl
  exact h n (bt b g))
end Go.Proofs.YtfppjenblllfaaaGreatDoor

namespace Go.Emb
open Go.RowKit Go.Hm
variable {P : Program} {w w0 w1 w' w'' : World} {K : Value → World → Prop} {σ σ0 σ1 σ' : Q5}
structure SLe (σ σ' : Q5) : Prop where
  le : ∀ b o, σ b = some o → σ' b = some o
theorem SLe.refl (σ:Q5):SLe σ σ:=⟨fun _ _ h=>h⟩
theorem SLe.step {w w':World} (h:SLe σ0 σ) (k:Stp w σ w' σ'):SLe σ0 σ':=⟨fun b o e=>k.le b o (h.le b o e)⟩
theorem SLe.more (h:SLe σ0 σ) (k:SLe σ σ'):SLe σ0 σ':=⟨fun b o e=>k.le b o (h.le b o e)⟩
structure Hst (w : World) (σ : Q5) (w' : World) (σ' : Q5) : Prop where
  stp : Stp w σ w' σ'
theorem Hst.sat (h:Hst w σ w' σ'):X4 w' σ':=h.stp.sat
section lifts
variable {α : Type} {R : Q5 → α → List Value → Prop} {sz : Nat} {v : Value} {xs : List α} {a : Addr} {cs : List Value}
theorem Sl.lift [Rep R] (h:Sl sz R σ0 v xs) (k:SLe σ0 σ):Sl sz R σ v xs:=h.le k.le
theorem Z3.lift (h:Z3 σ0 a cs) (k:SLe σ0 σ):Z3 σ a cs:=h.le k.le
theorem I5.lift {r:Nat} {m:List (List UInt8×Value)} (h:I5 σ0 r m) (k:SLe σ0 σ):I5 σ r m:=h.le k.le
theorem RMe_lift {x:Hm.Met} (h:M6 σ0 x cs) (k:SLe σ0 σ):M6 σ x cs:=Rep.up k.le h
theorem RCl_lift {x:Cla} (h:U5 σ0 x cs) (k:SLe σ0 σ):U5 σ x cs:=Rep.up k.le h
theorem RFd_any {x:Fld} (h:E2 σ0 x cs):E2 σ x cs:=h
theorem RIn_any {x:Ins} (h:I8 σ0 x cs):I8 σ x cs:=h
theorem RCa_any {x:Cat} (h:Yo σ0 x cs):Yo σ x cs:=h
theorem Z5.step {b:Nat} (h:Z5 σ w b cs) (k:Stp w σ w' σ'):Z5 σ' w' b cs:=h.up k
theorem V7.step [Rep R] {B:Nat} {e:TypeId} (h:V7 B e sz R σ w v xs) (k:Stp w σ w' σ'):V7 B e sz R σ' w' v xs:=h.up k
end lifts
theorem W0 {Q:World→Prop} (c:X4 w σ) (h: ∀w' σ',Stp w σ w' σ'→Q w'): ∀w',Below w.heap.size w w'→Q w':=fun w' d=>h w' σ (Stp.of_below c d)
section plain
variable {k : IntKind} {t : TypeId} {ox oy : Operand} {a b : Int} {x y : Bool} {s u : List UInt8}
theorem E4 (h:K (.int k (k.wrap (a+b))) w):Q3 P .add t ox oy (.int k a) (.int k b) w K:=by rw[Cy];exact h
theorem X0i (h:K (.int k (k.wrap (a-b))) w):Q3 P .sub t ox oy (.int k a) (.int k b) w K:=by rw[Q0a];exact h
theorem Cu (c: -9223372036854775808≤a+b∧a+b≤9223372036854775807) (h:K (I (a+b)) w):Q3 P .add t ox oy (I a) (I b) w K:=by rw[Cy,F4 c.1 c.2];exact h
theorem Du (c: -9223372036854775808≤a-b∧a-b≤9223372036854775807) (h:K (I (a-b)) w):Q3 P .sub t ox oy (I a) (I b) w K:=by rw[Q0a,F4 c.1 c.2];exact h
theorem Z1 (h:K (.bool (decide (a<b))) w):Q3 P .lss t ox oy (.int k a) (.int k b) w K:=by rw[Q2h];exact h
theorem X2v (h:K (.bool (decide (a≤b))) w):Q3 P .leq t ox oy (.int k a) (.int k b) w K:=by rw[Q2v];exact h
theorem Q0g (h:K (.bool (decide (b<a))) w):Q3 P .gtr t ox oy (.int k a) (.int k b) w K:=by rw[Q2j];exact h
theorem Xe (h:K (.bool (decide (b≤a))) w):Q3 P .geq t ox oy (.int k a) (.int k b) w K:=by rw[Q0s];exact h
theorem Ro (h:K (.bool (decide (a=b))) w):Q3 P .eql t ox oy (.int k a) (.int k b) w K:=by rw[Q07];exact h
theorem K1 (h:K (.bool (!decide (a=b))) w):Q3 P .neq t ox oy (.int k a) (.int k b) w K:=by rw[Q2A];exact h
theorem Wc (h:K (.bool (!x)) w):Z8 P .not (.bool x) w K:=by rw[Q2q];exact h
theorem Vx (h:K (.bool (decide (s=u))) w):Q3 P .eql t ox oy (S s) (S u) w K:=by rw[Rx];exact h
theorem Wo (h:K (.bool (!decide (s=u))) w):Q3 P .neq t ox oy (S s) (S u) w K:=by rw[Rz];exact h
theorem Rl (c:s.length+u.length≤9223372036854775807) (h:K (S (s++u)) w):Q3 P .add t ox oy (S s) (S u) w K:=by rw[Q5u c];exact h
theorem Q1C {cs:List Bool} {r:TypeId} (c:P.underlying t=some .string) (h:K (I s.length) w):X5 P .len [t] r cs [S s] w K:=by rw[D7 c];exact h
theorem X0V {v u:Value} (h:K v w):pick P (.bool true) v u w K:=by rw[Rq];exact h
theorem X1d {v u:Value} (h:K u w):pick P (.bool false) v u w K:=by rw[Dh];exact h
theorem Zq {v u:Value} (h:K (if x=true then v else u) w):pick P (.bool x) v u w K:=by rw[Nr];exact h
theorem Q8z {f:Fn} {first caps:List Value} (h:K (.func f first.toArray caps.toArray) w):M7 P f first caps w K:=by rw[Qp];exact h
theorem U7 {vs:List Value} {i:Nat} {v:Value} (c:vs[i]? =some v) (h:K v w):ext P (.tuple vs.toArray) i w K:=by rw[Zd c];exact h
theorem Q3R {a:Addr} (h:K (.pointer (some a)) w):nilCheck P (.pointer (some a)) w K:=by rw[E9];exact h
theorem V1 {t e:Prop} (h:t):X1 (.bool true) t e:=by rw[Nh];exact h
theorem V6 {t e:Prop} (h:e):X1 (.bool false) t e:=by rw[Uz];exact h
theorem X1E {c:World→(Value→World→Prop)→Prop} (h:c w K):Q1 (.bool true) true w c K:=by rw[I3];exact h
theorem X1N {c:World→(Value→World→Prop)→Prop} (h:c w K):Q1 (.bool false) false w c K:=by rw[Vi];exact h
theorem X0M {c:World→(Value→World→Prop)→Prop} (h:K undef w):Q1 (.bool true) false w c K:=by rw[Ta];exact h
theorem X0G {c:World→(Value→World→Prop)→Prop} (h:K undef w):Q1 (.bool false) true w c K:=by rw[Uc];exact h
end plain
section mem
variable {α : Type} {R : Q5 → α → List Value → Prop} {sz : Nat} {v : Value} {xs : List α} {a : Addr} {cs : List Value}
theorem Y7 {t:TypeId} (c:X4 w σ) (h: ∀a w' σ',Stp w σ w' σ'→Z3 σ' a cs→K (.pointer (some a)) w'):box P t (.agg cs.toArray) w K:=
 N1 c fun a w' σ' f d=>h a w' σ' f (by simpa [Value.cells] using d)
theorem J9 {t:TypeId} (d:X4 w σ) (g:v.cells= #[v]) (h: ∀a w' σ',Stp w σ w' σ'→Z3 σ' a [v]→K (.pointer (some a)) w'):box P t v w K:=
 N1 d fun a w' σ' f c=>h a w' σ' f (by rw[g] at c;exact c)
theorem Xj (h:Sl sz R σ v xs):v.cells= #[v]:=by
 obtain ⟨a,c,rfl,_⟩:=h;rfl
theorem M9 {t:TypeId} {k c:Nat} {d:TypeId} {sz by_:Nat} {z:Value} [tf:TF P t k c d] [tz:TZ P d sz by_ z] [nz:NZ sz] (h:K (.pointer (some (a.add c))) w):fieldAddr P t (.pointer (some a)) k w K:=by
 rw[fa];exact h
theorem V3 {t:TypeId} {k c:Nat} {d:TypeId} [tf:TF P t k c d] [tg:TG P d false] {cs:List Value} {v:Value} (f:cs[c]? =some v) (h:K v w):Ut P t (.agg cs.toArray) k w K:=by
 rw[X0W (v:=v) (by simpa using f)];exact h
end mem
theorem U8 {A:(World→World→Prop)→(World→Prop)→Prop} (d:X4 w σ) (h:A (fun w w'=>Below w.heap.size w w') (fun w'=>Hst w σ w' σ)):dr w A:=
 Q0c _ _ ⟨Stp.of_below d (Below.refl _ _).drew⟩ (fun _ _ c f=>⟨c.stp.trans (Stp.of_below c.sat f)⟩) h
theorem L2 {α:Type} {R:Q5→α→List Value→Prop} {sz:Nat} {v:Value} {xs:List α} {t:TypeId} (c:X4 w σ) (d:Sl sz R σ v xs) (h: ∀a w' σ',Stp w σ w' σ'→Z3 σ' a [v]→K (.pointer (some a)) w'):box P t v w K:=
 J9 c (Xj d) h
section elems
variable {v : Value} {t e : TypeId} {by_ : Nat} {z : Value} {n : Nat}
theorem Js {xs:List Kd.X0} [TS P t e] [TZ P e 1 by_ z] (h:Sl 1 Y1 σ v xs) (d:n<xs.length) (c: ∀a,Z3 σ a [S xs[n]]→xs[n].length≤Z9→K (.pointer (some a)) w):indexAddr P t v (I n) w K:=
 L7 h d fun a cs f j i=>by obtain ⟨rfl,g⟩:=i;exact c a f g
theorem Q7S {xs:List Fld} [TS P t e] [TZ P e 3 by_ z] (h:Sl 3 E2 σ v xs) (d:n<xs.length) (c: ∀a,Z3 σ a [S xs[n].name,S xs[n].kind, .bool xs[n].tr]→E2 σ xs[n] [S xs[n].name,S xs[n].kind, .bool xs[n].tr]→K (.pointer (some a)) w):indexAddr P t v (I n) w K:=
 L7 h d fun a cs f j i=>by obtain ⟨rfl,g⟩:=i;exact c a f ⟨rfl,g⟩
end elems
end Go.Emb

namespace Go.Hm
open Go.Kd
abbrev Uq:=X0→Option Cla
def Y3 (l:List Cla) (n:X0):Option Nat:=l.findIdx? fun c=>decide (c.name=n)
def lk (l:List Cla):Uq:=fun n=>(Y3 l n).bind (l[·]?)
def J4 (c:Cla):List X0:=c.super::c.like
def Z7:X0:=[79,98,106,101,99,116]
def V9:X0:=[70,97,117,108,116]
def D0:X0:=[110,117,108,108]
def O4:X0:=[116,101,120,116]
def P1:X0:=[119,104,97,116]
def J6:List X0:=[[78,117,108,108,70,97,117,108,116],[73,110,100,101,120,70,97,117,108,116],[67,97,115,116,70,97,117,108,116],[90,101,114,111,70,97,117,108,116],[82,111,111,109,70,97,117,108,116],[67,97,108,108,70,97,117,108,116]]
def B7:List Cla:=[⟨Z7,[],[],false,false,false,[],[]⟩,⟨V9,Z7,[],false,false,false,[⟨P1,O4,false⟩],[]⟩]++J6.map fun n=>⟨n,V9,[],false,false,true,[],[]⟩
def Jg (L:Uq):Nat→List X0→List X0→List X0
 | 0,_,a=>a
 | _,[],a=>a
 | f+1,n::b,a=>match L n with
  | none=>Jg L f b a
  | some c=>if n∈a then Jg L f b a else Jg L f (b++J4 c) (a++[n])
def weigh (l:List Cla) (a:List X0):Nat:=(l.map fun c=>if c.name∈a then 0 else (J4 c).length).sum
def V5:X0:=[105,110,116]
def N3:X0:=[98,111,111,108]
def R4 (l:List Cla) (n:X0):List X0:=Jg (lk l) (1+weigh l []) [n] []
def Al (l:List Cla) (n:X0):Bool:=(Y3 l n).isSome
def N0 (l:List Cla) (s:X0):Bool:=decide (s=D0)||(right s&&(plain (base s).1||Al l (base s).1))
def W9 (l:List Cla) (a b:X0):Bool:=
 if !N0 l a|| !N0 l b then false else if a=b then true else if plain a||plain b then false else if a=D0 then true
 else if elem a≠[] then decide (b=Z7) else (R4 l a).contains b
def C6 (L:Uq):Nat→X0→List Cla
 | 0,_=>[]
 | f+1,n=>match L n with
  | none=>[]
  | some c=>c::C6 L f c.super
def chain (l:List Cla) (n:X0):List Cla:=C6 (lk l) (l.length+1) n
def W8 (l:List Cla) (a b:X0):X0:=
 if W9 l a b then b else if W9 l b a then a else if !N0 l a|| !N0 l b||plain a||plain b then []
 else match (chain l a).find? fun c=>W9 l b c.name with
  | some c=>c.name
  | none=>Z7
def M8 (l:List Cla) (n:X0):List Fld:=(chain l n).reverse.flatMap (·.fields)
def Xr (l:List Cla) (n f:X0):Option Nat:=(M8 l n).findIdx? fun x=>decide (x.name=f)
def R2 (c:Cla) (n:X0):Option Hm.Met:=c.methods.find? fun m=>decide (m.name=n)
def Ej (L:Uq):Nat→Cla→X0→Option (X0×Hm.Met)
 | 0,_,_=>none
 | f+1,c,n=>c.like.findSome? fun u=>match L u with
  | none=>none
  | some d=>match R2 d n with
   | some m=>some (u,m)
   | none=>Ej L f d n
def U0 (l:List Cla) (k n:X0):Option (X0×Hm.Met):=
 match (chain l k).findSome? fun c=>(R2 c n).map (c.name,·) with
 | some r=>some r
 | none=>(chain l k).findSome? fun c=>Ej (lk l) (l.length+1) c n
def Q9l (l:List Cla) (n:X0):Bool:=match lk l n with
 | some c=> !c.abs
 | none=>false
def O3:List X0→X0
 | []=>[]
 | [a]=>a
 | a::b::r=>a++[44]++O3 (b::r)
def P7 (m:Hm.Met):X0:=[40]++O3 m.params++[41]++m.result
def D9 (l:List Cla) (s:X0):Bool:= !decide (s=D0)&&N0 l s
def Qy (l:List Cla) (c:Cla):Bool:=c.fields.any fun f=>(Xr l c.super f.name).isSome
def B1 (l:List Cla) (c:Cla):Bool:=c.fields.any (fun f=> !D9 l f.kind)||c.methods.any fun m=>(!D9 l m.result&& !decide (m.result=[]))||m.params.any fun s=> !D9 l s
def Vo (l:List Cla) (n:X0):List Hm.Met:=(R4 l n).flatMap fun u=>((lk l u).map (·.methods)).getD []
def Wx (a:List Hm.Met):Bool:=a.any fun x=>a.any fun y=>decide (x.name=y.name)&& !decide (P7 x=P7 y)
def Xx (l:List Cla) (c:Cla):Bool:=Wx (Vo l c.name)
def Xo (l:List Cla) (k n:X0):Bool:=match U0 l k n with
 | none=>true
 | some r=>r.2.abs
def Nj (l:List Cla) (c:Cla):Bool:= !c.abs&&(Vo l c.name).any fun m=>Xo l c.name m.name
def V2 (l:List Cla) (c:Cla):Nat:=if Qy l c then 64 else if B1 l c then 65 else if Xx l c then 66 else if Nj l c then 67 else 0
def P8 (l:List Cla) (n:X0):Bool:=match lk l n with
 | none=>true
 | some d=>d.iface||d.fin
def O7 (l:List Cla) (n:X0):Bool:=match lk l n with
 | none=>true
 | some d=> !d.iface
def L5 (l:List Cla) (c:Cla):Nat:=if P8 l c.super then 61 else if c.like.any (O7 l) then 62 else 0
def G0 (l:List Cla) (c:Cla):Bool:=(J4 c).any fun n=>(R4 l n).contains c.name
def I2 (l:List Cla) (frm:Nat):Nat→List Nat→Nat→List Nat
 | 0,a,_=>a
 | f+1,a,i=>if i<frm then a else if i∈a then a else ((J4 (l.getD i Cla.zero)).foldl (fun a n=>I2 l frm f a ((Y3 l n).getD 0)) a)++[i]
def U9 (l:List Cla) (frm:Nat):List Nat:=((List.range l.length).drop frm).foldl (fun a i=>I2 l frm (l.length+1) a i) []
end Go.Hm

namespace Go.Emb
open Go.RowKit Go.Hm
variable {P : Program} {w w0 w1 w' w'' : World} {K : Value → World → Prop} {σ σ0 σ1 σ' : Q5}
def U6 {α:Type} (B:Nat) (e:TypeId) (sz:Nat) (R:Q5→α→List Value→Prop) (σ:Q5) (w:World) (v:Value) (xs:List α):Prop:=
 ∃a c,v= .slice a xs.length c∧xs.length≤c∧c≤maxLen∧(∀b,a=some b→b.spot=none∧B≤b.block∧b.block<w.heap.size∧σ b.block=none)∧(0<c→ ∃g d f,a=some ⟨g,d,none⟩∧B≤g∧σ g=none∧w.heap[g]? =some (.cells f e (0,0))∧d+c*sz≤f.size∧ ∀i x,xs[i]? =some x→R σ x ((f.toList.drop (d+i*sz)).take sz))
section
variable {α : Type} {R : Q5 → α → List Value → Prop} {B sz : Nat} {e : TypeId} {v u : Value} {xs ys : List α}
theorem U6.of_acc (h:V7 B e sz R σ w v xs):U6 B e sz R σ w v xs:=by
 obtain ⟨cells,p,k,q⟩:=h
 rcases p.2 with ⟨rfl,r⟩ | ⟨g,c,d,rfl,l,j,b,a,o,f⟩
 ·exact ⟨none,0,by rw[r],by omega,by simp,by simp,fun h=>by omega⟩
 ·refine ⟨_,c,rfl,b,a,by rintro _ ⟨⟩;exact ⟨rfl,l,(Array.getElem?_eq_some_iff.1 j).1,k g rfl⟩,fun _=>⟨g,0,d,rfl,l,k g rfl,j,by omega,fun i x m=>?_⟩⟩
  have n:i<xs.length:=(List.getElem?_eq_some_iff.1 m).1
  have hh:i*sz+sz≤xs.length*sz:=by rw[←Nat.succ_mul];exact Nat.mul_le_mul_right _ n
  have:=q i x m
  rw[←f,List.drop_take,List.take_take] at this
  rw[Nat.zero_add]
  rwa [show min sz (xs.length*sz-i*sz)=sz by omega] at this
theorem U6.mem (h:U6 B e sz R σ w v xs) {k:Nat} (c:v.ownBlock=some k):B≤k∧k<w.heap.size∧σ k=none:=by
 obtain ⟨a,d,rfl,g,f,b,i⟩:=h
 cases a with
 | none=>cases c
 | some a=>cases c;exact (b a rfl).2
theorem U6.up [hr:Rep R] (h:U6 B e sz R σ w v xs) (d:Stp w σ w' σ'):U6 B e sz R σ' w' v xs:=by
 obtain ⟨a,k,rfl,s,r,c,t⟩:=h
 refine ⟨a,k,rfl,s,r,fun b f=>⟨(c b f).1,(c b f).2.1,Nat.lt_of_lt_of_le (c b f).2.2.1 d.bel.size,(d.old _ (c b f).2.2.1).trans (c b f).2.2.2⟩,fun o=>?_⟩
 obtain ⟨g,j,l,rfl,p,y,n,z,q⟩:=t o
 have m:=(Array.getElem?_eq_some_iff.1 n).1
 exact ⟨g,j,l,rfl,p,(d.old g m).trans y,(d.bel.block g m).trans n,z,fun i x A=>hr.up d.le (q i x A)⟩
theorem U6.step [hr:Rep R] (h:U6 B e sz R σ w v xs) (a:Stp w σ w' σ'):U6 B e sz R σ' w' v xs:=h.up a
theorem U6.kp {D:Nat→Prop} (h:U6 B e sz R σ w v xs) (m:Kpt D w w') (l: ∀k,v.ownBlock=some k→ ¬D k):U6 B e sz R σ w' v xs:=by
 obtain ⟨a,i,rfl,t,s,c,y⟩:=h
 refine ⟨a,i,rfl,t,s,fun b d=>⟨(c b d).1,(c b d).2.1,Nat.lt_of_lt_of_le (c b d).2.2.1 m.size,(c b d).2.2.2⟩,fun p=>?_⟩
 obtain ⟨g,f,j,rfl,q,z,n,A,r⟩:=y p
 have o:=(Array.getElem?_eq_some_iff.1 n).1
 exact ⟨g,f,j,rfl,q,z,(m.block g o (l g rfl)).trans n,A,r⟩
theorem Bs {b t:TypeId} {cs:List Bool} [ts:TS P b e] (h:U6 B e sz R σ w v xs) (c:K (I xs.length) w):X5 P .len [b] t cs [v] w K:=by
 obtain ⟨a,d,rfl,_⟩:=h
 rw[Q6e];exact c
theorem Q49 {t:TypeId} {by_:Nat} {z:Value} [TS P t e] [TZ P e sz by_ z] (h:U6 B e sz R σ w v xs) {n:Nat} (p:n<xs.length)
 (k: ∀a cs,(∀j u,cs[j]? =some u→w.cell? (a.add j)=some u)→cs.length=sz→R σ xs[n] cs→K (.pointer (some a)) w):indexAddr P t v (I n) w K:=by
 obtain ⟨a,d,rfl,s,r,m,l⟩:=h
 obtain ⟨g,c,f,rfl,q,y,o,A,i⟩:=l (by omega)
 rw[Cd (by omega) (by omega)]
 have hh:n*sz+sz≤d*sz:=by rw[←Nat.succ_mul];exact Nat.mul_le_mul_right _ (by omega)
 refine k _ ((f.toList.drop (c+n*sz)).take sz) ?_ ?_ (i n _ (by simp[p]))
 ·intro j u b
  rw[List.getElem?_take] at b
  split at b
  ·rw[List.getElem?_drop] at b
   unfold World.cell?
   rw[C3,C3,Xv,Xv,I1 (I1 rfl _)]
   simp only[o]
   simpa using b
  ·cases b
 ·rw[List.length_take,List.length_drop,Array.length_toList];omega
theorem X0g {t:TypeId} {by_:Nat} {z:Value} [ts:TS P t e] [tz:TZ P e sz by_ z] (h:U6 B e sz R σ w v xs) (l:Nat) (H:l≤xs.length)
 (y: ∀k,U6 B e sz R σ w k (xs.drop l)→(k.ownBlock=v.ownBlock∨k.ownBlock=none)→K k w):H7 P t v (some (I l)) none none w K:=by
 obtain ⟨a,c,rfl,A,L,d,o⟩:=h
 have hh: ∀w:World,(Instr.sliceBounds true xs.length c (some (I l)) none none).run P w= .ok (l,xs.length,c) w:=by
  intro w
  have E:(l:Int)≤xs.length:=by omega
  simp[Instr.sliceBounds,Instr.sliceBound,asIntOf,A,E]
  intros;omega
 unfold H7
 have:(Instr.sliceAt t (.slice a xs.length c) (some (I l)) none none).run P w= .ok (.slice (if c=l then a else a.map (·.add (l*sz))) (xs.length-l) (c-l)) w:=by
  simp[Instr.sliceAt,run_underlying ts.h,Instr.slice,hh,W5 tz]
 rw[Y0 this]
 refine y _ ⟨_,c-l,by rw[List.length_drop],by rw[List.length_drop];omega,by omega,?_,fun J=>?_⟩ ?_
 ·intro b j
  split at j
  ·exact d b j
  ·cases a with
   | none=>cases j
   | some a=>cases j;exact ⟨I1 (d a rfl).1 _,by rw[C3];exact (d a rfl).2⟩
 ·have q:=o (by omega)
  clear o
  obtain ⟨g,m,n,rfl,r,C,D,M,s⟩:=q
  refine ⟨g,m+l*sz,n,?_,r,C,D,?_,fun i x p=>?_⟩
  ·rw[if_neg (by omega)];simp only[Option.map_some];congr 1;unfold Addr.add;split<;>simp_all
  ·have:l*sz+(c-l)*sz=c*sz:=by rw[←Nat.add_mul];congr 1;omega
   omega
  ·rw[List.getElem?_drop] at p
   have:=s _ _ p
   rwa [Nat.add_mul,←Nat.add_assoc] at this
 ·left
  by_cases f:c=l
  ·rw[if_pos f];cases a<;>rfl
  ·rw[if_neg f]
   cases a with
   | none=>rfl
   | some a=>simp only[Option.map_some,Value.ownBlock,C3]
theorem Q1Q {t X:TypeId} {by_:Nat} {z:Value} {cs:List Bool} [ts:TS P t e] [tz:TZ P e sz by_ z] [hr:Rep R] (hs:X4 w σ) (hB:B≤w.heap.size) (ha:U6 B e sz R σ w v xs) (H:Sl sz R σ u ys) (hz:(z.cells.size==sz&&decide (0<sz))=true)
 (Q:(xs.length+ys.length)*by_≤140737488355328) (hm:xs.length+ys.length≤1000000000000)
 (h: ∀s w',Kpt (fun k=>v.ownBlock=some k∧B≤k∧σ k=none) w w'→X4 w' σ→U6 B e sz R σ w' s (xs++ys)→((∃a m,v= .slice a xs.length m∧s= .slice a (xs.length+ys.length) m)∨(Below w.heap.size w w'∧ ∀k,s.ownBlock=some k→w.heap.size≤k))→K s w'):X5 P .append [t,t] X cs [v,u] w K:=by
 obtain ⟨A,c,rfl,c1,c2,y,c3⟩:=ha
 obtain ⟨a,m,d,rfl,n1,n2,n3,n4,n5⟩:=H.cells hs
 obtain ⟨i,hi,E,ak,M⟩:=tz.info
 simp only[Bool.and_eq_true,beq_iff_eq,decide_eq_true_eq] at hz
 obtain ⟨al,a7⟩:=hz
 have N: ∀s w',(Builtin.append_ #[t,t] X #[.slice A xs.length c, .slice a ys.length m]).run P w= .ok s w'→Kpt (fun k=>(Value.slice A xs.length c).ownBlock=some k∧B≤k∧σ k=none) w w'→U6 B e sz R σ w' s (xs++ys)→((∃a m,(Value.slice A xs.length c)= .slice a xs.length m∧s= .slice a (xs.length+ys.length) m)∨(Below w.heap.size w w'∧ ∀k,s.ownBlock=some k→w.heap.size≤k))→X5 P .append [t,t] X cs [.slice A xs.length c, .slice a ys.length m] w K:=by
  intro s w' D hk hq an
  have L:(builtin .append #[t,t] X cs.toArray #[.slice A xs.length c, .slice a ys.length m]).run P w= .ok (.value s) w':=by
   simp[builtin,D]
  unfold X5
  rw[Xc];unfold T7
  rw[L]
  exact h s w' hk (fun k o ho=>by rw[hk.block k (hs.lt ho) fun e=>by rw[e.2.2] at ho;cases ho];exact hs k o ho) hq an
 have q:Src P i.size t (.slice a ys.length m) ys.length d w:=by
  cases a with
  | some b=>exact Src.ofSlice w ts.h b ys.length m d (by rw[E];exact n2) (n3 b rfl) n4
  | none=>
   have hy:ys.length=0:=by
    obtain ⟨a',a1,e',q1,_,W,_⟩:=H;injection e' with e1 e2 e3;have:=n1 rfl;omega
   have hn:d=[]:=List.eq_nil_of_length_eq_zero (by rw[n2,hy];simp)
   subst hn
   rw[hy];exact Src.ofNil w ts.h m
 by_cases r:xs.length+ys.length≤c
 ·by_cases J:c=0
  ·-- nothing at all
   subst J
   have p:xs=[]:=List.eq_nil_of_length_eq_zero (by omega)
   have hy:ys=[]:=List.eq_nil_of_length_eq_zero (by omega)
   subst p hy
   have hn:d=[]:=List.eq_nil_of_length_eq_zero (by simpa using n2)
   subst hn
   refine N (.slice A 0 0) w ?_ Kpt.refl ⟨A,0,rfl,by simp,by simp,y,fun h=>by omega⟩ (.inl ⟨_,_,rfl,rfl⟩)
   have hl:=q.len w
   have C:=q.cells
   simp only[List.length_nil] at hl C⊢
   cases A<;>simp[Builtin.append_,run_underlying ts.h,sizeOf,typeInfo,hi,hl,C,storeCells]
  ·obtain ⟨g,l,f,rfl,q1,q2,W,q4,q5⟩:=c3 (by omega)
   have e1:(xs.length+ys.length)*sz≤c*sz:=Nat.mul_le_mul_right _ r
   rw[Nat.add_mul] at e1
   have V:=run_storeCells_at P g (l+xs.length*sz) e d 0 f w W (by omega) n4
   simp only[Nat.add_zero] at V
   obtain ⟨Y,av⟩:=Dn (cs:=(f.toList.take (l+xs.length*sz)++d++f.toList.drop (l+xs.length*sz+d.length)).toArray) W
   refine N (.slice (some ⟨g,l,none⟩) (xs.length+ys.length) c) _ ?_ (Kpt.of_upd Y ⟨rfl,q1,q2⟩) ?_ (.inl ⟨_,_,rfl,rfl⟩)
   ·have hl:=q.len w
    have C:=q.cells
    rw[E] at C
    simp[Builtin.append_,run_underlying ts.h,sizeOf,typeInfo,hi,hl,C,E,r,Addr.add_lit,V]
   ·refine ⟨_,c,by rw[List.length_append],by rw[List.length_append];exact r,c2,fun b Q=>⟨(y b Q).1,(y b Q).2.1,by rw[Y.size];exact (y b Q).2.2.1,(y b Q).2.2.2⟩,fun _=>⟨g,l,_,rfl,q1,q2,av,?_,fun j x p=>?_⟩⟩
    ·simp;omega
    ·by_cases U:j<xs.length
     ·rw[List.getElem?_append_left U] at p
      have:=q5 j x p
      have hh:j*sz+sz≤xs.length*sz:=by rw[←Nat.succ_mul];exact Nat.mul_le_mul_right _ U
      have e2:((f.toList.take (l+xs.length*sz)++d++f.toList.drop (l+xs.length*sz+d.length)).toArray.toList.drop (l+j*sz)).take sz=(f.toList.drop (l+j*sz)).take sz:=by
       rw[List.toList_toArray,List.append_assoc]
       rw[List.drop_append_of_le_length (by rw[List.length_take,Array.length_toList (xs:=f)];omega),List.take_append_of_le_length (by rw[List.length_drop,List.length_take,Array.length_toList (xs:=f)];omega),List.drop_take,List.take_take]
       congr 1;omega
      rw[e2];exact this
     ·rw[List.getElem?_append_right (by omega)] at p
      have:=n5 _ _ p
      have ao:j-xs.length<ys.length:=(List.getElem?_eq_some_iff.1 p).1
      have hh:(j-xs.length)*sz+sz≤ys.length*sz:=by rw[←Nat.succ_mul];exact Nat.mul_le_mul_right _ ao
      have bd:j*sz=xs.length*sz+(j-xs.length)*sz:=by rw[←Nat.add_mul];congr 1;omega
      have e2:((f.toList.take (l+xs.length*sz)++d++f.toList.drop (l+xs.length*sz+d.length)).toArray.toList.drop (l+j*sz)).take sz=(d.drop ((j-xs.length)*sz)).take sz:=by
       rw[List.toList_toArray,List.append_assoc]
       rw[List.drop_append,List.drop_eq_nil_of_le (by rw[List.length_take,Array.length_toList (xs:=f)];omega),List.nil_append,List.length_take,Array.length_toList (xs:=f),
        show l+j*sz-min (l+xs.length*sz) f.size=(j-xs.length)*sz by omega,
        List.drop_append_of_le_length (by omega),List.take_append_of_le_length (by rw[List.length_drop];omega)]
      rw[e2];exact this
 ·-- a new row
  have O: ∃n:List Value,n.length=xs.length*sz∧(Builtin.firstCells i.size xs.length (.slice A xs.length c)).run P w.drew= .ok n.toArray w.drew∧ ∀j x,xs[j]? =some x→R σ x ((n.drop (j*sz)).take sz):=by
   by_cases J:c=0
   ·subst J
    have p:xs=[]:=List.eq_nil_of_length_eq_zero (by omega)
    subst p
    refine ⟨[],by simp,?_,by simp⟩
    cases A with
    | none=>exact run_firstCells_none w.drew i.size 0 0 0
    | some a'=>exact run_firstCells_some w.drew i.size 0 a' 0 0 [] (by simp) (by intro _ _ h';simp at h')
   ·obtain ⟨g,l,f,rfl,q1,q2,W,q4,q5⟩:=c3 (by omega)
    have e1:xs.length*sz≤c*sz:=Nat.mul_le_mul_right _ c1
    refine ⟨(f.toList.drop l).take (xs.length*sz),by rw[List.length_take,List.length_drop,Array.length_toList (xs:=f)];omega,?_,fun j x p=>?_⟩
    ·refine run_firstCells_some w.drew i.size xs.length ⟨g,l,none⟩ xs.length c _ (by rw[List.length_take,List.length_drop,Array.length_toList (xs:=f),E];omega) (fun j u H=>?_)
     rw[List.getElem?_take] at H
     split at H
     ·rw[List.getElem?_drop] at H
      have ar:w.drew.heap[g]? =some (.cells f e (0,0)):=W
      unfold World.cell?
      rw[C3,Xv,I1 rfl]
      simp only[ar]
      simpa using H
     ·cases H
    ·have U:j<xs.length:=(List.getElem?_eq_some_iff.1 p).1
     have hh:j*sz+sz≤xs.length*sz:=by rw[←Nat.succ_mul];exact Nat.mul_le_mul_right _ U
     have:=q5 j x p
     rw[List.drop_take,List.take_take,List.drop_drop,show min sz (xs.length*sz-j*sz)=sz by omega]
     exact this
  obtain ⟨n,o1,o2,o3⟩:=O
  have hg:c<xs.length+ys.length:=by omega
  have D:=run_append_grow_src (P:=P) w t t X e i z ts.h hi M A xs.length c n o2 (.slice a ys.length m) ys.length d q hg (by omega) (growslice_fits hg (by rw[ak];exact Q))
  have ay:=grownCap_le_maxLen w (xs.length+ys.length) c e (by simp only[maxLen];omega)
  have aq:=grownCap_ge w (xs.length+ys.length) c e
  have hL:(n++d).length=(xs.length+ys.length)*sz:=by rw[List.length_append,o1,n2,Nat.add_mul]
  refine N _ _ D ?_ ?_ (.inr ⟨(Below.refl _ _).drew.alloc (Nat.le_refl _) _,by intro k hk;cases hk;exact Nat.le_refl _⟩)
  ·exact Kpt.of_below ((Below.refl _ _).drew.alloc (Nat.le_refl _) _)
  ·refine ⟨_,_,by rw[List.length_append],by rw[List.length_append];exact aq,ay,by rintro _ ⟨⟩;exact ⟨rfl,hB,(Array.getElem?_eq_some_iff.1 (heap_alloc_new w.drew _)).1,hs.none (Nat.le_refl _)⟩,fun _=>⟨w.heap.size,0,_,rfl,hB,hs.none (Nat.le_refl _),heap_alloc_new w.drew _,?_,fun j x p=>?_⟩⟩
   ·rw[Array.size_append,List.size_toArray,hL,size_zeroCells,al,←Nat.add_mul]
    rw[Nat.zero_add];exact Nat.mul_le_mul_right _ (by omega)
   ·rw[Nat.zero_add,Array.toList_append]
    have U:j<xs.length+ys.length:=by have:=(List.getElem?_eq_some_iff.1 p).1;rwa [List.length_append] at this
    have hh:j*sz+sz≤(xs.length+ys.length)*sz:=by rw[←Nat.succ_mul];exact Nat.mul_le_mul_right _ U
    rw[List.drop_append_of_le_length (by simp only[List.toList_toArray];omega),List.take_append_of_le_length (by rw[List.length_drop];simp only[List.toList_toArray];omega)]
    simp only[List.toList_toArray]
    by_cases Z:j<xs.length
    ·rw[List.getElem?_append_left Z] at p
     rw[En n d xs.length j o1 Z]
     exact o3 j x p
    ·rw[List.getElem?_append_right (by omega)] at p
     have:=n5 _ _ p
     rw[show j*sz=n.length+(j-xs.length)*sz by rw[o1,←Nat.add_mul];congr 1;omega,List.drop_append]
     simpa [List.drop_eq_nil_of_le] using this
end
theorem Zo {b:Nat} (h:w1.heap.size≤b) (k:Stp w σ w1 σ1):w.heap.size≤b:=Nat.le_trans k.bel.size h
theorem G1 {t:TypeId} {sz by_:Nat} {z:Value} [tz:TZ P t sz by_ z] (c:X4 w σ) (h: ∀b w' σ',w.heap.size≤b→Stp w σ w' σ'→Z5 σ' w' b z.cells.toList→K (.pointer (some ⟨b,0,none⟩)) w'):W4 P t w K:=
 Ey c fun b w' f d a=>h b w' σ f d a
theorem Ad {t:TypeId} {cs:List Value} (c:X4 w σ) (h: ∀b w' σ',w.heap.size≤b→Stp w σ w' σ'→Z5 σ' w' b cs→K (.pointer (some ⟨b,0,none⟩)) w'):box P t (.agg cs.toArray) w K:=
 Q99 c fun b w' f d a=>h b w' σ f d (by simpa [Value.cells] using a)
theorem Qb {t:TypeId} {sz by_:Nat} {z:Value} [tz:TZ P t sz by_ z] {b:Nat} {cs ds:List Value} (c:Z5 σ w b cs) (g:Stp w0 σ0 w σ) (k:w0.heap.size≤b) (d:cs.length=sz) (i:ds.length=sz) (j: ∀u∈ds,u.oneCell'=true)
 (h: ∀w',Hst w0 σ0 w' σ→Z5 σ w' b ds→K undef w'):Z0 P t (.pointer (some ⟨b,0,none⟩)) (.agg ds.toArray) w K:=
 sta c d i (by rw[List.all_toArray];exact List.all_eq_true.2 j) fun w' f a=>h w' ⟨f.stp g k c.1⟩ a
structure Nxt (D : Nat → Prop) (w : World) (σ : Q5) (w' : World) (σ' : Q5) : Prop where
  kp : Kpt D w w'
  le : SLe σ σ'
  old : ∀ k, k < w.heap.size → σ' k = σ k
  sat : X4 w' σ'
theorem Nxt.of_stp {D:Nat→Prop} (h:Stp w σ w' σ'):Nxt D w σ w' σ':=⟨Kpt.of_below h.bel,⟨h.le⟩,h.old,h.sat⟩
theorem Nxt.trans {D:Nat→Prop} (h:Nxt D w σ w' σ') (k:Nxt D w' σ' w'' σ1):Nxt D w σ w'' σ1:=
 ⟨h.kp.trans k.kp,h.le.more k.le,fun i a=>(k.old i (Nat.lt_of_lt_of_le a h.kp.size)).trans (h.old i a),k.sat⟩
theorem Z5.nx {D:Nat→Prop} {b:Nat} {cs:List Value} (h:Z5 σ w b cs) (k:Nxt D w σ w' σ') (d: ¬D b):Z5 σ' w' b cs:=by
 have a:=h.lt
 obtain ⟨f,e,c⟩:=h
 exact ⟨(k.old b a).trans f,e,(k.kp.block b a d).trans c⟩
theorem E6.nx {D:Nat→Prop} {r:Nat} {m:List (List UInt8×Value)} (h:E6 σ w r m) (k:Nxt D w σ w' σ') (a: ¬D r):E6 σ' w' r m:=
 ⟨(k.old r h.lt).trans h.1,(k.kp.block r h.lt a).symm▸h.2⟩
section
variable {α : Type} {R : Q5 → α → List Value → Prop} {B sz : Nat} {e : TypeId} {v u : Value} {xs : List α} {x : α}
theorem V7.nx [hr:Rep R] {D:Nat→Prop} (h:V7 B e sz R σ w v xs) (k:Nxt D w σ w' σ') (f: ∀k,v.ownBlock=some k→ ¬D k):V7 B e sz R σ' w' v xs:=by
 have d:=h.kp k.kp f
 obtain ⟨cells,g,b,j⟩:=d
 refine ⟨cells,g,fun i a=>(k.old i (h.mem i a).2.1).trans (b i a),fun i x c=>hr.up k.le.le (j i x c)⟩
theorem U6.nx [hr:Rep R] {D:Nat→Prop} (h:U6 B e sz R σ w v xs) (k:Nxt D w σ w' σ') (p: ∀k,v.ownBlock=some k→ ¬D k):U6 B e sz R σ' w' v xs:=by
 obtain ⟨a,j,rfl,t,s,c,y⟩:=h
 refine ⟨a,j,rfl,t,s,fun b d=>⟨(c b d).1,(c b d).2.1,Nat.lt_of_lt_of_le (c b d).2.2.1 k.kp.size,(k.old _ (c b d).2.2.1).trans (c b d).2.2.2⟩,fun o=>?_⟩
 obtain ⟨g,f,l,rfl,q,z,n,A,r⟩:=y o
 have m:=(Array.getElem?_eq_some_iff.1 n).1
 exact ⟨g,f,l,rfl,q,(k.old g m).trans z,(k.kp.block g m (p g rfl)).trans n,A,fun i x C=>hr.up k.le.le (r i x C)⟩
theorem Jy {t o:TypeId} {by_:Nat} {z:Value} {cs:List Bool} {A:Value→Value→World→Prop} [ts:TS P t e] [tz:TZ P e sz by_ z] [hr:Rep R] (m:Stp w0 σ0 w σ) (y:V7 w0.heap.size e sz R σ w v xs) (C:R σ x u.cells.toList) (q:u.cells.size=sz) (p:(z.cells.size==sz&&decide (0<sz))=true) (g:(decide (0<sz)&&decide ([u].length*sz≤16777216))=true)
 (D:(xs.length+1)*by_≤140737488355328) (n:xs.length+1≤9223372036854775807)
 (h: ∀s b w' σ',Nxt (fun k=>v.ownBlock=some k) w σ w' σ'→Stp w0 σ0 w' σ'→V7 w0.heap.size e sz R σ' w' b (xs++[x])→(b.ownBlock=v.ownBlock∨ ∀k,b.ownBlock=some k→w.heap.size≤k)→A s b w'):
 buildSlice P t 1 [(0,u)] w (fun s w=>X5 P .append [t,t] o cs [v,s] w (fun b w=>A s b w)):=by
 refine D2 m.sat [u] [x] rfl rfl (by simpa using q) g ⟨C,trivial⟩ fun s w1 σ1 a f=>?_
 refine app (m.trans a) (y.up a) f p (by simpa using D) (by simpa using n) fun b l r c j hat=>?_
 have i:Kpt (fun k=>v.ownBlock=some k) w l:=(Kpt.of_below a.bel).trans (Kpt.of_grown r fun k a=>a)
 refine h s b l σ1 ⟨i,⟨a.le⟩,a.old,c.sat⟩ c j ?_
 rcases hat with hat | hat
 ·exact .inl hat
 ·exact .inr fun k d=>Nat.le_trans a.bel.size (hat k d)
theorem Dg {t g:TypeId} {by_:Nat} {z:Value} {cs:List Bool} {ys:List α} [ts:TS P t e] [tz:TZ P e sz by_ z] [hr:Rep R] (o:Stp w0 σ0 w σ) (n:V7 w0.heap.size e sz R σ w v xs) (p:Sl sz R σ u ys) (i:(z.cells.size==sz&&decide (0<sz))=true)
 (q:(xs.length+ys.length)*by_≤140737488355328) (f:xs.length+ys.length≤9223372036854775807)
 (h: ∀a w',Nxt (fun k=>v.ownBlock=some k) w σ w' σ→Stp w0 σ0 w' σ→V7 w0.heap.size e sz R σ w' a (xs++ys)→(a.ownBlock=v.ownBlock∨ ∀k,a.ownBlock=some k→w.heap.size≤k)→K a w'):X5 P .append [t,t] g cs [v,u] w K:=
 app o n p i q f fun a j l b d c=>h a j ⟨Kpt.of_grown l fun k m=>m,SLe.refl _,fun _ _=>rfl,b.sat⟩ b d c
end
section
variable {α : Type} {R : Q5 → α → List Value → Prop} {B sz : Nat} {e : TypeId} {v u : Value} {xs : List α} {x : α}
theorem U6.mono {k:Nat} (h:U6 B e sz R σ w v xs) (l:k≤B):U6 k e sz R σ w v xs:=by
 obtain ⟨a,i,rfl,r,m,c,n⟩:=h
 refine ⟨a,i,rfl,r,m,fun b d=>⟨(c b d).1,Nat.le_trans l (c b d).2.1,(c b d).2.2⟩,fun p=>?_⟩
 obtain ⟨g,f,j,rfl,o,q⟩:=n p
 exact ⟨g,f,j,rfl,Nat.le_trans l o,q⟩
theorem U6.own (h:U6 B e sz R σ w v xs) {k:Nat} (a:v.ownBlock=some k):B≤k:=(h.mem a).1
theorem U6.keep [hr:Rep R] (h:U6 w0.heap.size e sz R σ w v xs) (p:Stp w0 σ0 w σ): ∃σ',Stp w0 σ0 w σ'∧Sl sz R σ' v xs∧SLe σ σ'∧(∀k,some k≠v.ownBlock→σ' k=σ k):=by
 obtain ⟨a,f,rfl,A,z,o,C⟩:=h
 by_cases r:f=0
 ·have m:xs=[]:=List.eq_nil_of_length_eq_zero (by omega)
  subst r m
  exact ⟨σ,p,⟨a,0,rfl,by simp,by simp,fun _=>rfl,fun b E=>⟨fun _=>(o b E).1,by simp⟩⟩,SLe.refl _,fun _ _=>rfl⟩
 ·obtain ⟨g,n,c,rfl,s,q,D,J,t⟩:=C (by omega)
  have d:=Q5.put_le p.sat q (.cells c e (0,0))
  refine ⟨σ.put g (.cells c e (0,0)),p.put q s D,⟨_,f,rfl,A,z,by simp,?_⟩,⟨d⟩,?_⟩
  ·rintro _ ⟨⟩
   refine ⟨fun _=>rfl,fun i x m=>⟨(c.toList.drop (n+i*sz)).take sz,⟨I1 rfl _,c,e,(0,0),by rw[C3];simp[Q5.put],?_⟩,?_,hr.up d (t i x m)⟩⟩
   ·intro j u l
    rw[Xv]
    rw[List.getElem?_take] at l
    split at l
    ·rw[List.getElem?_drop] at l;simpa using l
    ·cases l
   ·have H:i<xs.length:=(List.getElem?_eq_some_iff.1 m).1
    have h:i*sz+sz≤f*sz:=by rw[←Nat.succ_mul];exact Nat.mul_le_mul_right _ (by omega)
    rw[List.length_take,List.length_drop,Array.length_toList (xs:=c)];omega
  ·intro k y
   have:k≠g:=by intro e;subst e;exact y rfl
   simp only[Q5.put,if_neg this]
theorem X0x {t L:TypeId} {by_:Nat} {z:Value} {A:Value→Value→World→Prop} {ds:List Value} [ts:TS P t e] [tz:TZ P e sz by_ z] {H:Nat} {U:Value} [tz':TZ P L sz H U] (hS:Stp w0 σ0 w σ) (ha:U6 w0.heap.size e sz R σ w v xs) {n:Nat} (hn:n<xs.length) (C:ds.length=sz) (hx:R σ x ds) (Z: ∀u∈ds,u.oneCell'=true)
 (h: ∀p u w',Kpt (fun k=>v.ownBlock=some k) w w'→Hst w0 σ0 w' σ→U6 w0.heap.size e sz R σ w' v (xs.set n x)→A p u w'):
 indexAddr P t v (I n) w (fun p w=>Z0 P L p (.agg ds.toArray) w (fun u w=>A p u w)):=by
 obtain ⟨a,f,rfl,c1,V,i,c3⟩:=ha
 obtain ⟨g,c,d,rfl,M,N,O,q4,X⟩:=c3 (by omega)
 rw[Cd (by omega) (by omega)]
 have hh:n*sz+sz≤f*sz:=by rw[←Nat.succ_mul];exact Nat.mul_le_mul_right _ (by omega)
 have o:(⟨g,c,none⟩:Addr).add ((n:Int).toNat*sz)=⟨g,c+n*sz,none⟩:=by unfold Addr.add;split<;>simp_all
 rw[o]
 have q:=run_storeCells_at P g (c+n*sz) e ds 0 d w O (by omega) Z
 simp only[Nat.add_zero] at q
 obtain ⟨l,J⟩:=Dn (cs:=(d.toList.take (c+n*sz)++ds++d.toList.drop (c+n*sz+ds.length)).toArray) O
 unfold Z0
 rw[Na (w':=w.setRow g (d.toList.take (c+n*sz)++ds++d.toList.drop (c+n*sz+ds.length)).toArray) (by
  simp[Instr.storeAt,Instr.sureAddr,storeVar,W5 tz',Value.cells,C]
  simpa [C] using q)]
 have Y:Kpt (fun k=>(Value.slice (some ⟨g,c,none⟩) xs.length f).ownBlock=some k) w (w.setRow g (d.toList.take (c+n*sz)++ds++d.toList.drop (c+n*sz+ds.length)).toArray):=Kpt.of_upd l rfl
 refine h _ _ _ Y ⟨l.stp hS M N⟩ ⟨_,f,by rw[List.length_set],by rw[List.length_set];exact c1,V,fun b r=>⟨(i b r).1,(i b r).2.1,by rw[l.size];exact (i b r).2.2.1,(i b r).2.2.2⟩,fun _=>⟨g,c,_,rfl,M,N,J,?_,fun j y m=>?_⟩⟩
 ·simp;omega
 ·rw[List.toList_toArray]
  have W:=Array.length_toList (xs:=d)
  have D:j<xs.length:=by have:=(List.getElem?_eq_some_iff.1 m).1;simpa using this
  have aa:j*sz+sz≤f*sz:=by rw[←Nat.succ_mul];exact Nat.mul_le_mul_right _ (by omega)
  by_cases Q:j=n
  ·subst Q
   rw[List.getElem?_set_self D] at m
   cases m
   rw[List.append_assoc,List.drop_append,List.drop_eq_nil_of_le (by rw[List.length_take];omega),List.nil_append,List.length_take,show c+j*sz-min (c+j*sz) d.toList.length=0 by omega,List.drop_zero,List.take_append_of_le_length (by omega),List.take_of_length_le (by omega)]
   exact hx
  ·rw[List.getElem?_set_ne (by omega)] at m
   have:=X j y m
   rcases Nat.lt_or_gt_of_ne Q with s | hgt
   ·have E:j*sz+sz≤n*sz:=by rw[←Nat.succ_mul];exact Nat.mul_le_mul_right _ s
    rw[List.append_assoc,List.drop_append_of_le_length (by rw[List.length_take];omega),List.take_append_of_le_length (by rw[List.length_drop,List.length_take];omega),List.drop_take,List.take_take]
    rwa [show min sz (c+n*sz-(c+j*sz))=sz by omega]
   ·have E:n*sz+sz≤j*sz:=by rw[←Nat.succ_mul];exact Nat.mul_le_mul_right _ hgt
    rw[List.drop_append,List.drop_eq_nil_of_le (by rw[List.length_append,List.length_take];omega),List.nil_append,List.length_append,List.length_take,List.drop_drop,C]
    rwa [show c+n*sz+sz+(c+j*sz-(min (c+n*sz) d.toList.length+sz))=c+j*sz by omega]
end
theorem Q4T (p:Nat→Prop): ∀n,p n→ ∃m,p m∧ ∀k,p k→m≤k:=by
 intro n
 induction n using Nat.strongRecOn with
 | _ n f=>
  intro h
  by_cases b: ∃k,k<n∧p k
  ·obtain ⟨k,g,d⟩:=b;exact f k g d
  ·exact ⟨n,h,fun k c=>Nat.le_of_not_lt fun a=>b ⟨k,a,c⟩⟩
noncomputable def Q0q (p:Nat→Prop):Nat:=open Classical in if h: ∃m,p m∧ ∀k,p k→m≤k then Classical.choose h else 0
theorem Te {p:Nat→Prop} {n:Nat} (h:p n):p (Q0q p)∧Q0q p≤n:=by
 have a:=Q4T p n h
 unfold Q0q
 rw[dif_pos a]
 exact ⟨(Classical.choose_spec a).1,(Classical.choose_spec a).2 n h⟩
theorem Ri {α:Type} {g:α} {A:(α→World→Prop)→α→(Nat→Value)→World→Prop} (I:Nat→α→World→Prop) (n:Nat) (k:I n g w)
 (i: ∀a n x d w,I n x w→(∀b c w',b<n→I b c w'→a c w')→A a x d w):lp g w A:=by
 refine Zw (fun x w=> ∃n,I n x w) (fun x w=>Q0q fun n=>I n x w) ⟨n,k⟩ ?_
 rintro x d w ⟨n,l⟩
 obtain ⟨j,m⟩:=Te (p:=fun n=>I n x w) l
 refine i _ _ x d w j fun b c w' f h=>⟨⟨b,h⟩,?_⟩
 exact Nat.lt_of_le_of_lt (Te (p:=fun n=>I n c w') h).2 f
section
variable {α : Type} {R : Q5 → α → List Value → Prop} {B sz : Nat} {e : TypeId} {v u : Value} {xs ys : List α} {x : α}
theorem U6.below (h:U6 B e sz R σ w v xs) (a:Below w.heap.size w w'):U6 B e sz R σ w' v xs:=h.kp (D:=fun _=>False) (.of_below a) fun _ _=>id
theorem U6.pre {a:Option Addr} {n m b:Nat} (h:U6 B e sz R σ w (.slice a m b) (xs++ys)) (E:n=xs.length):U6 B e sz R σ w (.slice a n b) xs:=by
 obtain ⟨H,j,l,s,r,f,t⟩:=h
 injection l with D e2 y
 subst D y E
 rw[List.length_append] at s
 refine ⟨a,b,rfl,by omega,r,f,fun o=>?_⟩
 obtain ⟨g,c,d,q0,p,z,C,A,q⟩:=t o
 exact ⟨g,c,d,q0,p,z,C,A,fun i x k=>q i x (by rw[List.getElem?_append_left (List.getElem?_eq_some_iff.1 k).1];exact k)⟩
def Bf (B:Nat) (e:TypeId) (sz:Nat) (R:Q5→α→List Value→Prop) (σ:Q5) (v:Value) (xs:List α) (x:α) (w1 c:World):Prop:=
 Kpt (fun k=>v.ownBlock=some k) w1 c∧(U6 B e sz R σ w1 v xs→U6 B e sz R σ c v xs)∧
  ∀a b,v= .slice a xs.length b→U6 B e sz R σ w1 (.slice a (xs.length+1) b) (xs++[x])→U6 B e sz R σ c (.slice a (xs.length+1) b) (xs++[x])
theorem Bf.below (a:Below w.heap.size w w'):Bf B e sz R σ v xs x w w':=⟨.of_below a,fun h=>h.below a,fun _ _ _ h=>h.below a⟩
theorem Bf.refl:Bf B e sz R σ v xs x w w:=Bf.below (Below.refl _ _)
def VQa (N B:Nat) (e:TypeId) (sz:Nat) (R:Q5→α→List Value→Prop) (σ:Q5) (v:Value) (xs:List α) (x:α) (c:Value) (w:World):Prop:=
 U6 B e sz R σ w c (xs++[x])∧((∃a b,v= .slice a xs.length b∧c= .slice a (xs.length+1) b)∨((∀k,c.ownBlock=some k→N≤k)∧ ∀k,v.ownBlock=some k→k<N))
theorem VQa.stable {N:Nat} {i:Value} (h:VQa N B e sz R σ v xs x i w) (g:Bf B e sz R σ v xs x w w'):VQa N B e sz R σ v xs x i w':=by
 obtain ⟨j,b⟩:=h
 refine ⟨?_,b⟩
 rcases b with ⟨a,d,f,rfl⟩ | ⟨b,f⟩
 ·exact g.2.2 a d f j
 ·exact j.kp g.1 fun k l c=>by have:=b k l;have:=f k c;omega
theorem Kpt.more {D E:Nat→Prop} (h:Kpt D w w') (k:Kpt E w' w'') (hE: ∀j,E j→w.heap.size≤j):Kpt D w w'':=
 ⟨k.os.trans h.os,k.tape.trans h.tape,k.output.trans h.output,Nat.le_trans h.size k.size,fun i a b=>(k.block i (Nat.lt_of_lt_of_le a h.size) fun e=>by have:=hE i e;omega).trans (h.block i a b)⟩
end
end Go.Emb

namespace Go.Hm
open Go.Kd
theorem U1 {l:List Cla} {n:X0} {c:Cla} (h:lk l n=some c):c.name=n∧c∈l∧ ∃i,Y3 l n=some i∧l[i]? =some c:=by
 unfold lk at h
 cases b:Y3 l n with
 | none=>rw[b] at h;cases h
 | some i=>
  rw[b] at h
  obtain ⟨a,e,_⟩:=List.findIdx?_eq_some_iff_getElem.1 b
  have d:l[i]? =some c:=h
  rw[List.getElem?_eq_getElem a] at d
  cases d
  exact ⟨by simpa using e,List.getElem_mem a,i,rfl,List.getElem?_eq_getElem a⟩
theorem Xt {l:List Cla} {n:X0} {i:Nat} (h:Y3 l n=some i): ∃c,lk l n=some c∧l[i]? =some c∧c.name=n:=by
 obtain ⟨a,b,_⟩:=List.findIdx?_eq_some_iff_getElem.1 h
 refine ⟨l[i],?_,List.getElem?_eq_getElem a,by simpa using b⟩
 unfold lk;rw[h];simp[a]
theorem Q0j {l:List Cla} {n:X0}:Al l n=(lk l n).isSome:=by
 unfold Al
 cases a:Y3 l n with
 | none=>simp[lk,a]
 | some i=>obtain ⟨c,h,_⟩:=Xt a;simp[h]
theorem Q7Z {l:List Cla} {c:Cla} (h:c∈l): ∃d,lk l c.name=some d:=by
 cases a:Y3 l c.name with
 | none=>
  have:=List.findIdx?_eq_none_iff.1 a c h
  simp at this
 | some i=>obtain ⟨d,h,_⟩:=Xt a;exact ⟨d,h⟩
inductive Reach (L : Uq) : X0 → X0 → Prop
  | refl {a : X0} {c : Cla} : L a = some c → Reach L a a
  | step {a u b : X0} {c : Cla} : L a = some c → u ∈ J4 c → Reach L u b → Reach L a b
theorem Reach.trans {L:Uq} {a b d:X0} (h:Reach L a b) (k:Reach L b d):Reach L a d:=by
 induction h with
 | refl _=>exact k
 | step f c _ e=>exact .step f c (e k)
theorem Reach.right {L:Uq} {a b:X0} (h:Reach L a b): ∃c,L b=some c:=by
 induction h with
 | refl h=>exact ⟨_,h⟩
 | step _ _ _ d=>exact d
theorem Reach.left {L:Uq} {a b:X0} (h:Reach L a b): ∃c,L a=some c:=by
 cases h with
 | refl h=>exact ⟨_,h⟩
 | step h _ _=>exact ⟨_,h⟩
theorem Q0h (L:Uq): ∀(f:Nat) (a b:List X0),∃r,Jg L f a b=b++r:=by
 intro f
 induction f with
 | zero=>intro a b;exact ⟨[],by simp[Jg]⟩
 | succ f c=>
  intro a b
  cases a with
  | nil=>exact ⟨[],by simp[Jg]⟩
  | cons n a=>
   simp only[Jg]
   split
   ·exact c _ _
   ·split
    ·exact c _ _
    ·obtain ⟨r,d⟩:=c (a++J4 ‹_›) (b++[n])
     exact ⟨n::r,by rw[d];simp⟩
theorem Q94 (L:Uq): ∀(f:Nat) (a b:List X0) (x:X0),x∈Jg L f a b→x∈b∨ ∃t∈a,Reach L t x:=by
 intro f
 induction f with
 | zero=>intro a b x h;exact .inl h
 | succ f d=>
  intro a b x h
  cases a with
  | nil=>exact .inl h
  | cons n a=>
   simp only[Jg] at h
   split at h
   ·rcases d _ _ _ h with h | ⟨t,ht,h⟩
    ·exact .inl h
    ·exact .inr ⟨t,by simp[ht],h⟩
   ·rename_i c e
    split at h
    ·rcases d _ _ _ h with h | ⟨t,ht,h⟩
     ·exact .inl h
     ·exact .inr ⟨t,by simp[ht],h⟩
    ·rcases d _ _ _ h with h | ⟨t,ht,h⟩
     ·rcases List.mem_append.1 h with h | h
      ·exact .inl h
      ·simp at h;subst h;exact .inr ⟨x,by simp, .refl e⟩
     ·rcases List.mem_append.1 ht with ht | ht
      ·exact .inr ⟨t,by simp[ht],h⟩
      ·exact .inr ⟨n,by simp, .step e ht h⟩
theorem Q9Q (l:List Cla) (b a:List X0) (h: ∀x∈b,x∈a):weigh l a≤weigh l b:=by
 unfold weigh
 induction l with
 | nil=>simp
 | cons c r e=>
  simp only[List.map_cons,List.sum_cons]
  by_cases d:c.name∈b
  ·rw[if_pos d,if_pos (h _ d)];omega
  ·rw[if_neg d];split<;>omega
theorem Gx (l:List Cla) (a:List X0) (c:Cla) (hc:c∈l) (f:c.name∉a):weigh l (a++[c.name])+(J4 c).length≤weigh l a:=by
 unfold weigh
 induction l with
 | nil=>simp at hc
 | cons d r g=>
  simp only[List.map_cons,List.sum_cons]
  have b:weigh r (a++[c.name])≤weigh r a:=Q9Q _ _ _ (by simp;intro x h;exact .inl h)
  unfold weigh at b
  rcases List.mem_cons.1 hc with rfl | hc
  ·rw[if_pos (by simp),if_neg f];omega
  ·have:=g hc
   by_cases e:d.name∈a
   ·rw[if_pos (by simp[e]),if_pos e];omega
   ·rw[if_neg e];split<;>omega
theorem Q9T (l:List Cla): ∀(f:Nat) (a b:List X0),a.length+weigh l b≤f→
 (∀x∈b,∀c,lk l x=some c→ ∀u∈J4 c,∀d,lk l u=some d→u∈b∨u∈a)→
 (∀t∈a,∀d,lk l t=some d→t∈Jg (lk l) f a b)∧ ∀x∈Jg (lk l) f a b,∀c,lk l x=some c→ ∀u∈J4 c,∀d,lk l u=some d→u∈Jg (lk l) f a b:=by
 intro f
 induction f with
 | zero=>
  intro a b w o
  have:a=[]:=List.eq_nil_of_length_eq_zero (by omega)
  subst this
  refine ⟨by simp,fun x hx c i u j d g=>?_⟩
  rcases o x hx c i u j d g with h | h
  ·exact h
  ·simp at h
 | succ f v=>
  intro a b w o
  cases a with
  | nil=>
   refine ⟨by simp,fun x hx c i u j d g=>?_⟩
   rcases o x hx c i u j d g with h | h
   ·exact h
   ·simp at h
  | cons n a=>
   simp only[List.length_cons] at w
   simp only[Jg]
   split
   ·rename_i y
    obtain ⟨q,p⟩:=v a b (by omega) (fun x hx c i u j d g=>by
     rcases o x hx c i u j d g with h | h
     ·exact .inl h
     ·rcases List.mem_cons.1 h with rfl | h
      ·rw[y] at g;cases g
      ·exact .inr h)
    refine ⟨fun t ht d g=>?_,p⟩
    rcases List.mem_cons.1 ht with rfl | ht
    ·rw[y] at g;cases g
    ·exact q t ht d g
   ·rename_i c i
    split
    ·rename_i k
     obtain ⟨r,s⟩:=Q0h (lk l) f a b
     obtain ⟨q,p⟩:=v a b (by omega) (fun x hx c i u j d g=>by
      rcases o x hx c i u j d g with h | h
      ·exact .inl h
      ·rcases List.mem_cons.1 h with rfl | h
       ·exact .inl k
       ·exact .inr h)
     refine ⟨fun t ht d g=>?_,p⟩
     rcases List.mem_cons.1 ht with rfl | ht
     ·rw[s];simp[k]
     ·exact q t ht d g
    ·rename_i k
     obtain ⟨e,z,_⟩:=U1 i
     have B:=Gx l b c z (by rw[e];exact k)
     rw[e] at B
     obtain ⟨q,p⟩:=v (a++J4 c) (b++[n]) (by rw[List.length_append];omega) (fun x hx A m u j d g=>by
      rcases List.mem_append.1 hx with hx | hx
      ·rcases o x hx A m u j d g with h | h
       ·exact .inl (by simp[h])
       ·rcases List.mem_cons.1 h with rfl | h
        ·exact .inl (by simp)
        ·exact .inr (by simp[h])
      ·simp at hx;subst hx
       rw[i] at m;cases m
       exact .inr (by simp[j]))
     refine ⟨fun t ht d g=>?_,p⟩
     rcases List.mem_cons.1 ht with rfl | ht
     ·obtain ⟨r,s⟩:=Q0h (lk l) f (a++J4 c) (b++[t])
      rw[s];simp
     ·exact q t (by simp[ht]) d g
theorem Zy {l:List Cla} {a b:X0}:b∈R4 l a↔Reach (lk l) a b:=by
 obtain ⟨k,i⟩:=Q9T l (1+weigh l []) [a] [] (by simp) (by simp)
 constructor
 ·intro h
  rcases Q94 _ _ _ _ _ h with h | ⟨t,e,m⟩
  ·simp at h
  ·simp at e;subst e;exact m
 ·intro h
  have key: ∀{x y:X0},Reach (lk l) x y→x∈R4 l a→y∈R4 l a:=by
   intro x y h
   induction h with
   | refl _=>exact id
   | step f n g j=>
    intro o
    obtain ⟨d,c⟩:=g.left
    exact j (i _ o _ f _ n _ c)
  obtain ⟨d,c⟩:=h.left
  exact key h (k a (by simp) d c)
theorem Q9F (l:List Cla): ∀(f:Nat) (a b:List X0),a.length+weigh l b≤f→ ∀k,Jg (lk l) (f+k) a b=Jg (lk l) f a b:=by
 intro f
 induction f with
 | zero=>
  intro a b h k
  have:a=[]:=List.eq_nil_of_length_eq_zero (by omega)
  subst this
  cases k<;>rfl
 | succ f g=>
  intro a b h k
  cases a with
  | nil=>rw[Nat.succ_add];rfl
  | cons n a=>
   simp only[List.length_cons] at h
   rw[Nat.succ_add]
   simp only[Jg]
   split
   ·exact g _ _ (by omega) k
   ·rename_i c m
    split
    ·exact g _ _ (by omega) k
    ·rename_i d
     obtain ⟨e,i,_⟩:=U1 m
     have j:=Gx l b c i (by rw[e];exact d)
     rw[e] at j
     exact g _ _ (by rw[List.length_append];omega) k
end Go.Hm

namespace Go.Hm
open Go.Kd
def Ur (L:Uq) (a b:X0):Prop:= ∃c,L a=some c∧ ∃u∈J4 c,Reach L u b
def Ye (l:List Cla):Prop:= ∀a,¬Ur (lk l) a a
theorem Ur.reach {L:Uq} {a b:X0} (h:Ur L a b):Reach L a b:=by
 obtain ⟨c,e,u,d,f⟩:=h;exact .step e d f
theorem Ur.trans {L:Uq} {a b d:X0} (h:Ur L a b) (k:Reach L b d):Ur L a d:=by
 obtain ⟨c,f,u,e,g⟩:=h;exact ⟨c,f,u,e,g.trans k⟩
theorem Pw {L:Uq} {a b:X0}:Reach L a b↔(a=b∧(∃c,L a=some c))∨Ur L a b:=by
 constructor
 ·intro h
  cases h with
  | refl h=>exact .inl ⟨rfl,_,h⟩
  | step e d f=>exact .inr ⟨_,e,_,d,f⟩
 ·rintro (⟨rfl,c,h⟩ | h)
  ·exact .refl h
  ·exact h.reach
def A0 (l:List Cla) (a b:X0):Bool:=match lk l a with
 | none=>false
 | some c=>(J4 c).any fun u=>(R4 l u).contains b
theorem Ys {l:List Cla} {a b:X0}:A0 l a b=true↔Ur (lk l) a b:=by
 unfold A0 Ur
 cases h:lk l a with
 | none=>simp
 | some c=>
  simp only[List.any_eq_true,List.contains_iff_mem,Zy]
  constructor
  ·rintro ⟨u,d,e⟩;exact ⟨c,rfl,u,d,e⟩
  ·rintro ⟨_,⟨⟩,u,d,e⟩;exact ⟨u,d,e⟩
def F0 (l:List Cla) (n:X0):Nat:=l.countP fun m=>A0 l n m.name
theorem Q0o (l:List Cla) (n:X0):F0 l n≤l.length:=List.countP_le_length
theorem Q34 {α:Type} {p q:α→Bool}: ∀{l:List α},(∀x∈l,p x=true→q x=true)→(∃x∈l,q x=true∧p x=false)→l.countP p<l.countP q:=by
 intro l
 induction l with
 | nil=>rintro _ ⟨x,hx,_⟩;simp at hx
 | cons a r g=>
  rintro h ⟨x,hx,d,c⟩
  have f:r.countP p≤r.countP q:=List.countP_mono_left fun x hx=>h x (by simp[hx])
  rw[List.countP_cons,List.countP_cons]
  rcases List.mem_cons.1 hx with rfl | hx
  ·rw[d,c];simp;omega
  ·have:=g (fun x hx=>h x (by simp[hx])) ⟨x,hx,d,c⟩
   have e:=h a (by simp)
   cases b:p a
   ·simp;split<;>omega
   ·rw[e b];simp;omega
theorem X1q {l:List Cla} (i:Ye l) {a b:X0} (h:Ur (lk l) a b):F0 l b<F0 l a:=by
 unfold F0
 refine Q34 (fun x _ j=>?_) ?_
 ·rw[Ys] at*
  exact h.trans j.reach
 ·obtain ⟨d,g⟩:=(Reach.right (h.reach))
  obtain ⟨e,f,_⟩:=U1 g
  refine ⟨d,f,?_,?_⟩
  ·rw[Ys,e];exact h
  ·cases c:A0 l b d.name with
   | false=>rfl
   | true=>rw[Ys,e] at c;exact absurd c (i b)
theorem Qe {l:List Cla} (e:Ye l) {a u:X0} {c d:Cla} (g:lk l a=some c) (f:u∈J4 c) (b:lk l u=some d):F0 l u<F0 l a:=
 X1q e ⟨c,g,u,f, .refl b⟩
theorem Q5l {l:List Cla} (b:Ye l): ∀(f g:Nat) (n:X0),F0 l n<f→F0 l n<g→C6 (lk l) f n=C6 (lk l) g n:=by
 intro f
 induction f with
 | zero=>intro g n h;omega
 | succ f i=>
  intro g n k j
  obtain ⟨g,rfl⟩: ∃m,g=m+1:=⟨g-1,by omega⟩
  simp only[C6]
  cases e:lk l n with
  | none=>rfl
  | some c=>
   simp only
   congr 1
   cases a:lk l c.super with
   | none=>cases f<;>cases g<;>simp[C6,a]
   | some d=>
    have:=Qe b e (by simp[J4]) a
    exact i g c.super (by omega) (by omega)
theorem C9 {l:List Cla} (a:Ye l) (n:X0):chain l n=match lk l n with | none=>[] | some c=>c::chain l c.super:=by
 have:=Q0o l n
 unfold chain
 rw[C6]
 cases e:lk l n with
 | none=>rfl
 | some c=>
  simp only
  congr 1
  cases b:lk l c.super with
  | none=>cases l.length<;>simp[C6,b]
  | some d=>
   have:=Qe a e (by simp[J4]) b
   exact Q5l a _ _ _ (by omega) (by omega)
theorem G3 {l:List Cla} {n:X0} (h:lk l n=none):chain l n=[]:=by simp[chain,C6,h]
theorem Nb {α β:Type} {f g:α→Option β}: ∀{l:List α},(∀x∈l,f x=g x)→l.findSome? f=l.findSome? g
 | [],_=>rfl
 | a::r,h=>by
  rw[List.findSome?_cons,List.findSome?_cons,h a (by simp),Nb fun x b=>h x (by simp[b])]
theorem Q5F {l:List Cla} (j:Ye l) (n:X0): ∀(f g:Nat) (c:Cla),lk l c.name=some c→F0 l c.name<f→F0 l c.name<g→Ej (lk l) f c n=Ej (lk l) g c n:=by
 intro f
 induction f with
 | zero=>intro g c _ h;omega
 | succ f i=>
  intro g c b o p
  obtain ⟨g,rfl⟩: ∃m,g=m+1:=⟨g-1,by omega⟩
  simp only[Ej]
  refine Nb fun u k=>?_
  cases a:lk l u with
  | none=>rfl
  | some d=>
   simp only
   cases R2 d n with
   | some m=>rfl
   | none=>
    simp only
    have:=Qe j b (by simp[J4,k]) a
    have e:=(U1 a).1
    exact i g d (by rw[e];exact a) (by rw[e];omega) (by rw[e];omega)
def U4 (l:List Cla) (c:Cla) (n:X0):Option (X0×Hm.Met):=Ej (lk l) (l.length+1) c n
theorem Q2Q {l:List Cla} (b:Ye l) {c:Cla} (g:lk l c.name=some c) (n:X0):U4 l c n=c.like.findSome? fun u=>match lk l u with
 | none=>none
 | some d=>match R2 d n with
  | some m=>some (u,m)
  | none=>U4 l d n:=by
 have:=Q0o l c.name
 unfold U4
 rw[Ej]
 refine Nb fun u f=>?_
 cases a:lk l u with
 | none=>rfl
 | some d=>
  simp only
  cases R2 d n with
  | some m=>rfl
  | none=>
   have:=Qe b g (by simp[J4,f]) a
   have e:=(U1 a).1
   exact Q5F b n _ _ d (by rw[e];exact a) (by rw[e];omega) (by rw[e];omega)
def G7 (l:List Cla):Prop:=(l.map (·.name)).Nodup
theorem G7.lk {l:List Cla} (h:G7 l) {c:Cla} (k:c∈l):Go.Hm.lk l c.name=some c:=by
 obtain ⟨d,f⟩:=Q7Z k
 obtain ⟨e,o,i,p,a⟩:=U1 f
 obtain ⟨j,m,rfl⟩:=List.getElem_of_mem k
 obtain ⟨b,g⟩:=List.getElem?_eq_some_iff.1 a
 have:i=j:=by
  have n:(l.map (·.name))[i]'(by simpa using b)=(l.map (·.name))[j]'(by simpa using m):=by simp[g,e]
  exact (List.getElem_inj h).1 n
 subst this
 rw[f,←g]
theorem G7.find {l:List Cla} (h:G7 l) {i:Nat} {c:Cla} (k:l[i]? =some c):Y3 l c.name=some i:=by
 obtain ⟨b,rfl⟩:=List.getElem?_eq_some_iff.1 k
 have:=h.lk (List.getElem_mem b)
 obtain ⟨e,n,j,d,f⟩:=U1 this
 obtain ⟨a,g⟩:=List.getElem?_eq_some_iff.1 f
 have:j=i:=by
  have m:(l.map (·.name))[j]'(by simpa using a)=(l.map (·.name))[i]'(by simpa using b):=by simp[g]
  exact (List.getElem_inj h).1 m
 rw[d,this]
end Go.Hm

namespace Go.Emb
open Go.RowKit Go.Hm
variable {P : Program} {w w0 w1 w' w'' : World} {K : Value → World → Prop} {σ σ0 σ1 σ2 σ' : Q5}
theorem Stp.join (c:Stp w σ w' σ1) (d:Stp w σ w' σ2): ∃f,Stp w σ w' f∧SLe σ1 f∧SLe σ2 f:=by
 have h: ∀b o,σ1 b=some o→(fun b=>(σ1 b).or (σ2 b)) b=some o:=fun b o e=>by simp[e]
 have j: ∀b o,σ2 b=some o→(fun b=>(σ1 b).or (σ2 b)) b=some o:=by
  intro b o e
  cases a:σ1 b with
  | none=>simp[a,e]
  | some p=>
   have i:=c.sat b p a
   have g:=d.sat b o e
   rw[i] at g;cases g;simp only[a,Option.some_or]
 refine ⟨fun b=>(σ1 b).or (σ2 b),⟨c.bel,?_,fun b o e=>h b o (c.le b o e),?_⟩,⟨h⟩,⟨j⟩⟩
 ·intro b o e
  cases a:σ1 b with
  | none=>simp only[a,Option.none_or] at e;exact d.sat b o e
  | some p=>simp only[a,Option.some_or] at e;cases e;exact c.sat b _ a
 ·intro b a
  simp only[c.old b a,d.old b a];cases σ b<;>rfl
theorem Rb {Φ:Q5→Value→Prop} {A a:(Value→World→Prop)→Prop} (h:A (fun v w'=> ∃σ',Stp w σ w' σ'∧Φ σ' v)) (e:a (fun v w'=> ∃σ',Stp w σ w' σ'∧Φ σ' v)):Q7 (fun w w'=>Below w.heap.size w w') A a:=
 W6 _ (fun _ _ _ ⟨σ',b,c⟩ d=>⟨σ',b.trans (Stp.of_below b.sat d),c⟩) h e
theorem Q1g {Φ:Q5→Value→Prop} {v:Value} (b:Hst w σ w1 σ) (h:Stp w1 σ w' σ') (a:Φ σ' v):dk (fun w w'=>Below w.heap.size w w') (fun v w'=> ∃σ',Stp w σ w' σ'∧Φ σ' v) w1 v w':=
 ⟨h.bel,σ',b.stp.trans h,a⟩
theorem M6.mk {m:Hm.Met} {pv a b:Value} (g:Sl 1 Y1 σ pv m.params) (e:Sl 3 I8 σ a m.code) (h:Sl 4 Yo σ b m.catches) (f:m.name.length≤Z9) (d:m.result.length≤Z9) (c:Q11 m.locals):M6 σ m [S m.name,pv,S m.result, .bool m.abs,I m.locals,a,b]:=
 ⟨pv,a,b,rfl,g,e,h,f,d,c⟩
theorem U5.mk {c:Cla} {a b mv:Value} (g:Sl 1 Y1 σ a c.like) (e:Sl 3 E2 σ b c.fields) (h:Sl 7 M6 σ mv c.methods) (f:c.name.length≤Z9) (d:c.super.length≤Z9):U5 σ c [S c.name,S c.super,a, .bool c.iface, .bool c.abs, .bool c.fin,b,mv]:=
 ⟨a,b,mv,rfl,g,e,h,f,d⟩
end Go.Emb
namespace Go.Hm
def SmM (m:Hm.Met):Prop:=m.params.length≤1000000∧m.code.length≤1000000∧m.catches.length≤1000000
def T2 (c:Cla):Prop:=c.like.length≤1000000∧c.fields.length≤1000000∧c.methods.length≤1000000∧ ∀m∈c.methods,SmM m
end Go.Hm
namespace Go.Proofs.YtfppjenblllfaaaGreatDoor
open Go.Emb Go.RowKit Go.Kd Go.Hm
variable {w : World} {K : Value → World → Prop} {σ : Q5}
theorem Q3o {m:Hm.Met} {cs:List Value} (hs:X4 w σ) (hm:M6 σ m cs) (D:SmM m)
 (h: ∀pv o f w' σ',Stp w σ w' σ'→M6 σ' m [S m.name,pv,S m.result, .bool m.abs,I m.locals,o,f]→K (.agg [S m.name,pv,S m.result, .bool m.abs,I m.locals,o,f].toArray) w'):Q0 P F.bL [.agg cs.toArray] w K:=Q3v (by
 obtain ⟨pv,o,f,rfl,M,z,y,g4,g5,g6⟩:=hm
 obtain ⟨Z,s2,s3⟩:=D
 unfold Ip
 refine Ad hs fun b w1 σ1 d g a=>?_
 refine G1 g.sat fun b2 w2 σ2 B j c=>?_
 have aj:=a.lt
 replace a:=a.step j
 have N:=j.sat
 have M:=(M.up g).up j
 have z:=(z.up g).up j
 have y:=(y.up g).up j
 have L: ∀{w':World} (i:Nat) (v:Value),[S m.name,pv,S m.result, .bool m.abs,I m.locals,o,f][i]? =some v→Hst w2 σ2 w' σ2→w'.cell? ((⟨b,0,none⟩:Addr).add i)=some v:=fun i v f hh=>(a.step hh.stp).cell f
 refine U8 N ?_
 refine X2 (.pointer (some ((⟨b,0,none⟩:Addr).add 1))) (fun w d=>by rw[fa];exact X6 rfl) ?_
 refine X2 (.pointer (some ((⟨b,0,none⟩:Addr).add 5))) (fun w d=>by rw[fa];exact X6 rfl) ?_
 refine X2 (.pointer (some ((⟨b,0,none⟩:Addr).add 6))) (fun w d=>by rw[fa];exact X6 rfl) ?_
 refine X2 pv (fun t w d e=>by rw[e];exact Qd (L 1 pv rfl d) (X6 rfl)) ?_
 refine Rb (Φ:=fun σ' v=>Sl 1 Y1 σ' v m.params) (fun t w d e=>by rw[e];exact Vg d.sat M Z fun R w' σ' p f=>Q1g d p f) ?_
 refine X2 o (fun t w d e=>by rw[e];exact Qd (L 5 o rfl d) (X6 rfl)) ?_
 refine Rb (Φ:=fun σ' v=>Sl 3 I8 σ' v m.code) (fun t w d e=>by rw[e];exact Nz d.sat z s2 fun R w' σ' p f=>Q1g d p f) ?_
 refine X2 f (fun t w d e=>by rw[e];exact Qd (L 6 f rfl d) (X6 rfl)) ?_
 refine X2 (.pointer (some ((⟨b,0,none⟩:Addr).add 1))) (fun w d=>by rw[fa];exact X6 rfl) ?_
 refine Rb (Φ:=fun σ' v=>Sl 4 Yo σ' v m.catches) (fun t w d e=>by rw[e];exact Nt d.sat y s3 fun R w' σ' p f=>Q1g d p f) ?_
 rintro t1 t2 t3 t4 t5 t6 t8 t9 X A w3 Y e1 e2 e3 e4 ⟨σ5,k5,r⟩ e6 ⟨σ8,k8,s⟩ e9 C ⟨ae,H,k⟩
 subst C
 obtain ⟨σa,ka,J,E⟩:=k5.join k8
 obtain ⟨σ3,u,V,l2⟩:=ka.join H
 have r:=(r.lift J).lift V
 have s:=(s.lift E).lift V
 have k:=k.lift l2
 have a:=a.step u
 have c:=c.step u
 have n:b2≠b:=by omega
 have l:=(g.trans j).trans u
 refine Mn a (by simp) (Xj r) (F9 r) fun w4 U a=>?_
 rw[fa]
 have l:=U.stp l d a.1
 have c:=c.upd U n
 refine Mn a (by simp) (Xj s) (F9 s) fun w5 O a=>?_
 rw[fa]
 have l:=O.stp l d a.1
 have c:=c.upd O n
 refine Mn a (by simp) (Xj k) (F9 k) fun w6 Q a=>?_
 have l:=Q.stp l d a.1
 have c:=c.upd Q n
 refine Q7A a rfl ?_
 have W:=M6.mk r s k g4 g5 g6
 have q:=Zo B g
 refine sta c rfl rfl (by rw[List.all_toArray];exact List.all_eq_true.2 (Rep.one W)) fun w7 u7 c=>?_
 have l:=u7.stp l q c.1
 refine W2 c rfl ?_
 exact h t5 t8 A w7 σ3 l W)
theorem Q9z {c:Cla} {cs:List Value} (hs:X4 w σ) (hc:U5 σ c cs) (am:T2 c)
 (h: ∀W V mv w' σ',Stp w σ w' σ'→U5 σ' c [S c.name,S c.super,W, .bool c.iface, .bool c.abs, .bool c.fin,V,mv]→K (.agg [S c.name,S c.super,W, .bool c.iface, .bool c.abs, .bool c.fin,V,mv].toArray) w'):Q0 P F.ce [.agg cs.toArray] w K:=Q3G (by
 obtain ⟨W,V,mv,rfl,g1,g2,R,g4,g5⟩:=hc
 obtain ⟨s1,s2,s3,s4⟩:=am
 unfold Ic
 refine Ad hs fun b w1 σ1 l o f=>?_
 refine G1 o.sat fun X w2 σ2 ak r g=>?_
 have bn:=f.lt
 replace f:=f.step r
 have aw:=r.sat
 have g1:=(g1.up o).up r
 have g2:=(g2.up o).up r
 have R:=(R.up o).up r
 have L: ∀{w':World} (i:Nat) (v:Value),[S c.name,S c.super,W, .bool c.iface, .bool c.abs, .bool c.fin,V,mv][i]? =some v→Hst w2 σ2 w' σ2→w'.cell? ((⟨b,0,none⟩:Addr).add i)=some v:=fun i v U hh=>(f.step hh.stp).cell U
 refine U8 aw ?_
 refine X2 (.pointer (some ((⟨b,0,none⟩:Addr).add 2))) (fun w l=>by rw[fa];exact X6 rfl) ?_
 refine X2 (.pointer (some ((⟨b,0,none⟩:Addr).add 6))) (fun w l=>by rw[fa];exact X6 rfl) ?_
 refine X2 W (fun t w l e=>by rw[e];exact Qd (L 2 W rfl l) (X6 rfl)) ?_
 refine Rb (Φ:=fun σ' v=>Sl 1 Y1 σ' v c.like) (fun t w l e=>by rw[e];exact Vg l.sat g1 s1 fun v' w' σ' E U=>Q1g l E U) ?_
 refine X2 V (fun t w l e=>by rw[e];exact Qd (L 6 V rfl l) (X6 rfl)) ?_
 refine X2 (.pointer (some ((⟨b,0,none⟩:Addr).add 2))) (fun w l=>by rw[fa];exact X6 rfl) ?_
 refine Rb (Φ:=fun σ' v=>Sl 3 E2 σ' v c.fields) (fun t w l e=>by rw[e];exact Od l.sat g2 s2 fun v' w' σ' E U=>Q1g l E U) ?_
 rintro t6 t9 t7 t8 a8 bh Y w3 ba e6 e9 e7 ⟨σ8,k8,f8⟩ bj ar ⟨bg,ap,u⟩
 subst ar
 obtain ⟨σ3,k3,l1,l2⟩:=k8.join ap
 have f8:=f8.lift l1
 have u:=u.lift l2
 have R:=R.up k3
 have f:=f.step k3
 have g:=g.step k3
 have M:X≠b:=by omega
 have hS:=(o.trans r).trans k3
 refine Mn f (by simp) (Xj f8) (F9 f8) fun w4 u4 f=>?_
 rw[fa]
 have hS:=u4.stp hS l f.1
 have g:=g.upd u4 M
 refine Mn f (by simp) (Xj u) (F9 u) fun w5 u5 f=>?_
 rw[fa]
 have hS:=u5.stp hS l f.1
 have g:=g.upd u5 M
 refine Yv f rfl ?_
 refine Q8 R ?_
 refine D3 c.methods.length (fun n a w'=> ∃σ',Stp w σ w' σ'∧SLe σ3 σ'∧V7 w.heap.size T.d 7 M6 σ' w' a (c.methods.take n)∧Z5 σ' w' b [S c.name,S c.super,t8, .bool c.iface, .bool c.abs, .bool c.fin,Y,mv]∧Z5 σ' w' X [S [],S [], .slice none 0 0, .bool false, .bool false, .bool false, .slice none 0 0, .slice none 0 0]∧ ∀k,a.ownBlock=some k→k≠b∧k≠X)
  ⟨σ3,hS,SLe.refl _,V7.nil,f,g,fun k E=>by cases E⟩ fun n a w6 d hn hi=>?_
 obtain ⟨σ6,C,B,ha,f,g,j⟩:=hi
 refine Z1 ?_
 refine Q6 (fun hh=>?_) (fun hh=>?_)
 ·have y:n<c.methods.length:=by simpa using hh
  have ab:c.methods.length≤9223372036854775807:=by omega
  refine L7 (R.lift B) y fun p cs hl A hr=>?_
  refine Y9 C.sat hl A ?_
  refine Y6 C.sat (by rfl) A (Rep.one hr) fun q w7 σ7 m hq=>?_
  refine Y9 m.sat hq A ?_
  refine Q3o m.sat (Rep.up m.le hr) (s4 _ (List.getElem_mem y)) fun pv cv U w8 σ8 O al=>?_
  have J:=(Nxt.of_stp (D:=fun k=>a.ownBlock=some k) m).trans (Nxt.of_stp O)
  have aq:=(ha.up m).up O
  have a5:=(f.nx J fun e=>(j _ e).1 rfl).lt
  have a1:=(g.nx J fun e=>(j _ e).2 rfl).lt
  refine Jy ((C.trans m).trans O) aq al rfl rfl rfl (by rw[List.length_take];omega) (by rw[List.length_take];omega) fun s v' w9 σ9 z ah ao hat=>?_
  refine E4 ?_
  have z:=J.trans z
  refine Z6 ab y ⟨σ9,ah,B.more z.le,?_,f.nx z fun e=>(j _ e).1 rfl,g.nx z fun e=>(j _ e).2 rfl,?_⟩
  ·rw[List.take_add_one,List.getElem?_eq_getElem y];exact ao
  ·intro k E
   rcases hat with hat | hat
   ·exact j k (hat▸E)
   ·have:=hat k E
    constructor<;>omega
 ·have y: ¬n<c.methods.length:=by simpa using hh
  rw[List.take_of_length_le (by omega)] at ha
  obtain ⟨σ7,Q,N,ae,H⟩:=ha.keep C
  have f:Z5 σ7 w6 b _:=⟨(H b fun e=>(j b e.symm).1 rfl).trans f.1,f.2⟩
  have g:Z5 σ7 w6 X _:=⟨(H X fun e=>(j X e.symm).2 rfl).trans g.1,g.2⟩
  rw[fa]
  refine Mn f (by simp) (Xj N) (F9 N) fun w7 u7 f=>?_
  have Q:=u7.stp Q l f.1
  have g:=g.upd u7 M
  refine Q7A f rfl ?_
  have hr:=U5.mk (f8.lift (B.more ⟨ae⟩)) (u.lift (B.more ⟨ae⟩)) N g4 g5
  have Z:=Zo ak o
  refine sta g rfl rfl (by rw[List.all_toArray];exact List.all_eq_true.2 (Rep.one hr)) fun w8 u8 g=>?_
  have an:=u8.stp Q Z g.1
  refine W2 g rfl ?_
  exact h t8 Y a w8 σ7 an hr)
end Go.Proofs.YtfppjenblllfaaaGreatDoor

namespace Go.Hm
open Go.Kd
def H2 {α:Type}:Nat→List α→List α
 | 0,xs=>xs
 | i+1,xs=>match (H2 i xs)[i]?,(H2 i xs)[xs.length-1-i]? with
  | some a,some b=>((H2 i xs).set i b).set (xs.length-1-i) a
  | _,_=>H2 i xs
theorem Ak {α:Type} (xs:List α): ∀i,2*i≤xs.length→(H2 i xs).length=xs.length∧ ∀k,k<xs.length→(H2 i xs)[k]? =if k<i∨xs.length-1-k<i then xs[xs.length-1-k]? else xs[k]?
 | 0,_=>⟨rfl,fun k j=>by simp[H2]⟩
 | i+1,h=>by
  obtain ⟨g,a⟩:=Ak xs i (by omega)
  have e:=a i (by omega)
  have d:=a (xs.length-1-i) (by omega)
  rw[if_neg (by omega)] at e d
  have n:i<xs.length:=by omega
  have f:xs.length-1-i<xs.length:=by omega
  rw[List.getElem?_eq_getElem (l:=xs) n] at e
  rw[List.getElem?_eq_getElem (l:=xs) f] at d
  simp only[H2,e,d]
  refine ⟨by simp[g],fun k j=>?_⟩
  by_cases b:k=xs.length-1-i
  ·subst b
   rw[List.getElem?_set_self (by simp[g];omega),if_pos (by omega)]
   rw[show xs.length-1-(xs.length-1-i)=i by omega,List.getElem?_eq_getElem (by omega)]
  ·rw[List.getElem?_set_ne (by omega)]
   by_cases c:k=i
   ·subst c
    rw[List.getElem?_set_self (by omega),if_pos (by omega),List.getElem?_eq_getElem (by omega)]
   ·rw[List.getElem?_set_ne (by omega),a k j]
    by_cases m:k<i∨xs.length-1-k<i
    ·rw[if_pos m,if_pos (by omega)]
    ·rw[if_neg m,if_neg (by omega)]
theorem Q8S {α:Type} (xs:List α) (i:Nat) (d:2*i≤xs.length) (f:xs.length≤2*i+1):H2 i xs=xs.reverse:=by
 obtain ⟨e,c⟩:=Ak xs i d
 apply List.ext_getElem?
 intro k
 by_cases a:k<xs.length
 ·rw[c k a,List.getElem?_reverse a]
  by_cases b:k<i∨xs.length-1-k<i
  ·rw[if_pos b]
  ·rw[if_neg b];congr 1;omega
 ·rw[List.getElem?_eq_none (by omega),List.getElem?_eq_none (by simp;omega)]
theorem Gp (L:Uq): ∀(f:Nat) (n:X0),(C6 L f n).length≤f
 | 0,_=>by simp[C6]
 | f+1,n=>by
  simp only[C6]
  split
  ·simp
  ·have:=Gp L f (by rename_i c _;exact c.super)
   simp only[List.length_cons];rename_i c _;have:=Gp L f c.super;omega
theorem Rw (l:List Cla) (n:X0):(chain l n).length≤l.length+1:=Gp _ _ _
theorem Pi {l:List Cla} {n:X0} {c:Cla} (h:c∈chain l n):c∈l:=by
 have key: ∀(f:Nat) (n:X0),c∈C6 (lk l) f n→c∈l:=by
  intro f
  induction f with
  | zero=>intro n h;simp[C6] at h
  | succ f b=>
   intro n h
   simp only[C6] at h
   split at h
   ·simp at h
   ·rename_i d a
    rcases List.mem_cons.1 h with rfl | h
    ·exact (U1 a).2.1
    ·exact b _ h
 exact key _ _ h
theorem Jx {α β:Type} (f:α→List β) (k:Nat): ∀(xs:List α),(∀x∈xs,(f x).length≤k)→(xs.flatMap f).length≤xs.length*k
 | [],_=>by simp
 | x::r,h=>by
  have c:=h x (by simp)
  have b:=Jx f k r fun y a=>h y (by simp[a])
  simp only[List.flatMap_cons,List.length_append,List.length_cons,Nat.add_mul];omega
end Go.Hm

namespace Go.Hm
open Go.Kd
def X9 (l:List Cla) (i:Nat):X0:=(l.getD i Cla.zero).name
theorem Qt {l:List Cla} (b:G7 l) {i:Nat} (a:i<l.length):lk l (X9 l i)=some (l.getD i Cla.zero):=by
 have e:l.getD i Cla.zero=l[i]:=by rw[List.getD_eq_getElem?_getD,List.getElem?_eq_getElem a];rfl
 unfold X9
 rw[e];exact b.lk (List.getElem_mem a)
theorem E0 {l:List Cla} {u:X0} {j:Nat} (h:Y3 l u=some j):j<l.length∧X9 l j=u:=by
 obtain ⟨a,b,_⟩:=List.findIdx?_eq_some_iff_getElem.1 h
 refine ⟨a,?_⟩
 unfold X9
 rw[List.getD_eq_getElem?_getD,List.getElem?_eq_getElem a]
 simpa using b
theorem Q0p {l:List Cla} (d:Ye l) (g:G7 l) {i j:Nat} (b:i<l.length) {u:X0} (e:u∈J4 (l.getD i Cla.zero)) (a:Y3 l u=some j):F0 l (X9 l j)<F0 l (X9 l i):=by
 obtain ⟨c,f,_⟩:=Xt a
 rw[(E0 a).2]
 exact Qe d (Qt g b) e f
theorem Ss {α β:Type} {f g:β→α→β}: ∀(xs:List α) (b:β),(∀b x,x∈xs→f b x=g b x)→xs.foldl f b=xs.foldl g b
 | [],_,_=>rfl
 | x::r,b,h=>by
  rw[List.foldl_cons,List.foldl_cons,h b x (by simp)]
  exact Ss r _ fun b y a=>h b y (by simp[a])
theorem Xa {l:List Cla} {frm:Nat} (f:Nat) (a:List Nat) {i:Nat} (h:i<frm):I2 l frm f a i=a:=by
 cases f<;>simp[I2,h]
theorem Q8R {l:List Cla} (o:Ye l) (k:G7 l) {frm:Nat} (c:0<frm): ∀(f g:Nat) (a:List Nat) (i:Nat),i<l.length→F0 l (X9 l i)<f→F0 l (X9 l i)<g→I2 l frm f a i=I2 l frm g a i:=by
 intro f
 induction f with
 | zero=>intro g a i _ h;omega
 | succ f n=>
  intro g a i e r q
  obtain ⟨g,rfl⟩: ∃m,g=m+1:=⟨g-1,by omega⟩
  simp only[I2]
  split
  ·rfl
  ·split
   ·rfl
   ·congr 1
    refine Ss _ _ fun b u p=>?_
    cases d:Y3 l u with
    | none=>simp only[Option.getD_none];rw[Xa f b c,Xa g b c]
    | some j=>
     simp only[Option.getD_some]
     have:=Q0p o k e p d
     exact n g b j (E0 d).1 (by omega) (by omega)
def Qi (l:List Cla) (frm:Nat) (a:List Nat) (i:Nat):List Nat:=I2 l frm (l.length+1) a i
theorem Q6s {l:List Cla} (e:Ye l) (f:G7 l) {frm:Nat} (c:0<frm) (a:List Nat) {i:Nat} (g:i<l.length):Qi l frm a i=if i<frm then a else if i∈a then a else
 ((J4 (l.getD i Cla.zero)).foldl (fun a n=>Qi l frm a ((Y3 l n).getD 0)) a)++[i]:=by
 have k:=Q0o l (X9 l i)
 unfold Qi
 rw[I2]
 split
 ·rfl
 ·split
  ·rfl
  ·congr 1
   refine Ss _ _ fun b u h=>?_
   cases d:Y3 l u with
   | none=>simp only[Option.getD_none];rw[Xa _ b c,Xa _ b c]
   | some j=>
    simp only[Option.getD_some]
    have:=Q0p e f g h d
    exact Q8R e f c _ _ b j (E0 d).1 (by omega) (by omega)
theorem Vq {α:Type} {p:Nat→Prop} {f:List Nat→α→List Nat}: ∀(xs:List α) (b:List Nat),(∀b x,x∈xs→ ∀y∈f b x,y∈b∨p y)→ ∀y∈xs.foldl f b,y∈b∨p y
 | [],b,_=>fun y a=> .inl a
 | x::r,b,h=>fun y a=>by
  rw[List.foldl_cons] at a
  rcases Vq r _ (fun b z c=>h b z (by simp[c])) y a with h1 | h1
  ·exact h b x (by simp) y h1
  ·exact .inr h1
theorem Q52 {l:List Cla} (m:G7 l) {frm:Nat} (q:0<frm): ∀(f:Nat) (a:List Nat) (i:Nat),i<l.length→ ∀y∈I2 l frm f a i,y∈a∨(y<l.length∧(y=i∨Ur (lk l) (X9 l i) (X9 l y))):=by
 intro f
 induction f with
 | zero=>intro a i _ y hy;exact .inl hy
 | succ f s=>
  intro a i g y hy
  simp only[I2] at hy
  split at hy
  ·exact .inl hy
  ·split at hy
   ·exact .inl hy
   ·rcases List.mem_append.1 hy with hy | hy
    ·refine Vq (p:=fun y=>y<l.length∧(y=i∨Ur (lk l) (X9 l i) (X9 l y))) _ _ (fun b u o y hy=>?_) y hy
     cases e:Y3 l u with
     | none=>
      rw[e] at hy
      simp only[Option.getD_none] at hy
      rw[Xa f b q] at hy
      exact .inl hy
     | some j=>
      rw[e] at hy
      simp only[Option.getD_some] at hy
      obtain ⟨k,d⟩:=E0 e
      obtain ⟨c,r,_⟩:=Xt e
      rcases s b j k y hy with h | ⟨n,rfl | h2⟩
      ·exact .inl h
      ·exact .inr ⟨n, .inr ⟨_,Qt m g,u,o,by rw[d];exact .refl r⟩⟩
      ·exact .inr ⟨n, .inr ⟨_,Qt m g,u,o,by rw[←d];exact h2.reach⟩⟩
    ·simp at hy;subst hy;exact .inr ⟨g, .inl rfl⟩
theorem Q1U {α:Type} {q:List Nat→Prop} {f:List Nat→α→List Nat}: ∀(xs:List α) (b:List Nat),(∀b x,x∈xs→q b→q (f b x))→q b→q (xs.foldl f b)
 | [],b,_,h=>h
 | x::r,b,a,h=>by
  rw[List.foldl_cons]
  exact Q1U r _ (fun b z c=>a b z (by simp[c])) (a b x (by simp) h)
def Tf (l:List Cla) (a:List Nat):Prop:=a.Nodup∧ ∀y∈a,y<l.length
theorem Tf.len {l:List Cla} {b:List Nat} (h:Tf l b):b.length≤l.length:=by
 have key: ∀(n:Nat) (b:List Nat),b.Nodup→(∀y∈b,y<n)→b.length≤n:=by
  intro n
  induction n with
  | zero=>
   intro b _ h
   cases b with
   | nil=>simp
   | cons a r=>have:=h a (by simp);omega
  | succ n j=>
   intro b f h
   have k:=j (b.filter (fun y=> !decide (y=n))) (f.sublist List.filter_sublist) (fun y c=>by
    have:=List.mem_filter.1 c
    have i:=h y this.1
    have o:y≠n:=by simpa using this.2
    omega)
   have i:b.length≤(b.filter (fun y=> !decide (y=n))).length+1:=by
    clear k h
    induction b with
    | nil=>simp
    | cons a r d=>
     obtain ⟨m,g⟩:=List.nodup_cons.1 f
     by_cases e:a=n
     ·subst e
      have:r.filter (fun y=> !decide (y=a))=r:=List.filter_eq_self.2 fun y c=>by simp;rintro rfl;exact m c
      simp[this]
     ·have:=d g
      simp[e];exact this
   omega
 exact key _ _ h.1 h.2
theorem Gh {l:List Cla} (s:Ye l) (q:G7 l) {frm:Nat} (o:0<frm): ∀(f:Nat) (d:List Nat) (i:Nat),i<l.length→Tf l d→Tf l (I2 l frm f d i):=by
 intro f
 induction f with
 | zero=>intro d i _ h;exact h
 | succ f C=>
  intro d i z h
  simp only[I2]
  split
  ·exact h
  ·split
   ·exact h
   ·rename_i t
    have A:Tf l ((J4 (l.getD i Cla.zero)).foldl (fun d n=>I2 l frm f d ((Y3 l n).getD 0)) d):=by
     refine Q1U _ _ (fun b u w m=>?_) h
     cases e:Y3 l u with
     | none=>simp only[Option.getD_none];rw[Xa f b o];exact m
     | some j=>exact C b j (E0 e).1 m
    have v:i∉(J4 (l.getD i Cla.zero)).foldl (fun d n=>I2 l frm f d ((Y3 l n).getD 0)) d:=by
     intro k
     rcases Vq (p:=fun y=>Ur (lk l) (X9 l i) (X9 l y)) _ _ (fun b u w y hy=>by
      cases e:Y3 l u with
      | none=>
       rw[e] at hy
       simp only[Option.getD_none] at hy
       rw[Xa f b o] at hy
       exact .inl hy
      | some j=>
       rw[e] at hy
       simp only[Option.getD_some] at hy
       obtain ⟨r,g⟩:=E0 e
       obtain ⟨c,B,_⟩:=Xt e
       rcases Q52 q o f b j r y hy with h | ⟨h1,rfl | h2⟩
       ·exact .inl h
       ·exact .inr ⟨_,Qt q z,u,w,by rw[g];exact .refl B⟩
       ·exact .inr ⟨_,Qt q z,u,w,by rw[←g];exact h2.reach⟩) i k with h1 | h1
     ·exact t h1
     ·exact s _ h1
    refine ⟨?_,fun y hy=>?_⟩
    ·rw[List.nodup_append]
     exact ⟨A.1,by simp,by rintro a s b m rfl;simp at m;subst m;exact v s⟩
    ·rcases List.mem_append.1 hy with hy | hy
     ·exact A.2 y hy
     ·simp at hy;omega
end Go.Hm

namespace Go.Emb
open Go.RowKit Go.Hm
variable {P : Program} {w w0 w1 w' w'' : World} {K : Value → World → Prop} {σ σ0 σ1 σ' : Q5}
def Ib (sz:Nat) (v:Value) (i:Nat):Addr:=match v with
 | .slice (some b) _ _=>b.add (i*sz)
 | _=>⟨0,0,none⟩
section
variable {α : Type} {R : Q5 → α → List Value → Prop} {sz : Nat} {v : Value} {xs : List α}
theorem Sl.el (h:Sl sz R σ v xs) {i:Nat} (c:i<xs.length): ∃cs,Z3 σ (Ib sz v i) cs∧cs.length=sz∧R σ xs[i] cs:=by
 obtain ⟨a,f,rfl,l,m,j,d⟩:=h
 cases a with
 | none=>have:=j rfl;omega
 | some b=>
  obtain ⟨cs,k,e,g⟩:=(d b rfl).2 i xs[i] (by simp[c])
  exact ⟨cs,k,e,g⟩
theorem J0 {t e:TypeId} {by_:Nat} {z:Value} [TS P t e] [TZ P e sz by_ z] (h:Sl sz R σ v xs) {i:Nat} (g:i<xs.length) (c:K (.pointer (some (Ib sz v i))) w):indexAddr P t v (I i) w K:=by
 obtain ⟨a,d,rfl,k,l,f,j⟩:=h
 cases a with
 | none=>have:=f rfl;omega
 | some b=>
  rw[Cd (by omega) (by omega)]
  simpa [Ib] using c
theorem Sl.elS {xs:List Kd.X0} (h:Sl 1 Y1 σ v xs) {i:Nat} (a:i<xs.length):Z3 σ (Ib 1 v i) [S xs[i]]∧xs[i].length≤Z9:=by
 obtain ⟨cs,b,d,rfl,c⟩:=h.el a;exact ⟨b,c⟩
theorem Sl.elF {xs:List Fld} (h:Sl 3 E2 σ v xs) {i:Nat} (a:i<xs.length):Z3 σ (Ib 3 v i) [S xs[i].name,S xs[i].kind, .bool xs[i].tr]∧E2 σ xs[i] [S xs[i].name,S xs[i].kind, .bool xs[i].tr]:=by
 obtain ⟨cs,b,d,rfl,c⟩:=h.el a;exact ⟨b,rfl,c⟩
theorem Sl.elI {xs:List Ins} (h:Sl 3 I8 σ v xs) {i:Nat} (a:i<xs.length):Z3 σ (Ib 3 v i) [S xs[i].op,I xs[i].n,S xs[i].s]∧I8 σ xs[i] [S xs[i].op,I xs[i].n,S xs[i].s]:=by
 obtain ⟨cs,b,d,rfl,c⟩:=h.el a;exact ⟨b,rfl,c⟩
theorem Sl.elK {xs:List Cat} (h:Sl 4 Yo σ v xs) {i:Nat} (a:i<xs.length):Z3 σ (Ib 4 v i) [I xs[i].frm,I xs[i].to,I xs[i].at_,S xs[i].cls]∧Yo σ xs[i] [I xs[i].frm,I xs[i].to,I xs[i].at_,S xs[i].cls]:=by
 obtain ⟨cs,b,d,rfl,c⟩:=h.el a;exact ⟨b,rfl,c⟩
theorem Sl.conv {α β:Type} {R:Q5→α→List Value→Prop} {g:Q5→β→List Value→Prop} {sz:Nat} {v:Value} {xs:List α} {ys:List β} (h:Sl sz R σ v xs) (f:ys.length=xs.length) (m: ∀i (e:i<xs.length) (u:i<ys.length) cs,R σ xs[i] cs→g σ ys[i] cs):Sl sz g σ v ys:=by
 obtain ⟨a,d,rfl,o,p,n,j⟩:=h
 refine ⟨a,d,by rw[f],by rw[f];exact o,p,n,fun b k=>⟨fun t=>(j b k).1 (by omega),fun i x s=>?_⟩⟩
 obtain ⟨e,rfl⟩:=List.getElem?_eq_some_iff.1 s
 have c:i<xs.length:=by omega
 obtain ⟨cs,r,q,l⟩:=(j b k).2 i xs[i] (List.getElem?_eq_getElem c)
 exact ⟨cs,r,q,m i c e cs l⟩
theorem Sl.elM {xs:List Hm.Met} (h:Sl 7 M6 σ v xs) {i:Nat} (c:i<xs.length): ∃pv a b,Z3 σ (Ib 7 v i) [S xs[i].name,pv,S xs[i].result, .bool xs[i].abs,I xs[i].locals,a,b]∧M6 σ xs[i] [S xs[i].name,pv,S xs[i].result, .bool xs[i].abs,I xs[i].locals,a,b]:=by
 obtain ⟨cs,d,f,pv,a,b,rfl,e⟩:=h.el c;exact ⟨pv,a,b,d,pv,a,b,rfl,e⟩
theorem Sl.elC {xs:List Cla} (h:Sl 8 U5 σ v xs) {i:Nat} (c:i<xs.length): ∃a b mv,Z3 σ (Ib 8 v i) [S xs[i].name,S xs[i].super,a, .bool xs[i].iface, .bool xs[i].abs, .bool xs[i].fin,b,mv]∧U5 σ xs[i] [S xs[i].name,S xs[i].super,a, .bool xs[i].iface, .bool xs[i].abs, .bool xs[i].fin,b,mv]:=by
 obtain ⟨cs,d,f,a,b,mv,rfl,e⟩:=h.el c;exact ⟨a,b,mv,d,a,b,mv,rfl,e⟩
end
theorem J5 {b:World→World→Prop} {A a:(Value→World→Prop)→Prop} {V:Value} (h:A (fun v _=>V=v)) (c:a (fun v _=>V=v)):Q7 b A a:=W6 _ (fun _ _ _ h _=>h) h c
theorem M5 {v V:Value} (h:V=v):dk (fun w w'=>Below w.heap.size w w') (fun v _=>V=v) w v w:=⟨Below.refl _ _,h⟩
theorem Qf {v V:Value} (a:Below w.heap.size w w') (h:V=v):dk (fun w w'=>Below w.heap.size w w') (fun v _=>V=v) w v w':=⟨a,h⟩
theorem Jv {c b:Bool} {V:Value} {a:World→(Value→World→Prop)→Prop} (h:c=b→a w (dk (fun w w'=>Below w.heap.size w w') (fun v _=>V=v) w)):Q1 (.bool c) b w a (dk (fun w w'=>Below w.heap.size w w') (fun v _=>(if c=b then V else undef)=v) w):=by
 by_cases e:c=b
 ·simp only[e,if_true]
  subst e
  have:=h rfl
  cases c
  ·rw[Vi];exact this
  ·rw[I3];exact this
 ·have d:c= !b:=by cases c<;>cases b<;>simp_all
  rw[if_neg e];subst d
  cases b
  ·rw[Bool.not_false,Ta];exact ⟨Below.refl _ _,rfl⟩
  ·rw[Bool.not_true,Uc];exact ⟨Below.refl _ _,rfl⟩
theorem P5 {p:Prop} (hq:p:=by intros;(repeat (rename_i hx;subst hx));(repeat' (first | (with_reducible exact M5 rfl) | (with_reducible exact Qf (Stp.bel (by (repeat (first | exact Stp.refl (by (first | assumption | exact Stp.sat (by assumption) | exact Hst.sat (by assumption))) | assumption | refine Stp.trans ?_ (by first | assumption | exact Hst.stp (by assumption)))))) rfl) | (with_reducible intro _) | (simp only[↓M2,M2,Mb,reduceIte]) | (with_reducible show Q2 _ _ _ _ _;first | refine X8 aS aL aR ?_ | refine Y9 aS aL aR ?_ | refine ld aS aL aR ?_) | (with_reducible show indexAddr _ _ _ _ _ _;refine J0 aL au ?_) | (with_reducible show X5 _ _ _ _ _ _ _ _;refine Q8 aL ?_) | (with_reducible show Ut _ _ _ _ _ _;refine V3 aR ?_) | (with_reducible show pick _ _ _ _ _ _;refine Zq ?_) | (apply Jv;intro hh;(try simp only[hh,reduceIte,↓M2,M2,Mb,reduceIte]))));done):p:=hq
end Go.Emb

namespace Go.Emb
open Go.RowKit Go.Hm
variable {P : Program} {w w0 w1 w' w'' : World} {K : Value → World → Prop} {σ σ0 σ1 σ' : Q5}
section
variable {α : Type} {R : Q5 → α → List Value → Prop} {B sz : Nat} {e : TypeId} {v u : Value} {xs ys : List α}
def Emp (v:Value):Prop:= ∃a,v= .slice a 0 0
theorem X0E {t q:TypeId} {by_:Nat} {z:Value} {cs:List Bool} [ts:TS P t e] [tz:TZ P e sz by_ z] [hr:Rep R] (Z:Stp w0 σ0 w σ) (ha:V7 w0.heap.size e sz R σ w v []) (hv:Emp v) (H:X4 w σ') (hu:Sl sz R σ' u ys) (hR: ∀x cs,R σ' x cs→R σ x cs) (V:(z.cells.size==sz&&decide (0<sz))=true)
 (hb:ys.length*by_≤140737488355328) (hm:ys.length≤1000000000000)
 (h: ∀l w',Stp w σ w' σ→V7 w0.heap.size e sz R σ w' l ys→K l w'):X5 P .append [t,t] q cs [v,u] w K:=by
 obtain ⟨j,rfl⟩:=hv
 have M:=Z.sat
 obtain ⟨a,d,c,rfl,n1,s,n3,n4,n5⟩:=hu.cells H
 obtain ⟨i,Q,C,J,n⟩:=tz.info
 simp only[Bool.and_eq_true,beq_iff_eq,decide_eq_true_eq] at V
 obtain ⟨L,ag⟩:=V
 have g:Src P i.size t (.slice a ys.length d) ys.length c w:=by
  cases a with
  | some b=>exact Src.ofSlice w ts.h b ys.length d c (by rw[C];exact s) (n3 b rfl) n4
  | none=>
   have r:ys.length=0:=by
    obtain ⟨Y,W,e',q1,_,q3,_⟩:=hu;injection e' with e1 e2 e3;have:=n1 rfl;omega
   have N:c=[]:=List.eq_nil_of_length_eq_zero (by rw[s,r];simp)
   subst N
   rw[r];exact Src.ofNil w ts.h d
 have p: ∀l w',(Builtin.append_ #[t,t] q #[.slice j 0 0, .slice a ys.length d]).run P w= .ok l w'→Stp w σ w' σ→V7 w0.heap.size e sz R σ w' l ys→X5 P .append [t,t] q cs [.slice j 0 0, .slice a ys.length d] w K:=by
  intro l w' f D hq
  have m:(builtin .append #[t,t] q cs.toArray #[.slice j 0 0, .slice a ys.length d]).run P w= .ok (.value l) w':=by
   simp[builtin,f]
  unfold X5
  rw[Xc];unfold T7
  rw[m]
  exact h l w' D hq
 by_cases r:ys=[]
 ·subst r
  have N:c=[]:=List.eq_nil_of_length_eq_zero (by simpa using s)
  subst N
  refine p (.slice j 0 0) w ?_ (Stp.refl M) ha
  have U:=g.len w
  have y:=g.cells
  simp only[List.length_nil] at U y⊢
  cases j<;>simp[Builtin.append_,run_underlying ts.h,sizeOf,typeInfo,Q,U,y,storeCells]
 ·have ae:0<ys.length:=List.length_pos_iff.2 r
  have o:(Builtin.firstCells i.size 0 (.slice j 0 0)).run P w.drew= .ok (#[]:Array Value) w.drew:=by
   cases j with
   | none=>exact run_firstCells_none w.drew i.size 0 0 0
   | some Y=>exact run_firstCells_some w.drew i.size 0 Y 0 0 [] (by simp) (by intro _ _ h';simp at h')
  have X:0<0+ys.length:=by omega
  have f:=run_append_grow_src (P:=P) w t t q e i z ts.h Q n j 0 0 [] o (.slice a ys.length d) ys.length c g X (by omega) (growslice_fits X (by rw[J,Nat.zero_add];exact hb))
  simp only[Nat.zero_add] at f
  have O:=grownCap_le_maxLen w ys.length 0 e (by simp only[maxLen];omega)
  have E:=grownCap_ge w ys.length 0 e
  refine p _ _ f (Stp.of_below M ((Below.refl _ _).drew.alloc (Nat.le_refl _) _)) ⟨c,⟨s, .inr ⟨w.heap.size,_,_,rfl,Z.bel.size,heap_alloc_new w.drew _,E,O,?_,?_⟩⟩,?_,fun i x hx=>hR _ _ (n5 i x hx)⟩
  ·simp only[List.nil_append]
   rw[Array.size_append,List.size_toArray,s,size_zeroCells,L,←Nat.add_mul]
   congr 1;omega
  ·simp only[List.nil_append]
   rw[Array.toList_append]
   rw[List.take_append_of_le_length (by simp only[List.toList_toArray];omega),List.take_of_length_le (by simp only[List.toList_toArray];omega)]
  ·intro k D;cases D;exact M.none (Nat.le_refl _)
end
def Q9N {α:Type} (w0:World) (σ:Q5) (e:TypeId) (sz:Nat) (R:Q5→α→List Value→Prop) (xs:List α) (v:Value) (w':World):Prop:=Stp w0 σ w' σ∧V7 w0.heap.size e sz R σ w' v xs
def Q7C {α:Type} (w0:World) (σ:Q5) (e:TypeId) (sz:Nat) (R:Q5→α→List Value→Prop) (v:Value) (w':World):Prop:=Stp w0 σ w' σ∧V7 w0.heap.size e sz R σ w' v ([]:List α)∧Emp v
section
variable {α : Type} {R : Q5 → α → List Value → Prop} {sz : Nat} {e : TypeId} {v u : Value} {xs ys : List α} {A rest : (Value → World → Prop) → Prop}
theorem Q2w [Rep R] (xs:List α) (h:A (Q9N w σ e sz R xs)) (d:rest (Q9N w σ e sz R xs)):Q7 (fun w w'=>Below w.heap.size w w') A rest:=
 W6 _ (fun _ _ _ ⟨a,c⟩ b=>⟨a.trans (Stp.of_below a.sat b),c.up (Stp.of_below a.sat b)⟩) h d
theorem X1j [Rep R] (h:A (Q7C w σ e sz R)) (d:rest (Q7C w σ e sz R)):Q7 (fun w w'=>Below w.heap.size w w') A rest:=
 W6 _ (fun _ _ _ ⟨a,c,f⟩ b=>⟨a.trans (Stp.of_below a.sat b),c.up (Stp.of_below a.sat b),f⟩) h d
theorem Q4E (a:Hst w σ w1 σ) (h:Stp w1 σ w' σ) (b:V7 w.heap.size e sz R σ w' v xs):dk (fun w w'=>Below w.heap.size w w') (Q9N w σ e sz R xs) w1 v w':=⟨h.bel,a.stp.trans h,b⟩
theorem X1I (c:Hst w σ w1 σ) (h:Stp w1 σ w' σ) (b:V7 w.heap.size e sz R σ w' v ([]:List α)) (a:Emp v):dk (fun w w'=>Below w.heap.size w w') (Q7C w σ e sz R) w1 v w':=⟨h.bel,c.stp.trans h,b,a⟩
theorem Tv {t:TypeId} {by_:Nat} {z:Value} [ts:TS P t e] [tz:TZ P e sz by_ z] (R:Q5→α→List Value→Prop) (b:Stp w0 σ0 w σ) (c:0<sz)
 (h: ∀v w',Stp w σ w' σ→V7 w0.heap.size e sz R σ w' v ([]:List α)→Emp v→K v w'):buildSlice P t 0 [] w K:=by
 obtain ⟨cells,g,f⟩:=Ow (P:=P) (t:=t) (sz:=sz) (e:=e) [] (by simp) (by simp) w
 unfold buildSlice
 have a:(Instr.buildSlice t 0 ([]:List (Nat×Value)).toArray).run P w=_:=g
 rw[Y0 a]
 refine h _ _ (Stp.own b.sat _) ⟨[],⟨by simp, .inr ⟨_,_,cells,rfl,b.bel.size,heap_alloc_new w _,by simp,by simp[maxLen],?_,by simp⟩⟩,?_,by simp⟩ ⟨_,rfl⟩
 ·have:cells.size=0:=by rw[←Array.length_toList,f];rfl
  simp[this]
 ·intro k d;cases d;exact b.sat.none (Nat.le_refl _)
theorem Q79 [Rep R] {t:TypeId} {by_:Nat} {z:Value} [ts:TS P t e] [tz:TZ P e sz by_ z] (a:(decide (0<sz))=true) (g:rest (Q7C w σ e sz R)):
 Q7 (fun w w'=>Below w.heap.size w w') (fun φ=> ∀w1:World,Hst w σ w1 σ→buildSlice P t 0 [] w1 (dk (fun w w'=>Below w.heap.size w w') φ w1)) rest:=
 X1j (fun w1 b=>Tv R b.stp (by simpa using a) fun v w' c d f=>X1I b c d f) g
end
theorem U5.parts {c:Cla} {a b g d e f i mv:Value} (h:U5 σ c [a,b,g,d,e,f,i,mv]):Sl 1 Y1 σ g c.like∧Sl 3 E2 σ i c.fields∧Sl 7 M6 σ mv c.methods∧c.name.length≤Z9∧c.super.length≤Z9:=by
 obtain ⟨_,_,_,j,k⟩:=h
 simp only[List.cons.injEq,and_true] at j
 obtain ⟨_,_,rfl,_,_,_,rfl,rfl⟩:=j
 exact k
theorem M6.parts {m:Hm.Met} {a pv b d e c f:Value} (h:M6 σ m [a,pv,b,d,e,c,f]):Sl 1 Y1 σ pv m.params∧Sl 3 I8 σ c m.code∧Sl 4 Yo σ f m.catches∧m.name.length≤Z9∧m.result.length≤Z9∧Q11 m.locals:=by
 obtain ⟨_,_,_,g,i⟩:=h
 simp only[List.cons.injEq,and_true] at g
 obtain ⟨_,rfl,_,_,_,rfl,rfl⟩:=g
 exact i
end Go.Emb

namespace Go.Emb
open Go.RowKit
variable {P : Program} {w : World} {K : Value → World → Prop}
end Go.Emb
namespace Go.Proofs.YtfppjenblllfaaaGreatDoor
open Go.Emb Go.RowKit Go.Kd Go.Hm
variable {w : World} {K : Value → World → Prop} {σ : Q5}
end Go.Proofs.YtfppjenblllfaaaGreatDoor

namespace Go.Proofs.YtfppjenblllfaaaGreatDoor
open Go.Emb Go.RowKit Go.Kd
variable {w : World} {K : Value → World → Prop}
end Go.Proofs.YtfppjenblllfaaaGreatDoor

namespace Go.Emb
open Go.RowKit Go.Hm
section
variable {P : Program} {w w0 w1 w' w'' : World} {K : Value → World → Prop} {σ σ0 σ1 σ' : Q5}
theorem Q3w (a:Array Value) (n i:Nat) (d:i<n) (h:0<a.size):((madeCells a (n*a.size)).toList.drop (i*a.size)).take a.size=a.toList:=by
 have g:i*a.size+a.size≤n*a.size:=by rw[←Nat.succ_mul];exact Nat.mul_le_mul_right _ d
 refine List.ext_getElem (by simp[madeCells];omega) fun j k f=>?_
 have c:j<a.size:=by simpa using f
 simp only[List.getElem_take,List.getElem_drop,madeCells,Array.toList_map,List.getElem_map,Array.toList_range,List.getElem_range,Array.getElem_toList]
 have:(i*a.size+j) % a.size=j:=by rw[Nat.add_comm,Nat.add_mul_mod_self_right];exact Nat.mod_eq_of_lt c
 rw[this]
 simp[c]
theorem X21 {α:Type} {R:Q5→α→List Value→Prop} {t e:TypeId} {sz by_ n:Nat} {z:Value} [ts:TS P t e] [tz:TZ P e sz by_ z] (m:α) (r:X4 w σ) (C:z.cells.size=sz) (c:0<sz) (E:R σ m z.cells.toList) (H:n*sz≤16777216) (J:by_*n≤281474976710656)
 (h: ∀v w',Stp w σ w' σ→V7 w.heap.size e sz R σ w' v (List.replicate n m)→(∀k,v.ownBlock=some k→w.heap.size≤k)→K v w'):Nl P t (I n) (I n) w K:=by
 obtain ⟨i,A,d,q,a⟩:=tz.info
 have p:(i.bytes:Int)*(n:Int)≤281474976710656:=by
  rw[q]
  have:((by_*n:Nat):Int)≤281474976710656:=by omega
  rwa [Int.natCast_mul] at this
 have D:n≤16777216:=by
  have:n*1≤n*sz:=Nat.mul_le_mul_left _ c
  omega
 have g:=run_makeSlice (P:=P) w t e i z ts.h A a .i64 .i64 (n:Int) (n:Int) (by omega) (Int.le_refl _) (by rw[d];simp only[Int.toNat_natCast];omega) p (by omega)
 unfold Nl
 rw[Y0 g]
 simp only[Int.toNat_natCast,d]
 refine h _ _ (Stp.own r _) ⟨(madeCells z.cells (n*sz)).toList,⟨by simp[madeCells], .inr ⟨w.heap.size,n,madeCells z.cells (n*sz),?_,Nat.le_refl _,heap_alloc_new w _,?_,?_,?_,?_⟩⟩,?_,fun j x f=>?_⟩ ?_
 ·simp
 ·simp
 ·simp[maxLen];omega
 ·simp[madeCells]
 ·rw[List.take_of_length_le (by simp[madeCells])]
 ·intro k o;cases o;exact r.none (Nat.le_refl _)
 ·have s:j<n:=by have:=(List.getElem?_eq_some_iff.1 f).1;simpa using this
  have l:x=m:=by
   rw[List.getElem?_replicate] at f
   rw[if_pos s] at f
   exact (Option.some.inj f).symm
  subst l
  subst C
  rw[Q3w z.cells n j s c]
  exact E
 ·intro k o;cases o;exact Nat.le_refl _
end
section
variable {α : Type} {R : Q5 → α → List Value → Prop} {B sz : Nat} {e : TypeId} {v u : Value} {xs : List α} {w w' w0 : World} {σ σ' σ0 : Q5}
theorem U6.shiftR [hr:Rep R] (h:U6 B e sz R σ w v xs) (z:SLe σ σ') (m: ∀k,v.ownBlock=some k→σ' k=none):U6 B e sz R σ' w v xs:=by
 obtain ⟨a,j,rfl,s,r,c,t⟩:=h
 refine ⟨a,j,rfl,s,r,fun b d=>⟨(c b d).1,(c b d).2.1,(c b d).2.2.1,by subst d;exact m _ rfl⟩,fun o=>?_⟩
 obtain ⟨g,f,l,rfl,p,E,C,A,q⟩:=t o
 exact ⟨g,f,l,rfl,p,m g rfl,C,A,fun i x D=>hr.up z.le (q i x D)⟩
def X08 (w:World):World:={w with heap:= #[]}
theorem Q9K (a:X4 w σ):Stp (X08 w) (fun _=>none) w σ:=
 ⟨⟨rfl,rfl,rfl,Nat.zero_le _,fun k c=>absurd c (Nat.not_lt_zero k)⟩,a,fun _ _ h=>(by cases h),fun b d=>absurd d (Nat.not_lt_zero b)⟩
theorem U6.freeze [hr:Rep R] (a:X4 w σ) (h:U6 B e sz R σ w v xs): ∃σ',X4 w σ'∧SLe σ σ'∧Sl sz R σ' v xs∧ ∀k,some k≠v.ownBlock→σ' k=σ k:=by
 obtain ⟨σ',f,c,g,d⟩:=(h.mono (Nat.zero_le B):U6 (X08 w).heap.size e sz R σ w v xs).keep (Q9K a)
 exact ⟨σ',f.sat,g,c,d⟩
end
section
variable {P : Program} {w w0 w1 w' w'' : World} {K : Value → World → Prop} {σ σ0 σ1 σ' : Q5}
theorem Z3.tail {q:Addr} {xs ys:List Value} (h:Z3 σ q (xs++ys)):Z3 σ (q.add xs.length) ys:=by
 obtain ⟨f,a,e,z,d,g⟩:=h
 cases xs with
 | nil=>exact ⟨by simp[Addr.add,f],a,e,z,by simpa [Addr.add] using d,fun i u c=>by simpa [Addr.add] using g i u c⟩
 | cons x xs=>
  refine ⟨by simp[Addr.add,f],a,e,z,by simpa [Addr.add] using d,fun i u c=>?_⟩
  have:=g ((x::xs).length+i) u (by rw[List.getElem?_append_right (by omega)];simpa using c)
  simpa [Addr.add,Nat.add_assoc] using this
theorem U6.down {α:Type} {R:Q5→α→List Value→Prop} {B sz:Nat} {e:TypeId} {v:Value} {xs:List α} (h:U6 B e sz R σ' w v xs) (D:SLe σ σ') (J: ∀x cs,R σ' x cs→R σ x cs):U6 B e sz R σ w v xs:=by
 obtain ⟨a,j,rfl,z,t,c,A⟩:=h
 have m: ∀k,σ' k=none→σ k=none:=fun k s=>by
  cases e:σ k with
  | none=>rfl
  | some o=>have:=D.le k o e;rw[s] at this;cases this
 refine ⟨a,j,rfl,z,t,fun b d=>⟨(c b d).1,(c b d).2.1,(c b d).2.2.1,m _ (c b d).2.2.2⟩,fun p=>?_⟩
 obtain ⟨g,f,l,rfl,q,C,H,E,r⟩:=A p
 exact ⟨g,f,l,rfl,q,m _ C,H,E,fun i x L=>J _ _ (r i x L)⟩
end
section
variable {P : Program} {w w' w0 : World} {σ σ0 : Q5} {α : Type} {R : Q5 → α → List Value → Prop} {sz : Nat} {e : TypeId} {v u : Value} {xs : List α} {y : α}
end
end Go.Emb
namespace Go.Emb
open Go.RowKit Go.Hm
variable {P : Program} {w w0 w1 w' w'' : World} {K : Value → World → Prop} {σ σ0 σ1 σ' : Q5} {b n : Nat} {ds : List Value} {v V : Value}
structure VarT (b : Nat) (ds : List Value) (w w' : World) : Prop where
  kp : Kpt (fun j => j = b) w w'
  var : (b < w.heap.size → w'.heap[b]? = w.heap[b]?) ∨ ∃ e, w'.heap[b]? = some (.cells ds.toArray e (0, 0))
structure VarB (w0 : World) (σ0 : Q5) (w1 : World) (σ : Q5) (b n : Nat) (w' : World) : Prop where
  hst : Hst w0 σ0 w' σ
  kp : Kpt (fun j => j = b) w1 w'
  var : ∃ cs, cs.length = n ∧ Z5 σ w' b cs
theorem VarT.of_below (h:Below w.heap.size w w'):VarT b ds w w':=⟨.of_below h, .inl fun a=>h.block b a⟩
theorem VarT.of_upd (h:Upd w b w') (a:Z5 σ w' b ds):VarT b ds w w':=⟨.of_upd h rfl, .inr a.2⟩
theorem VarB.step (g:w0.heap.size≤b) (c:ds.length=n) (h:VarB w0 σ0 w1 σ b n w) (k:VarT b ds w w'):VarB w0 σ0 w1 σ b n w':=by
 obtain ⟨cs,f,a⟩:=h.var
 refine ⟨⟨h.hst.stp.kp k.kp fun j d=>by subst d;exact ⟨g,a.1⟩⟩,h.kp.trans k.kp,?_⟩
 rcases k.var with e | e
 ·exact ⟨cs,f,a.1,by rw[e a.lt];exact a.2⟩
 ·exact ⟨ds,c,a.1,e⟩
theorem X29 {A:(World→World→Prop)→(World→Prop)→Prop} (ds:List Value) {cs:List Value} (a:Stp w0 σ0 w σ) (j:w0.heap.size≤b) (c:Z5 σ w b cs) (d:cs.length=n) (g:ds.length=n)
 (h:A (VarT b ds) (VarB w0 σ0 w σ b n)):dr w A:=
 Q0c _ _ ⟨⟨a.trans (Stp.of_below a.sat (Below.refl _ _).drew)⟩, .of_below (Below.refl _ _).drew,cs,d,c⟩ (fun _ _ i f=>i.step j g f) h
theorem Bg (h:V=v):dk (VarT b ds) (fun v _=>V=v) w v w:=⟨.of_below (Below.refl _ _),h⟩
theorem Q9k {t:TypeId} {by_:Nat} {z:Value} [tz:TZ P t n by_ z] {a:(List Value→Value→World→Prop)→Prop} {φ:Value→World→Prop} (f:ds.length=n) (j: ∀u∈ds,u.oneCell'=true) (m: ∀v w,φ v w→ .agg ds.toArray=v)
 (g:a (fun _ _ w=>Z5 σ w b ds)) (d:σ b=none):Q1a (VarT b ds) (fun F=> ∀x w,VarB w0 σ0 w1 σ b n w→φ x w→Z0 P t (.pointer (some ⟨b,0,none⟩)) x w (dk (VarT b ds) (F [x]) w)) a:=by
 refine Q6w _ (fun xs v w w' h k=>?_) (fun x w q o=>?_) g
 ·rcases k.var with e | e
  ·exact ⟨d,by rw[e h.lt];exact h.2⟩
  ·exact ⟨d,e⟩
 ·have:=m x w o
  subst this
  obtain ⟨cs,i,l⟩:=q.var
  exact sta l i f (by rw[List.all_toArray];exact List.all_eq_true.2 j) fun w' p c=>⟨.of_upd p c,c⟩
theorem VarB.hs (h:VarB w0 σ0 w1 σ b n w):Hst w0 σ0 w σ:=h.hst
end Go.Emb
