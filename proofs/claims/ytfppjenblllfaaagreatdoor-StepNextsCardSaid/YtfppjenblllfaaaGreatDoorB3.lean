/- Parts of a proof about the given program: its functions as texts of their own, what each computes, plain laws of that. The conditions of each stand in its statement. -/
import Derived.Test.YtfppjenblllfaaaGreatDoorB2
import Derived.ChangeArms
import Derived.DataReads
import Derived.SizedLaws
import Derived.Deep.AppendSrc
import Derived.Laws.StructEq
import Derived.Test.YtfppjenblllfaaaGreatDoorB1
import Derived.Laws.OwnMore
import Derived.Laws.CopyRow
set_option linter.unnecessarySimpa false
set_option linter.defProp false
set_option linter.unusedSectionVars false
set_option linter.unusedVariables false
set_option linter.unusedSimpArgs false
namespace Go.Proofs.YtfppjenblllfaaaGreatDoor
open Go.Emb Go.RowKit Go.Kd Go.Hm
variable {w : World} {K : Value → World → Prop} {σ : Q4}
def Uo (m:Hm.Met):Bool:=decide (32<m.params.length)||decide (32<m.catches.length)||decide (200<m.code.length)||decide (64<m.locals)
def Yd (c:Cla):Bool:=c.methods.any Uo||decide (32<c.like.length)||decide (32<c.fields.length)||decide (32<c.methods.length)
theorem X1w {c : Cla} {cs : List Value} (hs : X4 w σ) (hc : U8 σ c cs) (h : ∀ w', Below w.heap.size w w' → K (.bool (Yd c)) w') : Q1 P F.cv [.agg cs.toArray] w K := Q4c (by
  obtain ⟨lv, fv, mv, rfl, hl, hf, hm, hn, hsu⟩ := hc
  unfold Au
  refine M8 hs fun a w1 σ1 hk ha => ?_
  have hs := hk.sat
  replace hl := hl.up hk
  replace hf := hf.up hk
  replace hm := hm.up hk
  simp only [Value.cells] at ha
  ((try simp only [↓M1, M1, Mb, reduceIte]); repeat ((first | refine ld (by assumption) (by assumption) rfl ?_ | refine X7 (by assumption) (by assumption) rfl ?_ | refine Q8 (by assumption) ?_); (try simp only [↓M1, M1, Mb, reduceIte])))
  refine J4 c.methods.length (fun n w' => Below w1.heap.size w1 w' ∧ ((c.methods.take n).any Uo) = false) ⟨Below.refl _ _, by simp⟩ fun n w2 d hn hi => ?_
  obtain ⟨hb, hp⟩ := hi
  have hs2 := hs.below hb
  ((try simp only [↓M1, M1, Mb, reduceIte]); repeat ((first | refine ld (by assumption) (by assumption) rfl ?_ | refine X7 (by assumption) (by assumption) rfl ?_ | refine Q8 (by assumption) ?_); (try simp only [↓M1, M1, Mb, reduceIte])))
  refine Q5 (fun hc => ?_) (fun hc => ?_)
  · have hn' : n < c.methods.length := by simpa using hc
    refine W6 hm hn' fun p cs hl1 hlen hr => ?_
    refine Z1 hs2 hl1 hlen ?_
    refine Y4 hs2 (by rfl) hlen (Rep.one hr) fun q w3 σ3 hk3 hq => ?_
    obtain ⟨pv, cv, hv, rfl, g1, g2, g3, g4⟩ := hr
    have hs3 := hk3.sat
    replace g1 := g1.up hk3
    replace g2 := g2.up hk3
    replace g3 := g3.up hk3
    ((try simp only [↓M1, M1, Mb, reduceIte]); repeat ((first | refine ld (by assumption) (by assumption) rfl ?_ | refine X7 (by assumption) (by assumption) rfl ?_ | refine Q8 (by assumption) ?_); (try simp only [↓M1, M1, Mb, reduceIte])))
    (repeat' ((first | refine Z3 (fun hh => ?_) (fun hh => ?_) | refine Q5 (fun hh => ?_) (fun hh => ?_)) <;> (try simp only [hh, Bool.not_true, Bool.not_false, ↓M1, M1, Mb, reduceIte]) <;> ((try simp only [↓M1, M1, Mb, reduceIte]); repeat ((first | refine ld (by assumption) (by assumption) rfl ?_ | refine X7 (by assumption) (by assumption) rfl ?_ | refine Q8 (by assumption) ?_); (try simp only [↓M1, M1, Mb, reduceIte])))))
    all_goals first
      | refine Y3 hm.max hn' ⟨bt hb hk3.bel, ?_⟩
        rw [M0 hn', hp]; simp only [Uo]; (first | (simp only [decide_eq_true_eq, decide_eq_false_iff_not, Bool.not_true, Bool.not_false, Bool.not_eq_true', Bool.not_eq_false', Bool.or_eq_true, Bool.and_eq_true, Bool.or_eq_false_iff, Bool.and_eq_false_iff, Bool.false_or, Bool.true_and, Bool.or_false, Bool.and_true] at *; first | omega | (and_intros <;> omega)) | (rw [Bool.eq_iff_iff]; (simp only [decide_eq_true_eq, decide_eq_false_iff_not, Bool.not_true, Bool.not_false, Bool.not_eq_true', Bool.not_eq_false', Bool.or_eq_true, Bool.and_eq_true, Bool.or_eq_false_iff, Bool.and_eq_false_iff, Bool.false_or, Bool.true_and, Bool.or_false, Bool.and_true] at *; first | omega | (and_intros <;> omega))))
      | have e : Yd c = true := by
          have : Uo c.methods[n] = true := by simp only [Uo]; (first | (simp only [decide_eq_true_eq, decide_eq_false_iff_not, Bool.not_true, Bool.not_false, Bool.not_eq_true', Bool.not_eq_false', Bool.or_eq_true, Bool.and_eq_true, Bool.or_eq_false_iff, Bool.and_eq_false_iff, Bool.false_or, Bool.true_and, Bool.or_false, Bool.and_true] at *; first | omega | (and_intros <;> omega)) | (rw [Bool.eq_iff_iff]; (simp only [decide_eq_true_eq, decide_eq_false_iff_not, Bool.not_true, Bool.not_false, Bool.not_eq_true', Bool.not_eq_false', Bool.or_eq_true, Bool.and_eq_true, Bool.or_eq_false_iff, Bool.and_eq_false_iff, Bool.false_or, Bool.true_and, Bool.or_false, Bool.and_true] at *; first | omega | (and_intros <;> omega))))
          simp [Yd, C5 hn' this]
        rw [← e]; exact h _ (bt hk.bel (bt hb hk3.bel))
  · have hn' : ¬ n < c.methods.length := by simpa using hc
    rw [D3 hn'] at hp
    have h := h w2 (bt hk.bel hb)
    ((try simp only [↓M1, M1, Mb, reduceIte]); repeat ((first | refine ld (by assumption) (by assumption) rfl ?_ | refine X7 (by assumption) (by assumption) rfl ?_ | refine Q8 (by assumption) ?_); (try simp only [↓M1, M1, Mb, reduceIte])))
    (repeat' ((first | refine Z3 (fun hh => ?_) (fun hh => ?_) | refine Q5 (fun hh => ?_) (fun hh => ?_)) <;> (try simp only [hh, Bool.not_true, Bool.not_false, ↓M1, M1, Mb, reduceIte]) <;> ((try simp only [↓M1, M1, Mb, reduceIte]); repeat ((first | refine ld (by assumption) (by assumption) rfl ?_ | refine X7 (by assumption) (by assumption) rfl ?_ | refine Q8 (by assumption) ?_); (try simp only [↓M1, M1, Mb, reduceIte])))))
    all_goals
      refine Eq.subst (motive := fun b => K (.bool b) w2) ?_ h
      simp only [Yd, hp]
      (first | (simp only [decide_eq_true_eq, decide_eq_false_iff_not, Bool.not_true, Bool.not_false, Bool.not_eq_true', Bool.not_eq_false', Bool.or_eq_true, Bool.and_eq_true, Bool.or_eq_false_iff, Bool.and_eq_false_iff, Bool.false_or, Bool.true_and, Bool.or_false, Bool.and_true] at *; first | omega | (and_intros <;> omega)) | (rw [Bool.eq_iff_iff]; (simp only [decide_eq_true_eq, decide_eq_false_iff_not, Bool.not_true, Bool.not_false, Bool.not_eq_true', Bool.not_eq_false', Bool.or_eq_true, Bool.and_eq_true, Bool.or_eq_false_iff, Bool.and_eq_false_iff, Bool.false_or, Bool.true_and, Bool.or_false, Bool.and_true] at *; first | omega | (and_intros <;> omega)))))
end Go.Proofs.YtfppjenblllfaaaGreatDoor

namespace Go.Emb
open Go.RowKit Go.Hm
variable {H : Type} {enc : TypeId × Value → H} {P : Program} {W : World} {t : TypeId} {cs : List Value} {fuel : Nat} {x : DataW H × List MemPlace}
def Lj (W:World):Q4:=fun b=>W.heap[b]?
theorem Q8k:X4 W (Lj W):=fun b o h=>h
def Wt (P:Program) (t:TypeId) (d:DataW H):Prop:= ∀n∈d.weights P t,n≤reachBytes
theorem X0F {a:Addr} {n:Nat} (h:W.cells? 0 a n=some cs) (z:0<n):cs.length=n∧Z2 (Lj W) a cs:=by
 obtain ⟨_,p,w⟩:=World.cells?_some h
 refine ⟨p,?_⟩
 have key: ∀i v,cs[i]? =some v→ ∃D7 e f,W.heap[a.block]? =some (.cells D7 e f)∧(a.add i).spot=none∧D7[a.off+i]? =some v:=by
  intro i v g
  have C:i<cs.length:=(List.getElem?_eq_some_iff.1 g).1
  have b:=w i (by omega)
  rw[g] at b
  unfold World.cell? at b
  rw[C6,Ya] at b
  cases k:W.heap[a.block]? with
  | none=>rw[k] at b;cases b
  | some o=>
   rw[k] at b
   cases o with
   | cells D7 e f=>
    simp only at b
    split at b
    ·cases b
    ·rename_i u
     exact ⟨D7,e,f,rfl,by simpa using u,b⟩
   | _=>cases b
 cases j:cs with
 | nil=>subst j;simp at p;omega
 | cons c r=>
  obtain ⟨D7,e,f,l,q,B⟩:=key 0 c (by rw[j];rfl)
  refine ⟨by simpa [Addr.add] using q,D7,e,f,l,fun i v g=>?_⟩
  obtain ⟨m,D,y,d,A,s⟩:=key i v (by rw[j];exact g)
  rw[l] at d
  injection d with d
  injection d with d
  subst d
  exact s
theorem Q7C (b:P.underlying t=some .string) (h:DataW.trod enc P W 0 (fun _=>true) true fuel t cs=some x) (a:Wt P t x.1): ∃s:Kd.X0,cs=[S s]∧s.length≤J0:=by
 obtain ⟨⟨⟨s⟩⟩,rfl,rfl,_⟩:=DataW.trod_string b h
 refine ⟨s,rfl,?_⟩
 have:=a s.length (by simp[DataW.weights])
 exact this
theorem X1T (c:P.underlying t=some (.int .i64)) (h:DataW.trod enc P W 0 (fun _=>true) true fuel t cs=some x): ∃n,cs=[I n]∧Et n:=by
 obtain ⟨n,b,_,a⟩:=DataW.trod_int c h
 refine ⟨n,b,?_⟩
 simp only[Lit.wf,Bool.and_eq_true,decide_eq_true_eq] at a
 exact ⟨a.1,a.2⟩
theorem X0L {α:Type} {Q:Nat→α→Prop}: ∀(n:Nat),(∀i,i<n→ ∃y,Q i y)→ ∃xs:List α,xs.length=n∧ ∀i y,xs[i]? =some y→Q i y:=by
 intro n
 induction n with
 | zero=>intro _;exact ⟨[],rfl,by simp⟩
 | succ n c=>
  intro h
  obtain ⟨xs,d,e⟩:=c fun i b=>h i (by omega)
  obtain ⟨y,f⟩:=h n (by omega)
  refine ⟨xs++[y],by simp[d],fun i z a=>?_⟩
  by_cases b:i<xs.length
  ·rw[List.getElem?_append_left b] at a;exact e i z a
  ·rw[List.getElem?_append_right (by omega)] at a
   have:i-xs.length=0:=by
    have:=(List.getElem?_eq_some_iff.1 a).1
    simp at this;omega
   rw[this] at a
   simp at a
   subst a
   rw[show i=n by omega];exact f
theorem X1u {e:TypeId} {d:DataW H}: ∀{l:List (DataW H)},d∈l→ ∀n∈d.weights P e,n∈DataW.weightsAll P e l:=by
 intro l
 induction l with
 | nil=>intro h;simp at h
 | cons a r c=>
  intro h n b
  simp only[DataW.weightsAll,List.mem_append]
  rcases List.mem_cons.1 h with rfl | h
  ·exact .inl b
  ·exact .inr (c h n b)
theorem X2m {α:Type} {R:Q4→α→List Value→Prop} {e:TypeId} {sz:Nat} (w:P.underlying t=some (.slice e)) (L:P.cellsOf e=sz) (N:0<sz)
 (s: ∀fuel cs (x:DataW H×List MemPlace),DataW.trod enc P W 0 (fun _=>true) true fuel e cs=some x→Wt P e x.1→ ∃y,R (Lj W) y cs)
 (h:DataW.trod enc P W 0 (fun _=>true) true fuel t cs=some x) (D:Wt P t x.1): ∃v xs,cs=[v]∧Sl sz R (Lj W) v xs:=by
 rcases DataW.trod_slice w h with ⟨rfl,rfl⟩ | ⟨a,o,r,d,u,n,_,rfl,rfl,_,J,p,z,k,_⟩
 ·exact ⟨_,[],rfl,Sl.nil⟩
 subst L
 have step: ∀i,i<o→ ∃y,∃c,Z2 (Lj W) (a.add (i*P.cellsOf e)) c∧c.length=P.cellsOf e∧R (Lj W) y c:=by
  intro i Q
  have A:=k i Q
  have g:i<d.length:=by omega
  rw[List.getElem?_eq_getElem g] at A
  obtain ⟨c,O,M⟩:=Option.bind_eq_some_iff.1 A
  obtain ⟨B,q⟩:=X0F O N
  obtain ⟨y,j⟩:=s n c _ M (fun m p=>D m (by
   simp only[DataW.weights,w,List.mem_cons,List.mem_append]
   exact .inr (.inl (X1u (List.mem_map.2 ⟨_,List.getElem_mem g,rfl⟩) m p))))
  exact ⟨y,c,q,B,j⟩
 obtain ⟨xs,f,l⟩:=X0L o step
 refine ⟨_,xs,rfl,some a,r,by rw[f],by rw[f];exact J,p,by simp,fun b C=>?_⟩
 cases C
 refine ⟨fun E=>?_,fun i y j=>l i y j⟩
 obtain ⟨y,j⟩: ∃y,xs[0]? =some y:=⟨xs[0],List.getElem?_eq_getElem E⟩
 obtain ⟨c,q,_,_⟩:=l 0 y j
 have:=q.1
 simpa [Addr.add] using this
theorem X0U: ∀{a:List TypeId} {l:List (DataW H)} {i:Nat} {u:TypeId} {d:DataW H},a[i]? =some u→l[i]? =some d→ ∀n∈d.weights P u,n∈DataW.weightsEach P a l:=
 fun c e n b=>DataW.weights_mem_each c e n b
theorem Q2q {e:Array Field} (d:P.underlying t=some (.struct e)) (h:DataW.trod enc P W 0 (fun _=>true) true fuel t cs=some x) (k:Wt P t x.1) (i:Nat) {o:Nat} {b:TypeId}
 (j:(e[i]?).map (fun f=>(f.type,f.offset))=some (b,o)) (p:P.cellsOf b=1): ∃n y,DataW.trod enc P W 0 (fun _=>true) true n b ((cs.drop o).take 1)=some y∧Wt P b y.1:=by
 obtain ⟨xs,n,_,rfl,v,s,q⟩:=DataW.trod_struct d h
 obtain ⟨f,a,r⟩:=Option.map_eq_some_iff.1 j
 cases r
 have c:=q i f a
 have g:i<xs.length:=by rw[s];exact (Array.getElem?_eq_some_iff.1 a).1
 rw[List.getElem?_eq_getElem g,p] at c
 refine ⟨n,_,c,fun m l=>k m ?_⟩
 simp only[DataW.weights,d]
 exact X0U (i:=i) (u:=f.type) (by rw[List.getElem?_map,Array.getElem?_toList,a];rfl) (by rw[List.getElem?_map,List.getElem?_eq_getElem g];rfl) m l
theorem X1K {c:Array Field} {k:Nat} (b:P.underlying t=some (.struct c)) (d:P.cellsOf t=k) (h:DataW.trod enc P W 0 (fun _=>true) true fuel t cs=some x):cs.length=k:=by
 obtain ⟨_,_,_,_,a,_,_⟩:=DataW.trod_struct b h
 rw[a,d]
theorem Q6C {α:Type} {l:List α} (h:l.length=3): ∃a b c,l=[a,b,c]:=by
 match l,h with
 | [a,b,c],_=>exact ⟨a,b,c,rfl⟩
end Go.Emb
namespace Go.Proofs.YtfppjenblllfaaaGreatDoor
open Go.Emb Go.RowKit Go.Kd Go.Hm
variable {H : Type} {enc : TypeId × Value → H} {W : World} {cs : List Value} {fuel : Nat} {x : DataW H × List MemPlace}
theorem Fh:P.cellsOf T.b=1:=by kernel_rfl
theorem X1x:P.cellsOf T.n=1:=by kernel_rfl
def X2h:Array Field:= #[⟨"Op",T.b,0,false, "", "",0⟩,⟨"N",T.a6,1,false, "", "",16⟩,⟨"S",T.b,2,false, "", "",24⟩]
theorem Q3L:P.underlying T.l=some (.struct X2h):=by kernel_rfl
theorem X23 (h:DataW.trod enc P W 0 (fun _=>true) true fuel T.l cs=some x) (a:Wt P T.l x.1): ∃y,C9 (Lj W) y cs:=by
 obtain ⟨q,r,p,rfl⟩:=Q6C (X1K Q3L (by kernel_rfl) h)
 obtain ⟨_,_,m,w0⟩:=Q2q (o:=0) Q3L h a 0 rfl Fh
 obtain ⟨_,_,k,w1⟩:=Q2q (o:=1) Q3L h a 1 rfl (by kernel_rfl)
 obtain ⟨_,_,e,l⟩:=Q2q (o:=2) Q3L h a 2 rfl Fh
 obtain ⟨n,q0,g⟩:=Q7C X8 m w0
 obtain ⟨j,b,i⟩:=X1T (by kernel_rfl) k
 obtain ⟨d,c,f⟩:=Q7C X8 e l
 simp at q0 b c
 subst q0 b c
 exact ⟨⟨n,j,d⟩,rfl,g,i,f⟩
theorem Q8D:P.underlying T.k=some (.slice T.l):=by kernel_rfl
end Go.Proofs.YtfppjenblllfaaaGreatDoor

namespace Go.Emb
def Z8 {α β:Type} (a:β→α→Bool×β):β→List α→Nat→Option Nat×β
 | s,[],_=>(none,s)
 | s,x::xs,i=>if (a s x).1 then (some i,(a s x).2) else Z8 a (a s x).2 xs (i+1)
def W8 (o:Option Nat):Int:=match o with | some i=>i | none=> -1
theorem P9 {α:Type} (p:α→Bool): ∀(xs:List α) (i:Nat),(Z8 (fun (_:Unit) x=>(p x,())) () xs i).1=(xs.findIdx? p).map (· +i):=by
 intro xs
 induction xs with
 | nil=>intro i;rfl
 | cons x r ih=>
  intro i
  rw[List.findIdx?_cons]
  simp only[Z8]
  cases p x with
  | true=>simp
  | false=>
   simp only[Bool.false_eq_true,if_false]
   rw[ih (i+1),Option.map_map]
   congr 1;funext n;simp only[Function.comp];omega
theorem Fx {α β:Type} (a:β→α→Bool×β) (s:β) (xs:List α) (i:Nat):decide ((0:Int)≤W8 (Z8 a s xs i).1)=(Z8 a s xs i).1.isSome:=by
 cases (Z8 a s xs i).1<;>simp[W8]
end Go.Emb
namespace Go.Proofs.YtfppjenblllfaaaGreatDoor
open Go.Emb Go.RowKit Go.Kd Go.Hm
variable {w : World} {K : Value → World → Prop} {σ : Q4}
theorem Uf {β:Type} {xs:List Hm.Met} {v f:Value} (b:β→Hm.Met→Bool×β) (m:β) (a:β→World→Prop) (D:Nat→Prop) (i: ∀s w,a s w→X4 w σ) (A:a m w) (t:Sl 7 M6 σ v xs)
 (z: ∀s x cs (w1:World) (K:Value→World→Prop),x∈xs→Kpt D w w1→a s w1→M6 σ x cs→cs.length=7→(∀w',Kpt D w w'→a (b s x).2 w'→K (.bool (b s x).1) w')→Y9 P f [.agg cs.toArray] w1 K)
 (h: ∀w',Kpt D w w'→a (Z8 b m xs 0).2 w'→K (I (W8 (Z8 b m xs 0).1)) w'):Q1 P F.g [v,f] w K:=Qr (by
 unfold R0
 ((try simp only[↓M1,M1,Mb,reduceIte]);repeat ((first | refine ld (by assumption) (by assumption) rfl ?_ | refine X7 (by assumption) (by assumption) rfl ?_ | refine Q8 (by assumption) ?_);(try simp only[↓M1,M1,Mb,reduceIte])))
 refine J4 xs.length (fun n w'=>Kpt D w w'∧ ∃s,a s w'∧Z8 b m xs 0=Z8 b s (xs.drop n) n) ⟨Kpt.refl,m,A,rfl⟩ fun n w1 d E l=>?_
 obtain ⟨u,s,l,g⟩:=l
 have q:=i s w1 l
 ((try simp only[↓M1,M1,Mb,reduceIte]);repeat ((first | refine ld (by assumption) (by assumption) rfl ?_ | refine X7 (by assumption) (by assumption) rfl ?_ | refine Q8 (by assumption) ?_);(try simp only[↓M1,M1,Mb,reduceIte])))
 refine Q5 (fun r=>?_) (fun r=>?_)
 ·have c:n<xs.length:=by simpa using r
  refine W6 t c fun p cs B e y=>?_
  refine Z1 q B e ?_
  refine z s xs[n] cs w1 _ (List.getElem_mem c) u l y e fun C k j=>?_
  rw[List.drop_eq_getElem_cons c] at g
  simp only[Z8] at g
  refine Q5 (fun o=>?_) (fun o=>?_)
  ·rw[o] at g
   have:=h C k
   rw[g] at this
   exact this j
  ·rw[o] at g
   ((try simp only[↓M1,M1,Mb,reduceIte]);repeat ((first | refine ld (by assumption) (by assumption) rfl ?_ | refine X7 (by assumption) (by assumption) rfl ?_ | refine Q8 (by assumption) ?_);(try simp only[↓M1,M1,Mb,reduceIte])))
   exact Y3 t.max c ⟨k,_,j,by simpa using g⟩
 ·have c: ¬n<xs.length:=by simpa using r
  rw[List.drop_eq_nil_of_le (by omega)] at g
  have:=h w1 u
  rw[g] at this
  exact this l)
theorem Yg {β:Type} {xs:List Hm.Met} {v f:Value} (b:β→Hm.Met→Bool×β) (d:β) (a:β→World→Prop) (D:Nat→Prop) (c: ∀s w,a s w→X4 w σ) (g:a d w) (j:Sl 7 M6 σ v xs)
 (e: ∀s x cs (w1:World) (K:Value→World→Prop),x∈xs→Kpt D w w1→a s w1→M6 σ x cs→cs.length=7→(∀w',Kpt D w w'→a (b s x).2 w'→K (.bool (b s x).1) w')→Y9 P f [.agg cs.toArray] w1 K)
 (h: ∀w',Kpt D w w'→a (Z8 b d xs 0).2 w'→K (.bool (Z8 b d xs 0).1.isSome) w'):Q1 P F.a [v,f] w K:=K4 (by
 unfold E4
 refine Uf b d a D c g j e fun w1 k i=>?_
 (try simp only[↓M1,M1,Mb,reduceIte])
 rw[Fx]
 exact h w1 k i)
theorem Sr {xs:List Hm.Met} {v f:Value} (p:Hm.Met→Bool) (hs:X4 w σ) (hv:Sl 7 M6 σ v xs)
 (hf: ∀x cs (w1:World) (K:Value→World→Prop),x∈xs→X4 w1 σ→M6 σ x cs→cs.length=7→(∀w',Below w1.heap.size w1 w'→K (.bool (p x)) w')→Y9 P f [.agg cs.toArray] w1 K)
 (h: ∀w',Below w.heap.size w w'→K (I (W8 (xs.findIdx? p))) w'):Q1 P F.g [v,f] w K:=by
 refine Uf (fun (_:Unit) x=>(p x,())) () (fun _ w'=>Below w.heap.size w w') (fun _=>False) (fun _ w' hb=>hs.below hb) (Below.refl _ _) hv (fun s x cs w1 K hx hk hi hr hl hK=>hf x cs w1 K hx (hs.below hi) hr hl fun w' hb=>hK w' (.of_below (bt hi hb)) (bt hi hb)) fun w' hk hi=>?_
 rw[P9]
 simpa using h w' hi
theorem R2 {xs:List Hm.Met} {v f:Value} (p:Hm.Met→Bool) (hs:X4 w σ) (hv:Sl 7 M6 σ v xs)
 (hf: ∀x cs (w1:World) (K:Value→World→Prop),x∈xs→X4 w1 σ→M6 σ x cs→cs.length=7→(∀w',Below w1.heap.size w1 w'→K (.bool (p x)) w')→Y9 P f [.agg cs.toArray] w1 K)
 (h: ∀w',Below w.heap.size w w'→K (.bool (xs.any p)) w'):Q1 P F.a [v,f] w K:=by
 refine Yg (fun (_:Unit) x=>(p x,())) () (fun _ w'=>Below w.heap.size w w') (fun _=>False) (fun _ w' hb=>hs.below hb) (Below.refl _ _) hv (fun s x cs w1 K hx hk hi hr hl hK=>hf x cs w1 K hx (hs.below hi) hr hl fun w' hb=>hK w' (.of_below (bt hi hb)) (bt hi hb)) fun w' hk hi=>?_
 rw[P9]
 simpa using h w' hi
theorem Vj {β:Type} {xs:List Fld} {v f:Value} (b:β→Fld→Bool×β) (m:β) (a:β→World→Prop) (D:Nat→Prop) (i: ∀s w,a s w→X4 w σ) (A:a m w) (t:Sl 3 E5 σ v xs)
 (z: ∀s x cs (w1:World) (K:Value→World→Prop),x∈xs→Kpt D w w1→a s w1→E5 σ x cs→cs.length=3→(∀w',Kpt D w w'→a (b s x).2 w'→K (.bool (b s x).1) w')→Y9 P f [.agg cs.toArray] w1 K)
 (h: ∀w',Kpt D w w'→a (Z8 b m xs 0).2 w'→K (I (W8 (Z8 b m xs 0).1)) w'):Q1 P F.j [v,f] w K:=Xd (by
 unfold C0
 ((try simp only[↓M1,M1,Mb,reduceIte]);repeat ((first | refine ld (by assumption) (by assumption) rfl ?_ | refine X7 (by assumption) (by assumption) rfl ?_ | refine Q8 (by assumption) ?_);(try simp only[↓M1,M1,Mb,reduceIte])))
 refine J4 xs.length (fun n w'=>Kpt D w w'∧ ∃s,a s w'∧Z8 b m xs 0=Z8 b s (xs.drop n) n) ⟨Kpt.refl,m,A,rfl⟩ fun n w1 d E l=>?_
 obtain ⟨u,s,l,g⟩:=l
 have q:=i s w1 l
 ((try simp only[↓M1,M1,Mb,reduceIte]);repeat ((first | refine ld (by assumption) (by assumption) rfl ?_ | refine X7 (by assumption) (by assumption) rfl ?_ | refine Q8 (by assumption) ?_);(try simp only[↓M1,M1,Mb,reduceIte])))
 refine Q5 (fun r=>?_) (fun r=>?_)
 ·have c:n<xs.length:=by simpa using r
  refine W6 t c fun p cs B e y=>?_
  refine Z1 q B e ?_
  refine z s xs[n] cs w1 _ (List.getElem_mem c) u l y e fun C k j=>?_
  rw[List.drop_eq_getElem_cons c] at g
  simp only[Z8] at g
  refine Q5 (fun o=>?_) (fun o=>?_)
  ·rw[o] at g
   have:=h C k
   rw[g] at this
   exact this j
  ·rw[o] at g
   ((try simp only[↓M1,M1,Mb,reduceIte]);repeat ((first | refine ld (by assumption) (by assumption) rfl ?_ | refine X7 (by assumption) (by assumption) rfl ?_ | refine Q8 (by assumption) ?_);(try simp only[↓M1,M1,Mb,reduceIte])))
   exact Y3 t.max c ⟨k,_,j,by simpa using g⟩
 ·have c: ¬n<xs.length:=by simpa using r
  rw[List.drop_eq_nil_of_le (by omega)] at g
  have:=h w1 u
  rw[g] at this
  exact this l)
theorem Hb {β:Type} {xs:List Fld} {v f:Value} (b:β→Fld→Bool×β) (d:β) (a:β→World→Prop) (D:Nat→Prop) (c: ∀s w,a s w→X4 w σ) (g:a d w) (j:Sl 3 E5 σ v xs)
 (e: ∀s x cs (w1:World) (K:Value→World→Prop),x∈xs→Kpt D w w1→a s w1→E5 σ x cs→cs.length=3→(∀w',Kpt D w w'→a (b s x).2 w'→K (.bool (b s x).1) w')→Y9 P f [.agg cs.toArray] w1 K)
 (h: ∀w',Kpt D w w'→a (Z8 b d xs 0).2 w'→K (.bool (Z8 b d xs 0).1.isSome) w'):Q1 P F.f [v,f] w K:=Qc (by
 unfold H6
 refine Vj b d a D c g j e fun w1 k i=>?_
 (try simp only[↓M1,M1,Mb,reduceIte])
 rw[Fx]
 exact h w1 k i)
theorem Cb {xs:List Fld} {v f:Value} (p:Fld→Bool) (hs:X4 w σ) (hv:Sl 3 E5 σ v xs)
 (hf: ∀x cs (w1:World) (K:Value→World→Prop),x∈xs→X4 w1 σ→E5 σ x cs→cs.length=3→(∀w',Below w1.heap.size w1 w'→K (.bool (p x)) w')→Y9 P f [.agg cs.toArray] w1 K)
 (h: ∀w',Below w.heap.size w w'→K (I (W8 (xs.findIdx? p))) w'):Q1 P F.j [v,f] w K:=by
 refine Vj (fun (_:Unit) x=>(p x,())) () (fun _ w'=>Below w.heap.size w w') (fun _=>False) (fun _ w' hb=>hs.below hb) (Below.refl _ _) hv (fun s x cs w1 K hx hk hi hr hl hK=>hf x cs w1 K hx (hs.below hi) hr hl fun w' hb=>hK w' (.of_below (bt hi hb)) (bt hi hb)) fun w' hk hi=>?_
 rw[P9]
 simpa using h w' hi
theorem Za {xs:List Fld} {v f:Value} (p:Fld→Bool) (hs:X4 w σ) (hv:Sl 3 E5 σ v xs)
 (hf: ∀x cs (w1:World) (K:Value→World→Prop),x∈xs→X4 w1 σ→E5 σ x cs→cs.length=3→(∀w',Below w1.heap.size w1 w'→K (.bool (p x)) w')→Y9 P f [.agg cs.toArray] w1 K)
 (h: ∀w',Below w.heap.size w w'→K (.bool (xs.any p)) w'):Q1 P F.f [v,f] w K:=by
 refine Hb (fun (_:Unit) x=>(p x,())) () (fun _ w'=>Below w.heap.size w w') (fun _=>False) (fun _ w' hb=>hs.below hb) (Below.refl _ _) hv (fun s x cs w1 K hx hk hi hr hl hK=>hf x cs w1 K hx (hs.below hi) hr hl fun w' hb=>hK w' (.of_below (bt hi hb)) (bt hi hb)) fun w' hk hi=>?_
 rw[P9]
 simpa using h w' hi
theorem Co {β:Type} {xs:List Ins} {v f:Value} (b:β→Ins→Bool×β) (m:β) (a:β→World→Prop) (D:Nat→Prop) (i: ∀s w,a s w→X4 w σ) (A:a m w) (t:Sl 3 C9 σ v xs)
 (z: ∀s x cs (w1:World) (K:Value→World→Prop),x∈xs→Kpt D w w1→a s w1→C9 σ x cs→cs.length=3→(∀w',Kpt D w w'→a (b s x).2 w'→K (.bool (b s x).1) w')→Y9 P f [.agg cs.toArray] w1 K)
 (h: ∀w',Kpt D w w'→a (Z8 b m xs 0).2 w'→K (I (W8 (Z8 b m xs 0).1)) w'):Q1 P F.y [v,f] w K:=Xl (by
 unfold C1
 ((try simp only[↓M1,M1,Mb,reduceIte]);repeat ((first | refine ld (by assumption) (by assumption) rfl ?_ | refine X7 (by assumption) (by assumption) rfl ?_ | refine Q8 (by assumption) ?_);(try simp only[↓M1,M1,Mb,reduceIte])))
 refine J4 xs.length (fun n w'=>Kpt D w w'∧ ∃s,a s w'∧Z8 b m xs 0=Z8 b s (xs.drop n) n) ⟨Kpt.refl,m,A,rfl⟩ fun n w1 d E l=>?_
 obtain ⟨u,s,l,g⟩:=l
 have q:=i s w1 l
 ((try simp only[↓M1,M1,Mb,reduceIte]);repeat ((first | refine ld (by assumption) (by assumption) rfl ?_ | refine X7 (by assumption) (by assumption) rfl ?_ | refine Q8 (by assumption) ?_);(try simp only[↓M1,M1,Mb,reduceIte])))
 refine Q5 (fun r=>?_) (fun r=>?_)
 ·have c:n<xs.length:=by simpa using r
  refine W6 t c fun p cs B e y=>?_
  refine Z1 q B e ?_
  refine z s xs[n] cs w1 _ (List.getElem_mem c) u l y e fun C k j=>?_
  rw[List.drop_eq_getElem_cons c] at g
  simp only[Z8] at g
  refine Q5 (fun o=>?_) (fun o=>?_)
  ·rw[o] at g
   have:=h C k
   rw[g] at this
   exact this j
  ·rw[o] at g
   ((try simp only[↓M1,M1,Mb,reduceIte]);repeat ((first | refine ld (by assumption) (by assumption) rfl ?_ | refine X7 (by assumption) (by assumption) rfl ?_ | refine Q8 (by assumption) ?_);(try simp only[↓M1,M1,Mb,reduceIte])))
   exact Y3 t.max c ⟨k,_,j,by simpa using g⟩
 ·have c: ¬n<xs.length:=by simpa using r
  rw[List.drop_eq_nil_of_le (by omega)] at g
  have:=h w1 u
  rw[g] at this
  exact this l)
theorem Er {β:Type} {xs:List Ins} {v f:Value} (b:β→Ins→Bool×β) (d:β) (a:β→World→Prop) (D:Nat→Prop) (c: ∀s w,a s w→X4 w σ) (g:a d w) (j:Sl 3 C9 σ v xs)
 (e: ∀s x cs (w1:World) (K:Value→World→Prop),x∈xs→Kpt D w w1→a s w1→C9 σ x cs→cs.length=3→(∀w',Kpt D w w'→a (b s x).2 w'→K (.bool (b s x).1) w')→Y9 P f [.agg cs.toArray] w1 K)
 (h: ∀w',Kpt D w w'→a (Z8 b d xs 0).2 w'→K (.bool (Z8 b d xs 0).1.isSome) w'):Q1 P F.l [v,f] w K:=Qa (by
 unfold H4
 refine Co b d a D c g j e fun w1 k i=>?_
 (try simp only[↓M1,M1,Mb,reduceIte])
 rw[Fx]
 exact h w1 k i)
theorem Hg {xs:List Ins} {v f:Value} (p:Ins→Bool) (hs:X4 w σ) (hv:Sl 3 C9 σ v xs)
 (hf: ∀x cs (w1:World) (K:Value→World→Prop),x∈xs→X4 w1 σ→C9 σ x cs→cs.length=3→(∀w',Below w1.heap.size w1 w'→K (.bool (p x)) w')→Y9 P f [.agg cs.toArray] w1 K)
 (h: ∀w',Below w.heap.size w w'→K (.bool (xs.any p)) w'):Q1 P F.l [v,f] w K:=by
 refine Er (fun (_:Unit) x=>(p x,())) () (fun _ w'=>Below w.heap.size w w') (fun _=>False) (fun _ w' hb=>hs.below hb) (Below.refl _ _) hv (fun s x cs w1 K hx hk hi hr hl hK=>hf x cs w1 K hx (hs.below hi) hr hl fun w' hb=>hK w' (.of_below (bt hi hb)) (bt hi hb)) fun w' hk hi=>?_
 rw[P9]
 simpa using h w' hi
theorem Cf {β:Type} {xs:List Cat} {v f:Value} (b:β→Cat→Bool×β) (m:β) (a:β→World→Prop) (D:Nat→Prop) (i: ∀s w,a s w→X4 w σ) (A:a m w) (t:Sl 4 Zt σ v xs)
 (z: ∀s x cs (w1:World) (K:Value→World→Prop),x∈xs→Kpt D w w1→a s w1→Zt σ x cs→cs.length=4→(∀w',Kpt D w w'→a (b s x).2 w'→K (.bool (b s x).1) w')→Y9 P f [.agg cs.toArray] w1 K)
 (h: ∀w',Kpt D w w'→a (Z8 b m xs 0).2 w'→K (I (W8 (Z8 b m xs 0).1)) w'):Q1 P F.z [v,f] w K:=Xn (by
 unfold R6
 ((try simp only[↓M1,M1,Mb,reduceIte]);repeat ((first | refine ld (by assumption) (by assumption) rfl ?_ | refine X7 (by assumption) (by assumption) rfl ?_ | refine Q8 (by assumption) ?_);(try simp only[↓M1,M1,Mb,reduceIte])))
 refine J4 xs.length (fun n w'=>Kpt D w w'∧ ∃s,a s w'∧Z8 b m xs 0=Z8 b s (xs.drop n) n) ⟨Kpt.refl,m,A,rfl⟩ fun n w1 d E l=>?_
 obtain ⟨u,s,l,g⟩:=l
 have q:=i s w1 l
 ((try simp only[↓M1,M1,Mb,reduceIte]);repeat ((first | refine ld (by assumption) (by assumption) rfl ?_ | refine X7 (by assumption) (by assumption) rfl ?_ | refine Q8 (by assumption) ?_);(try simp only[↓M1,M1,Mb,reduceIte])))
 refine Q5 (fun r=>?_) (fun r=>?_)
 ·have c:n<xs.length:=by simpa using r
  refine W6 t c fun p cs B e y=>?_
  refine Z1 q B e ?_
  refine z s xs[n] cs w1 _ (List.getElem_mem c) u l y e fun C k j=>?_
  rw[List.drop_eq_getElem_cons c] at g
  simp only[Z8] at g
  refine Q5 (fun o=>?_) (fun o=>?_)
  ·rw[o] at g
   have:=h C k
   rw[g] at this
   exact this j
  ·rw[o] at g
   ((try simp only[↓M1,M1,Mb,reduceIte]);repeat ((first | refine ld (by assumption) (by assumption) rfl ?_ | refine X7 (by assumption) (by assumption) rfl ?_ | refine Q8 (by assumption) ?_);(try simp only[↓M1,M1,Mb,reduceIte])))
   exact Y3 t.max c ⟨k,_,j,by simpa using g⟩
 ·have c: ¬n<xs.length:=by simpa using r
  rw[List.drop_eq_nil_of_le (by omega)] at g
  have:=h w1 u
  rw[g] at this
  exact this l)
theorem En {β:Type} {xs:List Cat} {v f:Value} (b:β→Cat→Bool×β) (d:β) (a:β→World→Prop) (D:Nat→Prop) (c: ∀s w,a s w→X4 w σ) (g:a d w) (j:Sl 4 Zt σ v xs)
 (e: ∀s x cs (w1:World) (K:Value→World→Prop),x∈xs→Kpt D w w1→a s w1→Zt σ x cs→cs.length=4→(∀w',Kpt D w w'→a (b s x).2 w'→K (.bool (b s x).1) w')→Y9 P f [.agg cs.toArray] w1 K)
 (h: ∀w',Kpt D w w'→a (Z8 b d xs 0).2 w'→K (.bool (Z8 b d xs 0).1.isSome) w'):Q1 P F.m [v,f] w K:=Qb (by
 unfold H5
 refine Cf b d a D c g j e fun w1 k i=>?_
 (try simp only[↓M1,M1,Mb,reduceIte])
 rw[Fx]
 exact h w1 k i)
theorem Hi {xs:List Cat} {v f:Value} (p:Cat→Bool) (hs:X4 w σ) (hv:Sl 4 Zt σ v xs)
 (hf: ∀x cs (w1:World) (K:Value→World→Prop),x∈xs→X4 w1 σ→Zt σ x cs→cs.length=4→(∀w',Below w1.heap.size w1 w'→K (.bool (p x)) w')→Y9 P f [.agg cs.toArray] w1 K)
 (h: ∀w',Below w.heap.size w w'→K (.bool (xs.any p)) w'):Q1 P F.m [v,f] w K:=by
 refine En (fun (_:Unit) x=>(p x,())) () (fun _ w'=>Below w.heap.size w w') (fun _=>False) (fun _ w' hb=>hs.below hb) (Below.refl _ _) hv (fun s x cs w1 K hx hk hi hr hl hK=>hf x cs w1 K hx (hs.below hi) hr hl fun w' hb=>hK w' (.of_below (bt hi hb)) (bt hi hb)) fun w' hk hi=>?_
 rw[P9]
 simpa using h w' hi
theorem Bc {β:Type} {xs:List Cla} {v f:Value} (b:β→Cla→Bool×β) (m:β) (a:β→World→Prop) (D:Nat→Prop) (i: ∀s w,a s w→X4 w σ) (A:a m w) (t:Sl 8 U8 σ v xs)
 (z: ∀s x cs (w1:World) (K:Value→World→Prop),x∈xs→Kpt D w w1→a s w1→U8 σ x cs→cs.length=8→(∀w',Kpt D w w'→a (b s x).2 w'→K (.bool (b s x).1) w')→Y9 P f [.agg cs.toArray] w1 K)
 (h: ∀w',Kpt D w w'→a (Z8 b m xs 0).2 w'→K (I (W8 (Z8 b m xs 0).1)) w'):Q1 P F.n [v,f] w K:=Xf (by
 unfold R4
 ((try simp only[↓M1,M1,Mb,reduceIte]);repeat ((first | refine ld (by assumption) (by assumption) rfl ?_ | refine X7 (by assumption) (by assumption) rfl ?_ | refine Q8 (by assumption) ?_);(try simp only[↓M1,M1,Mb,reduceIte])))
 refine J4 xs.length (fun n w'=>Kpt D w w'∧ ∃s,a s w'∧Z8 b m xs 0=Z8 b s (xs.drop n) n) ⟨Kpt.refl,m,A,rfl⟩ fun n w1 d E l=>?_
 obtain ⟨u,s,l,g⟩:=l
 have q:=i s w1 l
 ((try simp only[↓M1,M1,Mb,reduceIte]);repeat ((first | refine ld (by assumption) (by assumption) rfl ?_ | refine X7 (by assumption) (by assumption) rfl ?_ | refine Q8 (by assumption) ?_);(try simp only[↓M1,M1,Mb,reduceIte])))
 refine Q5 (fun r=>?_) (fun r=>?_)
 ·have c:n<xs.length:=by simpa using r
  refine W6 t c fun p cs B e y=>?_
  refine Z1 q B e ?_
  refine z s xs[n] cs w1 _ (List.getElem_mem c) u l y e fun C k j=>?_
  rw[List.drop_eq_getElem_cons c] at g
  simp only[Z8] at g
  refine Q5 (fun o=>?_) (fun o=>?_)
  ·rw[o] at g
   have:=h C k
   rw[g] at this
   exact this j
  ·rw[o] at g
   ((try simp only[↓M1,M1,Mb,reduceIte]);repeat ((first | refine ld (by assumption) (by assumption) rfl ?_ | refine X7 (by assumption) (by assumption) rfl ?_ | refine Q8 (by assumption) ?_);(try simp only[↓M1,M1,Mb,reduceIte])))
   exact Y3 t.max c ⟨k,_,j,by simpa using g⟩
 ·have c: ¬n<xs.length:=by simpa using r
  rw[List.drop_eq_nil_of_le (by omega)] at g
  have:=h w1 u
  rw[g] at this
  exact this l)
theorem Ce {xs:List Cla} {v f:Value} (p:Cla→Bool) (hs:X4 w σ) (hv:Sl 8 U8 σ v xs)
 (hf: ∀x cs (w1:World) (K:Value→World→Prop),x∈xs→X4 w1 σ→U8 σ x cs→cs.length=8→(∀w',Below w1.heap.size w1 w'→K (.bool (p x)) w')→Y9 P f [.agg cs.toArray] w1 K)
 (h: ∀w',Below w.heap.size w w'→K (I (W8 (xs.findIdx? p))) w'):Q1 P F.n [v,f] w K:=by
 refine Bc (fun (_:Unit) x=>(p x,())) () (fun _ w'=>Below w.heap.size w w') (fun _=>False) (fun _ w' hb=>hs.below hb) (Below.refl _ _) hv (fun s x cs w1 K hx hk hi hr hl hK=>hf x cs w1 K hx (hs.below hi) hr hl fun w' hb=>hK w' (.of_below (bt hi hb)) (bt hi hb)) fun w' hk hi=>?_
 rw[P9]
 simpa using h w' hi
theorem Px {β:Type} {xs:List X0} {v f:Value} (b:β→X0→Bool×β) (m:β) (a:β→World→Prop) (D:Nat→Prop) (i: ∀s w,a s w→X4 w σ) (B:a m w) (u:Sl 1 Y1 σ v xs)
 (A: ∀s x (w1:World) (K:Value→World→Prop),x∈xs→Kpt D w w1→a s w1→x.length≤J0→(∀w',Kpt D w w'→a (b s x).2 w'→K (.bool (b s x).1) w')→Y9 P f [S x] w1 K)
 (h: ∀w',Kpt D w w'→a (Z8 b m xs 0).2 w'→K (I (W8 (Z8 b m xs 0).1)) w'):Q1 P F.s [v,f] w K:=Jv (by
 unfold G4
 ((try simp only[↓M1,M1,Mb,reduceIte]);repeat ((first | refine ld (by assumption) (by assumption) rfl ?_ | refine X7 (by assumption) (by assumption) rfl ?_ | refine Q8 (by assumption) ?_);(try simp only[↓M1,M1,Mb,reduceIte])))
 refine J4 xs.length (fun n w'=>Kpt D w w'∧ ∃s,a s w'∧Z8 b m xs 0=Z8 b s (xs.drop n) n) ⟨Kpt.refl,m,B,rfl⟩ fun n w1 d H l=>?_
 obtain ⟨y,s,l,e⟩:=l
 have q:=i s w1 l
 ((try simp only[↓M1,M1,Mb,reduceIte]);repeat ((first | refine ld (by assumption) (by assumption) rfl ?_ | refine X7 (by assumption) (by assumption) rfl ?_ | refine Q8 (by assumption) ?_);(try simp only[↓M1,M1,Mb,reduceIte])))
 refine Q5 (fun r=>?_) (fun r=>?_)
 ·have c:n<xs.length:=by simpa using r
  refine W6 u c fun p cs C t z=>?_
  obtain ⟨rfl,g⟩:=z
  refine X7 q C rfl ?_
  refine A s xs[n] w1 _ (List.getElem_mem c) y l g fun E k j=>?_
  rw[List.drop_eq_getElem_cons c] at e
  simp only[Z8] at e
  refine Q5 (fun o=>?_) (fun o=>?_)
  ·rw[o] at e
   have:=h E k
   rw[e] at this
   exact this j
  ·rw[o] at e
   ((try simp only[↓M1,M1,Mb,reduceIte]);repeat ((first | refine ld (by assumption) (by assumption) rfl ?_ | refine X7 (by assumption) (by assumption) rfl ?_ | refine Q8 (by assumption) ?_);(try simp only[↓M1,M1,Mb,reduceIte])))
   exact Y3 u.max c ⟨k,_,j,by simpa using e⟩
 ·have c: ¬n<xs.length:=by simpa using r
  rw[List.drop_eq_nil_of_le (by omega)] at e
  have:=h w1 y
  rw[e] at this
  exact this l)
theorem Ty {xs:List X0} {v f:Value} (p:X0→Bool) (hs:X4 w σ) (hv:Sl 1 Y1 σ v xs)
 (hf: ∀x (w1:World) (K:Value→World→Prop),x∈xs→X4 w1 σ→x.length≤J0→(∀w',Below w1.heap.size w1 w'→K (.bool (p x)) w')→Y9 P f [S x] w1 K)
 (h: ∀w',Below w.heap.size w w'→K (I (W8 (xs.findIdx? p))) w'):Q1 P F.s [v,f] w K:=by
 refine Px (fun (_:Unit) x=>(p x,())) () (fun _ w'=>Below w.heap.size w w') (fun _=>False) (fun _ w' hb=>hs.below hb) (Below.refl _ _) hv (fun s x w1 K hx hk hi hr hK=>hf x w1 K hx (hs.below hi) hr fun w' hb=>hK w' (.of_below (bt hi hb)) (bt hi hb)) fun w' hk hi=>?_
 rw[P9]
 simpa using h w' hi
theorem Q4e {α:Type} (p:α→Bool) (xs:List α):decide ((0:Int)≤W8 (xs.findIdx? p))=xs.any p:=by
 rw[Bool.eq_iff_iff,List.any_eq_true]
 simp only[decide_eq_true_eq]
 cases h:xs.findIdx? p with
 | none=>
  simp only[W8]
  constructor
  ·intro h;omega
  ·rintro ⟨x,b,a⟩;have:=List.findIdx?_eq_none_iff.1 h x b;rw[a] at this;cases this
 | some i=>
  simp only[W8]
  obtain ⟨c,a,_⟩:=List.findIdx?_eq_some_iff_getElem.1 h
  exact ⟨fun _=>⟨xs[i],List.getElem_mem c,a⟩,fun _=>by omega⟩
theorem G0 {xs:List X0} {v f:Value} (p:X0→Bool) (b:X4 w σ) (c:Sl 1 Y1 σ v xs)
 (a: ∀x (w1:World) (K:Value→World→Prop),x∈xs→X4 w1 σ→x.length≤J0→(∀w',Below w1.heap.size w1 w'→K (.bool (p x)) w')→Y9 P f [S x] w1 K)
 (h: ∀w',Below w.heap.size w w'→K (.bool (xs.any p)) w'):Q1 P F.d [v,f] w K:=Yr (by
 unfold B8
 refine Ty p b c a fun w1 d=>?_
 (try simp only[↓M1,M1,Mb,reduceIte])
 rw[Q4e]
 exact h w1 d)
theorem Q2e {xs:List X0} {v:Value} {x:X0} (r:X4 w σ) (i:Sl 1 Y1 σ v xs)
 (h:K (I (W8 (xs.findIdx? fun y=>decide (x=y)))) w):Q1 P F.an [v,S x] w K:=Wx (by
 unfold T0
 ((try simp only[↓M1,M1,Mb,reduceIte]);repeat ((first | refine ld (by assumption) (by assumption) rfl ?_ | refine X7 (by assumption) (by assumption) rfl ?_ | refine Q8 (by assumption) ?_);(try simp only[↓M1,M1,Mb,reduceIte])))
 refine J4 xs.length (fun n w'=>w=w'∧(xs.take n).any (fun y=>decide (x=y))=false) ⟨rfl,rfl⟩ fun n w1 d m b=>?_
 obtain ⟨rfl,b⟩:=b
 ((try simp only[↓M1,M1,Mb,reduceIte]);repeat ((first | refine ld (by assumption) (by assumption) rfl ?_ | refine X7 (by assumption) (by assumption) rfl ?_ | refine Q8 (by assumption) ?_);(try simp only[↓M1,M1,Mb,reduceIte])))
 refine Q5 (fun e=>?_) (fun e=>?_)
 ·have a:n<xs.length:=by simpa using e
  refine W6 i a fun p cs o g k=>?_
  obtain ⟨rfl,f⟩:=k
  ((try simp only[↓M1,M1,Mb,reduceIte]);repeat ((first | refine ld (by assumption) (by assumption) rfl ?_ | refine X7 (by assumption) (by assumption) rfl ?_ | refine Q8 (by assumption) ?_);(try simp only[↓M1,M1,Mb,reduceIte])))
  refine Q5 (fun c=>?_) (fun c=>?_)
  ·have:xs.findIdx? (fun y=>decide (x=y))=some n:=by
    rw[List.findIdx?_eq_some_iff_getElem]
    refine ⟨a,c,fun j q=>?_⟩
    have:=List.any_eq_false.1 b (xs[j]) (List.mem_take_iff_getElem.2 ⟨j,by omega,rfl⟩)
    exact this
   rw[this] at h;exact h
  ·((try simp only[↓M1,M1,Mb,reduceIte]);repeat ((first | refine ld (by assumption) (by assumption) rfl ?_ | refine X7 (by assumption) (by assumption) rfl ?_ | refine Q8 (by assumption) ?_);(try simp only[↓M1,M1,Mb,reduceIte])))
   exact Y3 i.max a ⟨rfl,by rw[M0 a,b,c];rfl⟩
 ·have a: ¬n<xs.length:=by simpa using e
  rw[D3 a] at b
  have:xs.findIdx? (fun y=>decide (x=y))=none:=by
   rw[List.findIdx?_eq_none_iff];intro y l;simpa using List.any_eq_false.1 b y l
  rw[this] at h;exact h)
theorem Q0p {xs:List X0} {v:Value} {x:X0} (a:X4 w σ) (b:Sl 1 Y1 σ v xs)
 (h:K (.bool (xs.any fun y=>decide (x=y))) w):Q1 P F.aa [v,S x] w K:=Uc (by
 unfold G9
 refine Q2e a b ?_
 (try simp only[↓M1,M1,Mb,reduceIte])
 rw[Q4e]
 exact h)
end Go.Proofs.YtfppjenblllfaaaGreatDoor

namespace Go.Emb
abbrev Q4.Le (σ σ':Q4):Prop:= ∀b o,σ b=some o→σ' b=some o
def H2 {α:Type} (f:α→List UInt8):List α→List α→Bool
 | _,[]=>true
 | seen,x::r=> !(seen.any fun y=>decide (f y=f x))&&H2 f (seen++[x]) r
theorem Ul {α:Type} (p:α→Bool) (xs:List α):(!xs.any fun x=> !p x)=xs.all p:=by
 rw[List.all_eq_not_any_not]
end Go.Emb
namespace Go.Proofs.YtfppjenblllfaaaGreatDoor
open Go.Emb Go.RowKit Go.Kd Go.Hm
variable {w : World} {K : Value → World → Prop} {σ : Q4}
theorem Tv {xs:List Hm.Met} {v:Value} {fn:Fn} {m d:Array Value} (p:Hm.Met→Bool) (y:X4 w σ) (B:Sl 7 M6 σ v xs)
 (s: ∀(σ1:Q4) x cs (w1:World) (K:Value→World→Prop),σ.Le σ1→x∈xs→X4 w1 σ1→M6 σ1 x cs→cs.length=7→(∀w',Below w1.heap.size w1 w'→K (.bool (p x)) w')→Y9 P (.func fn m d) [.agg cs.toArray] w1 K)
 (h: ∀w',Below w.heap.size w w'→K (.bool (xs.all p)) w'):Q1 P F.ah [v, .func fn m d] w K:=Hk (by
 unfold Zi
 refine M8 y fun a w1 σ1 f l=>?_
 simp only[Value.cells] at l
 ((try simp only[↓M1,M1,Mb,reduceIte]);repeat ((first | refine ld (by assumption) (by assumption) rfl ?_ | refine X7 (by assumption) (by assumption) rfl ?_ | refine Q8 (by assumption) ?_);(try simp only[↓M1,M1,Mb,reduceIte])))
 refine R2 (fun x=> !p x) f.sat (B.up f) (fun x cs n K C g r k u=>?_) fun n q=>?_
 ·refine Y7 (Ox ?_)
  unfold Xp
  refine M8 g fun b A z c i=>?_
  refine X7 c.sat (l.up c) rfl ?_
  refine Z1 c.sat i k ?_
  refine s z x _ A _ (fun b o e=>c.le b o (f.le b o e)) C c.sat (Rep.up c.le r) k fun t j=>?_
  (try simp only[↓M1,M1,Mb,reduceIte])
  exact u t (bt c.bel j)
 ·(try simp only[↓M1,M1,Mb,reduceIte])
  rw[Ul]
  exact h n (bt f.bel q))
theorem Q0o {xs:List Fld} {v:Value} {fn:Fn} {m d:Array Value} (p:Fld→Bool) (y:X4 w σ) (B:Sl 3 E5 σ v xs)
 (s: ∀(σ1:Q4) x cs (w1:World) (K:Value→World→Prop),σ.Le σ1→x∈xs→X4 w1 σ1→E5 σ1 x cs→cs.length=3→(∀w',Below w1.heap.size w1 w'→K (.bool (p x)) w')→Y9 P (.func fn m d) [.agg cs.toArray] w1 K)
 (h: ∀w',Below w.heap.size w w'→K (.bool (xs.all p)) w'):Q1 P F.am [v, .func fn m d] w K:=Hw (by
 unfold Jn
 refine M8 y fun a w1 σ1 f l=>?_
 simp only[Value.cells] at l
 ((try simp only[↓M1,M1,Mb,reduceIte]);repeat ((first | refine ld (by assumption) (by assumption) rfl ?_ | refine X7 (by assumption) (by assumption) rfl ?_ | refine Q8 (by assumption) ?_);(try simp only[↓M1,M1,Mb,reduceIte])))
 refine Za (fun x=> !p x) f.sat (B.up f) (fun x cs n K C g r k u=>?_) fun n q=>?_
 ·refine Y7 (Dm ?_)
  unfold Ym
  refine M8 g fun b A z c i=>?_
  refine X7 c.sat (l.up c) rfl ?_
  refine Z1 c.sat i k ?_
  refine s z x _ A _ (fun b o e=>c.le b o (f.le b o e)) C c.sat (Rep.up c.le r) k fun t j=>?_
  (try simp only[↓M1,M1,Mb,reduceIte])
  exact u t (bt c.bel j)
 ·(try simp only[↓M1,M1,Mb,reduceIte])
  rw[Ul]
  exact h n (bt f.bel q))
theorem Q0t {xs:List Ins} {v:Value} {fn:Fn} {m d:Array Value} (p:Ins→Bool) (y:X4 w σ) (B:Sl 3 C9 σ v xs)
 (s: ∀(σ1:Q4) x cs (w1:World) (K:Value→World→Prop),σ.Le σ1→x∈xs→X4 w1 σ1→C9 σ1 x cs→cs.length=3→(∀w',Below w1.heap.size w1 w'→K (.bool (p x)) w')→Y9 P (.func fn m d) [.agg cs.toArray] w1 K)
 (h: ∀w',Below w.heap.size w w'→K (.bool (xs.all p)) w'):Q1 P F.ao [v, .func fn m d] w K:=Ra (by
 unfold Jk
 refine M8 y fun a w1 σ1 f l=>?_
 simp only[Value.cells] at l
 ((try simp only[↓M1,M1,Mb,reduceIte]);repeat ((first | refine ld (by assumption) (by assumption) rfl ?_ | refine X7 (by assumption) (by assumption) rfl ?_ | refine Q8 (by assumption) ?_);(try simp only[↓M1,M1,Mb,reduceIte])))
 refine Hg (fun x=> !p x) f.sat (B.up f) (fun x cs n K C g r k u=>?_) fun n q=>?_
 ·refine Y7 (Dn ?_)
  unfold Yl
  refine M8 g fun b A z c i=>?_
  refine X7 c.sat (l.up c) rfl ?_
  refine Z1 c.sat i k ?_
  refine s z x _ A _ (fun b o e=>c.le b o (f.le b o e)) C c.sat (Rep.up c.le r) k fun t j=>?_
  (try simp only[↓M1,M1,Mb,reduceIte])
  exact u t (bt c.bel j)
 ·(try simp only[↓M1,M1,Mb,reduceIte])
  rw[Ul]
  exact h n (bt f.bel q))
theorem Q0u {xs:List Cat} {v:Value} {fn:Fn} {m d:Array Value} (p:Cat→Bool) (y:X4 w σ) (B:Sl 4 Zt σ v xs)
 (s: ∀(σ1:Q4) x cs (w1:World) (K:Value→World→Prop),σ.Le σ1→x∈xs→X4 w1 σ1→Zt σ1 x cs→cs.length=4→(∀w',Below w1.heap.size w1 w'→K (.bool (p x)) w')→Y9 P (.func fn m d) [.agg cs.toArray] w1 K)
 (h: ∀w',Below w.heap.size w w'→K (.bool (xs.all p)) w'):Q1 P F.ap [v, .func fn m d] w K:=Rb (by
 unfold Jq
 refine M8 y fun a w1 σ1 f l=>?_
 simp only[Value.cells] at l
 ((try simp only[↓M1,M1,Mb,reduceIte]);repeat ((first | refine ld (by assumption) (by assumption) rfl ?_ | refine X7 (by assumption) (by assumption) rfl ?_ | refine Q8 (by assumption) ?_);(try simp only[↓M1,M1,Mb,reduceIte])))
 refine Hi (fun x=> !p x) f.sat (B.up f) (fun x cs n K C g r k u=>?_) fun n q=>?_
 ·refine Y7 (Dk ?_)
  unfold Yj
  refine M8 g fun b A z c i=>?_
  refine X7 c.sat (l.up c) rfl ?_
  refine Z1 c.sat i k ?_
  refine s z x _ A _ (fun b o e=>c.le b o (f.le b o e)) C c.sat (Rep.up c.le r) k fun t j=>?_
  (try simp only[↓M1,M1,Mb,reduceIte])
  exact u t (bt c.bel j)
 ·(try simp only[↓M1,M1,Mb,reduceIte])
  rw[Ul]
  exact h n (bt f.bel q))
theorem Cs {xs:List X0} {v:Value} {fn:Fn} {i c:Array Value} (p:X0→Bool) (o:X4 w σ) (q:Sl 1 Y1 σ v xs)
 (l: ∀(σ1:Q4) x (w1:World) (K:Value→World→Prop),σ.Le σ1→x∈xs→X4 w1 σ1→x.length≤J0→(∀w',Below w1.heap.size w1 w'→K (.bool (p x)) w')→Y9 P (.func fn i c) [S x] w1 K)
 (h: ∀w',Below w.heap.size w w'→K (.bool (xs.all p)) w'):Q1 P F.a3 [v, .func fn i c] w K:=Bo (by
 unfold Wc
 refine M8 o fun a w1 σ1 d g=>?_
 simp only[Value.cells] at g
 ((try simp only[↓M1,M1,Mb,reduceIte]);repeat ((first | refine ld (by assumption) (by assumption) rfl ?_ | refine X7 (by assumption) (by assumption) rfl ?_ | refine Q8 (by assumption) ?_);(try simp only[↓M1,M1,Mb,reduceIte])))
 refine G0 (fun x=> !p x) d.sat (q.up d) (fun x e K r b k n=>?_) fun e j=>?_
 ·refine Y7 (Ss ?_)
  unfold Ug
  refine X7 b g rfl ?_
  refine l σ1 x e _ d.le r b k fun m f=>?_
  (try simp only[↓M1,M1,Mb,reduceIte])
  exact n m f
 ·(try simp only[↓M1,M1,Mb,reduceIte])
  rw[Ul]
  exact h e (bt d.bel j))
theorem Q0l {xs:List Hm.Met} {v:Value} {fn:Fn} {E l:Array Value} (f:Hm.Met→X0) (hs:X4 w σ) (C:Sl 7 M6 σ v xs)
 (Y: ∀(σ1:Q4) x cs (w1:World) (K:Value→World→Prop),σ.Le σ1→X4 w1 σ1→M6 σ1 x cs→cs.length=7→(∀w',Below w1.heap.size w1 w'→K (S (f x)) w')→Y9 P (.func fn E l) [.agg cs.toArray] w1 K)
 (h: ∀w',Below w.heap.size w w'→K (.bool (H2 f [] xs)) w'):Q1 P F.al [v, .func fn E l] w K:=Hz (by
 unfold Jm
 refine M8 hs fun a w1 σ1 D ha=>?_
 simp only[Value.cells] at ha
 have L:=D.sat
 replace C:=C.up D
 ((try simp only[↓M1,M1,Mb,reduceIte]);repeat ((first | refine ld (by assumption) (by assumption) rfl ?_ | refine X7 (by assumption) (by assumption) rfl ?_ | refine Q8 (by assumption) ?_);(try simp only[↓M1,M1,Mb,reduceIte])))
 refine J4 xs.length (fun n w'=>Below w1.heap.size w1 w'∧H2 f [] xs=H2 f (xs.take n) (xs.drop n)) ⟨Below.refl _ _,rfl⟩ fun n w2 d hn hi=>?_
 obtain ⟨i,r⟩:=hi
 have z:=L.below i
 ((try simp only[↓M1,M1,Mb,reduceIte]);repeat ((first | refine ld (by assumption) (by assumption) rfl ?_ | refine X7 (by assumption) (by assumption) rfl ?_ | refine Q8 (by assumption) ?_);(try simp only[↓M1,M1,Mb,reduceIte])))
 refine Q5 (fun N=>?_) (fun N=>?_)
 ·have k:n<xs.length:=by simpa using N
  rw[List.drop_eq_getElem_cons k] at r
  simp only[H2] at r
  refine W6 C k fun p cs hl g X=>?_
  refine Z1 z hl g ?_
  refine Y4 z (by rfl) g (Rep.one X) fun q w3 σ3 j hq=>?_
  refine Hn (C.up j) none (some (I n)) 0 n (.inl ⟨rfl,rfl⟩) (.inr rfl) (by omega) (by omega) fun v' H=>?_
  ((try simp only[↓M1,M1,Mb,reduceIte]);repeat ((first | refine ld (by assumption) (by assumption) rfl ?_ | refine X7 (by assumption) (by assumption) rfl ?_ | refine Q8 (by assumption) ?_);(try simp only[↓M1,M1,Mb,reduceIte])))
  refine R2 (fun y=>decide (f y=f xs[n])) j.sat H (fun y ys Z K hy Q O u hK=>?_) fun Z W=>?_
  ·refine Y7 (Df ?_)
   unfold Yh
   refine M8 Q fun b w5 V c M=>?_
   have B:=(ha.up j).up c
   have R:=hq.up c
   have s:σ.Le V:=fun b o e=>c.le b o (j.le b o (D.le b o e))
   refine Nt (Below.refl _ _) ?_
   refine X2 (.func fn E l) (fun w i=>X7 (c.sat.below i) B rfl (X6 rfl)) ?_
   refine X2 (.agg ys.toArray) (fun w i=>Z1 (c.sat.below i) M u (X6 rfl)) ?_
   refine X2 (S (f y)) (fun t t' w i e e'=>by rw[e,e'];exact Y V y ys w _ s (c.sat.below i) (Rep.up c.le O) u fun w' U=>Q1n U rfl) ?_
   refine X2 (.func fn E l) (fun w i=>X7 (c.sat.below i) B rfl (X6 rfl)) ?_
   refine X2 (.agg cs.toArray) (fun w i=>Z1 (c.sat.below i) R g (X6 rfl)) ?_
   rintro _ _ _ _ _ w6 A rfl rfl rfl rfl rfl
   refine Y V xs[n] cs w6 _ s (c.sat.below A) (Rep.up (fun b o e=>c.le b o (j.le b o e)) X) g fun w7 J=>?_
   (try simp only[↓M1,M1,Mb,reduceIte])
   exact hK w7 (bt (bt c.bel A) J)
  ·have m:=bt i (bt j.bel W)
   simp only[List.drop_zero,Nat.sub_zero] at*
   refine Q5 (fun hh=>?_) (fun hh=>?_)
   ·rw[hh] at r
    have:=h Z (bt D.bel m)
    rw[r] at this;exact this
   ·rw[hh] at r
    ((try simp only[↓M1,M1,Mb,reduceIte]);repeat ((first | refine ld (by assumption) (by assumption) rfl ?_ | refine X7 (by assumption) (by assumption) rfl ?_ | refine Q8 (by assumption) ?_);(try simp only[↓M1,M1,Mb,reduceIte])))
    refine Y3 C.max k ⟨m,?_⟩
    rw[r,List.take_add_one,List.getElem?_eq_getElem k];rfl
 ·have k: ¬n<xs.length:=by simpa using N
  rw[List.drop_eq_nil_of_le (by omega)] at r
  have:=h w2 (bt D.bel i)
  rw[r] at this;exact this)
theorem Q17 {xs:List Fld} {v:Value} {fn:Fn} {E l:Array Value} (f:Fld→X0) (hs:X4 w σ) (C:Sl 3 E5 σ v xs)
 (Y: ∀(σ1:Q4) x cs (w1:World) (K:Value→World→Prop),σ.Le σ1→X4 w1 σ1→E5 σ1 x cs→cs.length=3→(∀w',Below w1.heap.size w1 w'→K (S (f x)) w')→Y9 P (.func fn E l) [.agg cs.toArray] w1 K)
 (h: ∀w',Below w.heap.size w w'→K (.bool (H2 f [] xs)) w'):Q1 P F.av [v, .func fn E l] w K:=Sg (by
 unfold Ua
 refine M8 hs fun a w1 σ1 D ha=>?_
 simp only[Value.cells] at ha
 have L:=D.sat
 replace C:=C.up D
 ((try simp only[↓M1,M1,Mb,reduceIte]);repeat ((first | refine ld (by assumption) (by assumption) rfl ?_ | refine X7 (by assumption) (by assumption) rfl ?_ | refine Q8 (by assumption) ?_);(try simp only[↓M1,M1,Mb,reduceIte])))
 refine J4 xs.length (fun n w'=>Below w1.heap.size w1 w'∧H2 f [] xs=H2 f (xs.take n) (xs.drop n)) ⟨Below.refl _ _,rfl⟩ fun n w2 d hn hi=>?_
 obtain ⟨i,r⟩:=hi
 have z:=L.below i
 ((try simp only[↓M1,M1,Mb,reduceIte]);repeat ((first | refine ld (by assumption) (by assumption) rfl ?_ | refine X7 (by assumption) (by assumption) rfl ?_ | refine Q8 (by assumption) ?_);(try simp only[↓M1,M1,Mb,reduceIte])))
 refine Q5 (fun N=>?_) (fun N=>?_)
 ·have k:n<xs.length:=by simpa using N
  rw[List.drop_eq_getElem_cons k] at r
  simp only[H2] at r
  refine W6 C k fun p cs hl g X=>?_
  refine Z1 z hl g ?_
  refine Y4 z (by rfl) g (Rep.one X) fun q w3 σ3 j hq=>?_
  refine Hn (C.up j) none (some (I n)) 0 n (.inl ⟨rfl,rfl⟩) (.inr rfl) (by omega) (by omega) fun v' H=>?_
  ((try simp only[↓M1,M1,Mb,reduceIte]);repeat ((first | refine ld (by assumption) (by assumption) rfl ?_ | refine X7 (by assumption) (by assumption) rfl ?_ | refine Q8 (by assumption) ?_);(try simp only[↓M1,M1,Mb,reduceIte])))
  refine Za (fun y=>decide (f y=f xs[n])) j.sat H (fun y ys Z K hy Q O u hK=>?_) fun Z W=>?_
  ·refine Y7 (Ee ?_)
   unfold Zo
   refine M8 Q fun b w5 V c M=>?_
   have B:=(ha.up j).up c
   have R:=hq.up c
   have s:σ.Le V:=fun b o e=>c.le b o (j.le b o (D.le b o e))
   refine Nt (Below.refl _ _) ?_
   refine X2 (.func fn E l) (fun w i=>X7 (c.sat.below i) B rfl (X6 rfl)) ?_
   refine X2 (.agg ys.toArray) (fun w i=>Z1 (c.sat.below i) M u (X6 rfl)) ?_
   refine X2 (S (f y)) (fun t t' w i e e'=>by rw[e,e'];exact Y V y ys w _ s (c.sat.below i) (Rep.up c.le O) u fun w' U=>Q1n U rfl) ?_
   refine X2 (.func fn E l) (fun w i=>X7 (c.sat.below i) B rfl (X6 rfl)) ?_
   refine X2 (.agg cs.toArray) (fun w i=>Z1 (c.sat.below i) R g (X6 rfl)) ?_
   rintro _ _ _ _ _ w6 A rfl rfl rfl rfl rfl
   refine Y V xs[n] cs w6 _ s (c.sat.below A) (Rep.up (fun b o e=>c.le b o (j.le b o e)) X) g fun w7 J=>?_
   (try simp only[↓M1,M1,Mb,reduceIte])
   exact hK w7 (bt (bt c.bel A) J)
  ·have m:=bt i (bt j.bel W)
   simp only[List.drop_zero,Nat.sub_zero] at*
   refine Q5 (fun hh=>?_) (fun hh=>?_)
   ·rw[hh] at r
    have:=h Z (bt D.bel m)
    rw[r] at this;exact this
   ·rw[hh] at r
    ((try simp only[↓M1,M1,Mb,reduceIte]);repeat ((first | refine ld (by assumption) (by assumption) rfl ?_ | refine X7 (by assumption) (by assumption) rfl ?_ | refine Q8 (by assumption) ?_);(try simp only[↓M1,M1,Mb,reduceIte])))
    refine Y3 C.max k ⟨m,?_⟩
    rw[r,List.take_add_one,List.getElem?_eq_getElem k];rfl
 ·have k: ¬n<xs.length:=by simpa using N
  rw[List.drop_eq_nil_of_le (by omega)] at r
  have:=h w2 (bt D.bel i)
  rw[r] at this;exact this)
theorem Q3E {xs:List X0} {v:Value} {fn:Fn} {D k:Array Value} (f:X0→X0) (hs:X4 w σ) (B:Sl 1 Y1 σ v xs)
 (U: ∀(σ1:Q4) x (w1:World) (K:Value→World→Prop),σ.Le σ1→X4 w1 σ1→x.length≤J0→(∀w',Below w1.heap.size w1 w'→K (S (f x)) w')→Y9 P (.func fn D k) [S x] w1 K)
 (h: ∀w',Below w.heap.size w w'→K (.bool (H2 f [] xs)) w'):Q1 P F.aH [v, .func fn D k] w K:=Iw (by
 unfold Mk
 refine M8 hs fun a w1 σ1 C W=>?_
 simp only[Value.cells] at W
 have J:=C.sat
 replace B:=B.up C
 ((try simp only[↓M1,M1,Mb,reduceIte]);repeat ((first | refine ld (by assumption) (by assumption) rfl ?_ | refine X7 (by assumption) (by assumption) rfl ?_ | refine Q8 (by assumption) ?_);(try simp only[↓M1,M1,Mb,reduceIte])))
 refine J4 xs.length (fun n w'=>Below w1.heap.size w1 w'∧H2 f [] xs=H2 f (xs.take n) (xs.drop n)) ⟨Below.refl _ _,rfl⟩ fun n w2 d hn hi=>?_
 obtain ⟨c,m⟩:=hi
 have u:=J.below c
 ((try simp only[↓M1,M1,Mb,reduceIte]);repeat ((first | refine ld (by assumption) (by assumption) rfl ?_ | refine X7 (by assumption) (by assumption) rfl ?_ | refine Q8 (by assumption) ?_);(try simp only[↓M1,M1,Mb,reduceIte])))
 refine Q5 (fun L=>?_) (fun L=>?_)
 ·have g:n<xs.length:=by simpa using L
  rw[List.drop_eq_getElem_cons g] at m
  simp only[H2] at m
  refine W6 B g fun p cs Y R X=>?_
  obtain ⟨rfl,s⟩:=X
  refine X7 u Y rfl ?_
  refine U3 u (by rfl) rfl rfl fun q w3 O i hq=>?_
  refine Hn (B.up i) none (some (I n)) 0 n (.inl ⟨rfl,rfl⟩) (.inr rfl) (by omega) (by omega) fun v' E=>?_
  ((try simp only[↓M1,M1,Mb,reduceIte]);repeat ((first | refine ld (by assumption) (by assumption) rfl ?_ | refine X7 (by assumption) (by assumption) rfl ?_ | refine Q8 (by assumption) ?_);(try simp only[↓M1,M1,Mb,reduceIte])))
  refine G0 (fun y=>decide (f y=f xs[n])) i.sat E (fun y V K hy j M Z=>?_) fun V Q=>?_
  ·refine Y7 (Ci ?_)
   unfold Vt
   have A:=W.up i
   have r:σ.Le O:=fun b o e=>i.le b o (C.le b o e)
   refine Nt (Below.refl _ _) ?_
   refine X2 (.func fn D k) (fun w c=>X7 (j.below c) A rfl (X6 rfl)) ?_
   refine X2 (S (f y)) (fun t w c e=>by rw[e];exact U O y w _ r (j.below c) M fun w' N=>Q1n N rfl) ?_
   refine X2 (.func fn D k) (fun w c=>X7 (j.below c) A rfl (X6 rfl)) ?_
   refine X2 (S xs[n]) (fun w c=>X7 (j.below c) hq rfl (X6 rfl)) ?_
   rintro _ _ _ _ w6 z rfl rfl rfl rfl
   refine U O xs[n] w6 _ r (j.below z) s fun w7 H=>?_
   (try simp only[↓M1,M1,Mb,reduceIte])
   exact Z w7 (bt z H)
  ·have l:=bt c (bt i.bel Q)
   simp only[List.drop_zero,Nat.sub_zero] at*
   refine Q5 (fun hh=>?_) (fun hh=>?_)
   ·rw[hh] at m
    have:=h V (bt C.bel l)
    rw[m] at this;exact this
   ·rw[hh] at m
    ((try simp only[↓M1,M1,Mb,reduceIte]);repeat ((first | refine ld (by assumption) (by assumption) rfl ?_ | refine X7 (by assumption) (by assumption) rfl ?_ | refine Q8 (by assumption) ?_);(try simp only[↓M1,M1,Mb,reduceIte])))
    refine Y3 B.max g ⟨l,?_⟩
    rw[m,List.take_add_one,List.getElem?_eq_getElem g];rfl
 ·have g: ¬n<xs.length:=by simpa using L
  rw[List.drop_eq_nil_of_le (by omega)] at m
  have:=h w2 (bt C.bel c)
  rw[m] at this;exact this)
theorem Q5j {P:Program} {w:World} (d:Nat) (t e:TypeId) (a:Option Addr) (n c:Nat) (h:P.underlying t=some (.slice e)):
 (Op.equalIn (d+1) t (.slice a n c) (.slice none 0 0)).run P w= .ok a.isNone w:=by
 cases a<;>simp[Op.equalIn,run_underlying h]
theorem Cj {t e:TypeId} {i f:Operand} [ts:TS P t e] {a:Option Addr} {n c:Nat} {b:Bool} (g:a.isNone=b) (j:K (.bool b) w):Q3 P .eql t i f (.slice a n c) (.slice none 0 0) w K:=by
 have d:(Op.equal t (.slice a n c) (.slice none 0 0)).run P w= .ok b w:=by
  have:=Q5j (P:=P) (w:=w) 9999 t e a n c ts.h
  rw[g] at this
  exact this
 unfold Q3
 rw[X9 (v:= .bool b) (w':=w) (by simp[eqGuard,Go.binOp,d])]
 exact j
theorem Uy {xs:List X0} {v:Value} (g:X4 w σ) (i:Sl 1 Y1 σ v xs) (u:xs.length≤1000000)
 (h: ∀f w' b,Stp w σ w' b→Sl 1 Y1 b f xs→K f w'):Q1 P F.b [v] w K:=P7 (by
 unfold C3
 have c:=i
 obtain ⟨a,n,rfl,A,z,j,y⟩:=i
 refine Cj rfl ?_
 refine Q5 (fun e=>?_) (fun e=>?_)
 ·have:a=none:=by simpa using e
  have t:=j this
  have q:xs=[]:=List.eq_nil_of_length_eq_zero (by omega)
  subst q
  exact h _ w σ (Stp.refl g) Sl.nil
 ·refine I6 (R:=Y1) (sz:=1) (Stp.refl g) [] [] rfl rfl (by simp) (by rfl) trivial fun B w1 r l _=>?_
  refine app r l c (by rfl) (by simp only[List.length_nil];omega) (by simp only[List.length_nil];omega) fun C o s p d _=>?_
  obtain ⟨b,k,m,_⟩:=d.keep p
  exact h _ o b k m)
theorem Oe {xs:List Fld} {v:Value} (g:X4 w σ) (i:Sl 3 E5 σ v xs) (u:xs.length≤1000000)
 (h: ∀f w' b,Stp w σ w' b→Sl 3 E5 b f xs→K f w'):Q1 P F.a6 [v] w K:=Yy (by
 unfold F4
 have c:=i
 obtain ⟨a,n,rfl,A,z,j,y⟩:=i
 refine Cj rfl ?_
 refine Q5 (fun e=>?_) (fun e=>?_)
 ·have:a=none:=by simpa using e
  have t:=j this
  have q:xs=[]:=List.eq_nil_of_length_eq_zero (by omega)
  subst q
  exact h _ w σ (Stp.refl g) Sl.nil
 ·refine I6 (R:=E5) (sz:=3) (Stp.refl g) [] [] rfl rfl (by simp) (by rfl) trivial fun B w1 r l _=>?_
  refine app r l c (by rfl) (by simp only[List.length_nil];omega) (by simp only[List.length_nil];omega) fun C o s p d _=>?_
  obtain ⟨b,k,m,_⟩:=d.keep p
  exact h _ o b k m)
theorem Oh {xs:List Ins} {v:Value} (g:X4 w σ) (i:Sl 3 C9 σ v xs) (u:xs.length≤1000000)
 (h: ∀f w' b,Stp w σ w' b→Sl 3 C9 b f xs→K f w'):Q1 P F.a7 [v] w K:=Yt (by
 unfold F5
 have c:=i
 obtain ⟨a,n,rfl,A,z,j,y⟩:=i
 refine Cj rfl ?_
 refine Q5 (fun e=>?_) (fun e=>?_)
 ·have:a=none:=by simpa using e
  have t:=j this
  have q:xs=[]:=List.eq_nil_of_length_eq_zero (by omega)
  subst q
  exact h _ w σ (Stp.refl g) Sl.nil
 ·refine I6 (R:=C9) (sz:=3) (Stp.refl g) [] [] rfl rfl (by simp) (by rfl) trivial fun B w1 r l _=>?_
  refine app r l c (by rfl) (by simp only[List.length_nil];omega) (by simp only[List.length_nil];omega) fun C o s p d _=>?_
  obtain ⟨b,k,m,_⟩:=d.keep p
  exact h _ o b k m)
theorem Ny {xs:List Cat} {v:Value} (g:X4 w σ) (i:Sl 4 Zt σ v xs) (u:xs.length≤1000000)
 (h: ∀f w' b,Stp w σ w' b→Sl 4 Zt b f xs→K f w'):Q1 P F.a8 [v] w K:=Yw (by
 unfold F2
 have c:=i
 obtain ⟨a,n,rfl,A,z,j,y⟩:=i
 refine Cj rfl ?_
 refine Q5 (fun e=>?_) (fun e=>?_)
 ·have:a=none:=by simpa using e
  have t:=j this
  have q:xs=[]:=List.eq_nil_of_length_eq_zero (by omega)
  subst q
  exact h _ w σ (Stp.refl g) Sl.nil
 ·refine I6 (R:=Zt) (sz:=4) (Stp.refl g) [] [] rfl rfl (by simp) (by rfl) trivial fun B w1 r l _=>?_
  refine app r l c (by rfl) (by simp only[List.length_nil];omega) (by simp only[List.length_nil];omega) fun C o s p d _=>?_
  obtain ⟨b,k,m,_⟩:=d.keep p
  exact h _ o b k m)
end Go.Proofs.YtfppjenblllfaaaGreatDoor

namespace Go.Hm
open Go.Kd
structure Opr where
  name : X0
  number : Bool
  text : Bool
deriving DecidableEq
def Zh:List Opr:=[
 ⟨[105,110,116],true,false⟩,
 ⟨[116,114,117,101],false,false⟩,
 ⟨[102,97,108,115,101],false,false⟩,
 ⟨[119,111,114,100],false,true⟩,
 ⟨[110,117,108,108],false,false⟩,
 ⟨[108,111,97,100],true,false⟩,
 ⟨[115,116,111,114,101],true,false⟩,
 ⟨[112,111,112],false,false⟩,
 ⟨[100,117,112],false,false⟩,
 ⟨[115,119,97,112],false,false⟩,
 ⟨[97,100,100],false,false⟩,
 ⟨[115,117,98],false,false⟩,
 ⟨[109,117,108],false,false⟩,
 ⟨[100,105,118],false,false⟩,
 ⟨[114,101,109],false,false⟩,
 ⟨[110,101,103],false,false⟩,
 ⟨[108,101,115,115],false,false⟩,
 ⟨[115,97,109,101],false,false⟩,
 ⟨[110,111,116],false,false⟩,
 ⟨[98,111,116,104],false,false⟩,
 ⟨[106,111,105,110],false,false⟩,
 ⟨[115,105,122,101],false,false⟩,
 ⟨[106,117,109,112],true,false⟩,
 ⟨[98,114,97,110,99,104],true,false⟩,
 ⟨[110,101,119],false,true⟩,
 ⟨[103,101,116],false,true⟩,
 ⟨[112,117,116],false,true⟩,
 ⟨[99,97,108,108],false,true⟩,
 ⟨[97,114,114,97,121],false,true⟩,
 ⟨[97,116],false,false⟩,
 ⟨[115,101,116],false,false⟩,
 ⟨[105,115],false,true⟩,
 ⟨[99,97,115,116],false,true⟩,
 ⟨[114,101,116,117,114,110],false,false⟩,
 ⟨[116,104,114,111,119],false,false⟩,
 ⟨[111,117,116],false,false⟩,
 ⟨[101,113,117,97,108],false,false⟩,
 ⟨[97,110,100],false,false⟩,
 ⟨[111,114],false,false⟩,
 ⟨[120,111,114],false,false⟩,
 ⟨[115,104,108],false,false⟩,
 ⟨[115,104,114],false,false⟩]
end Go.Hm
namespace Go.Emb
open Go.Hm
def ROp (_:Q4) (o:Opr) (cs:List Value):Prop:=cs=[S o.name, .bool o.number, .bool o.text]
def cOp (o:Opr):List Value:=[S o.name, .bool o.number, .bool o.text]
instance:Rep ROp:=⟨fun _ h=>h,fun h u hu=>by rw[h] at hu;simp at hu;rcases hu with rfl | rfl | rfl<;>rfl⟩
end Go.Emb
namespace Go.Proofs.YtfppjenblllfaaaGreatDoor
open Go.Emb Go.RowKit Go.Kd Go.Hm
variable {w : World} {K : Value → World → Prop} {σ : Q4}
theorem Q4r {a:X0} (j:a.length≤J0) (h: ∀w',Below w.heap.size w w'→K (.bool (L7 a)) w'):Q1 P F.bw [S a] w K:=Q2v (by
 unfold Cc
 have b:a.length≤140737488355328:=by simp only[J0] at j;omega
 refine Q4v a b fun w1 i=>?_
 cases d:name a
 ·(try simp only[↓M1,M1,Mb,reduceIte])
  have:=h w1 i
  rwa [show L7 a=false by cases a with | nil=>rfl | cons c r=>simp[L7,d]] at this
 ·(try simp only[↓M1,M1,Mb,reduceIte])
  refine Dv a b fun l m=>?_
  (try simp only[↓M1,M1,Mb,reduceIte])
  have:=h l (bt i m)
  rwa [show L7 a= !W3 a by
   cases a with
   | nil=>simp[name] at d
   | cons c r=>
    obtain ⟨e,k⟩:=Fv d
    simp only[W3,L7,d,Bool.true_and]
    simp only[E3,k,Bool.or_false] at e
    cases f:Qe c.toNat<;>cases g:K0 c.toNat
    ·simp[f,g] at e
    ·rfl
    ·rfl
    ·exfalso
     simp only[Qe,K0,Bool.and_eq_true,decide_eq_true_eq] at f g
     omega] at this)
theorem X1f {t e:TypeId} {n sz by_:Nat} {z:Value} [ta:TA P t n e] [tz:TZ P e sz by_ z] {a:Addr} (c:K (.slice (some a) n n) w):E9 P t (.pointer (some a)) none none none w K:=by
 unfold E9
 have:(Instr.sliceAt t (.pointer (some a)) none none none).run P w= .ok (.slice (some (if n=0 then a else a.add (0*sz))) (n-0) (n-0)) w:=by
  simp[Instr.sliceAt,run_underlying ta.h,Instr.sureAddr,Instr.sliceBounds,W5 tz]
 rw[X9 this]
 have b:(if n=0 then a else a.add (0*sz))=a:=by
  by_cases h:n=0
  ·rw[if_pos h]
  ·rw[if_neg h,Nat.zero_mul,add_zero]
 rw[b];exact c
def Q1a (σ:Q4):Prop:=Z2 σ ⟨G.a,0,none⟩ (Zh.flatMap cOp)
theorem Q6f (i:Nat) (o:Opr) (h:Zh[i]? =some o):((Zh.flatMap cOp).drop (i*3)).take 3=cOp o:=by
 have c:i<42:=(List.getElem?_eq_some_iff.1 h).1
 have key: ∀l:List Opr,∀i o,l[i]? =some o→((l.flatMap cOp).drop (i*3)).take 3=cOp o:=by
  intro l
  induction l with
  | nil=>intro i o h;simp at h
  | cons a r b=>
   intro i o h
   cases i with
   | zero=>simp at h;subst h;rfl
   | succ i=>
    have:=b i o (by simpa using h)
    rw[List.flatMap_cons,show (i+1)*3=(cOp a).length+i*3 by simp[cOp];omega,List.drop_append]
    simpa [List.drop_eq_nil_of_le] using this
 exact key _ i o h
theorem Q1o {σ:Q4} {a:Addr} {cs:List Value} (h:Z2 σ a cs) (i n:Nat):Z2 σ (a.add i) ((cs.drop i).take n):=by
 obtain ⟨c,D7,e,g,f,d⟩:=h
 refine ⟨I4 c _,D7,e,g,by rw[C6];exact f,fun j v b=>?_⟩
 rw[List.getElem?_take] at b
 split at b
 ·rw[List.getElem?_drop] at b
  rw[Ya,Nat.add_assoc];exact d _ _ b
 ·cases b
theorem X1J (h:Q1a σ):Sl 3 ROp σ (.slice (some ⟨G.a,0,none⟩) 42 42) Zh:=by
 refine ⟨_,42,rfl,by decide,by decide,by simp,?_⟩
 rintro _ ⟨⟩
 refine ⟨fun _=>rfl,fun i x a=>⟨cOp x,?_,rfl,rfl⟩⟩
 rw[←Q6f i x a]
 exact Q1o h (i*3) 3
theorem Iy {β:Type} {xs:List Opr} {v f:Value} (b:β→Opr→Bool×β) (m:β) (a:β→World→Prop) (D:Nat→Prop) (i: ∀s w,a s w→X4 w σ) (A:a m w) (t:Sl 3 ROp σ v xs)
 (z: ∀s x cs (w1:World) (K:Value→World→Prop),x∈xs→Kpt D w w1→a s w1→ROp σ x cs→cs.length=3→(∀w',Kpt D w w'→a (b s x).2 w'→K (.bool (b s x).1) w')→Y9 P f [.agg cs.toArray] w1 K)
 (h: ∀w',Kpt D w w'→a (Z8 b m xs 0).2 w'→K (I (W8 (Z8 b m xs 0).1)) w'):Q1 P F.q [v,f] w K:=Yz (by
 unfold F3
 ((try simp only[↓M1,M1,Mb,reduceIte]);repeat ((first | refine ld (by assumption) (by assumption) rfl ?_ | refine X7 (by assumption) (by assumption) rfl ?_ | refine Q8 (by assumption) ?_);(try simp only[↓M1,M1,Mb,reduceIte])))
 refine J4 xs.length (fun n w'=>Kpt D w w'∧ ∃s,a s w'∧Z8 b m xs 0=Z8 b s (xs.drop n) n) ⟨Kpt.refl,m,A,rfl⟩ fun n w1 d E l=>?_
 obtain ⟨u,s,l,g⟩:=l
 have q:=i s w1 l
 ((try simp only[↓M1,M1,Mb,reduceIte]);repeat ((first | refine ld (by assumption) (by assumption) rfl ?_ | refine X7 (by assumption) (by assumption) rfl ?_ | refine Q8 (by assumption) ?_);(try simp only[↓M1,M1,Mb,reduceIte])))
 refine Q5 (fun r=>?_) (fun r=>?_)
 ·have c:n<xs.length:=by simpa using r
  refine W6 t c fun p cs B e y=>?_
  refine Z1 q B e ?_
  refine z s xs[n] cs w1 _ (List.getElem_mem c) u l y e fun C k j=>?_
  rw[List.drop_eq_getElem_cons c] at g
  simp only[Z8] at g
  refine Q5 (fun o=>?_) (fun o=>?_)
  ·rw[o] at g
   have:=h C k
   rw[g] at this
   exact this j
  ·rw[o] at g
   ((try simp only[↓M1,M1,Mb,reduceIte]);repeat ((first | refine ld (by assumption) (by assumption) rfl ?_ | refine X7 (by assumption) (by assumption) rfl ?_ | refine Q8 (by assumption) ?_);(try simp only[↓M1,M1,Mb,reduceIte])))
   exact Y3 t.max c ⟨k,_,j,by simpa using g⟩
 ·have c: ¬n<xs.length:=by simpa using r
  rw[List.drop_eq_nil_of_le (by omega)] at g
  have:=h w1 u
  rw[g] at this
  exact this l)
theorem Ix {xs:List Opr} {v f:Value} (p:Opr→Bool) (hs:X4 w σ) (hv:Sl 3 ROp σ v xs)
 (hf: ∀x cs (w1:World) (K:Value→World→Prop),x∈xs→X4 w1 σ→ROp σ x cs→cs.length=3→(∀w',Below w1.heap.size w1 w'→K (.bool (p x)) w')→Y9 P f [.agg cs.toArray] w1 K)
 (h: ∀w',Below w.heap.size w w'→K (I (W8 (xs.findIdx? p))) w'):Q1 P F.q [v,f] w K:=by
 refine Iy (fun (_:Unit) x=>(p x,())) () (fun _ w'=>Below w.heap.size w w') (fun _=>False) (fun _ w' hb=>hs.below hb) (Below.refl _ _) hv (fun s x cs w1 K hx hk hi hr hl hK=>hf x cs w1 K hx (hs.below hi) hr hl fun w' hb=>hK w' (.of_below (bt hi hb)) (bt hi hb)) fun w' hk hi=>?_
 rw[P9]
 simpa using h w' hi
theorem Q1a.le {σ a:Q4} (h:Q1a σ) (c: ∀b o,σ b=some o→a b=some o):Q1a a:=Z2.le h c
def K3 (n:X0):Option Nat:=Zh.findIdx? fun o=>decide (o.name=n)
theorem X1Q {a:X0} (n:X4 w σ) (i:Q1a σ) (h: ∀w',Below w.heap.size w w'→K (I (W8 (K3 a))) w'):Q1 P F.cG [S a] w K:=Q5t (by
 unfold Q0A
 refine M8 n fun p w1 σ1 e f=>?_
 simp only[Value.cells] at f
 refine X1f ?_
 ((try simp only[↓M1,M1,Mb,reduceIte]);repeat ((first | refine ld (by assumption) (by assumption) rfl ?_ | refine X7 (by assumption) (by assumption) rfl ?_ | refine Q8 (by assumption) ?_);(try simp only[↓M1,M1,Mb,reduceIte])))
 refine Ix (fun o=>decide (o.name=a)) e.sat (X1J (i.le e.le)) (fun x cs g K y c k u m=>?_) fun g j=>?_
 ·refine Y7 (Q3x ?_)
  unfold Ie
  refine M8 c fun q t v b s=>?_
  have d:cs=[S x.name, .bool x.number, .bool x.text]:=k
  subst d
  have l:=b.sat
  have r:=f.up b
  simp only[Value.cells] at s
  ((try simp only[↓M1,M1,Mb,reduceIte]);repeat ((first | refine ld (by assumption) (by assumption) rfl ?_ | refine X7 (by assumption) (by assumption) rfl ?_ | refine Q8 (by assumption) ?_);(try simp only[↓M1,M1,Mb,reduceIte])))
  exact m t b.bel
 ·(try simp only[↓M1,M1,Mb,reduceIte])
  exact h g (bt e.bel j))
def takes (n:X0):Bool×Bool×Bool:=match K3 n with
 | none=>(false,false,false)
 | some i=>((Zh.getD i ⟨[],false,false⟩).number,(Zh.getD i ⟨[],false,false⟩).text,true)
theorem X0t {a:X0} (l:X4 w σ) (j:Q1a σ) (h: ∀w',Below w.heap.size w w'→K (.tuple #[.bool (takes a).1, .bool (takes a).2.1, .bool (takes a).2.2]) w'):Q1 P F.bW [S a] w K:=Q4N (by
 unfold Pj
 refine X1Q l j fun w1 b=>?_
 have c:=l.below b
 unfold takes at h
 cases d:K3 a with
 | none=>
  rw[d] at h
  simp only[W8]
  (try simp only[↓M1,M1,Mb,reduceIte])
  simp only[show decide ((-1:Int)<0)=true from rfl,↓M1,M1,Mb,reduceIte]
  exact h w1 b
 | some i=>
  rw[d] at h
  simp only at h
  have p:i<42:=(List.findIdx?_eq_some_iff_getElem.1 d).1
  have k:Zh[i]? =some (Zh.getD i ⟨[],false,false⟩):=by
   rw[List.getD,List.getElem?_eq_getElem (by exact p)];rfl
  generalize Zh.getD i ⟨[],false,false⟩=o at h k
  have g:=Q1o j (i*3) 3
  rw[Q6f i o k] at g
  simp only[W8]
  have m:decide ((i:Int)<0)=false:=by simp
  simp only[m,↓M1,M1,Mb,reduceIte]
  have A: ∀{w:World} {K:Value→World→Prop},K (.pointer (some ((⟨G.a,0,none⟩:Addr).add (i*3)))) w→indexAddr P T.a9 (.pointer (some ⟨G.a,0,none⟩)) (I i) w K:=by
   intro w K h
   rw[Q8r (by omega) (by omega)]
   simpa using h
  refine Nt (Below.refl _ _) ?_
  refine X2 (.pointer (some ((⟨G.a,0,none⟩:Addr).add (i*3)))) (fun w b=>A (X6 rfl)) ?_
  refine X2 (.pointer (some (((⟨G.a,0,none⟩:Addr).add (i*3)).add 1))) (fun t w b e=>by rw[e,fa];exact X6 rfl) ?_
  refine X2 (.pointer (some ((⟨G.a,0,none⟩:Addr).add (i*3)))) (fun w b=>A (X6 rfl)) ?_
  refine X2 (.pointer (some (((⟨G.a,0,none⟩:Addr).add (i*3)).add 2))) (fun t w b e=>by rw[e,fa];exact X6 rfl) ?_
  refine X2 (.bool o.number) (fun t w b e=>by rw[e];exact ld (c.below b) g rfl (X6 rfl)) ?_
  refine X2 (.bool o.text) (fun t w b e=>by rw[e];exact ld (c.below b) g rfl (X6 rfl)) ?_
  rintro _ _ _ _ _ _ n f rfl rfl rfl rfl rfl rfl
  exact h n (bt b f))
end Go.Proofs.YtfppjenblllfaaaGreatDoor

namespace Go.Emb
open Go.RowKit Go.Hm
variable {P : Program} {w w0 w1 w' w'' : World} {K : Value → World → Prop} {σ σ0 σ1 σ' : Q4}
structure SLe (σ σ' : Q4) : Prop where
  le : ∀ b o, σ b = some o → σ' b = some o
theorem SLe.refl (σ:Q4):SLe σ σ:=⟨fun _ _ h=>h⟩
theorem SLe.step {w w':World} (h:SLe σ0 σ) (k:Stp w σ w' σ'):SLe σ0 σ':=⟨fun b o e=>k.le b o (h.le b o e)⟩
theorem SLe.more (h:SLe σ0 σ) (k:SLe σ σ'):SLe σ0 σ':=⟨fun b o e=>k.le b o (h.le b o e)⟩
structure Hst (w : World) (σ : Q4) (w' : World) (σ' : Q4) : Prop where
  stp : Stp w σ w' σ'
theorem Hst.sat (h:Hst w σ w' σ'):X4 w' σ':=h.stp.sat
section lifts
variable {α : Type} {R : Q4 → α → List Value → Prop} {sz : Nat} {v : Value} {xs : List α} {a : Addr} {cs : List Value}
theorem Sl.lift [Rep R] (h:Sl sz R σ0 v xs) (k:SLe σ0 σ):Sl sz R σ v xs:=h.le k.le
theorem Z2.lift (h:Z2 σ0 a cs) (k:SLe σ0 σ):Z2 σ a cs:=h.le k.le
theorem I9.lift {r:Nat} {m:List (List UInt8×Value)} (h:I9 σ0 r m) (k:SLe σ0 σ):I9 σ r m:=h.le k.le
theorem RMe_lift {x:Hm.Met} (h:M6 σ0 x cs) (k:SLe σ0 σ):M6 σ x cs:=Rep.up k.le h
theorem RCl_lift {x:Cla} (h:U8 σ0 x cs) (k:SLe σ0 σ):U8 σ x cs:=Rep.up k.le h
theorem RFd_any {x:Fld} (h:E5 σ0 x cs):E5 σ x cs:=h
theorem RIn_any {x:Ins} (h:C9 σ0 x cs):C9 σ x cs:=h
theorem RCa_any {x:Cat} (h:Zt σ0 x cs):Zt σ x cs:=h
theorem Z5.step {b:Nat} (h:Z5 σ w b cs) (k:Stp w σ w' σ'):Z5 σ' w' b cs:=h.up k
theorem V8.step [Rep R] {B:Nat} {e:TypeId} (h:V8 B e sz R σ w v xs) (k:Stp w σ w' σ'):V8 B e sz R σ' w' v xs:=h.up k
end lifts
theorem W4 {Q:World→Prop} (c:X4 w σ) (h: ∀w' σ',Stp w σ w' σ'→Q w'): ∀w',Below w.heap.size w w'→Q w':=fun w' d=>h w' σ (Stp.of_below c d)
section plain
variable {k : IntKind} {t : TypeId} {ox oy : Operand} {a b : Int} {x y : Bool} {s u : List UInt8}
theorem O3 (h:K (.int k (k.wrap (a+b))) w):Q3 P .add t ox oy (.int k a) (.int k b) w K:=by rw[Be];exact h
theorem Q9S (h:K (.int k (k.wrap (a-b))) w):Q3 P .sub t ox oy (.int k a) (.int k b) w K:=by rw[Q09];exact h
theorem Cx (c: -9223372036854775808≤a+b∧a+b≤9223372036854775807) (h:K (I (a+b)) w):Q3 P .add t ox oy (I a) (I b) w K:=by rw[Be,C4 c.1 c.2];exact h
theorem Dx (c: -9223372036854775808≤a-b∧a-b≤9223372036854775807) (h:K (I (a-b)) w):Q3 P .sub t ox oy (I a) (I b) w K:=by rw[Q09,C4 c.1 c.2];exact h
theorem Y8 (h:K (.bool (decide (a<b))) w):Q3 P .lss t ox oy (.int k a) (.int k b) w K:=by rw[Q2a];exact h
theorem X2l (h:K (.bool (decide (a≤b))) w):Q3 P .leq t ox oy (.int k a) (.int k b) w K:=by rw[Q2w];exact h
theorem Q7s (h:K (.bool (decide (b<a))) w):Q3 P .gtr t ox oy (.int k a) (.int k b) w K:=by rw[Q2p];exact h
theorem F0 (h:K (.bool (decide (b≤a))) w):Q3 P .geq t ox oy (.int k a) (.int k b) w K:=by rw[Q08];exact h
theorem Sc (h:K (.bool (decide (a=b))) w):Q3 P .eql t ox oy (.int k a) (.int k b) w K:=by rw[Q0i];exact h
theorem P4 (h:K (.bool (!decide (a=b))) w):Q3 P .neq t ox oy (.int k a) (.int k b) w K:=by rw[Q2k];exact h
theorem Nw (h:K (.bool (!x)) w):J5 P .not (.bool x) w K:=by rw[Q2l];exact h
theorem F9 (h:K (.bool (decide (s=u))) w):Q3 P .eql t ox oy (S s) (S u) w K:=by rw[Sv];exact h
theorem Lu (h:K (.bool (!decide (s=u))) w):Q3 P .neq t ox oy (S s) (S u) w K:=by rw[Su];exact h
theorem Ro (c:s.length+u.length≤9223372036854775807) (h:K (S (s++u)) w):Q3 P .add t ox oy (S s) (S u) w K:=by rw[Q5y c];exact h
theorem Q7D {cs:List Bool} {r:TypeId} (c:P.underlying t=some .string) (h:K (I s.length) w):X5 P .len [t] r cs [S s] w K:=by rw[D6 c];exact h
theorem X13 {v u:Value} (h:K v w):pick P (.bool true) v u w K:=by rw[Rt];exact h
theorem X0A {v u:Value} (h:K u w):pick P (.bool false) v u w K:=by rw[Dg];exact h
theorem Jw {v u:Value} (h:K (if x=true then v else u) w):pick P (.bool x) v u w K:=by rw[Oq];exact h
theorem Q57 {f:Fn} {first caps:List Value} (h:K (.func f first.toArray caps.toArray) w):M4 P f first caps w K:=by rw[Qs];exact h
theorem U9 {vs:List Value} {i:Nat} {v:Value} (c:vs[i]? =some v) (h:K v w):ext P (.tuple vs.toArray) i w K:=by rw[Zb c];exact h
theorem Q3J {a:Addr} (h:K (.pointer (some a)) w):nilCheck P (.pointer (some a)) w K:=by rw[E8];exact h
theorem U1 {t e:Prop} (h:t):X1 (.bool true) t e:=by rw[Nh];exact h
theorem J9 {t e:Prop} (h:e):X1 (.bool false) t e:=by rw[Vf];exact h
theorem X1p {c:World→(Value→World→Prop)→Prop} (h:c w K):Q0 (.bool true) true w c K:=by rw[I8];exact h
theorem X1L {c:World→(Value→World→Prop)→Prop} (h:c w K):Q0 (.bool false) false w c K:=by rw[Uz];exact h
theorem X10 {c:World→(Value→World→Prop)→Prop} (h:K undef w):Q0 (.bool true) false w c K:=by rw[Pq];exact h
theorem X0T {c:World→(Value→World→Prop)→Prop} (h:K undef w):Q0 (.bool false) true w c K:=by rw[Ub];exact h
end plain
section mem
variable {α : Type} {R : Q4 → α → List Value → Prop} {sz : Nat} {v : Value} {xs : List α} {a : Addr} {cs : List Value}
theorem Z0 {t:TypeId} (c:X4 w σ) (h: ∀a w' σ',Stp w σ w' σ'→Z2 σ' a cs→K (.pointer (some a)) w'):box P t (.agg cs.toArray) w K:=
 M8 c fun a w' σ' f d=>h a w' σ' f (by simpa [Value.cells] using d)
theorem J6 {t:TypeId} (d:X4 w σ) (f:v.cells= #[v]) (h: ∀a w' σ',Stp w σ w' σ'→Z2 σ' a [v]→K (.pointer (some a)) w'):box P t v w K:=
 M8 d fun a w' σ' g c=>h a w' σ' g (by rw[f] at c;exact c)
theorem Xc (h:Sl sz R σ v xs):v.cells= #[v]:=by
 obtain ⟨a,c,rfl,_⟩:=h;rfl
theorem D2 {t:TypeId} {k c:Nat} {d:TypeId} {sz by_:Nat} {z:Value} [tf:TF P t k c d] [tz:TZ P d sz by_ z] [nz:NZ sz] (h:K (.pointer (some (a.add c))) w):fieldAddr P t (.pointer (some a)) k w K:=by
 rw[fa];exact h
theorem V4 {t:TypeId} {k c:Nat} {d:TypeId} [tf:TF P t k c d] [tg:TG P d false] {cs:List Value} {v:Value} (f:cs[c]? =some v) (h:K v w):We P t (.agg cs.toArray) k w K:=by
 rw[X0J (v:=v) (by simpa using f)];exact h
end mem
theorem V3 {A:(World→World→Prop)→(World→Prop)→Prop} (f:X4 w σ) (h:A (fun w w'=>Below w.heap.size w w') (fun w'=>Hst w σ w' σ)):dr w A:=
 Q0b _ _ ⟨Stp.of_below f (Below.refl _ _).drew⟩ (fun _ _ c d=>⟨c.stp.trans (Stp.of_below c.sat d)⟩) h
theorem L1 {α:Type} {R:Q4→α→List Value→Prop} {sz:Nat} {v:Value} {xs:List α} {t:TypeId} (c:X4 w σ) (d:Sl sz R σ v xs) (h: ∀a w' σ',Stp w σ w' σ'→Z2 σ' a [v]→K (.pointer (some a)) w'):box P t v w K:=
 J6 c (Xc d) h
section elems
variable {v : Value} {t e : TypeId} {by_ : Nat} {z : Value} {n : Nat}
theorem Of {xs:List Kd.X0} [TS P t e] [TZ P e 1 by_ z] (h:Sl 1 Y1 σ v xs) (c:n<xs.length) (i: ∀a,Z2 σ a [S xs[n]]→xs[n].length≤J0→K (.pointer (some a)) w):indexAddr P t v (I n) w K:=
 W6 h c fun a cs f j g=>by obtain ⟨rfl,d⟩:=g;exact i a f d
theorem Q8t {xs:List Fld} [TS P t e] [TZ P e 3 by_ z] (h:Sl 3 E5 σ v xs) (c:n<xs.length) (i: ∀a,Z2 σ a [S xs[n].name,S xs[n].kind, .bool xs[n].tr]→E5 σ xs[n] [S xs[n].name,S xs[n].kind, .bool xs[n].tr]→K (.pointer (some a)) w):indexAddr P t v (I n) w K:=
 W6 h c fun a cs f j g=>by obtain ⟨rfl,d⟩:=g;exact i a f ⟨rfl,d⟩
end elems
end Go.Emb

namespace Go.Hm
open Go.Kd
abbrev Uu:=X0→Option Cla
def Y5 (l:List Cla) (n:X0):Option Nat:=l.findIdx? fun c=>decide (c.name=n)
def lk (l:List Cla):Uu:=fun n=>(Y5 l n).bind (l[·]?)
def J3 (c:Cla):List X0:=c.super::c.like
def Z7:X0:=[79,98,106,101,99,116]
def W0:X0:=[70,97,117,108,116]
def C7:X0:=[110,117,108,108]
def N7:X0:=[116,101,120,116]
def K7:X0:=[119,104,97,116]
def Z9:List X0:=[[78,117,108,108,70,97,117,108,116],[73,110,100,101,120,70,97,117,108,116],[67,97,115,116,70,97,117,108,116],[90,101,114,111,70,97,117,108,116],[82,111,111,109,70,97,117,108,116],[67,97,108,108,70,97,117,108,116]]
def F8:List Cla:=[⟨Z7,[],[],false,false,false,[],[]⟩,⟨W0,Z7,[],false,false,false,[⟨K7,N7,false⟩],[]⟩]++Z9.map fun n=>⟨n,W0,[],false,false,true,[],[]⟩
def Jj (L:Uu):Nat→List X0→List X0→List X0
 | 0,_,a=>a
 | _,[],a=>a
 | f+1,n::b,a=>match L n with
  | none=>Jj L f b a
  | some c=>if n∈a then Jj L f b a else Jj L f (b++J3 c) (a++[n])
def weigh (l:List Cla) (a:List X0):Nat:=(l.map fun c=>if c.name∈a then 0 else (J3 c).length).sum
def V6:X0:=[105,110,116]
def M9:X0:=[98,111,111,108]
def R5 (l:List Cla) (n:X0):List X0:=Jj (lk l) (1+weigh l []) [n] []
def Q12 (l:List Cla) (n:X0):Bool:=(Y5 l n).isSome
def R9 (l:List Cla) (s:X0):Bool:=decide (s=C7)||(right s&&(plain (base s).1||Q12 l (base s).1))
def H8 (l:List Cla) (a b:X0):Bool:=
 if !R9 l a|| !R9 l b then false else if a=b then true else if plain a||plain b then false else if a=C7 then true
 else if elem a≠[] then decide (b=Z7) else (R5 l a).contains b
def B0 (L:Uu):Nat→X0→List Cla
 | 0,_=>[]
 | f+1,n=>match L n with
  | none=>[]
  | some c=>c::B0 L f c.super
def chain (l:List Cla) (n:X0):List Cla:=B0 (lk l) (l.length+1) n
def F6 (l:List Cla) (a b:X0):X0:=
 if H8 l a b then b else if H8 l b a then a else if !R9 l a|| !R9 l b||plain a||plain b then []
 else match (chain l a).find? fun c=>H8 l b c.name with
  | some c=>c.name
  | none=>Z7
def M7 (l:List Cla) (n:X0):List Fld:=(chain l n).reverse.flatMap (·.fields)
def Xv (l:List Cla) (n f:X0):Option Nat:=(M7 l n).findIdx? fun x=>decide (x.name=f)
def R3 (c:Cla) (n:X0):Option Hm.Met:=c.methods.find? fun m=>decide (m.name=n)
def Ed (L:Uu):Nat→Cla→X0→Option (X0×Hm.Met)
 | 0,_,_=>none
 | f+1,c,n=>c.like.findSome? fun u=>match L u with
  | none=>none
  | some d=>match R3 d n with
   | some m=>some (u,m)
   | none=>Ed L f d n
def U0 (l:List Cla) (k n:X0):Option (X0×Hm.Met):=
 match (chain l k).findSome? fun c=>(R3 c n).map (c.name,·) with
 | some r=>some r
 | none=>(chain l k).findSome? fun c=>Ed (lk l) (l.length+1) c n
def Q9F (l:List Cla) (n:X0):Bool:=match lk l n with
 | some c=> !c.abs
 | none=>false
def O4:List X0→X0
 | []=>[]
 | [a]=>a
 | a::b::r=>a++[44]++O4 (b::r)
def T1 (m:Hm.Met):X0:=[40]++O4 m.params++[41]++m.result
def D9 (l:List Cla) (s:X0):Bool:= !decide (s=C7)&&R9 l s
def Xk (l:List Cla) (c:Cla):Bool:=c.fields.any fun f=>(Xv l c.super f.name).isSome
def B6 (l:List Cla) (c:Cla):Bool:=c.fields.any (fun f=> !D9 l f.kind)||c.methods.any fun m=>(!D9 l m.result&& !decide (m.result=[]))||m.params.any fun s=> !D9 l s
def Vi (l:List Cla) (n:X0):List Hm.Met:=(R5 l n).flatMap fun u=>((lk l u).map (·.methods)).getD []
def Vy (a:List Hm.Met):Bool:=a.any fun x=>a.any fun y=>decide (x.name=y.name)&& !decide (T1 x=T1 y)
def Xz (l:List Cla) (c:Cla):Bool:=Vy (Vi l c.name)
def Xt (l:List Cla) (k n:X0):Bool:=match U0 l k n with
 | none=>true
 | some r=>r.2.abs
def Ni (l:List Cla) (c:Cla):Bool:= !c.abs&&(Vi l c.name).any fun m=>Xt l c.name m.name
def V2 (l:List Cla) (c:Cla):Nat:=if Xk l c then 64 else if B6 l c then 65 else if Xz l c then 66 else if Ni l c then 67 else 0
def T3 (l:List Cla) (n:X0):Bool:=match lk l n with
 | none=>true
 | some d=>d.iface||d.fin
def O8 (l:List Cla) (n:X0):Bool:=match lk l n with
 | none=>true
 | some d=> !d.iface
def L5 (l:List Cla) (c:Cla):Nat:=if T3 l c.super then 61 else if c.like.any (O8 l) then 62 else 0
def I7 (l:List Cla) (c:Cla):Bool:=(J3 c).any fun n=>(R5 l n).contains c.name
def Zf (l:List Cla) (frm:Nat):Nat→List Nat→Nat→List Nat
 | 0,out,_=>out
 | f+1,out,i=>if i<frm then out else if i∈out then out else ((J3 (l.getD i Cla.zero)).foldl (fun out n=>Zf l frm f out ((Y5 l n).getD 0)) out)++[i]
def V5 (l:List Cla) (frm:Nat):List Nat:=((List.range l.length).drop frm).foldl (fun out i=>Zf l frm (l.length+1) out i) []
end Go.Hm

namespace Go.Emb
open Go.RowKit Go.Hm
variable {P : Program} {w w0 w1 w' w'' : World} {K : Value → World → Prop} {σ σ0 σ1 σ' : Q4}
def U5 {α:Type} (B:Nat) (e:TypeId) (sz:Nat) (R:Q4→α→List Value→Prop) (σ:Q4) (w:World) (v:Value) (xs:List α):Prop:=
 ∃a c,v= .slice a xs.length c∧xs.length≤c∧c≤maxLen∧(∀b,a=some b→b.spot=none∧B≤b.block∧b.block<w.heap.size∧σ b.block=none)∧(0<c→ ∃g d f,a=some ⟨g,d,none⟩∧B≤g∧σ g=none∧w.heap[g]? =some (.cells f e (0,0))∧d+c*sz≤f.size∧ ∀i x,xs[i]? =some x→R σ x ((f.toList.drop (d+i*sz)).take sz))
section
variable {α : Type} {R : Q4 → α → List Value → Prop} {B sz : Nat} {e : TypeId} {v u : Value} {xs ys : List α}
theorem U5.of_acc (h:V8 B e sz R σ w v xs):U5 B e sz R σ w v xs:=by
 obtain ⟨cells,p,l,o⟩:=h
 rcases p.2 with ⟨rfl,n⟩ | ⟨g,f,c,rfl,k,j,b,a,r,d⟩
 ·exact ⟨none,0,by rw[n],by omega,by simp,by simp,fun h=>by omega⟩
 ·refine ⟨_,f,rfl,b,a,by rintro _ ⟨⟩;exact ⟨rfl,k,(Array.getElem?_eq_some_iff.1 j).1,l g rfl⟩,fun _=>⟨g,0,c,rfl,k,l g rfl,j,by omega,fun i x m=>?_⟩⟩
  have q:i<xs.length:=(List.getElem?_eq_some_iff.1 m).1
  have hh:i*sz+sz≤xs.length*sz:=by rw[←Nat.succ_mul];exact Nat.mul_le_mul_right _ q
  have:=o i x m
  rw[←d,List.drop_take,List.take_take] at this
  rw[Nat.zero_add]
  rwa [show min sz (xs.length*sz-i*sz)=sz by omega] at this
theorem U5.mem (h:U5 B e sz R σ w v xs) {k:Nat} (c:v.ownBlock=some k):B≤k∧k<w.heap.size∧σ k=none:=by
 obtain ⟨a,d,rfl,f,i,b,g⟩:=h
 cases a with
 | none=>cases c
 | some a=>cases c;exact (b a rfl).2
theorem U5.up [hr:Rep R] (h:U5 B e sz R σ w v xs) (f:Stp w σ w' σ'):U5 B e sz R σ' w' v xs:=by
 obtain ⟨a,l,rfl,s,y,c,q⟩:=h
 refine ⟨a,l,rfl,s,y,fun b d=>⟨(c b d).1,(c b d).2.1,Nat.lt_of_lt_of_le (c b d).2.2.1 f.bel.size,(f.old _ (c b d).2.2.1).trans (c b d).2.2.2⟩,fun p=>?_⟩
 obtain ⟨g,j,k,rfl,o,r,m,t,z⟩:=q p
 have n:=(Array.getElem?_eq_some_iff.1 m).1
 exact ⟨g,j,k,rfl,o,(f.old g n).trans r,(f.bel.block g n).trans m,t,fun i x A=>hr.up f.le (z i x A)⟩
theorem U5.step [hr:Rep R] (h:U5 B e sz R σ w v xs) (a:Stp w σ w' σ'):U5 B e sz R σ' w' v xs:=h.up a
theorem U5.kp {D:Nat→Prop} (h:U5 B e sz R σ w v xs) (n:Kpt D w w') (j: ∀k,v.ownBlock=some k→ ¬D k):U5 B e sz R σ w' v xs:=by
 obtain ⟨a,l,rfl,t,z,c,r⟩:=h
 refine ⟨a,l,rfl,t,z,fun b d=>⟨(c b d).1,(c b d).2.1,Nat.lt_of_lt_of_le (c b d).2.2.1 n.size,(c b d).2.2.2⟩,fun q=>?_⟩
 obtain ⟨g,f,i,rfl,o,s,m,y,A⟩:=r q
 have p:=(Array.getElem?_eq_some_iff.1 m).1
 exact ⟨g,f,i,rfl,o,s,(n.block g p (j g rfl)).trans m,y,A⟩
theorem Gh {b t:TypeId} {cs:List Bool} [ts:TS P b e] (h:U5 B e sz R σ w v xs) (d:K (I xs.length) w):X5 P .len [b] t cs [v] w K:=by
 obtain ⟨a,c,rfl,_⟩:=h
 rw[Q6d];exact d
theorem Q4E {t:TypeId} {by_:Nat} {z:Value} [TS P t e] [TZ P e sz by_ z] (h:U5 B e sz R σ w v xs) {n:Nat} (i:n<xs.length)
 (p: ∀a cs,(∀j u,cs[j]? =some u→w.cell? (a.add j)=some u)→cs.length=sz→R σ xs[n] cs→K (.pointer (some a)) w):indexAddr P t v (I n) w K:=by
 obtain ⟨a,f,rfl,s,A,l,m⟩:=h
 obtain ⟨g,c,d,rfl,q,r,k,y,o⟩:=m (by omega)
 rw[Cm (by omega) (by omega)]
 have hh:n*sz+sz≤f*sz:=by rw[←Nat.succ_mul];exact Nat.mul_le_mul_right _ (by omega)
 refine p _ ((d.toList.drop (c+n*sz)).take sz) ?_ ?_ (o n _ (by simp[i]))
 ·intro j u b
  rw[List.getElem?_take] at b
  split at b
  ·rw[List.getElem?_drop] at b
   unfold World.cell?
   rw[C6,C6,Ya,Ya,I4 (I4 rfl _)]
   simp only[k]
   simpa using b
  ·cases b
 ·rw[List.length_take,List.length_drop,Array.length_toList];omega
theorem X00 {t:TypeId} {by_:Nat} {z:Value} [ts:TS P t e] [tz:TZ P e sz by_ z] (h:U5 B e sz R σ w v xs) (l:Nat) (H:l≤xs.length)
 (E: ∀k,U5 B e sz R σ w k (xs.drop l)→(k.ownBlock=v.ownBlock∨k.ownBlock=none)→K k w):E9 P t v (some (I l)) none none w K:=by
 obtain ⟨a,c,rfl,C,M,d,o⟩:=h
 have hh: ∀w:World,(Instr.sliceBounds true xs.length c (some (I l)) none none).run P w= .ok (l,xs.length,c) w:=by
  intro w
  have A:(l:Int)≤xs.length:=by omega
  simp[Instr.sliceBounds,Instr.sliceBound,asIntOf,C,A]
  intros;omega
 unfold E9
 have:(Instr.sliceAt t (.slice a xs.length c) (some (I l)) none none).run P w= .ok (.slice (if c=l then a else a.map (·.add (l*sz))) (xs.length-l) (c-l)) w:=by
  simp[Instr.sliceAt,run_underlying ts.h,Instr.slice,hh,W5 tz]
 rw[X9 this]
 refine E _ ⟨_,c-l,by rw[List.length_drop],by rw[List.length_drop];omega,by omega,?_,fun J=>?_⟩ ?_
 ·intro b j
  split at j
  ·exact d b j
  ·cases a with
   | none=>cases j
   | some a=>cases j;exact ⟨I4 (d a rfl).1 _,by rw[C6];exact (d a rfl).2⟩
 ·have q:=o (by omega)
  clear o
  obtain ⟨g,m,n,rfl,s,y,r,L,D⟩:=q
  refine ⟨g,m+l*sz,n,?_,s,y,r,?_,fun i x p=>?_⟩
  ·rw[if_neg (by omega)];simp only[Option.map_some];congr 1;unfold Addr.add;split<;>simp_all
  ·have:l*sz+(c-l)*sz=c*sz:=by rw[←Nat.add_mul];congr 1;omega
   omega
  ·rw[List.getElem?_drop] at p
   have:=D _ _ p
   rwa [Nat.add_mul,←Nat.add_assoc] at this
 ·left
  by_cases f:c=l
  ·rw[if_pos f];cases a<;>rfl
  ·rw[if_neg f]
   cases a with
   | none=>rfl
   | some a=>simp only[Option.map_some,Value.ownBlock,C6]
theorem Q1K {t W:TypeId} {by_:Nat} {z:Value} {cs:List Bool} [ts:TS P t e] [tz:TZ P e sz by_ z] [hr:Rep R] (hs:X4 w σ) (hB:B≤w.heap.size) (ha:U5 B e sz R σ w v xs) (H:Sl sz R σ u ys) (hz:(z.cells.size==sz&&decide (0<sz))=true)
 (Q:(xs.length+ys.length)*by_≤140737488355328) (hm:xs.length+ys.length≤1000000000000)
 (h: ∀s w',Kpt (fun k=>v.ownBlock=some k∧B≤k∧σ k=none) w w'→X4 w' σ→U5 B e sz R σ w' s (xs++ys)→((∃a m,v= .slice a xs.length m∧s= .slice a (xs.length+ys.length) m)∨(Below w.heap.size w w'∧ ∀k,s.ownBlock=some k→w.heap.size≤k))→K s w'):X5 P .append [t,t] W cs [v,u] w K:=by
 obtain ⟨D,c,rfl,c1,c2,y,c3⟩:=ha
 obtain ⟨a,m,d,rfl,n1,n2,n3,n4,n5⟩:=H.cells hs
 obtain ⟨i,hi,E,al,M⟩:=tz.info
 simp only[Bool.and_eq_true,beq_iff_eq,decide_eq_true_eq] at hz
 obtain ⟨ak,be⟩:=hz
 have L: ∀s w',(Builtin.append_ #[t,t] W #[.slice D xs.length c, .slice a ys.length m]).run P w= .ok s w'→Kpt (fun k=>(Value.slice D xs.length c).ownBlock=some k∧B≤k∧σ k=none) w w'→U5 B e sz R σ w' s (xs++ys)→((∃a m,(Value.slice D xs.length c)= .slice a xs.length m∧s= .slice a (xs.length+ys.length) m)∨(Below w.heap.size w w'∧ ∀k,s.ownBlock=some k→w.heap.size≤k))→X5 P .append [t,t] W cs [.slice D xs.length c, .slice a ys.length m] w K:=by
  intro s w' A hk hq an
  have O:(builtin .append #[t,t] W cs.toArray #[.slice D xs.length c, .slice a ys.length m]).run P w= .ok (.value s) w':=by
   simp[builtin,A]
  unfold X5
  rw[Xb];unfold Qf
  rw[O]
  exact h s w' hk (fun k o ho=>by rw[hk.block k (hs.lt ho) fun e=>by rw[e.2.2] at ho;cases ho];exact hs k o ho) hq an
 have q:Src P i.size t (.slice a ys.length m) ys.length d w:=by
  cases a with
  | some b=>exact Src.ofSlice w ts.h b ys.length m d (by rw[E];exact n2) (n3 b rfl) n4
  | none=>
   have hy:ys.length=0:=by
    obtain ⟨a',a4,e',q1,_,Z,_⟩:=H;injection e' with e1 e2 e3;have:=n1 rfl;omega
   have hn:d=[]:=List.eq_nil_of_length_eq_zero (by rw[n2,hy];simp)
   subst hn
   rw[hy];exact Src.ofNil w ts.h m
 by_cases r:xs.length+ys.length≤c
 ·by_cases N:c=0
  ·-- nothing at all
   subst N
   have p:xs=[]:=List.eq_nil_of_length_eq_zero (by omega)
   have hy:ys=[]:=List.eq_nil_of_length_eq_zero (by omega)
   subst p hy
   have hn:d=[]:=List.eq_nil_of_length_eq_zero (by simpa using n2)
   subst hn
   refine L (.slice D 0 0) w ?_ Kpt.refl ⟨D,0,rfl,by simp,by simp,y,fun h=>by omega⟩ (.inl ⟨_,_,rfl,rfl⟩)
   have hl:=q.len w
   have C:=q.cells
   simp only[List.length_nil] at hl C⊢
   cases D<;>simp[Builtin.append_,run_underlying ts.h,sizeOf,typeInfo,hi,hl,C,storeCells]
  ·obtain ⟨g,l,f,rfl,q1,q2,Z,q4,q5⟩:=c3 (by omega)
   have e1:(xs.length+ys.length)*sz≤c*sz:=Nat.mul_le_mul_right _ r
   rw[Nat.add_mul] at e1
   have Y:=run_storeCells_at P g (l+xs.length*sz) e d 0 f w Z (by omega) n4
   simp only[Nat.add_zero] at Y
   obtain ⟨X,ar⟩:=Dj (cs:=(f.toList.take (l+xs.length*sz)++d++f.toList.drop (l+xs.length*sz+d.length)).toArray) Z
   refine L (.slice (some ⟨g,l,none⟩) (xs.length+ys.length) c) _ ?_ (Kpt.of_upd X ⟨rfl,q1,q2⟩) ?_ (.inl ⟨_,_,rfl,rfl⟩)
   ·have hl:=q.len w
    have C:=q.cells
    rw[E] at C
    simp[Builtin.append_,run_underlying ts.h,sizeOf,typeInfo,hi,hl,C,E,r,Addr.add_lit,Y]
   ·refine ⟨_,c,by rw[List.length_append],by rw[List.length_append];exact r,c2,fun b Q=>⟨(y b Q).1,(y b Q).2.1,by rw[X.size];exact (y b Q).2.2.1,(y b Q).2.2.2⟩,fun _=>⟨g,l,_,rfl,q1,q2,ar,?_,fun j x p=>?_⟩⟩
    ·simp;omega
    ·by_cases U:j<xs.length
     ·rw[List.getElem?_append_left U] at p
      have:=q5 j x p
      have hh:j*sz+sz≤xs.length*sz:=by rw[←Nat.succ_mul];exact Nat.mul_le_mul_right _ U
      have e2:((f.toList.take (l+xs.length*sz)++d++f.toList.drop (l+xs.length*sz+d.length)).toArray.toList.drop (l+j*sz)).take sz=(f.toList.drop (l+j*sz)).take sz:=by
       rw[List.toList_toArray,List.append_assoc]
       rw[List.drop_append_of_le_length (by rw[List.length_take,Array.length_toList (xs:=f)];omega),List.take_append_of_le_length (by rw[List.length_drop,List.length_take,Array.length_toList (xs:=f)];omega),List.drop_take,List.take_take]
       congr 1;omega
      rw[e2];exact this
     ·rw[List.getElem?_append_right (by omega)] at p
      have:=n5 _ _ p
      have am:j-xs.length<ys.length:=(List.getElem?_eq_some_iff.1 p).1
      have hh:(j-xs.length)*sz+sz≤ys.length*sz:=by rw[←Nat.succ_mul];exact Nat.mul_le_mul_right _ am
      have ba:j*sz=xs.length*sz+(j-xs.length)*sz:=by rw[←Nat.add_mul];congr 1;omega
      have e2:((f.toList.take (l+xs.length*sz)++d++f.toList.drop (l+xs.length*sz+d.length)).toArray.toList.drop (l+j*sz)).take sz=(d.drop ((j-xs.length)*sz)).take sz:=by
       rw[List.toList_toArray,List.append_assoc]
       rw[List.drop_append,List.drop_eq_nil_of_le (by rw[List.length_take,Array.length_toList (xs:=f)];omega),List.nil_append,List.length_take,Array.length_toList (xs:=f),
        show l+j*sz-min (l+xs.length*sz) f.size=(j-xs.length)*sz by omega,
        List.drop_append_of_le_length (by omega),List.take_append_of_le_length (by rw[List.length_drop];omega)]
      rw[e2];exact this
 ·-- a new row
  have J: ∃n:List Value,n.length=xs.length*sz∧(Builtin.firstCells i.size xs.length (.slice D xs.length c)).run P w.drew= .ok n.toArray w.drew∧ ∀j x,xs[j]? =some x→R σ x ((n.drop (j*sz)).take sz):=by
   by_cases N:c=0
   ·subst N
    have p:xs=[]:=List.eq_nil_of_length_eq_zero (by omega)
    subst p
    refine ⟨[],by simp,?_,by simp⟩
    cases D with
    | none=>exact run_firstCells_none w.drew i.size 0 0 0
    | some a'=>exact run_firstCells_some w.drew i.size 0 a' 0 0 [] (by simp) (by intro _ _ h';simp at h')
   ·obtain ⟨g,l,f,rfl,q1,q2,Z,q4,q5⟩:=c3 (by omega)
    have e1:xs.length*sz≤c*sz:=Nat.mul_le_mul_right _ c1
    refine ⟨(f.toList.drop l).take (xs.length*sz),by rw[List.length_take,List.length_drop,Array.length_toList (xs:=f)];omega,?_,fun j x p=>?_⟩
    ·refine run_firstCells_some w.drew i.size xs.length ⟨g,l,none⟩ xs.length c _ (by rw[List.length_take,List.length_drop,Array.length_toList (xs:=f),E];omega) (fun j u H=>?_)
     rw[List.getElem?_take] at H
     split at H
     ·rw[List.getElem?_drop] at H
      have aq:w.drew.heap[g]? =some (.cells f e (0,0)):=Z
      unfold World.cell?
      rw[C6,Ya,I4 rfl]
      simp only[aq]
      simpa using H
     ·cases H
    ·have U:j<xs.length:=(List.getElem?_eq_some_iff.1 p).1
     have hh:j*sz+sz≤xs.length*sz:=by rw[←Nat.succ_mul];exact Nat.mul_le_mul_right _ U
     have:=q5 j x p
     rw[List.drop_take,List.take_take,List.drop_drop,show min sz (xs.length*sz-j*sz)=sz by omega]
     exact this
  obtain ⟨n,o1,o2,o3⟩:=J
  have hg:c<xs.length+ys.length:=by omega
  have A:=run_append_grow_src (P:=P) w t t W e i z ts.h hi M D xs.length c n o2 (.slice a ys.length m) ys.length d q hg (by omega) (growslice_fits hg (by rw[al];exact Q))
  have aj:=grownCap_le_maxLen w (xs.length+ys.length) c e (by simp only[maxLen];omega)
  have aw:=grownCap_ge w (xs.length+ys.length) c e
  have hL:(n++d).length=(xs.length+ys.length)*sz:=by rw[List.length_append,o1,n2,Nat.add_mul]
  refine L _ _ A ?_ ?_ (.inr ⟨(Below.refl _ _).drew.alloc (Nat.le_refl _) _,by intro k hk;cases hk;exact Nat.le_refl _⟩)
  ·exact Kpt.of_below ((Below.refl _ _).drew.alloc (Nat.le_refl _) _)
  ·refine ⟨_,_,by rw[List.length_append],by rw[List.length_append];exact aw,aj,by rintro _ ⟨⟩;exact ⟨rfl,hB,(Array.getElem?_eq_some_iff.1 (heap_alloc_new w.drew _)).1,hs.none (Nat.le_refl _)⟩,fun _=>⟨w.heap.size,0,_,rfl,hB,hs.none (Nat.le_refl _),heap_alloc_new w.drew _,?_,fun j x p=>?_⟩⟩
   ·rw[Array.size_append,List.size_toArray,hL,size_zeroCells,ak,←Nat.add_mul]
    rw[Nat.zero_add];exact Nat.mul_le_mul_right _ (by omega)
   ·rw[Nat.zero_add,Array.toList_append]
    have U:j<xs.length+ys.length:=by have:=(List.getElem?_eq_some_iff.1 p).1;rwa [List.length_append] at this
    have hh:j*sz+sz≤(xs.length+ys.length)*sz:=by rw[←Nat.succ_mul];exact Nat.mul_le_mul_right _ U
    rw[List.drop_append_of_le_length (by simp only[List.toList_toArray];omega),List.take_append_of_le_length (by rw[List.length_drop];simp only[List.toList_toArray];omega)]
    simp only[List.toList_toArray]
    by_cases V:j<xs.length
    ·rw[List.getElem?_append_left V] at p
     rw[El n d xs.length j o1 V]
     exact o3 j x p
    ·rw[List.getElem?_append_right (by omega)] at p
     have:=n5 _ _ p
     rw[show j*sz=n.length+(j-xs.length)*sz by rw[o1,←Nat.add_mul];congr 1;omega,List.drop_append]
     simpa [List.drop_eq_nil_of_le] using this
end
theorem Zc {b:Nat} (h:w1.heap.size≤b) (k:Stp w σ w1 σ1):w.heap.size≤b:=Nat.le_trans k.bel.size h
theorem I2 {t:TypeId} {sz by_:Nat} {z:Value} [tz:TZ P t sz by_ z] (a:X4 w σ) (h: ∀b w' σ',w.heap.size≤b→Stp w σ w' σ'→Z5 σ' w' b z.cells.toList→K (.pointer (some ⟨b,0,none⟩)) w'):W7 P t w K:=
 Ha a fun b w' d f c=>h b w' σ d f c
theorem Po {t:TypeId} {cs:List Value} (a:X4 w σ) (h: ∀b w' σ',w.heap.size≤b→Stp w σ w' σ'→Z5 σ' w' b cs→K (.pointer (some ⟨b,0,none⟩)) w'):box P t (.agg cs.toArray) w K:=
 Q9l a fun b w' d f c=>h b w' σ d f (by simpa [Value.cells] using c)
theorem Qg {t:TypeId} {sz by_:Nat} {z:Value} [tz:TZ P t sz by_ z] {b:Nat} {cs ds:List Value} (c:Z5 σ w b cs) (i:Stp w0 σ0 w σ) (d:w0.heap.size≤b) (k:cs.length=sz) (j:ds.length=sz) (f: ∀u∈ds,u.oneCell'=true)
 (h: ∀w',Hst w0 σ0 w' σ→Z5 σ w' b ds→K undef w'):Z4 P t (.pointer (some ⟨b,0,none⟩)) (.agg ds.toArray) w K:=
 sta c k j (by rw[List.all_toArray];exact List.all_eq_true.2 f) fun w' g a=>h w' ⟨g.stp i d c.1⟩ a
structure Nxt (D : Nat → Prop) (w : World) (σ : Q4) (w' : World) (σ' : Q4) : Prop where
  kp : Kpt D w w'
  le : SLe σ σ'
  old : ∀ k, k < w.heap.size → σ' k = σ k
  sat : X4 w' σ'
theorem Nxt.of_stp {D:Nat→Prop} (h:Stp w σ w' σ'):Nxt D w σ w' σ':=⟨Kpt.of_below h.bel,⟨h.le⟩,h.old,h.sat⟩
theorem Nxt.trans {D:Nat→Prop} (h:Nxt D w σ w' σ') (k:Nxt D w' σ' w'' σ1):Nxt D w σ w'' σ1:=
 ⟨h.kp.trans k.kp,h.le.more k.le,fun i a=>(k.old i (Nat.lt_of_lt_of_le a h.kp.size)).trans (h.old i a),k.sat⟩
theorem Z5.nx {D:Nat→Prop} {b:Nat} {cs:List Value} (h:Z5 σ w b cs) (k:Nxt D w σ w' σ') (f: ¬D b):Z5 σ' w' b cs:=by
 have a:=h.lt
 obtain ⟨c,e,d⟩:=h
 exact ⟨(k.old b a).trans c,e,(k.kp.block b a f).trans d⟩
theorem E2.nx {D:Nat→Prop} {r:Nat} {m:List (List UInt8×Value)} (h:E2 σ w r m) (k:Nxt D w σ w' σ') (a: ¬D r):E2 σ' w' r m:=
 ⟨(k.old r h.lt).trans h.1,(k.kp.block r h.lt a).symm▸h.2⟩
section
variable {α : Type} {R : Q4 → α → List Value → Prop} {B sz : Nat} {e : TypeId} {v u : Value} {xs : List α} {x : α}
theorem V8.nx [hr:Rep R] {D:Nat→Prop} (h:V8 B e sz R σ w v xs) (k:Nxt D w σ w' σ') (j: ∀k,v.ownBlock=some k→ ¬D k):V8 B e sz R σ' w' v xs:=by
 have g:=h.kp k.kp j
 obtain ⟨cells,c,f,d⟩:=g
 refine ⟨cells,c,fun i a=>(k.old i (h.mem i a).2.1).trans (f i a),fun i x b=>hr.up k.le.le (d i x b)⟩
theorem U5.nx [hr:Rep R] {D:Nat→Prop} (h:U5 B e sz R σ w v xs) (k:Nxt D w σ w' σ') (p: ∀k,v.ownBlock=some k→ ¬D k):U5 B e sz R σ' w' v xs:=by
 obtain ⟨a,l,rfl,t,z,c,r⟩:=h
 refine ⟨a,l,rfl,t,z,fun b d=>⟨(c b d).1,(c b d).2.1,Nat.lt_of_lt_of_le (c b d).2.2.1 k.kp.size,(k.old _ (c b d).2.2.1).trans (c b d).2.2.2⟩,fun q=>?_⟩
 obtain ⟨g,f,j,rfl,o,s,m,y,A⟩:=r q
 have n:=(Array.getElem?_eq_some_iff.1 m).1
 exact ⟨g,f,j,rfl,o,(k.old g n).trans s,(k.kp.block g n (p g rfl)).trans m,y,fun i x C=>hr.up k.le.le (A i x C)⟩
theorem Un {t C:TypeId} {by_:Nat} {z:Value} {cs:List Bool} {A:Value→Value→World→Prop} [ts:TS P t e] [tz:TZ P e sz by_ z] [hr:Rep R] (m:Stp w0 σ0 w σ) (r:V8 w0.heap.size e sz R σ w v xs) (p:R σ x u.cells.toList) (y:u.cells.size=sz) (D:(z.cells.size==sz&&decide (0<sz))=true) (f:(decide (0<sz)&&decide ([u].length*sz≤16777216))=true)
 (o:(xs.length+1)*by_≤140737488355328) (q:xs.length+1≤9223372036854775807)
 (h: ∀s a w' σ',Nxt (fun k=>v.ownBlock=some k) w σ w' σ'→Stp w0 σ0 w' σ'→V8 w0.heap.size e sz R σ' w' a (xs++[x])→(a.ownBlock=v.ownBlock∨ ∀k,a.ownBlock=some k→w.heap.size≤k)→A s a w'):
 buildSlice P t 1 [(0,u)] w (fun s w=>X5 P .append [t,t] C cs [v,s] w (fun a w=>A s a w)):=by
 refine N5 m.sat [u] [x] rfl rfl (by simpa using y) f ⟨p,trivial⟩ fun s w1 σ1 b g=>?_
 refine app (m.trans b) (r.up b) g D (by simpa using o) (by simpa using q) fun a l n c j hat=>?_
 have i:Kpt (fun k=>v.ownBlock=some k) w l:=(Kpt.of_below b.bel).trans (Kpt.of_grown n fun k b=>b)
 refine h s a l σ1 ⟨i,⟨b.le⟩,b.old,c.sat⟩ c j ?_
 rcases hat with hat | hat
 ·exact .inl hat
 ·exact .inr fun k d=>Nat.le_trans b.bel.size (hat k d)
theorem Dl {t m:TypeId} {by_:Nat} {z:Value} {cs:List Bool} {ys:List α} [ts:TS P t e] [tz:TZ P e sz by_ z] [hr:Rep R] (p:Stp w0 σ0 w σ) (l:V8 w0.heap.size e sz R σ w v xs) (i:Sl sz R σ u ys) (n:(z.cells.size==sz&&decide (0<sz))=true)
 (g:(xs.length+ys.length)*by_≤140737488355328) (j:xs.length+ys.length≤9223372036854775807)
 (h: ∀a w',Nxt (fun k=>v.ownBlock=some k) w σ w' σ→Stp w0 σ0 w' σ→V8 w0.heap.size e sz R σ w' a (xs++ys)→(a.ownBlock=v.ownBlock∨ ∀k,a.ownBlock=some k→w.heap.size≤k)→K a w'):X5 P .append [t,t] m cs [v,u] w K:=
 app p l i n g j fun a o f b d c=>h a o ⟨Kpt.of_grown f fun k q=>q,SLe.refl _,fun _ _=>rfl,b.sat⟩ b d c
end
section
variable {α : Type} {R : Q4 → α → List Value → Prop} {B sz : Nat} {e : TypeId} {v u : Value} {xs : List α} {x : α}
theorem U5.mono {k:Nat} (h:U5 B e sz R σ w v xs) (l:k≤B):U5 k e sz R σ w v xs:=by
 obtain ⟨a,f,rfl,m,n,c,o⟩:=h
 refine ⟨a,f,rfl,m,n,fun b d=>⟨(c b d).1,Nat.le_trans l (c b d).2.1,(c b d).2.2⟩,fun r=>?_⟩
 obtain ⟨g,i,j,rfl,p,q⟩:=o r
 exact ⟨g,i,j,rfl,Nat.le_trans l p,q⟩
theorem U5.own (h:U5 B e sz R σ w v xs) {k:Nat} (a:v.ownBlock=some k):B≤k:=(h.mem a).1
theorem U5.keep [hr:Rep R] (h:U5 w0.heap.size e sz R σ w v xs) (p:Stp w0 σ0 w σ): ∃σ',Stp w0 σ0 w σ'∧Sl sz R σ' v xs∧SLe σ σ'∧(∀k,some k≠v.ownBlock→σ' k=σ k):=by
 obtain ⟨a,f,rfl,A,C,n,z⟩:=h
 by_cases y:f=0
 ·have m:xs=[]:=List.eq_nil_of_length_eq_zero (by omega)
  subst y m
  exact ⟨σ,p,⟨a,0,rfl,by simp,by simp,fun _=>rfl,fun b t=>⟨fun _=>(n b t).1,by simp⟩⟩,SLe.refl _,fun _ _=>rfl⟩
 ·obtain ⟨g,o,c,rfl,s,q,r,H,D⟩:=z (by omega)
  have d:=Q4.put_le p.sat q (.cells c e (0,0))
  refine ⟨σ.put g (.cells c e (0,0)),p.put q s r,⟨_,f,rfl,A,C,by simp,?_⟩,⟨d⟩,?_⟩
  ·rintro _ ⟨⟩
   refine ⟨fun _=>rfl,fun i x m=>⟨(c.toList.drop (o+i*sz)).take sz,⟨I4 rfl _,c,e,(0,0),by rw[C6];simp[Q4.put],?_⟩,?_,hr.up d (D i x m)⟩⟩
   ·intro j u l
    rw[Ya]
    rw[List.getElem?_take] at l
    split at l
    ·rw[List.getElem?_drop] at l;simpa using l
    ·cases l
   ·have J:i<xs.length:=(List.getElem?_eq_some_iff.1 m).1
    have h:i*sz+sz≤f*sz:=by rw[←Nat.succ_mul];exact Nat.mul_le_mul_right _ (by omega)
    rw[List.length_take,List.length_drop,Array.length_toList (xs:=c)];omega
  ·intro k E
   have:k≠g:=by intro e;subst e;exact E rfl
   simp only[Q4.put,if_neg this]
theorem X0k {t Q:TypeId} {by_:Nat} {z:Value} {A:Value→Value→World→Prop} {ds:List Value} [ts:TS P t e] [tz:TZ P e sz by_ z] {s:Nat} {V:Value} [tz':TZ P Q sz s V] (hS:Stp w0 σ0 w σ) (Y:U5 w0.heap.size e sz R σ w v xs) {n:Nat} (hn:n<xs.length) (C:ds.length=sz) (hx:R σ x ds) (h1: ∀u∈ds,u.oneCell'=true)
 (h: ∀p u w',Kpt (fun k=>v.ownBlock=some k) w w'→Hst w0 σ0 w' σ→U5 w0.heap.size e sz R σ w' v (xs.set n x)→A p u w'):
 indexAddr P t v (I n) w (fun p w=>Z4 P Q p (.agg ds.toArray) w (fun u w=>A p u w)):=by
 obtain ⟨a,i,rfl,Z,X,f,U⟩:=Y
 obtain ⟨g,c,d,rfl,M,O,L,q4,q5⟩:=U (by omega)
 rw[Cm (by omega) (by omega)]
 have hh:n*sz+sz≤i*sz:=by rw[←Nat.succ_mul];exact Nat.mul_le_mul_right _ (by omega)
 have m:(⟨g,c,none⟩:Addr).add ((n:Int).toNat*sz)=⟨g,c+n*sz,none⟩:=by unfold Addr.add;split<;>simp_all
 rw[m]
 have q:=run_storeCells_at P g (c+n*sz) e ds 0 d w L (by omega) h1
 simp only[Nat.add_zero] at q
 obtain ⟨l,E⟩:=Dj (cs:=(d.toList.take (c+n*sz)++ds++d.toList.drop (c+n*sz+ds.length)).toArray) L
 unfold Z4
 rw[Ng (w':=w.setRow g (d.toList.take (c+n*sz)++ds++d.toList.drop (c+n*sz+ds.length)).toArray) (by
  simp[Instr.storeAt,Instr.sureAddr,storeVar,W5 tz',Value.cells,C]
  simpa [C] using q)]
 have hk:Kpt (fun k=>(Value.slice (some ⟨g,c,none⟩) xs.length i).ownBlock=some k) w (w.setRow g (d.toList.take (c+n*sz)++ds++d.toList.drop (c+n*sz+ds.length)).toArray):=Kpt.of_upd l rfl
 refine h _ _ _ hk ⟨l.stp hS M O⟩ ⟨_,i,by rw[List.length_set],by rw[List.length_set];exact Z,X,fun b r=>⟨(f b r).1,(f b r).2.1,by rw[l.size];exact (f b r).2.2.1,(f b r).2.2.2⟩,fun _=>⟨g,c,_,rfl,M,O,E,?_,fun j y o=>?_⟩⟩
 ·simp;omega
 ·rw[List.toList_toArray]
  have W:=Array.length_toList (xs:=d)
  have H:j<xs.length:=by have:=(List.getElem?_eq_some_iff.1 o).1;simpa using this
  have aa:j*sz+sz≤i*sz:=by rw[←Nat.succ_mul];exact Nat.mul_le_mul_right _ (by omega)
  by_cases N:j=n
  ·subst N
   rw[List.getElem?_set_self H] at o
   cases o
   rw[List.append_assoc,List.drop_append,List.drop_eq_nil_of_le (by rw[List.length_take];omega),List.nil_append,List.length_take,show c+j*sz-min (c+j*sz) d.toList.length=0 by omega,List.drop_zero,List.take_append_of_le_length (by omega),List.take_of_length_le (by omega)]
   exact hx
  ·rw[List.getElem?_set_ne (by omega)] at o
   have:=q5 j y o
   rcases Nat.lt_or_gt_of_ne N with D | hgt
   ·have J:j*sz+sz≤n*sz:=by rw[←Nat.succ_mul];exact Nat.mul_le_mul_right _ D
    rw[List.append_assoc,List.drop_append_of_le_length (by rw[List.length_take];omega),List.take_append_of_le_length (by rw[List.length_drop,List.length_take];omega),List.drop_take,List.take_take]
    rwa [show min sz (c+n*sz-(c+j*sz))=sz by omega]
   ·have J:n*sz+sz≤j*sz:=by rw[←Nat.succ_mul];exact Nat.mul_le_mul_right _ hgt
    rw[List.drop_append,List.drop_eq_nil_of_le (by rw[List.length_append,List.length_take];omega),List.nil_append,List.length_append,List.length_take,List.drop_drop,C]
    rwa [show c+n*sz+sz+(c+j*sz-(min (c+n*sz) d.toList.length+sz))=c+j*sz by omega]
end
theorem Q4i (p:Nat→Prop): ∀n,p n→ ∃m,p m∧ ∀k,p k→m≤k:=by
 intro n
 induction n using Nat.strongRecOn with
 | _ n c=>
  intro h
  by_cases b: ∃k,k<n∧p k
  ·obtain ⟨k,d,g⟩:=b;exact c k d g
  ·exact ⟨n,h,fun k f=>Nat.le_of_not_lt fun a=>b ⟨k,a,f⟩⟩
noncomputable def Q0f (p:Nat→Prop):Nat:=open Classical in if h: ∃m,p m∧ ∀k,p k→m≤k then Classical.choose h else 0
theorem Pi {p:Nat→Prop} {n:Nat} (h:p n):p (Q0f p)∧Q0f p≤n:=by
 have a:=Q4i p n h
 unfold Q0f
 rw[dif_pos a]
 exact ⟨(Classical.choose_spec a).1,(Classical.choose_spec a).2 n h⟩
theorem Gk {α:Type} {h:α} {A:(α→World→Prop)→α→(Nat→Value)→World→Prop} (I:Nat→α→World→Prop) (n:Nat) (k:I n h w)
 (j: ∀a n x d w,I n x w→(∀b c w',b<n→I b c w'→a c w')→A a x d w):lp h w A:=by
 refine Jb (fun x w=> ∃n,I n x w) (fun x w=>Q0f fun n=>I n x w) ⟨n,k⟩ ?_
 rintro x d w ⟨n,i⟩
 obtain ⟨l,m⟩:=Pi (p:=fun n=>I n x w) i
 refine j _ _ x d w l fun b c w' f g=>⟨⟨b,g⟩,?_⟩
 exact Nat.lt_of_le_of_lt (Pi (p:=fun n=>I n c w') g).2 f
section
variable {α : Type} {R : Q4 → α → List Value → Prop} {B sz : Nat} {e : TypeId} {v u : Value} {xs ys : List α} {x : α}
theorem U5.below (h:U5 B e sz R σ w v xs) (a:Below w.heap.size w w'):U5 B e sz R σ w' v xs:=h.kp (D:=fun _=>False) (.of_below a) fun _ _=>id
theorem U5.pre {a:Option Addr} {n m b:Nat} (h:U5 B e sz R σ w (.slice a m b) (xs++ys)) (l:n=xs.length):U5 B e sz R σ w (.slice a n b) xs:=by
 obtain ⟨H,j,z,A,D,c,r⟩:=h
 injection z with y e2 t
 subst y t l
 rw[List.length_append] at A
 refine ⟨a,b,rfl,by omega,D,c,fun q=>?_⟩
 obtain ⟨g,d,f,q0,p,s,o,C,E⟩:=r q
 exact ⟨g,d,f,q0,p,s,o,C,fun i x k=>E i x (by rw[List.getElem?_append_left (List.getElem?_eq_some_iff.1 k).1];exact k)⟩
def Cd (B:Nat) (e:TypeId) (sz:Nat) (R:Q4→α→List Value→Prop) (σ:Q4) (v:Value) (xs:List α) (x:α) (w1 c:World):Prop:=
 Kpt (fun k=>v.ownBlock=some k) w1 c∧(U5 B e sz R σ w1 v xs→U5 B e sz R σ c v xs)∧
  ∀a b,v= .slice a xs.length b→U5 B e sz R σ w1 (.slice a (xs.length+1) b) (xs++[x])→U5 B e sz R σ c (.slice a (xs.length+1) b) (xs++[x])
theorem Cd.below (a:Below w.heap.size w w'):Cd B e sz R σ v xs x w w':=⟨.of_below a,fun h=>h.below a,fun _ _ _ h=>h.below a⟩
theorem Cd.refl:Cd B e sz R σ v xs x w w:=Cd.below (Below.refl _ _)
def VQa (N B:Nat) (e:TypeId) (sz:Nat) (R:Q4→α→List Value→Prop) (σ:Q4) (v:Value) (xs:List α) (x:α) (c:Value) (w:World):Prop:=
 U5 B e sz R σ w c (xs++[x])∧((∃a b,v= .slice a xs.length b∧c= .slice a (xs.length+1) b)∨((∀k,c.ownBlock=some k→N≤k)∧ ∀k,v.ownBlock=some k→k<N))
theorem VQa.stable {N:Nat} {i:Value} (h:VQa N B e sz R σ v xs x i w) (j:Cd B e sz R σ v xs x w w'):VQa N B e sz R σ v xs x i w':=by
 obtain ⟨g,b⟩:=h
 refine ⟨?_,b⟩
 rcases b with ⟨a,c,d,rfl⟩ | ⟨b,d⟩
 ·exact j.2.2 a c d g
 ·exact g.kp j.1 fun k l f=>by have:=b k l;have:=d k f;omega
theorem Kpt.more {D E:Nat→Prop} (h:Kpt D w w') (k:Kpt E w' w'') (hE: ∀j,E j→w.heap.size≤j):Kpt D w w'':=
 ⟨k.os.trans h.os,k.tape.trans h.tape,k.output.trans h.output,Nat.le_trans h.size k.size,fun i a b=>(k.block i (Nat.lt_of_lt_of_le a h.size) fun e=>by have:=hE i e;omega).trans (h.block i a b)⟩
end
end Go.Emb

namespace Go.Hm
open Go.Kd
theorem U7 {l:List Cla} {n:X0} {c:Cla} (h:lk l n=some c):c.name=n∧c∈l∧ ∃i,Y5 l n=some i∧l[i]? =some c:=by
 unfold lk at h
 cases a:Y5 l n with
 | none=>rw[a] at h;cases h
 | some i=>
  rw[a] at h
  obtain ⟨b,e,_⟩:=List.findIdx?_eq_some_iff_getElem.1 a
  have d:l[i]? =some c:=h
  rw[List.getElem?_eq_getElem b] at d
  cases d
  exact ⟨by simpa using e,List.getElem_mem b,i,rfl,List.getElem?_eq_getElem b⟩
theorem Ji {l:List Cla} {n:X0} {i:Nat} (h:Y5 l n=some i): ∃c,lk l n=some c∧l[i]? =some c∧c.name=n:=by
 obtain ⟨a,b,_⟩:=List.findIdx?_eq_some_iff_getElem.1 h
 refine ⟨l[i],?_,List.getElem?_eq_getElem a,by simpa using b⟩
 unfold lk;rw[h];simp[a]
theorem Q29 {l:List Cla} {n:X0}:Q12 l n=(lk l n).isSome:=by
 unfold Q12
 cases a:Y5 l n with
 | none=>simp[lk,a]
 | some i=>obtain ⟨c,h,_⟩:=Ji a;simp[h]
theorem Q7O {l:List Cla} {c:Cla} (h:c∈l): ∃d,lk l c.name=some d:=by
 cases a:Y5 l c.name with
 | none=>
  have:=List.findIdx?_eq_none_iff.1 a c h
  simp at this
 | some i=>obtain ⟨d,h,_⟩:=Ji a;exact ⟨d,h⟩
inductive Reach (L : Uu) : X0 → X0 → Prop
  | refl {a : X0} {c : Cla} : L a = some c → Reach L a a
  | step {a u b : X0} {c : Cla} : L a = some c → u ∈ J3 c → Reach L u b → Reach L a b
theorem Reach.trans {L:Uu} {a b d:X0} (h:Reach L a b) (k:Reach L b d):Reach L a d:=by
 induction h with
 | refl _=>exact k
 | step c f _ e=>exact .step c f (e k)
theorem Reach.right {L:Uu} {a b:X0} (h:Reach L a b): ∃c,L b=some c:=by
 induction h with
 | refl h=>exact ⟨_,h⟩
 | step _ _ _ d=>exact d
theorem Reach.left {L:Uu} {a b:X0} (h:Reach L a b): ∃c,L a=some c:=by
 cases h with
 | refl h=>exact ⟨_,h⟩
 | step h _ _=>exact ⟨_,h⟩
theorem Q02 (L:Uu): ∀(f:Nat) (a b:List X0),∃r,Jj L f a b=b++r:=by
 intro f
 induction f with
 | zero=>intro a b;exact ⟨[],by simp[Jj]⟩
 | succ f c=>
  intro a b
  cases a with
  | nil=>exact ⟨[],by simp[Jj]⟩
  | cons n a=>
   simp only[Jj]
   split
   ·exact c _ _
   ·split
    ·exact c _ _
    ·obtain ⟨r,d⟩:=c (a++J3 ‹_›) (b++[n])
     exact ⟨n::r,by rw[d];simp⟩
theorem Q8m (L:Uu): ∀(f:Nat) (a b:List X0) (x:X0),x∈Jj L f a b→x∈b∨ ∃t∈a,Reach L t x:=by
 intro f
 induction f with
 | zero=>intro a b x h;exact .inl h
 | succ f d=>
  intro a b x h
  cases a with
  | nil=>exact .inl h
  | cons n a=>
   simp only[Jj] at h
   split at h
   ·rcases d _ _ _ h with h | ⟨t,ht,h⟩
    ·exact .inl h
    ·exact .inr ⟨t,by simp[ht],h⟩
   ·rename_i c e
    split at h
    ·rcases d _ _ _ h with h | ⟨t,ht,h⟩
     ·exact .inl h
     ·exact .inr ⟨t,by simp[ht],h⟩
    ·rcases d _ _ _ h with h | ⟨t,ht,h⟩
     ·rcases List.mem_append.1 h with h | h
      ·exact .inl h
      ·simp at h;subst h;exact .inr ⟨x,by simp, .refl e⟩
     ·rcases List.mem_append.1 ht with ht | ht
      ·exact .inr ⟨t,by simp[ht],h⟩
      ·exact .inr ⟨n,by simp, .step e ht h⟩
theorem Q94 (l:List Cla) (b a:List X0) (h: ∀x∈b,x∈a):weigh l a≤weigh l b:=by
 unfold weigh
 induction l with
 | nil=>simp
 | cons c r e=>
  simp only[List.map_cons,List.sum_cons]
  by_cases d:c.name∈b
  ·rw[if_pos d,if_pos (h _ d)];omega
  ·rw[if_neg d];split<;>omega
theorem Gi (l:List Cla) (a:List X0) (c:Cla) (hc:c∈l) (f:c.name∉a):weigh l (a++[c.name])+(J3 c).length≤weigh l a:=by
 unfold weigh
 induction l with
 | nil=>simp at hc
 | cons d r g=>
  simp only[List.map_cons,List.sum_cons]
  have e:weigh r (a++[c.name])≤weigh r a:=Q94 _ _ _ (by simp;intro x h;exact .inl h)
  unfold weigh at e
  rcases List.mem_cons.1 hc with rfl | hc
  ·rw[if_pos (by simp),if_neg f];omega
  ·have:=g hc
   by_cases b:d.name∈a
   ·rw[if_pos (by simp[b]),if_pos b];omega
   ·rw[if_neg b];split<;>omega
theorem Q91 (l:List Cla): ∀(f:Nat) (a b:List X0),a.length+weigh l b≤f→
 (∀x∈b,∀c,lk l x=some c→ ∀u∈J3 c,∀d,lk l u=some d→u∈b∨u∈a)→
 (∀t∈a,∀d,lk l t=some d→t∈Jj (lk l) f a b)∧ ∀x∈Jj (lk l) f a b,∀c,lk l x=some c→ ∀u∈J3 c,∀d,lk l u=some d→u∈Jj (lk l) f a b:=by
 intro f
 induction f with
 | zero=>
  intro a b y o
  have:a=[]:=List.eq_nil_of_length_eq_zero (by omega)
  subst this
  refine ⟨by simp,fun x hx c j u i d g=>?_⟩
  rcases o x hx c j u i d g with h | h
  ·exact h
  ·simp at h
 | succ f v=>
  intro a b y o
  cases a with
  | nil=>
   refine ⟨by simp,fun x hx c j u i d g=>?_⟩
   rcases o x hx c j u i d g with h | h
   ·exact h
   ·simp at h
  | cons n a=>
   simp only[List.length_cons] at y
   simp only[Jj]
   split
   ·rename_i w
    obtain ⟨p,q⟩:=v a b (by omega) (fun x hx c j u i d g=>by
     rcases o x hx c j u i d g with h | h
     ·exact .inl h
     ·rcases List.mem_cons.1 h with rfl | h
      ·rw[w] at g;cases g
      ·exact .inr h)
    refine ⟨fun t ht d g=>?_,q⟩
    rcases List.mem_cons.1 ht with rfl | ht
    ·rw[w] at g;cases g
    ·exact p t ht d g
   ·rename_i c j
    split
    ·rename_i k
     obtain ⟨r,s⟩:=Q02 (lk l) f a b
     obtain ⟨p,q⟩:=v a b (by omega) (fun x hx c j u i d g=>by
      rcases o x hx c j u i d g with h | h
      ·exact .inl h
      ·rcases List.mem_cons.1 h with rfl | h
       ·exact .inl k
       ·exact .inr h)
     refine ⟨fun t ht d g=>?_,q⟩
     rcases List.mem_cons.1 ht with rfl | ht
     ·rw[s];simp[k]
     ·exact p t ht d g
    ·rename_i k
     obtain ⟨e,B,_⟩:=U7 j
     have A:=Gi l b c B (by rw[e];exact k)
     rw[e] at A
     obtain ⟨p,q⟩:=v (a++J3 c) (b++[n]) (by rw[List.length_append];omega) (fun x hx z m u i d g=>by
      rcases List.mem_append.1 hx with hx | hx
      ·rcases o x hx z m u i d g with h | h
       ·exact .inl (by simp[h])
       ·rcases List.mem_cons.1 h with rfl | h
        ·exact .inl (by simp)
        ·exact .inr (by simp[h])
      ·simp at hx;subst hx
       rw[j] at m;cases m
       exact .inr (by simp[i]))
     refine ⟨fun t ht d g=>?_,q⟩
     rcases List.mem_cons.1 ht with rfl | ht
     ·obtain ⟨r,s⟩:=Q02 (lk l) f (a++J3 c) (b++[t])
      rw[s];simp
     ·exact p t (by simp[ht]) d g
theorem Zz {l:List Cla} {a b:X0}:b∈R5 l a↔Reach (lk l) a b:=by
 obtain ⟨k,m⟩:=Q91 l (1+weigh l []) [a] [] (by simp) (by simp)
 constructor
 ·intro h
  rcases Q8m _ _ _ _ _ h with h | ⟨t,e,n⟩
  ·simp at h
  ·simp at e;subst e;exact n
 ·intro h
  have key: ∀{x y:X0},Reach (lk l) x y→x∈R5 l a→y∈R5 l a:=by
   intro x y h
   induction h with
   | refl _=>exact id
   | step i g f j=>
    intro o
    obtain ⟨d,c⟩:=f.left
    exact j (m _ o _ i _ g _ c)
  obtain ⟨d,c⟩:=h.left
  exact key h (k a (by simp) d c)
theorem Q8V (l:List Cla): ∀(f:Nat) (a b:List X0),a.length+weigh l b≤f→ ∀k,Jj (lk l) (f+k) a b=Jj (lk l) f a b:=by
 intro f
 induction f with
 | zero=>
  intro a b h k
  have:a=[]:=List.eq_nil_of_length_eq_zero (by omega)
  subst this
  cases k<;>rfl
 | succ f d=>
  intro a b h k
  cases a with
  | nil=>rw[Nat.succ_add];rfl
  | cons n a=>
   simp only[List.length_cons] at h
   rw[Nat.succ_add]
   simp only[Jj]
   split
   ·exact d _ _ (by omega) k
   ·rename_i c m
    split
    ·exact d _ _ (by omega) k
    ·rename_i g
     obtain ⟨e,j,_⟩:=U7 m
     have i:=Gi l b c j (by rw[e];exact g)
     rw[e] at i
     exact d _ _ (by rw[List.length_append];omega) k
end Go.Hm

namespace Go.Hm
open Go.Kd
def Us (L:Uu) (a b:X0):Prop:= ∃c,L a=some c∧ ∃u∈J3 c,Reach L u b
def Yp (l:List Cla):Prop:= ∀a,¬Us (lk l) a a
theorem Us.reach {L:Uu} {a b:X0} (h:Us L a b):Reach L a b:=by
 obtain ⟨c,e,u,d,f⟩:=h;exact .step e d f
theorem Us.trans {L:Uu} {a b d:X0} (h:Us L a b) (k:Reach L b d):Us L a d:=by
 obtain ⟨c,f,u,e,g⟩:=h;exact ⟨c,f,u,e,g.trans k⟩
theorem Q2Y {L:Uu} {a b:X0}:Reach L a b↔(a=b∧(∃c,L a=some c))∨Us L a b:=by
 constructor
 ·intro h
  cases h with
  | refl h=>exact .inl ⟨rfl,_,h⟩
  | step d f e=>exact .inr ⟨_,d,_,f,e⟩
 ·rintro (⟨rfl,c,h⟩ | h)
  ·exact .refl h
  ·exact h.reach
def Jg (l:List Cla) (a b:X0):Bool:=match lk l a with
 | none=>false
 | some c=>(J3 c).any fun u=>(R5 l u).contains b
theorem Vm {l:List Cla} {a b:X0}:Jg l a b=true↔Us (lk l) a b:=by
 unfold Jg Us
 cases h:lk l a with
 | none=>simp
 | some c=>
  simp only[List.any_eq_true,List.contains_iff_mem,Zz]
  constructor
  ·rintro ⟨u,d,e⟩;exact ⟨c,rfl,u,d,e⟩
  ·rintro ⟨_,⟨⟩,u,d,e⟩;exact ⟨u,d,e⟩
def G1 (l:List Cla) (n:X0):Nat:=l.countP fun m=>Jg l n m.name
theorem Q06 (l:List Cla) (n:X0):G1 l n≤l.length:=List.countP_le_length
theorem Q32 {α:Type} {p q:α→Bool}: ∀{l:List α},(∀x∈l,p x=true→q x=true)→(∃x∈l,q x=true∧p x=false)→l.countP p<l.countP q:=by
 intro l
 induction l with
 | nil=>rintro _ ⟨x,hx,_⟩;simp at hx
 | cons a r e=>
  rintro h ⟨x,hx,c,d⟩
  have f:r.countP p≤r.countP q:=List.countP_mono_left fun x hx=>h x (by simp[hx])
  rw[List.countP_cons,List.countP_cons]
  rcases List.mem_cons.1 hx with rfl | hx
  ·rw[c,d];simp;omega
  ·have:=e (fun x hx=>h x (by simp[hx])) ⟨x,hx,c,d⟩
   have g:=h a (by simp)
   cases b:p a
   ·simp;split<;>omega
   ·rw[g b];simp;omega
theorem X0q {l:List Cla} (i:Yp l) {a b:X0} (h:Us (lk l) a b):G1 l b<G1 l a:=by
 unfold G1
 refine Q32 (fun x _ j=>?_) ?_
 ·rw[Vm] at*
  exact h.trans j.reach
 ·obtain ⟨d,g⟩:=(Reach.right (h.reach))
  obtain ⟨e,f,_⟩:=U7 g
  refine ⟨d,f,?_,?_⟩
  ·rw[Vm,e];exact h
  ·cases c:Jg l b d.name with
   | false=>rfl
   | true=>rw[Vm,e] at c;exact absurd c (i b)
theorem Xx {l:List Cla} (e:Yp l) {a u:X0} {c d:Cla} (g:lk l a=some c) (b:u∈J3 c) (f:lk l u=some d):G1 l u<G1 l a:=
 X0q e ⟨c,g,u,b, .refl f⟩
theorem Q60 {l:List Cla} (i:Yp l): ∀(f g:Nat) (n:X0),G1 l n<f→G1 l n<g→B0 (lk l) f n=B0 (lk l) g n:=by
 intro f
 induction f with
 | zero=>intro g n h;omega
 | succ f b=>
  intro g n j k
  obtain ⟨g,rfl⟩: ∃m,g=m+1:=⟨g-1,by omega⟩
  simp only[B0]
  cases e:lk l n with
  | none=>rfl
  | some c=>
   simp only
   congr 1
   cases a:lk l c.super with
   | none=>cases f<;>cases g<;>simp[B0,a]
   | some d=>
    have:=Xx i e (by simp[J3]) a
    exact b g c.super (by omega) (by omega)
theorem G2 {l:List Cla} (b:Yp l) (n:X0):chain l n=match lk l n with | none=>[] | some c=>c::chain l c.super:=by
 have:=Q06 l n
 unfold chain
 rw[B0]
 cases e:lk l n with
 | none=>rfl
 | some c=>
  simp only
  congr 1
  cases a:lk l c.super with
  | none=>cases l.length<;>simp[B0,a]
  | some d=>
   have:=Xx b e (by simp[J3]) a
   exact Q60 b _ _ _ (by omega) (by omega)
theorem P6 {l:List Cla} {n:X0} (h:lk l n=none):chain l n=[]:=by simp[chain,B0,h]
theorem Nk {α β:Type} {f g:α→Option β}: ∀{l:List α},(∀x∈l,f x=g x)→l.findSome? f=l.findSome? g
 | [],_=>rfl
 | a::r,h=>by
  rw[List.findSome?_cons,List.findSome?_cons,h a (by simp),Nk fun x b=>h x (by simp[b])]
theorem Q5B {l:List Cla} (i:Yp l) (n:X0): ∀(f g:Nat) (c:Cla),lk l c.name=some c→G1 l c.name<f→G1 l c.name<g→Ed (lk l) f c n=Ed (lk l) g c n:=by
 intro f
 induction f with
 | zero=>intro g c _ h;omega
 | succ f k=>
  intro g c j p o
  obtain ⟨g,rfl⟩: ∃m,g=m+1:=⟨g-1,by omega⟩
  simp only[Ed]
  refine Nk fun u b=>?_
  cases a:lk l u with
  | none=>rfl
  | some d=>
   simp only
   cases R3 d n with
   | some m=>rfl
   | none=>
    simp only
    have:=Xx i j (by simp[J3,b]) a
    have e:=(U7 a).1
    exact k g d (by rw[e];exact a) (by rw[e];omega) (by rw[e];omega)
def U4 (l:List Cla) (c:Cla) (n:X0):Option (X0×Hm.Met):=Ed (lk l) (l.length+1) c n
theorem Q2Q {l:List Cla} (b:Yp l) {c:Cla} (g:lk l c.name=some c) (n:X0):U4 l c n=c.like.findSome? fun u=>match lk l u with
 | none=>none
 | some d=>match R3 d n with
  | some m=>some (u,m)
  | none=>U4 l d n:=by
 have:=Q06 l c.name
 unfold U4
 rw[Ed]
 refine Nk fun u f=>?_
 cases a:lk l u with
 | none=>rfl
 | some d=>
  simp only
  cases R3 d n with
  | some m=>rfl
  | none=>
   have:=Xx b g (by simp[J3,f]) a
   have e:=(U7 a).1
   exact Q5B b n _ _ d (by rw[e];exact a) (by rw[e];omega) (by rw[e];omega)
def I0 (l:List Cla):Prop:=(l.map (·.name)).Nodup
theorem I0.lk {l:List Cla} (h:I0 l) {c:Cla} (k:c∈l):Go.Hm.lk l c.name=some c:=by
 obtain ⟨d,g⟩:=Q7O k
 obtain ⟨e,p,i,o,a⟩:=U7 g
 obtain ⟨j,n,rfl⟩:=List.getElem_of_mem k
 obtain ⟨b,f⟩:=List.getElem?_eq_some_iff.1 a
 have:i=j:=by
  have m:(l.map (·.name))[i]'(by simpa using b)=(l.map (·.name))[j]'(by simpa using n):=by simp[f,e]
  exact (List.getElem_inj h).1 m
 subst this
 rw[g,←f]
theorem I0.find {l:List Cla} (h:I0 l) {i:Nat} {c:Cla} (k:l[i]? =some c):Y5 l c.name=some i:=by
 obtain ⟨b,rfl⟩:=List.getElem?_eq_some_iff.1 k
 have:=h.lk (List.getElem_mem b)
 obtain ⟨e,n,j,m,g⟩:=U7 this
 obtain ⟨a,d⟩:=List.getElem?_eq_some_iff.1 g
 have:j=i:=by
  have f:(l.map (·.name))[j]'(by simpa using a)=(l.map (·.name))[i]'(by simpa using b):=by simp[d]
  exact (List.getElem_inj h).1 f
 rw[m,this]
end Go.Hm

namespace Go.Emb
open Go.RowKit Go.Hm
variable {P : Program} {w w0 w1 w' w'' : World} {K : Value → World → Prop} {σ σ0 σ1 σ2 σ' : Q4}
theorem Stp.join (c:Stp w σ w' σ1) (d:Stp w σ w' σ2): ∃f,Stp w σ w' f∧SLe σ1 f∧SLe σ2 f:=by
 have h: ∀b o,σ1 b=some o→(fun b=>(σ1 b).or (σ2 b)) b=some o:=fun b o e=>by simp[e]
 have j: ∀b o,σ2 b=some o→(fun b=>(σ1 b).or (σ2 b)) b=some o:=by
  intro b o e
  cases a:σ1 b with
  | none=>simp[a,e]
  | some p=>
   have i:=c.sat b p a
   have g:=d.sat b o e
   rw[i] at g;cases g;simp only[a,Option.some_or]
 refine ⟨fun b=>(σ1 b).or (σ2 b),⟨c.bel,?_,fun b o e=>h b o (c.le b o e),?_⟩,⟨h⟩,⟨j⟩⟩
 ·intro b o e
  cases a:σ1 b with
  | none=>simp only[a,Option.none_or] at e;exact d.sat b o e
  | some p=>simp only[a,Option.some_or] at e;cases e;exact c.sat b _ a
 ·intro b a
  simp only[c.old b a,d.old b a];cases σ b<;>rfl
theorem Rx {Φ:Q4→Value→Prop} {A a:(Value→World→Prop)→Prop} (h:A (fun v w'=> ∃σ',Stp w σ w' σ'∧Φ σ' v)) (e:a (fun v w'=> ∃σ',Stp w σ w' σ'∧Φ σ' v)):Q7 (fun w w'=>Below w.heap.size w w') A a:=
 W9 _ (fun _ _ _ ⟨σ',b,c⟩ d=>⟨σ',b.trans (Stp.of_below b.sat d),c⟩) h e
theorem Q19 {Φ:Q4→Value→Prop} {v:Value} (b:Hst w σ w1 σ) (h:Stp w1 σ w' σ') (a:Φ σ' v):dk (fun w w'=>Below w.heap.size w w') (fun v w'=> ∃σ',Stp w σ w' σ'∧Φ σ' v) w1 v w':=
 ⟨h.bel,σ',b.stp.trans h,a⟩
theorem M6.mk {m:Hm.Met} {pv b a:Value} (d:Sl 1 Y1 σ pv m.params) (f:Sl 3 C9 σ b m.code) (e:Sl 4 Zt σ a m.catches) (c:m.name.length≤J0) (g:m.result.length≤J0) (h:Et m.locals):M6 σ m [S m.name,pv,S m.result, .bool m.abs,I m.locals,b,a]:=
 ⟨pv,b,a,rfl,d,f,e,c,g,h⟩
theorem U8.mk {c:Cla} {b a mv:Value} (e:Sl 1 Y1 σ b c.like) (g:Sl 3 E5 σ a c.fields) (f:Sl 7 M6 σ mv c.methods) (d:c.name.length≤J0) (h:c.super.length≤J0):U8 σ c [S c.name,S c.super,b, .bool c.iface, .bool c.abs, .bool c.fin,a,mv]:=
 ⟨b,a,mv,rfl,e,g,f,d,h⟩
end Go.Emb
namespace Go.Hm
def SmM (m:Hm.Met):Prop:=m.params.length≤1000000∧m.code.length≤1000000∧m.catches.length≤1000000
def T7 (c:Cla):Prop:=c.like.length≤1000000∧c.fields.length≤1000000∧c.methods.length≤1000000∧ ∀m∈c.methods,SmM m
end Go.Hm
namespace Go.Proofs.YtfppjenblllfaaaGreatDoor
open Go.Emb Go.RowKit Go.Kd Go.Hm
variable {w : World} {K : Value → World → Prop} {σ : Q4}
theorem Q31 {m:Hm.Met} {cs:List Value} (hs:X4 w σ) (hm:M6 σ m cs) (M:SmM m)
 (h: ∀pv o f w' σ',Stp w σ w' σ'→M6 σ' m [S m.name,pv,S m.result, .bool m.abs,I m.locals,o,f]→K (.agg [S m.name,pv,S m.result, .bool m.abs,I m.locals,o,f].toArray) w'):Q1 P F.bJ [.agg cs.toArray] w K:=Q3z (by
 obtain ⟨pv,o,f,rfl,H,D,B,Y,g5,g6⟩:=hm
 obtain ⟨s1,s2,Z⟩:=M
 unfold Ic
 refine Po hs fun b w1 σ1 d g a=>?_
 refine I2 g.sat fun b2 w2 σ2 E j c=>?_
 have ao:=a.lt
 replace a:=a.step j
 have y:=j.sat
 have H:=(H.up g).up j
 have D:=(D.up g).up j
 have B:=(B.up g).up j
 have L: ∀{w':World} (i:Nat) (v:Value),[S m.name,pv,S m.result, .bool m.abs,I m.locals,o,f][i]? =some v→Hst w2 σ2 w' σ2→w'.cell? ((⟨b,0,none⟩:Addr).add i)=some v:=fun i v f hh=>(a.step hh.stp).cell f
 refine V3 y ?_
 refine X2 (.pointer (some ((⟨b,0,none⟩:Addr).add 1))) (fun w d=>by rw[fa];exact X6 rfl) ?_
 refine X2 (.pointer (some ((⟨b,0,none⟩:Addr).add 5))) (fun w d=>by rw[fa];exact X6 rfl) ?_
 refine X2 (.pointer (some ((⟨b,0,none⟩:Addr).add 6))) (fun w d=>by rw[fa];exact X6 rfl) ?_
 refine X2 pv (fun t w d e=>by rw[e];exact Qu (L 1 pv rfl d) (X6 rfl)) ?_
 refine Rx (Φ:=fun σ' v=>Sl 1 Y1 σ' v m.params) (fun t w d e=>by rw[e];exact Uy d.sat H s1 fun V w' σ' s f=>Q19 d s f) ?_
 refine X2 o (fun t w d e=>by rw[e];exact Qu (L 5 o rfl d) (X6 rfl)) ?_
 refine Rx (Φ:=fun σ' v=>Sl 3 C9 σ' v m.code) (fun t w d e=>by rw[e];exact Oh d.sat D s2 fun V w' σ' s f=>Q19 d s f) ?_
 refine X2 f (fun t w d e=>by rw[e];exact Qu (L 6 f rfl d) (X6 rfl)) ?_
 refine X2 (.pointer (some ((⟨b,0,none⟩:Addr).add 1))) (fun w d=>by rw[fa];exact X6 rfl) ?_
 refine Rx (Φ:=fun σ' v=>Sl 4 Zt σ' v m.catches) (fun t w d e=>by rw[e];exact Ny d.sat B Z fun V w' σ' s f=>Q19 d s f) ?_
 rintro t1 t2 t3 t4 t5 t6 t8 t9 X C w3 aa e1 e2 e3 e4 ⟨σ5,k5,q⟩ e6 ⟨σ8,k8,p⟩ e9 u ⟨ah,A,k⟩
 subst u
 obtain ⟨σa,ka,N,J⟩:=k5.join k8
 obtain ⟨σ3,z,U,l2⟩:=ka.join A
 have q:=(q.lift N).lift U
 have p:=(p.lift J).lift U
 have k:=k.lift l2
 have a:=a.step z
 have c:=c.step z
 have n:b2≠b:=by omega
 have l:=(g.trans j).trans z
 refine Nb a (by simp) (Xc q) (G5 q) fun w4 Q a=>?_
 rw[fa]
 have l:=Q.stp l d a.1
 have c:=c.upd Q n
 refine Nb a (by simp) (Xc p) (G5 p) fun w5 W a=>?_
 rw[fa]
 have l:=W.stp l d a.1
 have c:=c.upd W n
 refine Nb a (by simp) (Xc k) (G5 k) fun w6 R a=>?_
 have l:=R.stp l d a.1
 have c:=c.upd R n
 refine Q6N a rfl ?_
 have O:=M6.mk q p k Y g5 g6
 have r:=Zc E g
 refine sta c rfl rfl (by rw[List.all_toArray];exact List.all_eq_true.2 (Rep.one O)) fun w7 u7 c=>?_
 have l:=u7.stp l r c.1
 refine W2 c rfl ?_
 exact h t5 t8 C w7 σ3 l O)
theorem Q9s {c:Cla} {cs:List Value} (hs:X4 w σ) (hc:U8 σ c cs) (aw:T7 c)
 (h: ∀U V mv w' σ',Stp w σ w' σ'→U8 σ' c [S c.name,S c.super,U, .bool c.iface, .bool c.abs, .bool c.fin,V,mv]→K (.agg [S c.name,S c.super,U, .bool c.iface, .bool c.abs, .bool c.fin,V,mv].toArray) w'):Q1 P F.cc [.agg cs.toArray] w K:=Q3y (by
 obtain ⟨U,V,mv,rfl,g1,g2,R,g4,g5⟩:=hc
 obtain ⟨s1,s2,s3,s4⟩:=aw
 unfold Ih
 refine Po hs fun b w1 σ1 l m f=>?_
 refine I2 m.sat fun W w2 σ2 ao r g=>?_
 have bp:=f.lt
 replace f:=f.step r
 have ah:=r.sat
 have g1:=(g1.up m).up r
 have g2:=(g2.up m).up r
 have R:=(R.up m).up r
 have L: ∀{w':World} (i:Nat) (v:Value),[S c.name,S c.super,U, .bool c.iface, .bool c.abs, .bool c.fin,V,mv][i]? =some v→Hst w2 σ2 w' σ2→w'.cell? ((⟨b,0,none⟩:Addr).add i)=some v:=fun i v X hh=>(f.step hh.stp).cell X
 refine V3 ah ?_
 refine X2 (.pointer (some ((⟨b,0,none⟩:Addr).add 2))) (fun w l=>by rw[fa];exact X6 rfl) ?_
 refine X2 (.pointer (some ((⟨b,0,none⟩:Addr).add 6))) (fun w l=>by rw[fa];exact X6 rfl) ?_
 refine X2 U (fun t w l e=>by rw[e];exact Qu (L 2 U rfl l) (X6 rfl)) ?_
 refine Rx (Φ:=fun σ' v=>Sl 1 Y1 σ' v c.like) (fun t w l e=>by rw[e];exact Uy l.sat g1 s1 fun v' w' σ' H X=>Q19 l H X) ?_
 refine X2 V (fun t w l e=>by rw[e];exact Qu (L 6 V rfl l) (X6 rfl)) ?_
 refine X2 (.pointer (some ((⟨b,0,none⟩:Addr).add 2))) (fun w l=>by rw[fa];exact X6 rfl) ?_
 refine Rx (Φ:=fun σ' v=>Sl 3 E5 σ' v c.fields) (fun t w l e=>by rw[e];exact Oe l.sat g2 s2 fun v' w' σ' H X=>Q19 l H X) ?_
 rintro t6 t9 t7 t8 a7 bi ab w3 ba e6 e9 e7 ⟨σ8,k8,Y⟩ a9 ar ⟨bg,ai,u⟩
 subst ar
 obtain ⟨σ3,k3,l1,l2⟩:=k8.join ai
 have Y:=Y.lift l1
 have u:=u.lift l2
 have R:=R.up k3
 have f:=f.step k3
 have g:=g.step k3
 have M:W≠b:=by omega
 have hS:=(m.trans r).trans k3
 refine Nb f (by simp) (Xc Y) (G5 Y) fun w4 u4 f=>?_
 rw[fa]
 have hS:=u4.stp hS l f.1
 have g:=g.upd u4 M
 refine Nb f (by simp) (Xc u) (G5 u) fun w5 u5 f=>?_
 rw[fa]
 have hS:=u5.stp hS l f.1
 have g:=g.upd u5 M
 refine Uh f rfl ?_
 refine Q8 R ?_
 refine D5 c.methods.length (fun n a w'=> ∃σ',Stp w σ w' σ'∧SLe σ3 σ'∧V8 w.heap.size T.c 7 M6 σ' w' a (c.methods.take n)∧Z5 σ' w' b [S c.name,S c.super,t8, .bool c.iface, .bool c.abs, .bool c.fin,ab,mv]∧Z5 σ' w' W [S [],S [], .slice none 0 0, .bool false, .bool false, .bool false, .slice none 0 0, .slice none 0 0]∧ ∀k,a.ownBlock=some k→k≠b∧k≠W)
  ⟨σ3,hS,SLe.refl _,V8.nil,f,g,fun k H=>by cases H⟩ fun n a w6 d hn hi=>?_
 obtain ⟨σ6,C,B,ha,f,g,j⟩:=hi
 refine Y8 ?_
 refine Q5 (fun hh=>?_) (fun hh=>?_)
 ·have z:n<c.methods.length:=by simpa using hh
  have aa:c.methods.length≤9223372036854775807:=by omega
  refine W6 (R.lift B) z fun p cs hl y Z=>?_
  refine Z1 C.sat hl y ?_
  refine Y4 C.sat (by rfl) y (Rep.one Z) fun q w7 σ7 o hq=>?_
  refine Z1 o.sat hq y ?_
  refine Q31 o.sat (Rep.up o.le Z) (s4 _ (List.getElem_mem z)) fun pv cv X w8 σ8 J av=>?_
  have O:=(Nxt.of_stp (D:=fun k=>a.ownBlock=some k) o).trans (Nxt.of_stp J)
  have an:=(ha.up o).up J
  have a3:=(f.nx O fun e=>(j _ e).1 rfl).lt
  have ay:=(g.nx O fun e=>(j _ e).2 rfl).lt
  refine Un ((C.trans o).trans J) an av rfl rfl rfl (by rw[List.length_take];omega) (by rw[List.length_take];omega) fun s v' w9 σ9 A am ak hat=>?_
  refine O3 ?_
  have A:=O.trans A
  refine Z6 aa z ⟨σ9,am,B.more A.le,?_,f.nx A fun e=>(j _ e).1 rfl,g.nx A fun e=>(j _ e).2 rfl,?_⟩
  ·rw[List.take_add_one,List.getElem?_eq_getElem z];exact ak
  ·intro k H
   rcases hat with hat | hat
   ·exact j k (hat▸H)
   ·have:=hat k H
    constructor<;>omega
 ·have z: ¬n<c.methods.length:=by simpa using hh
  rw[List.take_of_length_le (by omega)] at ha
  obtain ⟨σ7,N,Q,ae,E⟩:=ha.keep C
  have f:Z5 σ7 w6 b _:=⟨(E b fun e=>(j b e.symm).1 rfl).trans f.1,f.2⟩
  have g:Z5 σ7 w6 W _:=⟨(E W fun e=>(j W e.symm).2 rfl).trans g.1,g.2⟩
  rw[fa]
  refine Nb f (by simp) (Xc Q) (G5 Q) fun w7 u7 f=>?_
  have N:=u7.stp N l f.1
  have g:=g.upd u7 M
  refine Q6N f rfl ?_
  have Z:=U8.mk (Y.lift (B.more ⟨ae⟩)) (u.lift (B.more ⟨ae⟩)) Q g4 g5
  have ad:=Zc ao m
  refine sta g rfl rfl (by rw[List.all_toArray];exact List.all_eq_true.2 (Rep.one Z)) fun w8 u8 g=>?_
  have aj:=u8.stp N ad g.1
  refine W2 g rfl ?_
  exact h t8 ab a w8 σ7 aj Z)
end Go.Proofs.YtfppjenblllfaaaGreatDoor

namespace Go.Hm
open Go.Kd
def H3 {α:Type}:Nat→List α→List α
 | 0,xs=>xs
 | i+1,xs=>match (H3 i xs)[i]?,(H3 i xs)[xs.length-1-i]? with
  | some a,some b=>((H3 i xs).set i b).set (xs.length-1-i) a
  | _,_=>H3 i xs
theorem Ph {α:Type} (xs:List α): ∀i,2*i≤xs.length→(H3 i xs).length=xs.length∧ ∀k,k<xs.length→(H3 i xs)[k]? =if k<i∨xs.length-1-k<i then xs[xs.length-1-k]? else xs[k]?
 | 0,_=>⟨rfl,fun k m=>by simp[H3]⟩
 | i+1,h=>by
  obtain ⟨g,f⟩:=Ph xs i (by omega)
  have a:=f i (by omega)
  have b:=f (xs.length-1-i) (by omega)
  rw[if_neg (by omega)] at a b
  have n:i<xs.length:=by omega
  have c:xs.length-1-i<xs.length:=by omega
  rw[List.getElem?_eq_getElem (l:=xs) n] at a
  rw[List.getElem?_eq_getElem (l:=xs) c] at b
  simp only[H3,a,b]
  refine ⟨by simp[g],fun k m=>?_⟩
  by_cases d:k=xs.length-1-i
  ·subst d
   rw[List.getElem?_set_self (by simp[g];omega),if_pos (by omega)]
   rw[show xs.length-1-(xs.length-1-i)=i by omega,List.getElem?_eq_getElem (by omega)]
  ·rw[List.getElem?_set_ne (by omega)]
   by_cases e:k=i
   ·subst e
    rw[List.getElem?_set_self (by omega),if_pos (by omega),List.getElem?_eq_getElem (by omega)]
   ·rw[List.getElem?_set_ne (by omega),f k m]
    by_cases j:k<i∨xs.length-1-k<i
    ·rw[if_pos j,if_pos (by omega)]
    ·rw[if_neg j,if_neg (by omega)]
theorem Q80 {α:Type} (xs:List α) (i:Nat) (c:2*i≤xs.length) (e:xs.length≤2*i+1):H3 i xs=xs.reverse:=by
 obtain ⟨f,d⟩:=Ph xs i c
 apply List.ext_getElem?
 intro k
 by_cases b:k<xs.length
 ·rw[d k b,List.getElem?_reverse b]
  by_cases a:k<i∨xs.length-1-k<i
  ·rw[if_pos a]
  ·rw[if_neg a];congr 1;omega
 ·rw[List.getElem?_eq_none (by omega),List.getElem?_eq_none (by simp;omega)]
theorem Gz (L:Uu): ∀(f:Nat) (n:X0),(B0 L f n).length≤f
 | 0,_=>by simp[B0]
 | f+1,n=>by
  simp only[B0]
  split
  ·simp
  ·have:=Gz L f (by rename_i c _;exact c.super)
   simp only[List.length_cons];rename_i c _;have:=Gz L f c.super;omega
theorem Rh (l:List Cla) (n:X0):(chain l n).length≤l.length+1:=Gz _ _ _
theorem Tu {l:List Cla} {n:X0} {c:Cla} (h:c∈chain l n):c∈l:=by
 have key: ∀(f:Nat) (n:X0),c∈B0 (lk l) f n→c∈l:=by
  intro f
  induction f with
  | zero=>intro n h;simp[B0] at h
  | succ f a=>
   intro n h
   simp only[B0] at h
   split at h
   ·simp at h
   ·rename_i d b
    rcases List.mem_cons.1 h with rfl | h
    ·exact (U7 b).2.1
    ·exact a _ h
 exact key _ _ h
theorem Ui {α β:Type} (f:α→List β) (k:Nat): ∀(xs:List α),(∀x∈xs,(f x).length≤k)→(xs.flatMap f).length≤xs.length*k
 | [],_=>by simp
 | x::r,h=>by
  have b:=h x (by simp)
  have c:=Ui f k r fun y a=>h y (by simp[a])
  simp only[List.flatMap_cons,List.length_append,List.length_cons,Nat.add_mul];omega
end Go.Hm

namespace Go.Hm
open Go.Kd
def Y0 (l:List Cla) (i:Nat):X0:=(l.getD i Cla.zero).name
theorem Qy {l:List Cla} (b:I0 l) {i:Nat} (a:i<l.length):lk l (Y0 l i)=some (l.getD i Cla.zero):=by
 have e:l.getD i Cla.zero=l[i]:=by rw[List.getD_eq_getElem?_getD,List.getElem?_eq_getElem a];rfl
 unfold Y0
 rw[e];exact b.lk (List.getElem_mem a)
theorem C2 {l:List Cla} {u:X0} {j:Nat} (h:Y5 l u=some j):j<l.length∧Y0 l j=u:=by
 obtain ⟨a,b,_⟩:=List.findIdx?_eq_some_iff_getElem.1 h
 refine ⟨a,?_⟩
 unfold Y0
 rw[List.getD_eq_getElem?_getD,List.getElem?_eq_getElem a]
 simpa using b
theorem Q0g {l:List Cla} (d:Yp l) (f:I0 l) {i j:Nat} (e:i<l.length) {u:X0} (b:u∈J3 (l.getD i Cla.zero)) (a:Y5 l u=some j):G1 l (Y0 l j)<G1 l (Y0 l i):=by
 obtain ⟨c,g,_⟩:=Ji a
 rw[(C2 a).2]
 exact Xx d (Qy f e) b g
theorem Sq {α β:Type} {f g:β→α→β}: ∀(xs:List α) (b:β),(∀b x,x∈xs→f b x=g b x)→xs.foldl f b=xs.foldl g b
 | [],_,_=>rfl
 | x::r,b,h=>by
  rw[List.foldl_cons,List.foldl_cons,h b x (by simp)]
  exact Sq r _ fun b y a=>h b y (by simp[a])
theorem Xi {l:List Cla} {frm:Nat} (f:Nat) (out:List Nat) {i:Nat} (h:i<frm):Zf l frm f out i=out:=by
 cases f<;>simp[Zf,h]
theorem Q7T {l:List Cla} (k:Yp l) (e:I0 l) {frm:Nat} (a:0<frm): ∀(f g:Nat) (out:List Nat) (i:Nat),i<l.length→G1 l (Y0 l i)<f→G1 l (Y0 l i)<g→Zf l frm f out i=Zf l frm g out i:=by
 intro f
 induction f with
 | zero=>intro g out i _ h;omega
 | succ f n=>
  intro g out i o p q
  obtain ⟨g,rfl⟩: ∃m,g=m+1:=⟨g-1,by omega⟩
  simp only[Zf]
  split
  ·rfl
  ·split
   ·rfl
   ·congr 1
    refine Sq _ _ fun b u d=>?_
    cases c:Y5 l u with
    | none=>simp only[Option.getD_none];rw[Xi f b a,Xi g b a]
    | some j=>
     simp only[Option.getD_some]
     have:=Q0g k e o d c
     exact n g b j (C2 c).1 (by omega) (by omega)
def Qp (l:List Cla) (frm:Nat) (out:List Nat) (i:Nat):List Nat:=Zf l frm (l.length+1) out i
theorem Q6b {l:List Cla} (c:Yp l) (d:I0 l) {frm:Nat} (a:0<frm) (out:List Nat) {i:Nat} (g:i<l.length):Qp l frm out i=if i<frm then out else if i∈out then out else
 ((J3 (l.getD i Cla.zero)).foldl (fun out n=>Qp l frm out ((Y5 l n).getD 0)) out)++[i]:=by
 have h:=Q06 l (Y0 l i)
 unfold Qp
 rw[Zf]
 split
 ·rfl
 ·split
  ·rfl
  ·congr 1
   refine Sq _ _ fun b u f=>?_
   cases e:Y5 l u with
   | none=>simp only[Option.getD_none];rw[Xi _ b a,Xi _ b a]
   | some j=>
    simp only[Option.getD_some]
    have:=Q0g c d g f e
    exact Q7T c d a _ _ b j (C2 e).1 (by omega) (by omega)
theorem Ve {α:Type} {p:Nat→Prop} {f:List Nat→α→List Nat}: ∀(xs:List α) (b:List Nat),(∀b x,x∈xs→ ∀y∈f b x,y∈b∨p y)→ ∀y∈xs.foldl f b,y∈b∨p y
 | [],b,_=>fun y a=> .inl a
 | x::r,b,h=>fun y a=>by
  rw[List.foldl_cons] at a
  rcases Ve r _ (fun b z c=>h b z (by simp[c])) y a with h1 | h1
  ·exact h b x (by simp) y h1
  ·exact .inr h1
theorem Q3S {l:List Cla} (m:I0 l) {frm:Nat} (o:0<frm): ∀(f:Nat) (out:List Nat) (i:Nat),i<l.length→ ∀y∈Zf l frm f out i,y∈out∨(y<l.length∧(y=i∨Us (lk l) (Y0 l i) (Y0 l y))):=by
 intro f
 induction f with
 | zero=>intro out i _ y hy;exact .inl hy
 | succ f r=>
  intro out i g y hy
  simp only[Zf] at hy
  split at hy
  ·exact .inl hy
  ·split at hy
   ·exact .inl hy
   ·rcases List.mem_append.1 hy with hy | hy
    ·refine Ve (p:=fun y=>y<l.length∧(y=i∨Us (lk l) (Y0 l i) (Y0 l y))) _ _ (fun b u k y hy=>?_) y hy
     cases d:Y5 l u with
     | none=>
      rw[d] at hy
      simp only[Option.getD_none] at hy
      rw[Xi f b o] at hy
      exact .inl hy
     | some j=>
      rw[d] at hy
      simp only[Option.getD_some] at hy
      obtain ⟨e,a⟩:=C2 d
      obtain ⟨c,q,_⟩:=Ji d
      rcases r b j e y hy with h | ⟨n,rfl | h2⟩
      ·exact .inl h
      ·exact .inr ⟨n, .inr ⟨_,Qy m g,u,k,by rw[a];exact .refl q⟩⟩
      ·exact .inr ⟨n, .inr ⟨_,Qy m g,u,k,by rw[←a];exact h2.reach⟩⟩
    ·simp at hy;subst hy;exact .inr ⟨g, .inl rfl⟩
theorem Q1P {α:Type} {q:List Nat→Prop} {f:List Nat→α→List Nat}: ∀(xs:List α) (b:List Nat),(∀b x,x∈xs→q b→q (f b x))→q b→q (xs.foldl f b)
 | [],b,_,h=>h
 | x::r,b,a,h=>by
  rw[List.foldl_cons]
  exact Q1P r _ (fun b z c=>a b z (by simp[c])) (a b x (by simp) h)
def Am (l:List Cla) (out:List Nat):Prop:=out.Nodup∧ ∀y∈out,y<l.length
theorem Am.len {l:List Cla} {out:List Nat} (h:Am l out):out.length≤l.length:=by
 have key: ∀(n:Nat) (out:List Nat),out.Nodup→(∀y∈out,y<n)→out.length≤n:=by
  intro n
  induction n with
  | zero=>
   intro out _ h
   cases out with
   | nil=>simp
   | cons a r=>have:=h a (by simp);omega
  | succ n i=>
   intro out d h
   have j:=i (out.filter (fun y=> !decide (y=n))) (d.sublist List.filter_sublist) (fun y b=>by
    have:=List.mem_filter.1 b
    have k:=h y this.1
    have m:y≠n:=by simpa using this.2
    omega)
   have k:out.length≤(out.filter (fun y=> !decide (y=n))).length+1:=by
    clear j h
    induction out with
    | nil=>simp
    | cons a r c=>
     obtain ⟨g,f⟩:=List.nodup_cons.1 d
     by_cases e:a=n
     ·subst e
      have:r.filter (fun y=> !decide (y=a))=r:=List.filter_eq_self.2 fun y b=>by simp;rintro rfl;exact g b
      simp[this]
     ·have:=c f
      simp[e];exact this
   omega
 exact key _ _ h.1 h.2
theorem Gu {l:List Cla} (r:Yp l) (q:I0 l) {frm:Nat} (m:0<frm): ∀(f:Nat) (out:List Nat) (i:Nat),i<l.length→Am l out→Am l (Zf l frm f out i):=by
 intro f
 induction f with
 | zero=>intro out i _ h;exact h
 | succ f B=>
  intro out i w h
  simp only[Zf]
  split
  ·exact h
  ·split
   ·exact h
   ·rename_i t
    have z:Am l ((J3 (l.getD i Cla.zero)).foldl (fun out n=>Zf l frm f out ((Y5 l n).getD 0)) out):=by
     refine Q1P _ _ (fun b u o g=>?_) h
     cases d:Y5 l u with
     | none=>simp only[Option.getD_none];rw[Xi f b m];exact g
     | some j=>exact B b j (C2 d).1 g
    have s:i∉(J3 (l.getD i Cla.zero)).foldl (fun out n=>Zf l frm f out ((Y5 l n).getD 0)) out:=by
     intro k
     rcases Ve (p:=fun y=>Us (lk l) (Y0 l i) (Y0 l y)) _ _ (fun b u o y hy=>by
      cases d:Y5 l u with
      | none=>
       rw[d] at hy
       simp only[Option.getD_none] at hy
       rw[Xi f b m] at hy
       exact .inl hy
      | some j=>
       rw[d] at hy
       simp only[Option.getD_some] at hy
       obtain ⟨v,e⟩:=C2 d
       obtain ⟨c,A,_⟩:=Ji d
       rcases Q3S q m f b j v y hy with h | ⟨h1,rfl | h2⟩
       ·exact .inl h
       ·exact .inr ⟨_,Qy q w,u,o,by rw[e];exact .refl A⟩
       ·exact .inr ⟨_,Qy q w,u,o,by rw[←e];exact h2.reach⟩) i k with h1 | h1
     ·exact t h1
     ·exact r _ h1
    refine ⟨?_,fun y hy=>?_⟩
    ·rw[List.nodup_append]
     exact ⟨z.1,by simp,by rintro a r b g rfl;simp at g;subst g;exact s r⟩
    ·rcases List.mem_append.1 hy with hy | hy
     ·exact z.2 y hy
     ·simp at hy;omega
end Go.Hm

namespace Go.Emb
open Go.RowKit Go.Hm
variable {P : Program} {w w0 w1 w' w'' : World} {K : Value → World → Prop} {σ σ0 σ1 σ' : Q4}
def elA (sz:Nat) (v:Value) (i:Nat):Addr:=match v with
 | .slice (some b) _ _=>b.add (i*sz)
 | _=>⟨0,0,none⟩
section
variable {α : Type} {R : Q4 → α → List Value → Prop} {sz : Nat} {v : Value} {xs : List α}
theorem Sl.el (h:Sl sz R σ v xs) {i:Nat} (g:i<xs.length): ∃cs,Z2 σ (elA sz v i) cs∧cs.length=sz∧R σ xs[i] cs:=by
 obtain ⟨a,c,rfl,m,l,d,k⟩:=h
 cases a with
 | none=>have:=d rfl;omega
 | some b=>
  obtain ⟨cs,e,f,j⟩:=(k b rfl).2 i xs[i] (by simp[g])
  exact ⟨cs,e,f,j⟩
theorem U2 {t e:TypeId} {by_:Nat} {z:Value} [TS P t e] [TZ P e sz by_ z] (h:Sl sz R σ v xs) {i:Nat} (k:i<xs.length) (f:K (.pointer (some (elA sz v i))) w):indexAddr P t v (I i) w K:=by
 obtain ⟨a,c,rfl,j,g,d,l⟩:=h
 cases a with
 | none=>have:=d rfl;omega
 | some b=>
  rw[Cm (by omega) (by omega)]
  simpa [elA] using f
theorem Sl.elS {xs:List Kd.X0} (h:Sl 1 Y1 σ v xs) {i:Nat} (c:i<xs.length):Z2 σ (elA 1 v i) [S xs[i]]∧xs[i].length≤J0:=by
 obtain ⟨cs,b,d,rfl,a⟩:=h.el c;exact ⟨b,a⟩
theorem Sl.elF {xs:List Fld} (h:Sl 3 E5 σ v xs) {i:Nat} (c:i<xs.length):Z2 σ (elA 3 v i) [S xs[i].name,S xs[i].kind, .bool xs[i].tr]∧E5 σ xs[i] [S xs[i].name,S xs[i].kind, .bool xs[i].tr]:=by
 obtain ⟨cs,b,d,rfl,a⟩:=h.el c;exact ⟨b,rfl,a⟩
theorem Sl.elI {xs:List Ins} (h:Sl 3 C9 σ v xs) {i:Nat} (c:i<xs.length):Z2 σ (elA 3 v i) [S xs[i].op,I xs[i].n,S xs[i].s]∧C9 σ xs[i] [S xs[i].op,I xs[i].n,S xs[i].s]:=by
 obtain ⟨cs,b,d,rfl,a⟩:=h.el c;exact ⟨b,rfl,a⟩
theorem Sl.elK {xs:List Cat} (h:Sl 4 Zt σ v xs) {i:Nat} (c:i<xs.length):Z2 σ (elA 4 v i) [I xs[i].frm,I xs[i].to,I xs[i].at_,S xs[i].cls]∧Zt σ xs[i] [I xs[i].frm,I xs[i].to,I xs[i].at_,S xs[i].cls]:=by
 obtain ⟨cs,b,d,rfl,a⟩:=h.el c;exact ⟨b,rfl,a⟩
theorem Sl.conv {α β:Type} {R:Q4→α→List Value→Prop} {f:Q4→β→List Value→Prop} {sz:Nat} {v:Value} {xs:List α} {ys:List β} (h:Sl sz R σ v xs) (g:ys.length=xs.length) (o: ∀i (k:i<xs.length) (u:i<ys.length) cs,R σ xs[i] cs→f σ ys[i] cs):Sl sz f σ v ys:=by
 obtain ⟨a,d,rfl,r,p,l,j⟩:=h
 refine ⟨a,d,by rw[g],by rw[g];exact r,p,l,fun b e=>⟨fun t=>(j b e).1 (by omega),fun i x s=>?_⟩⟩
 obtain ⟨k,rfl⟩:=List.getElem?_eq_some_iff.1 s
 have c:i<xs.length:=by omega
 obtain ⟨cs,n,m,q⟩:=(j b e).2 i xs[i] (List.getElem?_eq_getElem c)
 exact ⟨cs,n,m,o i c k cs q⟩
theorem Sl.elM {xs:List Hm.Met} (h:Sl 7 M6 σ v xs) {i:Nat} (e:i<xs.length): ∃pv b a,Z2 σ (elA 7 v i) [S xs[i].name,pv,S xs[i].result, .bool xs[i].abs,I xs[i].locals,b,a]∧M6 σ xs[i] [S xs[i].name,pv,S xs[i].result, .bool xs[i].abs,I xs[i].locals,b,a]:=by
 obtain ⟨cs,d,f,pv,b,a,rfl,c⟩:=h.el e;exact ⟨pv,b,a,d,pv,b,a,rfl,c⟩
theorem Sl.elC {xs:List Cla} (h:Sl 8 U8 σ v xs) {i:Nat} (e:i<xs.length): ∃b a mv,Z2 σ (elA 8 v i) [S xs[i].name,S xs[i].super,b, .bool xs[i].iface, .bool xs[i].abs, .bool xs[i].fin,a,mv]∧U8 σ xs[i] [S xs[i].name,S xs[i].super,b, .bool xs[i].iface, .bool xs[i].abs, .bool xs[i].fin,a,mv]:=by
 obtain ⟨cs,d,f,b,a,mv,rfl,c⟩:=h.el e;exact ⟨b,a,mv,d,b,a,mv,rfl,c⟩
end
theorem U6 {b:World→World→Prop} {A a:(Value→World→Prop)→Prop} {V:Value} (h:A (fun v _=>V=v)) (c:a (fun v _=>V=v)):Q7 b A a:=W9 _ (fun _ _ _ h _=>h) h c
theorem N4 {v V:Value} (h:V=v):dk (fun w w'=>Below w.heap.size w w') (fun v _=>V=v) w v w:=⟨Below.refl _ _,h⟩
theorem Zw {v V:Value} (a:Below w.heap.size w w') (h:V=v):dk (fun w w'=>Below w.heap.size w w') (fun v _=>V=v) w v w':=⟨a,h⟩
theorem Vz {c b:Bool} {V:Value} {a:World→(Value→World→Prop)→Prop} (h:c=b→a w (dk (fun w w'=>Below w.heap.size w w') (fun v _=>V=v) w)):Q0 (.bool c) b w a (dk (fun w w'=>Below w.heap.size w w') (fun v _=>(if c=b then V else undef)=v) w):=by
 by_cases e:c=b
 ·simp only[e,if_true]
  subst e
  have:=h rfl
  cases c
  ·rw[Uz];exact this
  ·rw[I8];exact this
 ·have d:c= !b:=by cases c<;>cases b<;>simp_all
  rw[if_neg e];subst d
  cases b
  ·rw[Bool.not_false,Pq];exact ⟨Below.refl _ _,rfl⟩
  ·rw[Bool.not_true,Ub];exact ⟨Below.refl _ _,rfl⟩
theorem Qt {p:Prop} (hq:p:=by intros;(repeat (rename_i hx;subst hx));(repeat' (first | (with_reducible exact N4 rfl) | (with_reducible exact Zw (Stp.bel (by (repeat (first | exact Stp.refl (by (first | assumption | exact Stp.sat (by assumption) | exact Hst.sat (by assumption))) | assumption | refine Stp.trans ?_ (by first | assumption | exact Hst.stp (by assumption)))))) rfl) | (with_reducible intro _) | (simp only[↓M2,M2,Mb,reduceIte]) | (with_reducible show Q2 _ _ _ _ _;first | refine X7 aS aL aR ?_ | refine Z1 aS aL aR ?_ | refine ld aS aL aR ?_) | (with_reducible show indexAddr _ _ _ _ _ _;refine U2 aL au ?_) | (with_reducible show X5 _ _ _ _ _ _ _ _;refine Q8 aL ?_) | (with_reducible show We _ _ _ _ _ _;refine V4 aR ?_) | (with_reducible show pick _ _ _ _ _ _;refine Jw ?_) | (apply Vz;intro hh;(try simp only[hh,reduceIte,↓M2,M2,Mb,reduceIte]))));done):p:=hq
end Go.Emb

namespace Go.Emb
open Go.RowKit Go.Hm
variable {P : Program} {w w0 w1 w' w'' : World} {K : Value → World → Prop} {σ σ0 σ1 σ' : Q4}
section
variable {α : Type} {R : Q4 → α → List Value → Prop} {B sz : Nat} {e : TypeId} {v u : Value} {xs ys : List α}
def Emp (v:Value):Prop:= ∃a,v= .slice a 0 0
theorem X0H {t y:TypeId} {by_:Nat} {z:Value} {cs:List Bool} [ts:TS P t e] [tz:TZ P e sz by_ z] [hr:Rep R] (hS:Stp w0 σ0 w σ) (ha:V8 w0.heap.size e sz R σ w v []) (hv:Emp v) (E:X4 w σ') (U:Sl sz R σ' u ys) (hR: ∀x cs,R σ' x cs→R σ x cs) (Y:(z.cells.size==sz&&decide (0<sz))=true)
 (hb:ys.length*by_≤140737488355328) (hm:ys.length≤1000000000000)
 (h: ∀j w',Stp w σ w' σ→V8 w0.heap.size e sz R σ w' j ys→K j w'):X5 P .append [t,t] y cs [v,u] w K:=by
 obtain ⟨l,rfl⟩:=hv
 have M:=hS.sat
 obtain ⟨a,d,c,rfl,n1,p,n3,n4,n5⟩:=U.cells E
 obtain ⟨i,Z,J,L,n⟩:=tz.info
 simp only[Bool.and_eq_true,beq_iff_eq,decide_eq_true_eq] at Y
 obtain ⟨H,ag⟩:=Y
 have g:Src P i.size t (.slice a ys.length d) ys.length c w:=by
  cases a with
  | some b=>exact Src.ofSlice w ts.h b ys.length d c (by rw[J];exact p) (n3 b rfl) n4
  | none=>
   have q:ys.length=0:=by
    obtain ⟨X,V,e',q1,_,q3,_⟩:=U;injection e' with e1 e2 e3;have:=n1 rfl;omega
   have C:c=[]:=List.eq_nil_of_length_eq_zero (by rw[p,q];simp)
   subst C
   rw[q];exact Src.ofNil w ts.h d
 have s: ∀j w',(Builtin.append_ #[t,t] y #[.slice l 0 0, .slice a ys.length d]).run P w= .ok j w'→Stp w σ w' σ→V8 w0.heap.size e sz R σ w' j ys→X5 P .append [t,t] y cs [.slice l 0 0, .slice a ys.length d] w K:=by
  intro j w' f O hq
  have o:(builtin .append #[t,t] y cs.toArray #[.slice l 0 0, .slice a ys.length d]).run P w= .ok (.value j) w':=by
   simp[builtin,f]
  unfold X5
  rw[Xb];unfold Qf
  rw[o]
  exact h j w' O hq
 by_cases q:ys=[]
 ·subst q
  have C:c=[]:=List.eq_nil_of_length_eq_zero (by simpa using p)
  subst C
  refine s (.slice l 0 0) w ?_ (Stp.refl M) ha
  have W:=g.len w
  have r:=g.cells
  simp only[List.length_nil] at W r⊢
  cases l<;>simp[Builtin.append_,run_underlying ts.h,sizeOf,typeInfo,Z,W,r,storeCells]
 ·have ah:0<ys.length:=List.length_pos_iff.2 q
  have m:(Builtin.firstCells i.size 0 (.slice l 0 0)).run P w.drew= .ok (#[]:Array Value) w.drew:=by
   cases l with
   | none=>exact run_firstCells_none w.drew i.size 0 0 0
   | some X=>exact run_firstCells_some w.drew i.size 0 X 0 0 [] (by simp) (by intro _ _ h';simp at h')
  have Q:0<0+ys.length:=by omega
  have f:=run_append_grow_src (P:=P) w t t y e i z ts.h Z n l 0 0 [] m (.slice a ys.length d) ys.length c g Q (by omega) (growslice_fits Q (by rw[L,Nat.zero_add];exact hb))
  simp only[Nat.zero_add] at f
  have D:=grownCap_le_maxLen w ys.length 0 e (by simp only[maxLen];omega)
  have N:=grownCap_ge w ys.length 0 e
  refine s _ _ f (Stp.of_below M ((Below.refl _ _).drew.alloc (Nat.le_refl _) _)) ⟨c,⟨p, .inr ⟨w.heap.size,_,_,rfl,hS.bel.size,heap_alloc_new w.drew _,N,D,?_,?_⟩⟩,?_,fun i x hx=>hR _ _ (n5 i x hx)⟩
  ·simp only[List.nil_append]
   rw[Array.size_append,List.size_toArray,p,size_zeroCells,H,←Nat.add_mul]
   congr 1;omega
  ·simp only[List.nil_append]
   rw[Array.toList_append]
   rw[List.take_append_of_le_length (by simp only[List.toList_toArray];omega),List.take_of_length_le (by simp only[List.toList_toArray];omega)]
  ·intro k O;cases O;exact M.none (Nat.le_refl _)
end
def Q9z {α:Type} (w0:World) (σ:Q4) (e:TypeId) (sz:Nat) (R:Q4→α→List Value→Prop) (xs:List α) (v:Value) (w':World):Prop:=Stp w0 σ w' σ∧V8 w0.heap.size e sz R σ w' v xs
def Q6Z {α:Type} (w0:World) (σ:Q4) (e:TypeId) (sz:Nat) (R:Q4→α→List Value→Prop) (v:Value) (w':World):Prop:=Stp w0 σ w' σ∧V8 w0.heap.size e sz R σ w' v ([]:List α)∧Emp v
section
variable {α : Type} {R : Q4 → α → List Value → Prop} {sz : Nat} {e : TypeId} {v u : Value} {xs ys : List α} {A rest : (Value → World → Prop) → Prop}
theorem Q2i [Rep R] (xs:List α) (h:A (Q9z w σ e sz R xs)) (d:rest (Q9z w σ e sz R xs)):Q7 (fun w w'=>Below w.heap.size w w') A rest:=
 W9 _ (fun _ _ _ ⟨a,c⟩ b=>⟨a.trans (Stp.of_below a.sat b),c.up (Stp.of_below a.sat b)⟩) h d
theorem X0W [Rep R] (h:A (Q6Z w σ e sz R)) (f:rest (Q6Z w σ e sz R)):Q7 (fun w w'=>Below w.heap.size w w') A rest:=
 W9 _ (fun _ _ _ ⟨a,d,c⟩ b=>⟨a.trans (Stp.of_below a.sat b),d.up (Stp.of_below a.sat b),c⟩) h f
theorem Q4S (a:Hst w σ w1 σ) (h:Stp w1 σ w' σ) (b:V8 w.heap.size e sz R σ w' v xs):dk (fun w w'=>Below w.heap.size w w') (Q9z w σ e sz R xs) w1 v w':=⟨h.bel,a.stp.trans h,b⟩
theorem X1F (b:Hst w σ w1 σ) (h:Stp w1 σ w' σ) (c:V8 w.heap.size e sz R σ w' v ([]:List α)) (a:Emp v):dk (fun w w'=>Below w.heap.size w w') (Q6Z w σ e sz R) w1 v w':=⟨h.bel,b.stp.trans h,c,a⟩
theorem Tm {t:TypeId} {by_:Nat} {z:Value} [ts:TS P t e] [tz:TZ P e sz by_ z] (R:Q4→α→List Value→Prop) (b:Stp w0 σ0 w σ) (g:0<sz)
 (h: ∀v w',Stp w σ w' σ→V8 w0.heap.size e sz R σ w' v ([]:List α)→Emp v→K v w'):buildSlice P t 0 [] w K:=by
 obtain ⟨cells,d,f⟩:=Oz (P:=P) (t:=t) (sz:=sz) (e:=e) [] (by simp) (by simp) w
 unfold buildSlice
 have a:(Instr.buildSlice t 0 ([]:List (Nat×Value)).toArray).run P w=_:=d
 rw[X9 a]
 refine h _ _ (Stp.own b.sat _) ⟨[],⟨by simp, .inr ⟨_,_,cells,rfl,b.bel.size,heap_alloc_new w _,by simp,by simp[maxLen],?_,by simp⟩⟩,?_,by simp⟩ ⟨_,rfl⟩
 ·have:cells.size=0:=by rw[←Array.length_toList,f];rfl
  simp[this]
 ·intro k c;cases c;exact b.sat.none (Nat.le_refl _)
theorem Q71 [Rep R] {t:TypeId} {by_:Nat} {z:Value} [ts:TS P t e] [tz:TZ P e sz by_ z] (a:(decide (0<sz))=true) (f:rest (Q6Z w σ e sz R)):
 Q7 (fun w w'=>Below w.heap.size w w') (fun φ=> ∀w1:World,Hst w σ w1 σ→buildSlice P t 0 [] w1 (dk (fun w w'=>Below w.heap.size w w') φ w1)) rest:=
 X0W (fun w1 b=>Tm R b.stp (by simpa using a) fun v w' g d c=>X1F b g d c) f
end
theorem U8.parts {c:Cla} {a b j d e f i mv:Value} (h:U8 σ c [a,b,j,d,e,f,i,mv]):Sl 1 Y1 σ j c.like∧Sl 3 E5 σ i c.fields∧Sl 7 M6 σ mv c.methods∧c.name.length≤J0∧c.super.length≤J0:=by
 obtain ⟨_,_,_,g,k⟩:=h
 simp only[List.cons.injEq,and_true] at g
 obtain ⟨_,_,rfl,_,_,_,rfl,rfl⟩:=g
 exact k
theorem M6.parts {m:Hm.Met} {a pv b d e g f:Value} (h:M6 σ m [a,pv,b,d,e,g,f]):Sl 1 Y1 σ pv m.params∧Sl 3 C9 σ g m.code∧Sl 4 Zt σ f m.catches∧m.name.length≤J0∧m.result.length≤J0∧Et m.locals:=by
 obtain ⟨_,_,_,c,i⟩:=h
 simp only[List.cons.injEq,and_true] at c
 obtain ⟨_,rfl,_,_,_,rfl,rfl⟩:=c
 exact i
end Go.Emb

namespace Go.Emb
open Go.RowKit
variable {P : Program} {w : World} {K : Value → World → Prop}
end Go.Emb
namespace Go.Proofs.YtfppjenblllfaaaGreatDoor
open Go.Emb Go.RowKit Go.Kd Go.Hm
variable {w : World} {K : Value → World → Prop} {σ : Q4}
end Go.Proofs.YtfppjenblllfaaaGreatDoor

namespace Go.Proofs.YtfppjenblllfaaaGreatDoor
open Go.Emb Go.RowKit Go.Kd
variable {w : World} {K : Value → World → Prop}
theorem X17 {a:List UInt8} (h:D7 a=true):Kd.cutA a++[91,93]=a:=by
 simp only[D7,Bool.and_eq_true,decide_eq_true_eq] at h
 rw[←h.2,Kd.cutA,List.take_append_drop]
theorem Q0n {a:List UInt8} (h:name a=true):D7 a=false:=by
 cases a with
 | nil=>rfl
 | cons c r=>
  cases b:D7 (c::r) with
  | false=>rfl
  | true=>
   exfalso
   simp only[name,Bool.and_eq_true,List.all_eq_true] at h
   have d:=X17 b
   have:(93:UInt8)∈(c::r):=by rw[←d];simp
   have:=h.2 _ this
   revert this;decide
theorem Q81 {a:List UInt8} (h:name a=true):base a=(a,0):=by rw[Zx,Q0n h];simp
theorem clas_name {a:List UInt8} (h:W3 a=true):name a=true∧right a=true∧plain a=false:=by
 cases a with
 | nil=>simp[W3] at h
 | cons c r=>
  have b:name (c::r)=true:=by simp only[W3,Bool.and_eq_true] at h;exact h.1
  refine ⟨b,?_,?_⟩
  ·rw[right,Q81 b];simp[h]
  ·simp only[W3,Bool.and_eq_true] at h
   have d:=h.2
   simp only[plain,Bool.or_eq_false_iff,decide_eq_false_iff_not]
   refine ⟨⟨?_,?_⟩,?_⟩<;>intro e<;>injection e with f e2<;>subst f<;>revert d<;>decide
end Go.Proofs.YtfppjenblllfaaaGreatDoor

namespace Go.Emb
open Go.RowKit Go.Hm
section
variable {P : Program} {w w0 w1 w' w'' : World} {K : Value → World → Prop} {σ σ0 σ1 σ' : Q4}
theorem Q3t (a:Array Value) (n i:Nat) (g:i<n) (k:0<a.size):((madeCells a (n*a.size)).toList.drop (i*a.size)).take a.size=a.toList:=by
 have d:i*a.size+a.size≤n*a.size:=by rw[←Nat.succ_mul];exact Nat.mul_le_mul_right _ g
 refine List.ext_getElem (by simp[madeCells];omega) fun j h f=>?_
 have c:j<a.size:=by simpa using f
 simp only[List.getElem_take,List.getElem_drop,madeCells,Array.toList_map,List.getElem_map,Array.toList_range,List.getElem_range,Array.getElem_toList]
 have:(i*a.size+j) % a.size=j:=by rw[Nat.add_comm,Nat.add_mul_mod_self_right];exact Nat.mod_eq_of_lt c
 rw[this]
 simp[c]
theorem X24 {α:Type} {R:Q4→α→List Value→Prop} {t e:TypeId} {sz by_ n:Nat} {z:Value} [ts:TS P t e] [tz:TZ P e sz by_ z] (p:α) (s:X4 w σ) (D:z.cells.size=sz) (d:0<sz) (A:R σ p z.cells.toList) (H:n*sz≤16777216) (J:by_*n≤281474976710656)
 (h: ∀v w',Stp w σ w' σ→V8 w.heap.size e sz R σ w' v (List.replicate n p)→(∀k,v.ownBlock=some k→w.heap.size≤k)→K v w'):Nn P t (I n) (I n) w K:=by
 obtain ⟨i,E,c,o,a⟩:=tz.info
 have m:(i.bytes:Int)*(n:Int)≤281474976710656:=by
  rw[o]
  have:((by_*n:Nat):Int)≤281474976710656:=by omega
  rwa [Int.natCast_mul] at this
 have C:n≤16777216:=by
  have:n*1≤n*sz:=Nat.mul_le_mul_left _ d
  omega
 have g:=run_makeSlice (P:=P) w t e i z ts.h E a .i64 .i64 (n:Int) (n:Int) (by omega) (Int.le_refl _) (by rw[c];simp only[Int.toNat_natCast];omega) m (by omega)
 unfold Nn
 rw[X9 g]
 simp only[Int.toNat_natCast,c]
 refine h _ _ (Stp.own s _) ⟨(madeCells z.cells (n*sz)).toList,⟨by simp[madeCells], .inr ⟨w.heap.size,n,madeCells z.cells (n*sz),?_,Nat.le_refl _,heap_alloc_new w _,?_,?_,?_,?_⟩⟩,?_,fun j x f=>?_⟩ ?_
 ·simp
 ·simp
 ·simp[maxLen];omega
 ·simp[madeCells]
 ·rw[List.take_of_length_le (by simp[madeCells])]
 ·intro k q;cases q;exact s.none (Nat.le_refl _)
 ·have r:j<n:=by have:=(List.getElem?_eq_some_iff.1 f).1;simpa using this
  have l:x=p:=by
   rw[List.getElem?_replicate] at f
   rw[if_pos r] at f
   exact (Option.some.inj f).symm
  subst l
  subst D
  rw[Q3t z.cells n j r d]
  exact A
 ·intro k q;cases q;exact Nat.le_refl _
end
section
variable {α : Type} {R : Q4 → α → List Value → Prop} {B sz : Nat} {e : TypeId} {v u : Value} {xs : List α} {w w' w0 : World} {σ σ' σ0 : Q4}
theorem U5.shiftR [hr:Rep R] (h:U5 B e sz R σ w v xs) (r:SLe σ σ') (m: ∀k,v.ownBlock=some k→σ' k=none):U5 B e sz R σ' w v xs:=by
 obtain ⟨a,l,rfl,t,A,c,s⟩:=h
 refine ⟨a,l,rfl,t,A,fun b d=>⟨(c b d).1,(c b d).2.1,(c b d).2.2.1,by subst d;exact m _ rfl⟩,fun q=>?_⟩
 obtain ⟨g,f,j,rfl,p,E,o,z,C⟩:=s q
 exact ⟨g,f,j,rfl,p,m g rfl,o,z,fun i x D=>hr.up r.le (C i x D)⟩
def Q9Z (w:World):World:={w with heap:= #[]}
theorem Q99 (a:X4 w σ):Stp (Q9Z w) (fun _=>none) w σ:=
 ⟨⟨rfl,rfl,rfl,Nat.zero_le _,fun k d=>absurd d (Nat.not_lt_zero k)⟩,a,fun _ _ h=>(by cases h),fun b c=>absurd c (Nat.not_lt_zero b)⟩
theorem U5.freeze [hr:Rep R] (g:X4 w σ) (h:U5 B e sz R σ w v xs): ∃σ',X4 w σ'∧SLe σ σ'∧Sl sz R σ' v xs∧ ∀k,some k≠v.ownBlock→σ' k=σ k:=by
 obtain ⟨σ',c,f,d,a⟩:=(h.mono (Nat.zero_le B):U5 (Q9Z w).heap.size e sz R σ w v xs).keep (Q99 g)
 exact ⟨σ',c.sat,d,f,a⟩
end
section
variable {P : Program} {w w0 w1 w' w'' : World} {K : Value → World → Prop} {σ σ0 σ1 σ' : Q4}
theorem Z2.tail {q:Addr} {xs ys:List Value} (h:Z2 σ q (xs++ys)):Z2 σ (q.add xs.length) ys:=by
 obtain ⟨d,a,e,z,g,f⟩:=h
 cases xs with
 | nil=>exact ⟨by simp[Addr.add,d],a,e,z,by simpa [Addr.add] using g,fun i u c=>by simpa [Addr.add] using f i u c⟩
 | cons x xs=>
  refine ⟨by simp[Addr.add,d],a,e,z,by simpa [Addr.add] using g,fun i u c=>?_⟩
  have:=f ((x::xs).length+i) u (by rw[List.getElem?_append_right (by omega)];simpa using c)
  simpa [Addr.add,Nat.add_assoc] using this
theorem U5.down {α:Type} {R:Q4→α→List Value→Prop} {B sz:Nat} {e:TypeId} {v:Value} {xs:List α} (h:U5 B e sz R σ' w v xs) (s:SLe σ σ') (H: ∀x cs,R σ' x cs→R σ x cs):U5 B e sz R σ w v xs:=by
 obtain ⟨a,l,rfl,A,D,c,t⟩:=h
 have m: ∀k,σ' k=none→σ k=none:=fun k L=>by
  cases e:σ k with
  | none=>rfl
  | some o=>have:=s.le k o e;rw[L] at this;cases this
 refine ⟨a,l,rfl,A,D,fun b d=>⟨(c b d).1,(c b d).2.1,(c b d).2.2.1,m _ (c b d).2.2.2⟩,fun r=>?_⟩
 obtain ⟨g,f,j,rfl,q,z,p,C,E⟩:=t r
 exact ⟨g,f,j,rfl,q,m _ z,p,C,fun i x J=>H _ _ (E i x J)⟩
end
section
variable {P : Program} {w w' w0 : World} {σ σ0 : Q4} {α : Type} {R : Q4 → α → List Value → Prop} {sz : Nat} {e : TypeId} {v u : Value} {xs : List α} {y : α}
end
end Go.Emb
namespace Go.Emb
open Go.RowKit Go.Hm
variable {P : Program} {w w0 w1 w' w'' : World} {K : Value → World → Prop} {σ σ0 σ1 σ' : Q4} {b n : Nat} {ds : List Value} {v V : Value}
structure VarT (b : Nat) (ds : List Value) (w w' : World) : Prop where
  kp : Kpt (fun j => j = b) w w'
  var : (b < w.heap.size → w'.heap[b]? = w.heap[b]?) ∨ ∃ e, w'.heap[b]? = some (.cells ds.toArray e (0, 0))
structure VarB (w0 : World) (σ0 : Q4) (w1 : World) (σ : Q4) (b n : Nat) (w' : World) : Prop where
  hst : Hst w0 σ0 w' σ
  kp : Kpt (fun j => j = b) w1 w'
  var : ∃ cs, cs.length = n ∧ Z5 σ w' b cs
theorem VarT.of_below (h:Below w.heap.size w w'):VarT b ds w w':=⟨.of_below h, .inl fun a=>h.block b a⟩
theorem VarT.of_upd (h:Upd w b w') (a:Z5 σ w' b ds):VarT b ds w w':=⟨.of_upd h rfl, .inr a.2⟩
theorem VarB.step (f:w0.heap.size≤b) (d:ds.length=n) (h:VarB w0 σ0 w1 σ b n w) (k:VarT b ds w w'):VarB w0 σ0 w1 σ b n w':=by
 obtain ⟨cs,c,a⟩:=h.var
 refine ⟨⟨h.hst.stp.kp k.kp fun j g=>by subst g;exact ⟨f,a.1⟩⟩,h.kp.trans k.kp,?_⟩
 rcases k.var with e | e
 ·exact ⟨cs,c,a.1,by rw[e a.lt];exact a.2⟩
 ·exact ⟨ds,d,a.1,e⟩
theorem X1t {A:(World→World→Prop)→(World→Prop)→Prop} (ds:List Value) {cs:List Value} (a:Stp w0 σ0 w σ) (i:w0.heap.size≤b) (f:Z5 σ w b cs) (g:cs.length=n) (j:ds.length=n)
 (h:A (VarT b ds) (VarB w0 σ0 w σ b n)):dr w A:=
 Q0b _ _ ⟨⟨a.trans (Stp.of_below a.sat (Below.refl _ _).drew)⟩, .of_below (Below.refl _ _).drew,cs,g,f⟩ (fun _ _ c d=>c.step i j d) h
theorem By (h:V=v):dk (VarT b ds) (fun v _=>V=v) w v w:=⟨.of_below (Below.refl _ _),h⟩
theorem Q9D {t:TypeId} {by_:Nat} {z:Value} [tz:TZ P t n by_ z] {a:(List Value→Value→World→Prop)→Prop} {φ:Value→World→Prop} (g:ds.length=n) (o: ∀u∈ds,u.oneCell'=true) (m: ∀v w,φ v w→ .agg ds.toArray=v)
 (i:a (fun _ _ w=>Z5 σ w b ds)) (d:σ b=none):Q16 (VarT b ds) (fun F=> ∀x w,VarB w0 σ0 w1 σ b n w→φ x w→Z4 P t (.pointer (some ⟨b,0,none⟩)) x w (dk (VarT b ds) (F [x]) w)) a:=by
 refine Q6m _ (fun xs v w w' h k=>?_) (fun x w f q=>?_) i
 ·rcases k.var with e | e
  ·exact ⟨d,by rw[e h.lt];exact h.2⟩
  ·exact ⟨d,e⟩
 ·have:=m x w q
  subst this
  obtain ⟨cs,p,l⟩:=f.var
  exact sta l p g (by rw[List.all_toArray];exact List.all_eq_true.2 o) fun w' j c=>⟨.of_upd j c,c⟩
theorem VarB.hs (h:VarB w0 σ0 w1 σ b n w):Hst w0 σ0 w σ:=h.hst
end Go.Emb
