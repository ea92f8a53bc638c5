/- Parts of a proof about the given program: its functions as texts of their own, what each computes, plain laws of that. The conditions of each stand in its statement. -/
import Derived.Test.YtfppjenblllfaaaGreatDoorB2
import Derived.ChangeArms
import Derived.DataReads
import Derived.SizedLaws
import Derived.Deep.AppendSrc
import Derived.Laws.StructEq
import Derived.Test.YtfppjenblllfaaaGreatDoorB1
import Derived.Laws.OwnMore
import Derived.Laws.CopyRow
set_option linter.unnecessarySimpa false
set_option linter.defProp false
set_option linter.unusedSectionVars false
set_option linter.unusedVariables false
set_option linter.unusedSimpArgs false
namespace Go.Emb
open Go.RowKit Go.Hm
variable {H : Type} {enc : TypeId × Value → H} {P : Program} {W : World} {t : TypeId} {cs : List Value} {fuel : Nat} {x : DataW H × List MemPlace}
def Ug (W:World):Q4:=fun b=>W.heap[b]?
theorem Q7Y:X4 W (Ug W):=fun b o h=>h
def Wt (P:Program) (t:TypeId) (d:DataW H):Prop:= ∀n∈d.weights P t,n≤reachBytes
theorem X0u {a:Addr} {n:Nat} (h:W.cells? 0 a n=some cs) (D:0<n):cs.length=n∧Z2 (Ug W) a cs:=by
 obtain ⟨_,l,s⟩:=World.cells?_some h
 refine ⟨l,?_⟩
 have key: ∀i v,cs[i]? =some v→ ∃H5 e f,W.heap[a.block]? =some (.cells H5 e f)∧(a.add i).spot=none∧H5[a.off+i]? =some v:=by
  intro i v g
  have C:i<cs.length:=(List.getElem?_eq_some_iff.1 g).1
  have b:=s i (by omega)
  rw[g] at b
  unfold World.cell? at b
  rw[C1,Xq] at b
  cases k:W.heap[a.block]? with
  | none=>rw[k] at b;cases b
  | some o=>
   rw[k] at b
   cases o with
   | cells H5 e f=>
    simp only at b
    split at b
    ·cases b
    ·rename_i u
     exact ⟨H5,e,f,rfl,by simpa using u,b⟩
   | _=>cases b
 cases j:cs with
 | nil=>subst j;simp at l;omega
 | cons c r=>
  obtain ⟨H5,e,f,m,q,A⟩:=key 0 c (by rw[j];rfl)
  refine ⟨by simpa [Addr.add] using q,H5,e,f,m,fun i v g=>?_⟩
  obtain ⟨p,z,y,d,B,w⟩:=key i v (by rw[j];exact g)
  rw[m] at d
  injection d with d
  injection d with d
  subst d
  exact w
theorem X1P (b:P.underlying t=some .string) (h:DataW.trod enc P W 0 (fun _=>true) true fuel t cs=some x) (a:Wt P t x.1): ∃s:Kd.X0,cs=[S s]∧s.length≤J3:=by
 obtain ⟨⟨⟨s⟩⟩,rfl,rfl,_⟩:=DataW.trod_string b h
 refine ⟨s,rfl,?_⟩
 have:=a s.length (by simp[DataW.weights])
 exact this
theorem X0L (a:P.underlying t=some .bool) (h:DataW.trod enc P W 0 (fun _=>true) true fuel t cs=some x): ∃b,cs=[.bool b]:=by
 obtain ⟨b,c,_⟩:=DataW.trod_bool a h;exact ⟨b,c⟩
theorem X0S {α:Type} {Q:Nat→α→Prop}: ∀(n:Nat),(∀i,i<n→ ∃y,Q i y)→ ∃xs:List α,xs.length=n∧ ∀i y,xs[i]? =some y→Q i y:=by
 intro n
 induction n with
 | zero=>intro _;exact ⟨[],rfl,by simp⟩
 | succ n c=>
  intro h
  obtain ⟨xs,d,f⟩:=c fun i b=>h i (by omega)
  obtain ⟨y,e⟩:=h n (by omega)
  refine ⟨xs++[y],by simp[d],fun i z a=>?_⟩
  by_cases b:i<xs.length
  ·rw[List.getElem?_append_left b] at a;exact f i z a
  ·rw[List.getElem?_append_right (by omega)] at a
   have:i-xs.length=0:=by
    have:=(List.getElem?_eq_some_iff.1 a).1
    simp at this;omega
   rw[this] at a
   simp at a
   subst a
   rw[show i=n by omega];exact e
theorem X1C {e:TypeId} {d:DataW H}: ∀{l:List (DataW H)},d∈l→ ∀n∈d.weights P e,n∈DataW.weightsAll P e l:=by
 intro l
 induction l with
 | nil=>intro h;simp at h
 | cons a r c=>
  intro h n b
  simp only[DataW.weightsAll,List.mem_append]
  rcases List.mem_cons.1 h with rfl | h
  ·exact .inl b
  ·exact .inr (c h n b)
theorem X08 {α:Type} {R:Q4→α→List Value→Prop} {e:TypeId} {sz:Nat} (z:P.underlying t=some (.slice e)) (L:P.cellsOf e=sz) (D:0<sz)
 (r: ∀fuel cs (x:DataW H×List MemPlace),DataW.trod enc P W 0 (fun _=>true) true fuel e cs=some x→Wt P e x.1→ ∃y,R (Ug W) y cs)
 (h:DataW.trod enc P W 0 (fun _=>true) true fuel t cs=some x) (O:Wt P t x.1): ∃v xs,cs=[v]∧Sl sz R (Ug W) v xs:=by
 rcases DataW.trod_slice z h with ⟨rfl,rfl⟩ | ⟨a,k,q,d,u,n,_,rfl,rfl,_,J,p,A,g,_⟩
 ·exact ⟨_,[],rfl,Sl.nil⟩
 subst L
 have step: ∀i,i<k→ ∃y,∃c,Z2 (Ug W) (a.add (i*P.cellsOf e)) c∧c.length=P.cellsOf e∧R (Ug W) y c:=by
  intro i N
  have w:=g i N
  have o:i<d.length:=by omega
  rw[List.getElem?_eq_getElem o] at w
  obtain ⟨c,C,Q⟩:=Option.bind_eq_some_iff.1 w
  obtain ⟨E,s⟩:=X0u C D
  obtain ⟨y,l⟩:=r n c _ Q (fun m p=>O m (by
   simp only[DataW.weights,z,List.mem_cons,List.mem_append]
   exact .inr (.inl (X1C (List.mem_map.2 ⟨_,List.getElem_mem o,rfl⟩) m p))))
  exact ⟨y,c,s,E,l⟩
 obtain ⟨xs,j,f⟩:=X0S k step
 refine ⟨_,xs,rfl,some a,q,by rw[j],by rw[j];exact J,p,by simp,fun b B=>?_⟩
 cases B
 refine ⟨fun M=>?_,fun i y l=>f i y l⟩
 obtain ⟨y,l⟩: ∃y,xs[0]? =some y:=⟨xs[0],List.getElem?_eq_getElem M⟩
 obtain ⟨c,s,_,_⟩:=f 0 y l
 have:=s.1
 simpa [Addr.add] using this
theorem X0m: ∀{a:List TypeId} {l:List (DataW H)} {i:Nat} {u:TypeId} {d:DataW H},a[i]? =some u→l[i]? =some d→ ∀n∈d.weights P u,n∈DataW.weightsEach P a l:=
 fun b e n c=>DataW.weights_mem_each b e n c
theorem Q2f {c:Array Field} (e:P.underlying t=some (.struct c)) (h:DataW.trod enc P W 0 (fun _=>true) true fuel t cs=some x) (r:Wt P t x.1) (i:Nat) {o:Nat} {b:TypeId}
 (q:(c[i]?).map (fun f=>(f.type,f.offset))=some (b,o)) (p:P.cellsOf b=1): ∃n y,DataW.trod enc P W 0 (fun _=>true) true n b ((cs.drop o).take 1)=some y∧Wt P b y.1:=by
 obtain ⟨xs,n,_,rfl,v,j,s⟩:=DataW.trod_struct e h
 obtain ⟨f,a,k⟩:=Option.map_eq_some_iff.1 q
 cases k
 have d:=s i f a
 have g:i<xs.length:=by rw[j];exact (Array.getElem?_eq_some_iff.1 a).1
 rw[List.getElem?_eq_getElem g,p] at d
 refine ⟨n,_,d,fun m l=>r m ?_⟩
 simp only[DataW.weights,e]
 exact X0m (i:=i) (u:=f.type) (by rw[List.getElem?_map,Array.getElem?_toList,a];rfl) (by rw[List.getElem?_map,List.getElem?_eq_getElem g];rfl) m l
theorem X1X {a:Array Field} {k:Nat} (b:P.underlying t=some (.struct a)) (d:P.cellsOf t=k) (h:DataW.trod enc P W 0 (fun _=>true) true fuel t cs=some x):cs.length=k:=by
 obtain ⟨_,_,_,_,c,_,_⟩:=DataW.trod_struct b h
 rw[c,d]
theorem Q6J {α:Type} {l:List α} (h:l.length=3): ∃a b c,l=[a,b,c]:=by
 match l,h with
 | [a,b,c],_=>exact ⟨a,b,c,rfl⟩
end Go.Emb
namespace Go.Proofs.YtfppjenblllfaaaGreatDoor
open Go.Emb Go.RowKit Go.Kd Go.Hm
variable {H : Type} {enc : TypeId × Value → H} {W : World} {cs : List Value} {fuel : Nat} {x : DataW H × List MemPlace}
theorem Fu:P.cellsOf T.b=1:=by kernel_rfl
theorem Q8w:P.cellsOf T.m=1:=by kernel_rfl
theorem Q8q {t:TypeId} (b:P.underlying t=some .string) (h:DataW.trod enc P W 0 (fun _=>true) true fuel t cs=some x) (a:Wt P t x.1): ∃y,Y0 (Ug W) y cs:=by
 obtain ⟨s,q,r⟩:=X1P b h a;exact ⟨s,q,r⟩
theorem Q8c:P.underlying T.d=some (.slice T.b):=by kernel_rfl
end Go.Proofs.YtfppjenblllfaaaGreatDoor

namespace Go.Emb
def Z9 {α β:Type} (a:β→α→Bool×β):β→List α→Nat→Option Nat×β
 | s,[],_=>(none,s)
 | s,x::xs,i=>if (a s x).1 then (some i,(a s x).2) else Z9 a (a s x).2 xs (i+1)
def W5 (o:Option Nat):Int:=match o with | some i=>i | none=> -1
theorem K2 {α:Type} (p:α→Bool): ∀(xs:List α) (i:Nat),(Z9 (fun (_:Unit) x=>(p x,())) () xs i).1=(xs.findIdx? p).map (· +i):=by
 intro xs
 induction xs with
 | nil=>intro i;rfl
 | cons x r ih=>
  intro i
  rw[List.findIdx?_cons]
  simp only[Z9]
  cases p x with
  | true=>simp
  | false=>
   simp only[Bool.false_eq_true,if_false]
   rw[ih (i+1),Option.map_map]
   congr 1;funext n;simp only[Function.comp];omega
theorem Cz {α β:Type} (a:β→α→Bool×β) (s:β) (xs:List α) (i:Nat):decide ((0:Int)≤W5 (Z9 a s xs i).1)=(Z9 a s xs i).1.isSome:=by
 cases (Z9 a s xs i).1<;>simp[W5]
end Go.Emb
namespace Go.Proofs.YtfppjenblllfaaaGreatDoor
open Go.Emb Go.RowKit Go.Kd Go.Hm
variable {w : World} {K : Value → World → Prop} {σ : Q4}
theorem Jv {β:Type} {xs:List Hm.Met} {v f:Value} (a:β→Hm.Met→Bool×β) (i:β) (b:β→World→Prop) (D:Nat→Prop) (k: ∀s w,b s w→X4 w σ) (A:b i w) (u:Sl 7 M5 σ v xs)
 (B: ∀s x cs (w1:World) (K:Value→World→Prop),x∈xs→Kpt D w w1→b s w1→M5 σ x cs→cs.length=7→(∀w',Kpt D w w'→b (a s x).2 w'→K (.bool (a s x).1) w')→Z0 P f [.agg cs.toArray] w1 K)
 (h: ∀w',Kpt D w w'→b (Z9 a i xs 0).2 w'→K (I (W5 (Z9 a i xs 0).1)) w'):Q0 P F.g [v,f] w K:=Qd (by
 unfold H6
 ((try simp only[↓M1,M1,Mb,reduceIte]);repeat ((first | refine ld (by assumption) (by assumption) rfl ?_ | refine X8 (by assumption) (by assumption) rfl ?_ | refine Q8 (by assumption) ?_);(try simp only[↓M1,M1,Mb,reduceIte])))
 refine Z8 xs.length (fun n w'=>Kpt D w w'∧ ∃s,b s w'∧Z9 a i xs 0=Z9 a s (xs.drop n) n) ⟨Kpt.refl,i,A,rfl⟩ fun n w1 d E l=>?_
 obtain ⟨t,s,l,e⟩:=l
 have q:=k s w1 l
 ((try simp only[↓M1,M1,Mb,reduceIte]);repeat ((first | refine ld (by assumption) (by assumption) rfl ?_ | refine X8 (by assumption) (by assumption) rfl ?_ | refine Q8 (by assumption) ?_);(try simp only[↓M1,M1,Mb,reduceIte])))
 refine Q5 (fun r=>?_) (fun r=>?_)
 ·have c:n<xs.length:=by simpa using r
  refine L7 u c fun p cs y g C=>?_
  refine Y7 q y g ?_
  refine B s xs[n] cs w1 _ (List.getElem_mem c) t l C g fun z j m=>?_
  rw[List.drop_eq_getElem_cons c] at e
  simp only[Z9] at e
  refine Q5 (fun o=>?_) (fun o=>?_)
  ·rw[o] at e
   have:=h z j
   rw[e] at this
   exact this m
  ·rw[o] at e
   ((try simp only[↓M1,M1,Mb,reduceIte]);repeat ((first | refine ld (by assumption) (by assumption) rfl ?_ | refine X8 (by assumption) (by assumption) rfl ?_ | refine Q8 (by assumption) ?_);(try simp only[↓M1,M1,Mb,reduceIte])))
   exact Y2 u.max c ⟨j,_,m,by simpa using e⟩
 ·have c: ¬n<xs.length:=by simpa using r
  rw[List.drop_eq_nil_of_le (by omega)] at e
  have:=h w1 t
  rw[e] at this
  exact this l)
theorem Yb {β:Type} {xs:List Hm.Met} {v f:Value} (b:β→Hm.Met→Bool×β) (d:β) (a:β→World→Prop) (D:Nat→Prop) (c: ∀s w,a s w→X4 w σ) (i:a d w) (k:Sl 7 M5 σ v xs)
 (j: ∀s x cs (w1:World) (K:Value→World→Prop),x∈xs→Kpt D w w1→a s w1→M5 σ x cs→cs.length=7→(∀w',Kpt D w w'→a (b s x).2 w'→K (.bool (b s x).1) w')→Z0 P f [.agg cs.toArray] w1 K)
 (h: ∀w',Kpt D w w'→a (Z9 b d xs 0).2 w'→K (.bool (Z9 b d xs 0).1.isSome) w'):Q0 P F.a [v,f] w K:=I4 (by
 unfold D3
 refine Jv b d a D c i k j fun w1 e g=>?_
 (try simp only[↓M1,M1,Mb,reduceIte])
 rw[Cz]
 exact h w1 e g)
theorem Sf {xs:List Hm.Met} {v f:Value} (p:Hm.Met→Bool) (hs:X4 w σ) (hv:Sl 7 M5 σ v xs)
 (hf: ∀x cs (w1:World) (K:Value→World→Prop),x∈xs→X4 w1 σ→M5 σ x cs→cs.length=7→(∀w',Below w1.heap.size w1 w'→K (.bool (p x)) w')→Z0 P f [.agg cs.toArray] w1 K)
 (h: ∀w',Below w.heap.size w w'→K (I (W5 (xs.findIdx? p))) w'):Q0 P F.g [v,f] w K:=by
 refine Jv (fun (_:Unit) x=>(p x,())) () (fun _ w'=>Below w.heap.size w w') (fun _=>False) (fun _ w' hb=>hs.below hb) (Below.refl _ _) hv (fun s x cs w1 K hx hk hi hr hl hK=>hf x cs w1 K hx (hs.below hi) hr hl fun w' hb=>hK w' (.of_below (bt hi hb)) (bt hi hb)) fun w' hk hi=>?_
 rw[K2]
 simpa using h w' hi
theorem H8 {xs:List Hm.Met} {v f:Value} (p:Hm.Met→Bool) (hs:X4 w σ) (hv:Sl 7 M5 σ v xs)
 (hf: ∀x cs (w1:World) (K:Value→World→Prop),x∈xs→X4 w1 σ→M5 σ x cs→cs.length=7→(∀w',Below w1.heap.size w1 w'→K (.bool (p x)) w')→Z0 P f [.agg cs.toArray] w1 K)
 (h: ∀w',Below w.heap.size w w'→K (.bool (xs.any p)) w'):Q0 P F.a [v,f] w K:=by
 refine Yb (fun (_:Unit) x=>(p x,())) () (fun _ w'=>Below w.heap.size w w') (fun _=>False) (fun _ w' hb=>hs.below hb) (Below.refl _ _) hv (fun s x cs w1 K hx hk hi hr hl hK=>hf x cs w1 K hx (hs.below hi) hr hl fun w' hb=>hK w' (.of_below (bt hi hb)) (bt hi hb)) fun w' hk hi=>?_
 rw[K2]
 simpa using h w' hi
theorem Vc {β:Type} {xs:List Fld} {v f:Value} (a:β→Fld→Bool×β) (i:β) (b:β→World→Prop) (D:Nat→Prop) (k: ∀s w,b s w→X4 w σ) (A:b i w) (u:Sl 3 E0 σ v xs)
 (B: ∀s x cs (w1:World) (K:Value→World→Prop),x∈xs→Kpt D w w1→b s w1→E0 σ x cs→cs.length=3→(∀w',Kpt D w w'→b (a s x).2 w'→K (.bool (a s x).1) w')→Z0 P f [.agg cs.toArray] w1 K)
 (h: ∀w',Kpt D w w'→b (Z9 a i xs 0).2 w'→K (I (W5 (Z9 a i xs 0).1)) w'):Q0 P F.j [v,f] w K:=Xe (by
 unfold R5
 ((try simp only[↓M1,M1,Mb,reduceIte]);repeat ((first | refine ld (by assumption) (by assumption) rfl ?_ | refine X8 (by assumption) (by assumption) rfl ?_ | refine Q8 (by assumption) ?_);(try simp only[↓M1,M1,Mb,reduceIte])))
 refine Z8 xs.length (fun n w'=>Kpt D w w'∧ ∃s,b s w'∧Z9 a i xs 0=Z9 a s (xs.drop n) n) ⟨Kpt.refl,i,A,rfl⟩ fun n w1 d E l=>?_
 obtain ⟨t,s,l,e⟩:=l
 have q:=k s w1 l
 ((try simp only[↓M1,M1,Mb,reduceIte]);repeat ((first | refine ld (by assumption) (by assumption) rfl ?_ | refine X8 (by assumption) (by assumption) rfl ?_ | refine Q8 (by assumption) ?_);(try simp only[↓M1,M1,Mb,reduceIte])))
 refine Q5 (fun r=>?_) (fun r=>?_)
 ·have c:n<xs.length:=by simpa using r
  refine L7 u c fun p cs y g C=>?_
  refine Y7 q y g ?_
  refine B s xs[n] cs w1 _ (List.getElem_mem c) t l C g fun z j m=>?_
  rw[List.drop_eq_getElem_cons c] at e
  simp only[Z9] at e
  refine Q5 (fun o=>?_) (fun o=>?_)
  ·rw[o] at e
   have:=h z j
   rw[e] at this
   exact this m
  ·rw[o] at e
   ((try simp only[↓M1,M1,Mb,reduceIte]);repeat ((first | refine ld (by assumption) (by assumption) rfl ?_ | refine X8 (by assumption) (by assumption) rfl ?_ | refine Q8 (by assumption) ?_);(try simp only[↓M1,M1,Mb,reduceIte])))
   exact Y2 u.max c ⟨j,_,m,by simpa using e⟩
 ·have c: ¬n<xs.length:=by simpa using r
  rw[List.drop_eq_nil_of_le (by omega)] at e
  have:=h w1 t
  rw[e] at this
  exact this l)
theorem Hb {β:Type} {xs:List Fld} {v f:Value} (b:β→Fld→Bool×β) (d:β) (a:β→World→Prop) (D:Nat→Prop) (c: ∀s w,a s w→X4 w σ) (i:a d w) (k:Sl 3 E0 σ v xs)
 (j: ∀s x cs (w1:World) (K:Value→World→Prop),x∈xs→Kpt D w w1→a s w1→E0 σ x cs→cs.length=3→(∀w',Kpt D w w'→a (b s x).2 w'→K (.bool (b s x).1) w')→Z0 P f [.agg cs.toArray] w1 K)
 (h: ∀w',Kpt D w w'→a (Z9 b d xs 0).2 w'→K (.bool (Z9 b d xs 0).1.isSome) w'):Q0 P F.f [v,f] w K:=T2 (by
 unfold H2
 refine Vc b d a D c i k j fun w1 e g=>?_
 (try simp only[↓M1,M1,Mb,reduceIte])
 rw[Cz]
 exact h w1 e g)
theorem Cl {xs:List Fld} {v f:Value} (p:Fld→Bool) (hs:X4 w σ) (hv:Sl 3 E0 σ v xs)
 (hf: ∀x cs (w1:World) (K:Value→World→Prop),x∈xs→X4 w1 σ→E0 σ x cs→cs.length=3→(∀w',Below w1.heap.size w1 w'→K (.bool (p x)) w')→Z0 P f [.agg cs.toArray] w1 K)
 (h: ∀w',Below w.heap.size w w'→K (I (W5 (xs.findIdx? p))) w'):Q0 P F.j [v,f] w K:=by
 refine Vc (fun (_:Unit) x=>(p x,())) () (fun _ w'=>Below w.heap.size w w') (fun _=>False) (fun _ w' hb=>hs.below hb) (Below.refl _ _) hv (fun s x cs w1 K hx hk hi hr hl hK=>hf x cs w1 K hx (hs.below hi) hr hl fun w' hb=>hK w' (.of_below (bt hi hb)) (bt hi hb)) fun w' hk hi=>?_
 rw[K2]
 simpa using h w' hi
theorem Ze {xs:List Fld} {v f:Value} (p:Fld→Bool) (hs:X4 w σ) (hv:Sl 3 E0 σ v xs)
 (hf: ∀x cs (w1:World) (K:Value→World→Prop),x∈xs→X4 w1 σ→E0 σ x cs→cs.length=3→(∀w',Below w1.heap.size w1 w'→K (.bool (p x)) w')→Z0 P f [.agg cs.toArray] w1 K)
 (h: ∀w',Below w.heap.size w w'→K (.bool (xs.any p)) w'):Q0 P F.f [v,f] w K:=by
 refine Hb (fun (_:Unit) x=>(p x,())) () (fun _ w'=>Below w.heap.size w w') (fun _=>False) (fun _ w' hb=>hs.below hb) (Below.refl _ _) hv (fun s x cs w1 K hx hk hi hr hl hK=>hf x cs w1 K hx (hs.below hi) hr hl fun w' hb=>hK w' (.of_below (bt hi hb)) (bt hi hb)) fun w' hk hi=>?_
 rw[K2]
 simpa using h w' hi
theorem Sq {β:Type} {xs:List Ins} {v f:Value} (a:β→Ins→Bool×β) (i:β) (b:β→World→Prop) (D:Nat→Prop) (k: ∀s w,b s w→X4 w σ) (A:b i w) (u:Sl 3 I3 σ v xs)
 (B: ∀s x cs (w1:World) (K:Value→World→Prop),x∈xs→Kpt D w w1→b s w1→I3 σ x cs→cs.length=3→(∀w',Kpt D w w'→b (a s x).2 w'→K (.bool (a s x).1) w')→Z0 P f [.agg cs.toArray] w1 K)
 (h: ∀w',Kpt D w w'→b (Z9 a i xs 0).2 w'→K (I (W5 (Z9 a i xs 0).1)) w'):Q0 P F.z [v,f] w K:=Xb (by
 unfold R6
 ((try simp only[↓M1,M1,Mb,reduceIte]);repeat ((first | refine ld (by assumption) (by assumption) rfl ?_ | refine X8 (by assumption) (by assumption) rfl ?_ | refine Q8 (by assumption) ?_);(try simp only[↓M1,M1,Mb,reduceIte])))
 refine Z8 xs.length (fun n w'=>Kpt D w w'∧ ∃s,b s w'∧Z9 a i xs 0=Z9 a s (xs.drop n) n) ⟨Kpt.refl,i,A,rfl⟩ fun n w1 d E l=>?_
 obtain ⟨t,s,l,e⟩:=l
 have q:=k s w1 l
 ((try simp only[↓M1,M1,Mb,reduceIte]);repeat ((first | refine ld (by assumption) (by assumption) rfl ?_ | refine X8 (by assumption) (by assumption) rfl ?_ | refine Q8 (by assumption) ?_);(try simp only[↓M1,M1,Mb,reduceIte])))
 refine Q5 (fun r=>?_) (fun r=>?_)
 ·have c:n<xs.length:=by simpa using r
  refine L7 u c fun p cs y g C=>?_
  refine Y7 q y g ?_
  refine B s xs[n] cs w1 _ (List.getElem_mem c) t l C g fun z j m=>?_
  rw[List.drop_eq_getElem_cons c] at e
  simp only[Z9] at e
  refine Q5 (fun o=>?_) (fun o=>?_)
  ·rw[o] at e
   have:=h z j
   rw[e] at this
   exact this m
  ·rw[o] at e
   ((try simp only[↓M1,M1,Mb,reduceIte]);repeat ((first | refine ld (by assumption) (by assumption) rfl ?_ | refine X8 (by assumption) (by assumption) rfl ?_ | refine Q8 (by assumption) ?_);(try simp only[↓M1,M1,Mb,reduceIte])))
   exact Y2 u.max c ⟨j,_,m,by simpa using e⟩
 ·have c: ¬n<xs.length:=by simpa using r
  rw[List.drop_eq_nil_of_le (by omega)] at e
  have:=h w1 t
  rw[e] at this
  exact this l)
theorem Hf {β:Type} {xs:List Ins} {v f:Value} (b:β→Ins→Bool×β) (d:β) (a:β→World→Prop) (D:Nat→Prop) (c: ∀s w,a s w→X4 w σ) (i:a d w) (k:Sl 3 I3 σ v xs)
 (j: ∀s x cs (w1:World) (K:Value→World→Prop),x∈xs→Kpt D w w1→a s w1→I3 σ x cs→cs.length=3→(∀w',Kpt D w w'→a (b s x).2 w'→K (.bool (b s x).1) w')→Z0 P f [.agg cs.toArray] w1 K)
 (h: ∀w',Kpt D w w'→a (Z9 b d xs 0).2 w'→K (.bool (Z9 b d xs 0).1.isSome) w'):Q0 P F.l [v,f] w K:=T1 (by
 unfold H1
 refine Sq b d a D c i k j fun w1 e g=>?_
 (try simp only[↓M1,M1,Mb,reduceIte])
 rw[Cz]
 exact h w1 e g)
theorem Er {xs:List Ins} {v f:Value} (p:Ins→Bool) (hs:X4 w σ) (hv:Sl 3 I3 σ v xs)
 (hf: ∀x cs (w1:World) (K:Value→World→Prop),x∈xs→X4 w1 σ→I3 σ x cs→cs.length=3→(∀w',Below w1.heap.size w1 w'→K (.bool (p x)) w')→Z0 P f [.agg cs.toArray] w1 K)
 (h: ∀w',Below w.heap.size w w'→K (.bool (xs.any p)) w'):Q0 P F.l [v,f] w K:=by
 refine Hf (fun (_:Unit) x=>(p x,())) () (fun _ w'=>Below w.heap.size w w') (fun _=>False) (fun _ w' hb=>hs.below hb) (Below.refl _ _) hv (fun s x cs w1 K hx hk hi hr hl hK=>hf x cs w1 K hx (hs.below hi) hr hl fun w' hb=>hK w' (.of_below (bt hi hb)) (bt hi hb)) fun w' hk hi=>?_
 rw[K2]
 simpa using h w' hi
theorem Ss {β:Type} {xs:List Cat} {v f:Value} (a:β→Cat→Bool×β) (i:β) (b:β→World→Prop) (D:Nat→Prop) (k: ∀s w,b s w→X4 w σ) (A:b i w) (u:Sl 4 Yo σ v xs)
 (B: ∀s x cs (w1:World) (K:Value→World→Prop),x∈xs→Kpt D w w1→b s w1→Yo σ x cs→cs.length=4→(∀w',Kpt D w w'→b (a s x).2 w'→K (.bool (a s x).1) w')→Z0 P f [.agg cs.toArray] w1 K)
 (h: ∀w',Kpt D w w'→b (Z9 a i xs 0).2 w'→K (I (W5 (Z9 a i xs 0).1)) w'):Q0 P F.a0 [v,f] w K:=Qs (by
 unfold R4
 ((try simp only[↓M1,M1,Mb,reduceIte]);repeat ((first | refine ld (by assumption) (by assumption) rfl ?_ | refine X8 (by assumption) (by assumption) rfl ?_ | refine Q8 (by assumption) ?_);(try simp only[↓M1,M1,Mb,reduceIte])))
 refine Z8 xs.length (fun n w'=>Kpt D w w'∧ ∃s,b s w'∧Z9 a i xs 0=Z9 a s (xs.drop n) n) ⟨Kpt.refl,i,A,rfl⟩ fun n w1 d E l=>?_
 obtain ⟨t,s,l,e⟩:=l
 have q:=k s w1 l
 ((try simp only[↓M1,M1,Mb,reduceIte]);repeat ((first | refine ld (by assumption) (by assumption) rfl ?_ | refine X8 (by assumption) (by assumption) rfl ?_ | refine Q8 (by assumption) ?_);(try simp only[↓M1,M1,Mb,reduceIte])))
 refine Q5 (fun r=>?_) (fun r=>?_)
 ·have c:n<xs.length:=by simpa using r
  refine L7 u c fun p cs y g C=>?_
  refine Y7 q y g ?_
  refine B s xs[n] cs w1 _ (List.getElem_mem c) t l C g fun z j m=>?_
  rw[List.drop_eq_getElem_cons c] at e
  simp only[Z9] at e
  refine Q5 (fun o=>?_) (fun o=>?_)
  ·rw[o] at e
   have:=h z j
   rw[e] at this
   exact this m
  ·rw[o] at e
   ((try simp only[↓M1,M1,Mb,reduceIte]);repeat ((first | refine ld (by assumption) (by assumption) rfl ?_ | refine X8 (by assumption) (by assumption) rfl ?_ | refine Q8 (by assumption) ?_);(try simp only[↓M1,M1,Mb,reduceIte])))
   exact Y2 u.max c ⟨j,_,m,by simpa using e⟩
 ·have c: ¬n<xs.length:=by simpa using r
  rw[List.drop_eq_nil_of_le (by omega)] at e
  have:=h w1 t
  rw[e] at this
  exact this l)
theorem Eu {β:Type} {xs:List Cat} {v f:Value} (b:β→Cat→Bool×β) (d:β) (a:β→World→Prop) (D:Nat→Prop) (c: ∀s w,a s w→X4 w σ) (i:a d w) (k:Sl 4 Yo σ v xs)
 (j: ∀s x cs (w1:World) (K:Value→World→Prop),x∈xs→Kpt D w w1→a s w1→Yo σ x cs→cs.length=4→(∀w',Kpt D w w'→a (b s x).2 w'→K (.bool (b s x).1) w')→Z0 P f [.agg cs.toArray] w1 K)
 (h: ∀w',Kpt D w w'→a (Z9 b d xs 0).2 w'→K (.bool (Z9 b d xs 0).1.isSome) w'):Q0 P F.m [v,f] w K:=T0 (by
 unfold H0
 refine Ss b d a D c i k j fun w1 e g=>?_
 (try simp only[↓M1,M1,Mb,reduceIte])
 rw[Cz]
 exact h w1 e g)
theorem Dq {xs:List Cat} {v f:Value} (p:Cat→Bool) (hs:X4 w σ) (hv:Sl 4 Yo σ v xs)
 (hf: ∀x cs (w1:World) (K:Value→World→Prop),x∈xs→X4 w1 σ→Yo σ x cs→cs.length=4→(∀w',Below w1.heap.size w1 w'→K (.bool (p x)) w')→Z0 P f [.agg cs.toArray] w1 K)
 (h: ∀w',Below w.heap.size w w'→K (.bool (xs.any p)) w'):Q0 P F.m [v,f] w K:=by
 refine Eu (fun (_:Unit) x=>(p x,())) () (fun _ w'=>Below w.heap.size w w') (fun _=>False) (fun _ w' hb=>hs.below hb) (Below.refl _ _) hv (fun s x cs w1 K hx hk hi hr hl hK=>hf x cs w1 K hx (hs.below hi) hr hl fun w' hb=>hK w' (.of_below (bt hi hb)) (bt hi hb)) fun w' hk hi=>?_
 rw[K2]
 simpa using h w' hi
theorem Cq {β:Type} {xs:List Cla} {v f:Value} (a:β→Cla→Bool×β) (i:β) (b:β→World→Prop) (D:Nat→Prop) (k: ∀s w,b s w→X4 w σ) (A:b i w) (u:Sl 8 U5 σ v xs)
 (B: ∀s x cs (w1:World) (K:Value→World→Prop),x∈xs→Kpt D w w1→b s w1→U5 σ x cs→cs.length=8→(∀w',Kpt D w w'→b (a s x).2 w'→K (.bool (a s x).1) w')→Z0 P f [.agg cs.toArray] w1 K)
 (h: ∀w',Kpt D w w'→b (Z9 a i xs 0).2 w'→K (I (W5 (Z9 a i xs 0).1)) w'):Q0 P F.o [v,f] w K:=Qw (by
 unfold R2
 ((try simp only[↓M1,M1,Mb,reduceIte]);repeat ((first | refine ld (by assumption) (by assumption) rfl ?_ | refine X8 (by assumption) (by assumption) rfl ?_ | refine Q8 (by assumption) ?_);(try simp only[↓M1,M1,Mb,reduceIte])))
 refine Z8 xs.length (fun n w'=>Kpt D w w'∧ ∃s,b s w'∧Z9 a i xs 0=Z9 a s (xs.drop n) n) ⟨Kpt.refl,i,A,rfl⟩ fun n w1 d E l=>?_
 obtain ⟨t,s,l,e⟩:=l
 have q:=k s w1 l
 ((try simp only[↓M1,M1,Mb,reduceIte]);repeat ((first | refine ld (by assumption) (by assumption) rfl ?_ | refine X8 (by assumption) (by assumption) rfl ?_ | refine Q8 (by assumption) ?_);(try simp only[↓M1,M1,Mb,reduceIte])))
 refine Q5 (fun r=>?_) (fun r=>?_)
 ·have c:n<xs.length:=by simpa using r
  refine L7 u c fun p cs y g C=>?_
  refine Y7 q y g ?_
  refine B s xs[n] cs w1 _ (List.getElem_mem c) t l C g fun z j m=>?_
  rw[List.drop_eq_getElem_cons c] at e
  simp only[Z9] at e
  refine Q5 (fun o=>?_) (fun o=>?_)
  ·rw[o] at e
   have:=h z j
   rw[e] at this
   exact this m
  ·rw[o] at e
   ((try simp only[↓M1,M1,Mb,reduceIte]);repeat ((first | refine ld (by assumption) (by assumption) rfl ?_ | refine X8 (by assumption) (by assumption) rfl ?_ | refine Q8 (by assumption) ?_);(try simp only[↓M1,M1,Mb,reduceIte])))
   exact Y2 u.max c ⟨j,_,m,by simpa using e⟩
 ·have c: ¬n<xs.length:=by simpa using r
  rw[List.drop_eq_nil_of_le (by omega)] at e
  have:=h w1 t
  rw[e] at this
  exact this l)
theorem Ci {xs:List Cla} {v f:Value} (p:Cla→Bool) (hs:X4 w σ) (hv:Sl 8 U5 σ v xs)
 (hf: ∀x cs (w1:World) (K:Value→World→Prop),x∈xs→X4 w1 σ→U5 σ x cs→cs.length=8→(∀w',Below w1.heap.size w1 w'→K (.bool (p x)) w')→Z0 P f [.agg cs.toArray] w1 K)
 (h: ∀w',Below w.heap.size w w'→K (I (W5 (xs.findIdx? p))) w'):Q0 P F.o [v,f] w K:=by
 refine Cq (fun (_:Unit) x=>(p x,())) () (fun _ w'=>Below w.heap.size w w') (fun _=>False) (fun _ w' hb=>hs.below hb) (Below.refl _ _) hv (fun s x cs w1 K hx hk hi hr hl hK=>hf x cs w1 K hx (hs.below hi) hr hl fun w' hb=>hK w' (.of_below (bt hi hb)) (bt hi hb)) fun w' hk hi=>?_
 rw[K2]
 simpa using h w' hi
theorem Pz {β:Type} {xs:List X0} {v f:Value} (a:β→X0→Bool×β) (g:β) (b:β→World→Prop) (D:Nat→Prop) (k: ∀s w,b s w→X4 w σ) (B:b g w) (y:Sl 1 Y0 σ v xs)
 (C: ∀s x (w1:World) (K:Value→World→Prop),x∈xs→Kpt D w w1→b s w1→x.length≤J3→(∀w',Kpt D w w'→b (a s x).2 w'→K (.bool (a s x).1) w')→Z0 P f [S x] w1 K)
 (h: ∀w',Kpt D w w'→b (Z9 a g xs 0).2 w'→K (I (W5 (Z9 a g xs 0).1)) w'):Q0 P F.t [v,f] w K:=Ji (by
 unfold F7
 ((try simp only[↓M1,M1,Mb,reduceIte]);repeat ((first | refine ld (by assumption) (by assumption) rfl ?_ | refine X8 (by assumption) (by assumption) rfl ?_ | refine Q8 (by assumption) ?_);(try simp only[↓M1,M1,Mb,reduceIte])))
 refine Z8 xs.length (fun n w'=>Kpt D w w'∧ ∃s,b s w'∧Z9 a g xs 0=Z9 a s (xs.drop n) n) ⟨Kpt.refl,g,B,rfl⟩ fun n w1 d H l=>?_
 obtain ⟨t,s,l,e⟩:=l
 have q:=k s w1 l
 ((try simp only[↓M1,M1,Mb,reduceIte]);repeat ((first | refine ld (by assumption) (by assumption) rfl ?_ | refine X8 (by assumption) (by assumption) rfl ?_ | refine Q8 (by assumption) ?_);(try simp only[↓M1,M1,Mb,reduceIte])))
 refine Q5 (fun r=>?_) (fun r=>?_)
 ·have c:n<xs.length:=by simpa using r
  refine L7 y c fun p cs z u E=>?_
  obtain ⟨rfl,j⟩:=E
  refine X8 q z rfl ?_
  refine C s xs[n] w1 _ (List.getElem_mem c) t l j fun A i m=>?_
  rw[List.drop_eq_getElem_cons c] at e
  simp only[Z9] at e
  refine Q5 (fun o=>?_) (fun o=>?_)
  ·rw[o] at e
   have:=h A i
   rw[e] at this
   exact this m
  ·rw[o] at e
   ((try simp only[↓M1,M1,Mb,reduceIte]);repeat ((first | refine ld (by assumption) (by assumption) rfl ?_ | refine X8 (by assumption) (by assumption) rfl ?_ | refine Q8 (by assumption) ?_);(try simp only[↓M1,M1,Mb,reduceIte])))
   exact Y2 y.max c ⟨i,_,m,by simpa using e⟩
 ·have c: ¬n<xs.length:=by simpa using r
  rw[List.drop_eq_nil_of_le (by omega)] at e
  have:=h w1 t
  rw[e] at this
  exact this l)
theorem Tl {xs:List X0} {v f:Value} (p:X0→Bool) (hs:X4 w σ) (hv:Sl 1 Y0 σ v xs)
 (hf: ∀x (w1:World) (K:Value→World→Prop),x∈xs→X4 w1 σ→x.length≤J3→(∀w',Below w1.heap.size w1 w'→K (.bool (p x)) w')→Z0 P f [S x] w1 K)
 (h: ∀w',Below w.heap.size w w'→K (I (W5 (xs.findIdx? p))) w'):Q0 P F.t [v,f] w K:=by
 refine Pz (fun (_:Unit) x=>(p x,())) () (fun _ w'=>Below w.heap.size w w') (fun _=>False) (fun _ w' hb=>hs.below hb) (Below.refl _ _) hv (fun s x w1 K hx hk hi hr hK=>hf x w1 K hx (hs.below hi) hr fun w' hb=>hK w' (.of_below (bt hi hb)) (bt hi hb)) fun w' hk hi=>?_
 rw[K2]
 simpa using h w' hi
theorem Q3L {α:Type} (p:α→Bool) (xs:List α):decide ((0:Int)≤W5 (xs.findIdx? p))=xs.any p:=by
 rw[Bool.eq_iff_iff,List.any_eq_true]
 simp only[decide_eq_true_eq]
 cases h:xs.findIdx? p with
 | none=>
  simp only[W5]
  constructor
  ·intro h;omega
  ·rintro ⟨x,b,a⟩;have:=List.findIdx?_eq_none_iff.1 h x b;rw[a] at this;cases this
 | some i=>
  simp only[W5]
  obtain ⟨c,a,_⟩:=List.findIdx?_eq_some_iff_getElem.1 h
  exact ⟨fun _=>⟨xs[i],List.getElem_mem c,a⟩,fun _=>by omega⟩
theorem B9 {xs:List X0} {v f:Value} (p:X0→Bool) (a:X4 w σ) (c:Sl 1 Y0 σ v xs)
 (d: ∀x (w1:World) (K:Value→World→Prop),x∈xs→X4 w1 σ→x.length≤J3→(∀w',Below w1.heap.size w1 w'→K (.bool (p x)) w')→Z0 P f [S x] w1 K)
 (h: ∀w',Below w.heap.size w w'→K (.bool (xs.any p)) w'):Q0 P F.d [v,f] w K:=Yh (by
 unfold B0
 refine Tl p a c d fun w1 b=>?_
 (try simp only[↓M1,M1,Mb,reduceIte])
 rw[Q3L]
 exact h w1 b)
theorem Q2q {xs:List X0} {v:Value} {x:X0} (m:X4 w σ) (i:Sl 1 Y0 σ v xs)
 (h:K (I (W5 (xs.findIdx? fun y=>decide (x=y)))) w):Q0 P F.ao [v,S x] w K:=Wj (by
 unfold K4
 ((try simp only[↓M1,M1,Mb,reduceIte]);repeat ((first | refine ld (by assumption) (by assumption) rfl ?_ | refine X8 (by assumption) (by assumption) rfl ?_ | refine Q8 (by assumption) ?_);(try simp only[↓M1,M1,Mb,reduceIte])))
 refine Z8 xs.length (fun n w'=>w=w'∧(xs.take n).any (fun y=>decide (x=y))=false) ⟨rfl,rfl⟩ fun n w1 d q b=>?_
 obtain ⟨rfl,b⟩:=b
 ((try simp only[↓M1,M1,Mb,reduceIte]);repeat ((first | refine ld (by assumption) (by assumption) rfl ?_ | refine X8 (by assumption) (by assumption) rfl ?_ | refine Q8 (by assumption) ?_);(try simp only[↓M1,M1,Mb,reduceIte])))
 refine Q5 (fun e=>?_) (fun e=>?_)
 ·have a:n<xs.length:=by simpa using e
  refine L7 i a fun p cs o g l=>?_
  obtain ⟨rfl,f⟩:=l
  ((try simp only[↓M1,M1,Mb,reduceIte]);repeat ((first | refine ld (by assumption) (by assumption) rfl ?_ | refine X8 (by assumption) (by assumption) rfl ?_ | refine Q8 (by assumption) ?_);(try simp only[↓M1,M1,Mb,reduceIte])))
  refine Q5 (fun c=>?_) (fun c=>?_)
  ·have:xs.findIdx? (fun y=>decide (x=y))=some n:=by
    rw[List.findIdx?_eq_some_iff_getElem]
    refine ⟨a,c,fun j r=>?_⟩
    have:=List.any_eq_false.1 b (xs[j]) (List.mem_take_iff_getElem.2 ⟨j,by omega,rfl⟩)
    exact this
   rw[this] at h;exact h
  ·((try simp only[↓M1,M1,Mb,reduceIte]);repeat ((first | refine ld (by assumption) (by assumption) rfl ?_ | refine X8 (by assumption) (by assumption) rfl ?_ | refine Q8 (by assumption) ?_);(try simp only[↓M1,M1,Mb,reduceIte])))
   exact Y2 i.max a ⟨rfl,by rw[M3 a,b,c];rfl⟩
 ·have a: ¬n<xs.length:=by simpa using e
  rw[O9 a] at b
  have:xs.findIdx? (fun y=>decide (x=y))=none:=by
   rw[List.findIdx?_eq_none_iff];intro y k;simpa using List.any_eq_false.1 b y k
  rw[this] at h;exact h)
theorem Q0g {xs:List X0} {v:Value} {x:X0} (a:X4 w σ) (b:Sl 1 Y0 σ v xs)
 (h:K (.bool (xs.any fun y=>decide (x=y))) w):Q0 P F.ab [v,S x] w K:=Jq (by
 unfold G1
 refine Q2q a b ?_
 (try simp only[↓M1,M1,Mb,reduceIte])
 rw[Q3L]
 exact h)
end Go.Proofs.YtfppjenblllfaaaGreatDoor

namespace Go.Emb
abbrev Q4.Le (σ σ':Q4):Prop:= ∀b o,σ b=some o→σ' b=some o
def E9 {α:Type} (f:α→List UInt8):List α→List α→Bool
 | _,[]=>true
 | seen,x::r=> !(seen.any fun y=>decide (f y=f x))&&E9 f (seen++[x]) r
theorem Jp {α:Type} (p:α→Bool) (xs:List α):(!xs.any fun x=> !p x)=xs.all p:=by
 rw[List.all_eq_not_any_not]
end Go.Emb
namespace Go.Proofs.YtfppjenblllfaaaGreatDoor
open Go.Emb Go.RowKit Go.Kd Go.Hm
variable {w : World} {K : Value → World → Prop} {σ : Q4}
theorem Pm {xs:List Hm.Met} {v:Value} {fn:Fn} {l d:Array Value} (p:Hm.Met→Bool) (t:X4 w σ) (C:Sl 7 M5 σ v xs)
 (y: ∀(σ1:Q4) x cs (w1:World) (K:Value→World→Prop),σ.Le σ1→x∈xs→X4 w1 σ1→M5 σ1 x cs→cs.length=7→(∀w',Below w1.heap.size w1 w'→K (.bool (p x)) w')→Z0 P (.func fn l d) [.agg cs.toArray] w1 K)
 (h: ∀w',Below w.heap.size w w'→K (.bool (xs.all p)) w'):Q0 P F.aj [v, .func fn l d] w K:=Dt (by
 unfold Yn
 refine M8 t fun a w1 σ1 f k=>?_
 simp only[Value.cells] at k
 ((try simp only[↓M1,M1,Mb,reduceIte]);repeat ((first | refine ld (by assumption) (by assumption) rfl ?_ | refine X8 (by assumption) (by assumption) rfl ?_ | refine Q8 (by assumption) ?_);(try simp only[↓M1,M1,Mb,reduceIte])))
 refine H8 (fun x=> !p x) f.sat (C.up f) (fun x cs n K u g z m A=>?_) fun n q=>?_
 ·refine Y8 (Oi ?_)
  unfold Xm
  refine M8 g fun b r B c i=>?_
  refine X8 c.sat (k.up c) rfl ?_
  refine Y7 c.sat i m ?_
  refine y B x _ r _ (fun b o e=>c.le b o (f.le b o e)) u c.sat (Rep.up c.le z) m fun s j=>?_
  (try simp only[↓M1,M1,Mb,reduceIte])
  exact A s (bt c.bel j)
 ·(try simp only[↓M1,M1,Mb,reduceIte])
  rw[Jp]
  exact h n (bt f.bel q))
theorem Q0m {xs:List Fld} {v:Value} {fn:Fn} {l d:Array Value} (p:Fld→Bool) (t:X4 w σ) (C:Sl 3 E0 σ v xs)
 (y: ∀(σ1:Q4) x cs (w1:World) (K:Value→World→Prop),σ.Le σ1→x∈xs→X4 w1 σ1→E0 σ1 x cs→cs.length=3→(∀w',Below w1.heap.size w1 w'→K (.bool (p x)) w')→Z0 P (.func fn l d) [.agg cs.toArray] w1 K)
 (h: ∀w',Below w.heap.size w w'→K (.bool (xs.all p)) w'):Q0 P F.an [v, .func fn l d] w K:=Hn (by
 unfold Jh
 refine M8 t fun a w1 σ1 f k=>?_
 simp only[Value.cells] at k
 ((try simp only[↓M1,M1,Mb,reduceIte]);repeat ((first | refine ld (by assumption) (by assumption) rfl ?_ | refine X8 (by assumption) (by assumption) rfl ?_ | refine Q8 (by assumption) ?_);(try simp only[↓M1,M1,Mb,reduceIte])))
 refine Ze (fun x=> !p x) f.sat (C.up f) (fun x cs n K u g z m A=>?_) fun n q=>?_
 ·refine Y8 (Df ?_)
  unfold Ya
  refine M8 g fun b r B c i=>?_
  refine X8 c.sat (k.up c) rfl ?_
  refine Y7 c.sat i m ?_
  refine y B x _ r _ (fun b o e=>c.le b o (f.le b o e)) u c.sat (Rep.up c.le z) m fun s j=>?_
  (try simp only[↓M1,M1,Mb,reduceIte])
  exact A s (bt c.bel j)
 ·(try simp only[↓M1,M1,Mb,reduceIte])
  rw[Jp]
  exact h n (bt f.bel q))
theorem Q0f {xs:List Ins} {v:Value} {fn:Fn} {l d:Array Value} (p:Ins→Bool) (t:X4 w σ) (C:Sl 3 I3 σ v xs)
 (y: ∀(σ1:Q4) x cs (w1:World) (K:Value→World→Prop),σ.Le σ1→x∈xs→X4 w1 σ1→I3 σ1 x cs→cs.length=3→(∀w',Below w1.heap.size w1 w'→K (.bool (p x)) w')→Z0 P (.func fn l d) [.agg cs.toArray] w1 K)
 (h: ∀w',Below w.heap.size w w'→K (.bool (xs.all p)) w'):Q0 P F.ap [v, .func fn l d] w K:=Hu (by
 unfold Jb
 refine M8 t fun a w1 σ1 f k=>?_
 simp only[Value.cells] at k
 ((try simp only[↓M1,M1,Mb,reduceIte]);repeat ((first | refine ld (by assumption) (by assumption) rfl ?_ | refine X8 (by assumption) (by assumption) rfl ?_ | refine Q8 (by assumption) ?_);(try simp only[↓M1,M1,Mb,reduceIte])))
 refine Er (fun x=> !p x) f.sat (C.up f) (fun x cs n K u g z m A=>?_) fun n q=>?_
 ·refine Y8 (Dc ?_)
  unfold Xy
  refine M8 g fun b r B c i=>?_
  refine X8 c.sat (k.up c) rfl ?_
  refine Y7 c.sat i m ?_
  refine y B x _ r _ (fun b o e=>c.le b o (f.le b o e)) u c.sat (Rep.up c.le z) m fun s j=>?_
  (try simp only[↓M1,M1,Mb,reduceIte])
  exact A s (bt c.bel j)
 ·(try simp only[↓M1,M1,Mb,reduceIte])
  rw[Jp]
  exact h n (bt f.bel q))
theorem Q0j {xs:List Cat} {v:Value} {fn:Fn} {l d:Array Value} (p:Cat→Bool) (t:X4 w σ) (C:Sl 4 Yo σ v xs)
 (y: ∀(σ1:Q4) x cs (w1:World) (K:Value→World→Prop),σ.Le σ1→x∈xs→X4 w1 σ1→Yo σ1 x cs→cs.length=4→(∀w',Below w1.heap.size w1 w'→K (.bool (p x)) w')→Z0 P (.func fn l d) [.agg cs.toArray] w1 K)
 (h: ∀w',Below w.heap.size w w'→K (.bool (xs.all p)) w'):Q0 P F.aq [v, .func fn l d] w K:=Hr (by
 unfold Jc
 refine M8 t fun a w1 σ1 f k=>?_
 simp only[Value.cells] at k
 ((try simp only[↓M1,M1,Mb,reduceIte]);repeat ((first | refine ld (by assumption) (by assumption) rfl ?_ | refine X8 (by assumption) (by assumption) rfl ?_ | refine Q8 (by assumption) ?_);(try simp only[↓M1,M1,Mb,reduceIte])))
 refine Dq (fun x=> !p x) f.sat (C.up f) (fun x cs n K u g z m A=>?_) fun n q=>?_
 ·refine Y8 (Ou ?_)
  unfold Yc
  refine M8 g fun b r B c i=>?_
  refine X8 c.sat (k.up c) rfl ?_
  refine Y7 c.sat i m ?_
  refine y B x _ r _ (fun b o e=>c.le b o (f.le b o e)) u c.sat (Rep.up c.le z) m fun s j=>?_
  (try simp only[↓M1,M1,Mb,reduceIte])
  exact A s (bt c.bel j)
 ·(try simp only[↓M1,M1,Mb,reduceIte])
  rw[Jp]
  exact h n (bt f.bel q))
theorem Cj {xs:List X0} {v:Value} {fn:Fn} {i c:Array Value} (p:X0→Bool) (l:X4 w σ) (r:Sl 1 Y0 σ v xs)
 (n: ∀(σ1:Q4) x (w1:World) (K:Value→World→Prop),σ.Le σ1→x∈xs→X4 w1 σ1→x.length≤J3→(∀w',Below w1.heap.size w1 w'→K (.bool (p x)) w')→Z0 P (.func fn i c) [S x] w1 K)
 (h: ∀w',Below w.heap.size w w'→K (.bool (xs.all p)) w'):Q0 P F.a4 [v, .func fn i c] w K:=Fb (by
 unfold Ww
 refine M8 l fun a w1 σ1 d g=>?_
 simp only[Value.cells] at g
 ((try simp only[↓M1,M1,Mb,reduceIte]);repeat ((first | refine ld (by assumption) (by assumption) rfl ?_ | refine X8 (by assumption) (by assumption) rfl ?_ | refine Q8 (by assumption) ?_);(try simp only[↓M1,M1,Mb,reduceIte])))
 refine B9 (fun x=> !p x) d.sat (r.up d) (fun x e K m b o q=>?_) fun e j=>?_
 ·refine Y8 (Ry ?_)
  unfold Jt
  refine X8 b g rfl ?_
  refine n σ1 x e _ d.le m b o fun k f=>?_
  (try simp only[↓M1,M1,Mb,reduceIte])
  exact q k f
 ·(try simp only[↓M1,M1,Mb,reduceIte])
  rw[Jp]
  exact h e (bt d.bel j))
theorem Q0h {xs:List Hm.Met} {v:Value} {fn:Fn} {E l:Array Value} (f:Hm.Met→X0) (hs:X4 w σ) (D:Sl 7 M5 σ v xs)
 (Z: ∀(σ1:Q4) x cs (w1:World) (K:Value→World→Prop),σ.Le σ1→X4 w1 σ1→M5 σ1 x cs→cs.length=7→(∀w',Below w1.heap.size w1 w'→K (S (f x)) w')→Z0 P (.func fn E l) [.agg cs.toArray] w1 K)
 (h: ∀w',Below w.heap.size w w'→K (.bool (E9 f [] xs)) w'):Q0 P F.am [v, .func fn E l] w K:=Hp (by
 unfold Jg
 refine M8 hs fun a w1 σ1 B X=>?_
 simp only[Value.cells] at X
 have N:=B.sat
 replace D:=D.up B
 ((try simp only[↓M1,M1,Mb,reduceIte]);repeat ((first | refine ld (by assumption) (by assumption) rfl ?_ | refine X8 (by assumption) (by assumption) rfl ?_ | refine Q8 (by assumption) ?_);(try simp only[↓M1,M1,Mb,reduceIte])))
 refine Z8 xs.length (fun n w'=>Below w1.heap.size w1 w'∧E9 f [] xs=E9 f (xs.take n) (xs.drop n)) ⟨Below.refl _ _,rfl⟩ fun n w2 d hn hi=>?_
 obtain ⟨j,r⟩:=hi
 have A:=N.below j
 ((try simp only[↓M1,M1,Mb,reduceIte]);repeat ((first | refine ld (by assumption) (by assumption) rfl ?_ | refine X8 (by assumption) (by assumption) rfl ?_ | refine Q8 (by assumption) ?_);(try simp only[↓M1,M1,Mb,reduceIte])))
 refine Q5 (fun O=>?_) (fun O=>?_)
 ·have k:n<xs.length:=by simpa using O
  rw[List.drop_eq_getElem_cons k] at r
  simp only[E9] at r
  refine L7 D k fun p cs hl g hr=>?_
  refine Y7 A hl g ?_
  refine Y6 A (by rfl) g (Rep.one hr) fun q w3 σ3 i hq=>?_
  refine Cp (D.up i) none (some (I n)) 0 n (.inl ⟨rfl,rfl⟩) (.inr rfl) (by omega) (by omega) fun v' M=>?_
  ((try simp only[↓M1,M1,Mb,reduceIte]);repeat ((first | refine ld (by assumption) (by assumption) rfl ?_ | refine X8 (by assumption) (by assumption) rfl ?_ | refine Q8 (by assumption) ?_);(try simp only[↓M1,M1,Mb,reduceIte])))
  refine H8 (fun y=>decide (f y=f xs[n])) i.sat M (fun y ys Y K hy R Q C hK=>?_) fun Y W=>?_
  ·refine Y8 (Ov ?_)
   unfold Xz
   refine M8 R fun b w5 U c L=>?_
   have z:=(X.up i).up c
   have V:=hq.up c
   have m:σ.Le U:=fun b o e=>c.le b o (i.le b o (B.le b o e))
   refine Mu (Below.refl _ _) ?_
   refine X2 (.func fn E l) (fun w j=>X8 (c.sat.below j) z rfl (X5 rfl)) ?_
   refine X2 (.agg ys.toArray) (fun w j=>Y7 (c.sat.below j) L C (X5 rfl)) ?_
   refine X2 (S (f y)) (fun t t' w j e e'=>by rw[e,e'];exact Z U y ys w _ m (c.sat.below j) (Rep.up c.le Q) C fun w' H=>Q1B H rfl) ?_
   refine X2 (.func fn E l) (fun w j=>X8 (c.sat.below j) z rfl (X5 rfl)) ?_
   refine X2 (.agg cs.toArray) (fun w j=>Y7 (c.sat.below j) V g (X5 rfl)) ?_
   rintro _ _ _ _ _ w6 u rfl rfl rfl rfl rfl
   refine Z U xs[n] cs w6 _ m (c.sat.below u) (Rep.up (fun b o e=>c.le b o (i.le b o e)) hr) g fun w7 J=>?_
   (try simp only[↓M1,M1,Mb,reduceIte])
   exact hK w7 (bt (bt c.bel u) J)
  ·have s:=bt j (bt i.bel W)
   simp only[List.drop_zero,Nat.sub_zero] at*
   refine Q5 (fun hh=>?_) (fun hh=>?_)
   ·rw[hh] at r
    have:=h Y (bt B.bel s)
    rw[r] at this;exact this
   ·rw[hh] at r
    ((try simp only[↓M1,M1,Mb,reduceIte]);repeat ((first | refine ld (by assumption) (by assumption) rfl ?_ | refine X8 (by assumption) (by assumption) rfl ?_ | refine Q8 (by assumption) ?_);(try simp only[↓M1,M1,Mb,reduceIte])))
    refine Y2 D.max k ⟨s,?_⟩
    rw[r,List.take_add_one,List.getElem?_eq_getElem k];rfl
 ·have k: ¬n<xs.length:=by simpa using O
  rw[List.drop_eq_nil_of_le (by omega)] at r
  have:=h w2 (bt B.bel j)
  rw[r] at this;exact this)
theorem Q0T {xs:List Fld} {v:Value} {fn:Fn} {E l:Array Value} (f:Fld→X0) (hs:X4 w σ) (D:Sl 3 E0 σ v xs)
 (Z: ∀(σ1:Q4) x cs (w1:World) (K:Value→World→Prop),σ.Le σ1→X4 w1 σ1→E0 σ1 x cs→cs.length=3→(∀w',Below w1.heap.size w1 w'→K (S (f x)) w')→Z0 P (.func fn E l) [.agg cs.toArray] w1 K)
 (h: ∀w',Below w.heap.size w w'→K (.bool (E9 f [] xs)) w'):Q0 P F.aw [v, .func fn E l] w K:=Ru (by
 unfold Ju
 refine M8 hs fun a w1 σ1 B X=>?_
 simp only[Value.cells] at X
 have N:=B.sat
 replace D:=D.up B
 ((try simp only[↓M1,M1,Mb,reduceIte]);repeat ((first | refine ld (by assumption) (by assumption) rfl ?_ | refine X8 (by assumption) (by assumption) rfl ?_ | refine Q8 (by assumption) ?_);(try simp only[↓M1,M1,Mb,reduceIte])))
 refine Z8 xs.length (fun n w'=>Below w1.heap.size w1 w'∧E9 f [] xs=E9 f (xs.take n) (xs.drop n)) ⟨Below.refl _ _,rfl⟩ fun n w2 d hn hi=>?_
 obtain ⟨j,r⟩:=hi
 have A:=N.below j
 ((try simp only[↓M1,M1,Mb,reduceIte]);repeat ((first | refine ld (by assumption) (by assumption) rfl ?_ | refine X8 (by assumption) (by assumption) rfl ?_ | refine Q8 (by assumption) ?_);(try simp only[↓M1,M1,Mb,reduceIte])))
 refine Q5 (fun O=>?_) (fun O=>?_)
 ·have k:n<xs.length:=by simpa using O
  rw[List.drop_eq_getElem_cons k] at r
  simp only[E9] at r
  refine L7 D k fun p cs hl g hr=>?_
  refine Y7 A hl g ?_
  refine Y6 A (by rfl) g (Rep.one hr) fun q w3 σ3 i hq=>?_
  refine Cp (D.up i) none (some (I n)) 0 n (.inl ⟨rfl,rfl⟩) (.inr rfl) (by omega) (by omega) fun v' M=>?_
  ((try simp only[↓M1,M1,Mb,reduceIte]);repeat ((first | refine ld (by assumption) (by assumption) rfl ?_ | refine X8 (by assumption) (by assumption) rfl ?_ | refine Q8 (by assumption) ?_);(try simp only[↓M1,M1,Mb,reduceIte])))
  refine Ze (fun y=>decide (f y=f xs[n])) i.sat M (fun y ys Y K hy R Q C hK=>?_) fun Y W=>?_
  ·refine Y8 (Ey ?_)
   unfold Zk
   refine M8 R fun b w5 U c L=>?_
   have z:=(X.up i).up c
   have V:=hq.up c
   have m:σ.Le U:=fun b o e=>c.le b o (i.le b o (B.le b o e))
   refine Mu (Below.refl _ _) ?_
   refine X2 (.func fn E l) (fun w j=>X8 (c.sat.below j) z rfl (X5 rfl)) ?_
   refine X2 (.agg ys.toArray) (fun w j=>Y7 (c.sat.below j) L C (X5 rfl)) ?_
   refine X2 (S (f y)) (fun t t' w j e e'=>by rw[e,e'];exact Z U y ys w _ m (c.sat.below j) (Rep.up c.le Q) C fun w' H=>Q1B H rfl) ?_
   refine X2 (.func fn E l) (fun w j=>X8 (c.sat.below j) z rfl (X5 rfl)) ?_
   refine X2 (.agg cs.toArray) (fun w j=>Y7 (c.sat.below j) V g (X5 rfl)) ?_
   rintro _ _ _ _ _ w6 u rfl rfl rfl rfl rfl
   refine Z U xs[n] cs w6 _ m (c.sat.below u) (Rep.up (fun b o e=>c.le b o (i.le b o e)) hr) g fun w7 J=>?_
   (try simp only[↓M1,M1,Mb,reduceIte])
   exact hK w7 (bt (bt c.bel u) J)
  ·have s:=bt j (bt i.bel W)
   simp only[List.drop_zero,Nat.sub_zero] at*
   refine Q5 (fun hh=>?_) (fun hh=>?_)
   ·rw[hh] at r
    have:=h Y (bt B.bel s)
    rw[r] at this;exact this
   ·rw[hh] at r
    ((try simp only[↓M1,M1,Mb,reduceIte]);repeat ((first | refine ld (by assumption) (by assumption) rfl ?_ | refine X8 (by assumption) (by assumption) rfl ?_ | refine Q8 (by assumption) ?_);(try simp only[↓M1,M1,Mb,reduceIte])))
    refine Y2 D.max k ⟨s,?_⟩
    rw[r,List.take_add_one,List.getElem?_eq_getElem k];rfl
 ·have k: ¬n<xs.length:=by simpa using O
  rw[List.drop_eq_nil_of_le (by omega)] at r
  have:=h w2 (bt B.bel j)
  rw[r] at this;exact this)
theorem Q3o {xs:List X0} {v:Value} {fn:Fn} {D k:Array Value} (f:X0→X0) (X:X4 w σ) (C:Sl 1 Y0 σ v xs)
 (W: ∀(σ1:Q4) x (w1:World) (K:Value→World→Prop),σ.Le σ1→X4 w1 σ1→x.length≤J3→(∀w',Below w1.heap.size w1 w'→K (S (f x)) w')→Z0 P (.func fn D k) [S x] w1 K)
 (h: ∀w',Below w.heap.size w w'→K (.bool (E9 f [] xs)) w'):Q0 P F.aI [v, .func fn D k] w K:=Im (by
 unfold Mc
 refine M8 X fun a w1 σ1 A R=>?_
 simp only[Value.cells] at R
 have L:=A.sat
 replace C:=C.up A
 ((try simp only[↓M1,M1,Mb,reduceIte]);repeat ((first | refine ld (by assumption) (by assumption) rfl ?_ | refine X8 (by assumption) (by assumption) rfl ?_ | refine Q8 (by assumption) ?_);(try simp only[↓M1,M1,Mb,reduceIte])))
 refine Z8 xs.length (fun n w'=>Below w1.heap.size w1 w'∧E9 f [] xs=E9 f (xs.take n) (xs.drop n)) ⟨Below.refl _ _,rfl⟩ fun n Z d hn hi=>?_
 obtain ⟨g,m⟩:=hi
 have z:=L.below g
 ((try simp only[↓M1,M1,Mb,reduceIte]);repeat ((first | refine ld (by assumption) (by assumption) rfl ?_ | refine X8 (by assumption) (by assumption) rfl ?_ | refine Q8 (by assumption) ?_);(try simp only[↓M1,M1,Mb,reduceIte])))
 refine Q5 (fun M=>?_) (fun M=>?_)
 ·have j:n<xs.length:=by simpa using M
  rw[List.drop_eq_getElem_cons j] at m
  simp only[E9] at m
  refine L7 C j fun p cs Y V hr=>?_
  obtain ⟨rfl,B⟩:=hr
  refine X8 z Y rfl ?_
  refine U0 z (by rfl) rfl rfl fun q w3 O c hq=>?_
  refine Cp (C.up c) none (some (I n)) 0 n (.inl ⟨rfl,rfl⟩) (.inr rfl) (by omega) (by omega) fun v' J=>?_
  ((try simp only[↓M1,M1,Mb,reduceIte]);repeat ((first | refine ld (by assumption) (by assumption) rfl ?_ | refine X8 (by assumption) (by assumption) rfl ?_ | refine Q8 (by assumption) ?_);(try simp only[↓M1,M1,Mb,reduceIte])))
  refine B9 (fun y=>decide (f y=f xs[n])) c.sat J (fun y U K hy i N hK=>?_) fun U Q=>?_
  ·refine Y8 (So ?_)
   unfold Vb
   have u:=R.up c
   have l:σ.Le O:=fun b o e=>c.le b o (A.le b o e)
   refine Mu (Below.refl _ _) ?_
   refine X2 (.func fn D k) (fun w g=>X8 (i.below g) u rfl (X5 rfl)) ?_
   refine X2 (S (f y)) (fun t w g e=>by rw[e];exact W O y w _ l (i.below g) N fun w' E=>Q1B E rfl) ?_
   refine X2 (.func fn D k) (fun w g=>X8 (i.below g) u rfl (X5 rfl)) ?_
   refine X2 (S xs[n]) (fun w g=>X8 (i.below g) hq rfl (X5 rfl)) ?_
   rintro _ _ _ _ w6 s rfl rfl rfl rfl
   refine W O xs[n] w6 _ l (i.below s) B fun w7 H=>?_
   (try simp only[↓M1,M1,Mb,reduceIte])
   exact hK w7 (bt s H)
  ·have r:=bt g (bt c.bel Q)
   simp only[List.drop_zero,Nat.sub_zero] at*
   refine Q5 (fun hh=>?_) (fun hh=>?_)
   ·rw[hh] at m
    have:=h U (bt A.bel r)
    rw[m] at this;exact this
   ·rw[hh] at m
    ((try simp only[↓M1,M1,Mb,reduceIte]);repeat ((first | refine ld (by assumption) (by assumption) rfl ?_ | refine X8 (by assumption) (by assumption) rfl ?_ | refine Q8 (by assumption) ?_);(try simp only[↓M1,M1,Mb,reduceIte])))
    refine Y2 C.max j ⟨r,?_⟩
    rw[m,List.take_add_one,List.getElem?_eq_getElem j];rfl
 ·have j: ¬n<xs.length:=by simpa using M
  rw[List.drop_eq_nil_of_le (by omega)] at m
  have:=h Z (bt A.bel g)
  rw[m] at this;exact this)
theorem Q5o {P:Program} {w:World} (d:Nat) (t e:TypeId) (a:Option Addr) (n c:Nat) (h:P.underlying t=some (.slice e)):
 (Op.equalIn (d+1) t (.slice a n c) (.slice none 0 0)).run P w= .ok a.isNone w:=by
 cases a<;>simp[Op.equalIn,run_underlying h]
theorem Ca {t e:TypeId} {d i:Operand} [ts:TS P t e] {a:Option Addr} {n c:Nat} {b:Bool} (g:a.isNone=b) (j:K (.bool b) w):Q3 P .eql t d i (.slice a n c) (.slice none 0 0) w K:=by
 have f:(Op.equal t (.slice a n c) (.slice none 0 0)).run P w= .ok b w:=by
  have:=Q5o (P:=P) (w:=w) 9999 t e a n c ts.h
  rw[g] at this
  exact this
 unfold Q3
 rw[X9 (v:= .bool b) (w':=w) (by simp[eqGuard,Go.binOp,f])]
 exact j
theorem Ve {xs:List X0} {v:Value} (f:X4 w σ) (i:Sl 1 Y0 σ v xs) (y:xs.length≤1000000)
 (h: ∀e w' b,Stp w σ w' b→Sl 1 Y0 b e xs→K e w'):Q0 P F.b [v] w K:=I9 (by
 unfold R1
 have c:=i
 obtain ⟨a,n,rfl,t,C,l,B⟩:=i
 refine Ca rfl ?_
 refine Q5 (fun g=>?_) (fun g=>?_)
 ·have:a=none:=by simpa using g
  have z:=l this
  have o:xs=[]:=List.eq_nil_of_length_eq_zero (by omega)
  subst o
  exact h _ w σ (Stp.refl f) Sl.nil
 ·refine Qh (R:=Y0) (sz:=1) (Stp.refl f) [] [] rfl rfl (by simp) (by rfl) trivial fun s w1 k j _=>?_
  refine app k j c (by rfl) (by simp only[List.length_nil];omega) (by simp only[List.length_nil];omega) fun u m A p d _=>?_
  obtain ⟨b,q,r,_⟩:=d.keep p
  exact h _ m b q r)
theorem Np {xs:List Fld} {v:Value} (f:X4 w σ) (i:Sl 3 E0 σ v xs) (y:xs.length≤1000000)
 (h: ∀e w' b,Stp w σ w' b→Sl 3 E0 b e xs→K e w'):Q0 P F.a7 [v] w K:=Yv (by
 unfold B3
 have c:=i
 obtain ⟨a,n,rfl,t,C,l,B⟩:=i
 refine Ca rfl ?_
 refine Q5 (fun g=>?_) (fun g=>?_)
 ·have:a=none:=by simpa using g
  have z:=l this
  have o:xs=[]:=List.eq_nil_of_length_eq_zero (by omega)
  subst o
  exact h _ w σ (Stp.refl f) Sl.nil
 ·refine Qh (R:=E0) (sz:=3) (Stp.refl f) [] [] rfl rfl (by simp) (by rfl) trivial fun s w1 k j _=>?_
  refine app k j c (by rfl) (by simp only[List.length_nil];omega) (by simp only[List.length_nil];omega) fun u m A p d _=>?_
  obtain ⟨b,q,r,_⟩:=d.keep p
  exact h _ m b q r)
theorem Oc {xs:List Ins} {v:Value} (f:X4 w σ) (i:Sl 3 I3 σ v xs) (y:xs.length≤1000000)
 (h: ∀e w' b,Stp w σ w' b→Sl 3 I3 b e xs→K e w'):Q0 P F.a8 [v] w K:=Ys (by
 unfold B4
 have c:=i
 obtain ⟨a,n,rfl,t,C,l,B⟩:=i
 refine Ca rfl ?_
 refine Q5 (fun g=>?_) (fun g=>?_)
 ·have:a=none:=by simpa using g
  have z:=l this
  have o:xs=[]:=List.eq_nil_of_length_eq_zero (by omega)
  subst o
  exact h _ w σ (Stp.refl f) Sl.nil
 ·refine Qh (R:=I3) (sz:=3) (Stp.refl f) [] [] rfl rfl (by simp) (by rfl) trivial fun s w1 k j _=>?_
  refine app k j c (by rfl) (by simp only[List.length_nil];omega) (by simp only[List.length_nil];omega) fun u m A p d _=>?_
  obtain ⟨b,q,r,_⟩:=d.keep p
  exact h _ m b q r)
theorem Nq {xs:List Cat} {v:Value} (f:X4 w σ) (i:Sl 4 Yo σ v xs) (y:xs.length≤1000000)
 (h: ∀e w' b,Stp w σ w' b→Sl 4 Yo b e xs→K e w'):Q0 P F.a9 [v] w K:=Zg (by
 unfold B7
 have c:=i
 obtain ⟨a,n,rfl,t,C,l,B⟩:=i
 refine Ca rfl ?_
 refine Q5 (fun g=>?_) (fun g=>?_)
 ·have:a=none:=by simpa using g
  have z:=l this
  have o:xs=[]:=List.eq_nil_of_length_eq_zero (by omega)
  subst o
  exact h _ w σ (Stp.refl f) Sl.nil
 ·refine Qh (R:=Yo) (sz:=4) (Stp.refl f) [] [] rfl rfl (by simp) (by rfl) trivial fun s w1 k j _=>?_
  refine app k j c (by rfl) (by simp only[List.length_nil];omega) (by simp only[List.length_nil];omega) fun u m A p d _=>?_
  obtain ⟨b,q,r,_⟩:=d.keep p
  exact h _ m b q r)
end Go.Proofs.YtfppjenblllfaaaGreatDoor

namespace Go.Hm
open Go.Kd
structure Opr where
  name : X0
  number : Bool
  text : Bool
deriving DecidableEq
def Zd:List Opr:=[
 ⟨[105,110,116],true,false⟩,
 ⟨[116,114,117,101],false,false⟩,
 ⟨[102,97,108,115,101],false,false⟩,
 ⟨[119,111,114,100],false,true⟩,
 ⟨[110,117,108,108],false,false⟩,
 ⟨[108,111,97,100],true,false⟩,
 ⟨[115,116,111,114,101],true,false⟩,
 ⟨[112,111,112],false,false⟩,
 ⟨[100,117,112],false,false⟩,
 ⟨[115,119,97,112],false,false⟩,
 ⟨[97,100,100],false,false⟩,
 ⟨[115,117,98],false,false⟩,
 ⟨[109,117,108],false,false⟩,
 ⟨[100,105,118],false,false⟩,
 ⟨[114,101,109],false,false⟩,
 ⟨[110,101,103],false,false⟩,
 ⟨[108,101,115,115],false,false⟩,
 ⟨[115,97,109,101],false,false⟩,
 ⟨[110,111,116],false,false⟩,
 ⟨[98,111,116,104],false,false⟩,
 ⟨[106,111,105,110],false,false⟩,
 ⟨[115,105,122,101],false,false⟩,
 ⟨[106,117,109,112],true,false⟩,
 ⟨[98,114,97,110,99,104],true,false⟩,
 ⟨[110,101,119],false,true⟩,
 ⟨[103,101,116],false,true⟩,
 ⟨[112,117,116],false,true⟩,
 ⟨[99,97,108,108],false,true⟩,
 ⟨[97,114,114,97,121],false,true⟩,
 ⟨[97,116],false,false⟩,
 ⟨[115,101,116],false,false⟩,
 ⟨[105,115],false,true⟩,
 ⟨[99,97,115,116],false,true⟩,
 ⟨[114,101,116,117,114,110],false,false⟩,
 ⟨[116,104,114,111,119],false,false⟩,
 ⟨[111,117,116],false,false⟩,
 ⟨[101,113,117,97,108],false,false⟩,
 ⟨[97,110,100],false,false⟩,
 ⟨[111,114],false,false⟩,
 ⟨[120,111,114],false,false⟩,
 ⟨[115,104,108],false,false⟩,
 ⟨[115,104,114],false,false⟩]
end Go.Hm
namespace Go.Emb
open Go.Hm
def ROp (_:Q4) (o:Opr) (cs:List Value):Prop:=cs=[S o.name, .bool o.number, .bool o.text]
def cOp (o:Opr):List Value:=[S o.name, .bool o.number, .bool o.text]
instance:Rep ROp:=⟨fun _ h=>h,fun h u hu=>by rw[h] at hu;simp at hu;rcases hu with rfl | rfl | rfl<;>rfl⟩
end Go.Emb
namespace Go.Proofs.YtfppjenblllfaaaGreatDoor
open Go.Emb Go.RowKit Go.Kd Go.Hm
variable {w : World} {K : Value → World → Prop} {σ : Q4}
theorem Q4G {a:X0} (j:a.length≤J3) (h: ∀w',Below w.heap.size w w'→K (.bool (L5 a)) w'):Q0 P F.bv [S a] w K:=Q27 (by
 unfold Ck
 have b:a.length≤140737488355328:=by simp only[J3] at j;omega
 refine Q3Z a b fun w1 f=>?_
 cases d:name a
 ·(try simp only[↓M1,M1,Mb,reduceIte])
  have:=h w1 f
  rwa [show L5 a=false by cases a with | nil=>rfl | cons c r=>simp[L5,d]] at this
 ·(try simp only[↓M1,M1,Mb,reduceIte])
  refine Dl a b fun l k=>?_
  (try simp only[↓M1,M1,Mb,reduceIte])
  have:=h l (bt f k)
  rwa [show L5 a= !W6 a by
   cases a with
   | nil=>simp[name] at d
   | cons c r=>
    obtain ⟨i,m⟩:=Fs d
    simp only[W6,L5,d,Bool.true_and]
    simp only[E1,m,Bool.or_false] at i
    cases g:T3 c.toNat<;>cases e:I0 c.toNat
    ·simp[g,e] at i
    ·rfl
    ·rfl
    ·exfalso
     simp only[T3,I0,Bool.and_eq_true,decide_eq_true_eq] at g e
     omega] at this)
theorem X0p {t e:TypeId} {n sz by_:Nat} {z:Value} [ta:TA P t n e] [tz:TZ P e sz by_ z] {a:Addr} (c:K (.slice (some a) n n) w):H3 P t (.pointer (some a)) none none none w K:=by
 unfold H3
 have:(Instr.sliceAt t (.pointer (some a)) none none none).run P w= .ok (.slice (some (if n=0 then a else a.add (0*sz))) (n-0) (n-0)) w:=by
  simp[Instr.sliceAt,run_underlying ta.h,Instr.sureAddr,Instr.sliceBounds,W4 tz]
 rw[X9 this]
 have b:(if n=0 then a else a.add (0*sz))=a:=by
  by_cases h:n=0
  ·rw[if_pos h]
  ·rw[if_neg h,Nat.zero_mul,add_zero]
 rw[b];exact c
def Q18 (σ:Q4):Prop:=Z2 σ ⟨G.a,0,none⟩ (Zd.flatMap cOp)
theorem Q6p (i:Nat) (o:Opr) (h:Zd[i]? =some o):((Zd.flatMap cOp).drop (i*3)).take 3=cOp o:=by
 have c:i<42:=(List.getElem?_eq_some_iff.1 h).1
 have key: ∀l:List Opr,∀i o,l[i]? =some o→((l.flatMap cOp).drop (i*3)).take 3=cOp o:=by
  intro l
  induction l with
  | nil=>intro i o h;simp at h
  | cons a r b=>
   intro i o h
   cases i with
   | zero=>simp at h;subst h;rfl
   | succ i=>
    have:=b i o (by simpa using h)
    rw[List.flatMap_cons,show (i+1)*3=(cOp a).length+i*3 by simp[cOp];omega,List.drop_append]
    simpa [List.drop_eq_nil_of_le] using this
 exact key _ i o h
theorem Q1u {σ:Q4} {a:Addr} {cs:List Value} (h:Z2 σ a cs) (i n:Nat):Z2 σ (a.add i) ((cs.drop i).take n):=by
 obtain ⟨d,H5,e,c,g,f⟩:=h
 refine ⟨G5 d _,H5,e,c,by rw[C1];exact g,fun j v b=>?_⟩
 rw[List.getElem?_take] at b
 split at b
 ·rw[List.getElem?_drop] at b
  rw[Xq,Nat.add_assoc];exact f _ _ b
 ·cases b
theorem X1h (h:Q18 σ):Sl 3 ROp σ (.slice (some ⟨G.a,0,none⟩) 42 42) Zd:=by
 refine ⟨_,42,rfl,by decide,by decide,by simp,?_⟩
 rintro _ ⟨⟩
 refine ⟨fun _=>rfl,fun i x a=>⟨cOp x,?_,rfl,rfl⟩⟩
 rw[←Q6p i x a]
 exact Q1u h (i*3) 3
theorem Iw {β:Type} {xs:List Opr} {v f:Value} (a:β→Opr→Bool×β) (i:β) (b:β→World→Prop) (D:Nat→Prop) (k: ∀s w,b s w→X4 w σ) (A:b i w) (u:Sl 3 ROp σ v xs)
 (B: ∀s x cs (w1:World) (K:Value→World→Prop),x∈xs→Kpt D w w1→b s w1→ROp σ x cs→cs.length=3→(∀w',Kpt D w w'→b (a s x).2 w'→K (.bool (a s x).1) w')→Z0 P f [.agg cs.toArray] w1 K)
 (h: ∀w',Kpt D w w'→b (Z9 a i xs 0).2 w'→K (I (W5 (Z9 a i xs 0).1)) w'):Q0 P F.r [v,f] w K:=Yu (by
 unfold B6
 ((try simp only[↓M1,M1,Mb,reduceIte]);repeat ((first | refine ld (by assumption) (by assumption) rfl ?_ | refine X8 (by assumption) (by assumption) rfl ?_ | refine Q8 (by assumption) ?_);(try simp only[↓M1,M1,Mb,reduceIte])))
 refine Z8 xs.length (fun n w'=>Kpt D w w'∧ ∃s,b s w'∧Z9 a i xs 0=Z9 a s (xs.drop n) n) ⟨Kpt.refl,i,A,rfl⟩ fun n w1 d E l=>?_
 obtain ⟨t,s,l,e⟩:=l
 have q:=k s w1 l
 ((try simp only[↓M1,M1,Mb,reduceIte]);repeat ((first | refine ld (by assumption) (by assumption) rfl ?_ | refine X8 (by assumption) (by assumption) rfl ?_ | refine Q8 (by assumption) ?_);(try simp only[↓M1,M1,Mb,reduceIte])))
 refine Q5 (fun r=>?_) (fun r=>?_)
 ·have c:n<xs.length:=by simpa using r
  refine L7 u c fun p cs y g C=>?_
  refine Y7 q y g ?_
  refine B s xs[n] cs w1 _ (List.getElem_mem c) t l C g fun z j m=>?_
  rw[List.drop_eq_getElem_cons c] at e
  simp only[Z9] at e
  refine Q5 (fun o=>?_) (fun o=>?_)
  ·rw[o] at e
   have:=h z j
   rw[e] at this
   exact this m
  ·rw[o] at e
   ((try simp only[↓M1,M1,Mb,reduceIte]);repeat ((first | refine ld (by assumption) (by assumption) rfl ?_ | refine X8 (by assumption) (by assumption) rfl ?_ | refine Q8 (by assumption) ?_);(try simp only[↓M1,M1,Mb,reduceIte])))
   exact Y2 u.max c ⟨j,_,m,by simpa using e⟩
 ·have c: ¬n<xs.length:=by simpa using r
  rw[List.drop_eq_nil_of_le (by omega)] at e
  have:=h w1 t
  rw[e] at this
  exact this l)
theorem Ix {xs:List Opr} {v f:Value} (p:Opr→Bool) (hs:X4 w σ) (hv:Sl 3 ROp σ v xs)
 (hf: ∀x cs (w1:World) (K:Value→World→Prop),x∈xs→X4 w1 σ→ROp σ x cs→cs.length=3→(∀w',Below w1.heap.size w1 w'→K (.bool (p x)) w')→Z0 P f [.agg cs.toArray] w1 K)
 (h: ∀w',Below w.heap.size w w'→K (I (W5 (xs.findIdx? p))) w'):Q0 P F.r [v,f] w K:=by
 refine Iw (fun (_:Unit) x=>(p x,())) () (fun _ w'=>Below w.heap.size w w') (fun _=>False) (fun _ w' hb=>hs.below hb) (Below.refl _ _) hv (fun s x cs w1 K hx hk hi hr hl hK=>hf x cs w1 K hx (hs.below hi) hr hl fun w' hb=>hK w' (.of_below (bt hi hb)) (bt hi hb)) fun w' hk hi=>?_
 rw[K2]
 simpa using h w' hi
theorem Q18.le {σ a:Q4} (h:Q18 σ) (c: ∀b o,σ b=some o→a b=some o):Q18 a:=Z2.le h c
def I5 (n:X0):Option Nat:=Zd.findIdx? fun o=>decide (o.name=n)
theorem X1E {a:X0} (l:X4 w σ) (t:Q18 σ) (h: ∀w',Below w.heap.size w w'→K (I (W5 (I5 a))) w'):Q0 P F.cC [S a] w K:=Q5b (by
 unfold Q0t
 refine M8 l fun p w1 σ1 e g=>?_
 simp only[Value.cells] at g
 refine X0p ?_
 ((try simp only[↓M1,M1,Mb,reduceIte]);repeat ((first | refine ld (by assumption) (by assumption) rfl ?_ | refine X8 (by assumption) (by assumption) rfl ?_ | refine Q8 (by assumption) ?_);(try simp only[↓M1,M1,Mb,reduceIte])))
 refine Ix (fun o=>decide (o.name=a)) e.sat (X1h (t.le e.le)) (fun x cs f K v c r u s=>?_) fun f i=>?_
 ·refine Y8 (Q3t ?_)
  unfold Gu
  refine M8 c fun q k y b n=>?_
  have d:cs=[S x.name, .bool x.number, .bool x.text]:=r
  subst d
  have j:=b.sat
  have m:=g.up b
  simp only[Value.cells] at n
  ((try simp only[↓M1,M1,Mb,reduceIte]);repeat ((first | refine ld (by assumption) (by assumption) rfl ?_ | refine X8 (by assumption) (by assumption) rfl ?_ | refine Q8 (by assumption) ?_);(try simp only[↓M1,M1,Mb,reduceIte])))
  exact s k b.bel
 ·(try simp only[↓M1,M1,Mb,reduceIte])
  exact h f (bt e.bel i))
def takes (n:X0):Bool×Bool×Bool:=match I5 n with
 | none=>(false,false,false)
 | some i=>((Zd.getD i ⟨[],false,false⟩).number,(Zd.getD i ⟨[],false,false⟩).text,true)
theorem X0s {a:X0} (j:X4 w σ) (k:Q18 σ) (h: ∀w',Below w.heap.size w w'→K (.tuple #[.bool (takes a).1, .bool (takes a).2.1, .bool (takes a).2.2]) w'):Q0 P F.bV [S a] w K:=Q4T (by
 unfold Ae
 refine X1E j k fun w1 b=>?_
 have c:=j.below b
 unfold takes at h
 cases g:I5 a with
 | none=>
  rw[g] at h
  simp only[W5]
  (try simp only[↓M1,M1,Mb,reduceIte])
  simp only[show decide ((-1:Int)<0)=true from rfl,↓M1,M1,Mb,reduceIte]
  exact h w1 b
 | some i=>
  rw[g] at h
  simp only at h
  have p:i<42:=(List.findIdx?_eq_some_iff_getElem.1 g).1
  have l:Zd[i]? =some (Zd.getD i ⟨[],false,false⟩):=by
   rw[List.getD,List.getElem?_eq_getElem (by exact p)];rfl
  generalize Zd.getD i ⟨[],false,false⟩=o at h l
  have d:=Q1u k (i*3) 3
  rw[Q6p i o l] at d
  simp only[W5]
  have m:decide ((i:Int)<0)=false:=by simp
  simp only[m,↓M1,M1,Mb,reduceIte]
  have A: ∀{w:World} {K:Value→World→Prop},K (.pointer (some ((⟨G.a,0,none⟩:Addr).add (i*3)))) w→indexAddr P T.a8 (.pointer (some ⟨G.a,0,none⟩)) (I i) w K:=by
   intro w K h
   rw[Q82 (by omega) (by omega)]
   simpa using h
  refine Mu (Below.refl _ _) ?_
  refine X2 (.pointer (some ((⟨G.a,0,none⟩:Addr).add (i*3)))) (fun w b=>A (X5 rfl)) ?_
  refine X2 (.pointer (some (((⟨G.a,0,none⟩:Addr).add (i*3)).add 1))) (fun t w b e=>by rw[e,fa];exact X5 rfl) ?_
  refine X2 (.pointer (some ((⟨G.a,0,none⟩:Addr).add (i*3)))) (fun w b=>A (X5 rfl)) ?_
  refine X2 (.pointer (some (((⟨G.a,0,none⟩:Addr).add (i*3)).add 2))) (fun t w b e=>by rw[e,fa];exact X5 rfl) ?_
  refine X2 (.bool o.number) (fun t w b e=>by rw[e];exact ld (c.below b) d rfl (X5 rfl)) ?_
  refine X2 (.bool o.text) (fun t w b e=>by rw[e];exact ld (c.below b) d rfl (X5 rfl)) ?_
  rintro _ _ _ _ _ _ n f rfl rfl rfl rfl rfl rfl
  exact h n (bt b f))
end Go.Proofs.YtfppjenblllfaaaGreatDoor

namespace Go.Emb
open Go.RowKit Go.Hm
variable {P : Program} {w w0 w1 w' w'' : World} {K : Value → World → Prop} {σ σ0 σ1 σ' : Q4}
structure SLe (σ σ' : Q4) : Prop where
  le : ∀ b o, σ b = some o → σ' b = some o
theorem SLe.refl (σ:Q4):SLe σ σ:=⟨fun _ _ h=>h⟩
theorem SLe.step {w w':World} (h:SLe σ0 σ) (k:Stp w σ w' σ'):SLe σ0 σ':=⟨fun b o e=>k.le b o (h.le b o e)⟩
theorem SLe.more (h:SLe σ0 σ) (k:SLe σ σ'):SLe σ0 σ':=⟨fun b o e=>k.le b o (h.le b o e)⟩
structure Hst (w : World) (σ : Q4) (w' : World) (σ' : Q4) : Prop where
  stp : Stp w σ w' σ'
theorem Hst.sat (h:Hst w σ w' σ'):X4 w' σ':=h.stp.sat
section lifts
variable {α : Type} {R : Q4 → α → List Value → Prop} {sz : Nat} {v : Value} {xs : List α} {a : Addr} {cs : List Value}
theorem Sl.lift [Rep R] (h:Sl sz R σ0 v xs) (k:SLe σ0 σ):Sl sz R σ v xs:=h.le k.le
theorem Z2.lift (h:Z2 σ0 a cs) (k:SLe σ0 σ):Z2 σ a cs:=h.le k.le
theorem I2.lift {r:Nat} {m:List (List UInt8×Value)} (h:I2 σ0 r m) (k:SLe σ0 σ):I2 σ r m:=h.le k.le
theorem RMe_lift {x:Hm.Met} (h:M5 σ0 x cs) (k:SLe σ0 σ):M5 σ x cs:=Rep.up k.le h
theorem RCl_lift {x:Cla} (h:U5 σ0 x cs) (k:SLe σ0 σ):U5 σ x cs:=Rep.up k.le h
theorem RFd_any {x:Fld} (h:E0 σ0 x cs):E0 σ x cs:=h
theorem RIn_any {x:Ins} (h:I3 σ0 x cs):I3 σ x cs:=h
theorem RCa_any {x:Cat} (h:Yo σ0 x cs):Yo σ x cs:=h
theorem Z5.step {b:Nat} (h:Z5 σ w b cs) (k:Stp w σ w' σ'):Z5 σ' w' b cs:=h.up k
theorem V5.step [Rep R] {B:Nat} {e:TypeId} (h:V5 B e sz R σ w v xs) (k:Stp w σ w' σ'):V5 B e sz R σ' w' v xs:=h.up k
end lifts
theorem W2 {Q:World→Prop} (c:X4 w σ) (h: ∀w' σ',Stp w σ w' σ'→Q w'): ∀w',Below w.heap.size w w'→Q w':=fun w' d=>h w' σ (Stp.of_below c d)
section plain
variable {k : IntKind} {t : TypeId} {ox oy : Operand} {a b : Int} {x y : Bool} {s u : List UInt8}
theorem D5 (h:K (.int k (k.wrap (a+b))) w):Q3 P .add t ox oy (.int k a) (.int k b) w K:=by rw[Ch];exact h
theorem Q9J (h:K (.int k (k.wrap (a-b))) w):Q3 P .sub t ox oy (.int k a) (.int k b) w K:=by rw[Au];exact h
theorem Cw (c: -9223372036854775808≤a+b∧a+b≤9223372036854775807) (h:K (I (a+b)) w):Q3 P .add t ox oy (I a) (I b) w K:=by rw[Ch,B5 c.1 c.2];exact h
theorem Dm (c: -9223372036854775808≤a-b∧a-b≤9223372036854775807) (h:K (I (a-b)) w):Q3 P .sub t ox oy (I a) (I b) w K:=by rw[Au,B5 c.1 c.2];exact h
theorem Z1 (h:K (.bool (decide (a<b))) w):Q3 P .lss t ox oy (.int k a) (.int k b) w K:=by rw[Q2w];exact h
theorem X22 (h:K (.bool (decide (a≤b))) w):Q3 P .leq t ox oy (.int k a) (.int k b) w K:=by rw[Q28];exact h
theorem Ay (h:K (.bool (decide (b<a))) w):Q3 P .gtr t ox oy (.int k a) (.int k b) w K:=by rw[Q2s];exact h
theorem Zm (h:K (.bool (decide (b≤a))) w):Q3 P .geq t ox oy (.int k a) (.int k b) w K:=by rw[Q04];exact h
theorem Ll (h:K (.bool (decide (a=b))) w):Q3 P .eql t ox oy (.int k a) (.int k b) w K:=by rw[Q05];exact h
theorem Xg (h:K (.bool (!decide (a=b))) w):Q3 P .neq t ox oy (.int k a) (.int k b) w K:=by rw[Q1Y];exact h
theorem Nh (h:K (.bool (!x)) w):J0 P .not (.bool x) w K:=by rw[Q2b];exact h
theorem Ng (h:K (.bool (decide (s=u))) w):Q3 P .eql t ox oy (S s) (S u) w K:=by rw[Rw];exact h
theorem Ui (h:K (.bool (!decide (s=u))) w):Q3 P .neq t ox oy (S s) (S u) w K:=by rw[Rr];exact h
theorem Rm (c:s.length+u.length≤9223372036854775807) (h:K (S (s++u)) w):Q3 P .add t ox oy (S s) (S u) w K:=by rw[Q5r c];exact h
theorem Q1p {cs:List Bool} {r:TypeId} (c:P.underlying t=some .string) (h:K (I s.length) w):X6 P .len [t] r cs [S s] w K:=by rw[D0 c];exact h
theorem X0K {v u:Value} (h:K v w):pick P (.bool true) v u w K:=by rw[Rc];exact h
theorem X0h {v u:Value} (h:K u w):pick P (.bool false) v u w K:=by rw[Dg];exact h
theorem Jn {v u:Value} (h:K (if x=true then v else u) w):pick P (.bool x) v u w K:=by rw[Nz];exact h
theorem Q7U {f:Fn} {first caps:List Value} (h:K (.func f first.toArray caps.toArray) w):M4 P f first caps w K:=by rw[Qf];exact h
theorem J8 {vs:List Value} {i:Nat} {v:Value} (c:vs[i]? =some v) (h:K v w):ext P (.tuple vs.toArray) i w K:=by rw[Yj c];exact h
theorem Q3z {a:Addr} (h:K (.pointer (some a)) w):nilCheck P (.pointer (some a)) w K:=by rw[E6];exact h
theorem V9 {t e:Prop} (h:t):X1 (.bool true) t e:=by rw[Nd];exact h
theorem V7 {t e:Prop} (h:e):X1 (.bool false) t e:=by rw[Uy];exact h
theorem X1l {c:World→(Value→World→Prop)→Prop} (h:c w K):Q1 (.bool true) true w c K:=by rw[G4];exact h
theorem X1T {c:World→(Value→World→Prop)→Prop} (h:c w K):Q1 (.bool false) false w c K:=by rw[Vl];exact h
theorem X0r {c:World→(Value→World→Prop)→Prop} (h:K undef w):Q1 (.bool true) false w c K:=by rw[Pp];exact h
theorem X10 {c:World→(Value→World→Prop)→Prop} (h:K undef w):Q1 (.bool false) true w c K:=by rw[Jo];exact h
end plain
section mem
variable {α : Type} {R : Q4 → α → List Value → Prop} {sz : Nat} {v : Value} {xs : List α} {a : Addr} {cs : List Value}
theorem Y9 {t:TypeId} (c:X4 w σ) (h: ∀a w' σ',Stp w σ w' σ'→Z2 σ' a cs→K (.pointer (some a)) w'):box P t (.agg cs.toArray) w K:=
 M8 c fun a w' σ' f d=>h a w' σ' f (by simpa [Value.cells] using d)
theorem J6 {t:TypeId} (d:X4 w σ) (f:v.cells= #[v]) (h: ∀a w' σ',Stp w σ w' σ'→Z2 σ' a [v]→K (.pointer (some a)) w'):box P t v w K:=
 M8 d fun a w' σ' g c=>h a w' σ' g (by rw[f] at c;exact c)
theorem Qy (h:Sl sz R σ v xs):v.cells= #[v]:=by
 obtain ⟨a,c,rfl,_⟩:=h;rfl
theorem O3 {t:TypeId} {k c:Nat} {d:TypeId} {sz by_:Nat} {z:Value} [tf:TF P t k c d] [tz:TZ P d sz by_ z] [nz:NZ sz] (h:K (.pointer (some (a.add c))) w):fieldAddr P t (.pointer (some a)) k w K:=by
 rw[fa];exact h
theorem V0 {t:TypeId} {k c:Nat} {d:TypeId} [tf:TF P t k c d] [tg:TG P d false] {cs:List Value} {v:Value} (f:cs[c]? =some v) (h:K v w):Vv P t (.agg cs.toArray) k w K:=by
 rw[X0v (v:=v) (by simpa using f)];exact h
end mem
theorem V2 {A:(World→World→Prop)→(World→Prop)→Prop} (d:X4 w σ) (h:A (fun w w'=>Below w.heap.size w w') (fun w'=>Hst w σ w' σ)):dr w A:=
 Q09 _ _ ⟨Stp.of_below d (Below.refl _ _).drew⟩ (fun _ _ c f=>⟨c.stp.trans (Stp.of_below c.sat f)⟩) h
theorem L1 {α:Type} {R:Q4→α→List Value→Prop} {sz:Nat} {v:Value} {xs:List α} {t:TypeId} (c:X4 w σ) (d:Sl sz R σ v xs) (h: ∀a w' σ',Stp w σ w' σ'→Z2 σ' a [v]→K (.pointer (some a)) w'):box P t v w K:=
 J6 c (Qy d) h
section elems
variable {v : Value} {t e : TypeId} {by_ : Nat} {z : Value} {n : Nat}
theorem Qe {xs:List Kd.X0} [TS P t e] [TZ P e 1 by_ z] (h:Sl 1 Y0 σ v xs) (f:n<xs.length) (i: ∀a,Z2 σ a [S xs[n]]→xs[n].length≤J3→K (.pointer (some a)) w):indexAddr P t v (I n) w K:=
 L7 h f fun a cs d j g=>by obtain ⟨rfl,c⟩:=g;exact i a d c
theorem Q80 {xs:List Fld} [TS P t e] [TZ P e 3 by_ z] (h:Sl 3 E0 σ v xs) (f:n<xs.length) (i: ∀a,Z2 σ a [S xs[n].name,S xs[n].kind, .bool xs[n].tr]→E0 σ xs[n] [S xs[n].name,S xs[n].kind, .bool xs[n].tr]→K (.pointer (some a)) w):indexAddr P t v (I n) w K:=
 L7 h f fun a cs d j g=>by obtain ⟨rfl,c⟩:=g;exact i a d ⟨rfl,c⟩
end elems
end Go.Emb

namespace Go.Hm
open Go.Kd
abbrev Uj:=X0→Option Cla
def Y4 (l:List Cla) (n:X0):Option Nat:=l.findIdx? fun c=>decide (c.name=n)
def lk (l:List Cla):Uj:=fun n=>(Y4 l n).bind (l[·]?)
def J5 (c:Cla):List X0:=c.super::c.like
def Z7:X0:=[79,98,106,101,99,116]
def V8:X0:=[70,97,117,108,116]
def C2:X0:=[110,117,108,108]
def N5:X0:=[116,101,120,116]
def I8:X0:=[119,104,97,116]
def J1:List X0:=[[78,117,108,108,70,97,117,108,116],[73,110,100,101,120,70,97,117,108,116],[67,97,115,116,70,97,117,108,116],[90,101,114,111,70,97,117,108,116],[82,111,111,109,70,97,117,108,116],[67,97,108,108,70,97,117,108,116]]
def B1:List Cla:=[⟨Z7,[],[],false,false,false,[],[]⟩,⟨V8,Z7,[],false,false,false,[⟨I8,N5,false⟩],[]⟩]++J1.map fun n=>⟨n,V8,[],false,false,true,[],[]⟩
def Zz (L:Uj):Nat→List X0→List X0→List X0
 | 0,_,a=>a
 | _,[],a=>a
 | f+1,n::b,a=>match L n with
  | none=>Zz L f b a
  | some c=>if n∈a then Zz L f b a else Zz L f (b++J5 c) (a++[n])
def weigh (l:List Cla) (a:List X0):Nat:=(l.map fun c=>if c.name∈a then 0 else (J5 c).length).sum
def V3:X0:=[105,110,116]
def M7:X0:=[98,111,111,108]
def R3 (l:List Cla) (n:X0):List X0:=Zz (lk l) (1+weigh l []) [n] []
def Q1e (l:List Cla) (n:X0):Bool:=(Y4 l n).isSome
def M0 (l:List Cla) (s:X0):Bool:=decide (s=C2)||(right s&&(plain (base s).1||Q1e l (base s).1))
def E4 (l:List Cla) (a b:X0):Bool:=
 if !M0 l a|| !M0 l b then false else if a=b then true else if plain a||plain b then false else if a=C2 then true
 else if elem a≠[] then decide (b=Z7) else (R3 l a).contains b
def C4 (L:Uj):Nat→X0→List Cla
 | 0,_=>[]
 | f+1,n=>match L n with
  | none=>[]
  | some c=>c::C4 L f c.super
def chain (l:List Cla) (n:X0):List Cla:=C4 (lk l) (l.length+1) n
def R7 (l:List Cla) (a b:X0):X0:=
 if E4 l a b then b else if E4 l b a then a else if !M0 l a|| !M0 l b||plain a||plain b then []
 else match (chain l a).find? fun c=>E4 l b c.name with
  | some c=>c.name
  | none=>Z7
def M6 (l:List Cla) (n:X0):List Fld:=(chain l n).reverse.flatMap (·.fields)
def Xk (l:List Cla) (n f:X0):Option Nat:=(M6 l n).findIdx? fun x=>decide (x.name=f)
def H9 (c:Cla) (n:X0):Option Hm.Met:=c.methods.find? fun m=>decide (m.name=n)
def Ha (L:Uj):Nat→Cla→X0→Option (X0×Hm.Met)
 | 0,_,_=>none
 | f+1,c,n=>c.like.findSome? fun u=>match L u with
  | none=>none
  | some d=>match H9 d n with
   | some m=>some (u,m)
   | none=>Ha L f d n
def J7 (l:List Cla) (k n:X0):Option (X0×Hm.Met):=
 match (chain l k).findSome? fun c=>(H9 c n).map (c.name,·) with
 | some r=>some r
 | none=>(chain l k).findSome? fun c=>Ha (lk l) (l.length+1) c n
def Q8O (l:List Cla) (n:X0):Bool:=match lk l n with
 | some c=> !c.abs
 | none=>false
def N7:List X0→X0
 | []=>[]
 | [a]=>a
 | a::b::r=>a++[44]++N7 (b::r)
def P4 (m:Hm.Met):X0:=[40]++N7 m.params++[41]++m.result
def D2 (l:List Cla) (s:X0):Bool:= !decide (s=C2)&&M0 l s
def Qt (l:List Cla) (c:Cla):Bool:=c.fields.any fun f=>(Xk l c.super f.name).isSome
def C8 (l:List Cla) (c:Cla):Bool:=c.fields.any (fun f=> !D2 l f.kind)||c.methods.any fun m=>(!D2 l m.result&& !decide (m.result=[]))||m.params.any fun s=> !D2 l s
def Ut (l:List Cla) (n:X0):List Hm.Met:=(R3 l n).flatMap fun u=>((lk l u).map (·.methods)).getD []
def Vr (a:List Hm.Met):Bool:=a.any fun x=>a.any fun y=>decide (x.name=y.name)&& !decide (P4 x=P4 y)
def Xo (l:List Cla) (c:Cla):Bool:=Vr (Ut l c.name)
def Xi (l:List Cla) (k n:X0):Bool:=match J7 l k n with
 | none=>true
 | some r=>r.2.abs
def Na (l:List Cla) (c:Cla):Bool:= !c.abs&&(Ut l c.name).any fun m=>Xi l c.name m.name
def U8 (l:List Cla) (c:Cla):Nat:=if Qt l c then 64 else if C8 l c then 65 else if Xo l c then 66 else if Na l c then 67 else 0
def P2 (l:List Cla) (n:X0):Bool:=match lk l n with
 | none=>true
 | some d=>d.iface||d.fin
def O5 (l:List Cla) (n:X0):Bool:=match lk l n with
 | none=>true
 | some d=> !d.iface
def L4 (l:List Cla) (c:Cla):Nat:=if P2 l c.super then 61 else if c.like.any (O5 l) then 62 else 0
def F8 (l:List Cla) (c:Cla):Bool:=(J5 c).any fun n=>(R3 l n).contains c.name
def G6 (l:List Cla) (frm:Nat):Nat→List Nat→Nat→List Nat
 | 0,a,_=>a
 | f+1,a,i=>if i<frm then a else if i∈a then a else ((J5 (l.getD i Cla.zero)).foldl (fun a n=>G6 l frm f a ((Y4 l n).getD 0)) a)++[i]
def U6 (l:List Cla) (frm:Nat):List Nat:=((List.range l.length).drop frm).foldl (fun a i=>G6 l frm (l.length+1) a i) []
end Go.Hm

namespace Go.Emb
open Go.RowKit Go.Hm
variable {P : Program} {w w0 w1 w' w'' : World} {K : Value → World → Prop} {σ σ0 σ1 σ' : Q4}
def U2 {α:Type} (B:Nat) (e:TypeId) (sz:Nat) (R:Q4→α→List Value→Prop) (σ:Q4) (w:World) (v:Value) (xs:List α):Prop:=
 ∃a c,v= .slice a xs.length c∧xs.length≤c∧c≤maxLen∧(∀b,a=some b→b.spot=none∧B≤b.block∧b.block<w.heap.size∧σ b.block=none)∧(0<c→ ∃g f d,a=some ⟨g,f,none⟩∧B≤g∧σ g=none∧w.heap[g]? =some (.cells d e (0,0))∧f+c*sz≤d.size∧ ∀i x,xs[i]? =some x→R σ x ((d.toList.drop (f+i*sz)).take sz))
section
variable {α : Type} {R : Q4 → α → List Value → Prop} {B sz : Nat} {e : TypeId} {v u : Value} {xs ys : List α}
theorem U2.of_acc (h:V5 B e sz R σ w v xs):U2 B e sz R σ w v xs:=by
 obtain ⟨cells,n,k,r⟩:=h
 rcases n.2 with ⟨rfl,o⟩ | ⟨g,d,f,rfl,j,m,b,a,q,c⟩
 ·exact ⟨none,0,by rw[o],by omega,by simp,by simp,fun h=>by omega⟩
 ·refine ⟨_,d,rfl,b,a,by rintro _ ⟨⟩;exact ⟨rfl,j,(Array.getElem?_eq_some_iff.1 m).1,k g rfl⟩,fun _=>⟨g,0,f,rfl,j,k g rfl,m,by omega,fun i x l=>?_⟩⟩
  have p:i<xs.length:=(List.getElem?_eq_some_iff.1 l).1
  have hh:i*sz+sz≤xs.length*sz:=by rw[←Nat.succ_mul];exact Nat.mul_le_mul_right _ p
  have:=r i x l
  rw[←c,List.drop_take,List.take_take] at this
  rw[Nat.zero_add]
  rwa [show min sz (xs.length*sz-i*sz)=sz by omega] at this
theorem U2.mem (h:U2 B e sz R σ w v xs) {k:Nat} (c:v.ownBlock=some k):B≤k∧k<w.heap.size∧σ k=none:=by
 obtain ⟨a,d,rfl,f,i,b,g⟩:=h
 cases a with
 | none=>cases c
 | some a=>cases c;exact (b a rfl).2
theorem U2.up [hr:Rep R] (h:U2 B e sz R σ w v xs) (f:Stp w σ w' σ'):U2 B e sz R σ' w' v xs:=by
 obtain ⟨a,k,rfl,p,o,c,z⟩:=h
 refine ⟨a,k,rfl,p,o,fun b d=>⟨(c b d).1,(c b d).2.1,Nat.lt_of_lt_of_le (c b d).2.2.1 f.bel.size,(f.old _ (c b d).2.2.1).trans (c b d).2.2.2⟩,fun q=>?_⟩
 obtain ⟨g,j,l,rfl,y,A,n,s,t⟩:=z q
 have m:=(Array.getElem?_eq_some_iff.1 n).1
 exact ⟨g,j,l,rfl,y,(f.old g m).trans A,(f.bel.block g m).trans n,s,fun i x r=>hr.up f.le (t i x r)⟩
theorem U2.step [hr:Rep R] (h:U2 B e sz R σ w v xs) (a:Stp w σ w' σ'):U2 B e sz R σ' w' v xs:=h.up a
theorem U2.kp {D:Nat→Prop} (h:U2 B e sz R σ w v xs) (m:Kpt D w w') (f: ∀k,v.ownBlock=some k→ ¬D k):U2 B e sz R σ w' v xs:=by
 obtain ⟨a,j,rfl,p,o,c,z⟩:=h
 refine ⟨a,j,rfl,p,o,fun b d=>⟨(c b d).1,(c b d).2.1,Nat.lt_of_lt_of_le (c b d).2.2.1 m.size,(c b d).2.2.2⟩,fun r=>?_⟩
 obtain ⟨g,i,l,rfl,y,A,n,s,t⟩:=z r
 have q:=(Array.getElem?_eq_some_iff.1 n).1
 exact ⟨g,i,l,rfl,y,A,(m.block g q (f g rfl)).trans n,s,t⟩
theorem Gf {b t:TypeId} {cs:List Bool} [ts:TS P b e] (h:U2 B e sz R σ w v xs) (d:K (I xs.length) w):X6 P .len [b] t cs [v] w K:=by
 obtain ⟨a,c,rfl,_⟩:=h
 rw[Q5V];exact d
theorem Q3X {t:TypeId} {by_:Nat} {z:Value} [TS P t e] [TZ P e sz by_ z] (h:U2 B e sz R σ w v xs) {n:Nat} (o:n<xs.length)
 (i: ∀a cs,(∀j u,cs[j]? =some u→w.cell? (a.add j)=some u)→cs.length=sz→R σ xs[n] cs→K (.pointer (some a)) w):indexAddr P t v (I n) w K:=by
 obtain ⟨a,d,rfl,r,q,k,p⟩:=h
 obtain ⟨g,c,f,rfl,y,A,l,s,m⟩:=p (by omega)
 rw[Cd (by omega) (by omega)]
 have hh:n*sz+sz≤d*sz:=by rw[←Nat.succ_mul];exact Nat.mul_le_mul_right _ (by omega)
 refine i _ ((f.toList.drop (c+n*sz)).take sz) ?_ ?_ (m n _ (by simp[o]))
 ·intro j u b
  rw[List.getElem?_take] at b
  split at b
  ·rw[List.getElem?_drop] at b
   unfold World.cell?
   rw[C1,C1,Xq,Xq,G5 (G5 rfl _)]
   simp only[l]
   simpa using b
  ·cases b
 ·rw[List.length_take,List.length_drop,Array.length_toList];omega
theorem Q9R {t:TypeId} {by_:Nat} {z:Value} [ts:TS P t e] [tz:TZ P e sz by_ z] (h:U2 B e sz R σ w v xs) (l:Nat) (J:l≤xs.length)
 (r: ∀j,U2 B e sz R σ w j (xs.drop l)→(j.ownBlock=v.ownBlock∨j.ownBlock=none)→K j w):H3 P t v (some (I l)) none none w K:=by
 obtain ⟨a,c,rfl,y,H,d,p⟩:=h
 have hh: ∀w:World,(Instr.sliceBounds true xs.length c (some (I l)) none none).run P w= .ok (l,xs.length,c) w:=by
  intro w
  have q:(l:Int)≤xs.length:=by omega
  simp[Instr.sliceBounds,Instr.sliceBound,asIntOf,y,q]
  intros;omega
 unfold H3
 have:(Instr.sliceAt t (.slice a xs.length c) (some (I l)) none none).run P w= .ok (.slice (if c=l then a else a.map (·.add (l*sz))) (xs.length-l) (c-l)) w:=by
  simp[Instr.sliceAt,run_underlying ts.h,Instr.slice,hh,W4 tz]
 rw[X9 this]
 refine r _ ⟨_,c-l,by rw[List.length_drop],by rw[List.length_drop];omega,by omega,?_,fun L=>?_⟩ ?_
 ·intro b k
  split at k
  ·exact d b k
  ·cases a with
   | none=>cases k
   | some a=>cases k;exact ⟨G5 (d a rfl).1 _,by rw[C1];exact (d a rfl).2⟩
 ·have s:=p (by omega)
  clear p
  obtain ⟨g,m,n,rfl,D,E,A,M,C⟩:=s
  refine ⟨g,m+l*sz,n,?_,D,E,A,?_,fun i x o=>?_⟩
  ·rw[if_neg (by omega)];simp only[Option.map_some];congr 1;unfold Addr.add;split<;>simp_all
  ·have:l*sz+(c-l)*sz=c*sz:=by rw[←Nat.add_mul];congr 1;omega
   omega
  ·rw[List.getElem?_drop] at o
   have:=C _ _ o
   rwa [Nat.add_mul,←Nat.add_assoc] at this
 ·left
  by_cases f:c=l
  ·rw[if_pos f];cases a<;>rfl
  ·rw[if_neg f]
   cases a with
   | none=>rfl
   | some a=>simp only[Option.map_some,Value.ownBlock,C1]
theorem Q1M {t V:TypeId} {by_:Nat} {z:Value} {cs:List Bool} [ts:TS P t e] [tz:TZ P e sz by_ z] [hr:Rep R] (X:X4 w σ) (hB:B≤w.heap.size) (ha:U2 B e sz R σ w v xs) (H:Sl sz R σ u ys) (hz:(z.cells.size==sz&&decide (0<sz))=true)
 (Q:(xs.length+ys.length)*by_≤140737488355328) (hm:xs.length+ys.length≤1000000000000)
 (h: ∀s w',Kpt (fun k=>v.ownBlock=some k∧B≤k∧σ k=none) w w'→X4 w' σ→U2 B e sz R σ w' s (xs++ys)→((∃a m,v= .slice a xs.length m∧s= .slice a (xs.length+ys.length) m)∨(Below w.heap.size w w'∧ ∀k,s.ownBlock=some k→w.heap.size≤k))→K s w'):X6 P .append [t,t] V cs [v,u] w K:=by
 obtain ⟨A,c,rfl,c1,c2,D,c3⟩:=ha
 obtain ⟨a,m,d,rfl,n1,n2,n3,n4,n5⟩:=H.cells X
 obtain ⟨i,hi,E,av,M⟩:=tz.info
 simp only[Bool.and_eq_true,beq_iff_eq,decide_eq_true_eq] at hz
 obtain ⟨ak,bh⟩:=hz
 have N: ∀s w',(Builtin.append_ #[t,t] V #[.slice A xs.length c, .slice a ys.length m]).run P w= .ok s w'→Kpt (fun k=>(Value.slice A xs.length c).ownBlock=some k∧B≤k∧σ k=none) w w'→U2 B e sz R σ w' s (xs++ys)→((∃a m,(Value.slice A xs.length c)= .slice a xs.length m∧s= .slice a (xs.length+ys.length) m)∨(Below w.heap.size w w'∧ ∀k,s.ownBlock=some k→w.heap.size≤k))→X6 P .append [t,t] V cs [.slice A xs.length c, .slice a ys.length m] w K:=by
  intro s w' C hk hq aq
  have L:(builtin .append #[t,t] V cs.toArray #[.slice A xs.length c, .slice a ys.length m]).run P w= .ok (.value s) w':=by
   simp[builtin,C]
  unfold X6
  rw[Qr];unfold T6
  rw[L]
  exact h s w' hk (fun k o ho=>by rw[hk.block k (X.lt ho) fun e=>by rw[e.2.2] at ho;cases ho];exact X k o ho) hq aq
 have q:Src P i.size t (.slice a ys.length m) ys.length d w:=by
  cases a with
  | some b=>exact Src.ofSlice w ts.h b ys.length m d (by rw[E];exact n2) (n3 b rfl) n4
  | none=>
   have hy:ys.length=0:=by
    obtain ⟨a',a3,e',q1,_,Z,_⟩:=H;injection e' with e1 e2 e3;have:=n1 rfl;omega
   have hn:d=[]:=List.eq_nil_of_length_eq_zero (by rw[n2,hy];simp)
   subst hn
   rw[hy];exact Src.ofNil w ts.h m
 by_cases r:xs.length+ys.length≤c
 ·by_cases J:c=0
  ·-- nothing at all
   subst J
   have p:xs=[]:=List.eq_nil_of_length_eq_zero (by omega)
   have hy:ys=[]:=List.eq_nil_of_length_eq_zero (by omega)
   subst p hy
   have hn:d=[]:=List.eq_nil_of_length_eq_zero (by simpa using n2)
   subst hn
   refine N (.slice A 0 0) w ?_ Kpt.refl ⟨A,0,rfl,by simp,by simp,D,fun h=>by omega⟩ (.inl ⟨_,_,rfl,rfl⟩)
   have hl:=q.len w
   have y:=q.cells
   simp only[List.length_nil] at hl y⊢
   cases A<;>simp[Builtin.append_,run_underlying ts.h,sizeOf,typeInfo,hi,hl,y,storeCells]
  ·obtain ⟨g,l,f,rfl,q1,q2,Z,q4,q5⟩:=c3 (by omega)
   have e1:(xs.length+ys.length)*sz≤c*sz:=Nat.mul_le_mul_right _ r
   rw[Nat.add_mul] at e1
   have W:=run_storeCells_at P g (l+xs.length*sz) e d 0 f w Z (by omega) n4
   simp only[Nat.add_zero] at W
   obtain ⟨aa,ar⟩:=Dh (cs:=(f.toList.take (l+xs.length*sz)++d++f.toList.drop (l+xs.length*sz+d.length)).toArray) Z
   refine N (.slice (some ⟨g,l,none⟩) (xs.length+ys.length) c) _ ?_ (Kpt.of_upd aa ⟨rfl,q1,q2⟩) ?_ (.inl ⟨_,_,rfl,rfl⟩)
   ·have hl:=q.len w
    have y:=q.cells
    rw[E] at y
    simp[Builtin.append_,run_underlying ts.h,sizeOf,typeInfo,hi,hl,y,E,r,Addr.add_lit,W]
   ·refine ⟨_,c,by rw[List.length_append],by rw[List.length_append];exact r,c2,fun b Q=>⟨(D b Q).1,(D b Q).2.1,by rw[aa.size];exact (D b Q).2.2.1,(D b Q).2.2.2⟩,fun _=>⟨g,l,_,rfl,q1,q2,ar,?_,fun j x p=>?_⟩⟩
    ·simp;omega
    ·by_cases U:j<xs.length
     ·rw[List.getElem?_append_left U] at p
      have:=q5 j x p
      have hh:j*sz+sz≤xs.length*sz:=by rw[←Nat.succ_mul];exact Nat.mul_le_mul_right _ U
      have e2:((f.toList.take (l+xs.length*sz)++d++f.toList.drop (l+xs.length*sz+d.length)).toArray.toList.drop (l+j*sz)).take sz=(f.toList.drop (l+j*sz)).take sz:=by
       rw[List.toList_toArray,List.append_assoc]
       rw[List.drop_append_of_le_length (by rw[List.length_take,Array.length_toList (xs:=f)];omega),List.take_append_of_le_length (by rw[List.length_drop,List.length_take,Array.length_toList (xs:=f)];omega),List.drop_take,List.take_take]
       congr 1;omega
      rw[e2];exact this
     ·rw[List.getElem?_append_right (by omega)] at p
      have:=n5 _ _ p
      have an:j-xs.length<ys.length:=(List.getElem?_eq_some_iff.1 p).1
      have hh:(j-xs.length)*sz+sz≤ys.length*sz:=by rw[←Nat.succ_mul];exact Nat.mul_le_mul_right _ an
      have a6:j*sz=xs.length*sz+(j-xs.length)*sz:=by rw[←Nat.add_mul];congr 1;omega
      have e2:((f.toList.take (l+xs.length*sz)++d++f.toList.drop (l+xs.length*sz+d.length)).toArray.toList.drop (l+j*sz)).take sz=(d.drop ((j-xs.length)*sz)).take sz:=by
       rw[List.toList_toArray,List.append_assoc]
       rw[List.drop_append,List.drop_eq_nil_of_le (by rw[List.length_take,Array.length_toList (xs:=f)];omega),List.nil_append,List.length_take,Array.length_toList (xs:=f),
        show l+j*sz-min (l+xs.length*sz) f.size=(j-xs.length)*sz by omega,
        List.drop_append_of_le_length (by omega),List.take_append_of_le_length (by rw[List.length_drop];omega)]
      rw[e2];exact this
 ·-- a new row
  have O: ∃n:List Value,n.length=xs.length*sz∧(Builtin.firstCells i.size xs.length (.slice A xs.length c)).run P w.drew= .ok n.toArray w.drew∧ ∀j x,xs[j]? =some x→R σ x ((n.drop (j*sz)).take sz):=by
   by_cases J:c=0
   ·subst J
    have p:xs=[]:=List.eq_nil_of_length_eq_zero (by omega)
    subst p
    refine ⟨[],by simp,?_,by simp⟩
    cases A with
    | none=>exact run_firstCells_none w.drew i.size 0 0 0
    | some a'=>exact run_firstCells_some w.drew i.size 0 a' 0 0 [] (by simp) (by intro _ _ h';simp at h')
   ·obtain ⟨g,l,f,rfl,q1,q2,Z,q4,q5⟩:=c3 (by omega)
    have e1:xs.length*sz≤c*sz:=Nat.mul_le_mul_right _ c1
    refine ⟨(f.toList.drop l).take (xs.length*sz),by rw[List.length_take,List.length_drop,Array.length_toList (xs:=f)];omega,?_,fun j x p=>?_⟩
    ·refine run_firstCells_some w.drew i.size xs.length ⟨g,l,none⟩ xs.length c _ (by rw[List.length_take,List.length_drop,Array.length_toList (xs:=f),E];omega) (fun j u H=>?_)
     rw[List.getElem?_take] at H
     split at H
     ·rw[List.getElem?_drop] at H
      have aj:w.drew.heap[g]? =some (.cells f e (0,0)):=Z
      unfold World.cell?
      rw[C1,Xq,G5 rfl]
      simp only[aj]
      simpa using H
     ·cases H
    ·have U:j<xs.length:=(List.getElem?_eq_some_iff.1 p).1
     have hh:j*sz+sz≤xs.length*sz:=by rw[←Nat.succ_mul];exact Nat.mul_le_mul_right _ U
     have:=q5 j x p
     rw[List.drop_take,List.take_take,List.drop_drop,show min sz (xs.length*sz-j*sz)=sz by omega]
     exact this
  obtain ⟨n,o1,o2,o3⟩:=O
  have hg:c<xs.length+ys.length:=by omega
  have C:=run_append_grow_src (P:=P) w t t V e i z ts.h hi M A xs.length c n o2 (.slice a ys.length m) ys.length d q hg (by omega) (growslice_fits hg (by rw[av];exact Q))
  have am:=grownCap_le_maxLen w (xs.length+ys.length) c e (by simp only[maxLen];omega)
  have ax:=grownCap_ge w (xs.length+ys.length) c e
  have hL:(n++d).length=(xs.length+ys.length)*sz:=by rw[List.length_append,o1,n2,Nat.add_mul]
  refine N _ _ C ?_ ?_ (.inr ⟨(Below.refl _ _).drew.alloc (Nat.le_refl _) _,by intro k hk;cases hk;exact Nat.le_refl _⟩)
  ·exact Kpt.of_below ((Below.refl _ _).drew.alloc (Nat.le_refl _) _)
  ·refine ⟨_,_,by rw[List.length_append],by rw[List.length_append];exact ax,am,by rintro _ ⟨⟩;exact ⟨rfl,hB,(Array.getElem?_eq_some_iff.1 (heap_alloc_new w.drew _)).1,X.none (Nat.le_refl _)⟩,fun _=>⟨w.heap.size,0,_,rfl,hB,X.none (Nat.le_refl _),heap_alloc_new w.drew _,?_,fun j x p=>?_⟩⟩
   ·rw[Array.size_append,List.size_toArray,hL,size_zeroCells,ak,←Nat.add_mul]
    rw[Nat.zero_add];exact Nat.mul_le_mul_right _ (by omega)
   ·rw[Nat.zero_add,Array.toList_append]
    have U:j<xs.length+ys.length:=by have:=(List.getElem?_eq_some_iff.1 p).1;rwa [List.length_append] at this
    have hh:j*sz+sz≤(xs.length+ys.length)*sz:=by rw[←Nat.succ_mul];exact Nat.mul_le_mul_right _ U
    rw[List.drop_append_of_le_length (by simp only[List.toList_toArray];omega),List.take_append_of_le_length (by rw[List.length_drop];simp only[List.toList_toArray];omega)]
    simp only[List.toList_toArray]
    by_cases Y:j<xs.length
    ·rw[List.getElem?_append_left Y] at p
     rw[Eh n d xs.length j o1 Y]
     exact o3 j x p
    ·rw[List.getElem?_append_right (by omega)] at p
     have:=n5 _ _ p
     rw[show j*sz=n.length+(j-xs.length)*sz by rw[o1,←Nat.add_mul];congr 1;omega,List.drop_append]
     simpa [List.drop_eq_nil_of_le] using this
end
theorem Yi {b:Nat} (h:w1.heap.size≤b) (k:Stp w σ w1 σ1):w.heap.size≤b:=Nat.le_trans k.bel.size h
theorem G8 {t:TypeId} {sz by_:Nat} {z:Value} [tz:TZ P t sz by_ z] (a:X4 w σ) (h: ∀b w' σ',w.heap.size≤b→Stp w σ w' σ'→Z5 σ' w' b z.cells.toList→K (.pointer (some ⟨b,0,none⟩)) w'):W3 P t w K:=
 Hi a fun b w' d f c=>h b w' σ d f c
theorem Ao {t:TypeId} {cs:List Value} (a:X4 w σ) (h: ∀b w' σ',w.heap.size≤b→Stp w σ w' σ'→Z5 σ' w' b cs→K (.pointer (some ⟨b,0,none⟩)) w'):box P t (.agg cs.toArray) w K:=
 Q9w a fun b w' d f c=>h b w' σ d f (by simpa [Value.cells] using c)
theorem T4 {t:TypeId} {sz by_:Nat} {z:Value} [tz:TZ P t sz by_ z] {b:Nat} {cs ds:List Value} (c:Z5 σ w b cs) (i:Stp w0 σ0 w σ) (g:w0.heap.size≤b) (j:cs.length=sz) (d:ds.length=sz) (k: ∀u∈ds,u.oneCell'=true)
 (h: ∀w',Hst w0 σ0 w' σ→Z5 σ w' b ds→K undef w'):Z3 P t (.pointer (some ⟨b,0,none⟩)) (.agg ds.toArray) w K:=
 sta c j d (by rw[List.all_toArray];exact List.all_eq_true.2 k) fun w' f a=>h w' ⟨f.stp i g c.1⟩ a
structure Nxt (D : Nat → Prop) (w : World) (σ : Q4) (w' : World) (σ' : Q4) : Prop where
  kp : Kpt D w w'
  le : SLe σ σ'
  old : ∀ k, k < w.heap.size → σ' k = σ k
  sat : X4 w' σ'
theorem Nxt.of_stp {D:Nat→Prop} (h:Stp w σ w' σ'):Nxt D w σ w' σ':=⟨Kpt.of_below h.bel,⟨h.le⟩,h.old,h.sat⟩
theorem Nxt.trans {D:Nat→Prop} (h:Nxt D w σ w' σ') (k:Nxt D w' σ' w'' σ1):Nxt D w σ w'' σ1:=
 ⟨h.kp.trans k.kp,h.le.more k.le,fun i a=>(k.old i (Nat.lt_of_lt_of_le a h.kp.size)).trans (h.old i a),k.sat⟩
theorem Z5.nx {D:Nat→Prop} {b:Nat} {cs:List Value} (h:Z5 σ w b cs) (k:Nxt D w σ w' σ') (c: ¬D b):Z5 σ' w' b cs:=by
 have a:=h.lt
 obtain ⟨d,e,f⟩:=h
 exact ⟨(k.old b a).trans d,e,(k.kp.block b a c).trans f⟩
theorem D7.nx {D:Nat→Prop} {r:Nat} {m:List (List UInt8×Value)} (h:D7 σ w r m) (k:Nxt D w σ w' σ') (a: ¬D r):D7 σ' w' r m:=
 ⟨(k.old r h.lt).trans h.1,(k.kp.block r h.lt a).symm▸h.2⟩
section
variable {α : Type} {R : Q4 → α → List Value → Prop} {B sz : Nat} {e : TypeId} {v u : Value} {xs : List α} {x : α}
theorem V5.nx [hr:Rep R] {D:Nat→Prop} (h:V5 B e sz R σ w v xs) (k:Nxt D w σ w' σ') (c: ∀k,v.ownBlock=some k→ ¬D k):V5 B e sz R σ' w' v xs:=by
 have b:=h.kp k.kp c
 obtain ⟨cells,f,j,g⟩:=b
 refine ⟨cells,f,fun i a=>(k.old i (h.mem i a).2.1).trans (j i a),fun i x d=>hr.up k.le.le (g i x d)⟩
theorem U2.nx [hr:Rep R] {D:Nat→Prop} (h:U2 B e sz R σ w v xs) (k:Nxt D w σ w' σ') (s: ∀k,v.ownBlock=some k→ ¬D k):U2 B e sz R σ' w' v xs:=by
 obtain ⟨a,j,rfl,p,o,c,A⟩:=h
 refine ⟨a,j,rfl,p,o,fun b d=>⟨(c b d).1,(c b d).2.1,Nat.lt_of_lt_of_le (c b d).2.2.1 k.kp.size,(k.old _ (c b d).2.2.1).trans (c b d).2.2.2⟩,fun q=>?_⟩
 obtain ⟨g,f,l,rfl,z,C,n,t,y⟩:=A q
 have m:=(Array.getElem?_eq_some_iff.1 n).1
 exact ⟨g,f,l,rfl,z,(k.old g m).trans C,(k.kp.block g m (s g rfl)).trans n,t,fun i x r=>hr.up k.le.le (y i x r)⟩
theorem Jy {t n:TypeId} {by_:Nat} {z:Value} {cs:List Bool} {A:Value→Value→World→Prop} [ts:TS P t e] [tz:TZ P e sz by_ z] [hr:Rep R] (m:Stp w0 σ0 w σ) (p:V5 w0.heap.size e sz R σ w v xs) (C:R σ x u.cells.toList) (y:u.cells.size=sz) (q:(z.cells.size==sz&&decide (0<sz))=true) (g:(decide (0<sz)&&decide ([u].length*sz≤16777216))=true)
 (o:(xs.length+1)*by_≤140737488355328) (r:xs.length+1≤9223372036854775807)
 (h: ∀s a w' σ',Nxt (fun k=>v.ownBlock=some k) w σ w' σ'→Stp w0 σ0 w' σ'→V5 w0.heap.size e sz R σ' w' a (xs++[x])→(a.ownBlock=v.ownBlock∨ ∀k,a.ownBlock=some k→w.heap.size≤k)→A s a w'):
 buildSlice P t 1 [(0,u)] w (fun s w=>X6 P .append [t,t] n cs [v,s] w (fun a w=>A s a w)):=by
 refine D6 m.sat [u] [x] rfl rfl (by simpa using y) g ⟨C,trivial⟩ fun s w1 σ1 b f=>?_
 refine app (m.trans b) (p.up b) f q (by simpa using o) (by simpa using r) fun a l D c i hat=>?_
 have d:Kpt (fun k=>v.ownBlock=some k) w l:=(Kpt.of_below b.bel).trans (Kpt.of_grown D fun k b=>b)
 refine h s a l σ1 ⟨d,⟨b.le⟩,b.old,c.sat⟩ c i ?_
 rcases hat with hat | hat
 ·exact .inl hat
 ·exact .inr fun k j=>Nat.le_trans b.bel.size (hat k j)
theorem Ox {t f:TypeId} {by_:Nat} {z:Value} {cs:List Bool} {ys:List α} [ts:TS P t e] [tz:TZ P e sz by_ z] [hr:Rep R] (p:Stp w0 σ0 w σ) (i:V5 w0.heap.size e sz R σ w v xs) (o:Sl sz R σ u ys) (l:(z.cells.size==sz&&decide (0<sz))=true)
 (g:(xs.length+ys.length)*by_≤140737488355328) (m:xs.length+ys.length≤9223372036854775807)
 (h: ∀a w',Nxt (fun k=>v.ownBlock=some k) w σ w' σ→Stp w0 σ0 w' σ→V5 w0.heap.size e sz R σ w' a (xs++ys)→(a.ownBlock=v.ownBlock∨ ∀k,a.ownBlock=some k→w.heap.size≤k)→K a w'):X6 P .append [t,t] f cs [v,u] w K:=
 app p i o l g m fun a n q b d c=>h a n ⟨Kpt.of_grown q fun k j=>j,SLe.refl _,fun _ _=>rfl,b.sat⟩ b d c
end
section
variable {α : Type} {R : Q4 → α → List Value → Prop} {B sz : Nat} {e : TypeId} {v u : Value} {xs : List α} {x : α}
theorem U2.mono {l:Nat} (h:U2 B e sz R σ w v xs) (k:l≤B):U2 l e sz R σ w v xs:=by
 obtain ⟨a,i,rfl,o,r,d,m⟩:=h
 refine ⟨a,i,rfl,o,r,fun b c=>⟨(d b c).1,Nat.le_trans k (d b c).2.1,(d b c).2.2⟩,fun n=>?_⟩
 obtain ⟨g,j,f,rfl,p,q⟩:=m n
 exact ⟨g,j,f,rfl,Nat.le_trans k p,q⟩
theorem U2.own (h:U2 B e sz R σ w v xs) {k:Nat} (a:v.ownBlock=some k):B≤k:=(h.mem a).1
theorem U2.keep [hr:Rep R] (h:U2 w0.heap.size e sz R σ w v xs) (p:Stp w0 σ0 w σ): ∃σ',Stp w0 σ0 w σ'∧Sl sz R σ' v xs∧SLe σ σ'∧(∀k,some k≠v.ownBlock→σ' k=σ k):=by
 obtain ⟨a,f,rfl,y,t,n,E⟩:=h
 by_cases A:f=0
 ·have m:xs=[]:=List.eq_nil_of_length_eq_zero (by omega)
  subst A m
  exact ⟨σ,p,⟨a,0,rfl,by simp,by simp,fun _=>rfl,fun b r=>⟨fun _=>(n b r).1,by simp⟩⟩,SLe.refl _,fun _ _=>rfl⟩
 ·obtain ⟨g,o,c,rfl,D,q,z,J,C⟩:=E (by omega)
  have d:=Q4.put_le p.sat q (.cells c e (0,0))
  refine ⟨σ.put g (.cells c e (0,0)),p.put q D z,⟨_,f,rfl,y,t,by simp,?_⟩,⟨d⟩,?_⟩
  ·rintro _ ⟨⟩
   refine ⟨fun _=>rfl,fun i x m=>⟨(c.toList.drop (o+i*sz)).take sz,⟨G5 rfl _,c,e,(0,0),by rw[C1];simp[Q4.put],?_⟩,?_,hr.up d (C i x m)⟩⟩
   ·intro j u l
    rw[Xq]
    rw[List.getElem?_take] at l
    split at l
    ·rw[List.getElem?_drop] at l;simpa using l
    ·cases l
   ·have H:i<xs.length:=(List.getElem?_eq_some_iff.1 m).1
    have h:i*sz+sz≤f*sz:=by rw[←Nat.succ_mul];exact Nat.mul_le_mul_right _ (by omega)
    rw[List.length_take,List.length_drop,Array.length_toList (xs:=c)];omega
  ·intro k s
   have:k≠g:=by intro e;subst e;exact s rfl
   simp only[Q4.put,if_neg this]
theorem X0a {t L:TypeId} {by_:Nat} {z:Value} {A:Value→Value→World→Prop} {ds:List Value} [ts:TS P t e] [tz:TZ P e sz by_ z] {C:Nat} {z':Value} [tz':TZ P L sz C z'] (hS:Stp w0 σ0 w σ) (W:U2 w0.heap.size e sz R σ w v xs) {n:Nat} (hn:n<xs.length) (H:ds.length=sz) (hx:R σ x ds) (Z: ∀u∈ds,u.oneCell'=true)
 (h: ∀p u w',Kpt (fun k=>v.ownBlock=some k) w w'→Hst w0 σ0 w' σ→U2 w0.heap.size e sz R σ w' v (xs.set n x)→A p u w'):
 indexAddr P t v (I n) w (fun p w=>Z3 P L p (.agg ds.toArray) w (fun u w=>A p u w)):=by
 obtain ⟨a,i,rfl,U,Y,f,c3⟩:=W
 obtain ⟨g,c,d,rfl,N,Q,M,q4,q5⟩:=c3 (by omega)
 rw[Cd (by omega) (by omega)]
 have hh:n*sz+sz≤i*sz:=by rw[←Nat.succ_mul];exact Nat.mul_le_mul_right _ (by omega)
 have o:(⟨g,c,none⟩:Addr).add ((n:Int).toNat*sz)=⟨g,c+n*sz,none⟩:=by unfold Addr.add;split<;>simp_all
 rw[o]
 have m:=run_storeCells_at P g (c+n*sz) e ds 0 d w M (by omega) Z
 simp only[Nat.add_zero] at m
 obtain ⟨l,E⟩:=Dh (cs:=(d.toList.take (c+n*sz)++ds++d.toList.drop (c+n*sz+ds.length)).toArray) M
 unfold Z3
 rw[My (w':=w.setRow g (d.toList.take (c+n*sz)++ds++d.toList.drop (c+n*sz+ds.length)).toArray) (by
  simp[Instr.storeAt,Instr.sureAddr,storeVar,W4 tz',Value.cells,H]
  simpa [H] using m)]
 have X:Kpt (fun k=>(Value.slice (some ⟨g,c,none⟩) xs.length i).ownBlock=some k) w (w.setRow g (d.toList.take (c+n*sz)++ds++d.toList.drop (c+n*sz+ds.length)).toArray):=Kpt.of_upd l rfl
 refine h _ _ _ X ⟨l.stp hS N Q⟩ ⟨_,i,by rw[List.length_set],by rw[List.length_set];exact U,Y,fun b r=>⟨(f b r).1,(f b r).2.1,by rw[l.size];exact (f b r).2.2.1,(f b r).2.2.2⟩,fun _=>⟨g,c,_,rfl,N,Q,E,?_,fun j y q=>?_⟩⟩
 ·simp;omega
 ·rw[List.toList_toArray]
  have V:=Array.length_toList (xs:=d)
  have J:j<xs.length:=by have:=(List.getElem?_eq_some_iff.1 q).1;simpa using this
  have ae:j*sz+sz≤i*sz:=by rw[←Nat.succ_mul];exact Nat.mul_le_mul_right _ (by omega)
  by_cases O:j=n
  ·subst O
   rw[List.getElem?_set_self J] at q
   cases q
   rw[List.append_assoc,List.drop_append,List.drop_eq_nil_of_le (by rw[List.length_take];omega),List.nil_append,List.length_take,show c+j*sz-min (c+j*sz) d.toList.length=0 by omega,List.drop_zero,List.take_append_of_le_length (by omega),List.take_of_length_le (by omega)]
   exact hx
  ·rw[List.getElem?_set_ne (by omega)] at q
   have:=q5 j y q
   rcases Nat.lt_or_gt_of_ne O with s | hgt
   ·have D:j*sz+sz≤n*sz:=by rw[←Nat.succ_mul];exact Nat.mul_le_mul_right _ s
    rw[List.append_assoc,List.drop_append_of_le_length (by rw[List.length_take];omega),List.take_append_of_le_length (by rw[List.length_drop,List.length_take];omega),List.drop_take,List.take_take]
    rwa [show min sz (c+n*sz-(c+j*sz))=sz by omega]
   ·have D:n*sz+sz≤j*sz:=by rw[←Nat.succ_mul];exact Nat.mul_le_mul_right _ hgt
    rw[List.drop_append,List.drop_eq_nil_of_le (by rw[List.length_append,List.length_take];omega),List.nil_append,List.length_append,List.length_take,List.drop_drop,H]
    rwa [show c+n*sz+sz+(c+j*sz-(min (c+n*sz) d.toList.length+sz))=c+j*sz by omega]
end
theorem Q4D (p:Nat→Prop): ∀n,p n→ ∃m,p m∧ ∀k,p k→m≤k:=by
 intro n
 induction n using Nat.strongRecOn with
 | _ n c=>
  intro h
  by_cases b: ∃k,k<n∧p k
  ·obtain ⟨k,f,g⟩:=b;exact c k f g
  ·exact ⟨n,h,fun k d=>Nat.le_of_not_lt fun a=>b ⟨k,a,d⟩⟩
noncomputable def Av (p:Nat→Prop):Nat:=open Classical in if h: ∃m,p m∧ ∀k,p k→m≤k then Classical.choose h else 0
theorem Th {p:Nat→Prop} {n:Nat} (h:p n):p (Av p)∧Av p≤n:=by
 have a:=Q4D p n h
 unfold Av
 rw[dif_pos a]
 exact ⟨(Classical.choose_spec a).1,(Classical.choose_spec a).2 n h⟩
theorem Ba {α:Type} {g:α} {A:(α→World→Prop)→α→(Nat→Value)→World→Prop} (I:Nat→α→World→Prop) (n:Nat) (j:I n g w)
 (k: ∀a n x d w,I n x w→(∀c b w',c<n→I c b w'→a b w')→A a x d w):lp g w A:=by
 refine Zv (fun x w=> ∃n,I n x w) (fun x w=>Av fun n=>I n x w) ⟨n,j⟩ ?_
 rintro x d w ⟨n,l⟩
 obtain ⟨i,m⟩:=Th (p:=fun n=>I n x w) l
 refine k _ _ x d w i fun c b w' f h=>⟨⟨c,h⟩,?_⟩
 exact Nat.lt_of_le_of_lt (Th (p:=fun n=>I n b w') h).2 f
section
variable {α : Type} {R : Q4 → α → List Value → Prop} {B sz : Nat} {e : TypeId} {v u : Value} {xs ys : List α} {x : α}
theorem U2.below (h:U2 B e sz R σ w v xs) (a:Below w.heap.size w w'):U2 B e sz R σ w' v xs:=h.kp (D:=fun _=>False) (.of_below a) fun _ _=>id
theorem U2.pre {a:Option Addr} {n m b:Nat} (h:U2 B e sz R σ w (.slice a m b) (xs++ys)) (z:n=xs.length):U2 B e sz R σ w (.slice a n b) xs:=by
 obtain ⟨H,j,o,p,l,c,D⟩:=h
 injection o with q e2 C
 subst q C z
 rw[List.length_append] at p
 refine ⟨a,b,rfl,by omega,l,c,fun s=>?_⟩
 obtain ⟨g,d,f,q0,A,E,r,t,y⟩:=D s
 exact ⟨g,d,f,q0,A,E,r,t,fun i x k=>y i x (by rw[List.getElem?_append_left (List.getElem?_eq_some_iff.1 k).1];exact k)⟩
def Sy (B:Nat) (e:TypeId) (sz:Nat) (R:Q4→α→List Value→Prop) (σ:Q4) (v:Value) (xs:List α) (x:α) (w1 c:World):Prop:=
 Kpt (fun k=>v.ownBlock=some k) w1 c∧(U2 B e sz R σ w1 v xs→U2 B e sz R σ c v xs)∧
  ∀a b,v= .slice a xs.length b→U2 B e sz R σ w1 (.slice a (xs.length+1) b) (xs++[x])→U2 B e sz R σ c (.slice a (xs.length+1) b) (xs++[x])
theorem Sy.below (a:Below w.heap.size w w'):Sy B e sz R σ v xs x w w':=⟨.of_below a,fun h=>h.below a,fun _ _ _ h=>h.below a⟩
theorem Sy.refl:Sy B e sz R σ v xs x w w:=Sy.below (Below.refl _ _)
def VQa (N B:Nat) (e:TypeId) (sz:Nat) (R:Q4→α→List Value→Prop) (σ:Q4) (v:Value) (xs:List α) (x:α) (c:Value) (w:World):Prop:=
 U2 B e sz R σ w c (xs++[x])∧((∃a b,v= .slice a xs.length b∧c= .slice a (xs.length+1) b)∨((∀k,c.ownBlock=some k→N≤k)∧ ∀k,v.ownBlock=some k→k<N))
theorem VQa.stable {N:Nat} {j:Value} (h:VQa N B e sz R σ v xs x j w) (g:Sy B e sz R σ v xs x w w'):VQa N B e sz R σ v xs x j w':=by
 obtain ⟨i,b⟩:=h
 refine ⟨?_,b⟩
 rcases b with ⟨a,c,f,rfl⟩ | ⟨b,f⟩
 ·exact g.2.2 a c f i
 ·exact i.kp g.1 fun k l d=>by have:=b k l;have:=f k d;omega
theorem Kpt.more {D E:Nat→Prop} (h:Kpt D w w') (k:Kpt E w' w'') (hE: ∀j,E j→w.heap.size≤j):Kpt D w w'':=
 ⟨k.os.trans h.os,k.tape.trans h.tape,k.output.trans h.output,Nat.le_trans h.size k.size,fun i a b=>(k.block i (Nat.lt_of_lt_of_le a h.size) fun e=>by have:=hE i e;omega).trans (h.block i a b)⟩
end
end Go.Emb

namespace Go.Hm
open Go.Kd
theorem U3 {l:List Cla} {n:X0} {c:Cla} (h:lk l n=some c):c.name=n∧c∈l∧ ∃i,Y4 l n=some i∧l[i]? =some c:=by
 unfold lk at h
 cases a:Y4 l n with
 | none=>rw[a] at h;cases h
 | some i=>
  rw[a] at h
  obtain ⟨b,e,_⟩:=List.findIdx?_eq_some_iff_getElem.1 a
  have d:l[i]? =some c:=h
  rw[List.getElem?_eq_getElem b] at d
  cases d
  exact ⟨by simpa using e,List.getElem_mem b,i,rfl,List.getElem?_eq_getElem b⟩
theorem Zo {l:List Cla} {n:X0} {i:Nat} (h:Y4 l n=some i): ∃c,lk l n=some c∧l[i]? =some c∧c.name=n:=by
 obtain ⟨a,b,_⟩:=List.findIdx?_eq_some_iff_getElem.1 h
 refine ⟨l[i],?_,List.getElem?_eq_getElem a,by simpa using b⟩
 unfold lk;rw[h];simp[a]
theorem Q20 {l:List Cla} {n:X0}:Q1e l n=(lk l n).isSome:=by
 unfold Q1e
 cases a:Y4 l n with
 | none=>simp[lk,a]
 | some i=>obtain ⟨c,h,_⟩:=Zo a;simp[h]
theorem Q7D {l:List Cla} {c:Cla} (h:c∈l): ∃d,lk l c.name=some d:=by
 cases a:Y4 l c.name with
 | none=>
  have:=List.findIdx?_eq_none_iff.1 a c h
  simp at this
 | some i=>obtain ⟨d,h,_⟩:=Zo a;exact ⟨d,h⟩
inductive Reach (L : Uj) : X0 → X0 → Prop
  | refl {a : X0} {c : Cla} : L a = some c → Reach L a a
  | step {a u b : X0} {c : Cla} : L a = some c → u ∈ J5 c → Reach L u b → Reach L a b
theorem Reach.trans {L:Uj} {a b d:X0} (h:Reach L a b) (k:Reach L b d):Reach L a d:=by
 induction h with
 | refl _=>exact k
 | step e f _ c=>exact .step e f (c k)
theorem Reach.right {L:Uj} {a b:X0} (h:Reach L a b): ∃c,L b=some c:=by
 induction h with
 | refl h=>exact ⟨_,h⟩
 | step _ _ _ d=>exact d
theorem Reach.left {L:Uj} {a b:X0} (h:Reach L a b): ∃c,L a=some c:=by
 cases h with
 | refl h=>exact ⟨_,h⟩
 | step h _ _=>exact ⟨_,h⟩
theorem Q00 (L:Uj): ∀(f:Nat) (a b:List X0),∃r,Zz L f a b=b++r:=by
 intro f
 induction f with
 | zero=>intro a b;exact ⟨[],by simp[Zz]⟩
 | succ f c=>
  intro a b
  cases a with
  | nil=>exact ⟨[],by simp[Zz]⟩
  | cons n a=>
   simp only[Zz]
   split
   ·exact c _ _
   ·split
    ·exact c _ _
    ·obtain ⟨r,d⟩:=c (a++J5 ‹_›) (b++[n])
     exact ⟨n::r,by rw[d];simp⟩
theorem Q7H (L:Uj): ∀(f:Nat) (a b:List X0) (x:X0),x∈Zz L f a b→x∈b∨ ∃t∈a,Reach L t x:=by
 intro f
 induction f with
 | zero=>intro a b x h;exact .inl h
 | succ f d=>
  intro a b x h
  cases a with
  | nil=>exact .inl h
  | cons n a=>
   simp only[Zz] at h
   split at h
   ·rcases d _ _ _ h with h | ⟨t,ht,h⟩
    ·exact .inl h
    ·exact .inr ⟨t,by simp[ht],h⟩
   ·rename_i c e
    split at h
    ·rcases d _ _ _ h with h | ⟨t,ht,h⟩
     ·exact .inl h
     ·exact .inr ⟨t,by simp[ht],h⟩
    ·rcases d _ _ _ h with h | ⟨t,ht,h⟩
     ·rcases List.mem_append.1 h with h | h
      ·exact .inl h
      ·simp at h;subst h;exact .inr ⟨x,by simp, .refl e⟩
     ·rcases List.mem_append.1 ht with ht | ht
      ·exact .inr ⟨t,by simp[ht],h⟩
      ·exact .inr ⟨n,by simp, .step e ht h⟩
theorem Q9q (l:List Cla) (b a:List X0) (h: ∀x∈b,x∈a):weigh l a≤weigh l b:=by
 unfold weigh
 induction l with
 | nil=>simp
 | cons c r e=>
  simp only[List.map_cons,List.sum_cons]
  by_cases d:c.name∈b
  ·rw[if_pos d,if_pos (h _ d)];omega
  ·rw[if_neg d];split<;>omega
theorem Fq (l:List Cla) (a:List X0) (c:Cla) (hc:c∈l) (h:c.name∉a):weigh l (a++[c.name])+(J5 c).length≤weigh l a:=by
 unfold weigh
 induction l with
 | nil=>simp at hc
 | cons d r f=>
  simp only[List.map_cons,List.sum_cons]
  have b:weigh r (a++[c.name])≤weigh r a:=Q9q _ _ _ (by simp;intro x g;exact .inl g)
  unfold weigh at b
  rcases List.mem_cons.1 hc with rfl | hc
  ·rw[if_pos (by simp),if_neg h];omega
  ·have:=f hc
   by_cases e:d.name∈a
   ·rw[if_pos (by simp[e]),if_pos e];omega
   ·rw[if_neg e];split<;>omega
theorem Q98 (l:List Cla): ∀(f:Nat) (a b:List X0),a.length+weigh l b≤f→
 (∀x∈b,∀c,lk l x=some c→ ∀u∈J5 c,∀d,lk l u=some d→u∈b∨u∈a)→
 (∀t∈a,∀d,lk l t=some d→t∈Zz (lk l) f a b)∧ ∀x∈Zz (lk l) f a b,∀c,lk l x=some c→ ∀u∈J5 c,∀d,lk l u=some d→u∈Zz (lk l) f a b:=by
 intro f
 induction f with
 | zero=>
  intro a b w o
  have:a=[]:=List.eq_nil_of_length_eq_zero (by omega)
  subst this
  refine ⟨by simp,fun x hx c i u j d g=>?_⟩
  rcases o x hx c i u j d g with h | h
  ·exact h
  ·simp at h
 | succ f s=>
  intro a b w o
  cases a with
  | nil=>
   refine ⟨by simp,fun x hx c i u j d g=>?_⟩
   rcases o x hx c i u j d g with h | h
   ·exact h
   ·simp at h
  | cons n a=>
   simp only[List.length_cons] at w
   simp only[Zz]
   split
   ·rename_i y
    obtain ⟨q,p⟩:=s a b (by omega) (fun x hx c i u j d g=>by
     rcases o x hx c i u j d g with h | h
     ·exact .inl h
     ·rcases List.mem_cons.1 h with rfl | h
      ·rw[y] at g;cases g
      ·exact .inr h)
    refine ⟨fun t ht d g=>?_,p⟩
    rcases List.mem_cons.1 ht with rfl | ht
    ·rw[y] at g;cases g
    ·exact q t ht d g
   ·rename_i c i
    split
    ·rename_i k
     obtain ⟨r,v⟩:=Q00 (lk l) f a b
     obtain ⟨q,p⟩:=s a b (by omega) (fun x hx c i u j d g=>by
      rcases o x hx c i u j d g with h | h
      ·exact .inl h
      ·rcases List.mem_cons.1 h with rfl | h
       ·exact .inl k
       ·exact .inr h)
     refine ⟨fun t ht d g=>?_,p⟩
     rcases List.mem_cons.1 ht with rfl | ht
     ·rw[v];simp[k]
     ·exact q t ht d g
    ·rename_i k
     obtain ⟨e,z,_⟩:=U3 i
     have B:=Fq l b c z (by rw[e];exact k)
     rw[e] at B
     obtain ⟨q,p⟩:=s (a++J5 c) (b++[n]) (by rw[List.length_append];omega) (fun x hx A m u j d g=>by
      rcases List.mem_append.1 hx with hx | hx
      ·rcases o x hx A m u j d g with h | h
       ·exact .inl (by simp[h])
       ·rcases List.mem_cons.1 h with rfl | h
        ·exact .inl (by simp)
        ·exact .inr (by simp[h])
      ·simp at hx;subst hx
       rw[i] at m;cases m
       exact .inr (by simp[j]))
     refine ⟨fun t ht d g=>?_,p⟩
     rcases List.mem_cons.1 ht with rfl | ht
     ·obtain ⟨r,v⟩:=Q00 (lk l) f (a++J5 c) (b++[t])
      rw[v];simp
     ·exact q t (by simp[ht]) d g
theorem Zu {l:List Cla} {a b:X0}:b∈R3 l a↔Reach (lk l) a b:=by
 obtain ⟨i,f⟩:=Q98 l (1+weigh l []) [a] [] (by simp) (by simp)
 constructor
 ·intro h
  rcases Q7H _ _ _ _ _ h with h | ⟨t,e,j⟩
  ·simp at h
  ·simp at e;subst e;exact j
 ·intro h
  have key: ∀{x y:X0},Reach (lk l) x y→x∈R3 l a→y∈R3 l a:=by
   intro x y h
   induction h with
   | refl _=>exact id
   | step k n o g=>
    intro m
    obtain ⟨d,c⟩:=o.left
    exact g (f _ m _ k _ n _ c)
  obtain ⟨d,c⟩:=h.left
  exact key h (i a (by simp) d c)
theorem Q97 (l:List Cla): ∀(f:Nat) (a b:List X0),a.length+weigh l b≤f→ ∀k,Zz (lk l) (f+k) a b=Zz (lk l) f a b:=by
 intro f
 induction f with
 | zero=>
  intro a b h k
  have:a=[]:=List.eq_nil_of_length_eq_zero (by omega)
  subst this
  cases k<;>rfl
 | succ f d=>
  intro a b h k
  cases a with
  | nil=>rw[Nat.succ_add];rfl
  | cons n a=>
   simp only[List.length_cons] at h
   rw[Nat.succ_add]
   simp only[Zz]
   split
   ·exact d _ _ (by omega) k
   ·rename_i c j
    split
    ·exact d _ _ (by omega) k
    ·rename_i g
     obtain ⟨e,m,_⟩:=U3 j
     have i:=Fq l b c m (by rw[e];exact g)
     rw[e] at i
     exact d _ _ (by rw[List.length_append];omega) k
end Go.Hm

namespace Go.Hm
open Go.Kd
def Uk (L:Uj) (a b:X0):Prop:= ∃c,L a=some c∧ ∃u∈J5 c,Reach L u b
def Yg (l:List Cla):Prop:= ∀a,¬Uk (lk l) a a
theorem Uk.reach {L:Uj} {a b:X0} (h:Uk L a b):Reach L a b:=by
 obtain ⟨c,d,u,e,f⟩:=h;exact .step d e f
theorem Uk.trans {L:Uj} {a b d:X0} (h:Uk L a b) (k:Reach L b d):Uk L a d:=by
 obtain ⟨c,e,u,f,g⟩:=h;exact ⟨c,e,u,f,g.trans k⟩
theorem Q2Q {L:Uj} {a b:X0}:Reach L a b↔(a=b∧(∃c,L a=some c))∨Uk L a b:=by
 constructor
 ·intro h
  cases h with
  | refl h=>exact .inl ⟨rfl,_,h⟩
  | step d f e=>exact .inr ⟨_,d,_,f,e⟩
 ·rintro (⟨rfl,c,h⟩ | h)
  ·exact .refl h
  ·exact h.reach
def Zp (l:List Cla) (a b:X0):Bool:=match lk l a with
 | none=>false
 | some c=>(J5 c).any fun u=>(R3 l u).contains b
theorem Ux {l:List Cla} {a b:X0}:Zp l a b=true↔Uk (lk l) a b:=by
 unfold Zp Uk
 cases h:lk l a with
 | none=>simp
 | some c=>
  simp only[List.any_eq_true,List.contains_iff_mem,Zu]
  constructor
  ·rintro ⟨u,d,e⟩;exact ⟨c,rfl,u,d,e⟩
  ·rintro ⟨_,⟨⟩,u,d,e⟩;exact ⟨u,d,e⟩
def F2 (l:List Cla) (n:X0):Nat:=l.countP fun m=>Zp l n m.name
theorem Q0b (l:List Cla) (n:X0):F2 l n≤l.length:=List.countP_le_length
theorem Q2U {α:Type} {p q:α→Bool}: ∀{l:List α},(∀x∈l,p x=true→q x=true)→(∃x∈l,q x=true∧p x=false)→l.countP p<l.countP q:=by
 intro l
 induction l with
 | nil=>rintro _ ⟨x,hx,_⟩;simp at hx
 | cons a r e=>
  rintro h ⟨x,hx,c,d⟩
  have f:r.countP p≤r.countP q:=List.countP_mono_left fun x hx=>h x (by simp[hx])
  rw[List.countP_cons,List.countP_cons]
  rcases List.mem_cons.1 hx with rfl | hx
  ·rw[c,d];simp;omega
  ·have:=e (fun x hx=>h x (by simp[hx])) ⟨x,hx,c,d⟩
   have g:=h a (by simp)
   cases b:p a
   ·simp;split<;>omega
   ·rw[g b];simp;omega
theorem X0O {l:List Cla} (j:Yg l) {a b:X0} (h:Uk (lk l) a b):F2 l b<F2 l a:=by
 unfold F2
 refine Q2U (fun x _ g=>?_) ?_
 ·rw[Ux] at*
  exact h.trans g.reach
 ·obtain ⟨d,f⟩:=(Reach.right (h.reach))
  obtain ⟨e,i,_⟩:=U3 f
  refine ⟨d,i,?_,?_⟩
  ·rw[Ux,e];exact h
  ·cases c:Zp l b d.name with
   | false=>rfl
   | true=>rw[Ux,e] at c;exact absurd c (j b)
theorem Xp {l:List Cla} (g:Yg l) {a u:X0} {c d:Cla} (e:lk l a=some c) (f:u∈J5 c) (b:lk l u=some d):F2 l u<F2 l a:=
 X0O g ⟨c,e,u,f, .refl b⟩
theorem Q5w {l:List Cla} (i:Yg l): ∀(f g:Nat) (n:X0),F2 l n<f→F2 l n<g→C4 (lk l) f n=C4 (lk l) g n:=by
 intro f
 induction f with
 | zero=>intro g n h;omega
 | succ f b=>
  intro g n k j
  obtain ⟨g,rfl⟩: ∃m,g=m+1:=⟨g-1,by omega⟩
  simp only[C4]
  cases e:lk l n with
  | none=>rfl
  | some c=>
   simp only
   congr 1
   cases a:lk l c.super with
   | none=>cases f<;>cases g<;>simp[C4,a]
   | some d=>
    have:=Xp i e (by simp[J5]) a
    exact b g c.super (by omega) (by omega)
theorem F4 {l:List Cla} (b:Yg l) (n:X0):chain l n=match lk l n with | none=>[] | some c=>c::chain l c.super:=by
 have:=Q0b l n
 unfold chain
 rw[C4]
 cases e:lk l n with
 | none=>rfl
 | some c=>
  simp only
  congr 1
  cases a:lk l c.super with
  | none=>cases l.length<;>simp[C4,a]
  | some d=>
   have:=Xp b e (by simp[J5]) a
   exact Q5w b _ _ _ (by omega) (by omega)
theorem I7 {l:List Cla} {n:X0} (h:lk l n=none):chain l n=[]:=by simp[chain,C4,h]
theorem Nb {α β:Type} {f g:α→Option β}: ∀{l:List α},(∀x∈l,f x=g x)→l.findSome? f=l.findSome? g
 | [],_=>rfl
 | a::r,h=>by
  rw[List.findSome?_cons,List.findSome?_cons,h a (by simp),Nb fun x b=>h x (by simp[b])]
theorem Q5k {l:List Cla} (b:Yg l) (n:X0): ∀(f g:Nat) (c:Cla),lk l c.name=some c→F2 l c.name<f→F2 l c.name<g→Ha (lk l) f c n=Ha (lk l) g c n:=by
 intro f
 induction f with
 | zero=>intro g c _ h;omega
 | succ f i=>
  intro g c j o p
  obtain ⟨g,rfl⟩: ∃m,g=m+1:=⟨g-1,by omega⟩
  simp only[Ha]
  refine Nb fun u k=>?_
  cases a:lk l u with
  | none=>rfl
  | some d=>
   simp only
   cases H9 d n with
   | some m=>rfl
   | none=>
    simp only
    have:=Xp b j (by simp[J5,k]) a
    have e:=(U3 a).1
    exact i g d (by rw[e];exact a) (by rw[e];omega) (by rw[e];omega)
def U1 (l:List Cla) (c:Cla) (n:X0):Option (X0×Hm.Met):=Ha (lk l) (l.length+1) c n
theorem Q2T {l:List Cla} (b:Yg l) {c:Cla} (f:lk l c.name=some c) (n:X0):U1 l c n=c.like.findSome? fun u=>match lk l u with
 | none=>none
 | some d=>match H9 d n with
  | some m=>some (u,m)
  | none=>U1 l d n:=by
 have:=Q0b l c.name
 unfold U1
 rw[Ha]
 refine Nb fun u g=>?_
 cases a:lk l u with
 | none=>rfl
 | some d=>
  simp only
  cases H9 d n with
  | some m=>rfl
  | none=>
   have:=Xp b f (by simp[J5,g]) a
   have e:=(U3 a).1
   exact Q5k b n _ _ d (by rw[e];exact a) (by rw[e];omega) (by rw[e];omega)
def G2 (l:List Cla):Prop:=(l.map (·.name)).Nodup
theorem G2.lk {l:List Cla} (h:G2 l) {c:Cla} (k:c∈l):Go.Hm.lk l c.name=some c:=by
 obtain ⟨d,g⟩:=Q7D k
 obtain ⟨e,o,i,p,a⟩:=U3 g
 obtain ⟨j,n,rfl⟩:=List.getElem_of_mem k
 obtain ⟨b,f⟩:=List.getElem?_eq_some_iff.1 a
 have:i=j:=by
  have m:(l.map (·.name))[i]'(by simpa using b)=(l.map (·.name))[j]'(by simpa using n):=by simp[f,e]
  exact (List.getElem_inj h).1 m
 subst this
 rw[g,←f]
theorem G2.find {l:List Cla} (h:G2 l) {i:Nat} {c:Cla} (g:l[i]? =some c):Y4 l c.name=some i:=by
 obtain ⟨b,rfl⟩:=List.getElem?_eq_some_iff.1 g
 have:=h.lk (List.getElem_mem b)
 obtain ⟨e,n,j,m,f⟩:=U3 this
 obtain ⟨a,d⟩:=List.getElem?_eq_some_iff.1 f
 have:j=i:=by
  have k:(l.map (·.name))[j]'(by simpa using a)=(l.map (·.name))[i]'(by simpa using b):=by simp[d]
  exact (List.getElem_inj h).1 k
 rw[m,this]
end Go.Hm

namespace Go.Emb
open Go.RowKit Go.Hm
variable {P : Program} {w w0 w1 w' w'' : World} {K : Value → World → Prop} {σ σ0 σ1 σ2 σ' : Q4}
theorem Stp.join (c:Stp w σ w' σ1) (f:Stp w σ w' σ2): ∃d,Stp w σ w' d∧SLe σ1 d∧SLe σ2 d:=by
 have g: ∀b o,σ1 b=some o→(fun b=>(σ1 b).or (σ2 b)) b=some o:=fun b o e=>by simp[e]
 have j: ∀b o,σ2 b=some o→(fun b=>(σ1 b).or (σ2 b)) b=some o:=by
  intro b o e
  cases a:σ1 b with
  | none=>simp[a,e]
  | some p=>
   have i:=c.sat b p a
   have h:=f.sat b o e
   rw[i] at h;cases h;simp only[a,Option.some_or]
 refine ⟨fun b=>(σ1 b).or (σ2 b),⟨c.bel,?_,fun b o e=>g b o (c.le b o e),?_⟩,⟨g⟩,⟨j⟩⟩
 ·intro b o e
  cases a:σ1 b with
  | none=>simp only[a,Option.none_or] at e;exact f.sat b o e
  | some p=>simp only[a,Option.some_or] at e;cases e;exact c.sat b _ a
 ·intro b a
  simp only[c.old b a,f.old b a];cases σ b<;>rfl
theorem Rp {Φ:Q4→Value→Prop} {A a:(Value→World→Prop)→Prop} (h:A (fun v w'=> ∃σ',Stp w σ w' σ'∧Φ σ' v)) (d:a (fun v w'=> ∃σ',Stp w σ w' σ'∧Φ σ' v)):Q7 (fun w w'=>Below w.heap.size w w') A a:=
 W7 _ (fun _ _ _ ⟨σ',b,e⟩ c=>⟨σ',b.trans (Stp.of_below b.sat c),e⟩) h d
theorem Q13 {Φ:Q4→Value→Prop} {v:Value} (b:Hst w σ w1 σ) (h:Stp w1 σ w' σ') (a:Φ σ' v):dk (fun w w'=>Below w.heap.size w w') (fun v w'=> ∃σ',Stp w σ w' σ'∧Φ σ' v) w1 v w':=
 ⟨h.bel,σ',b.stp.trans h,a⟩
theorem M5.mk {m:Hm.Met} {pv a b:Value} (e:Sl 1 Y0 σ pv m.params) (h:Sl 3 I3 σ a m.code) (g:Sl 4 Yo σ b m.catches) (d:m.name.length≤J3) (f:m.result.length≤J3) (c:Q0Q m.locals):M5 σ m [S m.name,pv,S m.result, .bool m.abs,I m.locals,a,b]:=
 ⟨pv,a,b,rfl,e,h,g,d,f,c⟩
theorem U5.mk {c:Cla} {a b mv:Value} (e:Sl 1 Y0 σ a c.like) (h:Sl 3 E0 σ b c.fields) (g:Sl 7 M5 σ mv c.methods) (d:c.name.length≤J3) (f:c.super.length≤J3):U5 σ c [S c.name,S c.super,a, .bool c.iface, .bool c.abs, .bool c.fin,b,mv]:=
 ⟨a,b,mv,rfl,e,h,g,d,f⟩
end Go.Emb
namespace Go.Hm
def SmM (m:Hm.Met):Prop:=m.params.length≤1000000∧m.code.length≤1000000∧m.catches.length≤1000000
def P7 (c:Cla):Prop:=c.like.length≤1000000∧c.fields.length≤1000000∧c.methods.length≤1000000∧ ∀m∈c.methods,SmM m
end Go.Hm
namespace Go.Proofs.YtfppjenblllfaaaGreatDoor
open Go.Emb Go.RowKit Go.Kd Go.Hm
variable {w : World} {K : Value → World → Prop} {σ : Q4}
theorem Q31 {m:Hm.Met} {cs:List Value} (hs:X4 w σ) (hm:M5 σ m cs) (A:SmM m)
 (h: ∀pv o f w' σ',Stp w σ w' σ'→M5 σ' m [S m.name,pv,S m.result, .bool m.abs,I m.locals,o,f]→K (.agg [S m.name,pv,S m.result, .bool m.abs,I m.locals,o,f].toArray) w'):Q0 P F.bH [.agg cs.toArray] w K:=Q3s (by
 obtain ⟨pv,o,f,rfl,N,E,H,g4,g5,g6⟩:=hm
 obtain ⟨X,s2,s3⟩:=A
 unfold Ic
 refine Ao hs fun b w1 σ1 d j a=>?_
 refine G8 j.sat fun b2 w2 σ2 M g c=>?_
 have Y:=a.lt
 replace a:=a.step g
 have C:=g.sat
 have N:=(N.up j).up g
 have E:=(E.up j).up g
 have H:=(H.up j).up g
 have L: ∀{w':World} (i:Nat) (v:Value),[S m.name,pv,S m.result, .bool m.abs,I m.locals,o,f][i]? =some v→Hst w2 σ2 w' σ2→w'.cell? ((⟨b,0,none⟩:Addr).add i)=some v:=fun i v f hh=>(a.step hh.stp).cell f
 refine V2 C ?_
 refine X2 (.pointer (some ((⟨b,0,none⟩:Addr).add 1))) (fun w d=>by rw[fa];exact X5 rfl) ?_
 refine X2 (.pointer (some ((⟨b,0,none⟩:Addr).add 5))) (fun w d=>by rw[fa];exact X5 rfl) ?_
 refine X2 (.pointer (some ((⟨b,0,none⟩:Addr).add 6))) (fun w d=>by rw[fa];exact X5 rfl) ?_
 refine X2 pv (fun t w d e=>by rw[e];exact Qg (L 1 pv rfl d) (X5 rfl)) ?_
 refine Rp (Φ:=fun σ' v=>Sl 1 Y0 σ' v m.params) (fun t w d e=>by rw[e];exact Ve d.sat N X fun O w' σ' q f=>Q13 d q f) ?_
 refine X2 o (fun t w d e=>by rw[e];exact Qg (L 5 o rfl d) (X5 rfl)) ?_
 refine Rp (Φ:=fun σ' v=>Sl 3 I3 σ' v m.code) (fun t w d e=>by rw[e];exact Oc d.sat E s2 fun O w' σ' q f=>Q13 d q f) ?_
 refine X2 f (fun t w d e=>by rw[e];exact Qg (L 6 f rfl d) (X5 rfl)) ?_
 refine X2 (.pointer (some ((⟨b,0,none⟩:Addr).add 1))) (fun w d=>by rw[fa];exact X5 rfl) ?_
 refine Rp (Φ:=fun σ' v=>Sl 4 Yo σ' v m.catches) (fun t w d e=>by rw[e];exact Nq d.sat H s3 fun O w' σ' q f=>Q13 d q f) ?_
 rintro t1 t2 t3 t4 t5 t6 t8 t9 ab D w3 aa e1 e2 e3 e4 ⟨σ5,k5,p⟩ e6 ⟨σ8,Z,r⟩ e9 z ⟨ac,B,k⟩
 subst z
 obtain ⟨σa,ka,y,u⟩:=k5.join Z
 obtain ⟨σ3,J,Q,l2⟩:=ka.join B
 have p:=(p.lift y).lift Q
 have r:=(r.lift u).lift Q
 have k:=k.lift l2
 have a:=a.step J
 have c:=c.step J
 have n:b2≠b:=by omega
 have l:=(j.trans g).trans J
 refine Lv a (by simp) (Qy p) (F5 p) fun w4 W a=>?_
 rw[fa]
 have l:=W.stp l d a.1
 have c:=c.upd W n
 refine Lv a (by simp) (Qy r) (F5 r) fun w5 U a=>?_
 rw[fa]
 have l:=U.stp l d a.1
 have c:=c.upd U n
 refine Lv a (by simp) (Qy k) (F5 k) fun w6 R a=>?_
 have l:=R.stp l d a.1
 have c:=c.upd R n
 refine Q6y a rfl ?_
 have V:=M5.mk p r k g4 g5 g6
 have s:=Yi M j
 refine sta c rfl rfl (by rw[List.all_toArray];exact List.all_eq_true.2 (Rep.one V)) fun w7 u7 c=>?_
 have l:=u7.stp l s c.1
 refine W1 c rfl ?_
 exact h t5 t8 D w7 σ3 l V)
theorem Q9f {c:Cla} {cs:List Value} (hs:X4 w σ) (hc:U5 σ c cs) (aj:P7 c)
 (h: ∀W R mv w' σ',Stp w σ w' σ'→U5 σ' c [S c.name,S c.super,W, .bool c.iface, .bool c.abs, .bool c.fin,R,mv]→K (.agg [S c.name,S c.super,W, .bool c.iface, .bool c.abs, .bool c.fin,R,mv].toArray) w'):Q0 P F.cb [.agg cs.toArray] w K:=Q3l (by
 obtain ⟨W,R,mv,rfl,g1,g2,V,g4,g5⟩:=hc
 obtain ⟨s1,s2,s3,s4⟩:=aj
 unfold Ie
 refine Ao hs fun b w1 σ1 l o f=>?_
 refine G8 o.sat fun X w2 σ2 ar m g=>?_
 have a8:=f.lt
 replace f:=f.step m
 have ao:=m.sat
 have g1:=(g1.up o).up m
 have g2:=(g2.up o).up m
 have V:=(V.up o).up m
 have L: ∀{w':World} (i:Nat) (v:Value),[S c.name,S c.super,W, .bool c.iface, .bool c.abs, .bool c.fin,R,mv][i]? =some v→Hst w2 σ2 w' σ2→w'.cell? ((⟨b,0,none⟩:Addr).add i)=some v:=fun i v U hh=>(f.step hh.stp).cell U
 refine V2 ao ?_
 refine X2 (.pointer (some ((⟨b,0,none⟩:Addr).add 2))) (fun w l=>by rw[fa];exact X5 rfl) ?_
 refine X2 (.pointer (some ((⟨b,0,none⟩:Addr).add 6))) (fun w l=>by rw[fa];exact X5 rfl) ?_
 refine X2 W (fun t w l e=>by rw[e];exact Qg (L 2 W rfl l) (X5 rfl)) ?_
 refine Rp (Φ:=fun σ' v=>Sl 1 Y0 σ' v c.like) (fun t w l e=>by rw[e];exact Ve l.sat g1 s1 fun v' w' σ' H U=>Q13 l H U) ?_
 refine X2 R (fun t w l e=>by rw[e];exact Qg (L 6 R rfl l) (X5 rfl)) ?_
 refine X2 (.pointer (some ((⟨b,0,none⟩:Addr).add 2))) (fun w l=>by rw[fa];exact X5 rfl) ?_
 refine Rp (Φ:=fun σ' v=>Sl 3 E0 σ' v c.fields) (fun t w l e=>by rw[e];exact Np l.sat g2 s2 fun v' w' σ' H U=>Q13 l H U) ?_
 rintro t6 t9 t7 t8 bf bo ac w3 bd e6 e9 e7 ⟨σ8,k8,Y⟩ bk ak ⟨bg,am,z⟩
 subst ak
 obtain ⟨σ3,k3,l1,l2⟩:=k8.join am
 have Y:=Y.lift l1
 have z:=z.lift l2
 have V:=V.up k3
 have f:=f.step k3
 have g:=g.step k3
 have M:X≠b:=by omega
 have hS:=(o.trans m).trans k3
 refine Lv f (by simp) (Qy Y) (F5 Y) fun w4 u4 f=>?_
 rw[fa]
 have hS:=u4.stp hS l f.1
 have g:=g.upd u4 M
 refine Lv f (by simp) (Qy z) (F5 z) fun w5 u5 f=>?_
 rw[fa]
 have hS:=u5.stp hS l f.1
 have g:=g.upd u5 M
 refine Ub f rfl ?_
 refine Q8 V ?_
 refine O8 c.methods.length (fun n a w'=> ∃σ',Stp w σ w' σ'∧SLe σ3 σ'∧V5 w.heap.size T.c 7 M5 σ' w' a (c.methods.take n)∧Z5 σ' w' b [S c.name,S c.super,t8, .bool c.iface, .bool c.abs, .bool c.fin,ac,mv]∧Z5 σ' w' X [S [],S [], .slice none 0 0, .bool false, .bool false, .bool false, .slice none 0 0, .slice none 0 0]∧ ∀k,a.ownBlock=some k→k≠b∧k≠X)
  ⟨σ3,hS,SLe.refl _,V5.nil,f,g,fun k H=>by cases H⟩ fun n a w6 d hn hi=>?_
 obtain ⟨σ6,C,B,ha,f,g,j⟩:=hi
 refine Z1 ?_
 refine Q5 (fun hh=>?_) (fun hh=>?_)
 ·have y:n<c.methods.length:=by simpa using hh
  have ad:c.methods.length≤9223372036854775807:=by omega
  refine L7 (V.lift B) y fun p cs hl A hr=>?_
  refine Y7 C.sat hl A ?_
  refine Y6 C.sat (by rfl) A (Rep.one hr) fun q w7 σ7 r hq=>?_
  refine Y7 r.sat hq A ?_
  refine Q31 r.sat (Rep.up r.le hr) (s4 _ (List.getElem_mem y)) fun pv cv U w8 σ8 N aw=>?_
  have O:=(Nxt.of_stp (D:=fun k=>a.ownBlock=some k) r).trans (Nxt.of_stp N)
  have ai:=(ha.up r).up N
  have a2:=(f.nx O fun e=>(j _ e).1 rfl).lt
  have az:=(g.nx O fun e=>(j _ e).2 rfl).lt
  refine Jy ((C.trans r).trans N) ai aw rfl rfl rfl (by rw[List.length_take];omega) (by rw[List.length_take];omega) fun s v' w9 σ9 u ah al hat=>?_
  refine D5 ?_
  have u:=O.trans u
  refine Z6 ad y ⟨σ9,ah,B.more u.le,?_,f.nx u fun e=>(j _ e).1 rfl,g.nx u fun e=>(j _ e).2 rfl,?_⟩
  ·rw[List.take_add_one,List.getElem?_eq_getElem y];exact al
  ·intro k H
   rcases hat with hat | hat
   ·exact j k (hat▸H)
   ·have:=hat k H
    constructor<;>omega
 ·have y: ¬n<c.methods.length:=by simpa using hh
  rw[List.take_of_length_le (by omega)] at ha
  obtain ⟨σ7,Q,J,Z,E⟩:=ha.keep C
  have f:Z5 σ7 w6 b _:=⟨(E b fun e=>(j b e.symm).1 rfl).trans f.1,f.2⟩
  have g:Z5 σ7 w6 X _:=⟨(E X fun e=>(j X e.symm).2 rfl).trans g.1,g.2⟩
  rw[fa]
  refine Lv f (by simp) (Qy J) (F5 J) fun w7 u7 f=>?_
  have Q:=u7.stp Q l f.1
  have g:=g.upd u7 M
  refine Q6y f rfl ?_
  have hr:=U5.mk (Y.lift (B.more ⟨Z⟩)) (z.lift (B.more ⟨Z⟩)) J g4 g5
  have ab:=Yi ar o
  refine sta g rfl rfl (by rw[List.all_toArray];exact List.all_eq_true.2 (Rep.one hr)) fun w8 u8 g=>?_
  have an:=u8.stp Q ab g.1
  refine W1 g rfl ?_
  exact h t8 ac a w8 σ7 an hr)
end Go.Proofs.YtfppjenblllfaaaGreatDoor

namespace Go.Hm
open Go.Kd
def E7 {α:Type}:Nat→List α→List α
 | 0,xs=>xs
 | i+1,xs=>match (E7 i xs)[i]?,(E7 i xs)[xs.length-1-i]? with
  | some a,some b=>((E7 i xs).set i b).set (xs.length-1-i) a
  | _,_=>E7 i xs
theorem Tf {α:Type} (xs:List α): ∀i,2*i≤xs.length→(E7 i xs).length=xs.length∧ ∀k,k<xs.length→(E7 i xs)[k]? =if k<i∨xs.length-1-k<i then xs[xs.length-1-k]? else xs[k]?
 | 0,_=>⟨rfl,fun k m=>by simp[E7]⟩
 | i+1,h=>by
  obtain ⟨j,b⟩:=Tf xs i (by omega)
  have c:=b i (by omega)
  have e:=b (xs.length-1-i) (by omega)
  rw[if_neg (by omega)] at c e
  have n:i<xs.length:=by omega
  have d:xs.length-1-i<xs.length:=by omega
  rw[List.getElem?_eq_getElem (l:=xs) n] at c
  rw[List.getElem?_eq_getElem (l:=xs) d] at e
  simp only[E7,c,e]
  refine ⟨by simp[j],fun k m=>?_⟩
  by_cases f:k=xs.length-1-i
  ·subst f
   rw[List.getElem?_set_self (by simp[j];omega),if_pos (by omega)]
   rw[show xs.length-1-(xs.length-1-i)=i by omega,List.getElem?_eq_getElem (by omega)]
  ·rw[List.getElem?_set_ne (by omega)]
   by_cases a:k=i
   ·subst a
    rw[List.getElem?_set_self (by omega),if_pos (by omega),List.getElem?_eq_getElem (by omega)]
   ·rw[List.getElem?_set_ne (by omega),b k m]
    by_cases g:k<i∨xs.length-1-k<i
    ·rw[if_pos g,if_pos (by omega)]
    ·rw[if_neg g,if_neg (by omega)]
theorem Q8L {α:Type} (xs:List α) (i:Nat) (d:2*i≤xs.length) (f:xs.length≤2*i+1):E7 i xs=xs.reverse:=by
 obtain ⟨e,c⟩:=Tf xs i d
 apply List.ext_getElem?
 intro k
 by_cases b:k<xs.length
 ·rw[c k b,List.getElem?_reverse b]
  by_cases a:k<i∨xs.length-1-k<i
  ·rw[if_pos a]
  ·rw[if_neg a];congr 1;omega
 ·rw[List.getElem?_eq_none (by omega),List.getElem?_eq_none (by simp;omega)]
theorem Ft (L:Uj): ∀(f:Nat) (n:X0),(C4 L f n).length≤f
 | 0,_=>by simp[C4]
 | f+1,n=>by
  simp only[C4]
  split
  ·simp
  ·have:=Ft L f (by rename_i c _;exact c.super)
   simp only[List.length_cons];rename_i c _;have:=Ft L f c.super;omega
theorem Rb (l:List Cla) (n:X0):(chain l n).length≤l.length+1:=Ft _ _ _
theorem Ai {l:List Cla} {n:X0} {c:Cla} (h:c∈chain l n):c∈l:=by
 have key: ∀(f:Nat) (n:X0),c∈C4 (lk l) f n→c∈l:=by
  intro f
  induction f with
  | zero=>intro n h;simp[C4] at h
  | succ f a=>
   intro n h
   simp only[C4] at h
   split at h
   ·simp at h
   ·rename_i d b
    rcases List.mem_cons.1 h with rfl | h
    ·exact (U3 b).2.1
    ·exact a _ h
 exact key _ _ h
theorem Jr {α β:Type} (f:α→List β) (k:Nat): ∀(xs:List α),(∀x∈xs,(f x).length≤k)→(xs.flatMap f).length≤xs.length*k
 | [],_=>by simp
 | x::r,h=>by
  have b:=h x (by simp)
  have c:=Jr f k r fun y a=>h y (by simp[a])
  simp only[List.flatMap_cons,List.length_append,List.length_cons,Nat.add_mul];omega
end Go.Hm

namespace Go.Hm
open Go.Kd
def Y1 (l:List Cla) (i:Nat):X0:=(l.getD i Cla.zero).name
theorem Qp {l:List Cla} (b:G2 l) {i:Nat} (a:i<l.length):lk l (Y1 l i)=some (l.getD i Cla.zero):=by
 have e:l.getD i Cla.zero=l[i]:=by rw[List.getD_eq_getElem?_getD,List.getElem?_eq_getElem a];rfl
 unfold Y1
 rw[e];exact b.lk (List.getElem_mem a)
theorem R0 {l:List Cla} {u:X0} {j:Nat} (h:Y4 l u=some j):j<l.length∧Y1 l j=u:=by
 obtain ⟨a,b,_⟩:=List.findIdx?_eq_some_iff_getElem.1 h
 refine ⟨a,?_⟩
 unfold Y1
 rw[List.getD_eq_getElem?_getD,List.getElem?_eq_getElem a]
 simpa using b
theorem Ar {l:List Cla} (e:Yg l) (f:G2 l) {i j:Nat} (g:i<l.length) {u:X0} (d:u∈J5 (l.getD i Cla.zero)) (a:Y4 l u=some j):F2 l (Y1 l j)<F2 l (Y1 l i):=by
 obtain ⟨c,b,_⟩:=Zo a
 rw[(R0 a).2]
 exact Xp e (Qp f g) d b
theorem Si {α β:Type} {f g:β→α→β}: ∀(xs:List α) (b:β),(∀b x,x∈xs→f b x=g b x)→xs.foldl f b=xs.foldl g b
 | [],_,_=>rfl
 | x::r,b,h=>by
  rw[List.foldl_cons,List.foldl_cons,h b x (by simp)]
  exact Si r _ fun b y a=>h b y (by simp[a])
theorem Xa {l:List Cla} {frm:Nat} (f:Nat) (a:List Nat) {i:Nat} (h:i<frm):G6 l frm f a i=a:=by
 cases f<;>simp[G6,h]
theorem Q8E {l:List Cla} (e:Yg l) (p:G2 l) {frm:Nat} (c:0<frm): ∀(f g:Nat) (a:List Nat) (i:Nat),i<l.length→F2 l (Y1 l i)<f→F2 l (Y1 l i)<g→G6 l frm f a i=G6 l frm g a i:=by
 intro f
 induction f with
 | zero=>intro g a i _ h;omega
 | succ f k=>
  intro g a i o r q
  obtain ⟨g,rfl⟩: ∃m,g=m+1:=⟨g-1,by omega⟩
  simp only[G6]
  split
  ·rfl
  ·split
   ·rfl
   ·congr 1
    refine Si _ _ fun b u n=>?_
    cases d:Y4 l u with
    | none=>simp only[Option.getD_none];rw[Xa f b c,Xa g b c]
    | some j=>
     simp only[Option.getD_some]
     have:=Ar e p o n d
     exact k g b j (R0 d).1 (by omega) (by omega)
def Qa (l:List Cla) (frm:Nat) (a:List Nat) (i:Nat):List Nat:=G6 l frm (l.length+1) a i
theorem Q6r {l:List Cla} (d:Yg l) (f:G2 l) {frm:Nat} (c:0<frm) (a:List Nat) {i:Nat} (h:i<l.length):Qa l frm a i=if i<frm then a else if i∈a then a else
 ((J5 (l.getD i Cla.zero)).foldl (fun a n=>Qa l frm a ((Y4 l n).getD 0)) a)++[i]:=by
 have k:=Q0b l (Y1 l i)
 unfold Qa
 rw[G6]
 split
 ·rfl
 ·split
  ·rfl
  ·congr 1
   refine Si _ _ fun b u g=>?_
   cases e:Y4 l u with
   | none=>simp only[Option.getD_none];rw[Xa _ b c,Xa _ b c]
   | some j=>
    simp only[Option.getD_some]
    have:=Ar d f h g e
    exact Q8E d f c _ _ b j (R0 e).1 (by omega) (by omega)
theorem Vg {α:Type} {p:Nat→Prop} {f:List Nat→α→List Nat}: ∀(xs:List α) (b:List Nat),(∀b x,x∈xs→ ∀y∈f b x,y∈b∨p y)→ ∀y∈xs.foldl f b,y∈b∨p y
 | [],b,_=>fun y a=> .inl a
 | x::r,b,h=>fun y a=>by
  rw[List.foldl_cons] at a
  rcases Vg r _ (fun b z c=>h b z (by simp[c])) y a with h1 | h1
  ·exact h b x (by simp) y h1
  ·exact .inr h1
theorem Q4l {l:List Cla} (o:G2 l) {frm:Nat} (s:0<frm): ∀(f:Nat) (a:List Nat) (i:Nat),i<l.length→ ∀y∈G6 l frm f a i,y∈a∨(y<l.length∧(y=i∨Uk (lk l) (Y1 l i) (Y1 l y))):=by
 intro f
 induction f with
 | zero=>intro a i _ y hy;exact .inl hy
 | succ f q=>
  intro a i g y hy
  simp only[G6] at hy
  split at hy
  ·exact .inl hy
  ·split at hy
   ·exact .inl hy
   ·rcases List.mem_append.1 hy with hy | hy
    ·refine Vg (p:=fun y=>y<l.length∧(y=i∨Uk (lk l) (Y1 l i) (Y1 l y))) _ _ (fun b u n y hy=>?_) y hy
     cases e:Y4 l u with
     | none=>
      rw[e] at hy
      simp only[Option.getD_none] at hy
      rw[Xa f b s] at hy
      exact .inl hy
     | some j=>
      rw[e] at hy
      simp only[Option.getD_some] at hy
      obtain ⟨k,d⟩:=R0 e
      obtain ⟨c,r,_⟩:=Zo e
      rcases q b j k y hy with h | ⟨m,rfl | h2⟩
      ·exact .inl h
      ·exact .inr ⟨m, .inr ⟨_,Qp o g,u,n,by rw[d];exact .refl r⟩⟩
      ·exact .inr ⟨m, .inr ⟨_,Qp o g,u,n,by rw[←d];exact h2.reach⟩⟩
    ·simp at hy;subst hy;exact .inr ⟨g, .inl rfl⟩
theorem Q1T {α:Type} {q:List Nat→Prop} {f:List Nat→α→List Nat}: ∀(xs:List α) (b:List Nat),(∀b x,x∈xs→q b→q (f b x))→q b→q (xs.foldl f b)
 | [],b,_,h=>h
 | x::r,b,a,h=>by
  rw[List.foldl_cons]
  exact Q1T r _ (fun b z c=>a b z (by simp[c])) (a b x (by simp) h)
def Pf (l:List Cla) (a:List Nat):Prop:=a.Nodup∧ ∀y∈a,y<l.length
theorem Pf.len {l:List Cla} {b:List Nat} (h:Pf l b):b.length≤l.length:=by
 have key: ∀(n:Nat) (b:List Nat),b.Nodup→(∀y∈b,y<n)→b.length≤n:=by
  intro n
  induction n with
  | zero=>
   intro b _ h
   cases b with
   | nil=>simp
   | cons a r=>have:=h a (by simp);omega
  | succ n j=>
   intro b f h
   have k:=j (b.filter (fun y=> !decide (y=n))) (f.sublist List.filter_sublist) (fun y d=>by
    have:=List.mem_filter.1 d
    have i:=h y this.1
    have o:y≠n:=by simpa using this.2
    omega)
   have i:b.length≤(b.filter (fun y=> !decide (y=n))).length+1:=by
    clear k h
    induction b with
    | nil=>simp
    | cons a r c=>
     obtain ⟨g,m⟩:=List.nodup_cons.1 f
     by_cases e:a=n
     ·subst e
      have:r.filter (fun y=> !decide (y=a))=r:=List.filter_eq_self.2 fun y d=>by simp;rintro rfl;exact g d
      simp[this]
     ·have:=c m
      simp[e];exact this
   omega
 exact key _ _ h.1 h.2
theorem Ge {l:List Cla} (o:Yg l) (t:G2 l) {frm:Nat} (s:0<frm): ∀(f:Nat) (d:List Nat) (i:Nat),i<l.length→Pf l d→Pf l (G6 l frm f d i):=by
 intro f
 induction f with
 | zero=>intro d i _ h;exact h
 | succ f B=>
  intro d i A h
  simp only[G6]
  split
  ·exact h
  ·split
   ·exact h
   ·rename_i q
    have z:Pf l ((J5 (l.getD i Cla.zero)).foldl (fun d n=>G6 l frm f d ((Y4 l n).getD 0)) d):=by
     refine Q1T _ _ (fun b u r g=>?_) h
     cases e:Y4 l u with
     | none=>simp only[Option.getD_none];rw[Xa f b s];exact g
     | some j=>exact B b j (R0 e).1 g
    have w:i∉(J5 (l.getD i Cla.zero)).foldl (fun d n=>G6 l frm f d ((Y4 l n).getD 0)) d:=by
     intro k
     rcases Vg (p:=fun y=>Uk (lk l) (Y1 l i) (Y1 l y)) _ _ (fun b u r y hy=>by
      cases e:Y4 l u with
      | none=>
       rw[e] at hy
       simp only[Option.getD_none] at hy
       rw[Xa f b s] at hy
       exact .inl hy
      | some j=>
       rw[e] at hy
       simp only[Option.getD_some] at hy
       obtain ⟨v,m⟩:=R0 e
       obtain ⟨c,C,_⟩:=Zo e
       rcases Q4l t s f b j v y hy with h | ⟨h1,rfl | h2⟩
       ·exact .inl h
       ·exact .inr ⟨_,Qp t A,u,r,by rw[m];exact .refl C⟩
       ·exact .inr ⟨_,Qp t A,u,r,by rw[←m];exact h2.reach⟩) i k with h1 | h1
     ·exact q h1
     ·exact o _ h1
    refine ⟨?_,fun y hy=>?_⟩
    ·rw[List.nodup_append]
     exact ⟨z.1,by simp,by rintro a o b g rfl;simp at g;subst g;exact w o⟩
    ·rcases List.mem_append.1 hy with hy | hy
     ·exact z.2 y hy
     ·simp at hy;omega
end Go.Hm

namespace Go.Emb
open Go.RowKit Go.Hm
variable {P : Program} {w w0 w1 w' w'' : World} {K : Value → World → Prop} {σ σ0 σ1 σ' : Q4}
def elA (sz:Nat) (v:Value) (i:Nat):Addr:=match v with
 | .slice (some b) _ _=>b.add (i*sz)
 | _=>⟨0,0,none⟩
section
variable {α : Type} {R : Q4 → α → List Value → Prop} {sz : Nat} {v : Value} {xs : List α}
theorem Sl.el (h:Sl sz R σ v xs) {i:Nat} (j:i<xs.length): ∃cs,Z2 σ (elA sz v i) cs∧cs.length=sz∧R σ xs[i] cs:=by
 obtain ⟨a,c,rfl,m,l,e,g⟩:=h
 cases a with
 | none=>have:=e rfl;omega
 | some b=>
  obtain ⟨cs,f,d,k⟩:=(g b rfl).2 i xs[i] (by simp[j])
  exact ⟨cs,f,d,k⟩
theorem J9 {t e:TypeId} {by_:Nat} {z:Value} [TS P t e] [TZ P e sz by_ z] (h:Sl sz R σ v xs) {i:Nat} (j:i<xs.length) (f:K (.pointer (some (elA sz v i))) w):indexAddr P t v (I i) w K:=by
 obtain ⟨a,c,rfl,l,k,d,g⟩:=h
 cases a with
 | none=>have:=d rfl;omega
 | some b=>
  rw[Cd (by omega) (by omega)]
  simpa [elA] using f
theorem Sl.elS {xs:List Kd.X0} (h:Sl 1 Y0 σ v xs) {i:Nat} (c:i<xs.length):Z2 σ (elA 1 v i) [S xs[i]]∧xs[i].length≤J3:=by
 obtain ⟨cs,b,d,rfl,a⟩:=h.el c;exact ⟨b,a⟩
theorem Sl.elF {xs:List Fld} (h:Sl 3 E0 σ v xs) {i:Nat} (c:i<xs.length):Z2 σ (elA 3 v i) [S xs[i].name,S xs[i].kind, .bool xs[i].tr]∧E0 σ xs[i] [S xs[i].name,S xs[i].kind, .bool xs[i].tr]:=by
 obtain ⟨cs,b,d,rfl,a⟩:=h.el c;exact ⟨b,rfl,a⟩
theorem Sl.elI {xs:List Ins} (h:Sl 3 I3 σ v xs) {i:Nat} (c:i<xs.length):Z2 σ (elA 3 v i) [S xs[i].op,I xs[i].n,S xs[i].s]∧I3 σ xs[i] [S xs[i].op,I xs[i].n,S xs[i].s]:=by
 obtain ⟨cs,b,d,rfl,a⟩:=h.el c;exact ⟨b,rfl,a⟩
theorem Sl.elK {xs:List Cat} (h:Sl 4 Yo σ v xs) {i:Nat} (c:i<xs.length):Z2 σ (elA 4 v i) [I xs[i].frm,I xs[i].to,I xs[i].at_,S xs[i].cls]∧Yo σ xs[i] [I xs[i].frm,I xs[i].to,I xs[i].at_,S xs[i].cls]:=by
 obtain ⟨cs,b,d,rfl,a⟩:=h.el c;exact ⟨b,rfl,a⟩
theorem Sl.conv {α β:Type} {R:Q4→α→List Value→Prop} {e:Q4→β→List Value→Prop} {sz:Nat} {v:Value} {xs:List α} {ys:List β} (h:Sl sz R σ v xs) (g:ys.length=xs.length) (p: ∀i (j:i<xs.length) (u:i<ys.length) cs,R σ xs[i] cs→e σ ys[i] cs):Sl sz e σ v ys:=by
 obtain ⟨a,d,rfl,l,s,o,k⟩:=h
 refine ⟨a,d,by rw[g],by rw[g];exact l,s,o,fun b f=>⟨fun t=>(k b f).1 (by omega),fun i x q=>?_⟩⟩
 obtain ⟨j,rfl⟩:=List.getElem?_eq_some_iff.1 q
 have c:i<xs.length:=by omega
 obtain ⟨cs,r,m,n⟩:=(k b f).2 i xs[i] (List.getElem?_eq_getElem c)
 exact ⟨cs,r,m,p i c j cs n⟩
theorem Sl.elM {xs:List Hm.Met} (h:Sl 7 M5 σ v xs) {i:Nat} (e:i<xs.length): ∃pv a b,Z2 σ (elA 7 v i) [S xs[i].name,pv,S xs[i].result, .bool xs[i].abs,I xs[i].locals,a,b]∧M5 σ xs[i] [S xs[i].name,pv,S xs[i].result, .bool xs[i].abs,I xs[i].locals,a,b]:=by
 obtain ⟨cs,d,f,pv,a,b,rfl,c⟩:=h.el e;exact ⟨pv,a,b,d,pv,a,b,rfl,c⟩
theorem Sl.elC {xs:List Cla} (h:Sl 8 U5 σ v xs) {i:Nat} (e:i<xs.length): ∃a b mv,Z2 σ (elA 8 v i) [S xs[i].name,S xs[i].super,a, .bool xs[i].iface, .bool xs[i].abs, .bool xs[i].fin,b,mv]∧U5 σ xs[i] [S xs[i].name,S xs[i].super,a, .bool xs[i].iface, .bool xs[i].abs, .bool xs[i].fin,b,mv]:=by
 obtain ⟨cs,d,f,a,b,mv,rfl,c⟩:=h.el e;exact ⟨a,b,mv,d,a,b,mv,rfl,c⟩
end
theorem U4 {b:World→World→Prop} {A a:(Value→World→Prop)→Prop} {V:Value} (h:A (fun v _=>V=v)) (c:a (fun v _=>V=v)):Q7 b A a:=W7 _ (fun _ _ _ h _=>h) h c
theorem N4 {v V:Value} (h:V=v):dk (fun w w'=>Below w.heap.size w w') (fun v _=>V=v) w v w:=⟨Below.refl _ _,h⟩
theorem Zl {v V:Value} (a:Below w.heap.size w w') (h:V=v):dk (fun w w'=>Below w.heap.size w w') (fun v _=>V=v) w v w':=⟨a,h⟩
theorem Wv {c b:Bool} {V:Value} {a:World→(Value→World→Prop)→Prop} (h:c=b→a w (dk (fun w w'=>Below w.heap.size w w') (fun v _=>V=v) w)):Q1 (.bool c) b w a (dk (fun w w'=>Below w.heap.size w w') (fun v _=>(if c=b then V else undef)=v) w):=by
 by_cases e:c=b
 ·simp only[e,if_true]
  subst e
  have:=h rfl
  cases c
  ·rw[Vl];exact this
  ·rw[G4];exact this
 ·have d:c= !b:=by cases c<;>cases b<;>simp_all
  rw[if_neg e];subst d
  cases b
  ·rw[Bool.not_false,Pp];exact ⟨Below.refl _ _,rfl⟩
  ·rw[Bool.not_true,Jo];exact ⟨Below.refl _ _,rfl⟩
theorem Qn {p:Prop} (hq:p:=by intros;(repeat (rename_i hx;subst hx));(repeat' (first | (with_reducible exact N4 rfl) | (with_reducible exact Zl (Stp.bel (by (repeat (first | exact Stp.refl (by (first | assumption | exact Stp.sat (by assumption) | exact Hst.sat (by assumption))) | assumption | refine Stp.trans ?_ (by first | assumption | exact Hst.stp (by assumption)))))) rfl) | (with_reducible intro _) | (simp only[↓M2,M2,Mb,reduceIte]) | (with_reducible show Q2 _ _ _ _ _;first | refine X8 aS aL aR ?_ | refine Y7 aS aL aR ?_ | refine ld aS aL aR ?_) | (with_reducible show indexAddr _ _ _ _ _ _;refine J9 aL au ?_) | (with_reducible show X6 _ _ _ _ _ _ _ _;refine Q8 aL ?_) | (with_reducible show Vv _ _ _ _ _ _;refine V0 aR ?_) | (with_reducible show pick _ _ _ _ _ _;refine Jn ?_) | (apply Wv;intro hh;(try simp only[hh,reduceIte,↓M2,M2,Mb,reduceIte]))));done):p:=hq
end Go.Emb

namespace Go.Emb
open Go.RowKit Go.Hm
variable {P : Program} {w w0 w1 w' w'' : World} {K : Value → World → Prop} {σ σ0 σ1 σ' : Q4}
section
variable {α : Type} {R : Q4 → α → List Value → Prop} {B sz : Nat} {e : TypeId} {v u : Value} {xs ys : List α}
def Emp (v:Value):Prop:= ∃a,v= .slice a 0 0
theorem X0n {t p:TypeId} {by_:Nat} {z:Value} {cs:List Bool} [ts:TS P t e] [tz:TZ P e sz by_ z] [hr:Rep R] (Y:Stp w0 σ0 w σ) (ha:V5 w0.heap.size e sz R σ w v []) (hv:Emp v) (N:X4 w σ') (W:Sl sz R σ' u ys) (hR: ∀x cs,R σ' x cs→R σ x cs) (Q:(z.cells.size==sz&&decide (0<sz))=true)
 (hb:ys.length*by_≤140737488355328) (hm:ys.length≤1000000000000)
 (h: ∀j w',Stp w σ w' σ→V5 w0.heap.size e sz R σ w' j ys→K j w'):X6 P .append [t,t] p cs [v,u] w K:=by
 obtain ⟨l,rfl⟩:=hv
 have D:=Y.sat
 obtain ⟨a,d,c,rfl,n1,r,n3,n4,n5⟩:=W.cells N
 obtain ⟨i,X,L,J,m⟩:=tz.info
 simp only[Bool.and_eq_true,beq_iff_eq,decide_eq_true_eq] at Q
 obtain ⟨E,ai⟩:=Q
 have g:Src P i.size t (.slice a ys.length d) ys.length c w:=by
  cases a with
  | some b=>exact Src.ofSlice w ts.h b ys.length d c (by rw[L];exact r) (n3 b rfl) n4
  | none=>
   have s:ys.length=0:=by
    obtain ⟨Z,V,e',q1,_,q3,_⟩:=W;injection e' with e1 e2 e3;have:=n1 rfl;omega
   have O:c=[]:=List.eq_nil_of_length_eq_zero (by rw[r,s];simp)
   subst O
   rw[s];exact Src.ofNil w ts.h d
 have y: ∀j w',(Builtin.append_ #[t,t] p #[.slice l 0 0, .slice a ys.length d]).run P w= .ok j w'→Stp w σ w' σ→V5 w0.heap.size e sz R σ w' j ys→X6 P .append [t,t] p cs [.slice l 0 0, .slice a ys.length d] w K:=by
  intro j w' f C hq
  have n:(builtin .append #[t,t] p cs.toArray #[.slice l 0 0, .slice a ys.length d]).run P w= .ok (.value j) w':=by
   simp[builtin,f]
  unfold X6
  rw[Qr];unfold T6
  rw[n]
  exact h j w' C hq
 by_cases s:ys=[]
 ·subst s
  have O:c=[]:=List.eq_nil_of_length_eq_zero (by simpa using r)
  subst O
  refine y (.slice l 0 0) w ?_ (Stp.refl D) ha
  have U:=g.len w
  have q:=g.cells
  simp only[List.length_nil] at U q⊢
  cases l<;>simp[Builtin.append_,run_underlying ts.h,sizeOf,typeInfo,X,U,q,storeCells]
 ·have ak:0<ys.length:=List.length_pos_iff.2 s
  have o:(Builtin.firstCells i.size 0 (.slice l 0 0)).run P w.drew= .ok (#[]:Array Value) w.drew:=by
   cases l with
   | none=>exact run_firstCells_none w.drew i.size 0 0 0
   | some Z=>exact run_firstCells_some w.drew i.size 0 Z 0 0 [] (by simp) (by intro _ _ h';simp at h')
  have hg:0<0+ys.length:=by omega
  have f:=run_append_grow_src (P:=P) w t t p e i z ts.h X m l 0 0 [] o (.slice a ys.length d) ys.length c g hg (by omega) (growslice_fits hg (by rw[J,Nat.zero_add];exact hb))
  simp only[Nat.zero_add] at f
  have H:=grownCap_le_maxLen w ys.length 0 e (by simp only[maxLen];omega)
  have M:=grownCap_ge w ys.length 0 e
  refine y _ _ f (Stp.of_below D ((Below.refl _ _).drew.alloc (Nat.le_refl _) _)) ⟨c,⟨r, .inr ⟨w.heap.size,_,_,rfl,Y.bel.size,heap_alloc_new w.drew _,M,H,?_,?_⟩⟩,?_,fun i x hx=>hR _ _ (n5 i x hx)⟩
  ·simp only[List.nil_append]
   rw[Array.size_append,List.size_toArray,r,size_zeroCells,E,←Nat.add_mul]
   congr 1;omega
  ·simp only[List.nil_append]
   rw[Array.toList_append]
   rw[List.take_append_of_le_length (by simp only[List.toList_toArray];omega),List.take_of_length_le (by simp only[List.toList_toArray];omega)]
  ·intro k C;cases C;exact D.none (Nat.le_refl _)
end
def Q9o {α:Type} (w0:World) (σ:Q4) (e:TypeId) (sz:Nat) (R:Q4→α→List Value→Prop) (xs:List α) (v:Value) (w':World):Prop:=Stp w0 σ w' σ∧V5 w0.heap.size e sz R σ w' v xs
def Q72 {α:Type} (w0:World) (σ:Q4) (e:TypeId) (sz:Nat) (R:Q4→α→List Value→Prop) (v:Value) (w':World):Prop:=Stp w0 σ w' σ∧V5 w0.heap.size e sz R σ w' v ([]:List α)∧Emp v
section
variable {α : Type} {R : Q4 → α → List Value → Prop} {sz : Nat} {e : TypeId} {v u : Value} {xs ys : List α} {A rest : (Value → World → Prop) → Prop}
theorem Q2e [Rep R] (xs:List α) (h:A (Q9o w σ e sz R xs)) (c:rest (Q9o w σ e sz R xs)):Q7 (fun w w'=>Below w.heap.size w w') A rest:=
 W7 _ (fun _ _ _ ⟨a,d⟩ b=>⟨a.trans (Stp.of_below a.sat b),d.up (Stp.of_below a.sat b)⟩) h c
theorem X0J [Rep R] (h:A (Q72 w σ e sz R)) (d:rest (Q72 w σ e sz R)):Q7 (fun w w'=>Below w.heap.size w w') A rest:=
 W7 _ (fun _ _ _ ⟨a,f,c⟩ b=>⟨a.trans (Stp.of_below a.sat b),f.up (Stp.of_below a.sat b),c⟩) h d
theorem Q3N (b:Hst w σ w1 σ) (h:Stp w1 σ w' σ) (a:V5 w.heap.size e sz R σ w' v xs):dk (fun w w'=>Below w.heap.size w w') (Q9o w σ e sz R xs) w1 v w':=⟨h.bel,b.stp.trans h,a⟩
theorem X1U (c:Hst w σ w1 σ) (h:Stp w1 σ w' σ) (a:V5 w.heap.size e sz R σ w' v ([]:List α)) (b:Emp v):dk (fun w w'=>Below w.heap.size w w') (Q72 w σ e sz R) w1 v w':=⟨h.bel,c.stp.trans h,a,b⟩
theorem Pa {t:TypeId} {by_:Nat} {z:Value} [ts:TS P t e] [tz:TZ P e sz by_ z] (R:Q4→α→List Value→Prop) (a:Stp w0 σ0 w σ) (c:0<sz)
 (h: ∀v w',Stp w σ w' σ→V5 w0.heap.size e sz R σ w' v ([]:List α)→Emp v→K v w'):buildSlice P t 0 [] w K:=by
 obtain ⟨cells,d,g⟩:=On (P:=P) (t:=t) (sz:=sz) (e:=e) [] (by simp) (by simp) w
 unfold buildSlice
 have b:(Instr.buildSlice t 0 ([]:List (Nat×Value)).toArray).run P w=_:=d
 rw[X9 b]
 refine h _ _ (Stp.own a.sat _) ⟨[],⟨by simp, .inr ⟨_,_,cells,rfl,a.bel.size,heap_alloc_new w _,by simp,by simp[maxLen],?_,by simp⟩⟩,?_,by simp⟩ ⟨_,rfl⟩
 ·have:cells.size=0:=by rw[←Array.length_toList,g];rfl
  simp[this]
 ·intro k f;cases f;exact a.sat.none (Nat.le_refl _)
theorem Q6X [Rep R] {t:TypeId} {by_:Nat} {z:Value} [ts:TS P t e] [tz:TZ P e sz by_ z] (a:(decide (0<sz))=true) (g:rest (Q72 w σ e sz R)):
 Q7 (fun w w'=>Below w.heap.size w w') (fun φ=> ∀w1:World,Hst w σ w1 σ→buildSlice P t 0 [] w1 (dk (fun w w'=>Below w.heap.size w w') φ w1)) rest:=
 X0J (fun w1 b=>Pa R b.stp (by simpa using a) fun v w' f d c=>X1U b f d c) g
end
theorem U5.parts {c:Cla} {a b i d e f j mv:Value} (h:U5 σ c [a,b,i,d,e,f,j,mv]):Sl 1 Y0 σ i c.like∧Sl 3 E0 σ j c.fields∧Sl 7 M5 σ mv c.methods∧c.name.length≤J3∧c.super.length≤J3:=by
 obtain ⟨_,_,_,g,k⟩:=h
 simp only[List.cons.injEq,and_true] at g
 obtain ⟨_,_,rfl,_,_,_,rfl,rfl⟩:=g
 exact k
theorem M5.parts {m:Hm.Met} {a pv b d e f g:Value} (h:M5 σ m [a,pv,b,d,e,f,g]):Sl 1 Y0 σ pv m.params∧Sl 3 I3 σ f m.code∧Sl 4 Yo σ g m.catches∧m.name.length≤J3∧m.result.length≤J3∧Q0Q m.locals:=by
 obtain ⟨_,_,_,c,i⟩:=h
 simp only[List.cons.injEq,and_true] at c
 obtain ⟨_,rfl,_,_,_,rfl,rfl⟩:=c
 exact i
end Go.Emb

namespace Go.Emb
open Go.RowKit
variable {P : Program} {w : World} {K : Value → World → Prop}
end Go.Emb
namespace Go.Proofs.YtfppjenblllfaaaGreatDoor
open Go.Emb Go.RowKit Go.Kd Go.Hm
variable {w : World} {K : Value → World → Prop} {σ : Q4}
end Go.Proofs.YtfppjenblllfaaaGreatDoor

namespace Go.Proofs.YtfppjenblllfaaaGreatDoor
open Go.Emb Go.RowKit Go.Kd
variable {w : World} {K : Value → World → Prop}
end Go.Proofs.YtfppjenblllfaaaGreatDoor

namespace Go.Emb
open Go.RowKit Go.Hm
section
variable {P : Program} {w w0 w1 w' w'' : World} {K : Value → World → Prop} {σ σ0 σ1 σ' : Q4}
theorem Q3w (a:Array Value) (n i:Nat) (f:i<n) (h:0<a.size):((madeCells a (n*a.size)).toList.drop (i*a.size)).take a.size=a.toList:=by
 have d:i*a.size+a.size≤n*a.size:=by rw[←Nat.succ_mul];exact Nat.mul_le_mul_right _ f
 refine List.ext_getElem (by simp[madeCells];omega) fun j k g=>?_
 have c:j<a.size:=by simpa using g
 simp only[List.getElem_take,List.getElem_drop,madeCells,Array.toList_map,List.getElem_map,Array.toList_range,List.getElem_range,Array.getElem_toList]
 have:(i*a.size+j) % a.size=j:=by rw[Nat.add_comm,Nat.add_mul_mod_self_right];exact Nat.mod_eq_of_lt c
 rw[this]
 simp[c]
theorem X1B {α:Type} {R:Q4→α→List Value→Prop} {t e:TypeId} {sz by_ n:Nat} {z:Value} [ts:TS P t e] [tz:TZ P e sz by_ z] (g:α) (r:X4 w σ) (A:z.cells.size=sz) (d:0<sz) (E:R σ g z.cells.toList) (J:n*sz≤16777216) (H:by_*n≤281474976710656)
 (h: ∀v w',Stp w σ w' σ→V5 w.heap.size e sz R σ w' v (List.replicate n g)→(∀k,v.ownBlock=some k→w.heap.size≤k)→K v w'):Mw P t (I n) (I n) w K:=by
 obtain ⟨i,D,c,p,a⟩:=tz.info
 have q:(i.bytes:Int)*(n:Int)≤281474976710656:=by
  rw[p]
  have:((by_*n:Nat):Int)≤281474976710656:=by omega
  rwa [Int.natCast_mul] at this
 have C:n≤16777216:=by
  have:n*1≤n*sz:=Nat.mul_le_mul_left _ d
  omega
 have o:=run_makeSlice (P:=P) w t e i z ts.h D a .i64 .i64 (n:Int) (n:Int) (by omega) (Int.le_refl _) (by rw[c];simp only[Int.toNat_natCast];omega) q (by omega)
 unfold Mw
 rw[X9 o]
 simp only[Int.toNat_natCast,c]
 refine h _ _ (Stp.own r _) ⟨(madeCells z.cells (n*sz)).toList,⟨by simp[madeCells], .inr ⟨w.heap.size,n,madeCells z.cells (n*sz),?_,Nat.le_refl _,heap_alloc_new w _,?_,?_,?_,?_⟩⟩,?_,fun j x f=>?_⟩ ?_
 ·simp
 ·simp
 ·simp[maxLen];omega
 ·simp[madeCells]
 ·rw[List.take_of_length_le (by simp[madeCells])]
 ·intro k m;cases m;exact r.none (Nat.le_refl _)
 ·have s:j<n:=by have:=(List.getElem?_eq_some_iff.1 f).1;simpa using this
  have l:x=g:=by
   rw[List.getElem?_replicate] at f
   rw[if_pos s] at f
   exact (Option.some.inj f).symm
  subst l
  subst A
  rw[Q3w z.cells n j s d]
  exact E
 ·intro k m;cases m;exact Nat.le_refl _
end
section
variable {α : Type} {R : Q4 → α → List Value → Prop} {B sz : Nat} {e : TypeId} {v u : Value} {xs : List α} {w w' w0 : World} {σ σ' σ0 : Q4}
theorem U2.shiftR [hr:Rep R] (h:U2 B e sz R σ w v xs) (r:SLe σ σ') (m: ∀k,v.ownBlock=some k→σ' k=none):U2 B e sz R σ' w v xs:=by
 obtain ⟨a,j,rfl,p,o,c,D⟩:=h
 refine ⟨a,j,rfl,p,o,fun b d=>⟨(c b d).1,(c b d).2.1,(c b d).2.2.1,by subst d;exact m _ rfl⟩,fun s=>?_⟩
 obtain ⟨g,f,l,rfl,C,E,q,z,A⟩:=D s
 exact ⟨g,f,l,rfl,C,m g rfl,q,z,fun i x t=>hr.up r.le (A i x t)⟩
def X02 (w:World):World:={w with heap:= #[]}
theorem Q9z (a:X4 w σ):Stp (X02 w) (fun _=>none) w σ:=
 ⟨⟨rfl,rfl,rfl,Nat.zero_le _,fun k d=>absurd d (Nat.not_lt_zero k)⟩,a,fun _ _ h=>(by cases h),fun b c=>absurd c (Nat.not_lt_zero b)⟩
theorem U2.freeze [hr:Rep R] (a:X4 w σ) (h:U2 B e sz R σ w v xs): ∃σ',X4 w σ'∧SLe σ σ'∧Sl sz R σ' v xs∧ ∀k,some k≠v.ownBlock→σ' k=σ k:=by
 obtain ⟨σ',d,g,f,c⟩:=(h.mono (Nat.zero_le B):U2 (X02 w).heap.size e sz R σ w v xs).keep (Q9z a)
 exact ⟨σ',d.sat,f,g,c⟩
end
section
variable {P : Program} {w w0 w1 w' w'' : World} {K : Value → World → Prop} {σ σ0 σ1 σ' : Q4}
theorem Z2.tail {q:Addr} {xs ys:List Value} (h:Z2 σ q (xs++ys)):Z2 σ (q.add xs.length) ys:=by
 obtain ⟨d,a,e,z,g,f⟩:=h
 cases xs with
 | nil=>exact ⟨by simp[Addr.add,d],a,e,z,by simpa [Addr.add] using g,fun i u c=>by simpa [Addr.add] using f i u c⟩
 | cons x xs=>
  refine ⟨by simp[Addr.add,d],a,e,z,by simpa [Addr.add] using g,fun i u c=>?_⟩
  have:=f ((x::xs).length+i) u (by rw[List.getElem?_append_right (by omega)];simpa using c)
  simpa [Addr.add,Nat.add_assoc] using this
theorem U2.down {α:Type} {R:Q4→α→List Value→Prop} {B sz:Nat} {e:TypeId} {v:Value} {xs:List α} (h:U2 B e sz R σ' w v xs) (t:SLe σ σ') (H: ∀x cs,R σ' x cs→R σ x cs):U2 B e sz R σ w v xs:=by
 obtain ⟨a,j,rfl,r,q,c,J⟩:=h
 have m: ∀k,σ' k=none→σ k=none:=fun k p=>by
  cases e:σ k with
  | none=>rfl
  | some o=>have:=t.le k o e;rw[p] at this;cases this
 refine ⟨a,j,rfl,r,q,fun b d=>⟨(c b d).1,(c b d).2.1,(c b d).2.2.1,m _ (c b d).2.2.2⟩,fun z=>?_⟩
 obtain ⟨g,f,l,rfl,E,L,s,C,D⟩:=J z
 exact ⟨g,f,l,rfl,E,m _ L,s,C,fun i x A=>H _ _ (D i x A)⟩
end
section
variable {P : Program} {w w' w0 : World} {σ σ0 : Q4} {α : Type} {R : Q4 → α → List Value → Prop} {sz : Nat} {e : TypeId} {v u : Value} {xs : List α} {y : α}
end
end Go.Emb
namespace Go.Emb
open Go.RowKit Go.Hm
variable {P : Program} {w w0 w1 w' w'' : World} {K : Value → World → Prop} {σ σ0 σ1 σ' : Q4} {b n : Nat} {ds : List Value} {v V : Value}
structure VarT (b : Nat) (ds : List Value) (w w' : World) : Prop where
  kp : Kpt (fun j => j = b) w w'
  var : (b < w.heap.size → w'.heap[b]? = w.heap[b]?) ∨ ∃ e, w'.heap[b]? = some (.cells ds.toArray e (0, 0))
structure VarB (w0 : World) (σ0 : Q4) (w1 : World) (σ : Q4) (b n : Nat) (w' : World) : Prop where
  hst : Hst w0 σ0 w' σ
  kp : Kpt (fun j => j = b) w1 w'
  var : ∃ cs, cs.length = n ∧ Z5 σ w' b cs
theorem VarT.of_below (h:Below w.heap.size w w'):VarT b ds w w':=⟨.of_below h, .inl fun a=>h.block b a⟩
theorem VarT.of_upd (h:Upd w b w') (a:Z5 σ w' b ds):VarT b ds w w':=⟨.of_upd h rfl, .inr a.2⟩
theorem VarB.step (d:w0.heap.size≤b) (g:ds.length=n) (h:VarB w0 σ0 w1 σ b n w) (k:VarT b ds w w'):VarB w0 σ0 w1 σ b n w':=by
 obtain ⟨cs,c,a⟩:=h.var
 refine ⟨⟨h.hst.stp.kp k.kp fun j f=>by subst f;exact ⟨d,a.1⟩⟩,h.kp.trans k.kp,?_⟩
 rcases k.var with e | e
 ·exact ⟨cs,c,a.1,by rw[e a.lt];exact a.2⟩
 ·exact ⟨ds,g,a.1,e⟩
theorem X1D {A:(World→World→Prop)→(World→Prop)→Prop} (ds:List Value) {cs:List Value} (a:Stp w0 σ0 w σ) (g:w0.heap.size≤b) (d:Z5 σ w b cs) (i:cs.length=n) (c:ds.length=n)
 (h:A (VarT b ds) (VarB w0 σ0 w σ b n)):dr w A:=
 Q09 _ _ ⟨⟨a.trans (Stp.of_below a.sat (Below.refl _ _).drew)⟩, .of_below (Below.refl _ _).drew,cs,i,d⟩ (fun _ _ f j=>f.step g c j) h
theorem Fe (h:V=v):dk (VarT b ds) (fun v _=>V=v) w v w:=⟨.of_below (Below.refl _ _),h⟩
theorem Q9x {t:TypeId} {by_:Nat} {z:Value} [tz:TZ P t n by_ z] {a:(List Value→Value→World→Prop)→Prop} {φ:Value→World→Prop} (p:ds.length=n) (i: ∀u∈ds,u.oneCell'=true) (j: ∀v w,φ v w→ .agg ds.toArray=v)
 (o:a (fun _ _ w=>Z5 σ w b ds)) (c:σ b=none):Q19 (VarT b ds) (fun F=> ∀x w,VarB w0 σ0 w1 σ b n w→φ x w→Z3 P t (.pointer (some ⟨b,0,none⟩)) x w (dk (VarT b ds) (F [x]) w)) a:=by
 refine Q6b _ (fun xs v w w' h k=>?_) (fun x w f l=>?_) o
 ·rcases k.var with e | e
  ·exact ⟨c,by rw[e h.lt];exact h.2⟩
  ·exact ⟨c,e⟩
 ·have:=j x w l
  subst this
  obtain ⟨cs,g,q⟩:=f.var
  exact sta q g p (by rw[List.all_toArray];exact List.all_eq_true.2 i) fun w' m d=>⟨.of_upd m d,d⟩
theorem VarB.hs (h:VarB w0 σ0 w1 σ b n w):Hst w0 σ0 w σ:=h.hst
end Go.Emb
