/- Parts of a proof about the given program: its functions as texts of their own, what each computes, plain laws of that. The conditions of each stand in its statement. -/
import Derived.Test.YtfppjenblllfaaaGreatDoorB2
import Derived.ChangeArms
import Derived.DataReads
import Derived.SizedLaws
import Derived.Deep.AppendSrc
import Derived.Laws.StructEq
import Derived.Test.YtfppjenblllfaaaGreatDoorB1
import Derived.Laws.OwnMore
import Derived.Laws.CopyRow
set_option linter.unnecessarySimpa false
set_option linter.defProp false
set_option linter.unusedSectionVars false
set_option linter.unusedVariables false
set_option linter.unusedSimpArgs false
namespace Go.Emb
open Go.RowKit Go.Hm
variable {H : Type} {enc : TypeId × Value → H} {P : Program} {W : World} {t : TypeId} {cs : List Value} {fuel : Nat} {x : DataW H × List MemPlace}
def Yb (W:World):Q4:=fun b=>W.heap[b]?
theorem Q8H:X4 W (Yb W):=fun b o h=>h
def Wt (P:Program) (t:TypeId) (d:DataW H):Prop:= ∀n∈d.weights P t,n≤reachBytes
theorem X0Q {a:Addr} {n:Nat} (h:W.cells? 0 a n=some cs) (B:0<n):cs.length=n∧Z3 (Yb W) a cs:=by
 obtain ⟨_,k,s⟩:=World.cells?_some h
 refine ⟨k,?_⟩
 have key: ∀i v,cs[i]? =some v→ ∃D3 e f,W.heap[a.block]? =some (.cells D3 e f)∧(a.add i).spot=none∧D3[a.off+i]? =some v:=by
  intro i v g
  have A:i<cs.length:=(List.getElem?_eq_some_iff.1 g).1
  have b:=s i (by omega)
  rw[g] at b
  unfold World.cell? at b
  rw[C0,Xt] at b
  cases p:W.heap[a.block]? with
  | none=>rw[p] at b;cases b
  | some o=>
   rw[p] at b
   cases o with
   | cells D3 e f=>
    simp only at b
    split at b
    ·cases b
    ·rename_i q
     exact ⟨D3,e,f,rfl,by simpa using q,b⟩
   | _=>cases b
 cases j:cs with
 | nil=>subst j;simp at k;omega
 | cons c r=>
  obtain ⟨D3,e,f,l,w,z⟩:=key 0 c (by rw[j];rfl)
  refine ⟨by simpa [Addr.add] using w,D3,e,f,l,fun i v g=>?_⟩
  obtain ⟨m,D,u,d,C,y⟩:=key i v (by rw[j];exact g)
  rw[l] at d
  injection d with d
  injection d with d
  subst d
  exact y
theorem Em (a:P.underlying t=some .string) (h:DataW.trod enc P W 0 (fun _=>true) true fuel t cs=some x) (b:Wt P t x.1): ∃s:Kd.X0,cs=[S s]∧s.length≤Z7:=by
 obtain ⟨⟨⟨s⟩⟩,rfl,rfl,_⟩:=DataW.trod_string a h
 refine ⟨s,rfl,?_⟩
 have:=b s.length (by simp[DataW.weights])
 exact this
theorem X0E (a:P.underlying t=some .bool) (h:DataW.trod enc P W 0 (fun _=>true) true fuel t cs=some x): ∃b,cs=[.bool b]:=by
 obtain ⟨b,c,_⟩:=DataW.trod_bool a h;exact ⟨b,c⟩
theorem Aj (b:P.underlying t=some (.int .i64)) (h:DataW.trod enc P W 0 (fun _=>true) true fuel t cs=some x): ∃n,cs=[I n]∧Tz n:=by
 obtain ⟨n,c,_,a⟩:=DataW.trod_int b h
 refine ⟨n,c,?_⟩
 simp only[Lit.wf,Bool.and_eq_true,decide_eq_true_eq] at a
 exact ⟨a.1,a.2⟩
theorem X1f {α:Type} {Q:Nat→α→Prop}: ∀(n:Nat),(∀i,i<n→ ∃y,Q i y)→ ∃xs:List α,xs.length=n∧ ∀i y,xs[i]? =some y→Q i y:=by
 intro n
 induction n with
 | zero=>intro _;exact ⟨[],rfl,by simp⟩
 | succ n f=>
  intro h
  obtain ⟨xs,d,c⟩:=f fun i b=>h i (by omega)
  obtain ⟨y,e⟩:=h n (by omega)
  refine ⟨xs++[y],by simp[d],fun i z a=>?_⟩
  by_cases b:i<xs.length
  ·rw[List.getElem?_append_left b] at a;exact c i z a
  ·rw[List.getElem?_append_right (by omega)] at a
   have:i-xs.length=0:=by
    have:=(List.getElem?_eq_some_iff.1 a).1
    simp at this;omega
   rw[this] at a
   simp at a
   subst a
   rw[show i=n by omega];exact e
theorem X1X {e:TypeId} {d:DataW H}: ∀{l:List (DataW H)},d∈l→ ∀n∈d.weights P e,n∈DataW.weightsAll P e l:=by
 intro l
 induction l with
 | nil=>intro h;simp at h
 | cons a r c=>
  intro h n b
  simp only[DataW.weightsAll,List.mem_append]
  rcases List.mem_cons.1 h with rfl | h
  ·exact .inl b
  ·exact .inr (c h n b)
theorem Q78 {α:Type} {R:Q4→α→List Value→Prop} {e:TypeId} {sz:Nat} (A:P.underlying t=some (.slice e)) (B:P.cellsOf e=sz) (J:0<sz)
 (s: ∀fuel cs (x:DataW H×List MemPlace),DataW.trod enc P W 0 (fun _=>true) true fuel e cs=some x→Wt P e x.1→ ∃y,R (Yb W) y cs)
 (h:DataW.trod enc P W 0 (fun _=>true) true fuel t cs=some x) (O:Wt P t x.1): ∃v xs,cs=[v]∧Sl sz R (Yb W) v xs:=by
 rcases DataW.trod_slice A h with ⟨rfl,rfl⟩ | ⟨a,j,r,d,u,n,_,rfl,rfl,_,M,p,w,g,_⟩
 ·exact ⟨_,[],rfl,Sl.nil⟩
 subst B
 have step: ∀i,i<j→ ∃y,∃c,Z3 (Yb W) (a.add (i*P.cellsOf e)) c∧c.length=P.cellsOf e∧R (Yb W) y c:=by
  intro i C
  have z:=g i C
  have f:i<d.length:=by omega
  rw[List.getElem?_eq_getElem f] at z
  obtain ⟨c,E,L⟩:=Option.bind_eq_some_iff.1 z
  obtain ⟨D,q⟩:=X0Q E J
  obtain ⟨y,k⟩:=s n c _ L (fun m p=>O m (by
   simp only[DataW.weights,A,List.mem_cons,List.mem_append]
   exact .inr (.inl (X1X (List.mem_map.2 ⟨_,List.getElem_mem f,rfl⟩) m p))))
  exact ⟨y,c,q,D,k⟩
 obtain ⟨xs,o,l⟩:=X1f j step
 refine ⟨_,xs,rfl,some a,r,by rw[o],by rw[o];exact M,p,by simp,fun b Q=>?_⟩
 cases Q
 refine ⟨fun N=>?_,fun i y k=>l i y k⟩
 obtain ⟨y,k⟩: ∃y,xs[0]? =some y:=⟨xs[0],List.getElem?_eq_getElem N⟩
 obtain ⟨c,q,_,_⟩:=l 0 y k
 have:=q.1
 simpa [Addr.add] using this
theorem X0Z: ∀{a:List TypeId} {l:List (DataW H)} {i:Nat} {u:TypeId} {d:DataW H},a[i]? =some u→l[i]? =some d→ ∀n∈d.weights P u,n∈DataW.weightsEach P a l:=
 fun e c n b=>DataW.weights_mem_each e c n b
theorem F2 {g:Array Field} (d:P.underlying t=some (.struct g)) (h:DataW.trod enc P W 0 (fun _=>true) true fuel t cs=some x) (r:Wt P t x.1) (i:Nat) {o:Nat} {b:TypeId}
 (q:(g[i]?).map (fun f=>(f.type,f.offset))=some (b,o)) (j:P.cellsOf b=1): ∃n y,DataW.trod enc P W 0 (fun _=>true) true n b ((cs.drop o).take 1)=some y∧Wt P b y.1:=by
 obtain ⟨xs,n,_,rfl,v,k,p⟩:=DataW.trod_struct d h
 obtain ⟨f,a,s⟩:=Option.map_eq_some_iff.1 q
 cases s
 have e:=p i f a
 have c:i<xs.length:=by rw[k];exact (Array.getElem?_eq_some_iff.1 a).1
 rw[List.getElem?_eq_getElem c,j] at e
 refine ⟨n,_,e,fun m l=>r m ?_⟩
 simp only[DataW.weights,d]
 exact X0Z (i:=i) (u:=f.type) (by rw[List.getElem?_map,Array.getElem?_toList,a];rfl) (by rw[List.getElem?_map,List.getElem?_eq_getElem c];rfl) m l
theorem Q4G {b:Array Field} {k:Nat} (a:P.underlying t=some (.struct b)) (d:P.cellsOf t=k) (h:DataW.trod enc P W 0 (fun _=>true) true fuel t cs=some x):cs.length=k:=by
 obtain ⟨_,_,_,_,c,_,_⟩:=DataW.trod_struct a h
 rw[c,d]
theorem Q7h {α:Type} {l:List α} (h:l.length=3): ∃a b c,l=[a,b,c]:=by
 match l,h with
 | [a,b,c],_=>exact ⟨a,b,c,rfl⟩
theorem X2m {α:Type} {l:List α} (h:l.length=4): ∃a b c d,l=[a,b,c,d]:=by
 match l,h with
 | [a,b,c,d],_=>exact ⟨a,b,c,d,rfl⟩
theorem X29 {α:Type} {l:List α} (h:l.length=7): ∃a b c d e f g,l=[a,b,c,d,e,f,g]:=by
 match l,h with
 | [a,b,c,d,e,f,g],_=>exact ⟨a,b,c,d,e,f,g,rfl⟩
end Go.Emb
namespace Go.Proofs.YtfppjenblllfaaaGreatDoor
open Go.Emb Go.RowKit Go.Kd Go.Hm
variable {H : Type} {enc : TypeId × Value → H} {W : World} {cs : List Value} {fuel : Nat} {x : DataW H × List MemPlace}
theorem Zb:P.cellsOf T.c=1:=by kernel_rfl
theorem Q8l:P.cellsOf T.p=1:=by kernel_rfl
theorem Q3F:P.cellsOf T.e=1:=by kernel_rfl
theorem X1H {t:TypeId} (a:P.underlying t=some .string) (h:DataW.trod enc P W 0 (fun _=>true) true fuel t cs=some x) (b:Wt P t x.1): ∃y,X9 (Yb W) y cs:=by
 obtain ⟨s,q,r⟩:=Em a h b;exact ⟨s,q,r⟩
def X2s:Array Field:= #[⟨"Op",T.c,0,false, "", "",0⟩,⟨"N",T.al,1,false, "", "",16⟩,⟨"S",T.c,2,false, "", "",24⟩]
theorem Q3I:P.underlying T.m=some (.struct X2s):=by kernel_rfl
theorem X23 (h:DataW.trod enc P W 0 (fun _=>true) true fuel T.m cs=some x) (a:Wt P T.m x.1): ∃y,G3 (Yb W) y cs:=by
 obtain ⟨r,q,p,rfl⟩:=Q7h (Q4G Q3I (by kernel_rfl) h)
 obtain ⟨_,_,l,w0⟩:=F2 (o:=0) Q3I h a 0 rfl Zb
 obtain ⟨_,_,k,w1⟩:=F2 (o:=1) Q3I h a 1 rfl (by kernel_rfl)
 obtain ⟨_,_,n,e⟩:=F2 (o:=2) Q3I h a 2 rfl Zb
 obtain ⟨j,q0,d⟩:=Em X7 l w0
 obtain ⟨m,b,g⟩:=Aj (by kernel_rfl) k
 obtain ⟨f,c,i⟩:=Em X7 n e
 simp at q0 b c
 subst q0 b c
 exact ⟨⟨j,m,f⟩,rfl,d,g,i⟩
def X2o:Array Field:= #[⟨"From",T.e,0,false, "", "",0⟩,⟨"To",T.e,1,false, "", "",8⟩,⟨"At",T.e,2,false, "", "",16⟩,⟨"Class",T.c,3,false, "", "",24⟩]
theorem Q1M:P.underlying T.n=some (.struct X2o):=by kernel_rfl
theorem X22 (h:DataW.trod enc P W 0 (fun _=>true) true fuel T.n cs=some x) (a:Wt P T.n x.1): ∃y,Xf (Yb W) y cs:=by
 obtain ⟨z,w,u,A,rfl⟩:=X2m (Q4G Q1M (by kernel_rfl) h)
 obtain ⟨_,_,m,w0⟩:=F2 (o:=0) Q1M h a 0 rfl Q3F
 obtain ⟨_,_,k,w1⟩:=F2 (o:=1) Q1M h a 1 rfl Q3F
 obtain ⟨_,_,r,v⟩:=F2 (o:=2) Q1M h a 2 rfl Q3F
 obtain ⟨_,_,l,s⟩:=F2 (o:=3) Q1M h a 3 rfl Zb
 obtain ⟨j,q0,e⟩:=Aj Q1Z m
 obtain ⟨n,b,g⟩:=Aj Q1Z k
 obtain ⟨f,d,i⟩:=Aj Q1Z r
 obtain ⟨p,c,q⟩:=Em X7 l s
 simp at q0 b d c
 subst q0 b d c
 exact ⟨⟨j,n,f,p⟩,rfl,e,g,i,q⟩
theorem X25:P.underlying T.d=some (.slice T.c):=by kernel_rfl
theorem X1M:P.underlying T.l=some (.slice T.m):=by kernel_rfl
theorem X1r:P.underlying T.o=some (.slice T.n):=by kernel_rfl
def X2a:Array Field:= #[⟨"Name",T.c,0,false, "", "",0⟩,⟨"Params",T.d,1,false, "", "",16⟩,⟨"Result",T.c,2,false, "", "",40⟩,⟨"Abstract",T.p,3,false, "", "",56⟩,⟨"Locals",T.e,4,false, "", "",64⟩,⟨"Code",T.l,5,false, "", "",72⟩,⟨"Catches",T.o,6,false, "", "",96⟩]
theorem Da:P.underlying T.b=some (.struct X2a):=by kernel_rfl
theorem X1D (h:DataW.trod enc P W 0 (fun _=>true) true fuel T.b cs=some x) (a:Wt P T.b x.1): ∃y,L2 (Yb W) y cs:=by
 obtain ⟨X,V,O,c3,Q,c5,c6,rfl⟩:=X29 (Q4G Da (by kernel_rfl) h)
 obtain ⟨_,_,B,w0⟩:=F2 (o:=0) Da h a 0 rfl Zb
 obtain ⟨_,_,w,w1⟩:=F2 (o:=1) Da h a 1 rfl (by kernel_rfl)
 obtain ⟨_,_,N,l⟩:=F2 (o:=2) Da h a 2 rfl Zb
 obtain ⟨_,_,A,w3⟩:=F2 (o:=3) Da h a 3 rfl Q8l
 obtain ⟨_,_,j,U⟩:=F2 (o:=4) Da h a 4 rfl Q3F
 obtain ⟨_,_,k,z⟩:=F2 (o:=5) Da h a 5 rfl (by kernel_rfl)
 obtain ⟨_,_,M,E⟩:=F2 (o:=6) Da h a 6 rfl (by kernel_rfl)
 obtain ⟨u,q0,i⟩:=Em X7 B w0
 obtain ⟨v1,C,b,q⟩:=Q78 (R:=X9) X25 Zb (by decide) (fun _ _ _ h a=>X1H X7 h a) w w1
 obtain ⟨m,f,s⟩:=Em X7 N l
 obtain ⟨L,e⟩:=X0E Pn A
 obtain ⟨p,g,n⟩:=Aj Q1Z j
 obtain ⟨Z,r,d,v⟩:=Q78 (R:=G3) (sz:=3) X1M (by kernel_rfl) (by decide) (fun _ _ _ h a=>X23 h a) k z
 obtain ⟨Y,D,c,J⟩:=Q78 (R:=Xf) (sz:=4) X1r (by kernel_rfl) (by decide) (fun _ _ _ h a=>X22 h a) M E
 simp at q0 b f e g d c
 subst q0 b f e g d c
 exact ⟨⟨u,C,m,L,p,r,D⟩,_,_,_,rfl,q,v,J,i,s,n⟩
end Go.Proofs.YtfppjenblllfaaaGreatDoor

namespace Go.Emb
def Z9 {α β:Type} (a:β→α→Bool×β):β→List α→Nat→Option Nat×β
 | s,[],_=>(none,s)
 | s,x::xs,i=>if (a s x).1 then (some i,(a s x).2) else Z9 a (a s x).2 xs (i+1)
def W7 (o:Option Nat):Int:=match o with | some i=>i | none=> -1
theorem K7 {α:Type} (p:α→Bool): ∀(xs:List α) (i:Nat),(Z9 (fun (_:Unit) x=>(p x,())) () xs i).1=(xs.findIdx? p).map (· +i):=by
 intro xs
 induction xs with
 | nil=>intro i;rfl
 | cons x r ih=>
  intro i
  rw[List.findIdx?_cons]
  simp only[Z9]
  cases p x with
  | true=>simp
  | false=>
   simp only[Bool.false_eq_true,if_false]
   rw[ih (i+1),Option.map_map]
   congr 1;funext n;simp only[Function.comp];omega
theorem Bs {α β:Type} (a:β→α→Bool×β) (s:β) (xs:List α) (i:Nat):decide ((0:Int)≤W7 (Z9 a s xs i).1)=(Z9 a s xs i).1.isSome:=by
 cases (Z9 a s xs i).1<;>simp[W7]
end Go.Emb
namespace Go.Proofs.YtfppjenblllfaaaGreatDoor
open Go.Emb Go.RowKit Go.Kd Go.Hm
variable {w : World} {K : Value → World → Prop} {σ : Q4}
theorem Jv {β:Type} {xs:List Hm.Met} {v f:Value} (b:β→Hm.Met→Bool×β) (m:β) (a:β→World→Prop) (D:Nat→Prop) (l: ∀s w,a s w→X4 w σ) (C:a m w) (u:Sl 7 L2 σ v xs)
 (B: ∀s x cs (w1:World) (K:Value→World→Prop),x∈xs→Kpt D w w1→a s w1→L2 σ x cs→cs.length=7→(∀w',Kpt D w w'→a (b s x).2 w'→K (.bool (b s x).1) w')→Y9 P f [.agg cs.toArray] w1 K)
 (h: ∀w',Kpt D w w'→a (Z9 b m xs 0).2 w'→K (I (W7 (Z9 b m xs 0).1)) w'):Q0 P F.g [v,f] w K:=Qk (by
 unfold H6
 ((try simp only[↓M1,M1,Mb,reduceIte]);repeat ((first | refine ld (by assumption) (by assumption) rfl ?_ | refine X8 (by assumption) (by assumption) rfl ?_ | refine Q9 (by assumption) ?_);(try simp only[↓M1,M1,Mb,reduceIte])))
 refine J5 xs.length (fun n w'=>Kpt D w w'∧ ∃s,a s w'∧Z9 b m xs 0=Z9 b s (xs.drop n) n) ⟨Kpt.refl,m,C,rfl⟩ fun n w1 d E k=>?_
 obtain ⟨t,s,k,g⟩:=k
 have r:=l s w1 k
 ((try simp only[↓M1,M1,Mb,reduceIte]);repeat ((first | refine ld (by assumption) (by assumption) rfl ?_ | refine X8 (by assumption) (by assumption) rfl ?_ | refine Q9 (by assumption) ?_);(try simp only[↓M1,M1,Mb,reduceIte])))
 refine Q5 (fun o=>?_) (fun o=>?_)
 ·have c:n<xs.length:=by simpa using o
  refine L7 u c fun p cs A e z=>?_
  refine Z1 r A e ?_
  refine B s xs[n] cs w1 _ (List.getElem_mem c) t k z e fun y i j=>?_
  rw[List.drop_eq_getElem_cons c] at g
  simp only[Z9] at g
  refine Q5 (fun q=>?_) (fun q=>?_)
  ·rw[q] at g
   have:=h y i
   rw[g] at this
   exact this j
  ·rw[q] at g
   ((try simp only[↓M1,M1,Mb,reduceIte]);repeat ((first | refine ld (by assumption) (by assumption) rfl ?_ | refine X8 (by assumption) (by assumption) rfl ?_ | refine Q9 (by assumption) ?_);(try simp only[↓M1,M1,Mb,reduceIte])))
   exact Y3 u.max c ⟨i,_,j,by simpa using g⟩
 ·have c: ¬n<xs.length:=by simpa using o
  rw[List.drop_eq_nil_of_le (by omega)] at g
  have:=h w1 t
  rw[g] at this
  exact this k)
theorem Yh {β:Type} {xs:List Hm.Met} {v f:Value} (b:β→Hm.Met→Bool×β) (d:β) (a:β→World→Prop) (D:Nat→Prop) (c: ∀s w,a s w→X4 w σ) (j:a d w) (k:Sl 7 L2 σ v xs)
 (i: ∀s x cs (w1:World) (K:Value→World→Prop),x∈xs→Kpt D w w1→a s w1→L2 σ x cs→cs.length=7→(∀w',Kpt D w w'→a (b s x).2 w'→K (.bool (b s x).1) w')→Y9 P f [.agg cs.toArray] w1 K)
 (h: ∀w',Kpt D w w'→a (Z9 b d xs 0).2 w'→K (.bool (Z9 b d xs 0).1.isSome) w'):Q0 P F.a [v,f] w K:=K2 (by
 unfold E1
 refine Jv b d a D c j k i fun w1 g e=>?_
 (try simp only[↓M1,M1,Mb,reduceIte])
 rw[Bs]
 exact h w1 g e)
theorem Sd {xs:List Hm.Met} {v f:Value} (p:Hm.Met→Bool) (hs:X4 w σ) (hv:Sl 7 L2 σ v xs)
 (hf: ∀x cs (w1:World) (K:Value→World→Prop),x∈xs→X4 w1 σ→L2 σ x cs→cs.length=7→(∀w',Below w1.heap.size w1 w'→K (.bool (p x)) w')→Y9 P f [.agg cs.toArray] w1 K)
 (h: ∀w',Below w.heap.size w w'→K (I (W7 (xs.findIdx? p))) w'):Q0 P F.g [v,f] w K:=by
 refine Jv (fun (_:Unit) x=>(p x,())) () (fun _ w'=>Below w.heap.size w w') (fun _=>False) (fun _ w' hb=>hs.below hb) (Below.refl _ _) hv (fun s x cs w1 K hx hk hi hr hl hK=>hf x cs w1 K hx (hs.below hi) hr hl fun w' hb=>hK w' (.of_below (bt hi hb)) (bt hi hb)) fun w' hk hi=>?_
 rw[K7]
 simpa using h w' hi
theorem H7 {xs:List Hm.Met} {v f:Value} (p:Hm.Met→Bool) (hs:X4 w σ) (hv:Sl 7 L2 σ v xs)
 (hf: ∀x cs (w1:World) (K:Value→World→Prop),x∈xs→X4 w1 σ→L2 σ x cs→cs.length=7→(∀w',Below w1.heap.size w1 w'→K (.bool (p x)) w')→Y9 P f [.agg cs.toArray] w1 K)
 (h: ∀w',Below w.heap.size w w'→K (.bool (xs.any p)) w'):Q0 P F.a [v,f] w K:=by
 refine Yh (fun (_:Unit) x=>(p x,())) () (fun _ w'=>Below w.heap.size w w') (fun _=>False) (fun _ w' hb=>hs.below hb) (Below.refl _ _) hv (fun s x cs w1 K hx hk hi hr hl hK=>hf x cs w1 K hx (hs.below hi) hr hl fun w' hb=>hK w' (.of_below (bt hi hb)) (bt hi hb)) fun w' hk hi=>?_
 rw[K7]
 simpa using h w' hi
theorem Vh {β:Type} {xs:List Fld} {v f:Value} (b:β→Fld→Bool×β) (m:β) (a:β→World→Prop) (D:Nat→Prop) (l: ∀s w,a s w→X4 w σ) (C:a m w) (u:Sl 3 D6 σ v xs)
 (B: ∀s x cs (w1:World) (K:Value→World→Prop),x∈xs→Kpt D w w1→a s w1→D6 σ x cs→cs.length=3→(∀w',Kpt D w w'→a (b s x).2 w'→K (.bool (b s x).1) w')→Y9 P f [.agg cs.toArray] w1 K)
 (h: ∀w',Kpt D w w'→a (Z9 b m xs 0).2 w'→K (I (W7 (Z9 b m xs 0).1)) w'):Q0 P F.j [v,f] w K:=Xb (by
 unfold R5
 ((try simp only[↓M1,M1,Mb,reduceIte]);repeat ((first | refine ld (by assumption) (by assumption) rfl ?_ | refine X8 (by assumption) (by assumption) rfl ?_ | refine Q9 (by assumption) ?_);(try simp only[↓M1,M1,Mb,reduceIte])))
 refine J5 xs.length (fun n w'=>Kpt D w w'∧ ∃s,a s w'∧Z9 b m xs 0=Z9 b s (xs.drop n) n) ⟨Kpt.refl,m,C,rfl⟩ fun n w1 d E k=>?_
 obtain ⟨t,s,k,g⟩:=k
 have r:=l s w1 k
 ((try simp only[↓M1,M1,Mb,reduceIte]);repeat ((first | refine ld (by assumption) (by assumption) rfl ?_ | refine X8 (by assumption) (by assumption) rfl ?_ | refine Q9 (by assumption) ?_);(try simp only[↓M1,M1,Mb,reduceIte])))
 refine Q5 (fun o=>?_) (fun o=>?_)
 ·have c:n<xs.length:=by simpa using o
  refine L7 u c fun p cs A e z=>?_
  refine Z1 r A e ?_
  refine B s xs[n] cs w1 _ (List.getElem_mem c) t k z e fun y i j=>?_
  rw[List.drop_eq_getElem_cons c] at g
  simp only[Z9] at g
  refine Q5 (fun q=>?_) (fun q=>?_)
  ·rw[q] at g
   have:=h y i
   rw[g] at this
   exact this j
  ·rw[q] at g
   ((try simp only[↓M1,M1,Mb,reduceIte]);repeat ((first | refine ld (by assumption) (by assumption) rfl ?_ | refine X8 (by assumption) (by assumption) rfl ?_ | refine Q9 (by assumption) ?_);(try simp only[↓M1,M1,Mb,reduceIte])))
   exact Y3 u.max c ⟨i,_,j,by simpa using g⟩
 ·have c: ¬n<xs.length:=by simpa using o
  rw[List.drop_eq_nil_of_le (by omega)] at g
  have:=h w1 t
  rw[g] at this
  exact this k)
theorem Ha {β:Type} {xs:List Fld} {v f:Value} (b:β→Fld→Bool×β) (d:β) (a:β→World→Prop) (D:Nat→Prop) (c: ∀s w,a s w→X4 w σ) (j:a d w) (k:Sl 3 D6 σ v xs)
 (i: ∀s x cs (w1:World) (K:Value→World→Prop),x∈xs→Kpt D w w1→a s w1→D6 σ x cs→cs.length=3→(∀w',Kpt D w w'→a (b s x).2 w'→K (.bool (b s x).1) w')→Y9 P f [.agg cs.toArray] w1 K)
 (h: ∀w',Kpt D w w'→a (Z9 b d xs 0).2 w'→K (.bool (Z9 b d xs 0).1.isSome) w'):Q0 P F.f [v,f] w K:=T2 (by
 unfold H3
 refine Vh b d a D c j k i fun w1 g e=>?_
 (try simp only[↓M1,M1,Mb,reduceIte])
 rw[Bs]
 exact h w1 g e)
theorem Cb {xs:List Fld} {v f:Value} (p:Fld→Bool) (hs:X4 w σ) (hv:Sl 3 D6 σ v xs)
 (hf: ∀x cs (w1:World) (K:Value→World→Prop),x∈xs→X4 w1 σ→D6 σ x cs→cs.length=3→(∀w',Below w1.heap.size w1 w'→K (.bool (p x)) w')→Y9 P f [.agg cs.toArray] w1 K)
 (h: ∀w',Below w.heap.size w w'→K (I (W7 (xs.findIdx? p))) w'):Q0 P F.j [v,f] w K:=by
 refine Vh (fun (_:Unit) x=>(p x,())) () (fun _ w'=>Below w.heap.size w w') (fun _=>False) (fun _ w' hb=>hs.below hb) (Below.refl _ _) hv (fun s x cs w1 K hx hk hi hr hl hK=>hf x cs w1 K hx (hs.below hi) hr hl fun w' hb=>hK w' (.of_below (bt hi hb)) (bt hi hb)) fun w' hk hi=>?_
 rw[K7]
 simpa using h w' hi
theorem Za {xs:List Fld} {v f:Value} (p:Fld→Bool) (hs:X4 w σ) (hv:Sl 3 D6 σ v xs)
 (hf: ∀x cs (w1:World) (K:Value→World→Prop),x∈xs→X4 w1 σ→D6 σ x cs→cs.length=3→(∀w',Below w1.heap.size w1 w'→K (.bool (p x)) w')→Y9 P f [.agg cs.toArray] w1 K)
 (h: ∀w',Below w.heap.size w w'→K (.bool (xs.any p)) w'):Q0 P F.f [v,f] w K:=by
 refine Ha (fun (_:Unit) x=>(p x,())) () (fun _ w'=>Below w.heap.size w w') (fun _=>False) (fun _ w' hb=>hs.below hb) (Below.refl _ _) hv (fun s x cs w1 K hx hk hi hr hl hK=>hf x cs w1 K hx (hs.below hi) hr hl fun w' hb=>hK w' (.of_below (bt hi hb)) (bt hi hb)) fun w' hk hi=>?_
 rw[K7]
 simpa using h w' hi
theorem Cp {β:Type} {xs:List Ins} {v f:Value} (b:β→Ins→Bool×β) (m:β) (a:β→World→Prop) (D:Nat→Prop) (l: ∀s w,a s w→X4 w σ) (C:a m w) (u:Sl 3 G3 σ v xs)
 (B: ∀s x cs (w1:World) (K:Value→World→Prop),x∈xs→Kpt D w w1→a s w1→G3 σ x cs→cs.length=3→(∀w',Kpt D w w'→a (b s x).2 w'→K (.bool (b s x).1) w')→Y9 P f [.agg cs.toArray] w1 K)
 (h: ∀w',Kpt D w w'→a (Z9 b m xs 0).2 w'→K (I (W7 (Z9 b m xs 0).1)) w'):Q0 P F.y [v,f] w K:=Xc (by
 unfold R4
 ((try simp only[↓M1,M1,Mb,reduceIte]);repeat ((first | refine ld (by assumption) (by assumption) rfl ?_ | refine X8 (by assumption) (by assumption) rfl ?_ | refine Q9 (by assumption) ?_);(try simp only[↓M1,M1,Mb,reduceIte])))
 refine J5 xs.length (fun n w'=>Kpt D w w'∧ ∃s,a s w'∧Z9 b m xs 0=Z9 b s (xs.drop n) n) ⟨Kpt.refl,m,C,rfl⟩ fun n w1 d E k=>?_
 obtain ⟨t,s,k,g⟩:=k
 have r:=l s w1 k
 ((try simp only[↓M1,M1,Mb,reduceIte]);repeat ((first | refine ld (by assumption) (by assumption) rfl ?_ | refine X8 (by assumption) (by assumption) rfl ?_ | refine Q9 (by assumption) ?_);(try simp only[↓M1,M1,Mb,reduceIte])))
 refine Q5 (fun o=>?_) (fun o=>?_)
 ·have c:n<xs.length:=by simpa using o
  refine L7 u c fun p cs A e z=>?_
  refine Z1 r A e ?_
  refine B s xs[n] cs w1 _ (List.getElem_mem c) t k z e fun y i j=>?_
  rw[List.drop_eq_getElem_cons c] at g
  simp only[Z9] at g
  refine Q5 (fun q=>?_) (fun q=>?_)
  ·rw[q] at g
   have:=h y i
   rw[g] at this
   exact this j
  ·rw[q] at g
   ((try simp only[↓M1,M1,Mb,reduceIte]);repeat ((first | refine ld (by assumption) (by assumption) rfl ?_ | refine X8 (by assumption) (by assumption) rfl ?_ | refine Q9 (by assumption) ?_);(try simp only[↓M1,M1,Mb,reduceIte])))
   exact Y3 u.max c ⟨i,_,j,by simpa using g⟩
 ·have c: ¬n<xs.length:=by simpa using o
  rw[List.drop_eq_nil_of_le (by omega)] at g
  have:=h w1 t
  rw[g] at this
  exact this k)
theorem Ds {β:Type} {xs:List Ins} {v f:Value} (b:β→Ins→Bool×β) (d:β) (a:β→World→Prop) (D:Nat→Prop) (c: ∀s w,a s w→X4 w σ) (j:a d w) (k:Sl 3 G3 σ v xs)
 (i: ∀s x cs (w1:World) (K:Value→World→Prop),x∈xs→Kpt D w w1→a s w1→G3 σ x cs→cs.length=3→(∀w',Kpt D w w'→a (b s x).2 w'→K (.bool (b s x).1) w')→Y9 P f [.agg cs.toArray] w1 K)
 (h: ∀w',Kpt D w w'→a (Z9 b d xs 0).2 w'→K (.bool (Z9 b d xs 0).1.isSome) w'):Q0 P F.l [v,f] w K:=T4 (by
 unfold H2
 refine Cp b d a D c j k i fun w1 g e=>?_
 (try simp only[↓M1,M1,Mb,reduceIte])
 rw[Bs]
 exact h w1 g e)
theorem Ez {xs:List Ins} {v f:Value} (p:Ins→Bool) (hs:X4 w σ) (hv:Sl 3 G3 σ v xs)
 (hf: ∀x cs (w1:World) (K:Value→World→Prop),x∈xs→X4 w1 σ→G3 σ x cs→cs.length=3→(∀w',Below w1.heap.size w1 w'→K (.bool (p x)) w')→Y9 P f [.agg cs.toArray] w1 K)
 (h: ∀w',Below w.heap.size w w'→K (.bool (xs.any p)) w'):Q0 P F.l [v,f] w K:=by
 refine Ds (fun (_:Unit) x=>(p x,())) () (fun _ w'=>Below w.heap.size w w') (fun _=>False) (fun _ w' hb=>hs.below hb) (Below.refl _ _) hv (fun s x cs w1 K hx hk hi hr hl hK=>hf x cs w1 K hx (hs.below hi) hr hl fun w' hb=>hK w' (.of_below (bt hi hb)) (bt hi hb)) fun w' hk hi=>?_
 rw[K7]
 simpa using h w' hi
theorem Sv {β:Type} {xs:List Cat} {v f:Value} (b:β→Cat→Bool×β) (m:β) (a:β→World→Prop) (D:Nat→Prop) (l: ∀s w,a s w→X4 w σ) (C:a m w) (u:Sl 4 Xf σ v xs)
 (B: ∀s x cs (w1:World) (K:Value→World→Prop),x∈xs→Kpt D w w1→a s w1→Xf σ x cs→cs.length=4→(∀w',Kpt D w w'→a (b s x).2 w'→K (.bool (b s x).1) w')→Y9 P f [.agg cs.toArray] w1 K)
 (h: ∀w',Kpt D w w'→a (Z9 b m xs 0).2 w'→K (I (W7 (Z9 b m xs 0).1)) w'):Q0 P F.z [v,f] w K:=Qy (by
 unfold R1
 ((try simp only[↓M1,M1,Mb,reduceIte]);repeat ((first | refine ld (by assumption) (by assumption) rfl ?_ | refine X8 (by assumption) (by assumption) rfl ?_ | refine Q9 (by assumption) ?_);(try simp only[↓M1,M1,Mb,reduceIte])))
 refine J5 xs.length (fun n w'=>Kpt D w w'∧ ∃s,a s w'∧Z9 b m xs 0=Z9 b s (xs.drop n) n) ⟨Kpt.refl,m,C,rfl⟩ fun n w1 d E k=>?_
 obtain ⟨t,s,k,g⟩:=k
 have r:=l s w1 k
 ((try simp only[↓M1,M1,Mb,reduceIte]);repeat ((first | refine ld (by assumption) (by assumption) rfl ?_ | refine X8 (by assumption) (by assumption) rfl ?_ | refine Q9 (by assumption) ?_);(try simp only[↓M1,M1,Mb,reduceIte])))
 refine Q5 (fun o=>?_) (fun o=>?_)
 ·have c:n<xs.length:=by simpa using o
  refine L7 u c fun p cs A e z=>?_
  refine Z1 r A e ?_
  refine B s xs[n] cs w1 _ (List.getElem_mem c) t k z e fun y i j=>?_
  rw[List.drop_eq_getElem_cons c] at g
  simp only[Z9] at g
  refine Q5 (fun q=>?_) (fun q=>?_)
  ·rw[q] at g
   have:=h y i
   rw[g] at this
   exact this j
  ·rw[q] at g
   ((try simp only[↓M1,M1,Mb,reduceIte]);repeat ((first | refine ld (by assumption) (by assumption) rfl ?_ | refine X8 (by assumption) (by assumption) rfl ?_ | refine Q9 (by assumption) ?_);(try simp only[↓M1,M1,Mb,reduceIte])))
   exact Y3 u.max c ⟨i,_,j,by simpa using g⟩
 ·have c: ¬n<xs.length:=by simpa using o
  rw[List.drop_eq_nil_of_le (by omega)] at g
  have:=h w1 t
  rw[g] at this
  exact this k)
theorem Eg {β:Type} {xs:List Cat} {v f:Value} (b:β→Cat→Bool×β) (d:β) (a:β→World→Prop) (D:Nat→Prop) (c: ∀s w,a s w→X4 w σ) (j:a d w) (k:Sl 4 Xf σ v xs)
 (i: ∀s x cs (w1:World) (K:Value→World→Prop),x∈xs→Kpt D w w1→a s w1→Xf σ x cs→cs.length=4→(∀w',Kpt D w w'→a (b s x).2 w'→K (.bool (b s x).1) w')→Y9 P f [.agg cs.toArray] w1 K)
 (h: ∀w',Kpt D w w'→a (Z9 b d xs 0).2 w'→K (.bool (Z9 b d xs 0).1.isSome) w'):Q0 P F.m [v,f] w K:=T3 (by
 unfold H1
 refine Sv b d a D c j k i fun w1 g e=>?_
 (try simp only[↓M1,M1,Mb,reduceIte])
 rw[Bs]
 exact h w1 g e)
theorem Er {xs:List Cat} {v f:Value} (p:Cat→Bool) (hs:X4 w σ) (hv:Sl 4 Xf σ v xs)
 (hf: ∀x cs (w1:World) (K:Value→World→Prop),x∈xs→X4 w1 σ→Xf σ x cs→cs.length=4→(∀w',Below w1.heap.size w1 w'→K (.bool (p x)) w')→Y9 P f [.agg cs.toArray] w1 K)
 (h: ∀w',Below w.heap.size w w'→K (.bool (xs.any p)) w'):Q0 P F.m [v,f] w K:=by
 refine Eg (fun (_:Unit) x=>(p x,())) () (fun _ w'=>Below w.heap.size w w') (fun _=>False) (fun _ w' hb=>hs.below hb) (Below.refl _ _) hv (fun s x cs w1 K hx hk hi hr hl hK=>hf x cs w1 K hx (hs.below hi) hr hl fun w' hb=>hK w' (.of_below (bt hi hb)) (bt hi hb)) fun w' hk hi=>?_
 rw[K7]
 simpa using h w' hi
theorem Bb {β:Type} {xs:List Cla} {v f:Value} (b:β→Cla→Bool×β) (m:β) (a:β→World→Prop) (D:Nat→Prop) (l: ∀s w,a s w→X4 w σ) (C:a m w) (u:Sl 8 U6 σ v xs)
 (B: ∀s x cs (w1:World) (K:Value→World→Prop),x∈xs→Kpt D w w1→a s w1→U6 σ x cs→cs.length=8→(∀w',Kpt D w w'→a (b s x).2 w'→K (.bool (b s x).1) w')→Y9 P f [.agg cs.toArray] w1 K)
 (h: ∀w',Kpt D w w'→a (Z9 b m xs 0).2 w'→K (I (W7 (Z9 b m xs 0).1)) w'):Q0 P F.n [v,f] w K:=Qz (by
 unfold R2
 ((try simp only[↓M1,M1,Mb,reduceIte]);repeat ((first | refine ld (by assumption) (by assumption) rfl ?_ | refine X8 (by assumption) (by assumption) rfl ?_ | refine Q9 (by assumption) ?_);(try simp only[↓M1,M1,Mb,reduceIte])))
 refine J5 xs.length (fun n w'=>Kpt D w w'∧ ∃s,a s w'∧Z9 b m xs 0=Z9 b s (xs.drop n) n) ⟨Kpt.refl,m,C,rfl⟩ fun n w1 d E k=>?_
 obtain ⟨t,s,k,g⟩:=k
 have r:=l s w1 k
 ((try simp only[↓M1,M1,Mb,reduceIte]);repeat ((first | refine ld (by assumption) (by assumption) rfl ?_ | refine X8 (by assumption) (by assumption) rfl ?_ | refine Q9 (by assumption) ?_);(try simp only[↓M1,M1,Mb,reduceIte])))
 refine Q5 (fun o=>?_) (fun o=>?_)
 ·have c:n<xs.length:=by simpa using o
  refine L7 u c fun p cs A e z=>?_
  refine Z1 r A e ?_
  refine B s xs[n] cs w1 _ (List.getElem_mem c) t k z e fun y i j=>?_
  rw[List.drop_eq_getElem_cons c] at g
  simp only[Z9] at g
  refine Q5 (fun q=>?_) (fun q=>?_)
  ·rw[q] at g
   have:=h y i
   rw[g] at this
   exact this j
  ·rw[q] at g
   ((try simp only[↓M1,M1,Mb,reduceIte]);repeat ((first | refine ld (by assumption) (by assumption) rfl ?_ | refine X8 (by assumption) (by assumption) rfl ?_ | refine Q9 (by assumption) ?_);(try simp only[↓M1,M1,Mb,reduceIte])))
   exact Y3 u.max c ⟨i,_,j,by simpa using g⟩
 ·have c: ¬n<xs.length:=by simpa using o
  rw[List.drop_eq_nil_of_le (by omega)] at g
  have:=h w1 t
  rw[g] at this
  exact this k)
theorem Cl {xs:List Cla} {v f:Value} (p:Cla→Bool) (hs:X4 w σ) (hv:Sl 8 U6 σ v xs)
 (hf: ∀x cs (w1:World) (K:Value→World→Prop),x∈xs→X4 w1 σ→U6 σ x cs→cs.length=8→(∀w',Below w1.heap.size w1 w'→K (.bool (p x)) w')→Y9 P f [.agg cs.toArray] w1 K)
 (h: ∀w',Below w.heap.size w w'→K (I (W7 (xs.findIdx? p))) w'):Q0 P F.n [v,f] w K:=by
 refine Bb (fun (_:Unit) x=>(p x,())) () (fun _ w'=>Below w.heap.size w w') (fun _=>False) (fun _ w' hb=>hs.below hb) (Below.refl _ _) hv (fun s x cs w1 K hx hk hi hr hl hK=>hf x cs w1 K hx (hs.below hi) hr hl fun w' hb=>hK w' (.of_below (bt hi hb)) (bt hi hb)) fun w' hk hi=>?_
 rw[K7]
 simpa using h w' hi
theorem Pb {β:Type} {xs:List X0} {v f:Value} (b:β→X0→Bool×β) (l:β) (a:β→World→Prop) (D:Nat→Prop) (k: ∀s w,a s w→X4 w σ) (E:a l w) (y:Sl 1 X9 σ v xs)
 (C: ∀s x (w1:World) (K:Value→World→Prop),x∈xs→Kpt D w w1→a s w1→x.length≤Z7→(∀w',Kpt D w w'→a (b s x).2 w'→K (.bool (b s x).1) w')→Y9 P f [S x] w1 K)
 (h: ∀w',Kpt D w w'→a (Z9 b l xs 0).2 w'→K (I (W7 (Z9 b l xs 0).1)) w'):Q0 P F.s [v,f] w K:=Jm (by
 unfold F8
 ((try simp only[↓M1,M1,Mb,reduceIte]);repeat ((first | refine ld (by assumption) (by assumption) rfl ?_ | refine X8 (by assumption) (by assumption) rfl ?_ | refine Q9 (by assumption) ?_);(try simp only[↓M1,M1,Mb,reduceIte])))
 refine J5 xs.length (fun n w'=>Kpt D w w'∧ ∃s,a s w'∧Z9 b l xs 0=Z9 b s (xs.drop n) n) ⟨Kpt.refl,l,E,rfl⟩ fun n w1 d H j=>?_
 obtain ⟨t,s,j,e⟩:=j
 have r:=k s w1 j
 ((try simp only[↓M1,M1,Mb,reduceIte]);repeat ((first | refine ld (by assumption) (by assumption) rfl ?_ | refine X8 (by assumption) (by assumption) rfl ?_ | refine Q9 (by assumption) ?_);(try simp only[↓M1,M1,Mb,reduceIte])))
 refine Q5 (fun o=>?_) (fun o=>?_)
 ·have c:n<xs.length:=by simpa using o
  refine L7 y c fun p cs B u A=>?_
  obtain ⟨rfl,m⟩:=A
  refine X8 r B rfl ?_
  refine C s xs[n] w1 _ (List.getElem_mem c) t j m fun z g i=>?_
  rw[List.drop_eq_getElem_cons c] at e
  simp only[Z9] at e
  refine Q5 (fun q=>?_) (fun q=>?_)
  ·rw[q] at e
   have:=h z g
   rw[e] at this
   exact this i
  ·rw[q] at e
   ((try simp only[↓M1,M1,Mb,reduceIte]);repeat ((first | refine ld (by assumption) (by assumption) rfl ?_ | refine X8 (by assumption) (by assumption) rfl ?_ | refine Q9 (by assumption) ?_);(try simp only[↓M1,M1,Mb,reduceIte])))
   exact Y3 y.max c ⟨g,_,i,by simpa using e⟩
 ·have c: ¬n<xs.length:=by simpa using o
  rw[List.drop_eq_nil_of_le (by omega)] at e
  have:=h w1 t
  rw[e] at this
  exact this j)
theorem Ak {xs:List X0} {v f:Value} (p:X0→Bool) (hs:X4 w σ) (hv:Sl 1 X9 σ v xs)
 (hf: ∀x (w1:World) (K:Value→World→Prop),x∈xs→X4 w1 σ→x.length≤Z7→(∀w',Below w1.heap.size w1 w'→K (.bool (p x)) w')→Y9 P f [S x] w1 K)
 (h: ∀w',Below w.heap.size w w'→K (I (W7 (xs.findIdx? p))) w'):Q0 P F.s [v,f] w K:=by
 refine Pb (fun (_:Unit) x=>(p x,())) () (fun _ w'=>Below w.heap.size w w') (fun _=>False) (fun _ w' hb=>hs.below hb) (Below.refl _ _) hv (fun s x w1 K hx hk hi hr hK=>hf x w1 K hx (hs.below hi) hr fun w' hb=>hK w' (.of_below (bt hi hb)) (bt hi hb)) fun w' hk hi=>?_
 rw[K7]
 simpa using h w' hi
theorem Q4o {α:Type} (p:α→Bool) (xs:List α):decide ((0:Int)≤W7 (xs.findIdx? p))=xs.any p:=by
 rw[Bool.eq_iff_iff,List.any_eq_true]
 simp only[decide_eq_true_eq]
 cases h:xs.findIdx? p with
 | none=>
  simp only[W7]
  constructor
  ·intro h;omega
  ·rintro ⟨x,b,a⟩;have:=List.findIdx?_eq_none_iff.1 h x b;rw[a] at this;cases this
 | some i=>
  simp only[W7]
  obtain ⟨c,a,_⟩:=List.findIdx?_eq_some_iff_getElem.1 h
  exact ⟨fun _=>⟨xs[i],List.getElem_mem c,a⟩,fun _=>by omega⟩
theorem F3 {xs:List X0} {v f:Value} (p:X0→Bool) (d:X4 w σ) (c:Sl 1 X9 σ v xs)
 (b: ∀x (w1:World) (K:Value→World→Prop),x∈xs→X4 w1 σ→x.length≤Z7→(∀w',Below w1.heap.size w1 w'→K (.bool (p x)) w')→Y9 P f [S x] w1 K)
 (h: ∀w',Below w.heap.size w w'→K (.bool (xs.any p)) w'):Q0 P F.d [v,f] w K:=Yn (by
 unfold B0
 refine Ak p d c b fun w1 a=>?_
 (try simp only[↓M1,M1,Mb,reduceIte])
 rw[Q4o]
 exact h w1 a)
theorem Q2j {xs:List X0} {v:Value} {x:X0} (m:X4 w σ) (i:Sl 1 X9 σ v xs)
 (h:K (I (W7 (xs.findIdx? fun y=>decide (x=y)))) w):Q0 P F.ao [v,S x] w K:=Wp (by
 unfold K5
 ((try simp only[↓M1,M1,Mb,reduceIte]);repeat ((first | refine ld (by assumption) (by assumption) rfl ?_ | refine X8 (by assumption) (by assumption) rfl ?_ | refine Q9 (by assumption) ?_);(try simp only[↓M1,M1,Mb,reduceIte])))
 refine J5 xs.length (fun n w'=>w=w'∧(xs.take n).any (fun y=>decide (x=y))=false) ⟨rfl,rfl⟩ fun n w1 d r b=>?_
 obtain ⟨rfl,b⟩:=b
 ((try simp only[↓M1,M1,Mb,reduceIte]);repeat ((first | refine ld (by assumption) (by assumption) rfl ?_ | refine X8 (by assumption) (by assumption) rfl ?_ | refine Q9 (by assumption) ?_);(try simp only[↓M1,M1,Mb,reduceIte])))
 refine Q5 (fun c=>?_) (fun c=>?_)
 ·have a:n<xs.length:=by simpa using c
  refine L7 i a fun p cs q f k=>?_
  obtain ⟨rfl,g⟩:=k
  ((try simp only[↓M1,M1,Mb,reduceIte]);repeat ((first | refine ld (by assumption) (by assumption) rfl ?_ | refine X8 (by assumption) (by assumption) rfl ?_ | refine Q9 (by assumption) ?_);(try simp only[↓M1,M1,Mb,reduceIte])))
  refine Q5 (fun e=>?_) (fun e=>?_)
  ·have:xs.findIdx? (fun y=>decide (x=y))=some n:=by
    rw[List.findIdx?_eq_some_iff_getElem]
    refine ⟨a,e,fun j o=>?_⟩
    have:=List.any_eq_false.1 b (xs[j]) (List.mem_take_iff_getElem.2 ⟨j,by omega,rfl⟩)
    exact this
   rw[this] at h;exact h
  ·((try simp only[↓M1,M1,Mb,reduceIte]);repeat ((first | refine ld (by assumption) (by assumption) rfl ?_ | refine X8 (by assumption) (by assumption) rfl ?_ | refine Q9 (by assumption) ?_);(try simp only[↓M1,M1,Mb,reduceIte])))
   exact Y3 i.max a ⟨rfl,by rw[M3 a,b,e];rfl⟩
 ·have a: ¬n<xs.length:=by simpa using c
  rw[D0 a] at b
  have:xs.findIdx? (fun y=>decide (x=y))=none:=by
   rw[List.findIdx?_eq_none_iff];intro y l;simpa using List.any_eq_false.1 b y l
  rw[this] at h;exact h)
theorem Q0g {xs:List X0} {v:Value} {x:X0} (b:X4 w σ) (a:Sl 1 X9 σ v xs)
 (h:K (.bool (xs.any fun y=>decide (x=y))) w):Q0 P F.aa [v,S x] w K:=Ub (by
 unfold G2
 refine Q2j b a ?_
 (try simp only[↓M1,M1,Mb,reduceIte])
 rw[Q4o]
 exact h)
end Go.Proofs.YtfppjenblllfaaaGreatDoor

namespace Go.Emb
abbrev Q4.Le (σ σ':Q4):Prop:= ∀b o,σ b=some o→σ' b=some o
def E8 {α:Type} (f:α→List UInt8):List α→List α→Bool
 | _,[]=>true
 | seen,x::r=> !(seen.any fun y=>decide (f y=f x))&&E8 f (seen++[x]) r
theorem Ua {α:Type} (p:α→Bool) (xs:List α):(!xs.any fun x=> !p x)=xs.all p:=by
 rw[List.all_eq_not_any_not]
end Go.Emb
namespace Go.Proofs.YtfppjenblllfaaaGreatDoor
open Go.Emb Go.RowKit Go.Kd Go.Hm
variable {w : World} {K : Value → World → Prop} {σ : Q4}
theorem Ao {xs:List Hm.Met} {v:Value} {fn:Fn} {m d:Array Value} (p:Hm.Met→Bool) (s:X4 w σ) (C:Sl 7 L2 σ v xs)
 (y: ∀(σ1:Q4) x cs (w1:World) (K:Value→World→Prop),σ.Le σ1→x∈xs→X4 w1 σ1→L2 σ1 x cs→cs.length=7→(∀w',Below w1.heap.size w1 w'→K (.bool (p x)) w')→Y9 P (.func fn m d) [.agg cs.toArray] w1 K)
 (h: ∀w',Below w.heap.size w w'→K (.bool (xs.all p)) w'):Q0 P F.ai [v, .func fn m d] w K:=Ek (by
 unfold Yy
 refine M7 s fun a w1 σ1 f l=>?_
 simp only[Value.cells] at l
 ((try simp only[↓M1,M1,Mb,reduceIte]);repeat ((first | refine ld (by assumption) (by assumption) rfl ?_ | refine X8 (by assumption) (by assumption) rfl ?_ | refine Q9 (by assumption) ?_);(try simp only[↓M1,M1,Mb,reduceIte])))
 refine H7 (fun x=> !p x) f.sat (C.up f) (fun x cs k K t g u n B=>?_) fun k A=>?_
 ·refine Y7 (Oj ?_)
  unfold Xn
  refine M7 g fun b z r c i=>?_
  refine X8 c.sat (l.up c) rfl ?_
  refine Z1 c.sat i n ?_
  refine y r x _ z _ (fun b o e=>c.le b o (f.le b o e)) t c.sat (Rep.up c.le u) n fun q j=>?_
  (try simp only[↓M1,M1,Mb,reduceIte])
  exact B q (bt c.bel j)
 ·(try simp only[↓M1,M1,Mb,reduceIte])
  rw[Ua]
  exact h k (bt f.bel A))
theorem Q0m {xs:List Fld} {v:Value} {fn:Fn} {m d:Array Value} (p:Fld→Bool) (s:X4 w σ) (C:Sl 3 D6 σ v xs)
 (y: ∀(σ1:Q4) x cs (w1:World) (K:Value→World→Prop),σ.Le σ1→x∈xs→X4 w1 σ1→D6 σ1 x cs→cs.length=3→(∀w',Below w1.heap.size w1 w'→K (.bool (p x)) w')→Y9 P (.func fn m d) [.agg cs.toArray] w1 K)
 (h: ∀w',Below w.heap.size w w'→K (.bool (xs.all p)) w'):Q0 P F.an [v, .func fn m d] w K:=Hq (by
 unfold Je
 refine M7 s fun a w1 σ1 f l=>?_
 simp only[Value.cells] at l
 ((try simp only[↓M1,M1,Mb,reduceIte]);repeat ((first | refine ld (by assumption) (by assumption) rfl ?_ | refine X8 (by assumption) (by assumption) rfl ?_ | refine Q9 (by assumption) ?_);(try simp only[↓M1,M1,Mb,reduceIte])))
 refine Za (fun x=> !p x) f.sat (C.up f) (fun x cs k K t g u n B=>?_) fun k A=>?_
 ·refine Y7 (Dc ?_)
  unfold Yl
  refine M7 g fun b z r c i=>?_
  refine X8 c.sat (l.up c) rfl ?_
  refine Z1 c.sat i n ?_
  refine y r x _ z _ (fun b o e=>c.le b o (f.le b o e)) t c.sat (Rep.up c.le u) n fun q j=>?_
  (try simp only[↓M1,M1,Mb,reduceIte])
  exact B q (bt c.bel j)
 ·(try simp only[↓M1,M1,Mb,reduceIte])
  rw[Ua]
  exact h k (bt f.bel A))
theorem Q0q {xs:List Ins} {v:Value} {fn:Fn} {m d:Array Value} (p:Ins→Bool) (s:X4 w σ) (C:Sl 3 G3 σ v xs)
 (y: ∀(σ1:Q4) x cs (w1:World) (K:Value→World→Prop),σ.Le σ1→x∈xs→X4 w1 σ1→G3 σ1 x cs→cs.length=3→(∀w',Below w1.heap.size w1 w'→K (.bool (p x)) w')→Y9 P (.func fn m d) [.agg cs.toArray] w1 K)
 (h: ∀w',Below w.heap.size w w'→K (.bool (xs.all p)) w'):Q0 P F.ap [v, .func fn m d] w K:=Hr (by
 unfold Jh
 refine M7 s fun a w1 σ1 f l=>?_
 simp only[Value.cells] at l
 ((try simp only[↓M1,M1,Mb,reduceIte]);repeat ((first | refine ld (by assumption) (by assumption) rfl ?_ | refine X8 (by assumption) (by assumption) rfl ?_ | refine Q9 (by assumption) ?_);(try simp only[↓M1,M1,Mb,reduceIte])))
 refine Ez (fun x=> !p x) f.sat (C.up f) (fun x cs k K t g u n B=>?_) fun k A=>?_
 ·refine Y7 (Ou ?_)
  unfold Xz
  refine M7 g fun b z r c i=>?_
  refine X8 c.sat (l.up c) rfl ?_
  refine Z1 c.sat i n ?_
  refine y r x _ z _ (fun b o e=>c.le b o (f.le b o e)) t c.sat (Rep.up c.le u) n fun q j=>?_
  (try simp only[↓M1,M1,Mb,reduceIte])
  exact B q (bt c.bel j)
 ·(try simp only[↓M1,M1,Mb,reduceIte])
  rw[Ua]
  exact h k (bt f.bel A))
theorem Q0n {xs:List Cat} {v:Value} {fn:Fn} {m d:Array Value} (p:Cat→Bool) (s:X4 w σ) (C:Sl 4 Xf σ v xs)
 (y: ∀(σ1:Q4) x cs (w1:World) (K:Value→World→Prop),σ.Le σ1→x∈xs→X4 w1 σ1→Xf σ1 x cs→cs.length=4→(∀w',Below w1.heap.size w1 w'→K (.bool (p x)) w')→Y9 P (.func fn m d) [.agg cs.toArray] w1 K)
 (h: ∀w',Below w.heap.size w w'→K (.bool (xs.all p)) w'):Q0 P F.aq [v, .func fn m d] w K:=Hp (by
 unfold Jc
 refine M7 s fun a w1 σ1 f l=>?_
 simp only[Value.cells] at l
 ((try simp only[↓M1,M1,Mb,reduceIte]);repeat ((first | refine ld (by assumption) (by assumption) rfl ?_ | refine X8 (by assumption) (by assumption) rfl ?_ | refine Q9 (by assumption) ?_);(try simp only[↓M1,M1,Mb,reduceIte])))
 refine Er (fun x=> !p x) f.sat (C.up f) (fun x cs k K t g u n B=>?_) fun k A=>?_
 ·refine Y7 (Ov ?_)
  unfold Yk
  refine M7 g fun b z r c i=>?_
  refine X8 c.sat (l.up c) rfl ?_
  refine Z1 c.sat i n ?_
  refine y r x _ z _ (fun b o e=>c.le b o (f.le b o e)) t c.sat (Rep.up c.le u) n fun q j=>?_
  (try simp only[↓M1,M1,Mb,reduceIte])
  exact B q (bt c.bel j)
 ·(try simp only[↓M1,M1,Mb,reduceIte])
  rw[Ua]
  exact h k (bt f.bel A))
theorem Cc {xs:List X0} {v:Value} {fn:Fn} {i c:Array Value} (p:X0→Bool) (k:X4 w σ) (r:Sl 1 X9 σ v xs)
 (n: ∀(σ1:Q4) x (w1:World) (K:Value→World→Prop),σ.Le σ1→x∈xs→X4 w1 σ1→x.length≤Z7→(∀w',Below w1.heap.size w1 w'→K (.bool (p x)) w')→Y9 P (.func fn i c) [S x] w1 K)
 (h: ∀w',Below w.heap.size w w'→K (.bool (xs.all p)) w'):Q0 P F.a3 [v, .func fn i c] w K:=Fq (by
 unfold Lp
 refine M7 k fun a w1 σ1 d g=>?_
 simp only[Value.cells] at g
 ((try simp only[↓M1,M1,Mb,reduceIte]);repeat ((first | refine ld (by assumption) (by assumption) rfl ?_ | refine X8 (by assumption) (by assumption) rfl ?_ | refine Q9 (by assumption) ?_);(try simp only[↓M1,M1,Mb,reduceIte])))
 refine F3 (fun x=> !p x) d.sat (r.up d) (fun x e K l b m q=>?_) fun e o=>?_
 ·refine Y7 (Rx ?_)
  unfold Ue
  refine X8 b g rfl ?_
  refine n σ1 x e _ d.le l b m fun j f=>?_
  (try simp only[↓M1,M1,Mb,reduceIte])
  exact q j f
 ·(try simp only[↓M1,M1,Mb,reduceIte])
  rw[Ua]
  exact h e (bt d.bel o))
theorem Q0j {xs:List Hm.Met} {v:Value} {fn:Fn} {E l:Array Value} (f:Hm.Met→X0) (hs:X4 w σ) (D:Sl 7 L2 σ v xs)
 (hf: ∀(σ1:Q4) x cs (w1:World) (K:Value→World→Prop),σ.Le σ1→X4 w1 σ1→L2 σ1 x cs→cs.length=7→(∀w',Below w1.heap.size w1 w'→K (S (f x)) w')→Y9 P (.func fn E l) [.agg cs.toArray] w1 K)
 (h: ∀w',Below w.heap.size w w'→K (.bool (E8 f [] xs)) w'):Q0 P F.am [v, .func fn E l] w K:=Ho (by
 unfold Ji
 refine M7 hs fun a w1 σ1 C Z=>?_
 simp only[Value.cells] at Z
 have W:=C.sat
 replace D:=D.up C
 ((try simp only[↓M1,M1,Mb,reduceIte]);repeat ((first | refine ld (by assumption) (by assumption) rfl ?_ | refine X8 (by assumption) (by assumption) rfl ?_ | refine Q9 (by assumption) ?_);(try simp only[↓M1,M1,Mb,reduceIte])))
 refine J5 xs.length (fun n w'=>Below w1.heap.size w1 w'∧E8 f [] xs=E8 f (xs.take n) (xs.drop n)) ⟨Below.refl _ _,rfl⟩ fun n w2 d hn hi=>?_
 obtain ⟨j,s⟩:=hi
 have u:=W.below j
 ((try simp only[↓M1,M1,Mb,reduceIte]);repeat ((first | refine ld (by assumption) (by assumption) rfl ?_ | refine X8 (by assumption) (by assumption) rfl ?_ | refine Q9 (by assumption) ?_);(try simp only[↓M1,M1,Mb,reduceIte])))
 refine Q5 (fun J=>?_) (fun J=>?_)
 ·have k:n<xs.length:=by simpa using J
  rw[List.drop_eq_getElem_cons k] at s
  simp only[E8] at s
  refine L7 D k fun p cs hl g Y=>?_
  refine Z1 u hl g ?_
  refine Y6 u (by rfl) g (Rep.one Y) fun q w3 σ3 i hq=>?_
  refine Hj (D.up i) none (some (I n)) 0 n (.inl ⟨rfl,rfl⟩) (.inr rfl) (by omega) (by omega) fun v' R=>?_
  ((try simp only[↓M1,M1,Mb,reduceIte]);repeat ((first | refine ld (by assumption) (by assumption) rfl ?_ | refine X8 (by assumption) (by assumption) rfl ?_ | refine Q9 (by assumption) ?_);(try simp only[↓M1,M1,Mb,reduceIte])))
  refine H7 (fun y=>decide (f y=f xs[n])) i.sat R (fun y ys X K hy O Q B hK=>?_) fun X V=>?_
  ·refine Y7 (Dj ?_)
   unfold Ye
   refine M7 O fun b w5 M c L=>?_
   have z:=(Z.up i).up c
   have U:=hq.up c
   have r:σ.Le M:=fun b o e=>c.le b o (i.le b o (C.le b o e))
   refine Mz (Below.refl _ _) ?_
   refine X2 (.func fn E l) (fun w j=>X8 (c.sat.below j) z rfl (X6 rfl)) ?_
   refine X2 (.agg ys.toArray) (fun w j=>Z1 (c.sat.below j) L B (X6 rfl)) ?_
   refine X2 (S (f y)) (fun t t' w j e e'=>by rw[e,e'];exact hf M y ys w _ r (c.sat.below j) (Rep.up c.le Q) B fun w' H=>Q1r H rfl) ?_
   refine X2 (.func fn E l) (fun w j=>X8 (c.sat.below j) z rfl (X6 rfl)) ?_
   refine X2 (.agg cs.toArray) (fun w j=>Z1 (c.sat.below j) U g (X6 rfl)) ?_
   rintro _ _ _ _ _ w6 A rfl rfl rfl rfl rfl
   refine hf M xs[n] cs w6 _ r (c.sat.below A) (Rep.up (fun b o e=>c.le b o (i.le b o e)) Y) g fun w7 N=>?_
   (try simp only[↓M1,M1,Mb,reduceIte])
   exact hK w7 (bt (bt c.bel A) N)
  ·have m:=bt j (bt i.bel V)
   simp only[List.drop_zero,Nat.sub_zero] at*
   refine Q5 (fun hh=>?_) (fun hh=>?_)
   ·rw[hh] at s
    have:=h X (bt C.bel m)
    rw[s] at this;exact this
   ·rw[hh] at s
    ((try simp only[↓M1,M1,Mb,reduceIte]);repeat ((first | refine ld (by assumption) (by assumption) rfl ?_ | refine X8 (by assumption) (by assumption) rfl ?_ | refine Q9 (by assumption) ?_);(try simp only[↓M1,M1,Mb,reduceIte])))
    refine Y3 D.max k ⟨m,?_⟩
    rw[s,List.take_add_one,List.getElem?_eq_getElem k];rfl
 ·have k: ¬n<xs.length:=by simpa using J
  rw[List.drop_eq_nil_of_le (by omega)] at s
  have:=h w2 (bt C.bel j)
  rw[s] at this;exact this)
theorem Q1e {xs:List Fld} {v:Value} {fn:Fn} {E l:Array Value} (f:Fld→X0) (hs:X4 w σ) (D:Sl 3 D6 σ v xs)
 (hf: ∀(σ1:Q4) x cs (w1:World) (K:Value→World→Prop),σ.Le σ1→X4 w1 σ1→D6 σ1 x cs→cs.length=3→(∀w',Below w1.heap.size w1 w'→K (S (f x)) w')→Y9 P (.func fn E l) [.agg cs.toArray] w1 K)
 (h: ∀w',Below w.heap.size w w'→K (.bool (E8 f [] xs)) w'):Q0 P F.aw [v, .func fn E l] w K:=Rv (by
 unfold Jq
 refine M7 hs fun a w1 σ1 C Z=>?_
 simp only[Value.cells] at Z
 have W:=C.sat
 replace D:=D.up C
 ((try simp only[↓M1,M1,Mb,reduceIte]);repeat ((first | refine ld (by assumption) (by assumption) rfl ?_ | refine X8 (by assumption) (by assumption) rfl ?_ | refine Q9 (by assumption) ?_);(try simp only[↓M1,M1,Mb,reduceIte])))
 refine J5 xs.length (fun n w'=>Below w1.heap.size w1 w'∧E8 f [] xs=E8 f (xs.take n) (xs.drop n)) ⟨Below.refl _ _,rfl⟩ fun n w2 d hn hi=>?_
 obtain ⟨j,s⟩:=hi
 have u:=W.below j
 ((try simp only[↓M1,M1,Mb,reduceIte]);repeat ((first | refine ld (by assumption) (by assumption) rfl ?_ | refine X8 (by assumption) (by assumption) rfl ?_ | refine Q9 (by assumption) ?_);(try simp only[↓M1,M1,Mb,reduceIte])))
 refine Q5 (fun J=>?_) (fun J=>?_)
 ·have k:n<xs.length:=by simpa using J
  rw[List.drop_eq_getElem_cons k] at s
  simp only[E8] at s
  refine L7 D k fun p cs hl g Y=>?_
  refine Z1 u hl g ?_
  refine Y6 u (by rfl) g (Rep.one Y) fun q w3 σ3 i hq=>?_
  refine Hj (D.up i) none (some (I n)) 0 n (.inl ⟨rfl,rfl⟩) (.inr rfl) (by omega) (by omega) fun v' R=>?_
  ((try simp only[↓M1,M1,Mb,reduceIte]);repeat ((first | refine ld (by assumption) (by assumption) rfl ?_ | refine X8 (by assumption) (by assumption) rfl ?_ | refine Q9 (by assumption) ?_);(try simp only[↓M1,M1,Mb,reduceIte])))
  refine Za (fun y=>decide (f y=f xs[n])) i.sat R (fun y ys X K hy O Q B hK=>?_) fun X V=>?_
  ·refine Y7 (Ep ?_)
   unfold Zg
   refine M7 O fun b w5 M c L=>?_
   have z:=(Z.up i).up c
   have U:=hq.up c
   have r:σ.Le M:=fun b o e=>c.le b o (i.le b o (C.le b o e))
   refine Mz (Below.refl _ _) ?_
   refine X2 (.func fn E l) (fun w j=>X8 (c.sat.below j) z rfl (X6 rfl)) ?_
   refine X2 (.agg ys.toArray) (fun w j=>Z1 (c.sat.below j) L B (X6 rfl)) ?_
   refine X2 (S (f y)) (fun t t' w j e e'=>by rw[e,e'];exact hf M y ys w _ r (c.sat.below j) (Rep.up c.le Q) B fun w' H=>Q1r H rfl) ?_
   refine X2 (.func fn E l) (fun w j=>X8 (c.sat.below j) z rfl (X6 rfl)) ?_
   refine X2 (.agg cs.toArray) (fun w j=>Z1 (c.sat.below j) U g (X6 rfl)) ?_
   rintro _ _ _ _ _ w6 A rfl rfl rfl rfl rfl
   refine hf M xs[n] cs w6 _ r (c.sat.below A) (Rep.up (fun b o e=>c.le b o (i.le b o e)) Y) g fun w7 N=>?_
   (try simp only[↓M1,M1,Mb,reduceIte])
   exact hK w7 (bt (bt c.bel A) N)
  ·have m:=bt j (bt i.bel V)
   simp only[List.drop_zero,Nat.sub_zero] at*
   refine Q5 (fun hh=>?_) (fun hh=>?_)
   ·rw[hh] at s
    have:=h X (bt C.bel m)
    rw[s] at this;exact this
   ·rw[hh] at s
    ((try simp only[↓M1,M1,Mb,reduceIte]);repeat ((first | refine ld (by assumption) (by assumption) rfl ?_ | refine X8 (by assumption) (by assumption) rfl ?_ | refine Q9 (by assumption) ?_);(try simp only[↓M1,M1,Mb,reduceIte])))
    refine Y3 D.max k ⟨m,?_⟩
    rw[s,List.take_add_one,List.getElem?_eq_getElem k];rfl
 ·have k: ¬n<xs.length:=by simpa using J
  rw[List.drop_eq_nil_of_le (by omega)] at s
  have:=h w2 (bt C.bel j)
  rw[s] at this;exact this)
theorem Q3y {xs:List X0} {v:Value} {fn:Fn} {D k:Array Value} (f:X0→X0) (Y:X4 w σ) (C:Sl 1 X9 σ v xs)
 (W: ∀(σ1:Q4) x (w1:World) (K:Value→World→Prop),σ.Le σ1→X4 w1 σ1→x.length≤Z7→(∀w',Below w1.heap.size w1 w'→K (S (f x)) w')→Y9 P (.func fn D k) [S x] w1 K)
 (h: ∀w',Below w.heap.size w w'→K (.bool (E8 f [] xs)) w'):Q0 P F.aG [v, .func fn D k] w K:=Ke (by
 unfold Mk
 refine M7 Y fun a w1 σ1 A U=>?_
 simp only[Value.cells] at U
 have Q:=A.sat
 replace C:=C.up A
 ((try simp only[↓M1,M1,Mb,reduceIte]);repeat ((first | refine ld (by assumption) (by assumption) rfl ?_ | refine X8 (by assumption) (by assumption) rfl ?_ | refine Q9 (by assumption) ?_);(try simp only[↓M1,M1,Mb,reduceIte])))
 refine J5 xs.length (fun n w'=>Below w1.heap.size w1 w'∧E8 f [] xs=E8 f (xs.take n) (xs.drop n)) ⟨Below.refl _ _,rfl⟩ fun n Z d hn hi=>?_
 obtain ⟨j,r⟩:=hi
 have s:=Q.below j
 ((try simp only[↓M1,M1,Mb,reduceIte]);repeat ((first | refine ld (by assumption) (by assumption) rfl ?_ | refine X8 (by assumption) (by assumption) rfl ?_ | refine Q9 (by assumption) ?_);(try simp only[↓M1,M1,Mb,reduceIte])))
 refine Q5 (fun H=>?_) (fun H=>?_)
 ·have i:n<xs.length:=by simpa using H
  rw[List.drop_eq_getElem_cons i] at r
  simp only[E8] at r
  refine L7 C i fun p cs hl V hr=>?_
  obtain ⟨rfl,B⟩:=hr
  refine X8 s hl rfl ?_
  refine U2 s (by rfl) rfl rfl fun q w3 J c X=>?_
  refine Hj (C.up c) none (some (I n)) 0 n (.inl ⟨rfl,rfl⟩) (.inr rfl) (by omega) (by omega) fun v' N=>?_
  ((try simp only[↓M1,M1,Mb,reduceIte]);repeat ((first | refine ld (by assumption) (by assumption) rfl ?_ | refine X8 (by assumption) (by assumption) rfl ?_ | refine Q9 (by assumption) ?_);(try simp only[↓M1,M1,Mb,reduceIte])))
  refine F3 (fun y=>decide (f y=f xs[n])) c.sat N (fun y R K hy g M hK=>?_) fun R O=>?_
  ·refine Y7 (Cu ?_)
   unfold Uw
   have u:=U.up c
   have m:σ.Le J:=fun b o e=>c.le b o (A.le b o e)
   refine Mz (Below.refl _ _) ?_
   refine X2 (.func fn D k) (fun w j=>X8 (g.below j) u rfl (X6 rfl)) ?_
   refine X2 (S (f y)) (fun t w j e=>by rw[e];exact W J y w _ m (g.below j) M fun w' E=>Q1r E rfl) ?_
   refine X2 (.func fn D k) (fun w j=>X8 (g.below j) u rfl (X6 rfl)) ?_
   refine X2 (S xs[n]) (fun w j=>X8 (g.below j) X rfl (X6 rfl)) ?_
   rintro _ _ _ _ w6 z rfl rfl rfl rfl
   refine W J xs[n] w6 _ m (g.below z) B fun w7 L=>?_
   (try simp only[↓M1,M1,Mb,reduceIte])
   exact hK w7 (bt z L)
  ·have l:=bt j (bt c.bel O)
   simp only[List.drop_zero,Nat.sub_zero] at*
   refine Q5 (fun hh=>?_) (fun hh=>?_)
   ·rw[hh] at r
    have:=h R (bt A.bel l)
    rw[r] at this;exact this
   ·rw[hh] at r
    ((try simp only[↓M1,M1,Mb,reduceIte]);repeat ((first | refine ld (by assumption) (by assumption) rfl ?_ | refine X8 (by assumption) (by assumption) rfl ?_ | refine Q9 (by assumption) ?_);(try simp only[↓M1,M1,Mb,reduceIte])))
    refine Y3 C.max i ⟨l,?_⟩
    rw[r,List.take_add_one,List.getElem?_eq_getElem i];rfl
 ·have i: ¬n<xs.length:=by simpa using H
  rw[List.drop_eq_nil_of_le (by omega)] at r
  have:=h Z (bt A.bel j)
  rw[r] at this;exact this)
theorem Q5V {P:Program} {w:World} (d:Nat) (t e:TypeId) (a:Option Addr) (n c:Nat) (h:P.underlying t=some (.slice e)):
 (Op.equalIn (d+1) t (.slice a n c) (.slice none 0 0)).run P w= .ok a.isNone w:=by
 cases a<;>simp[Op.equalIn,run_underlying h]
theorem Sx {t e:TypeId} {d f:Operand} [ts:TS P t e] {a:Option Addr} {n c:Nat} {b:Bool} (i:a.isNone=b) (j:K (.bool b) w):Q3 P .eql t d f (.slice a n c) (.slice none 0 0) w K:=by
 have g:(Op.equal t (.slice a n c) (.slice none 0 0)).run P w= .ok b w:=by
  have:=Q5V (P:=P) (w:=w) 9999 t e a n c ts.h
  rw[i] at this
  exact this
 unfold Q3
 rw[Y0 (v:= .bool b) (w':=w) (by simp[eqGuard,Go.binOp,g])]
 exact j
theorem Uz {xs:List X0} {v:Value} (f:X4 w σ) (i:Sl 1 X9 σ v xs) (z:xs.length≤1000000)
 (h: ∀g w' b,Stp w σ w' b→Sl 1 X9 b g xs→K g w'):Q0 P F.b [v] w K:=K1 (by
 unfold R9
 have d:=i
 obtain ⟨a,r,rfl,t,y,l,u⟩:=i
 refine Sx rfl ?_
 refine Q5 (fun e=>?_) (fun e=>?_)
 ·have:a=none:=by simpa using e
  have A:=l this
  have m:xs=[]:=List.eq_nil_of_length_eq_zero (by omega)
  subst m
  exact h _ w σ (Stp.refl f) Sl.nil
 ·refine I6 (R:=X9) (sz:=1) (Stp.refl f) [] [] rfl rfl (by simp) (by rfl) trivial fun C w1 n p _=>?_
  refine app n p d (by rfl) (by simp only[List.length_nil];omega) (by simp only[List.length_nil];omega) fun s k B q c _=>?_
  obtain ⟨b,j,o,_⟩:=c.keep q
  exact h _ k b j o)
theorem Og {xs:List Fld} {v:Value} (f:X4 w σ) (i:Sl 3 D6 σ v xs) (z:xs.length≤1000000)
 (h: ∀g w' b,Stp w σ w' b→Sl 3 D6 b g xs→K g w'):Q0 P F.a6 [v] w K:=Ys (by
 unfold B6
 have d:=i
 obtain ⟨a,r,rfl,t,y,l,u⟩:=i
 refine Sx rfl ?_
 refine Q5 (fun e=>?_) (fun e=>?_)
 ·have:a=none:=by simpa using e
  have A:=l this
  have m:xs=[]:=List.eq_nil_of_length_eq_zero (by omega)
  subst m
  exact h _ w σ (Stp.refl f) Sl.nil
 ·refine I6 (R:=D6) (sz:=3) (Stp.refl f) [] [] rfl rfl (by simp) (by rfl) trivial fun C w1 n p _=>?_
  refine app n p d (by rfl) (by simp only[List.length_nil];omega) (by simp only[List.length_nil];omega) fun s k B q c _=>?_
  obtain ⟨b,j,o,_⟩:=c.keep q
  exact h _ k b j o)
theorem Od {xs:List Ins} {v:Value} (f:X4 w σ) (i:Sl 3 G3 σ v xs) (z:xs.length≤1000000)
 (h: ∀g w' b,Stp w σ w' b→Sl 3 G3 b g xs→K g w'):Q0 P F.a7 [v] w K:=Yp (by
 unfold B4
 have d:=i
 obtain ⟨a,r,rfl,t,y,l,u⟩:=i
 refine Sx rfl ?_
 refine Q5 (fun e=>?_) (fun e=>?_)
 ·have:a=none:=by simpa using e
  have A:=l this
  have m:xs=[]:=List.eq_nil_of_length_eq_zero (by omega)
  subst m
  exact h _ w σ (Stp.refl f) Sl.nil
 ·refine I6 (R:=G3) (sz:=3) (Stp.refl f) [] [] rfl rfl (by simp) (by rfl) trivial fun C w1 n p _=>?_
  refine app n p d (by rfl) (by simp only[List.length_nil];omega) (by simp only[List.length_nil];omega) fun s k B q c _=>?_
  obtain ⟨b,j,o,_⟩:=c.keep q
  exact h _ k b j o)
theorem Of {xs:List Cat} {v:Value} (f:X4 w σ) (i:Sl 4 Xf σ v xs) (z:xs.length≤1000000)
 (h: ∀g w' b,Stp w σ w' b→Sl 4 Xf b g xs→K g w'):Q0 P F.a8 [v] w K:=Yz (by
 unfold B7
 have d:=i
 obtain ⟨a,r,rfl,t,y,l,u⟩:=i
 refine Sx rfl ?_
 refine Q5 (fun e=>?_) (fun e=>?_)
 ·have:a=none:=by simpa using e
  have A:=l this
  have m:xs=[]:=List.eq_nil_of_length_eq_zero (by omega)
  subst m
  exact h _ w σ (Stp.refl f) Sl.nil
 ·refine I6 (R:=Xf) (sz:=4) (Stp.refl f) [] [] rfl rfl (by simp) (by rfl) trivial fun C w1 n p _=>?_
  refine app n p d (by rfl) (by simp only[List.length_nil];omega) (by simp only[List.length_nil];omega) fun s k B q c _=>?_
  obtain ⟨b,j,o,_⟩:=c.keep q
  exact h _ k b j o)
end Go.Proofs.YtfppjenblllfaaaGreatDoor

namespace Go.Hm
open Go.Kd
structure Opr where
  name : X0
  number : Bool
  text : Bool
deriving DecidableEq
def Yv:List Opr:=[
 ⟨[105,110,116],true,false⟩,
 ⟨[116,114,117,101],false,false⟩,
 ⟨[102,97,108,115,101],false,false⟩,
 ⟨[119,111,114,100],false,true⟩,
 ⟨[110,117,108,108],false,false⟩,
 ⟨[108,111,97,100],true,false⟩,
 ⟨[115,116,111,114,101],true,false⟩,
 ⟨[112,111,112],false,false⟩,
 ⟨[100,117,112],false,false⟩,
 ⟨[115,119,97,112],false,false⟩,
 ⟨[97,100,100],false,false⟩,
 ⟨[115,117,98],false,false⟩,
 ⟨[109,117,108],false,false⟩,
 ⟨[100,105,118],false,false⟩,
 ⟨[114,101,109],false,false⟩,
 ⟨[110,101,103],false,false⟩,
 ⟨[108,101,115,115],false,false⟩,
 ⟨[115,97,109,101],false,false⟩,
 ⟨[110,111,116],false,false⟩,
 ⟨[98,111,116,104],false,false⟩,
 ⟨[106,111,105,110],false,false⟩,
 ⟨[115,105,122,101],false,false⟩,
 ⟨[106,117,109,112],true,false⟩,
 ⟨[98,114,97,110,99,104],true,false⟩,
 ⟨[110,101,119],false,true⟩,
 ⟨[103,101,116],false,true⟩,
 ⟨[112,117,116],false,true⟩,
 ⟨[99,97,108,108],false,true⟩,
 ⟨[97,114,114,97,121],false,true⟩,
 ⟨[97,116],false,false⟩,
 ⟨[115,101,116],false,false⟩,
 ⟨[105,115],false,true⟩,
 ⟨[99,97,115,116],false,true⟩,
 ⟨[114,101,116,117,114,110],false,false⟩,
 ⟨[116,104,114,111,119],false,false⟩,
 ⟨[111,117,116],false,false⟩,
 ⟨[101,113,117,97,108],false,false⟩,
 ⟨[97,110,100],false,false⟩,
 ⟨[111,114],false,false⟩,
 ⟨[120,111,114],false,false⟩,
 ⟨[115,104,108],false,false⟩,
 ⟨[115,104,114],false,false⟩]
end Go.Hm
namespace Go.Emb
open Go.Hm
def ROp (_:Q4) (o:Opr) (cs:List Value):Prop:=cs=[S o.name, .bool o.number, .bool o.text]
def cOp (o:Opr):List Value:=[S o.name, .bool o.number, .bool o.text]
instance:Rep ROp:=⟨fun _ h=>h,fun h u hu=>by rw[h] at hu;simp at hu;rcases hu with rfl | rfl | rfl<;>rfl⟩
end Go.Emb
namespace Go.Proofs.YtfppjenblllfaaaGreatDoor
open Go.Emb Go.RowKit Go.Kd Go.Hm
variable {w : World} {K : Value → World → Prop} {σ : Q4}
theorem Q4S {a:X0} (m:a.length≤Z7) (h: ∀w',Below w.heap.size w w'→K (.bool (L8 a)) w'):Q0 P F.bu [S a] w K:=Q2v (by
 unfold Cj
 have b:a.length≤140737488355328:=by simp only[Z7] at m;omega
 refine Q4H a b fun w1 f=>?_
 cases d:name a
 ·(try simp only[↓M1,M1,Mb,reduceIte])
  have:=h w1 f
  rwa [show L8 a=false by cases a with | nil=>rfl | cons c r=>simp[L8,d]] at this
 ·(try simp only[↓M1,M1,Mb,reduceIte])
  refine Dq a b fun j k=>?_
  (try simp only[↓M1,M1,Mb,reduceIte])
  have:=h j (bt f k)
  rwa [show L8 a= !W2 a by
   cases a with
   | nil=>simp[name] at d
   | cons c r=>
    obtain ⟨e,l⟩:=Bn d
    simp only[W2,L8,d,Bool.true_and]
    simp only[D9,l,Bool.or_false] at e
    cases i:T6 c.toNat<;>cases g:I3 c.toNat
    ·simp[i,g] at e
    ·rfl
    ·rfl
    ·exfalso
     simp only[T6,I3,Bool.and_eq_true,decide_eq_true_eq] at i g
     omega] at this)
theorem X0V {t e:TypeId} {n sz by_:Nat} {z:Value} [ta:TA P t n e] [tz:TZ P e sz by_ z] {a:Addr} (c:K (.slice (some a) n n) w):E6 P t (.pointer (some a)) none none none w K:=by
 unfold E6
 have:(Instr.sliceAt t (.pointer (some a)) none none none).run P w= .ok (.slice (some (if n=0 then a else a.add (0*sz))) (n-0) (n-0)) w:=by
  simp[Instr.sliceAt,run_underlying ta.h,Instr.sureAddr,Instr.sliceBounds,W4 tz]
 rw[Y0 this]
 have b:(if n=0 then a else a.add (0*sz))=a:=by
  by_cases h:n=0
  ·rw[if_pos h]
  ·rw[if_neg h,Nat.zero_mul,add_zero]
 rw[b];exact c
def Q12 (σ:Q4):Prop:=Z3 σ ⟨G.a,0,none⟩ (Yv.flatMap cOp)
theorem Q69 (i:Nat) (o:Opr) (h:Yv[i]? =some o):((Yv.flatMap cOp).drop (i*3)).take 3=cOp o:=by
 have c:i<42:=(List.getElem?_eq_some_iff.1 h).1
 have key: ∀l:List Opr,∀i o,l[i]? =some o→((l.flatMap cOp).drop (i*3)).take 3=cOp o:=by
  intro l
  induction l with
  | nil=>intro i o h;simp at h
  | cons a r b=>
   intro i o h
   cases i with
   | zero=>simp at h;subst h;rfl
   | succ i=>
    have:=b i o (by simpa using h)
    rw[List.flatMap_cons,show (i+1)*3=(cOp a).length+i*3 by simp[cOp];omega,List.drop_append]
    simpa [List.drop_eq_nil_of_le] using this
 exact key _ i o h
theorem Q1k {σ:Q4} {a:Addr} {cs:List Value} (h:Z3 σ a cs) (i n:Nat):Z3 σ (a.add i) ((cs.drop i).take n):=by
 obtain ⟨f,D3,e,g,d,c⟩:=h
 refine ⟨G5 f _,D3,e,g,by rw[C0];exact d,fun j v b=>?_⟩
 rw[List.getElem?_take] at b
 split at b
 ·rw[List.getElem?_drop] at b
  rw[Xt,Nat.add_assoc];exact c _ _ b
 ·cases b
theorem X1R (h:Q12 σ):Sl 3 ROp σ (.slice (some ⟨G.a,0,none⟩) 42 42) Yv:=by
 refine ⟨_,42,rfl,by decide,by decide,by simp,?_⟩
 rintro _ ⟨⟩
 refine ⟨fun _=>rfl,fun i x a=>⟨cOp x,?_,rfl,rfl⟩⟩
 rw[←Q69 i x a]
 exact Q1k h (i*3) 3
theorem Ki {β:Type} {xs:List Opr} {v f:Value} (b:β→Opr→Bool×β) (m:β) (a:β→World→Prop) (D:Nat→Prop) (l: ∀s w,a s w→X4 w σ) (C:a m w) (u:Sl 3 ROp σ v xs)
 (B: ∀s x cs (w1:World) (K:Value→World→Prop),x∈xs→Kpt D w w1→a s w1→ROp σ x cs→cs.length=3→(∀w',Kpt D w w'→a (b s x).2 w'→K (.bool (b s x).1) w')→Y9 P f [.agg cs.toArray] w1 K)
 (h: ∀w',Kpt D w w'→a (Z9 b m xs 0).2 w'→K (I (W7 (Z9 b m xs 0).1)) w'):Q0 P F.q [v,f] w K:=Zo (by
 unfold B3
 ((try simp only[↓M1,M1,Mb,reduceIte]);repeat ((first | refine ld (by assumption) (by assumption) rfl ?_ | refine X8 (by assumption) (by assumption) rfl ?_ | refine Q9 (by assumption) ?_);(try simp only[↓M1,M1,Mb,reduceIte])))
 refine J5 xs.length (fun n w'=>Kpt D w w'∧ ∃s,a s w'∧Z9 b m xs 0=Z9 b s (xs.drop n) n) ⟨Kpt.refl,m,C,rfl⟩ fun n w1 d E k=>?_
 obtain ⟨t,s,k,g⟩:=k
 have r:=l s w1 k
 ((try simp only[↓M1,M1,Mb,reduceIte]);repeat ((first | refine ld (by assumption) (by assumption) rfl ?_ | refine X8 (by assumption) (by assumption) rfl ?_ | refine Q9 (by assumption) ?_);(try simp only[↓M1,M1,Mb,reduceIte])))
 refine Q5 (fun o=>?_) (fun o=>?_)
 ·have c:n<xs.length:=by simpa using o
  refine L7 u c fun p cs A e z=>?_
  refine Z1 r A e ?_
  refine B s xs[n] cs w1 _ (List.getElem_mem c) t k z e fun y i j=>?_
  rw[List.drop_eq_getElem_cons c] at g
  simp only[Z9] at g
  refine Q5 (fun q=>?_) (fun q=>?_)
  ·rw[q] at g
   have:=h y i
   rw[g] at this
   exact this j
  ·rw[q] at g
   ((try simp only[↓M1,M1,Mb,reduceIte]);repeat ((first | refine ld (by assumption) (by assumption) rfl ?_ | refine X8 (by assumption) (by assumption) rfl ?_ | refine Q9 (by assumption) ?_);(try simp only[↓M1,M1,Mb,reduceIte])))
   exact Y3 u.max c ⟨i,_,j,by simpa using g⟩
 ·have c: ¬n<xs.length:=by simpa using o
  rw[List.drop_eq_nil_of_le (by omega)] at g
  have:=h w1 t
  rw[g] at this
  exact this k)
theorem Kc {xs:List Opr} {v f:Value} (p:Opr→Bool) (hs:X4 w σ) (hv:Sl 3 ROp σ v xs)
 (hf: ∀x cs (w1:World) (K:Value→World→Prop),x∈xs→X4 w1 σ→ROp σ x cs→cs.length=3→(∀w',Below w1.heap.size w1 w'→K (.bool (p x)) w')→Y9 P f [.agg cs.toArray] w1 K)
 (h: ∀w',Below w.heap.size w w'→K (I (W7 (xs.findIdx? p))) w'):Q0 P F.q [v,f] w K:=by
 refine Ki (fun (_:Unit) x=>(p x,())) () (fun _ w'=>Below w.heap.size w w') (fun _=>False) (fun _ w' hb=>hs.below hb) (Below.refl _ _) hv (fun s x cs w1 K hx hk hi hr hl hK=>hf x cs w1 K hx (hs.below hi) hr hl fun w' hb=>hK w' (.of_below (bt hi hb)) (bt hi hb)) fun w' hk hi=>?_
 rw[K7]
 simpa using h w' hi
theorem Q12.le {σ a:Q4} (h:Q12 σ) (c: ∀b o,σ b=some o→a b=some o):Q12 a:=Z3.le h c
def K8 (n:X0):Option Nat:=Yv.findIdx? fun o=>decide (o.name=n)
theorem X1L {a:X0} (j:X4 w σ) (r:Q12 σ) (h: ∀w',Below w.heap.size w w'→K (I (W7 (K8 a))) w'):Q0 P F.cD [S a] w K:=Q5v (by
 unfold Q0w
 refine M7 j fun p w1 σ1 e g=>?_
 simp only[Value.cells] at g
 refine X0V ?_
 ((try simp only[↓M1,M1,Mb,reduceIte]);repeat ((first | refine ld (by assumption) (by assumption) rfl ?_ | refine X8 (by assumption) (by assumption) rfl ?_ | refine Q9 (by assumption) ?_);(try simp only[↓M1,M1,Mb,reduceIte])))
 refine Kc (fun o=>decide (o.name=a)) e.sat (X1R (r.le e.le)) (fun x cs f K v c k y t=>?_) fun f s=>?_
 ·refine Y7 (Q3m ?_)
  unfold Gv
  refine M7 c fun q n u b i=>?_
  have d:cs=[S x.name, .bool x.number, .bool x.text]:=k
  subst d
  have m:=b.sat
  have l:=g.up b
  simp only[Value.cells] at i
  ((try simp only[↓M1,M1,Mb,reduceIte]);repeat ((first | refine ld (by assumption) (by assumption) rfl ?_ | refine X8 (by assumption) (by assumption) rfl ?_ | refine Q9 (by assumption) ?_);(try simp only[↓M1,M1,Mb,reduceIte])))
  exact t n b.bel
 ·(try simp only[↓M1,M1,Mb,reduceIte])
  exact h f (bt e.bel s))
def takes (n:X0):Bool×Bool×Bool:=match K8 n with
 | none=>(false,false,false)
 | some i=>((Yv.getD i ⟨[],false,false⟩).number,(Yv.getD i ⟨[],false,false⟩).text,true)
theorem X16 {a:X0} (j:X4 w σ) (l:Q12 σ) (h: ∀w',Below w.heap.size w w'→K (.tuple #[.bool (takes a).1, .bool (takes a).2.1, .bool (takes a).2.2]) w'):Q0 P F.bU [S a] w K:=Q4C (by
 unfold Ph
 refine X1L j l fun w1 b=>?_
 have c:=j.below b
 unfold takes at h
 cases g:K8 a with
 | none=>
  rw[g] at h
  simp only[W7]
  (try simp only[↓M1,M1,Mb,reduceIte])
  simp only[show decide ((-1:Int)<0)=true from rfl,↓M1,M1,Mb,reduceIte]
  exact h w1 b
 | some i=>
  rw[g] at h
  simp only at h
  have p:i<42:=(List.findIdx?_eq_some_iff_getElem.1 g).1
  have k:Yv[i]? =some (Yv.getD i ⟨[],false,false⟩):=by
   rw[List.getD,List.getElem?_eq_getElem (by exact p)];rfl
  generalize Yv.getD i ⟨[],false,false⟩=o at h k
  have f:=Q1k l (i*3) 3
  rw[Q69 i o k] at f
  simp only[W7]
  have m:decide ((i:Int)<0)=false:=by simp
  simp only[m,↓M1,M1,Mb,reduceIte]
  have A: ∀{w:World} {K:Value→World→Prop},K (.pointer (some ((⟨G.a,0,none⟩:Addr).add (i*3)))) w→indexAddr P T.a8 (.pointer (some ⟨G.a,0,none⟩)) (I i) w K:=by
   intro w K h
   rw[Q7Q (by omega) (by omega)]
   simpa using h
  refine Mz (Below.refl _ _) ?_
  refine X2 (.pointer (some ((⟨G.a,0,none⟩:Addr).add (i*3)))) (fun w b=>A (X6 rfl)) ?_
  refine X2 (.pointer (some (((⟨G.a,0,none⟩:Addr).add (i*3)).add 1))) (fun t w b e=>by rw[e,fa];exact X6 rfl) ?_
  refine X2 (.pointer (some ((⟨G.a,0,none⟩:Addr).add (i*3)))) (fun w b=>A (X6 rfl)) ?_
  refine X2 (.pointer (some (((⟨G.a,0,none⟩:Addr).add (i*3)).add 2))) (fun t w b e=>by rw[e,fa];exact X6 rfl) ?_
  refine X2 (.bool o.number) (fun t w b e=>by rw[e];exact ld (c.below b) f rfl (X6 rfl)) ?_
  refine X2 (.bool o.text) (fun t w b e=>by rw[e];exact ld (c.below b) f rfl (X6 rfl)) ?_
  rintro _ _ _ _ _ _ n d rfl rfl rfl rfl rfl rfl
  exact h n (bt b d))
end Go.Proofs.YtfppjenblllfaaaGreatDoor

namespace Go.Emb
open Go.RowKit Go.Hm
variable {P : Program} {w w0 w1 w' w'' : World} {K : Value → World → Prop} {σ σ0 σ1 σ' : Q4}
structure SLe (σ σ' : Q4) : Prop where
  le : ∀ b o, σ b = some o → σ' b = some o
theorem SLe.refl (σ:Q4):SLe σ σ:=⟨fun _ _ h=>h⟩
theorem SLe.step {w w':World} (h:SLe σ0 σ) (k:Stp w σ w' σ'):SLe σ0 σ':=⟨fun b o e=>k.le b o (h.le b o e)⟩
theorem SLe.more (h:SLe σ0 σ) (k:SLe σ σ'):SLe σ0 σ':=⟨fun b o e=>k.le b o (h.le b o e)⟩
structure Hst (w : World) (σ : Q4) (w' : World) (σ' : Q4) : Prop where
  stp : Stp w σ w' σ'
theorem Hst.sat (h:Hst w σ w' σ'):X4 w' σ':=h.stp.sat
section lifts
variable {α : Type} {R : Q4 → α → List Value → Prop} {sz : Nat} {v : Value} {xs : List α} {a : Addr} {cs : List Value}
theorem Sl.lift [Rep R] (h:Sl sz R σ0 v xs) (k:SLe σ0 σ):Sl sz R σ v xs:=h.le k.le
theorem Z3.lift (h:Z3 σ0 a cs) (k:SLe σ0 σ):Z3 σ a cs:=h.le k.le
theorem I4.lift {r:Nat} {m:List (List UInt8×Value)} (h:I4 σ0 r m) (k:SLe σ0 σ):I4 σ r m:=h.le k.le
theorem RMe_lift {x:Hm.Met} (h:L2 σ0 x cs) (k:SLe σ0 σ):L2 σ x cs:=Rep.up k.le h
theorem RCl_lift {x:Cla} (h:U6 σ0 x cs) (k:SLe σ0 σ):U6 σ x cs:=Rep.up k.le h
theorem RFd_any {x:Fld} (h:D6 σ0 x cs):D6 σ x cs:=h
theorem RIn_any {x:Ins} (h:G3 σ0 x cs):G3 σ x cs:=h
theorem RCa_any {x:Cat} (h:Xf σ0 x cs):Xf σ x cs:=h
theorem Z5.step {b:Nat} (h:Z5 σ w b cs) (k:Stp w σ w' σ'):Z5 σ' w' b cs:=h.up k
theorem V0.step [Rep R] {B:Nat} {e:TypeId} (h:V0 B e sz R σ w v xs) (k:Stp w σ w' σ'):V0 B e sz R σ' w' v xs:=h.up k
end lifts
theorem W3 {Q:World→Prop} (d:X4 w σ) (h: ∀w' σ',Stp w σ w' σ'→Q w'): ∀w',Below w.heap.size w w'→Q w':=fun w' c=>h w' σ (Stp.of_below d c)
section plain
variable {k : IntKind} {t : TypeId} {ox oy : Operand} {a b : Int} {x y : Bool} {s u : List UInt8}
theorem D7 (h:K (.int k (k.wrap (a+b))) w):Q3 P .add t ox oy (.int k a) (.int k b) w K:=by rw[Ch];exact h
theorem Q76 (h:K (.int k (k.wrap (a-b))) w):Q3 P .sub t ox oy (.int k a) (.int k b) w K:=by rw[Q0a];exact h
theorem Ce (c: -9223372036854775808≤a+b∧a+b≤9223372036854775807) (h:K (I (a+b)) w):Q3 P .add t ox oy (I a) (I b) w K:=by rw[Ch,B1 c.1 c.2];exact h
theorem Dm (c: -9223372036854775808≤a-b∧a-b≤9223372036854775807) (h:K (I (a-b)) w):Q3 P .sub t ox oy (I a) (I b) w K:=by rw[Q0a,B1 c.1 c.2];exact h
theorem Z0 (h:K (.bool (decide (a<b))) w):Q3 P .lss t ox oy (.int k a) (.int k b) w K:=by rw[Q2s];exact h
theorem Q9V (h:K (.bool (decide (a≤b))) w):Q3 P .leq t ox oy (.int k a) (.int k b) w K:=by rw[Q2n];exact h
theorem Q1T (h:K (.bool (decide (b<a))) w):Q3 P .gtr t ox oy (.int k a) (.int k b) w K:=by rw[Q2b];exact h
theorem Jb (h:K (.bool (decide (b≤a))) w):Q3 P .geq t ox oy (.int k a) (.int k b) w K:=by rw[Q0c];exact h
theorem Oy (h:K (.bool (decide (a=b))) w):Q3 P .eql t ox oy (.int k a) (.int k b) w K:=by rw[Q07];exact h
theorem Xd (h:K (.bool (!decide (a=b))) w):Q3 P .neq t ox oy (.int k a) (.int k b) w K:=by rw[Q2t];exact h
theorem Ro (h:K (.bool (!x)) w):J7 P .not (.bool x) w K:=by rw[Q24];exact h
theorem Nk (h:K (.bool (decide (s=u))) w):Q3 P .eql t ox oy (S s) (S u) w K:=by rw[Ru];exact h
theorem Vs (h:K (.bool (!decide (s=u))) w):Q3 P .neq t ox oy (S s) (S u) w K:=by rw[Sm];exact h
theorem Rb (c:s.length+u.length≤9223372036854775807) (h:K (S (s++u)) w):Q3 P .add t ox oy (S s) (S u) w K:=by rw[Q5p c];exact h
theorem Q4n {cs:List Bool} {r:TypeId} (c:P.underlying t=some .string) (h:K (I s.length) w):X5 P .len [t] r cs [S s] w K:=by rw[D2 c];exact h
theorem X0z {v u:Value} (h:K v w):pick P (.bool true) v u w K:=by rw[Rp];exact h
theorem X19 {v u:Value} (h:K u w):pick P (.bool false) v u w K:=by rw[Dh];exact h
theorem Jr {v u:Value} (h:K (if x=true then v else u) w):pick P (.bool x) v u w K:=by rw[Np];exact h
theorem Q8u {f:Fn} {first caps:List Value} (h:K (.func f first.toArray caps.toArray) w):M5 P f first caps w K:=by rw[Qf];exact h
theorem V6 {vs:List Value} {i:Nat} {v:Value} (c:vs[i]? =some v) (h:K v w):ext P (.tuple vs.toArray) i w K:=by rw[Zc c];exact h
theorem Q3E {a:Addr} (h:K (.pointer (some a)) w):nilCheck P (.pointer (some a)) w K:=by rw[E7];exact h
theorem V9 {t e:Prop} (h:t):X1 (.bool true) t e:=by rw[Nf];exact h
theorem W0 {t e:Prop} (h:e):X1 (.bool false) t e:=by rw[Uq];exact h
theorem Cd {c:World→(Value→World→Prop)→Prop} (h:c w K):Q1 (.bool true) true w c K:=by rw[G7];exact h
theorem X1s {c:World→(Value→World→Prop)→Prop} (h:c w K):Q1 (.bool false) false w c K:=by rw[Vg];exact h
theorem X1b {c:World→(Value→World→Prop)→Prop} (h:K undef w):Q1 (.bool true) false w c K:=by rw[Td];exact h
theorem X0s {c:World→(Value→World→Prop)→Prop} (h:K undef w):Q1 (.bool false) true w c K:=by rw[Jx];exact h
end plain
section mem
variable {α : Type} {R : Q4 → α → List Value → Prop} {sz : Nat} {v : Value} {xs : List α} {a : Addr} {cs : List Value}
theorem Y8 {t:TypeId} (f:X4 w σ) (h: ∀a w' σ',Stp w σ w' σ'→Z3 σ' a cs→K (.pointer (some a)) w'):box P t (.agg cs.toArray) w K:=
 M7 f fun a w' σ' c d=>h a w' σ' c (by simpa [Value.cells] using d)
theorem J6 {t:TypeId} (g:X4 w σ) (d:v.cells= #[v]) (h: ∀a w' σ',Stp w σ w' σ'→Z3 σ' a [v]→K (.pointer (some a)) w'):box P t v w K:=
 M7 g fun a w' σ' f c=>h a w' σ' f (by rw[d] at c;exact c)
theorem Xa (h:Sl sz R σ v xs):v.cells= #[v]:=by
 obtain ⟨a,c,rfl,_⟩:=h;rfl
theorem O8 {t:TypeId} {k c:Nat} {d:TypeId} {sz by_:Nat} {z:Value} [tf:TF P t k c d] [tz:TZ P d sz by_ z] [nz:NZ sz] (h:K (.pointer (some (a.add c))) w):fieldAddr P t (.pointer (some a)) k w K:=by
 rw[fa];exact h
theorem V1 {t:TypeId} {k c:Nat} {d:TypeId} [tf:TF P t k c d] [tg:TG P d false] {cs:List Value} {v:Value} (f:cs[c]? =some v) (h:K v w):Lq P t (.agg cs.toArray) k w K:=by
 rw[X0U (v:=v) (by simpa using f)];exact h
end mem
theorem U9 {A:(World→World→Prop)→(World→Prop)→Prop} (f:X4 w σ) (h:A (fun w w'=>Below w.heap.size w w') (fun w'=>Hst w σ w' σ)):dr w A:=
 Q00 _ _ ⟨Stp.of_below f (Below.refl _ _).drew⟩ (fun _ _ c d=>⟨c.stp.trans (Stp.of_below c.sat d)⟩) h
theorem L3 {α:Type} {R:Q4→α→List Value→Prop} {sz:Nat} {v:Value} {xs:List α} {t:TypeId} (d:X4 w σ) (c:Sl sz R σ v xs) (h: ∀a w' σ',Stp w σ w' σ'→Z3 σ' a [v]→K (.pointer (some a)) w'):box P t v w K:=
 J6 d (Xa c) h
section elems
variable {v : Value} {t e : TypeId} {by_ : Nat} {z : Value} {n : Nat}
theorem Wl {xs:List Kd.X0} [TS P t e] [TZ P e 1 by_ z] (h:Sl 1 X9 σ v xs) (i:n<xs.length) (g: ∀a,Z3 σ a [S xs[n]]→xs[n].length≤Z7→K (.pointer (some a)) w):indexAddr P t v (I n) w K:=
 L7 h i fun a cs f j d=>by obtain ⟨rfl,c⟩:=d;exact g a f c
theorem Q7A {xs:List Fld} [TS P t e] [TZ P e 3 by_ z] (h:Sl 3 D6 σ v xs) (i:n<xs.length) (g: ∀a,Z3 σ a [S xs[n].name,S xs[n].kind, .bool xs[n].tr]→D6 σ xs[n] [S xs[n].name,S xs[n].kind, .bool xs[n].tr]→K (.pointer (some a)) w):indexAddr P t v (I n) w K:=
 L7 h i fun a cs f j d=>by obtain ⟨rfl,c⟩:=d;exact g a f ⟨rfl,c⟩
end elems
end Go.Emb

namespace Go.Hm
open Go.Kd
abbrev Up:=X0→Option Cla
def Y4 (l:List Cla) (n:X0):Option Nat:=l.findIdx? fun c=>decide (c.name=n)
def lk (l:List Cla):Up:=fun n=>(Y4 l n).bind (l[·]?)
def J3 (c:Cla):List X0:=c.super::c.like
def Z8:X0:=[79,98,106,101,99,116]
def V8:X0:=[70,97,117,108,116]
def C2:X0:=[110,117,108,108]
def N6:X0:=[116,101,120,116]
def K3:X0:=[119,104,97,116]
def J0:List X0:=[[78,117,108,108,70,97,117,108,116],[73,110,100,101,120,70,97,117,108,116],[67,97,115,116,70,97,117,108,116],[90,101,114,111,70,97,117,108,116],[82,111,111,109,70,97,117,108,116],[67,97,108,108,70,97,117,108,116]]
def F0:List Cla:=[⟨Z8,[],[],false,false,false,[],[]⟩,⟨V8,Z8,[],false,false,false,[⟨K3,N6,false⟩],[]⟩]++J0.map fun n=>⟨n,V8,[],false,false,true,[],[]⟩
def Jf (L:Up):Nat→List X0→List X0→List X0
 | 0,_,a=>a
 | _,[],a=>a
 | f+1,n::b,a=>match L n with
  | none=>Jf L f b a
  | some c=>if n∈a then Jf L f b a else Jf L f (b++J3 c) (a++[n])
def weigh (l:List Cla) (a:List X0):Nat:=(l.map fun c=>if c.name∈a then 0 else (J3 c).length).sum
def V4:X0:=[105,110,116]
def M8:X0:=[98,111,111,108]
def R3 (l:List Cla) (n:X0):List X0:=Jf (lk l) (1+weigh l []) [n] []
def Q0Y (l:List Cla) (n:X0):Bool:=(Y4 l n).isSome
def R7 (l:List Cla) (s:X0):Bool:=decide (s=C2)||(right s&&(plain (base s).1||Q0Y l (base s).1))
def H4 (l:List Cla) (a b:X0):Bool:=
 if !R7 l a|| !R7 l b then false else if a=b then true else if plain a||plain b then false else if a=C2 then true
 else if elem a≠[] then decide (b=Z8) else (R3 l a).contains b
def C3 (L:Up):Nat→X0→List Cla
 | 0,_=>[]
 | f+1,n=>match L n with
  | none=>[]
  | some c=>c::C3 L f c.super
def chain (l:List Cla) (n:X0):List Cla:=C3 (lk l) (l.length+1) n
def B8 (l:List Cla) (a b:X0):X0:=
 if H4 l a b then b else if H4 l b a then a else if !R7 l a|| !R7 l b||plain a||plain b then []
 else match (chain l a).find? fun c=>H4 l b c.name with
  | some c=>c.name
  | none=>Z8
def M6 (l:List Cla) (n:X0):List Fld:=(chain l n).reverse.flatMap (·.fields)
def Xg (l:List Cla) (n f:X0):Option Nat:=(M6 l n).findIdx? fun x=>decide (x.name=f)
def H9 (c:Cla) (n:X0):Option Hm.Met:=c.methods.find? fun m=>decide (m.name=n)
def Dv (L:Up):Nat→Cla→X0→Option (X0×Hm.Met)
 | 0,_,_=>none
 | f+1,c,n=>c.like.findSome? fun u=>match L u with
  | none=>none
  | some d=>match H9 d n with
   | some m=>some (u,m)
   | none=>Dv L f d n
def J8 (l:List Cla) (k n:X0):Option (X0×Hm.Met):=
 match (chain l k).findSome? fun c=>(H9 c n).map (c.name,·) with
 | some r=>some r
 | none=>(chain l k).findSome? fun c=>Dv (lk l) (l.length+1) c n
def Q8S (l:List Cla) (n:X0):Bool:=match lk l n with
 | some c=> !c.abs
 | none=>false
def N5:List X0→X0
 | []=>[]
 | [a]=>a
 | a::b::r=>a++[44]++N5 (b::r)
def P2 (m:Hm.Met):X0:=[40]++N5 m.params++[41]++m.result
def D5 (l:List Cla) (s:X0):Bool:= !decide (s=C2)&&R7 l s
def Qq (l:List Cla) (c:Cla):Bool:=c.fields.any fun f=>(Xg l c.super f.name).isSome
def C7 (l:List Cla) (c:Cla):Bool:=c.fields.any (fun f=> !D5 l f.kind)||c.methods.any fun m=>(!D5 l m.result&& !decide (m.result=[]))||m.params.any fun s=> !D5 l s
def Vj (l:List Cla) (n:X0):List Hm.Met:=(R3 l n).flatMap fun u=>((lk l u).map (·.methods)).getD []
def Vq (a:List Hm.Met):Bool:=a.any fun x=>a.any fun y=>decide (x.name=y.name)&& !decide (P2 x=P2 y)
def Xs (l:List Cla) (c:Cla):Bool:=Vq (Vj l c.name)
def Xl (l:List Cla) (k n:X0):Bool:=match J8 l k n with
 | none=>true
 | some r=>r.2.abs
def Mx (l:List Cla) (c:Cla):Bool:= !c.abs&&(Vj l c.name).any fun m=>Xl l c.name m.name
def U8 (l:List Cla) (c:Cla):Nat:=if Qq l c then 64 else if C7 l c then 65 else if Xs l c then 66 else if Mx l c then 67 else 0
def P4 (l:List Cla) (n:X0):Bool:=match lk l n with
 | none=>true
 | some d=>d.iface||d.fin
def O5 (l:List Cla) (n:X0):Bool:=match lk l n with
 | none=>true
 | some d=> !d.iface
def L5 (l:List Cla) (c:Cla):Nat:=if P4 l c.super then 61 else if c.like.any (O5 l) then 62 else 0
def G6 (l:List Cla) (c:Cla):Bool:=(J3 c).any fun n=>(R3 l n).contains c.name
def Zk (l:List Cla) (frm:Nat):Nat→List Nat→Nat→List Nat
 | 0,a,_=>a
 | f+1,a,i=>if i<frm then a else if i∈a then a else ((J3 (l.getD i Cla.zero)).foldl (fun a n=>Zk l frm f a ((Y4 l n).getD 0)) a)++[i]
def V3 (l:List Cla) (frm:Nat):List Nat:=((List.range l.length).drop frm).foldl (fun a i=>Zk l frm (l.length+1) a i) []
end Go.Hm

namespace Go.Emb
open Go.RowKit Go.Hm
variable {P : Program} {w w0 w1 w' w'' : World} {K : Value → World → Prop} {σ σ0 σ1 σ' : Q4}
def U0 {α:Type} (B:Nat) (e:TypeId) (sz:Nat) (R:Q4→α→List Value→Prop) (σ:Q4) (w:World) (v:Value) (xs:List α):Prop:=
 ∃a c,v= .slice a xs.length c∧xs.length≤c∧c≤maxLen∧(∀b,a=some b→b.spot=none∧B≤b.block∧b.block<w.heap.size∧σ b.block=none)∧(0<c→ ∃g d f,a=some ⟨g,d,none⟩∧B≤g∧σ g=none∧w.heap[g]? =some (.cells f e (0,0))∧d+c*sz≤f.size∧ ∀i x,xs[i]? =some x→R σ x ((f.toList.drop (d+i*sz)).take sz))
section
variable {α : Type} {R : Q4 → α → List Value → Prop} {B sz : Nat} {e : TypeId} {v u : Value} {xs ys : List α}
theorem U0.of_acc (h:V0 B e sz R σ w v xs):U0 B e sz R σ w v xs:=by
 obtain ⟨cells,n,k,q⟩:=h
 rcases n.2 with ⟨rfl,r⟩ | ⟨g,c,f,rfl,m,l,d,a,o,b⟩
 ·exact ⟨none,0,by rw[r],by omega,by simp,by simp,fun h=>by omega⟩
 ·refine ⟨_,c,rfl,d,a,by rintro _ ⟨⟩;exact ⟨rfl,m,(Array.getElem?_eq_some_iff.1 l).1,k g rfl⟩,fun _=>⟨g,0,f,rfl,m,k g rfl,l,by omega,fun i x j=>?_⟩⟩
  have p:i<xs.length:=(List.getElem?_eq_some_iff.1 j).1
  have hh:i*sz+sz≤xs.length*sz:=by rw[←Nat.succ_mul];exact Nat.mul_le_mul_right _ p
  have:=q i x j
  rw[←b,List.drop_take,List.take_take] at this
  rw[Nat.zero_add]
  rwa [show min sz (xs.length*sz-i*sz)=sz by omega] at this
theorem U0.mem (h:U0 B e sz R σ w v xs) {k:Nat} (c:v.ownBlock=some k):B≤k∧k<w.heap.size∧σ k=none:=by
 obtain ⟨a,d,rfl,i,g,b,f⟩:=h
 cases a with
 | none=>cases c
 | some a=>cases c;exact (b a rfl).2
theorem U0.up [hr:Rep R] (h:U0 B e sz R σ w v xs) (d:Stp w σ w' σ'):U0 B e sz R σ' w' v xs:=by
 obtain ⟨a,k,rfl,q,t,c,A⟩:=h
 refine ⟨a,k,rfl,q,t,fun b f=>⟨(c b f).1,(c b f).2.1,Nat.lt_of_lt_of_le (c b f).2.2.1 d.bel.size,(d.old _ (c b f).2.2.1).trans (c b f).2.2.2⟩,fun p=>?_⟩
 obtain ⟨g,j,l,rfl,o,y,m,z,r⟩:=A p
 have n:=(Array.getElem?_eq_some_iff.1 m).1
 exact ⟨g,j,l,rfl,o,(d.old g n).trans y,(d.bel.block g n).trans m,z,fun i x s=>hr.up d.le (r i x s)⟩
theorem U0.step [hr:Rep R] (h:U0 B e sz R σ w v xs) (a:Stp w σ w' σ'):U0 B e sz R σ' w' v xs:=h.up a
theorem U0.kp {D:Nat→Prop} (h:U0 B e sz R σ w v xs) (n:Kpt D w w') (i: ∀k,v.ownBlock=some k→ ¬D k):U0 B e sz R σ w' v xs:=by
 obtain ⟨a,j,rfl,q,s,c,z⟩:=h
 refine ⟨a,j,rfl,q,s,fun b d=>⟨(c b d).1,(c b d).2.1,Nat.lt_of_lt_of_le (c b d).2.2.1 n.size,(c b d).2.2.2⟩,fun p=>?_⟩
 obtain ⟨g,f,l,rfl,o,t,m,y,r⟩:=z p
 have A:=(Array.getElem?_eq_some_iff.1 m).1
 exact ⟨g,f,l,rfl,o,t,(n.block g A (i g rfl)).trans m,y,r⟩
theorem Hw {b t:TypeId} {cs:List Bool} [ts:TS P b e] (h:U0 B e sz R σ w v xs) (d:K (I xs.length) w):X5 P .len [b] t cs [v] w K:=by
 obtain ⟨a,c,rfl,_⟩:=h
 rw[Q67];exact d
theorem Q4c {t:TypeId} {by_:Nat} {z:Value} [TS P t e] [TZ P e sz by_ z] (h:U0 B e sz R σ w v xs) {n:Nat} (p:n<xs.length)
 (l: ∀a cs,(∀j u,cs[j]? =some u→w.cell? (a.add j)=some u)→cs.length=sz→R σ xs[n] cs→K (.pointer (some a)) w):indexAddr P t v (I n) w K:=by
 obtain ⟨a,d,rfl,r,s,m,o⟩:=h
 obtain ⟨g,c,f,rfl,q,y,k,A,i⟩:=o (by omega)
 rw[Sq (by omega) (by omega)]
 have hh:n*sz+sz≤d*sz:=by rw[←Nat.succ_mul];exact Nat.mul_le_mul_right _ (by omega)
 refine l _ ((f.toList.drop (c+n*sz)).take sz) ?_ ?_ (i n _ (by simp[p]))
 ·intro j u b
  rw[List.getElem?_take] at b
  split at b
  ·rw[List.getElem?_drop] at b
   unfold World.cell?
   rw[C0,C0,Xt,Xt,G5 (G5 rfl _)]
   simp only[k]
   simpa using b
  ·cases b
 ·rw[List.length_take,List.length_drop,Array.length_toList];omega
theorem X07 {t:TypeId} {by_:Nat} {z:Value} [ts:TS P t e] [tz:TZ P e sz by_ z] (h:U0 B e sz R σ w v xs) (l:Nat) (M:l≤xs.length)
 (D: ∀j,U0 B e sz R σ w j (xs.drop l)→(j.ownBlock=v.ownBlock∨j.ownBlock=none)→K j w):E6 P t v (some (I l)) none none w K:=by
 obtain ⟨a,c,rfl,r,J,d,p⟩:=h
 have hh: ∀w:World,(Instr.sliceBounds true xs.length c (some (I l)) none none).run P w= .ok (l,xs.length,c) w:=by
  intro w
  have A:(l:Int)≤xs.length:=by omega
  simp[Instr.sliceBounds,Instr.sliceBound,asIntOf,r,A]
  intros;omega
 unfold E6
 have:(Instr.sliceAt t (.slice a xs.length c) (some (I l)) none none).run P w= .ok (.slice (if c=l then a else a.map (·.add (l*sz))) (xs.length-l) (c-l)) w:=by
  simp[Instr.sliceAt,run_underlying ts.h,Instr.slice,hh,W4 tz]
 rw[Y0 this]
 refine D _ ⟨_,c-l,by rw[List.length_drop],by rw[List.length_drop];omega,by omega,?_,fun H=>?_⟩ ?_
 ·intro b k
  split at k
  ·exact d b k
  ·cases a with
   | none=>cases k
   | some a=>cases k;exact ⟨G5 (d a rfl).1 _,by rw[C0];exact (d a rfl).2⟩
 ·have y:=p (by omega)
  clear p
  obtain ⟨g,m,n,rfl,q,E,C,L,s⟩:=y
  refine ⟨g,m+l*sz,n,?_,q,E,C,?_,fun i x o=>?_⟩
  ·rw[if_neg (by omega)];simp only[Option.map_some];congr 1;unfold Addr.add;split<;>simp_all
  ·have:l*sz+(c-l)*sz=c*sz:=by rw[←Nat.add_mul];congr 1;omega
   omega
  ·rw[List.getElem?_drop] at o
   have:=s _ _ o
   rwa [Nat.add_mul,←Nat.add_assoc] at this
 ·left
  by_cases f:c=l
  ·rw[if_pos f];cases a<;>rfl
  ·rw[if_neg f]
   cases a with
   | none=>rfl
   | some a=>simp only[Option.map_some,Value.ownBlock,C0]
theorem Q1P {t W:TypeId} {by_:Nat} {z:Value} {cs:List Bool} [ts:TS P t e] [tz:TZ P e sz by_ z] [hr:Rep R] (Z:X4 w σ) (hB:B≤w.heap.size) (ha:U0 B e sz R σ w v xs) (H:Sl sz R σ u ys) (hz:(z.cells.size==sz&&decide (0<sz))=true)
 (U:(xs.length+ys.length)*by_≤140737488355328) (hm:xs.length+ys.length≤1000000000000)
 (h: ∀s w',Kpt (fun k=>v.ownBlock=some k∧B≤k∧σ k=none) w w'→X4 w' σ→U0 B e sz R σ w' s (xs++ys)→((∃a m,v= .slice a xs.length m∧s= .slice a (xs.length+ys.length) m)∨(Below w.heap.size w w'∧ ∀k,s.ownBlock=some k→w.heap.size≤k))→K s w'):X5 P .append [t,t] W cs [v,u] w K:=by
 obtain ⟨A,c,rfl,c1,c2,y,c3⟩:=ha
 obtain ⟨a,m,d,rfl,n1,n2,n3,n4,n5⟩:=H.cells Z
 obtain ⟨i,hi,E,am,N⟩:=tz.info
 simp only[Bool.and_eq_true,beq_iff_eq,decide_eq_true_eq] at hz
 obtain ⟨ax,bg⟩:=hz
 have L: ∀s w',(Builtin.append_ #[t,t] W #[.slice A xs.length c, .slice a ys.length m]).run P w= .ok s w'→Kpt (fun k=>(Value.slice A xs.length c).ownBlock=some k∧B≤k∧σ k=none) w w'→U0 B e sz R σ w' s (xs++ys)→((∃a m,(Value.slice A xs.length c)= .slice a xs.length m∧s= .slice a (xs.length+ys.length) m)∨(Below w.heap.size w w'∧ ∀k,s.ownBlock=some k→w.heap.size≤k))→X5 P .append [t,t] W cs [.slice A xs.length c, .slice a ys.length m] w K:=by
  intro s w' C hk hq av
  have O:(builtin .append #[t,t] W cs.toArray #[.slice A xs.length c, .slice a ys.length m]).run P w= .ok (.value s) w':=by
   simp[builtin,C]
  unfold X5
  rw[K9];unfold I2
  rw[O]
  exact h s w' hk (fun k o ho=>by rw[hk.block k (Z.lt ho) fun e=>by rw[e.2.2] at ho;cases ho];exact Z k o ho) hq av
 have q:Src P i.size t (.slice a ys.length m) ys.length d w:=by
  cases a with
  | some b=>exact Src.ofSlice w ts.h b ys.length m d (by rw[E];exact n2) (n3 b rfl) n4
  | none=>
   have hy:ys.length=0:=by
    obtain ⟨a',a5,e',q1,_,V,_⟩:=H;injection e' with e1 e2 e3;have:=n1 rfl;omega
   have hn:d=[]:=List.eq_nil_of_length_eq_zero (by rw[n2,hy];simp)
   subst hn
   rw[hy];exact Src.ofNil w ts.h m
 by_cases r:xs.length+ys.length≤c
 ·by_cases M:c=0
  ·-- nothing at all
   subst M
   have p:xs=[]:=List.eq_nil_of_length_eq_zero (by omega)
   have hy:ys=[]:=List.eq_nil_of_length_eq_zero (by omega)
   subst p hy
   have hn:d=[]:=List.eq_nil_of_length_eq_zero (by simpa using n2)
   subst hn
   refine L (.slice A 0 0) w ?_ Kpt.refl ⟨A,0,rfl,by simp,by simp,y,fun h=>by omega⟩ (.inl ⟨_,_,rfl,rfl⟩)
   have hl:=q.len w
   have D:=q.cells
   simp only[List.length_nil] at hl D⊢
   cases A<;>simp[Builtin.append_,run_underlying ts.h,sizeOf,typeInfo,hi,hl,D,storeCells]
  ·obtain ⟨g,l,f,rfl,q1,q2,V,q4,q5⟩:=c3 (by omega)
   have e1:(xs.length+ys.length)*sz≤c*sz:=Nat.mul_le_mul_right _ r
   rw[Nat.add_mul] at e1
   have X:=run_storeCells_at P g (l+xs.length*sz) e d 0 f w V (by omega) n4
   simp only[Nat.add_zero] at X
   obtain ⟨aa,ao⟩:=Dd (cs:=(f.toList.take (l+xs.length*sz)++d++f.toList.drop (l+xs.length*sz+d.length)).toArray) V
   refine L (.slice (some ⟨g,l,none⟩) (xs.length+ys.length) c) _ ?_ (Kpt.of_upd aa ⟨rfl,q1,q2⟩) ?_ (.inl ⟨_,_,rfl,rfl⟩)
   ·have hl:=q.len w
    have D:=q.cells
    rw[E] at D
    simp[Builtin.append_,run_underlying ts.h,sizeOf,typeInfo,hi,hl,D,E,r,Addr.add_lit,X]
   ·refine ⟨_,c,by rw[List.length_append],by rw[List.length_append];exact r,c2,fun b U=>⟨(y b U).1,(y b U).2.1,by rw[aa.size];exact (y b U).2.2.1,(y b U).2.2.2⟩,fun _=>⟨g,l,_,rfl,q1,q2,ao,?_,fun j x p=>?_⟩⟩
    ·simp;omega
    ·by_cases Q:j<xs.length
     ·rw[List.getElem?_append_left Q] at p
      have:=q5 j x p
      have hh:j*sz+sz≤xs.length*sz:=by rw[←Nat.succ_mul];exact Nat.mul_le_mul_right _ Q
      have e2:((f.toList.take (l+xs.length*sz)++d++f.toList.drop (l+xs.length*sz+d.length)).toArray.toList.drop (l+j*sz)).take sz=(f.toList.drop (l+j*sz)).take sz:=by
       rw[List.toList_toArray,List.append_assoc]
       rw[List.drop_append_of_le_length (by rw[List.length_take,Array.length_toList (xs:=f)];omega),List.take_append_of_le_length (by rw[List.length_drop,List.length_take,Array.length_toList (xs:=f)];omega),List.drop_take,List.take_take]
       congr 1;omega
      rw[e2];exact this
     ·rw[List.getElem?_append_right (by omega)] at p
      have:=n5 _ _ p
      have an:j-xs.length<ys.length:=(List.getElem?_eq_some_iff.1 p).1
      have hh:(j-xs.length)*sz+sz≤ys.length*sz:=by rw[←Nat.succ_mul];exact Nat.mul_le_mul_right _ an
      have bb:j*sz=xs.length*sz+(j-xs.length)*sz:=by rw[←Nat.add_mul];congr 1;omega
      have e2:((f.toList.take (l+xs.length*sz)++d++f.toList.drop (l+xs.length*sz+d.length)).toArray.toList.drop (l+j*sz)).take sz=(d.drop ((j-xs.length)*sz)).take sz:=by
       rw[List.toList_toArray,List.append_assoc]
       rw[List.drop_append,List.drop_eq_nil_of_le (by rw[List.length_take,Array.length_toList (xs:=f)];omega),List.nil_append,List.length_take,Array.length_toList (xs:=f),
        show l+j*sz-min (l+xs.length*sz) f.size=(j-xs.length)*sz by omega,
        List.drop_append_of_le_length (by omega),List.take_append_of_le_length (by rw[List.length_drop];omega)]
      rw[e2];exact this
 ·-- a new row
  have J: ∃n:List Value,n.length=xs.length*sz∧(Builtin.firstCells i.size xs.length (.slice A xs.length c)).run P w.drew= .ok n.toArray w.drew∧ ∀j x,xs[j]? =some x→R σ x ((n.drop (j*sz)).take sz):=by
   by_cases M:c=0
   ·subst M
    have p:xs=[]:=List.eq_nil_of_length_eq_zero (by omega)
    subst p
    refine ⟨[],by simp,?_,by simp⟩
    cases A with
    | none=>exact run_firstCells_none w.drew i.size 0 0 0
    | some a'=>exact run_firstCells_some w.drew i.size 0 a' 0 0 [] (by simp) (by intro _ _ h';simp at h')
   ·obtain ⟨g,l,f,rfl,q1,q2,V,q4,q5⟩:=c3 (by omega)
    have e1:xs.length*sz≤c*sz:=Nat.mul_le_mul_right _ c1
    refine ⟨(f.toList.drop l).take (xs.length*sz),by rw[List.length_take,List.length_drop,Array.length_toList (xs:=f)];omega,?_,fun j x p=>?_⟩
    ·refine run_firstCells_some w.drew i.size xs.length ⟨g,l,none⟩ xs.length c _ (by rw[List.length_take,List.length_drop,Array.length_toList (xs:=f),E];omega) (fun j u H=>?_)
     rw[List.getElem?_take] at H
     split at H
     ·rw[List.getElem?_drop] at H
      have ak:w.drew.heap[g]? =some (.cells f e (0,0)):=V
      unfold World.cell?
      rw[C0,Xt,G5 rfl]
      simp only[ak]
      simpa using H
     ·cases H
    ·have Q:j<xs.length:=(List.getElem?_eq_some_iff.1 p).1
     have hh:j*sz+sz≤xs.length*sz:=by rw[←Nat.succ_mul];exact Nat.mul_le_mul_right _ Q
     have:=q5 j x p
     rw[List.drop_take,List.take_take,List.drop_drop,show min sz (xs.length*sz-j*sz)=sz by omega]
     exact this
  obtain ⟨n,o1,o2,o3⟩:=J
  have hg:c<xs.length+ys.length:=by omega
  have C:=run_append_grow_src (P:=P) w t t W e i z ts.h hi N A xs.length c n o2 (.slice a ys.length m) ys.length d q hg (by omega) (growslice_fits hg (by rw[am];exact U))
  have ap:=grownCap_le_maxLen w (xs.length+ys.length) c e (by simp only[maxLen];omega)
  have aq:=grownCap_ge w (xs.length+ys.length) c e
  have hL:(n++d).length=(xs.length+ys.length)*sz:=by rw[List.length_append,o1,n2,Nat.add_mul]
  refine L _ _ C ?_ ?_ (.inr ⟨(Below.refl _ _).drew.alloc (Nat.le_refl _) _,by intro k hk;cases hk;exact Nat.le_refl _⟩)
  ·exact Kpt.of_below ((Below.refl _ _).drew.alloc (Nat.le_refl _) _)
  ·refine ⟨_,_,by rw[List.length_append],by rw[List.length_append];exact aq,ap,by rintro _ ⟨⟩;exact ⟨rfl,hB,(Array.getElem?_eq_some_iff.1 (heap_alloc_new w.drew _)).1,Z.none (Nat.le_refl _)⟩,fun _=>⟨w.heap.size,0,_,rfl,hB,Z.none (Nat.le_refl _),heap_alloc_new w.drew _,?_,fun j x p=>?_⟩⟩
   ·rw[Array.size_append,List.size_toArray,hL,size_zeroCells,ax,←Nat.add_mul]
    rw[Nat.zero_add];exact Nat.mul_le_mul_right _ (by omega)
   ·rw[Nat.zero_add,Array.toList_append]
    have Q:j<xs.length+ys.length:=by have:=(List.getElem?_eq_some_iff.1 p).1;rwa [List.length_append] at this
    have hh:j*sz+sz≤(xs.length+ys.length)*sz:=by rw[←Nat.succ_mul];exact Nat.mul_le_mul_right _ Q
    rw[List.drop_append_of_le_length (by simp only[List.toList_toArray];omega),List.take_append_of_le_length (by rw[List.length_drop];simp only[List.toList_toArray];omega)]
    simp only[List.toList_toArray]
    by_cases Y:j<xs.length
    ·rw[List.getElem?_append_left Y] at p
     rw[Hk n d xs.length j o1 Y]
     exact o3 j x p
    ·rw[List.getElem?_append_right (by omega)] at p
     have:=n5 _ _ p
     rw[show j*sz=n.length+(j-xs.length)*sz by rw[o1,←Nat.add_mul];congr 1;omega,List.drop_append]
     simpa [List.drop_eq_nil_of_le] using this
end
theorem Yt {b:Nat} (h:w1.heap.size≤b) (k:Stp w σ w1 σ1):w.heap.size≤b:=Nat.le_trans k.bel.size h
theorem B5 {t:TypeId} {sz by_:Nat} {z:Value} [tz:TZ P t sz by_ z] (f:X4 w σ) (h: ∀b w' σ',w.heap.size≤b→Stp w σ w' σ'→Z5 σ' w' b z.cells.toList→K (.pointer (some ⟨b,0,none⟩)) w'):W6 P t w K:=
 Dx f fun b w' d c a=>h b w' σ d c a
theorem Pu {t:TypeId} {cs:List Value} (f:X4 w σ) (h: ∀b w' σ',w.heap.size≤b→Stp w σ w' σ'→Z5 σ' w' b cs→K (.pointer (some ⟨b,0,none⟩)) w'):box P t (.agg cs.toArray) w K:=
 Q9N f fun b w' d c a=>h b w' σ d c (by simpa [Value.cells] using a)
theorem T7 {t:TypeId} {sz by_:Nat} {z:Value} [tz:TZ P t sz by_ z] {b:Nat} {cs ds:List Value} (c:Z5 σ w b cs) (f:Stp w0 σ0 w σ) (i:w0.heap.size≤b) (j:cs.length=sz) (g:ds.length=sz) (k: ∀u∈ds,u.oneCell'=true)
 (h: ∀w',Hst w0 σ0 w' σ→Z5 σ w' b ds→K undef w'):Z2 P t (.pointer (some ⟨b,0,none⟩)) (.agg ds.toArray) w K:=
 sta c j g (by rw[List.all_toArray];exact List.all_eq_true.2 k) fun w' d a=>h w' ⟨d.stp f i c.1⟩ a
structure Nxt (D : Nat → Prop) (w : World) (σ : Q4) (w' : World) (σ' : Q4) : Prop where
  kp : Kpt D w w'
  le : SLe σ σ'
  old : ∀ k, k < w.heap.size → σ' k = σ k
  sat : X4 w' σ'
theorem Nxt.of_stp {D:Nat→Prop} (h:Stp w σ w' σ'):Nxt D w σ w' σ':=⟨Kpt.of_below h.bel,⟨h.le⟩,h.old,h.sat⟩
theorem Nxt.trans {D:Nat→Prop} (h:Nxt D w σ w' σ') (k:Nxt D w' σ' w'' σ1):Nxt D w σ w'' σ1:=
 ⟨h.kp.trans k.kp,h.le.more k.le,fun i a=>(k.old i (Nat.lt_of_lt_of_le a h.kp.size)).trans (h.old i a),k.sat⟩
theorem Z5.nx {D:Nat→Prop} {b:Nat} {cs:List Value} (h:Z5 σ w b cs) (k:Nxt D w σ w' σ') (f: ¬D b):Z5 σ' w' b cs:=by
 have a:=h.lt
 obtain ⟨d,e,c⟩:=h
 exact ⟨(k.old b a).trans d,e,(k.kp.block b a f).trans c⟩
theorem E0.nx {D:Nat→Prop} {r:Nat} {m:List (List UInt8×Value)} (h:E0 σ w r m) (k:Nxt D w σ w' σ') (a: ¬D r):E0 σ' w' r m:=
 ⟨(k.old r h.lt).trans h.1,(k.kp.block r h.lt a).symm▸h.2⟩
section
variable {α : Type} {R : Q4 → α → List Value → Prop} {B sz : Nat} {e : TypeId} {v u : Value} {xs : List α} {x : α}
theorem V0.nx [hr:Rep R] {D:Nat→Prop} (h:V0 B e sz R σ w v xs) (k:Nxt D w σ w' σ') (g: ∀k,v.ownBlock=some k→ ¬D k):V0 B e sz R σ' w' v xs:=by
 have j:=h.kp k.kp g
 obtain ⟨cells,f,d,c⟩:=j
 refine ⟨cells,f,fun i a=>(k.old i (h.mem i a).2.1).trans (d i a),fun i x b=>hr.up k.le.le (c i x b)⟩
theorem U0.nx [hr:Rep R] {D:Nat→Prop} (h:U0 B e sz R σ w v xs) (k:Nxt D w σ w' σ') (C: ∀k,v.ownBlock=some k→ ¬D k):U0 B e sz R σ' w' v xs:=by
 obtain ⟨a,j,rfl,q,t,c,A⟩:=h
 refine ⟨a,j,rfl,q,t,fun b d=>⟨(c b d).1,(c b d).2.1,Nat.lt_of_lt_of_le (c b d).2.2.1 k.kp.size,(k.old _ (c b d).2.2.1).trans (c b d).2.2.2⟩,fun p=>?_⟩
 obtain ⟨g,f,l,rfl,o,y,m,z,r⟩:=A p
 have n:=(Array.getElem?_eq_some_iff.1 m).1
 exact ⟨g,f,l,rfl,o,(k.old g n).trans y,(k.kp.block g n (C g rfl)).trans m,z,fun i x s=>hr.up k.le.le (r i x s)⟩
theorem Uc {t y:TypeId} {by_:Nat} {z:Value} {cs:List Bool} {A:Value→Value→World→Prop} [ts:TS P t e] [tz:TZ P e sz by_ z] [hr:Rep R] (m:Stp w0 σ0 w σ) (q:V0 w0.heap.size e sz R σ w v xs) (o:R σ x u.cells.toList) (n:u.cells.size=sz) (r:(z.cells.size==sz&&decide (0<sz))=true) (i:(decide (0<sz)&&decide ([u].length*sz≤16777216))=true)
 (D:(xs.length+1)*by_≤140737488355328) (p:xs.length+1≤9223372036854775807)
 (h: ∀s b w' σ',Nxt (fun k=>v.ownBlock=some k) w σ w' σ'→Stp w0 σ0 w' σ'→V0 w0.heap.size e sz R σ' w' b (xs++[x])→(b.ownBlock=v.ownBlock∨ ∀k,b.ownBlock=some k→w.heap.size≤k)→A s b w'):
 buildSlice P t 1 [(0,u)] w (fun s w=>X5 P .append [t,t] y cs [v,s] w (fun b w=>A s b w)):=by
 refine O7 m.sat [u] [x] rfl rfl (by simpa using n) i ⟨o,trivial⟩ fun s w1 σ1 a g=>?_
 refine app (m.trans a) (q.up a) g r (by simpa using D) (by simpa using p) fun b l C c d hat=>?_
 have j:Kpt (fun k=>v.ownBlock=some k) w l:=(Kpt.of_below a.bel).trans (Kpt.of_grown C fun k a=>a)
 refine h s b l σ1 ⟨j,⟨a.le⟩,a.old,c.sat⟩ c d ?_
 rcases hat with hat | hat
 ·exact .inl hat
 ·exact .inr fun k f=>Nat.le_trans a.bel.size (hat k f)
theorem Dl {t o:TypeId} {by_:Nat} {z:Value} {cs:List Bool} {ys:List α} [ts:TS P t e] [tz:TZ P e sz by_ z] [hr:Rep R] (n:Stp w0 σ0 w σ) (l:V0 w0.heap.size e sz R σ w v xs) (g:Sl sz R σ u ys) (m:(z.cells.size==sz&&decide (0<sz))=true)
 (q:(xs.length+ys.length)*by_≤140737488355328) (i:xs.length+ys.length≤9223372036854775807)
 (h: ∀a w',Nxt (fun k=>v.ownBlock=some k) w σ w' σ→Stp w0 σ0 w' σ→V0 w0.heap.size e sz R σ w' a (xs++ys)→(a.ownBlock=v.ownBlock∨ ∀k,a.ownBlock=some k→w.heap.size≤k)→K a w'):X5 P .append [t,t] o cs [v,u] w K:=
 app n l g m q i fun a f p b c d=>h a f ⟨Kpt.of_grown p fun k j=>j,SLe.refl _,fun _ _=>rfl,b.sat⟩ b c d
end
section
variable {α : Type} {R : Q4 → α → List Value → Prop} {B sz : Nat} {e : TypeId} {v u : Value} {xs : List α} {x : α}
theorem U0.mono {k:Nat} (h:U0 B e sz R σ w v xs) (l:k≤B):U0 k e sz R σ w v xs:=by
 obtain ⟨a,f,rfl,r,p,d,o⟩:=h
 refine ⟨a,f,rfl,r,p,fun b c=>⟨(d b c).1,Nat.le_trans l (d b c).2.1,(d b c).2.2⟩,fun n=>?_⟩
 obtain ⟨g,i,j,rfl,m,q⟩:=o n
 exact ⟨g,i,j,rfl,Nat.le_trans l m,q⟩
theorem U0.own (h:U0 B e sz R σ w v xs) {k:Nat} (a:v.ownBlock=some k):B≤k:=(h.mem a).1
theorem U0.keep [hr:Rep R] (h:U0 w0.heap.size e sz R σ w v xs) (p:Stp w0 σ0 w σ): ∃σ',Stp w0 σ0 w σ'∧Sl sz R σ' v xs∧SLe σ σ'∧(∀k,some k≠v.ownBlock→σ' k=σ k):=by
 obtain ⟨a,f,rfl,t,z,o,D⟩:=h
 by_cases s:f=0
 ·have m:xs=[]:=List.eq_nil_of_length_eq_zero (by omega)
  subst s m
  exact ⟨σ,p,⟨a,0,rfl,by simp,by simp,fun _=>rfl,fun b E=>⟨fun _=>(o b E).1,by simp⟩⟩,SLe.refl _,fun _ _=>rfl⟩
 ·obtain ⟨g,n,c,rfl,r,q,A,J,y⟩:=D (by omega)
  have d:=Q4.put_le p.sat q (.cells c e (0,0))
  refine ⟨σ.put g (.cells c e (0,0)),p.put q r A,⟨_,f,rfl,t,z,by simp,?_⟩,⟨d⟩,?_⟩
  ·rintro _ ⟨⟩
   refine ⟨fun _=>rfl,fun i x m=>⟨(c.toList.drop (n+i*sz)).take sz,⟨G5 rfl _,c,e,(0,0),by rw[C0];simp[Q4.put],?_⟩,?_,hr.up d (y i x m)⟩⟩
   ·intro j u l
    rw[Xt]
    rw[List.getElem?_take] at l
    split at l
    ·rw[List.getElem?_drop] at l;simpa using l
    ·cases l
   ·have H:i<xs.length:=(List.getElem?_eq_some_iff.1 m).1
    have h:i*sz+sz≤f*sz:=by rw[←Nat.succ_mul];exact Nat.mul_le_mul_right _ (by omega)
    rw[List.length_take,List.length_drop,Array.length_toList (xs:=c)];omega
  ·intro k C
   have:k≠g:=by intro e;subst e;exact C rfl
   simp only[Q4.put,if_neg this]
theorem X00 {t Q:TypeId} {by_:Nat} {z:Value} {A:Value→Value→World→Prop} {ds:List Value} [ts:TS P t e] [tz:TZ P e sz by_ z] {s:Nat} {W:Value} [tz':TZ P Q sz s W] (hS:Stp w0 σ0 w σ) (ha:U0 w0.heap.size e sz R σ w v xs) {n:Nat} (hn:n<xs.length) (H:ds.length=sz) (Z:R σ x ds) (Y: ∀u∈ds,u.oneCell'=true)
 (h: ∀p u w',Kpt (fun k=>v.ownBlock=some k) w w'→Hst w0 σ0 w' σ→U0 w0.heap.size e sz R σ w' v (xs.set n x)→A p u w'):
 indexAddr P t v (I n) w (fun p w=>Z2 P Q p (.agg ds.toArray) w (fun u w=>A p u w)):=by
 obtain ⟨a,i,rfl,c1,U,f,c3⟩:=ha
 obtain ⟨g,c,d,rfl,L,O,N,q4,X⟩:=c3 (by omega)
 rw[Sq (by omega) (by omega)]
 have hh:n*sz+sz≤i*sz:=by rw[←Nat.succ_mul];exact Nat.mul_le_mul_right _ (by omega)
 have o:(⟨g,c,none⟩:Addr).add ((n:Int).toNat*sz)=⟨g,c+n*sz,none⟩:=by unfold Addr.add;split<;>simp_all
 rw[o]
 have q:=run_storeCells_at P g (c+n*sz) e ds 0 d w N (by omega) Y
 simp only[Nat.add_zero] at q
 obtain ⟨l,E⟩:=Dd (cs:=(d.toList.take (c+n*sz)++ds++d.toList.drop (c+n*sz+ds.length)).toArray) N
 unfold Z2
 rw[Nd (w':=w.setRow g (d.toList.take (c+n*sz)++ds++d.toList.drop (c+n*sz+ds.length)).toArray) (by
  simp[Instr.storeAt,Instr.sureAddr,storeVar,W4 tz',Value.cells,H]
  simpa [H] using q)]
 have hk:Kpt (fun k=>(Value.slice (some ⟨g,c,none⟩) xs.length i).ownBlock=some k) w (w.setRow g (d.toList.take (c+n*sz)++ds++d.toList.drop (c+n*sz+ds.length)).toArray):=Kpt.of_upd l rfl
 refine h _ _ _ hk ⟨l.stp hS L O⟩ ⟨_,i,by rw[List.length_set],by rw[List.length_set];exact c1,U,fun b r=>⟨(f b r).1,(f b r).2.1,by rw[l.size];exact (f b r).2.2.1,(f b r).2.2.2⟩,fun _=>⟨g,c,_,rfl,L,O,E,?_,fun j y m=>?_⟩⟩
 ·simp;omega
 ·rw[List.toList_toArray]
  have ab:=Array.length_toList (xs:=d)
  have D:j<xs.length:=by have:=(List.getElem?_eq_some_iff.1 m).1;simpa using this
  have V:j*sz+sz≤i*sz:=by rw[←Nat.succ_mul];exact Nat.mul_le_mul_right _ (by omega)
  by_cases M:j=n
  ·subst M
   rw[List.getElem?_set_self D] at m
   cases m
   rw[List.append_assoc,List.drop_append,List.drop_eq_nil_of_le (by rw[List.length_take];omega),List.nil_append,List.length_take,show c+j*sz-min (c+j*sz) d.toList.length=0 by omega,List.drop_zero,List.take_append_of_le_length (by omega),List.take_of_length_le (by omega)]
   exact Z
  ·rw[List.getElem?_set_ne (by omega)] at m
   have:=X j y m
   rcases Nat.lt_or_gt_of_ne M with C | hgt
   ·have J:j*sz+sz≤n*sz:=by rw[←Nat.succ_mul];exact Nat.mul_le_mul_right _ C
    rw[List.append_assoc,List.drop_append_of_le_length (by rw[List.length_take];omega),List.take_append_of_le_length (by rw[List.length_drop,List.length_take];omega),List.drop_take,List.take_take]
    rwa [show min sz (c+n*sz-(c+j*sz))=sz by omega]
   ·have J:n*sz+sz≤j*sz:=by rw[←Nat.succ_mul];exact Nat.mul_le_mul_right _ hgt
    rw[List.drop_append,List.drop_eq_nil_of_le (by rw[List.length_append,List.length_take];omega),List.nil_append,List.length_append,List.length_take,List.drop_drop,H]
    rwa [show c+n*sz+sz+(c+j*sz-(min (c+n*sz) d.toList.length+sz))=c+j*sz by omega]
end
theorem Q42 (p:Nat→Prop): ∀n,p n→ ∃m,p m∧ ∀k,p k→m≤k:=by
 intro n
 induction n using Nat.strongRecOn with
 | _ n g=>
  intro h
  by_cases b: ∃k,k<n∧p k
  ·obtain ⟨k,f,d⟩:=b;exact g k f d
  ·exact ⟨n,h,fun k c=>Nat.le_of_not_lt fun a=>b ⟨k,a,c⟩⟩
noncomputable def Q05 (p:Nat→Prop):Nat:=open Classical in if h: ∃m,p m∧ ∀k,p k→m≤k then Classical.choose h else 0
theorem Ts {p:Nat→Prop} {n:Nat} (h:p n):p (Q05 p)∧Q05 p≤n:=by
 have a:=Q42 p n h
 unfold Q05
 rw[dif_pos a]
 exact ⟨(Classical.choose_spec a).1,(Classical.choose_spec a).2 n h⟩
theorem Fb {α:Type} {g:α} {A:(α→World→Prop)→α→(Nat→Value)→World→Prop} (I:Nat→α→World→Prop) (n:Nat) (k:I n g w)
 (j: ∀a n x d w,I n x w→(∀c b w',c<n→I c b w'→a b w')→A a x d w):lp g w A:=by
 refine Ym (fun x w=> ∃n,I n x w) (fun x w=>Q05 fun n=>I n x w) ⟨n,k⟩ ?_
 rintro x d w ⟨n,l⟩
 obtain ⟨i,m⟩:=Ts (p:=fun n=>I n x w) l
 refine j _ _ x d w i fun c b w' f h=>⟨⟨c,h⟩,?_⟩
 exact Nat.lt_of_le_of_lt (Ts (p:=fun n=>I n b w') h).2 f
section
variable {α : Type} {R : Q4 → α → List Value → Prop} {B sz : Nat} {e : TypeId} {v u : Value} {xs ys : List α} {x : α}
theorem U0.below (h:U0 B e sz R σ w v xs) (a:Below w.heap.size w w'):U0 B e sz R σ w' v xs:=h.kp (D:=fun _=>False) (.of_below a) fun _ _=>id
theorem U0.pre {a:Option Addr} {n m b:Nat} (h:U0 B e sz R σ w (.slice a m b) (xs++ys)) (E:n=xs.length):U0 B e sz R σ w (.slice a n b) xs:=by
 obtain ⟨H,k,l,r,t,d,C⟩:=h
 injection l with q e2 D
 subst q D E
 rw[List.length_append] at r
 refine ⟨a,b,rfl,by omega,t,d,fun p=>?_⟩
 obtain ⟨g,c,f,q0,o,z,y,A,s⟩:=C p
 exact ⟨g,c,f,q0,o,z,y,A,fun i x j=>s i x (by rw[List.getElem?_append_left (List.getElem?_eq_some_iff.1 j).1];exact j)⟩
def Ss (B:Nat) (e:TypeId) (sz:Nat) (R:Q4→α→List Value→Prop) (σ:Q4) (v:Value) (xs:List α) (x:α) (w1 c:World):Prop:=
 Kpt (fun k=>v.ownBlock=some k) w1 c∧(U0 B e sz R σ w1 v xs→U0 B e sz R σ c v xs)∧
  ∀a b,v= .slice a xs.length b→U0 B e sz R σ w1 (.slice a (xs.length+1) b) (xs++[x])→U0 B e sz R σ c (.slice a (xs.length+1) b) (xs++[x])
theorem Ss.below (a:Below w.heap.size w w'):Ss B e sz R σ v xs x w w':=⟨.of_below a,fun h=>h.below a,fun _ _ _ h=>h.below a⟩
theorem Ss.refl:Ss B e sz R σ v xs x w w:=Ss.below (Below.refl _ _)
def VQa (N B:Nat) (e:TypeId) (sz:Nat) (R:Q4→α→List Value→Prop) (σ:Q4) (v:Value) (xs:List α) (x:α) (c:Value) (w:World):Prop:=
 U0 B e sz R σ w c (xs++[x])∧((∃a b,v= .slice a xs.length b∧c= .slice a (xs.length+1) b)∨((∀k,c.ownBlock=some k→N≤k)∧ ∀k,v.ownBlock=some k→k<N))
theorem VQa.stable {N:Nat} {j:Value} (h:VQa N B e sz R σ v xs x j w) (g:Ss B e sz R σ v xs x w w'):VQa N B e sz R σ v xs x j w':=by
 obtain ⟨i,b⟩:=h
 refine ⟨?_,b⟩
 rcases b with ⟨a,f,d,rfl⟩ | ⟨b,d⟩
 ·exact g.2.2 a f d i
 ·exact i.kp g.1 fun k l c=>by have:=b k l;have:=d k c;omega
theorem Kpt.more {D E:Nat→Prop} (h:Kpt D w w') (k:Kpt E w' w'') (hE: ∀j,E j→w.heap.size≤j):Kpt D w w'':=
 ⟨k.os.trans h.os,k.tape.trans h.tape,k.output.trans h.output,Nat.le_trans h.size k.size,fun i a b=>(k.block i (Nat.lt_of_lt_of_le a h.size) fun e=>by have:=hE i e;omega).trans (h.block i a b)⟩
end
end Go.Emb

namespace Go.Hm
open Go.Kd
theorem U4 {l:List Cla} {n:X0} {c:Cla} (h:lk l n=some c):c.name=n∧c∈l∧ ∃i,Y4 l n=some i∧l[i]? =some c:=by
 unfold lk at h
 cases b:Y4 l n with
 | none=>rw[b] at h;cases h
 | some i=>
  rw[b] at h
  obtain ⟨a,e,_⟩:=List.findIdx?_eq_some_iff_getElem.1 b
  have d:l[i]? =some c:=h
  rw[List.getElem?_eq_getElem a] at d
  cases d
  exact ⟨by simpa using e,List.getElem_mem a,i,rfl,List.getElem?_eq_getElem a⟩
theorem Zr {l:List Cla} {n:X0} {i:Nat} (h:Y4 l n=some i): ∃c,lk l n=some c∧l[i]? =some c∧c.name=n:=by
 obtain ⟨a,b,_⟩:=List.findIdx?_eq_some_iff_getElem.1 h
 refine ⟨l[i],?_,List.getElem?_eq_getElem a,by simpa using b⟩
 unfold lk;rw[h];simp[a]
theorem Q2p {l:List Cla} {n:X0}:Q0Y l n=(lk l n).isSome:=by
 unfold Q0Y
 cases a:Y4 l n with
 | none=>simp[lk,a]
 | some i=>obtain ⟨c,h,_⟩:=Zr a;simp[h]
theorem Q8D {l:List Cla} {c:Cla} (h:c∈l): ∃d,lk l c.name=some d:=by
 cases a:Y4 l c.name with
 | none=>
  have:=List.findIdx?_eq_none_iff.1 a c h
  simp at this
 | some i=>obtain ⟨d,h,_⟩:=Zr a;exact ⟨d,h⟩
inductive Reach (L : Up) : X0 → X0 → Prop
  | refl {a : X0} {c : Cla} : L a = some c → Reach L a a
  | step {a u b : X0} {c : Cla} : L a = some c → u ∈ J3 c → Reach L u b → Reach L a b
theorem Reach.trans {L:Up} {a b d:X0} (h:Reach L a b) (k:Reach L b d):Reach L a d:=by
 induction h with
 | refl _=>exact k
 | step e c _ f=>exact .step e c (f k)
theorem Reach.right {L:Up} {a b:X0} (h:Reach L a b): ∃c,L b=some c:=by
 induction h with
 | refl h=>exact ⟨_,h⟩
 | step _ _ _ d=>exact d
theorem Reach.left {L:Up} {a b:X0} (h:Reach L a b): ∃c,L a=some c:=by
 cases h with
 | refl h=>exact ⟨_,h⟩
 | step h _ _=>exact ⟨_,h⟩
theorem Q04 (L:Up): ∀(f:Nat) (a b:List X0),∃r,Jf L f a b=b++r:=by
 intro f
 induction f with
 | zero=>intro a b;exact ⟨[],by simp[Jf]⟩
 | succ f c=>
  intro a b
  cases a with
  | nil=>exact ⟨[],by simp[Jf]⟩
  | cons n a=>
   simp only[Jf]
   split
   ·exact c _ _
   ·split
    ·exact c _ _
    ·obtain ⟨r,d⟩:=c (a++J3 ‹_›) (b++[n])
     exact ⟨n::r,by rw[d];simp⟩
theorem Q8C (L:Up): ∀(f:Nat) (a b:List X0) (x:X0),x∈Jf L f a b→x∈b∨ ∃t∈a,Reach L t x:=by
 intro f
 induction f with
 | zero=>intro a b x h;exact .inl h
 | succ f d=>
  intro a b x h
  cases a with
  | nil=>exact .inl h
  | cons n a=>
   simp only[Jf] at h
   split at h
   ·rcases d _ _ _ h with h | ⟨t,ht,h⟩
    ·exact .inl h
    ·exact .inr ⟨t,by simp[ht],h⟩
   ·rename_i c e
    split at h
    ·rcases d _ _ _ h with h | ⟨t,ht,h⟩
     ·exact .inl h
     ·exact .inr ⟨t,by simp[ht],h⟩
    ·rcases d _ _ _ h with h | ⟨t,ht,h⟩
     ·rcases List.mem_append.1 h with h | h
      ·exact .inl h
      ·simp at h;subst h;exact .inr ⟨x,by simp, .refl e⟩
     ·rcases List.mem_append.1 ht with ht | ht
      ·exact .inr ⟨t,by simp[ht],h⟩
      ·exact .inr ⟨n,by simp, .step e ht h⟩
theorem Q9p (l:List Cla) (a b:List X0) (h: ∀x∈a,x∈b):weigh l b≤weigh l a:=by
 unfold weigh
 induction l with
 | nil=>simp
 | cons c r e=>
  simp only[List.map_cons,List.sum_cons]
  by_cases d:c.name∈a
  ·rw[if_pos d,if_pos (h _ d)];omega
  ·rw[if_neg d];split<;>omega
theorem Fk (l:List Cla) (a:List X0) (c:Cla) (hc:c∈l) (g:c.name∉a):weigh l (a++[c.name])+(J3 c).length≤weigh l a:=by
 unfold weigh
 induction l with
 | nil=>simp at hc
 | cons d r h=>
  simp only[List.map_cons,List.sum_cons]
  have b:weigh r (a++[c.name])≤weigh r a:=Q9p _ _ _ (by simp;intro x f;exact .inl f)
  unfold weigh at b
  rcases List.mem_cons.1 hc with rfl | hc
  ·rw[if_pos (by simp),if_neg g];omega
  ·have:=h hc
   by_cases e:d.name∈a
   ·rw[if_pos (by simp[e]),if_pos e];omega
   ·rw[if_neg e];split<;>omega
theorem Q9b (l:List Cla): ∀(f:Nat) (a b:List X0),a.length+weigh l b≤f→
 (∀x∈b,∀c,lk l x=some c→ ∀u∈J3 c,∀d,lk l u=some d→u∈b∨u∈a)→
 (∀t∈a,∀d,lk l t=some d→t∈Jf (lk l) f a b)∧ ∀x∈Jf (lk l) f a b,∀c,lk l x=some c→ ∀u∈J3 c,∀d,lk l u=some d→u∈Jf (lk l) f a b:=by
 intro f
 induction f with
 | zero=>
  intro a b w o
  have:a=[]:=List.eq_nil_of_length_eq_zero (by omega)
  subst this
  refine ⟨by simp,fun x hx c i u j d g=>?_⟩
  rcases o x hx c i u j d g with h | h
  ·exact h
  ·simp at h
 | succ f v=>
  intro a b w o
  cases a with
  | nil=>
   refine ⟨by simp,fun x hx c i u j d g=>?_⟩
   rcases o x hx c i u j d g with h | h
   ·exact h
   ·simp at h
  | cons n a=>
   simp only[List.length_cons] at w
   simp only[Jf]
   split
   ·rename_i y
    obtain ⟨p,q⟩:=v a b (by omega) (fun x hx c i u j d g=>by
     rcases o x hx c i u j d g with h | h
     ·exact .inl h
     ·rcases List.mem_cons.1 h with rfl | h
      ·rw[y] at g;cases g
      ·exact .inr h)
    refine ⟨fun t ht d g=>?_,q⟩
    rcases List.mem_cons.1 ht with rfl | ht
    ·rw[y] at g;cases g
    ·exact p t ht d g
   ·rename_i c i
    split
    ·rename_i k
     obtain ⟨r,s⟩:=Q04 (lk l) f a b
     obtain ⟨p,q⟩:=v a b (by omega) (fun x hx c i u j d g=>by
      rcases o x hx c i u j d g with h | h
      ·exact .inl h
      ·rcases List.mem_cons.1 h with rfl | h
       ·exact .inl k
       ·exact .inr h)
     refine ⟨fun t ht d g=>?_,q⟩
     rcases List.mem_cons.1 ht with rfl | ht
     ·rw[s];simp[k]
     ·exact p t ht d g
    ·rename_i k
     obtain ⟨e,z,_⟩:=U4 i
     have A:=Fk l b c z (by rw[e];exact k)
     rw[e] at A
     obtain ⟨p,q⟩:=v (a++J3 c) (b++[n]) (by rw[List.length_append];omega) (fun x hx B m u j d g=>by
      rcases List.mem_append.1 hx with hx | hx
      ·rcases o x hx B m u j d g with h | h
       ·exact .inl (by simp[h])
       ·rcases List.mem_cons.1 h with rfl | h
        ·exact .inl (by simp)
        ·exact .inr (by simp[h])
      ·simp at hx;subst hx
       rw[i] at m;cases m
       exact .inr (by simp[j]))
     refine ⟨fun t ht d g=>?_,q⟩
     rcases List.mem_cons.1 ht with rfl | ht
     ·obtain ⟨r,s⟩:=Q04 (lk l) f (a++J3 c) (b++[t])
      rw[s];simp
     ·exact p t (by simp[ht]) d g
theorem Zy {l:List Cla} {a b:X0}:b∈R3 l a↔Reach (lk l) a b:=by
 obtain ⟨g,m⟩:=Q9b l (1+weigh l []) [a] [] (by simp) (by simp)
 constructor
 ·intro h
  rcases Q8C _ _ _ _ _ h with h | ⟨t,e,o⟩
  ·simp at h
  ·simp at e;subst e;exact o
 ·intro h
  have key: ∀{x y:X0},Reach (lk l) x y→x∈R3 l a→y∈R3 l a:=by
   intro x y h
   induction h with
   | refl _=>exact id
   | step f i k n=>
    intro j
    obtain ⟨d,c⟩:=k.left
    exact n (m _ j _ f _ i _ c)
  obtain ⟨d,c⟩:=h.left
  exact key h (g a (by simp) d c)
theorem Q9x (l:List Cla): ∀(f:Nat) (a b:List X0),a.length+weigh l b≤f→ ∀k,Jf (lk l) (f+k) a b=Jf (lk l) f a b:=by
 intro f
 induction f with
 | zero=>
  intro a b h k
  have:a=[]:=List.eq_nil_of_length_eq_zero (by omega)
  subst this
  cases k<;>rfl
 | succ f g=>
  intro a b h k
  cases a with
  | nil=>rw[Nat.succ_add];rfl
  | cons n a=>
   simp only[List.length_cons] at h
   rw[Nat.succ_add]
   simp only[Jf]
   split
   ·exact g _ _ (by omega) k
   ·rename_i c i
    split
    ·exact g _ _ (by omega) k
    ·rename_i d
     obtain ⟨e,j,_⟩:=U4 i
     have m:=Fk l b c j (by rw[e];exact d)
     rw[e] at m
     exact g _ _ (by rw[List.length_append];omega) k
end Go.Hm

namespace Go.Hm
open Go.Kd
def Uo (L:Up) (a b:X0):Prop:= ∃c,L a=some c∧ ∃u∈J3 c,Reach L u b
def Yg (l:List Cla):Prop:= ∀a,¬Uo (lk l) a a
theorem Uo.reach {L:Up} {a b:X0} (h:Uo L a b):Reach L a b:=by
 obtain ⟨c,e,u,d,f⟩:=h;exact .step e d f
theorem Uo.trans {L:Up} {a b d:X0} (h:Uo L a b) (k:Reach L b d):Uo L a d:=by
 obtain ⟨c,f,u,e,g⟩:=h;exact ⟨c,f,u,e,g.trans k⟩
theorem Q2Z {L:Up} {a b:X0}:Reach L a b↔(a=b∧(∃c,L a=some c))∨Uo L a b:=by
 constructor
 ·intro h
  cases h with
  | refl h=>exact .inl ⟨rfl,_,h⟩
  | step f e d=>exact .inr ⟨_,f,_,e,d⟩
 ·rintro (⟨rfl,c,h⟩ | h)
  ·exact .refl h
  ·exact h.reach
def Zx (l:List Cla) (a b:X0):Bool:=match lk l a with
 | none=>false
 | some c=>(J3 c).any fun u=>(R3 l u).contains b
theorem Vm {l:List Cla} {a b:X0}:Zx l a b=true↔Uo (lk l) a b:=by
 unfold Zx Uo
 cases h:lk l a with
 | none=>simp
 | some c=>
  simp only[List.any_eq_true,List.contains_iff_mem,Zy]
  constructor
  ·rintro ⟨u,d,e⟩;exact ⟨c,rfl,u,d,e⟩
  ·rintro ⟨_,⟨⟩,u,d,e⟩;exact ⟨u,d,e⟩
def F6 (l:List Cla) (n:X0):Nat:=l.countP fun m=>Zx l n m.name
theorem Az (l:List Cla) (n:X0):F6 l n≤l.length:=List.countP_le_length
theorem Q2U {α:Type} {p q:α→Bool}: ∀{l:List α},(∀x∈l,p x=true→q x=true)→(∃x∈l,q x=true∧p x=false)→l.countP p<l.countP q:=by
 intro l
 induction l with
 | nil=>rintro _ ⟨x,hx,_⟩;simp at hx
 | cons a r g=>
  rintro h ⟨x,hx,d,c⟩
  have f:r.countP p≤r.countP q:=List.countP_mono_left fun x hx=>h x (by simp[hx])
  rw[List.countP_cons,List.countP_cons]
  rcases List.mem_cons.1 hx with rfl | hx
  ·rw[d,c];simp;omega
  ·have:=g (fun x hx=>h x (by simp[hx])) ⟨x,hx,d,c⟩
   have e:=h a (by simp)
   cases b:p a
   ·simp;split<;>omega
   ·rw[e b];simp;omega
theorem X0L {l:List Cla} (f:Yg l) {a b:X0} (h:Uo (lk l) a b):F6 l b<F6 l a:=by
 unfold F6
 refine Q2U (fun x _ g=>?_) ?_
 ·rw[Vm] at*
  exact h.trans g.reach
 ·obtain ⟨d,j⟩:=(Reach.right (h.reach))
  obtain ⟨e,i,_⟩:=U4 j
  refine ⟨d,i,?_,?_⟩
  ·rw[Vm,e];exact h
  ·cases c:Zx l b d.name with
   | false=>rfl
   | true=>rw[Vm,e] at c;exact absurd c (f b)
theorem Xu {l:List Cla} (b:Yg l) {a u:X0} {c d:Cla} (f:lk l a=some c) (e:u∈J3 c) (g:lk l u=some d):F6 l u<F6 l a:=
 X0L b ⟨c,f,u,e, .refl g⟩
theorem Q5F {l:List Cla} (b:Yg l): ∀(f g:Nat) (n:X0),F6 l n<f→F6 l n<g→C3 (lk l) f n=C3 (lk l) g n:=by
 intro f
 induction f with
 | zero=>intro g n h;omega
 | succ f i=>
  intro g n k j
  obtain ⟨g,rfl⟩: ∃m,g=m+1:=⟨g-1,by omega⟩
  simp only[C3]
  cases e:lk l n with
  | none=>rfl
  | some c=>
   simp only
   congr 1
   cases a:lk l c.super with
   | none=>cases f<;>cases g<;>simp[C3,a]
   | some d=>
    have:=Xu b e (by simp[J3]) a
    exact i g c.super (by omega) (by omega)
theorem F5 {l:List Cla} (a:Yg l) (n:X0):chain l n=match lk l n with | none=>[] | some c=>c::chain l c.super:=by
 have:=Az l n
 unfold chain
 rw[C3]
 cases e:lk l n with
 | none=>rfl
 | some c=>
  simp only
  congr 1
  cases b:lk l c.super with
  | none=>cases l.length<;>simp[C3,b]
  | some d=>
   have:=Xu a e (by simp[J3]) b
   exact Q5F a _ _ _ (by omega) (by omega)
theorem K0 {l:List Cla} {n:X0} (h:lk l n=none):chain l n=[]:=by simp[chain,C3,h]
theorem Nh {α β:Type} {f g:α→Option β}: ∀{l:List α},(∀x∈l,f x=g x)→l.findSome? f=l.findSome? g
 | [],_=>rfl
 | a::r,h=>by
  rw[List.findSome?_cons,List.findSome?_cons,h a (by simp),Nh fun x b=>h x (by simp[b])]
theorem Q5u {l:List Cla} (k:Yg l) (n:X0): ∀(f g:Nat) (c:Cla),lk l c.name=some c→F6 l c.name<f→F6 l c.name<g→Dv (lk l) f c n=Dv (lk l) g c n:=by
 intro f
 induction f with
 | zero=>intro g c _ h;omega
 | succ f j=>
  intro g c b o p
  obtain ⟨g,rfl⟩: ∃m,g=m+1:=⟨g-1,by omega⟩
  simp only[Dv]
  refine Nh fun u i=>?_
  cases a:lk l u with
  | none=>rfl
  | some d=>
   simp only
   cases H9 d n with
   | some m=>rfl
   | none=>
    simp only
    have:=Xu k b (by simp[J3,i]) a
    have e:=(U4 a).1
    exact j g d (by rw[e];exact a) (by rw[e];omega) (by rw[e];omega)
def U3 (l:List Cla) (c:Cla) (n:X0):Option (X0×Hm.Met):=Dv (lk l) (l.length+1) c n
theorem Q2G {l:List Cla} (b:Yg l) {c:Cla} (g:lk l c.name=some c) (n:X0):U3 l c n=c.like.findSome? fun u=>match lk l u with
 | none=>none
 | some d=>match H9 d n with
  | some m=>some (u,m)
  | none=>U3 l d n:=by
 have:=Az l c.name
 unfold U3
 rw[Dv]
 refine Nh fun u f=>?_
 cases a:lk l u with
 | none=>rfl
 | some d=>
  simp only
  cases H9 d n with
  | some m=>rfl
  | none=>
   have:=Xu b g (by simp[J3,f]) a
   have e:=(U4 a).1
   exact Q5u b n _ _ d (by rw[e];exact a) (by rw[e];omega) (by rw[e];omega)
def G1 (l:List Cla):Prop:=(l.map (·.name)).Nodup
theorem G1.lk {l:List Cla} (h:G1 l) {c:Cla} (f:c∈l):Go.Hm.lk l c.name=some c:=by
 obtain ⟨d,g⟩:=Q8D f
 obtain ⟨e,o,i,p,b⟩:=U4 g
 obtain ⟨j,n,rfl⟩:=List.getElem_of_mem f
 obtain ⟨a,k⟩:=List.getElem?_eq_some_iff.1 b
 have:i=j:=by
  have m:(l.map (·.name))[i]'(by simpa using a)=(l.map (·.name))[j]'(by simpa using n):=by simp[k,e]
  exact (List.getElem_inj h).1 m
 subst this
 rw[g,←k]
theorem G1.find {l:List Cla} (h:G1 l) {i:Nat} {c:Cla} (d:l[i]? =some c):Y4 l c.name=some i:=by
 obtain ⟨b,rfl⟩:=List.getElem?_eq_some_iff.1 d
 have:=h.lk (List.getElem_mem b)
 obtain ⟨e,n,j,k,f⟩:=U4 this
 obtain ⟨a,m⟩:=List.getElem?_eq_some_iff.1 f
 have:j=i:=by
  have g:(l.map (·.name))[j]'(by simpa using a)=(l.map (·.name))[i]'(by simpa using b):=by simp[m]
  exact (List.getElem_inj h).1 g
 rw[k,this]
end Go.Hm

namespace Go.Emb
open Go.RowKit Go.Hm
variable {P : Program} {w w0 w1 w' w'' : World} {K : Value → World → Prop} {σ σ0 σ1 σ2 σ' : Q4}
theorem Stp.join (c:Stp w σ w' σ1) (d:Stp w σ w' σ2): ∃f,Stp w σ w' f∧SLe σ1 f∧SLe σ2 f:=by
 have g: ∀b o,σ1 b=some o→(fun b=>(σ1 b).or (σ2 b)) b=some o:=fun b o e=>by simp[e]
 have j: ∀b o,σ2 b=some o→(fun b=>(σ1 b).or (σ2 b)) b=some o:=by
  intro b o e
  cases a:σ1 b with
  | none=>simp[a,e]
  | some p=>
   have i:=c.sat b p a
   have h:=d.sat b o e
   rw[i] at h;cases h;simp only[a,Option.some_or]
 refine ⟨fun b=>(σ1 b).or (σ2 b),⟨c.bel,?_,fun b o e=>g b o (c.le b o e),?_⟩,⟨g⟩,⟨j⟩⟩
 ·intro b o e
  cases a:σ1 b with
  | none=>simp only[a,Option.none_or] at e;exact d.sat b o e
  | some p=>simp only[a,Option.some_or] at e;cases e;exact c.sat b _ a
 ·intro b a
  simp only[c.old b a,d.old b a];cases σ b<;>rfl
theorem Ri {Φ:Q4→Value→Prop} {A a:(Value→World→Prop)→Prop} (h:A (fun v w'=> ∃σ',Stp w σ w' σ'∧Φ σ' v)) (c:a (fun v w'=> ∃σ',Stp w σ w' σ'∧Φ σ' v)):Q6 (fun w w'=>Below w.heap.size w w') A a:=
 W5 _ (fun _ _ _ ⟨σ',b,d⟩ e=>⟨σ',b.trans (Stp.of_below b.sat e),d⟩) h c
theorem Q0Q {Φ:Q4→Value→Prop} {v:Value} (b:Hst w σ w1 σ) (h:Stp w1 σ w' σ') (a:Φ σ' v):dk (fun w w'=>Below w.heap.size w w') (fun v w'=> ∃σ',Stp w σ w' σ'∧Φ σ' v) w1 v w':=
 ⟨h.bel,σ',b.stp.trans h,a⟩
theorem L2.mk {m:Hm.Met} {pv a b:Value} (g:Sl 1 X9 σ pv m.params) (f:Sl 3 G3 σ a m.code) (e:Sl 4 Xf σ b m.catches) (c:m.name.length≤Z7) (h:m.result.length≤Z7) (d:Tz m.locals):L2 σ m [S m.name,pv,S m.result, .bool m.abs,I m.locals,a,b]:=
 ⟨pv,a,b,rfl,g,f,e,c,h,d⟩
theorem U6.mk {c:Cla} {b a mv:Value} (g:Sl 1 X9 σ b c.like) (f:Sl 3 D6 σ a c.fields) (e:Sl 7 L2 σ mv c.methods) (d:c.name.length≤Z7) (h:c.super.length≤Z7):U6 σ c [S c.name,S c.super,b, .bool c.iface, .bool c.abs, .bool c.fin,a,mv]:=
 ⟨b,a,mv,rfl,g,f,e,d,h⟩
end Go.Emb
namespace Go.Hm
def SmM (m:Hm.Met):Prop:=m.params.length≤1000000∧m.code.length≤1000000∧m.catches.length≤1000000
def P8 (c:Cla):Prop:=c.like.length≤1000000∧c.fields.length≤1000000∧c.methods.length≤1000000∧ ∀m∈c.methods,SmM m
end Go.Hm
namespace Go.Proofs.YtfppjenblllfaaaGreatDoor
open Go.Emb Go.RowKit Go.Kd Go.Hm
variable {w : World} {K : Value → World → Prop} {σ : Q4}
theorem Q2N {m:Hm.Met} {cs:List Value} (hs:X4 w σ) (hm:L2 σ m cs) (A:SmM m)
 (h: ∀pv o f w' σ',Stp w σ w' σ'→L2 σ' m [S m.name,pv,S m.result, .bool m.abs,I m.locals,o,f]→K (.agg [S m.name,pv,S m.result, .bool m.abs,I m.locals,o,f].toArray) w'):Q0 P F.bH [.agg cs.toArray] w K:=Q3z (by
 obtain ⟨pv,o,f,rfl,J,D,y,g4,g5,g6⟩:=hm
 obtain ⟨s1,s2,s3⟩:=A
 unfold Ib
 refine Pu hs fun b w1 σ1 d j a=>?_
 refine B5 j.sat fun b2 Y σ2 B g c=>?_
 have aa:=a.lt
 replace a:=a.step g
 have u:=g.sat
 have J:=(J.up j).up g
 have D:=(D.up j).up g
 have y:=(y.up j).up g
 have L: ∀{w':World} (i:Nat) (v:Value),[S m.name,pv,S m.result, .bool m.abs,I m.locals,o,f][i]? =some v→Hst Y σ2 w' σ2→w'.cell? ((⟨b,0,none⟩:Addr).add i)=some v:=fun i v f hh=>(a.step hh.stp).cell f
 refine U9 u ?_
 refine X2 (.pointer (some ((⟨b,0,none⟩:Addr).add 1))) (fun w d=>by rw[fa];exact X6 rfl) ?_
 refine X2 (.pointer (some ((⟨b,0,none⟩:Addr).add 5))) (fun w d=>by rw[fa];exact X6 rfl) ?_
 refine X2 (.pointer (some ((⟨b,0,none⟩:Addr).add 6))) (fun w d=>by rw[fa];exact X6 rfl) ?_
 refine X2 pv (fun t w d e=>by rw[e];exact Qg (L 1 pv rfl d) (X6 rfl)) ?_
 refine Ri (Φ:=fun σ' v=>Sl 1 X9 σ' v m.params) (fun t w d e=>by rw[e];exact Uz d.sat J s1 fun W w' σ' r f=>Q0Q d r f) ?_
 refine X2 o (fun t w d e=>by rw[e];exact Qg (L 5 o rfl d) (X6 rfl)) ?_
 refine Ri (Φ:=fun σ' v=>Sl 3 G3 σ' v m.code) (fun t w d e=>by rw[e];exact Od d.sat D s2 fun W w' σ' r f=>Q0Q d r f) ?_
 refine X2 f (fun t w d e=>by rw[e];exact Qg (L 6 f rfl d) (X6 rfl)) ?_
 refine X2 (.pointer (some ((⟨b,0,none⟩:Addr).add 1))) (fun w d=>by rw[fa];exact X6 rfl) ?_
 refine Ri (Φ:=fun σ' v=>Sl 4 Xf σ' v m.catches) (fun t w d e=>by rw[e];exact Of d.sat y s3 fun W w' σ' r f=>Q0Q d r f) ?_
 rintro t1 t2 t3 t4 t5 t6 t8 t9 af z w3 ao e1 e2 e3 e4 ⟨σ5,k5,s⟩ e6 ⟨σ8,k8,q⟩ e9 E ⟨Z,M,k⟩
 subst E
 obtain ⟨σa,ka,H,C⟩:=k5.join k8
 obtain ⟨X,N,V,l2⟩:=ka.join M
 have s:=(s.lift H).lift V
 have q:=(q.lift C).lift V
 have k:=k.lift l2
 have a:=a.step N
 have c:=c.step N
 have n:b2≠b:=by omega
 have l:=(j.trans g).trans N
 refine Mc a (by simp) (Xa s) (F7 s) fun w4 Q a=>?_
 rw[fa]
 have l:=Q.stp l d a.1
 have c:=c.upd Q n
 refine Mc a (by simp) (Xa q) (F7 q) fun w5 U a=>?_
 rw[fa]
 have l:=U.stp l d a.1
 have c:=c.upd U n
 refine Mc a (by simp) (Xa k) (F7 k) fun w6 R a=>?_
 have l:=R.stp l d a.1
 have c:=c.upd R n
 refine Q70 a rfl ?_
 have O:=L2.mk s q k g4 g5 g6
 have p:=Yt B j
 refine sta c rfl rfl (by rw[List.all_toArray];exact List.all_eq_true.2 (Rep.one O)) fun w7 u7 c=>?_
 have l:=u7.stp l p c.1
 refine W1 c rfl ?_
 exact h t5 t8 z w7 X l O)
theorem Q9F {c:Cla} {cs:List Value} (hs:X4 w σ) (hc:U6 σ c cs) (ai:P8 c)
 (h: ∀V U mv w' σ',Stp w σ w' σ'→U6 σ' c [S c.name,S c.super,V, .bool c.iface, .bool c.abs, .bool c.fin,U,mv]→K (.agg [S c.name,S c.super,V, .bool c.iface, .bool c.abs, .bool c.fin,U,mv].toArray) w'):Q0 P F.c9 [.agg cs.toArray] w K:=Q3t (by
 obtain ⟨V,U,mv,rfl,g1,g2,R,g4,g5⟩:=hc
 obtain ⟨s1,s2,s3,s4⟩:=ai
 unfold Ii
 refine Pu hs fun b w1 σ1 l r f=>?_
 refine B5 r.sat fun W w2 σ2 ak m g=>?_
 have be:=f.lt
 replace f:=f.step m
 have ah:=m.sat
 have g1:=(g1.up r).up m
 have g2:=(g2.up r).up m
 have R:=(R.up r).up m
 have L: ∀{w':World} (i:Nat) (v:Value),[S c.name,S c.super,V, .bool c.iface, .bool c.abs, .bool c.fin,U,mv][i]? =some v→Hst w2 σ2 w' σ2→w'.cell? ((⟨b,0,none⟩:Addr).add i)=some v:=fun i v X hh=>(f.step hh.stp).cell X
 refine U9 ah ?_
 refine X2 (.pointer (some ((⟨b,0,none⟩:Addr).add 2))) (fun w l=>by rw[fa];exact X6 rfl) ?_
 refine X2 (.pointer (some ((⟨b,0,none⟩:Addr).add 6))) (fun w l=>by rw[fa];exact X6 rfl) ?_
 refine X2 V (fun t w l e=>by rw[e];exact Qg (L 2 V rfl l) (X6 rfl)) ?_
 refine Ri (Φ:=fun σ' v=>Sl 1 X9 σ' v c.like) (fun t w l e=>by rw[e];exact Uz l.sat g1 s1 fun v' w' σ' E X=>Q0Q l E X) ?_
 refine X2 U (fun t w l e=>by rw[e];exact Qg (L 6 U rfl l) (X6 rfl)) ?_
 refine X2 (.pointer (some ((⟨b,0,none⟩:Addr).add 2))) (fun w l=>by rw[fa];exact X6 rfl) ?_
 refine Ri (Φ:=fun σ' v=>Sl 3 D6 σ' v c.fields) (fun t w l e=>by rw[e];exact Og l.sat g2 s2 fun v' w' σ' E X=>Q0Q l E X) ?_
 rintro t6 t9 t7 t8 bn bg Z w3 bs e6 e9 e7 ⟨σ8,k8,f8⟩ bl ap ⟨bc,av,y⟩
 subst ap
 obtain ⟨σ3,k3,l1,l2⟩:=k8.join av
 have f8:=f8.lift l1
 have y:=y.lift l2
 have R:=R.up k3
 have f:=f.step k3
 have g:=g.step k3
 have M:W≠b:=by omega
 have hS:=(r.trans m).trans k3
 refine Mc f (by simp) (Xa f8) (F7 f8) fun w4 u4 f=>?_
 rw[fa]
 have hS:=u4.stp hS l f.1
 have g:=g.upd u4 M
 refine Mc f (by simp) (Xa y) (F7 y) fun w5 u5 f=>?_
 rw[fa]
 have hS:=u5.stp hS l f.1
 have g:=g.upd u5 M
 refine Jk f rfl ?_
 refine Q9 R ?_
 refine O9 c.methods.length (fun n a w'=> ∃σ',Stp w σ w' σ'∧SLe σ3 σ'∧V0 w.heap.size T.b 7 L2 σ' w' a (c.methods.take n)∧Z5 σ' w' b [S c.name,S c.super,t8, .bool c.iface, .bool c.abs, .bool c.fin,Z,mv]∧Z5 σ' w' W [S [],S [], .slice none 0 0, .bool false, .bool false, .bool false, .slice none 0 0, .slice none 0 0]∧ ∀k,a.ownBlock=some k→k≠b∧k≠W)
  ⟨σ3,hS,SLe.refl _,V0.nil,f,g,fun k E=>by cases E⟩ fun n a w6 d hn hi=>?_
 obtain ⟨σ6,B,C,ha,f,g,j⟩:=hi
 refine Z0 ?_
 refine Q5 (fun hh=>?_) (fun hh=>?_)
 ·have z:n<c.methods.length:=by simpa using hh
  have ae:c.methods.length≤9223372036854775807:=by omega
  refine L7 (R.lift C) z fun p cs hl u hr=>?_
  refine Z1 B.sat hl u ?_
  refine Y6 B.sat (by rfl) u (Rep.one hr) fun q w7 σ7 o hq=>?_
  refine Z1 o.sat hq u ?_
  refine Q2N o.sat (Rep.up o.le hr) (s4 _ (List.getElem_mem z)) fun pv cv X w8 σ8 N ao=>?_
  have J:=(Nxt.of_stp (D:=fun k=>a.ownBlock=some k) o).trans (Nxt.of_stp N)
  have al:=(ha.up o).up N
  have ay:=(f.nx J fun e=>(j _ e).1 rfl).lt
  have a2:=(g.nx J fun e=>(j _ e).2 rfl).lt
  refine Uc ((B.trans o).trans N) al ao rfl rfl rfl (by rw[List.length_take];omega) (by rw[List.length_take];omega) fun s v' w9 σ9 A aj ar hat=>?_
  refine D7 ?_
  have A:=J.trans A
  refine Z6 ae z ⟨σ9,aj,C.more A.le,?_,f.nx A fun e=>(j _ e).1 rfl,g.nx A fun e=>(j _ e).2 rfl,?_⟩
  ·rw[List.take_add_one,List.getElem?_eq_getElem z];exact ar
  ·intro k E
   rcases hat with hat | hat
   ·exact j k (hat▸E)
   ·have:=hat k E
    constructor<;>omega
 ·have z: ¬n<c.methods.length:=by simpa using hh
  rw[List.take_of_length_le (by omega)] at ha
  obtain ⟨σ7,O,Q,ad,H⟩:=ha.keep B
  have f:Z5 σ7 w6 b _:=⟨(H b fun e=>(j b e.symm).1 rfl).trans f.1,f.2⟩
  have g:Z5 σ7 w6 W _:=⟨(H W fun e=>(j W e.symm).2 rfl).trans g.1,g.2⟩
  rw[fa]
  refine Mc f (by simp) (Xa Q) (F7 Q) fun w7 u7 f=>?_
  have O:=u7.stp O l f.1
  have g:=g.upd u7 M
  refine Q70 f rfl ?_
  have hr:=U6.mk (f8.lift (C.more ⟨ad⟩)) (y.lift (C.more ⟨ad⟩)) Q g4 g5
  have Y:=Yt ak r
  refine sta g rfl rfl (by rw[List.all_toArray];exact List.all_eq_true.2 (Rep.one hr)) fun w8 u8 g=>?_
  have aw:=u8.stp O Y g.1
  refine W1 g rfl ?_
  exact h t8 Z a w8 σ7 aw hr)
end Go.Proofs.YtfppjenblllfaaaGreatDoor

namespace Go.Hm
open Go.Kd
def H0 {α:Type}:Nat→List α→List α
 | 0,xs=>xs
 | i+1,xs=>match (H0 i xs)[i]?,(H0 i xs)[xs.length-1-i]? with
  | some a,some b=>((H0 i xs).set i b).set (xs.length-1-i) a
  | _,_=>H0 i xs
theorem Pw {α:Type} (xs:List α): ∀i,2*i≤xs.length→(H0 i xs).length=xs.length∧ ∀k,k<xs.length→(H0 i xs)[k]? =if k<i∨xs.length-1-k<i then xs[xs.length-1-k]? else xs[k]?
 | 0,_=>⟨rfl,fun k j=>by simp[H0]⟩
 | i+1,h=>by
  obtain ⟨m,e⟩:=Pw xs i (by omega)
  have f:=e i (by omega)
  have d:=e (xs.length-1-i) (by omega)
  rw[if_neg (by omega)] at f d
  have n:i<xs.length:=by omega
  have c:xs.length-1-i<xs.length:=by omega
  rw[List.getElem?_eq_getElem (l:=xs) n] at f
  rw[List.getElem?_eq_getElem (l:=xs) c] at d
  simp only[H0,f,d]
  refine ⟨by simp[m],fun k j=>?_⟩
  by_cases a:k=xs.length-1-i
  ·subst a
   rw[List.getElem?_set_self (by simp[m];omega),if_pos (by omega)]
   rw[show xs.length-1-(xs.length-1-i)=i by omega,List.getElem?_eq_getElem (by omega)]
  ·rw[List.getElem?_set_ne (by omega)]
   by_cases b:k=i
   ·subst b
    rw[List.getElem?_set_self (by omega),if_pos (by omega),List.getElem?_eq_getElem (by omega)]
   ·rw[List.getElem?_set_ne (by omega),e k j]
    by_cases g:k<i∨xs.length-1-k<i
    ·rw[if_pos g,if_pos (by omega)]
    ·rw[if_neg g,if_neg (by omega)]
theorem Q80 {α:Type} (xs:List α) (i:Nat) (d:2*i≤xs.length) (e:xs.length≤2*i+1):H0 i xs=xs.reverse:=by
 obtain ⟨f,c⟩:=Pw xs i d
 apply List.ext_getElem?
 intro k
 by_cases b:k<xs.length
 ·rw[c k b,List.getElem?_reverse b]
  by_cases a:k<i∨xs.length-1-k<i
  ·rw[if_pos a]
  ·rw[if_neg a];congr 1;omega
 ·rw[List.getElem?_eq_none (by omega),List.getElem?_eq_none (by simp;omega)]
theorem Fw (L:Up): ∀(f:Nat) (n:X0),(C3 L f n).length≤f
 | 0,_=>by simp[C3]
 | f+1,n=>by
  simp only[C3]
  split
  ·simp
  ·have:=Fw L f (by rename_i c _;exact c.super)
   simp only[List.length_cons];rename_i c _;have:=Fw L f c.super;omega
theorem Hx (l:List Cla) (n:X0):(chain l n).length≤l.length+1:=Fw _ _ _
theorem Ah {l:List Cla} {n:X0} {c:Cla} (h:c∈chain l n):c∈l:=by
 have key: ∀(f:Nat) (n:X0),c∈C3 (lk l) f n→c∈l:=by
  intro f
  induction f with
  | zero=>intro n h;simp[C3] at h
  | succ f b=>
   intro n h
   simp only[C3] at h
   split at h
   ·simp at h
   ·rename_i d a
    rcases List.mem_cons.1 h with rfl | h
    ·exact (U4 a).2.1
    ·exact b _ h
 exact key _ _ h
theorem Uf {α β:Type} (f:α→List β) (k:Nat): ∀(xs:List α),(∀x∈xs,(f x).length≤k)→(xs.flatMap f).length≤xs.length*k
 | [],_=>by simp
 | x::r,h=>by
  have c:=h x (by simp)
  have b:=Uf f k r fun y a=>h y (by simp[a])
  simp only[List.flatMap_cons,List.length_append,List.length_cons,Nat.add_mul];omega
end Go.Hm

namespace Go.Hm
open Go.Kd
def Y1 (l:List Cla) (i:Nat):X0:=(l.getD i Cla.zero).name
theorem Qo {l:List Cla} (b:G1 l) {i:Nat} (a:i<l.length):lk l (Y1 l i)=some (l.getD i Cla.zero):=by
 have e:l.getD i Cla.zero=l[i]:=by rw[List.getD_eq_getElem?_getD,List.getElem?_eq_getElem a];rfl
 unfold Y1
 rw[e];exact b.lk (List.getElem_mem a)
theorem R6 {l:List Cla} {u:X0} {j:Nat} (h:Y4 l u=some j):j<l.length∧Y1 l j=u:=by
 obtain ⟨a,b,_⟩:=List.findIdx?_eq_some_iff_getElem.1 h
 refine ⟨a,?_⟩
 unfold Y1
 rw[List.getD_eq_getElem?_getD,List.getElem?_eq_getElem a]
 simpa using b
theorem Q0b {l:List Cla} (d:Yg l) (f:G1 l) {i j:Nat} (g:i<l.length) {u:X0} (b:u∈J3 (l.getD i Cla.zero)) (a:Y4 l u=some j):F6 l (Y1 l j)<F6 l (Y1 l i):=by
 obtain ⟨c,e,_⟩:=Zr a
 rw[(R6 a).2]
 exact Xu d (Qo f g) b e
theorem Ry {α β:Type} {f g:β→α→β}: ∀(xs:List α) (b:β),(∀b x,x∈xs→f b x=g b x)→xs.foldl f b=xs.foldl g b
 | [],_,_=>rfl
 | x::r,b,h=>by
  rw[List.foldl_cons,List.foldl_cons,h b x (by simp)]
  exact Ry r _ fun b y a=>h b y (by simp[a])
theorem Qs {l:List Cla} {frm:Nat} (f:Nat) (a:List Nat) {i:Nat} (h:i<frm):Zk l frm f a i=a:=by
 cases f<;>simp[Zk,h]
theorem Q87 {l:List Cla} (o:Yg l) (p:G1 l) {frm:Nat} (d:0<frm): ∀(f g:Nat) (a:List Nat) (i:Nat),i<l.length→F6 l (Y1 l i)<f→F6 l (Y1 l i)<g→Zk l frm f a i=Zk l frm g a i:=by
 intro f
 induction f with
 | zero=>intro g a i _ h;omega
 | succ f n=>
  intro g a i e q r
  obtain ⟨g,rfl⟩: ∃m,g=m+1:=⟨g-1,by omega⟩
  simp only[Zk]
  split
  ·rfl
  ·split
   ·rfl
   ·congr 1
    refine Ry _ _ fun b u k=>?_
    cases c:Y4 l u with
    | none=>simp only[Option.getD_none];rw[Qs f b d,Qs g b d]
    | some j=>
     simp only[Option.getD_some]
     have:=Q0b o p e k c
     exact n g b j (R6 c).1 (by omega) (by omega)
def Qa (l:List Cla) (frm:Nat) (a:List Nat) (i:Nat):List Nat:=Zk l frm (l.length+1) a i
theorem Q64 {l:List Cla} (d:Yg l) (e:G1 l) {frm:Nat} (c:0<frm) (a:List Nat) {i:Nat} (h:i<l.length):Qa l frm a i=if i<frm then a else if i∈a then a else
 ((J3 (l.getD i Cla.zero)).foldl (fun a n=>Qa l frm a ((Y4 l n).getD 0)) a)++[i]:=by
 have k:=Az l (Y1 l i)
 unfold Qa
 rw[Zk]
 split
 ·rfl
 ·split
  ·rfl
  ·congr 1
   refine Ry _ _ fun b u g=>?_
   cases f:Y4 l u with
   | none=>simp only[Option.getD_none];rw[Qs _ b c,Qs _ b c]
   | some j=>
    simp only[Option.getD_some]
    have:=Q0b d e h g f
    exact Q87 d e c _ _ b j (R6 f).1 (by omega) (by omega)
theorem Uy {α:Type} {p:Nat→Prop} {f:List Nat→α→List Nat}: ∀(xs:List α) (b:List Nat),(∀b x,x∈xs→ ∀y∈f b x,y∈b∨p y)→ ∀y∈xs.foldl f b,y∈b∨p y
 | [],b,_=>fun y a=> .inl a
 | x::r,b,h=>fun y a=>by
  rw[List.foldl_cons] at a
  rcases Uy r _ (fun b z c=>h b z (by simp[c])) y a with h1 | h1
  ·exact h b x (by simp) y h1
  ·exact .inr h1
theorem Q58 {l:List Cla} (o:G1 l) {frm:Nat} (s:0<frm): ∀(f:Nat) (a:List Nat) (i:Nat),i<l.length→ ∀y∈Zk l frm f a i,y∈a∨(y<l.length∧(y=i∨Uo (lk l) (Y1 l i) (Y1 l y))):=by
 intro f
 induction f with
 | zero=>intro a i _ y hy;exact .inl hy
 | succ f r=>
  intro a i g y hy
  simp only[Zk] at hy
  split at hy
  ·exact .inl hy
  ·split at hy
   ·exact .inl hy
   ·rcases List.mem_append.1 hy with hy | hy
    ·refine Uy (p:=fun y=>y<l.length∧(y=i∨Uo (lk l) (Y1 l i) (Y1 l y))) _ _ (fun b u n y hy=>?_) y hy
     cases e:Y4 l u with
     | none=>
      rw[e] at hy
      simp only[Option.getD_none] at hy
      rw[Qs f b s] at hy
      exact .inl hy
     | some j=>
      rw[e] at hy
      simp only[Option.getD_some] at hy
      obtain ⟨k,d⟩:=R6 e
      obtain ⟨c,q,_⟩:=Zr e
      rcases r b j k y hy with h | ⟨m,rfl | h2⟩
      ·exact .inl h
      ·exact .inr ⟨m, .inr ⟨_,Qo o g,u,n,by rw[d];exact .refl q⟩⟩
      ·exact .inr ⟨m, .inr ⟨_,Qo o g,u,n,by rw[←d];exact h2.reach⟩⟩
    ·simp at hy;subst hy;exact .inr ⟨g, .inl rfl⟩
theorem Q1u {α:Type} {q:List Nat→Prop} {f:List Nat→α→List Nat}: ∀(xs:List α) (b:List Nat),(∀b x,x∈xs→q b→q (f b x))→q b→q (xs.foldl f b)
 | [],b,_,h=>h
 | x::r,b,a,h=>by
  rw[List.foldl_cons]
  exact Q1u r _ (fun b z c=>a b z (by simp[c])) (a b x (by simp) h)
def Pe (l:List Cla) (a:List Nat):Prop:=a.Nodup∧ ∀y∈a,y<l.length
theorem Pe.len {l:List Cla} {b:List Nat} (h:Pe l b):b.length≤l.length:=by
 have key: ∀(n:Nat) (b:List Nat),b.Nodup→(∀y∈b,y<n)→b.length≤n:=by
  intro n
  induction n with
  | zero=>
   intro b _ h
   cases b with
   | nil=>simp
   | cons a r=>have:=h a (by simp);omega
  | succ n k=>
   intro b f h
   have g:=k (b.filter (fun y=> !decide (y=n))) (f.sublist List.filter_sublist) (fun y c=>by
    have:=List.mem_filter.1 c
    have j:=h y this.1
    have o:y≠n:=by simpa using this.2
    omega)
   have j:b.length≤(b.filter (fun y=> !decide (y=n))).length+1:=by
    clear g h
    induction b with
    | nil=>simp
    | cons a r d=>
     obtain ⟨m,i⟩:=List.nodup_cons.1 f
     by_cases e:a=n
     ·subst e
      have:r.filter (fun y=> !decide (y=a))=r:=List.filter_eq_self.2 fun y c=>by simp;rintro rfl;exact m c
      simp[this]
     ·have:=d i
      simp[e];exact this
   omega
 exact key _ _ h.1 h.2
theorem Ff {l:List Cla} (s:Yg l) (v:G1 l) {frm:Nat} (w:0<frm): ∀(f:Nat) (d:List Nat) (i:Nat),i<l.length→Pe l d→Pe l (Zk l frm f d i):=by
 intro f
 induction f with
 | zero=>intro d i _ h;exact h
 | succ f C=>
  intro d i z h
  simp only[Zk]
  split
  ·exact h
  ·split
   ·exact h
   ·rename_i r
    have A:Pe l ((J3 (l.getD i Cla.zero)).foldl (fun d n=>Zk l frm f d ((Y4 l n).getD 0)) d):=by
     refine Q1u _ _ (fun b u q m=>?_) h
     cases e:Y4 l u with
     | none=>simp only[Option.getD_none];rw[Qs f b w];exact m
     | some j=>exact C b j (R6 e).1 m
    have o:i∉(J3 (l.getD i Cla.zero)).foldl (fun d n=>Zk l frm f d ((Y4 l n).getD 0)) d:=by
     intro g
     rcases Uy (p:=fun y=>Uo (lk l) (Y1 l i) (Y1 l y)) _ _ (fun b u q y hy=>by
      cases e:Y4 l u with
      | none=>
       rw[e] at hy
       simp only[Option.getD_none] at hy
       rw[Qs f b w] at hy
       exact .inl hy
      | some j=>
       rw[e] at hy
       simp only[Option.getD_some] at hy
       obtain ⟨t,k⟩:=R6 e
       obtain ⟨c,B,_⟩:=Zr e
       rcases Q58 v w f b j t y hy with h | ⟨h1,rfl | h2⟩
       ·exact .inl h
       ·exact .inr ⟨_,Qo v z,u,q,by rw[k];exact .refl B⟩
       ·exact .inr ⟨_,Qo v z,u,q,by rw[←k];exact h2.reach⟩) i g with h1 | h1
     ·exact r h1
     ·exact s _ h1
    refine ⟨?_,fun y hy=>?_⟩
    ·rw[List.nodup_append]
     exact ⟨A.1,by simp,by rintro a s b m rfl;simp at m;subst m;exact o s⟩
    ·rcases List.mem_append.1 hy with hy | hy
     ·exact A.2 y hy
     ·simp at hy;omega
end Go.Hm

namespace Go.Emb
open Go.RowKit Go.Hm
variable {P : Program} {w w0 w1 w' w'' : World} {K : Value → World → Prop} {σ σ0 σ1 σ' : Q4}
def elA (sz:Nat) (v:Value) (i:Nat):Addr:=match v with
 | .slice (some b) _ _=>b.add (i*sz)
 | _=>⟨0,0,none⟩
section
variable {α : Type} {R : Q4 → α → List Value → Prop} {sz : Nat} {v : Value} {xs : List α}
theorem Sl.el (h:Sl sz R σ v xs) {i:Nat} (k:i<xs.length): ∃cs,Z3 σ (elA sz v i) cs∧cs.length=sz∧R σ xs[i] cs:=by
 obtain ⟨a,e,rfl,m,l,c,j⟩:=h
 cases a with
 | none=>have:=c rfl;omega
 | some b=>
  obtain ⟨cs,f,g,d⟩:=(j b rfl).2 i xs[i] (by simp[k])
  exact ⟨cs,f,g,d⟩
theorem U1 {t e:TypeId} {by_:Nat} {z:Value} [TS P t e] [TZ P e sz by_ z] (h:Sl sz R σ v xs) {i:Nat} (l:i<xs.length) (f:K (.pointer (some (elA sz v i))) w):indexAddr P t v (I i) w K:=by
 obtain ⟨a,d,rfl,j,g,c,k⟩:=h
 cases a with
 | none=>have:=c rfl;omega
 | some b=>
  rw[Sq (by omega) (by omega)]
  simpa [elA] using f
theorem Sl.elS {xs:List Kd.X0} (h:Sl 1 X9 σ v xs) {i:Nat} (c:i<xs.length):Z3 σ (elA 1 v i) [S xs[i]]∧xs[i].length≤Z7:=by
 obtain ⟨cs,b,d,rfl,a⟩:=h.el c;exact ⟨b,a⟩
theorem Sl.elF {xs:List Fld} (h:Sl 3 D6 σ v xs) {i:Nat} (c:i<xs.length):Z3 σ (elA 3 v i) [S xs[i].name,S xs[i].kind, .bool xs[i].tr]∧D6 σ xs[i] [S xs[i].name,S xs[i].kind, .bool xs[i].tr]:=by
 obtain ⟨cs,b,d,rfl,a⟩:=h.el c;exact ⟨b,rfl,a⟩
theorem Sl.elI {xs:List Ins} (h:Sl 3 G3 σ v xs) {i:Nat} (c:i<xs.length):Z3 σ (elA 3 v i) [S xs[i].op,I xs[i].n,S xs[i].s]∧G3 σ xs[i] [S xs[i].op,I xs[i].n,S xs[i].s]:=by
 obtain ⟨cs,b,d,rfl,a⟩:=h.el c;exact ⟨b,rfl,a⟩
theorem Sl.elK {xs:List Cat} (h:Sl 4 Xf σ v xs) {i:Nat} (c:i<xs.length):Z3 σ (elA 4 v i) [I xs[i].frm,I xs[i].to,I xs[i].at_,S xs[i].cls]∧Xf σ xs[i] [I xs[i].frm,I xs[i].to,I xs[i].at_,S xs[i].cls]:=by
 obtain ⟨cs,b,d,rfl,a⟩:=h.el c;exact ⟨b,rfl,a⟩
theorem Sl.conv {α β:Type} {R:Q4→α→List Value→Prop} {g:Q4→β→List Value→Prop} {sz:Nat} {v:Value} {xs:List α} {ys:List β} (h:Sl sz R σ v xs) (j:ys.length=xs.length) (m: ∀i (e:i<xs.length) (t:i<ys.length) cs,R σ xs[i] cs→g σ ys[i] cs):Sl sz g σ v ys:=by
 obtain ⟨a,d,rfl,p,r,n,f⟩:=h
 refine ⟨a,d,by rw[j],by rw[j];exact p,r,n,fun b k=>⟨fun u=>(f b k).1 (by omega),fun i x o=>?_⟩⟩
 obtain ⟨e,rfl⟩:=List.getElem?_eq_some_iff.1 o
 have c:i<xs.length:=by omega
 obtain ⟨cs,q,s,l⟩:=(f b k).2 i xs[i] (List.getElem?_eq_getElem c)
 exact ⟨cs,q,s,m i c e cs l⟩
theorem Sl.elM {xs:List Hm.Met} (h:Sl 7 L2 σ v xs) {i:Nat} (e:i<xs.length): ∃pv a b,Z3 σ (elA 7 v i) [S xs[i].name,pv,S xs[i].result, .bool xs[i].abs,I xs[i].locals,a,b]∧L2 σ xs[i] [S xs[i].name,pv,S xs[i].result, .bool xs[i].abs,I xs[i].locals,a,b]:=by
 obtain ⟨cs,d,f,pv,a,b,rfl,c⟩:=h.el e;exact ⟨pv,a,b,d,pv,a,b,rfl,c⟩
theorem Sl.elC {xs:List Cla} (h:Sl 8 U6 σ v xs) {i:Nat} (e:i<xs.length): ∃b a mv,Z3 σ (elA 8 v i) [S xs[i].name,S xs[i].super,b, .bool xs[i].iface, .bool xs[i].abs, .bool xs[i].fin,a,mv]∧U6 σ xs[i] [S xs[i].name,S xs[i].super,b, .bool xs[i].iface, .bool xs[i].abs, .bool xs[i].fin,a,mv]:=by
 obtain ⟨cs,d,f,b,a,mv,rfl,c⟩:=h.el e;exact ⟨b,a,mv,d,b,a,mv,rfl,c⟩
end
theorem J4 {c:World→World→Prop} {A a:(Value→World→Prop)→Prop} {V:Value} (h:A (fun v _=>V=v)) (b:a (fun v _=>V=v)):Q6 c A a:=W5 _ (fun _ _ _ h _=>h) h b
theorem W8 {v V:Value} (h:V=v):dk (fun w w'=>Below w.heap.size w w') (fun v _=>V=v) w v w:=⟨Below.refl _ _,h⟩
theorem Xo {v V:Value} (a:Below w.heap.size w w') (h:V=v):dk (fun w w'=>Below w.heap.size w w') (fun v _=>V=v) w v w':=⟨a,h⟩
theorem Wu {c b:Bool} {V:Value} {a:World→(Value→World→Prop)→Prop} (h:c=b→a w (dk (fun w w'=>Below w.heap.size w w') (fun v _=>V=v) w)):Q1 (.bool c) b w a (dk (fun w w'=>Below w.heap.size w w') (fun v _=>(if c=b then V else undef)=v) w):=by
 by_cases e:c=b
 ·simp only[e,if_true]
  subst e
  have:=h rfl
  cases c
  ·rw[Vg];exact this
  ·rw[G7];exact this
 ·have d:c= !b:=by cases c<;>cases b<;>simp_all
  rw[if_neg e];subst d
  cases b
  ·rw[Bool.not_false,Td];exact ⟨Below.refl _ _,rfl⟩
  ·rw[Bool.not_true,Jx];exact ⟨Below.refl _ _,rfl⟩
theorem Qp {p:Prop} (hq:p:=by intros;(repeat (rename_i hx;subst hx));(repeat' (first | (with_reducible exact W8 rfl) | (with_reducible exact Xo (Stp.bel (by (repeat (first | exact Stp.refl (by (first | assumption | exact Stp.sat (by assumption) | exact Hst.sat (by assumption))) | assumption | refine Stp.trans ?_ (by first | assumption | exact Hst.stp (by assumption)))))) rfl) | (with_reducible intro _) | (simp only[↓M2,M2,Mb,reduceIte]) | (with_reducible show Q2 _ _ _ _ _;first | refine X8 aS aL aR ?_ | refine Z1 aS aL aR ?_ | refine ld aS aL aR ?_) | (with_reducible show indexAddr _ _ _ _ _ _;refine U1 aL au ?_) | (with_reducible show X5 _ _ _ _ _ _ _ _;refine Q9 aL ?_) | (with_reducible show Lq _ _ _ _ _ _;refine V1 aR ?_) | (with_reducible show pick _ _ _ _ _ _;refine Jr ?_) | (apply Wu;intro hh;(try simp only[hh,reduceIte,↓M2,M2,Mb,reduceIte]))));done):p:=hq
end Go.Emb

namespace Go.Emb
open Go.RowKit Go.Hm
variable {P : Program} {w w0 w1 w' w'' : World} {K : Value → World → Prop} {σ σ0 σ1 σ' : Q4}
section
variable {α : Type} {R : Q4 → α → List Value → Prop} {B sz : Nat} {e : TypeId} {v u : Value} {xs ys : List α}
def Emp (v:Value):Prop:= ∃a,v= .slice a 0 0
theorem X0C {t q:TypeId} {by_:Nat} {z:Value} {cs:List Bool} [ts:TS P t e] [tz:TZ P e sz by_ z] [hr:Rep R] (W:Stp w0 σ0 w σ) (ha:V0 w0.heap.size e sz R σ w v []) (hv:Emp v) (C:X4 w σ') (U:Sl sz R σ' u ys) (hR: ∀x cs,R σ' x cs→R σ x cs) (V:(z.cells.size==sz&&decide (0<sz))=true)
 (hb:ys.length*by_≤140737488355328) (hm:ys.length≤1000000000000)
 (h: ∀l w',Stp w σ w' σ→V0 w0.heap.size e sz R σ w' l ys→K l w'):X5 P .append [t,t] q cs [v,u] w K:=by
 obtain ⟨j,rfl⟩:=hv
 have D:=W.sat
 obtain ⟨a,d,c,rfl,n1,s,n3,n4,n5⟩:=U.cells C
 obtain ⟨i,Q,E,J,n⟩:=tz.info
 simp only[Bool.and_eq_true,beq_iff_eq,decide_eq_true_eq] at V
 obtain ⟨M,al⟩:=V
 have g:Src P i.size t (.slice a ys.length d) ys.length c w:=by
  cases a with
  | some b=>exact Src.ofSlice w ts.h b ys.length d c (by rw[E];exact s) (n3 b rfl) n4
  | none=>
   have p:ys.length=0:=by
    obtain ⟨Y,aa,e',q1,_,q3,_⟩:=U;injection e' with e1 e2 e3;have:=n1 rfl;omega
   have N:c=[]:=List.eq_nil_of_length_eq_zero (by rw[s,p];simp)
   subst N
   rw[p];exact Src.ofNil w ts.h d
 have r: ∀l w',(Builtin.append_ #[t,t] q #[.slice j 0 0, .slice a ys.length d]).run P w= .ok l w'→Stp w σ w' σ→V0 w0.heap.size e sz R σ w' l ys→X5 P .append [t,t] q cs [.slice j 0 0, .slice a ys.length d] w K:=by
  intro l w' f H hq
  have o:(builtin .append #[t,t] q cs.toArray #[.slice j 0 0, .slice a ys.length d]).run P w= .ok (.value l) w':=by
   simp[builtin,f]
  unfold X5
  rw[K9];unfold I2
  rw[o]
  exact h l w' H hq
 by_cases p:ys=[]
 ·subst p
  have N:c=[]:=List.eq_nil_of_length_eq_zero (by simpa using s)
  subst N
  refine r (.slice j 0 0) w ?_ (Stp.refl D) ha
  have X:=g.len w
  have y:=g.cells
  simp only[List.length_nil] at X y⊢
  cases j<;>simp[Builtin.append_,run_underlying ts.h,sizeOf,typeInfo,Q,X,y,storeCells]
 ·have am:0<ys.length:=List.length_pos_iff.2 p
  have m:(Builtin.firstCells i.size 0 (.slice j 0 0)).run P w.drew= .ok (#[]:Array Value) w.drew:=by
   cases j with
   | none=>exact run_firstCells_none w.drew i.size 0 0 0
   | some Y=>exact run_firstCells_some w.drew i.size 0 Y 0 0 [] (by simp) (by intro _ _ h';simp at h')
  have Z:0<0+ys.length:=by omega
  have f:=run_append_grow_src (P:=P) w t t q e i z ts.h Q n j 0 0 [] m (.slice a ys.length d) ys.length c g Z (by omega) (growslice_fits Z (by rw[J,Nat.zero_add];exact hb))
  simp only[Nat.zero_add] at f
  have L:=grownCap_le_maxLen w ys.length 0 e (by simp only[maxLen];omega)
  have O:=grownCap_ge w ys.length 0 e
  refine r _ _ f (Stp.of_below D ((Below.refl _ _).drew.alloc (Nat.le_refl _) _)) ⟨c,⟨s, .inr ⟨w.heap.size,_,_,rfl,W.bel.size,heap_alloc_new w.drew _,O,L,?_,?_⟩⟩,?_,fun i x hx=>hR _ _ (n5 i x hx)⟩
  ·simp only[List.nil_append]
   rw[Array.size_append,List.size_toArray,s,size_zeroCells,M,←Nat.add_mul]
   congr 1;omega
  ·simp only[List.nil_append]
   rw[Array.toList_append]
   rw[List.take_append_of_le_length (by simp only[List.toList_toArray];omega),List.take_of_length_le (by simp only[List.toList_toArray];omega)]
  ·intro k H;cases H;exact D.none (Nat.le_refl _)
end
def Q95 {α:Type} (w0:World) (σ:Q4) (e:TypeId) (sz:Nat) (R:Q4→α→List Value→Prop) (xs:List α) (v:Value) (w':World):Prop:=Stp w0 σ w' σ∧V0 w0.heap.size e sz R σ w' v xs
def Q73 {α:Type} (w0:World) (σ:Q4) (e:TypeId) (sz:Nat) (R:Q4→α→List Value→Prop) (v:Value) (w':World):Prop:=Stp w0 σ w' σ∧V0 w0.heap.size e sz R σ w' v ([]:List α)∧Emp v
section
variable {α : Type} {R : Q4 → α → List Value → Prop} {sz : Nat} {e : TypeId} {v u : Value} {xs ys : List α} {A rest : (Value → World → Prop) → Prop}
theorem Q2k [Rep R] (xs:List α) (h:A (Q95 w σ e sz R xs)) (c:rest (Q95 w σ e sz R xs)):Q6 (fun w w'=>Below w.heap.size w w') A rest:=
 W5 _ (fun _ _ _ ⟨a,d⟩ b=>⟨a.trans (Stp.of_below a.sat b),d.up (Stp.of_below a.sat b)⟩) h c
theorem X0M [Rep R] (h:A (Q73 w σ e sz R)) (d:rest (Q73 w σ e sz R)):Q6 (fun w w'=>Below w.heap.size w w') A rest:=
 W5 _ (fun _ _ _ ⟨a,f,c⟩ b=>⟨a.trans (Stp.of_below a.sat b),f.up (Stp.of_below a.sat b),c⟩) h d
theorem Q4y (b:Hst w σ w1 σ) (h:Stp w1 σ w' σ) (a:V0 w.heap.size e sz R σ w' v xs):dk (fun w w'=>Below w.heap.size w w') (Q95 w σ e sz R xs) w1 v w':=⟨h.bel,b.stp.trans h,a⟩
theorem X1k (c:Hst w σ w1 σ) (h:Stp w1 σ w' σ) (a:V0 w.heap.size e sz R σ w' v ([]:List α)) (b:Emp v):dk (fun w w'=>Below w.heap.size w w') (Q73 w σ e sz R) w1 v w':=⟨h.bel,c.stp.trans h,a,b⟩
theorem Ae {t:TypeId} {by_:Nat} {z:Value} [ts:TS P t e] [tz:TZ P e sz by_ z] (R:Q4→α→List Value→Prop) (a:Stp w0 σ0 w σ) (g:0<sz)
 (h: ∀v w',Stp w σ w' σ→V0 w0.heap.size e sz R σ w' v ([]:List α)→Emp v→K v w'):buildSlice P t 0 [] w K:=by
 obtain ⟨cells,d,c⟩:=Oq (P:=P) (t:=t) (sz:=sz) (e:=e) [] (by simp) (by simp) w
 unfold buildSlice
 have b:(Instr.buildSlice t 0 ([]:List (Nat×Value)).toArray).run P w=_:=d
 rw[Y0 b]
 refine h _ _ (Stp.own a.sat _) ⟨[],⟨by simp, .inr ⟨_,_,cells,rfl,a.bel.size,heap_alloc_new w _,by simp,by simp[maxLen],?_,by simp⟩⟩,?_,by simp⟩ ⟨_,rfl⟩
 ·have:cells.size=0:=by rw[←Array.length_toList,c];rfl
  simp[this]
 ·intro k f;cases f;exact a.sat.none (Nat.le_refl _)
theorem Q7t [Rep R] {t:TypeId} {by_:Nat} {z:Value} [ts:TS P t e] [tz:TZ P e sz by_ z] (a:(decide (0<sz))=true) (d:rest (Q73 w σ e sz R)):
 Q6 (fun w w'=>Below w.heap.size w w') (fun φ=> ∀w1:World,Hst w σ w1 σ→buildSlice P t 0 [] w1 (dk (fun w w'=>Below w.heap.size w w') φ w1)) rest:=
 X0M (fun w1 b=>Ae R b.stp (by simpa using a) fun v w' f c g=>X1k b f c g) d
end
theorem U6.parts {c:Cla} {a b i d e f g mv:Value} (h:U6 σ c [a,b,i,d,e,f,g,mv]):Sl 1 X9 σ i c.like∧Sl 3 D6 σ g c.fields∧Sl 7 L2 σ mv c.methods∧c.name.length≤Z7∧c.super.length≤Z7:=by
 obtain ⟨_,_,_,j,k⟩:=h
 simp only[List.cons.injEq,and_true] at j
 obtain ⟨_,_,rfl,_,_,_,rfl,rfl⟩:=j
 exact k
theorem L2.parts {m:Hm.Met} {a pv b d e c g:Value} (h:L2 σ m [a,pv,b,d,e,c,g]):Sl 1 X9 σ pv m.params∧Sl 3 G3 σ c m.code∧Sl 4 Xf σ g m.catches∧m.name.length≤Z7∧m.result.length≤Z7∧Tz m.locals:=by
 obtain ⟨_,_,_,f,i⟩:=h
 simp only[List.cons.injEq,and_true] at f
 obtain ⟨_,rfl,_,_,_,rfl,rfl⟩:=f
 exact i
end Go.Emb

namespace Go.Emb
open Go.RowKit
variable {P : Program} {w : World} {K : Value → World → Prop}
end Go.Emb
namespace Go.Proofs.YtfppjenblllfaaaGreatDoor
open Go.Emb Go.RowKit Go.Kd Go.Hm
variable {w : World} {K : Value → World → Prop} {σ : Q4}
end Go.Proofs.YtfppjenblllfaaaGreatDoor

namespace Go.Proofs.YtfppjenblllfaaaGreatDoor
open Go.Emb Go.RowKit Go.Kd
variable {w : World} {K : Value → World → Prop}
theorem X0D {a:List UInt8} (h:D3 a=true):Kd.cutA a++[91,93]=a:=by
 simp only[D3,Bool.and_eq_true,decide_eq_true_eq] at h
 rw[←h.2,Kd.cutA,List.take_append_drop]
theorem Q0h {a:List UInt8} (h:name a=true):D3 a=false:=by
 cases a with
 | nil=>rfl
 | cons c r=>
  cases d:D3 (c::r) with
  | false=>rfl
  | true=>
   exfalso
   simp only[name,Bool.and_eq_true,List.all_eq_true] at h
   have b:=X0D d
   have:(93:UInt8)∈(c::r):=by rw[←b];simp
   have:=h.2 _ this
   revert this;decide
theorem Q8R {a:List UInt8} (h:name a=true):base a=(a,0):=by rw[Zv,Q0h h];simp
theorem clas_name {a:List UInt8} (h:W2 a=true):name a=true∧right a=true∧plain a=false:=by
 cases a with
 | nil=>simp[W2] at h
 | cons c r=>
  have b:name (c::r)=true:=by simp only[W2,Bool.and_eq_true] at h;exact h.1
  refine ⟨b,?_,?_⟩
  ·rw[right,Q8R b];simp[h]
  ·simp only[W2,Bool.and_eq_true] at h
   have f:=h.2
   simp only[plain,Bool.or_eq_false_iff,decide_eq_false_iff_not]
   refine ⟨⟨?_,?_⟩,?_⟩<;>intro e<;>injection e with d e2<;>subst d<;>revert f<;>decide
end Go.Proofs.YtfppjenblllfaaaGreatDoor

namespace Go.Emb
open Go.RowKit Go.Hm
section
variable {P : Program} {w w0 w1 w' w'' : World} {K : Value → World → Prop} {σ σ0 σ1 σ' : Q4}
theorem Q3u (a:Array Value) (n i:Nat) (g:i<n) (h:0<a.size):((madeCells a (n*a.size)).toList.drop (i*a.size)).take a.size=a.toList:=by
 have d:i*a.size+a.size≤n*a.size:=by rw[←Nat.succ_mul];exact Nat.mul_le_mul_right _ g
 refine List.ext_getElem (by simp[madeCells];omega) fun j k f=>?_
 have c:j<a.size:=by simpa using f
 simp only[List.getElem_take,List.getElem_drop,madeCells,Array.toList_map,List.getElem_map,Array.toList_range,List.getElem_range,Array.getElem_toList]
 have:(i*a.size+j) % a.size=j:=by rw[Nat.add_comm,Nat.add_mul_mod_self_right];exact Nat.mod_eq_of_lt c
 rw[this]
 simp[c]
theorem X26 {α:Type} {R:Q4→α→List Value→Prop} {t e:TypeId} {sz by_ n:Nat} {z:Value} [ts:TS P t e] [tz:TZ P e sz by_ z] (m:α) (r:X4 w σ) (E:z.cells.size=sz) (c:0<sz) (C:R σ m z.cells.toList) (J:n*sz≤16777216) (H:by_*n≤281474976710656)
 (h: ∀v w',Stp w σ w' σ→V0 w.heap.size e sz R σ w' v (List.replicate n m)→(∀k,v.ownBlock=some k→w.heap.size≤k)→K v w'):Na P t (I n) (I n) w K:=by
 obtain ⟨i,A,d,o,a⟩:=tz.info
 have q:(i.bytes:Int)*(n:Int)≤281474976710656:=by
  rw[o]
  have:((by_*n:Nat):Int)≤281474976710656:=by omega
  rwa [Int.natCast_mul] at this
 have D:n≤16777216:=by
  have:n*1≤n*sz:=Nat.mul_le_mul_left _ c
  omega
 have p:=run_makeSlice (P:=P) w t e i z ts.h A a .i64 .i64 (n:Int) (n:Int) (by omega) (Int.le_refl _) (by rw[d];simp only[Int.toNat_natCast];omega) q (by omega)
 unfold Na
 rw[Y0 p]
 simp only[Int.toNat_natCast,d]
 refine h _ _ (Stp.own r _) ⟨(madeCells z.cells (n*sz)).toList,⟨by simp[madeCells], .inr ⟨w.heap.size,n,madeCells z.cells (n*sz),?_,Nat.le_refl _,heap_alloc_new w _,?_,?_,?_,?_⟩⟩,?_,fun j x f=>?_⟩ ?_
 ·simp
 ·simp
 ·simp[maxLen];omega
 ·simp[madeCells]
 ·rw[List.take_of_length_le (by simp[madeCells])]
 ·intro k l;cases l;exact r.none (Nat.le_refl _)
 ·have s:j<n:=by have:=(List.getElem?_eq_some_iff.1 f).1;simpa using this
  have g:x=m:=by
   rw[List.getElem?_replicate] at f
   rw[if_pos s] at f
   exact (Option.some.inj f).symm
  subst g
  subst E
  rw[Q3u z.cells n j s c]
  exact C
 ·intro k l;cases l;exact Nat.le_refl _
end
section
variable {α : Type} {R : Q4 → α → List Value → Prop} {B sz : Nat} {e : TypeId} {v u : Value} {xs : List α} {w w' w0 : World} {σ σ' σ0 : Q4}
theorem U0.shiftR [hr:Rep R] (h:U0 B e sz R σ w v xs) (D:SLe σ σ') (m: ∀k,v.ownBlock=some k→σ' k=none):U0 B e sz R σ' w v xs:=by
 obtain ⟨a,j,rfl,q,t,c,C⟩:=h
 refine ⟨a,j,rfl,q,t,fun b d=>⟨(c b d).1,(c b d).2.1,(c b d).2.2.1,by subst d;exact m _ rfl⟩,fun p=>?_⟩
 obtain ⟨g,f,l,rfl,o,E,z,A,r⟩:=C p
 exact ⟨g,f,l,rfl,o,m g rfl,z,A,fun i x s=>hr.up D.le (r i x s)⟩
def Q9T (w:World):World:={w with heap:= #[]}
theorem Q9t (d:X4 w σ):Stp (Q9T w) (fun _=>none) w σ:=
 ⟨⟨rfl,rfl,rfl,Nat.zero_le _,fun k a=>absurd a (Nat.not_lt_zero k)⟩,d,fun _ _ h=>(by cases h),fun b c=>absurd c (Nat.not_lt_zero b)⟩
theorem U0.freeze [hr:Rep R] (g:X4 w σ) (h:U0 B e sz R σ w v xs): ∃σ',X4 w σ'∧SLe σ σ'∧Sl sz R σ' v xs∧ ∀k,some k≠v.ownBlock→σ' k=σ k:=by
 obtain ⟨σ',f,d,c,a⟩:=(h.mono (Nat.zero_le B):U0 (Q9T w).heap.size e sz R σ w v xs).keep (Q9t g)
 exact ⟨σ',f.sat,c,d,a⟩
end
section
variable {P : Program} {w w0 w1 w' w'' : World} {K : Value → World → Prop} {σ σ0 σ1 σ' : Q4}
theorem Z3.tail {q:Addr} {xs ys:List Value} (h:Z3 σ q (xs++ys)):Z3 σ (q.add xs.length) ys:=by
 obtain ⟨g,a,e,z,f,d⟩:=h
 cases xs with
 | nil=>exact ⟨by simp[Addr.add,g],a,e,z,by simpa [Addr.add] using f,fun i u c=>by simpa [Addr.add] using d i u c⟩
 | cons x xs=>
  refine ⟨by simp[Addr.add,g],a,e,z,by simpa [Addr.add] using f,fun i u c=>?_⟩
  have:=d ((x::xs).length+i) u (by rw[List.getElem?_append_right (by omega)];simpa using c)
  simpa [Addr.add,Nat.add_assoc] using this
theorem U0.down {α:Type} {R:Q4→α→List Value→Prop} {B sz:Nat} {e:TypeId} {v:Value} {xs:List α} (h:U0 B e sz R σ' w v xs) (L:SLe σ σ') (r: ∀x cs,R σ' x cs→R σ x cs):U0 B e sz R σ w v xs:=by
 obtain ⟨a,j,rfl,s,A,c,J⟩:=h
 have m: ∀k,σ' k=none→σ k=none:=fun k D=>by
  cases e:σ k with
  | none=>rfl
  | some o=>have:=L.le k o e;rw[D] at this;cases this
 refine ⟨a,j,rfl,s,A,fun b d=>⟨(c b d).1,(c b d).2.1,(c b d).2.2.1,m _ (c b d).2.2.2⟩,fun q=>?_⟩
 obtain ⟨g,f,l,rfl,p,E,C,H,t⟩:=J q
 exact ⟨g,f,l,rfl,p,m _ E,C,H,fun i x z=>r _ _ (t i x z)⟩
end
section
variable {P : Program} {w w' w0 : World} {σ σ0 : Q4} {α : Type} {R : Q4 → α → List Value → Prop} {sz : Nat} {e : TypeId} {v u : Value} {xs : List α} {y : α}
end
end Go.Emb
namespace Go.Emb
open Go.RowKit Go.Hm
variable {P : Program} {w w0 w1 w' w'' : World} {K : Value → World → Prop} {σ σ0 σ1 σ' : Q4} {b n : Nat} {ds : List Value} {v V : Value}
structure VarT (b : Nat) (ds : List Value) (w w' : World) : Prop where
  kp : Kpt (fun j => j = b) w w'
  var : (b < w.heap.size → w'.heap[b]? = w.heap[b]?) ∨ ∃ e, w'.heap[b]? = some (.cells ds.toArray e (0, 0))
structure VarB (w0 : World) (σ0 : Q4) (w1 : World) (σ : Q4) (b n : Nat) (w' : World) : Prop where
  hst : Hst w0 σ0 w' σ
  kp : Kpt (fun j => j = b) w1 w'
  var : ∃ cs, cs.length = n ∧ Z5 σ w' b cs
theorem VarT.of_below (h:Below w.heap.size w w'):VarT b ds w w':=⟨.of_below h, .inl fun a=>h.block b a⟩
theorem VarT.of_upd (h:Upd w b w') (a:Z5 σ w' b ds):VarT b ds w w':=⟨.of_upd h rfl, .inr a.2⟩
theorem VarB.step (f:w0.heap.size≤b) (g:ds.length=n) (h:VarB w0 σ0 w1 σ b n w) (k:VarT b ds w w'):VarB w0 σ0 w1 σ b n w':=by
 obtain ⟨cs,d,a⟩:=h.var
 refine ⟨⟨h.hst.stp.kp k.kp fun j c=>by subst c;exact ⟨f,a.1⟩⟩,h.kp.trans k.kp,?_⟩
 rcases k.var with e | e
 ·exact ⟨cs,d,a.1,by rw[e a.lt];exact a.2⟩
 ·exact ⟨ds,g,a.1,e⟩
theorem X24 {A:(World→World→Prop)→(World→Prop)→Prop} (ds:List Value) {cs:List Value} (a:Stp w0 σ0 w σ) (g:w0.heap.size≤b) (d:Z5 σ w b cs) (i:cs.length=n) (j:ds.length=n)
 (h:A (VarT b ds) (VarB w0 σ0 w σ b n)):dr w A:=
 Q00 _ _ ⟨⟨a.trans (Stp.of_below a.sat (Below.refl _ _).drew)⟩, .of_below (Below.refl _ _).drew,cs,i,d⟩ (fun _ _ f c=>f.step g j c) h
theorem Bv (h:V=v):dk (VarT b ds) (fun v _=>V=v) w v w:=⟨.of_below (Below.refl _ _),h⟩
theorem Q9G {t:TypeId} {by_:Nat} {z:Value} [tz:TZ P t n by_ z] {a:(List Value→Value→World→Prop)→Prop} {φ:Value→World→Prop} (p:ds.length=n) (f: ∀u∈ds,u.oneCell'=true) (l: ∀v w,φ v w→ .agg ds.toArray=v)
 (j:a (fun _ _ w=>Z5 σ w b ds)) (c:σ b=none):Q1c (VarT b ds) (fun F=> ∀x w,VarB w0 σ0 w1 σ b n w→φ x w→Z2 P t (.pointer (some ⟨b,0,none⟩)) x w (dk (VarT b ds) (F [x]) w)) a:=by
 refine Q6t _ (fun xs v w w' h k=>?_) (fun x w q i=>?_) j
 ·rcases k.var with e | e
  ·exact ⟨c,by rw[e h.lt];exact h.2⟩
  ·exact ⟨c,e⟩
 ·have:=l x w i
  subst this
  obtain ⟨cs,m,o⟩:=q.var
  exact sta o m p (by rw[List.all_toArray];exact List.all_eq_true.2 f) fun w' g d=>⟨.of_upd g d,d⟩
theorem VarB.hs (h:VarB w0 σ0 w1 σ b n w):Hst w0 σ0 w σ:=h.hst
end Go.Emb

namespace Go.Emb
open Go.RowKit Go.Hm
variable {P : Program} {w w' : World} {K : Value → World → Prop} {σ σ' : Q4}
theorem X2f {c:List TypeId} {t:TypeId} {cs:List Bool} {k:IntKind} {a b:Int} (h:K (.int k (max a b)) w):X5 P .max c t cs [.int k a, .int k b] w K:=by
 have d:(builtin .max c.toArray t cs.toArray #[.int k a, .int k b]).run P w= .ok (.value (.int k (max a b))) w:=by
  have:=run_max_int2 (P:=P) (w:=w) c.toArray t k k a b
  have e:(if b>a then b else a)=max a b:=by split<;>omega
  rw[e] at this
  simp[builtin,this]
 unfold X5
 rw[K9];unfold I2
 rw[d];exact h
theorem X06 {c:List TypeId} {t:TypeId} {cs:List Bool} {k:IntKind} {a b:Int} (h:K (.int k (min a b)) w):X5 P .min c t cs [.int k a, .int k b] w K:=by
 have d:(builtin .min c.toArray t cs.toArray #[.int k a, .int k b]).run P w= .ok (.value (.int k (min a b))) w:=by
  have:=run_min_int2 (P:=P) (w:=w) c.toArray t k k a b
  have e:(if b<a then b else a)=min a b:=by split<;>omega
  rw[e] at this
  simp[builtin,this]
 unfold X5
 rw[K9];unfold I2
 rw[d];exact h
end Go.Emb
