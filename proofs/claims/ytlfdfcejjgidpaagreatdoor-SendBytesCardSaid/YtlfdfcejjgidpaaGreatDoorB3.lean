/- Parts of a proof about the given program: its functions as texts of their own, what each computes, plain laws of that. The conditions of each stand in its statement. -/
import Derived.Test.YtlfdfcejjgidpaaGreatDoorB2
import Derived.Deep.AppendSrc
import Derived.Laws.OwnMore
import Derived.Laws.CopyRow
import Derived.Laws.StructEq
import Derived.Test.YtlfdfcejjgidpaaGreatDoorB1
set_option linter.unnecessarySimpa false
set_option linter.defProp false
set_option linter.unusedSectionVars false
set_option linter.unusedVariables false
set_option linter.unusedSimpArgs false
namespace Go.Emb
def W1 {α β:Type} (a:β->α->Bool×β):β->List α->Nat->Option Nat×β
 | s,[],_=>(none,s)
 | s,x::xs,i=>if (a s x).1 then (some i,(a s x).2) else W1 a (a s x).2 xs (i+1)
def E1 (o:Option Nat):Int:=match o with | some i=>i | none=> -1
theorem Xc {α:Type} (p:α->Bool): ∀(xs:List α) (i:Nat),(W1 (fun (_:Unit) x=>(p x,())) () xs i).1=(xs.findIdx? p).map (· +i):=by
 intro xs
 induction xs with
 | nil=>intro i;rfl
 | cons x r ih=>
  intro i;rw[List.findIdx?_cons];simp only[W1];cases p x with
  | true=>simp
  | false=>
   simp only[Bool.false_eq_true,if_false];rw[ih (i+1),Option.map_map]
   congr 1;funext n;simp only[Function.comp];omega
theorem Be {α β:Type} (a:β->α->Bool×β) (s:β) (xs:List α) (i:Nat):decide ((0:Int)<=E1 (W1 a s xs i).1)=(W1 a s xs i).1.isSome:=by
 cases (W1 a s xs i).1<;>simp[E1]
end Go.Emb
namespace Go.Proofs.Y
open Go.Emb Go.RowKit Go.Kd Go.Hm
variable {w : World} {K : Value -> World -> Prop} {σ : Q2}
theorem Ow {β:Type} {xs:List Hm.Met} {v f:Value} (b:β->Hm.Met->Bool×β) (m:β) (a:β->World->Prop) (D:Nat->Prop) (l: ∀s w,a s w->X3 w σ) (y:a m w) (u:Sl 7 F9 σ v xs)
 (z: ∀s x cs (w1:World) (K:Value->World->Prop),x∈xs->Kpt D w w1->a s w1->F9 σ x cs->cs.length=7->(∀w',Kpt D w w'->a (b s x).2 w'->K (.bool (b s x).1) w')->J6 P f [.agg cs.toArray] w1 K)
 (h: ∀w',Kpt D w w'->a (W1 b m xs 0).2 w'->K (I (E1 (W1 b m xs 0).1)) w'):Q0 P F.i [v,f] w K:=Uj (by
 unfold Qc J3 V1 X4 X1
 ((try simp only[↓M1,M1,Mb,reduceIte]);repeat ((first | refine ld Q8 Q8 rfl ?_ | refine Y6 Q8 Q8 rfl ?_ | refine Q6 Q8 ?_);(try simp only[↓M1,M1,Mb,reduceIte])))
 refine V7 xs.length (fun n w'=>Kpt D w w'/\ ∃s,a s w'/\W1 b m xs 0=W1 b s (xs.drop n) n) ⟨Kpt.refl,m,y,rfl⟩ fun n w1 d E i=>?_;obtain ⟨t,s,i,e⟩:=i;have r:=l s w1 i
 ((try simp only[↓M1,M1,Mb,reduceIte]);repeat ((first | refine ld Q8 Q8 rfl ?_ | refine Y6 Q8 Q8 rfl ?_ | refine Q6 Q8 ?_);(try simp only[↓M1,M1,Mb,reduceIte])))
 refine Q4 (fun q=>?_) (fun q=>?_)
 .have c:n<xs.length:=by simpa using q
  refine E4 u c fun p cs A g B=>?_;refine Z3 r A g ?_;refine z s xs[n] cs w1 _ (List.getElem_mem c) t i B g fun C k j=>?_;rw[List.drop_eq_getElem_cons c] at e;simp only[W1] at e;refine Q4 (fun o=>?_) (fun o=>?_)
  .rw[o] at e
   have:=h C k;rw[e] at this;exact this j
  .rw[o] at e
   ((try simp only[↓M1,M1,Mb,reduceIte]);repeat ((first | refine ld Q8 Q8 rfl ?_ | refine Y6 Q8 Q8 rfl ?_ | refine Q6 Q8 ?_);(try simp only[↓M1,M1,Mb,reduceIte])))
   exact Z4 u.max c ⟨k,_,j,by simpa using e⟩
 .have c: ¬n<xs.length:=by simpa using q
  rw[List.drop_eq_nil_of_le Q5] at e;have:=h w1 t;rw[e] at this;exact this i)
theorem Wy {β:Type} {xs:List Hm.Met} {v f:Value} (b:β->Hm.Met->Bool×β) (d:β) (a:β->World->Prop) (D:Nat->Prop) (c: ∀s w,a s w->X3 w σ) (e:a d w) (k:Sl 7 F9 σ v xs)
 (g: ∀s x cs (w1:World) (K:Value->World->Prop),x∈xs->Kpt D w w1->a s w1->F9 σ x cs->cs.length=7->(∀w',Kpt D w w'->a (b s x).2 w'->K (.bool (b s x).1) w')->J6 P f [.agg cs.toArray] w1 K)
 (h: ∀w',Kpt D w w'->a (W1 b d xs 0).2 w'->K (.bool (W1 b d xs 0).1.isSome) w'):Q0 P F.a [v,f] w K:=Zx (by
 unfold P3 X2;refine Ow b d a D c e k g fun w1 j i=>?_
 (try simp only[↓M1,M1,Mb,reduceIte])
 rw[Be];exact h w1 j i)
theorem Am {xs:List Hm.Met} {v f:Value} (p:Hm.Met->Bool) (hs:X3 w σ) (hv:Sl 7 F9 σ v xs)
 (hf: ∀x cs (w1:World) (K:Value->World->Prop),x∈xs->X3 w1 σ->F9 σ x cs->cs.length=7->(∀w',Below w1.heap.size w1 w'->K (.bool (p x)) w')->J6 P f [.agg cs.toArray] w1 K)
 (h: ∀w',Below w.heap.size w w'->K (I (E1 (xs.findIdx? p))) w'):Q0 P F.i [v,f] w K:=by
 refine Ow (fun (_:Unit) x=>(p x,())) () (fun _ w'=>Below w.heap.size w w') (fun _=>False) (fun _ w' hb=>hs.below hb) (Below.refl _ _) hv (fun s x cs w1 K hx hk hi hr hl hK=>hf x cs w1 K hx (hs.below hi) hr hl fun w' hb=>hK w' (.of_below (bt hi hb)) (bt hi hb)) fun w' hk hi=>?_;rw[Xc]
 simpa using h w' hi
theorem Qf {xs:List Hm.Met} {v f:Value} (p:Hm.Met->Bool) (hs:X3 w σ) (hv:Sl 7 F9 σ v xs)
 (hf: ∀x cs (w1:World) (K:Value->World->Prop),x∈xs->X3 w1 σ->F9 σ x cs->cs.length=7->(∀w',Below w1.heap.size w1 w'->K (.bool (p x)) w')->J6 P f [.agg cs.toArray] w1 K)
 (h: ∀w',Below w.heap.size w w'->K (.bool (xs.any p)) w'):Q0 P F.a [v,f] w K:=by
 refine Wy (fun (_:Unit) x=>(p x,())) () (fun _ w'=>Below w.heap.size w w') (fun _=>False) (fun _ w' hb=>hs.below hb) (Below.refl _ _) hv (fun s x cs w1 K hx hk hi hr hl hK=>hf x cs w1 K hx (hs.below hi) hr hl fun w' hb=>hK w' (.of_below (bt hi hb)) (bt hi hb)) fun w' hk hi=>?_;rw[Xc]
 simpa using h w' hi
theorem Ei {β:Type} {xs:List Fld} {v f:Value} (b:β->Fld->Bool×β) (m:β) (a:β->World->Prop) (D:Nat->Prop) (l: ∀s w,a s w->X3 w σ) (y:a m w) (u:Sl 3 K3 σ v xs)
 (z: ∀s x cs (w1:World) (K:Value->World->Prop),x∈xs->Kpt D w w1->a s w1->K3 σ x cs->cs.length=3->(∀w',Kpt D w w'->a (b s x).2 w'->K (.bool (b s x).1) w')->J6 P f [.agg cs.toArray] w1 K)
 (h: ∀w',Kpt D w w'->a (W1 b m xs 0).2 w'->K (I (E1 (W1 b m xs 0).1)) w'):Q0 P F.k [v,f] w K:=Vj (by
 unfold Qp J3 V1 X4 X1
 ((try simp only[↓M1,M1,Mb,reduceIte]);repeat ((first | refine ld Q8 Q8 rfl ?_ | refine Y6 Q8 Q8 rfl ?_ | refine Q6 Q8 ?_);(try simp only[↓M1,M1,Mb,reduceIte])))
 refine V7 xs.length (fun n w'=>Kpt D w w'/\ ∃s,a s w'/\W1 b m xs 0=W1 b s (xs.drop n) n) ⟨Kpt.refl,m,y,rfl⟩ fun n w1 d E i=>?_;obtain ⟨t,s,i,e⟩:=i;have r:=l s w1 i
 ((try simp only[↓M1,M1,Mb,reduceIte]);repeat ((first | refine ld Q8 Q8 rfl ?_ | refine Y6 Q8 Q8 rfl ?_ | refine Q6 Q8 ?_);(try simp only[↓M1,M1,Mb,reduceIte])))
 refine Q4 (fun q=>?_) (fun q=>?_)
 .have c:n<xs.length:=by simpa using q
  refine E4 u c fun p cs A g B=>?_;refine Z3 r A g ?_;refine z s xs[n] cs w1 _ (List.getElem_mem c) t i B g fun C k j=>?_;rw[List.drop_eq_getElem_cons c] at e;simp only[W1] at e;refine Q4 (fun o=>?_) (fun o=>?_)
  .rw[o] at e
   have:=h C k;rw[e] at this;exact this j
  .rw[o] at e
   ((try simp only[↓M1,M1,Mb,reduceIte]);repeat ((first | refine ld Q8 Q8 rfl ?_ | refine Y6 Q8 Q8 rfl ?_ | refine Q6 Q8 ?_);(try simp only[↓M1,M1,Mb,reduceIte])))
   exact Z4 u.max c ⟨k,_,j,by simpa using e⟩
 .have c: ¬n<xs.length:=by simpa using q
  rw[List.drop_eq_nil_of_le Q5] at e;have:=h w1 t;rw[e] at this;exact this i)
theorem Pw {β:Type} {xs:List Fld} {v f:Value} (b:β->Fld->Bool×β) (d:β) (a:β->World->Prop) (D:Nat->Prop) (c: ∀s w,a s w->X3 w σ) (e:a d w) (k:Sl 3 K3 σ v xs)
 (g: ∀s x cs (w1:World) (K:Value->World->Prop),x∈xs->Kpt D w w1->a s w1->K3 σ x cs->cs.length=3->(∀w',Kpt D w w'->a (b s x).2 w'->K (.bool (b s x).1) w')->J6 P f [.agg cs.toArray] w1 K)
 (h: ∀w',Kpt D w w'->a (W1 b d xs 0).2 w'->K (.bool (W1 b d xs 0).1.isSome) w'):Q0 P F.g [v,f] w K:=Jp (by
 unfold T4 X2;refine Ei b d a D c e k g fun w1 j i=>?_
 (try simp only[↓M1,M1,Mb,reduceIte])
 rw[Be];exact h w1 j i)
theorem Q0c {xs:List Fld} {v f:Value} (p:Fld->Bool) (hs:X3 w σ) (hv:Sl 3 K3 σ v xs)
 (hf: ∀x cs (w1:World) (K:Value->World->Prop),x∈xs->X3 w1 σ->K3 σ x cs->cs.length=3->(∀w',Below w1.heap.size w1 w'->K (.bool (p x)) w')->J6 P f [.agg cs.toArray] w1 K)
 (h: ∀w',Below w.heap.size w w'->K (I (E1 (xs.findIdx? p))) w'):Q0 P F.k [v,f] w K:=by
 refine Ei (fun (_:Unit) x=>(p x,())) () (fun _ w'=>Below w.heap.size w w') (fun _=>False) (fun _ w' hb=>hs.below hb) (Below.refl _ _) hv (fun s x cs w1 K hx hk hi hr hl hK=>hf x cs w1 K hx (hs.below hi) hr hl fun w' hb=>hK w' (.of_below (bt hi hb)) (bt hi hb)) fun w' hk hi=>?_;rw[Xc]
 simpa using h w' hi
theorem Lh {xs:List Fld} {v f:Value} (p:Fld->Bool) (hs:X3 w σ) (hv:Sl 3 K3 σ v xs)
 (hf: ∀x cs (w1:World) (K:Value->World->Prop),x∈xs->X3 w1 σ->K3 σ x cs->cs.length=3->(∀w',Below w1.heap.size w1 w'->K (.bool (p x)) w')->J6 P f [.agg cs.toArray] w1 K)
 (h: ∀w',Below w.heap.size w w'->K (.bool (xs.any p)) w'):Q0 P F.g [v,f] w K:=by
 refine Pw (fun (_:Unit) x=>(p x,())) () (fun _ w'=>Below w.heap.size w w') (fun _=>False) (fun _ w' hb=>hs.below hb) (Below.refl _ _) hv (fun s x cs w1 K hx hk hi hr hl hK=>hf x cs w1 K hx (hs.below hi) hr hl fun w' hb=>hK w' (.of_below (bt hi hb)) (bt hi hb)) fun w' hk hi=>?_;rw[Xc]
 simpa using h w' hi
theorem Q0O {β:Type} {xs:List Ins} {v f:Value} (b:β->Ins->Bool×β) (m:β) (a:β->World->Prop) (D:Nat->Prop) (l: ∀s w,a s w->X3 w σ) (y:a m w) (u:Sl 3 Zn σ v xs)
 (z: ∀s x cs (w1:World) (K:Value->World->Prop),x∈xs->Kpt D w w1->a s w1->Zn σ x cs->cs.length=3->(∀w',Kpt D w w'->a (b s x).2 w'->K (.bool (b s x).1) w')->J6 P f [.agg cs.toArray] w1 K)
 (h: ∀w',Kpt D w w'->a (W1 b m xs 0).2 w'->K (I (E1 (W1 b m xs 0).1)) w'):Q0 P F.a7 [v,f] w K:=Vk (by
 unfold Qq J3 V1 X4 X1
 ((try simp only[↓M1,M1,Mb,reduceIte]);repeat ((first | refine ld Q8 Q8 rfl ?_ | refine Y6 Q8 Q8 rfl ?_ | refine Q6 Q8 ?_);(try simp only[↓M1,M1,Mb,reduceIte])))
 refine V7 xs.length (fun n w'=>Kpt D w w'/\ ∃s,a s w'/\W1 b m xs 0=W1 b s (xs.drop n) n) ⟨Kpt.refl,m,y,rfl⟩ fun n w1 d E i=>?_;obtain ⟨t,s,i,e⟩:=i;have r:=l s w1 i
 ((try simp only[↓M1,M1,Mb,reduceIte]);repeat ((first | refine ld Q8 Q8 rfl ?_ | refine Y6 Q8 Q8 rfl ?_ | refine Q6 Q8 ?_);(try simp only[↓M1,M1,Mb,reduceIte])))
 refine Q4 (fun q=>?_) (fun q=>?_)
 .have c:n<xs.length:=by simpa using q
  refine E4 u c fun p cs A g B=>?_;refine Z3 r A g ?_;refine z s xs[n] cs w1 _ (List.getElem_mem c) t i B g fun C k j=>?_;rw[List.drop_eq_getElem_cons c] at e;simp only[W1] at e;refine Q4 (fun o=>?_) (fun o=>?_)
  .rw[o] at e
   have:=h C k;rw[e] at this;exact this j
  .rw[o] at e
   ((try simp only[↓M1,M1,Mb,reduceIte]);repeat ((first | refine ld Q8 Q8 rfl ?_ | refine Y6 Q8 Q8 rfl ?_ | refine Q6 Q8 ?_);(try simp only[↓M1,M1,Mb,reduceIte])))
   exact Z4 u.max c ⟨k,_,j,by simpa using e⟩
 .have c: ¬n<xs.length:=by simpa using q
  rw[List.drop_eq_nil_of_le Q5] at e;have:=h w1 t;rw[e] at this;exact this i)
theorem Px {β:Type} {xs:List Ins} {v f:Value} (b:β->Ins->Bool×β) (d:β) (a:β->World->Prop) (D:Nat->Prop) (c: ∀s w,a s w->X3 w σ) (e:a d w) (k:Sl 3 Zn σ v xs)
 (g: ∀s x cs (w1:World) (K:Value->World->Prop),x∈xs->Kpt D w w1->a s w1->Zn σ x cs->cs.length=3->(∀w',Kpt D w w'->a (b s x).2 w'->K (.bool (b s x).1) w')->J6 P f [.agg cs.toArray] w1 K)
 (h: ∀w',Kpt D w w'->a (W1 b d xs 0).2 w'->K (.bool (W1 b d xs 0).1.isSome) w'):Q0 P F.o [v,f] w K:=Jq (by
 unfold T5 X2;refine Q0O b d a D c e k g fun w1 j i=>?_
 (try simp only[↓M1,M1,Mb,reduceIte])
 rw[Be];exact h w1 j i)
theorem Kl {xs:List Ins} {v f:Value} (p:Ins->Bool) (hs:X3 w σ) (hv:Sl 3 Zn σ v xs)
 (hf: ∀x cs (w1:World) (K:Value->World->Prop),x∈xs->X3 w1 σ->Zn σ x cs->cs.length=3->(∀w',Below w1.heap.size w1 w'->K (.bool (p x)) w')->J6 P f [.agg cs.toArray] w1 K)
 (h: ∀w',Below w.heap.size w w'->K (.bool (xs.any p)) w'):Q0 P F.o [v,f] w K:=by
 refine Px (fun (_:Unit) x=>(p x,())) () (fun _ w'=>Below w.heap.size w w') (fun _=>False) (fun _ w' hb=>hs.below hb) (Below.refl _ _) hv (fun s x cs w1 K hx hk hi hr hl hK=>hf x cs w1 K hx (hs.below hi) hr hl fun w' hb=>hK w' (.of_below (bt hi hb)) (bt hi hb)) fun w' hk hi=>?_;rw[Xc]
 simpa using h w' hi
theorem Q0M {β:Type} {xs:List Cat} {v f:Value} (b:β->Cat->Bool×β) (m:β) (a:β->World->Prop) (D:Nat->Prop) (l: ∀s w,a s w->X3 w σ) (y:a m w) (u:Sl 4 Ld σ v xs)
 (z: ∀s x cs (w1:World) (K:Value->World->Prop),x∈xs->Kpt D w w1->a s w1->Ld σ x cs->cs.length=4->(∀w',Kpt D w w'->a (b s x).2 w'->K (.bool (b s x).1) w')->J6 P f [.agg cs.toArray] w1 K)
 (h: ∀w',Kpt D w w'->a (W1 b m xs 0).2 w'->K (I (E1 (W1 b m xs 0).1)) w'):Q0 P F.a6 [v,f] w K:=Vh (by
 unfold Qn J3 V1 X4 X1
 ((try simp only[↓M1,M1,Mb,reduceIte]);repeat ((first | refine ld Q8 Q8 rfl ?_ | refine Y6 Q8 Q8 rfl ?_ | refine Q6 Q8 ?_);(try simp only[↓M1,M1,Mb,reduceIte])))
 refine V7 xs.length (fun n w'=>Kpt D w w'/\ ∃s,a s w'/\W1 b m xs 0=W1 b s (xs.drop n) n) ⟨Kpt.refl,m,y,rfl⟩ fun n w1 d E i=>?_;obtain ⟨t,s,i,e⟩:=i;have r:=l s w1 i
 ((try simp only[↓M1,M1,Mb,reduceIte]);repeat ((first | refine ld Q8 Q8 rfl ?_ | refine Y6 Q8 Q8 rfl ?_ | refine Q6 Q8 ?_);(try simp only[↓M1,M1,Mb,reduceIte])))
 refine Q4 (fun q=>?_) (fun q=>?_)
 .have c:n<xs.length:=by simpa using q
  refine E4 u c fun p cs A g B=>?_;refine Z3 r A g ?_;refine z s xs[n] cs w1 _ (List.getElem_mem c) t i B g fun C k j=>?_;rw[List.drop_eq_getElem_cons c] at e;simp only[W1] at e;refine Q4 (fun o=>?_) (fun o=>?_)
  .rw[o] at e
   have:=h C k;rw[e] at this;exact this j
  .rw[o] at e
   ((try simp only[↓M1,M1,Mb,reduceIte]);repeat ((first | refine ld Q8 Q8 rfl ?_ | refine Y6 Q8 Q8 rfl ?_ | refine Q6 Q8 ?_);(try simp only[↓M1,M1,Mb,reduceIte])))
   exact Z4 u.max c ⟨k,_,j,by simpa using e⟩
 .have c: ¬n<xs.length:=by simpa using q
  rw[List.drop_eq_nil_of_le Q5] at e;have:=h w1 t;rw[e] at this;exact this i)
theorem Pv {β:Type} {xs:List Cat} {v f:Value} (b:β->Cat->Bool×β) (d:β) (a:β->World->Prop) (D:Nat->Prop) (c: ∀s w,a s w->X3 w σ) (e:a d w) (k:Sl 4 Ld σ v xs)
 (g: ∀s x cs (w1:World) (K:Value->World->Prop),x∈xs->Kpt D w w1->a s w1->Ld σ x cs->cs.length=4->(∀w',Kpt D w w'->a (b s x).2 w'->K (.bool (b s x).1) w')->J6 P f [.agg cs.toArray] w1 K)
 (h: ∀w',Kpt D w w'->a (W1 b d xs 0).2 w'->K (.bool (W1 b d xs 0).1.isSome) w'):Q0 P F.n [v,f] w K:=Jo (by
 unfold T3 X2;refine Q0M b d a D c e k g fun w1 j i=>?_
 (try simp only[↓M1,M1,Mb,reduceIte])
 rw[Be];exact h w1 j i)
theorem Kk {xs:List Cat} {v f:Value} (p:Cat->Bool) (hs:X3 w σ) (hv:Sl 4 Ld σ v xs)
 (hf: ∀x cs (w1:World) (K:Value->World->Prop),x∈xs->X3 w1 σ->Ld σ x cs->cs.length=4->(∀w',Below w1.heap.size w1 w'->K (.bool (p x)) w')->J6 P f [.agg cs.toArray] w1 K)
 (h: ∀w',Below w.heap.size w w'->K (.bool (xs.any p)) w'):Q0 P F.n [v,f] w K:=by
 refine Pv (fun (_:Unit) x=>(p x,())) () (fun _ w'=>Below w.heap.size w w') (fun _=>False) (fun _ w' hb=>hs.below hb) (Below.refl _ _) hv (fun s x cs w1 K hx hk hi hr hl hK=>hf x cs w1 K hx (hs.below hi) hr hl fun w' hb=>hK w' (.of_below (bt hi hb)) (bt hi hb)) fun w' hk hi=>?_;rw[Xc]
 simpa using h w' hi
theorem Q0N {β:Type} {xs:List Cla} {v f:Value} (b:β->Cla->Bool×β) (m:β) (a:β->World->Prop) (D:Nat->Prop) (l: ∀s w,a s w->X3 w σ) (y:a m w) (u:Sl 8 M8 σ v xs)
 (z: ∀s x cs (w1:World) (K:Value->World->Prop),x∈xs->Kpt D w w1->a s w1->M8 σ x cs->cs.length=8->(∀w',Kpt D w w'->a (b s x).2 w'->K (.bool (b s x).1) w')->J6 P f [.agg cs.toArray] w1 K)
 (h: ∀w',Kpt D w w'->a (W1 b m xs 0).2 w'->K (I (E1 (W1 b m xs 0).1)) w'):Q0 P F.q [v,f] w K:=Vi (by
 unfold Qo J3 V1 X4 X1
 ((try simp only[↓M1,M1,Mb,reduceIte]);repeat ((first | refine ld Q8 Q8 rfl ?_ | refine Y6 Q8 Q8 rfl ?_ | refine Q6 Q8 ?_);(try simp only[↓M1,M1,Mb,reduceIte])))
 refine V7 xs.length (fun n w'=>Kpt D w w'/\ ∃s,a s w'/\W1 b m xs 0=W1 b s (xs.drop n) n) ⟨Kpt.refl,m,y,rfl⟩ fun n w1 d E i=>?_;obtain ⟨t,s,i,e⟩:=i;have r:=l s w1 i
 ((try simp only[↓M1,M1,Mb,reduceIte]);repeat ((first | refine ld Q8 Q8 rfl ?_ | refine Y6 Q8 Q8 rfl ?_ | refine Q6 Q8 ?_);(try simp only[↓M1,M1,Mb,reduceIte])))
 refine Q4 (fun q=>?_) (fun q=>?_)
 .have c:n<xs.length:=by simpa using q
  refine E4 u c fun p cs A g B=>?_;refine Z3 r A g ?_;refine z s xs[n] cs w1 _ (List.getElem_mem c) t i B g fun C k j=>?_;rw[List.drop_eq_getElem_cons c] at e;simp only[W1] at e;refine Q4 (fun o=>?_) (fun o=>?_)
  .rw[o] at e
   have:=h C k;rw[e] at this;exact this j
  .rw[o] at e
   ((try simp only[↓M1,M1,Mb,reduceIte]);repeat ((first | refine ld Q8 Q8 rfl ?_ | refine Y6 Q8 Q8 rfl ?_ | refine Q6 Q8 ?_);(try simp only[↓M1,M1,Mb,reduceIte])))
   exact Z4 u.max c ⟨k,_,j,by simpa using e⟩
 .have c: ¬n<xs.length:=by simpa using q
  rw[List.drop_eq_nil_of_le Q5] at e;have:=h w1 t;rw[e] at this;exact this i)
theorem Q0b {xs:List Cla} {v f:Value} (p:Cla->Bool) (hs:X3 w σ) (hv:Sl 8 M8 σ v xs)
 (hf: ∀x cs (w1:World) (K:Value->World->Prop),x∈xs->X3 w1 σ->M8 σ x cs->cs.length=8->(∀w',Below w1.heap.size w1 w'->K (.bool (p x)) w')->J6 P f [.agg cs.toArray] w1 K)
 (h: ∀w',Below w.heap.size w w'->K (I (E1 (xs.findIdx? p))) w'):Q0 P F.q [v,f] w K:=by
 refine Q0N (fun (_:Unit) x=>(p x,())) () (fun _ w'=>Below w.heap.size w w') (fun _=>False) (fun _ w' hb=>hs.below hb) (Below.refl _ _) hv (fun s x cs w1 K hx hk hi hr hl hK=>hf x cs w1 K hx (hs.below hi) hr hl fun w' hb=>hK w' (.of_below (bt hi hb)) (bt hi hb)) fun w' hk hi=>?_;rw[Xc]
 simpa using h w' hi
theorem Q4W {β:Type} {xs:List Q9} {v f:Value} (b:β->Q9->Bool×β) (m:β) (a:β->World->Prop) (D:Nat->Prop) (l: ∀s w,a s w->X3 w σ) (z:a m w) (y:Sl 1 L1 σ v xs)
 (A: ∀s x (w1:World) (K:Value->World->Prop),x∈xs->Kpt D w w1->a s w1->x.length<=V4->(∀w',Kpt D w w'->a (b s x).2 w'->K (.bool (b s x).1) w')->J6 P f [S x] w1 K)
 (h: ∀w',Kpt D w w'->a (W1 b m xs 0).2 w'->K (I (E1 (W1 b m xs 0).1)) w'):Q0 P F.y [v,f] w K:=Ny (by
 unfold Yi J3 V1 X4 X1
 ((try simp only[↓M1,M1,Mb,reduceIte]);repeat ((first | refine ld Q8 Q8 rfl ?_ | refine Y6 Q8 Q8 rfl ?_ | refine Q6 Q8 ?_);(try simp only[↓M1,M1,Mb,reduceIte])))
 refine V7 xs.length (fun n w'=>Kpt D w w'/\ ∃s,a s w'/\W1 b m xs 0=W1 b s (xs.drop n) n) ⟨Kpt.refl,m,z,rfl⟩ fun n w1 d H i=>?_;obtain ⟨t,s,i,e⟩:=i;have r:=l s w1 i
 ((try simp only[↓M1,M1,Mb,reduceIte]);repeat ((first | refine ld Q8 Q8 rfl ?_ | refine Y6 Q8 Q8 rfl ?_ | refine Q6 Q8 ?_);(try simp only[↓M1,M1,Mb,reduceIte])))
 refine Q4 (fun q=>?_) (fun q=>?_)
 .have c:n<xs.length:=by simpa using q
  refine E4 y c fun p cs B u C=>?_;obtain ⟨rfl,g⟩:=C;refine Y6 r B rfl ?_;refine A s xs[n] w1 _ (List.getElem_mem c) t i g fun E k j=>?_;rw[List.drop_eq_getElem_cons c] at e;simp only[W1] at e;refine Q4 (fun o=>?_) (fun o=>?_)
  .rw[o] at e
   have:=h E k;rw[e] at this;exact this j
  .rw[o] at e
   ((try simp only[↓M1,M1,Mb,reduceIte]);repeat ((first | refine ld Q8 Q8 rfl ?_ | refine Y6 Q8 Q8 rfl ?_ | refine Q6 Q8 ?_);(try simp only[↓M1,M1,Mb,reduceIte])))
   exact Z4 y.max c ⟨k,_,j,by simpa using e⟩
 .have c: ¬n<xs.length:=by simpa using q
  rw[List.drop_eq_nil_of_le Q5] at e;have:=h w1 t;rw[e] at this;exact this i)
theorem Q3H {xs:List Q9} {v f:Value} (p:Q9->Bool) (hs:X3 w σ) (hv:Sl 1 L1 σ v xs)
 (hf: ∀x (w1:World) (K:Value->World->Prop),x∈xs->X3 w1 σ->x.length<=V4->(∀w',Below w1.heap.size w1 w'->K (.bool (p x)) w')->J6 P f [S x] w1 K)
 (h: ∀w',Below w.heap.size w w'->K (I (E1 (xs.findIdx? p))) w'):Q0 P F.y [v,f] w K:=by
 refine Q4W (fun (_:Unit) x=>(p x,())) () (fun _ w'=>Below w.heap.size w w') (fun _=>False) (fun _ w' hb=>hs.below hb) (Below.refl _ _) hv (fun s x w1 K hx hk hi hr hK=>hf x w1 K hx (hs.below hi) hr fun w' hb=>hK w' (.of_below (bt hi hb)) (bt hi hb)) fun w' hk hi=>?_;rw[Xc]
 simpa using h w' hi
theorem X0D {α:Type} (p:α->Bool) (xs:List α):decide ((0:Int)<=E1 (xs.findIdx? p))=xs.any p:=by
 rw[Bool.eq_iff_iff,List.any_eq_true];simp only[decide_eq_true_eq];cases h:xs.findIdx? p with
 | none=>
  simp only[E1];constructor
  .intro h;omega
  .rintro ⟨x,c,a⟩;have:=List.findIdx?_eq_none_iff.1 h x c;rw[a] at this;cases this
 | some i=>
  simp only[E1];obtain ⟨b,a,_⟩:=List.findIdx?_eq_some_iff_getElem.1 h;exact ⟨fun _=>⟨xs[i],List.getElem_mem b,a⟩,fun _=>by omega⟩
theorem Yc {xs:List Q9} {v f:Value} (p:Q9->Bool) (c:X3 w σ) (d:Sl 1 L1 σ v xs)
 (b: ∀x (w1:World) (K:Value->World->Prop),x∈xs->X3 w1 σ->x.length<=V4->(∀w',Below w1.heap.size w1 w'->K (.bool (p x)) w')->J6 P f [S x] w1 K)
 (h: ∀w',Below w.heap.size w w'->K (.bool (xs.any p)) w'):Q0 P F.c [v,f] w K:=Lc (by
 unfold Xo X2;refine Q3H p c d b fun w1 a=>?_
 (try simp only[↓M1,M1,Mb,reduceIte])
 rw[X0D];exact h w1 a)
theorem Q81 {xs:List Q9} {v:Value} {x:Q9} (r:X3 w σ) (i:Sl 1 L1 σ v xs)
 (h:K (I (E1 (xs.findIdx? fun y=>decide (x=y)))) w):Q0 P F.aB [v,S x] w K:=Rz (by
 unfold Zu J3 V1 X4 X1
 ((try simp only[↓M1,M1,Mb,reduceIte]);repeat ((first | refine ld Q8 Q8 rfl ?_ | refine Y6 Q8 Q8 rfl ?_ | refine Q6 Q8 ?_);(try simp only[↓M1,M1,Mb,reduceIte])))
 refine V7 xs.length (fun n w'=>w=w'/\(xs.take n).any (fun y=>decide (x=y))=false) ⟨rfl,rfl⟩ fun n w1 d q b=>?_;obtain ⟨rfl,b⟩:=b
 ((try simp only[↓M1,M1,Mb,reduceIte]);repeat ((first | refine ld Q8 Q8 rfl ?_ | refine Y6 Q8 Q8 rfl ?_ | refine Q6 Q8 ?_);(try simp only[↓M1,M1,Mb,reduceIte])))
 refine Q4 (fun e=>?_) (fun e=>?_)
 .have a:n<xs.length:=by simpa using e
  refine E4 i a fun p cs o g k=>?_;obtain ⟨rfl,f⟩:=k
  ((try simp only[↓M1,M1,Mb,reduceIte]);repeat ((first | refine ld Q8 Q8 rfl ?_ | refine Y6 Q8 Q8 rfl ?_ | refine Q6 Q8 ?_);(try simp only[↓M1,M1,Mb,reduceIte])))
  refine Q4 (fun c=>?_) (fun c=>?_)
  .have:xs.findIdx? (fun y=>decide (x=y))=some n:=by
    rw[List.findIdx?_eq_some_iff_getElem];refine ⟨a,c,fun j m=>?_⟩;have:=List.any_eq_false.1 b (xs[j]) (List.mem_take_iff_getElem.2 ⟨j,by omega,rfl⟩)
    exact this
   rw[this] at h;exact h
  ·((try simp only[↓M1,M1,Mb,reduceIte]);repeat ((first | refine ld Q8 Q8 rfl ?_ | refine Y6 Q8 Q8 rfl ?_ | refine Q6 Q8 ?_);(try simp only[↓M1,M1,Mb,reduceIte])))
   exact Z4 i.max a ⟨rfl,by rw[E8 a,b,c];rfl⟩
 .have a: ¬n<xs.length:=by simpa using e
  rw[B7 a] at b
  have:xs.findIdx? (fun y=>decide (x=y))=none:=by
   rw[List.findIdx?_eq_none_iff];intro y l;simpa using List.any_eq_false.1 b y l
  rw[this] at h;exact h)
theorem Q5u {xs:List Q9} {v:Value} {x:Q9} (a:X3 w σ) (b:Sl 1 L1 σ v xs)
 (h:K (.bool (xs.any fun y=>decide (x=y))) w):Q0 P F.ai [v,S x] w K:=Ov (by
 unfold Yt X2;refine Q81 a b ?_
 (try simp only[↓M1,M1,Mb,reduceIte])
 rw[X0D];exact h)
end Go.Proofs.Y
namespace Go.Emb
abbrev Q2.Le (σ σ':Q2):Prop:= ∀b o,σ b=some o->σ' b=some o
def Qw {α:Type} (f:α->List UInt8):List α->List α->Bool
 | _,[]=>true
 | seen,x::r=> !(seen.any fun y=>decide (f y=f x))&&Qw f (seen++[x]) r
theorem Od {α:Type} (p:α->Bool) (xs:List α):(!xs.any fun x=> !p x)=xs.all p:=by
 rw[List.all_eq_not_any_not]
end Go.Emb
namespace Go.Proofs.Y
open Go.Emb Go.RowKit Go.Kd Go.Hm
variable {w : World} {K : Value -> World -> Prop} {σ : Q2}
theorem Q3J {xs:List Hm.Met} {v:Value} {fn:Fn} {k d:Array Value} (p:Hm.Met->Bool) (u:X3 w σ) (y:Sl 7 F9 σ v xs)
 (s: ∀(σ1:Q2) x cs (w1:World) (K:Value->World->Prop),σ.Le σ1->x∈xs->X3 w1 σ1->F9 σ1 x cs->cs.length=7->(∀w',Below w1.heap.size w1 w'->K (.bool (p x)) w')->J6 P (.func fn k d) [.agg cs.toArray] w1 K)
 (h: ∀w',Below w.heap.size w w'->K (.bool (xs.all p)) w'):Q0 P F.aq [v, .func fn k d] w K:=Pn (by
 unfold Lt;refine F8 u fun a w1 σ1 f l=>?_;simp only[Value.cells] at l
 ((try simp only[↓M1,M1,Mb,reduceIte]);repeat ((first | refine ld Q8 Q8 rfl ?_ | refine Y6 Q8 Q8 rfl ?_ | refine Q6 Q8 ?_);(try simp only[↓M1,M1,Mb,reduceIte])))
 refine Qf (fun x=> !p x) f.sat (y.up f) (fun x cs n K z j t m q=>?_) fun n r=>?_
 .refine J8 (Gk ?_)
  unfold Vs;refine F8 j fun b A C c g=>?_;refine Y6 c.sat (l.up c) rfl ?_;refine Z3 c.sat g m ?_;refine s C x _ A _ (fun b o e=>c.le b o (f.le b o e)) z c.sat (Rep.up c.le t) m fun B i=>?_
  (try simp only[↓M1,M1,Mb,reduceIte])
  exact q B (bt c.bel i)
 ·(try simp only[↓M1,M1,Mb,reduceIte])
  rw[Od];exact h n (bt f.bel r))
theorem Q5w {xs:List Fld} {v:Value} {fn:Fn} {k d:Array Value} (p:Fld->Bool) (u:X3 w σ) (y:Sl 3 K3 σ v xs)
 (s: ∀(σ1:Q2) x cs (w1:World) (K:Value->World->Prop),σ.Le σ1->x∈xs->X3 w1 σ1->K3 σ1 x cs->cs.length=3->(∀w',Below w1.heap.size w1 w'->K (.bool (p x)) w')->J6 P (.func fn k d) [.agg cs.toArray] w1 K)
 (h: ∀w',Below w.heap.size w w'->K (.bool (xs.all p)) w'):Q0 P F.ay [v, .func fn k d] w K:=Tf (by
 unfold Nn;refine F8 u fun a w1 σ1 f l=>?_;simp only[Value.cells] at l
 ((try simp only[↓M1,M1,Mb,reduceIte]);repeat ((first | refine ld Q8 Q8 rfl ?_ | refine Y6 Q8 Q8 rfl ?_ | refine Q6 Q8 ?_);(try simp only[↓M1,M1,Mb,reduceIte])))
 refine Lh (fun x=> !p x) f.sat (y.up f) (fun x cs n K z j t m q=>?_) fun n r=>?_
 .refine J8 (Iq ?_)
  unfold Wr;refine F8 j fun b A C c g=>?_;refine Y6 c.sat (l.up c) rfl ?_;refine Z3 c.sat g m ?_;refine s C x _ A _ (fun b o e=>c.le b o (f.le b o e)) z c.sat (Rep.up c.le t) m fun B i=>?_
  (try simp only[↓M1,M1,Mb,reduceIte])
  exact q B (bt c.bel i)
 ·(try simp only[↓M1,M1,Mb,reduceIte])
  rw[Od];exact h n (bt f.bel r))
theorem Q5x {xs:List Ins} {v:Value} {fn:Fn} {k d:Array Value} (p:Ins->Bool) (u:X3 w σ) (y:Sl 3 Zn σ v xs)
 (s: ∀(σ1:Q2) x cs (w1:World) (K:Value->World->Prop),σ.Le σ1->x∈xs->X3 w1 σ1->Zn σ1 x cs->cs.length=3->(∀w',Below w1.heap.size w1 w'->K (.bool (p x)) w')->J6 P (.func fn k d) [.agg cs.toArray] w1 K)
 (h: ∀w',Below w.heap.size w w'->K (.bool (xs.all p)) w'):Q0 P F.az [v, .func fn k d] w K:=Tg (by
 unfold Np;refine F8 u fun a w1 σ1 f l=>?_;simp only[Value.cells] at l
 ((try simp only[↓M1,M1,Mb,reduceIte]);repeat ((first | refine ld Q8 Q8 rfl ?_ | refine Y6 Q8 Q8 rfl ?_ | refine Q6 Q8 ?_);(try simp only[↓M1,M1,Mb,reduceIte])))
 refine Kl (fun x=> !p x) f.sat (y.up f) (fun x cs n K z j t m q=>?_) fun n r=>?_
 .refine J8 (Ir ?_)
  unfold Ws;refine F8 j fun b A C c g=>?_;refine Y6 c.sat (l.up c) rfl ?_;refine Z3 c.sat g m ?_;refine s C x _ A _ (fun b o e=>c.le b o (f.le b o e)) z c.sat (Rep.up c.le t) m fun B i=>?_
  (try simp only[↓M1,M1,Mb,reduceIte])
  exact q B (bt c.bel i)
 ·(try simp only[↓M1,M1,Mb,reduceIte])
  rw[Od];exact h n (bt f.bel r))
theorem Q5v {xs:List Cat} {v:Value} {fn:Fn} {k d:Array Value} (p:Cat->Bool) (u:X3 w σ) (y:Sl 4 Ld σ v xs)
 (s: ∀(σ1:Q2) x cs (w1:World) (K:Value->World->Prop),σ.Le σ1->x∈xs->X3 w1 σ1->Ld σ1 x cs->cs.length=4->(∀w',Below w1.heap.size w1 w'->K (.bool (p x)) w')->J6 P (.func fn k d) [.agg cs.toArray] w1 K)
 (h: ∀w',Below w.heap.size w w'->K (.bool (xs.all p)) w'):Q0 P F.ax [v, .func fn k d] w K:=Te (by
 unfold Nl;refine F8 u fun a w1 σ1 f l=>?_;simp only[Value.cells] at l
 ((try simp only[↓M1,M1,Mb,reduceIte]);repeat ((first | refine ld Q8 Q8 rfl ?_ | refine Y6 Q8 Q8 rfl ?_ | refine Q6 Q8 ?_);(try simp only[↓M1,M1,Mb,reduceIte])))
 refine Kk (fun x=> !p x) f.sat (y.up f) (fun x cs n K z j t m q=>?_) fun n r=>?_
 .refine J8 (Ip ?_)
  unfold Wq;refine F8 j fun b A C c g=>?_;refine Y6 c.sat (l.up c) rfl ?_;refine Z3 c.sat g m ?_;refine s C x _ A _ (fun b o e=>c.le b o (f.le b o e)) z c.sat (Rep.up c.le t) m fun B i=>?_
  (try simp only[↓M1,M1,Mb,reduceIte])
  exact q B (bt c.bel i)
 ·(try simp only[↓M1,M1,Mb,reduceIte])
  rw[Od];exact h n (bt f.bel r))
theorem Q0d {xs:List Q9} {v:Value} {fn:Fn} {g b:Array Value} (p:Q9->Bool) (n:X3 w σ) (o:Sl 1 L1 σ v xs)
 (l: ∀(σ1:Q2) x (w1:World) (K:Value->World->Prop),σ.Le σ1->x∈xs->X3 w1 σ1->x.length<=V4->(∀w',Below w1.heap.size w1 w'->K (.bool (p x)) w')->J6 P (.func fn g b) [S x] w1 K)
 (h: ∀w',Below w.heap.size w w'->K (.bool (xs.all p)) w'):Q0 P F.ab [v, .func fn g b] w K:=Q1W (by
 unfold Hg;refine F8 n fun a w1 σ1 d i=>?_;simp only[Value.cells] at i
 ((try simp only[↓M1,M1,Mb,reduceIte]);repeat ((first | refine ld Q8 Q8 rfl ?_ | refine Y6 Q8 Q8 rfl ?_ | refine Q6 Q8 ?_);(try simp only[↓M1,M1,Mb,reduceIte])))
 refine Yc (fun x=> !p x) d.sat (o.up d) (fun x f K q c m j=>?_) fun f k=>?_
 .refine J8 (Q01 ?_)
  unfold Ol;refine Y6 c i rfl ?_;refine l σ1 x f _ d.le q c m fun r e=>?_
  (try simp only[↓M1,M1,Mb,reduceIte])
  exact j r e
 ·(try simp only[↓M1,M1,Mb,reduceIte])
  rw[Od];exact h f (bt d.bel k))
theorem Q5y {xs:List Hm.Met} {v:Value} {fn:Fn} {E l:Array Value} (f:Hm.Met->Q9) (hs:X3 w σ) (C:Sl 7 F9 σ v xs)
 (Y: ∀(σ1:Q2) x cs (w1:World) (K:Value->World->Prop),σ.Le σ1->X3 w1 σ1->F9 σ1 x cs->cs.length=7->(∀w',Below w1.heap.size w1 w'->K (S (f x)) w')->J6 P (.func fn E l) [.agg cs.toArray] w1 K)
 (h: ∀w',Below w.heap.size w w'->K (.bool (Qw f [] xs)) w'):Q0 P F.aA [v, .func fn E l] w K:=Th (by
 unfold Nq;simp only[L9];unfold J3 V1 X4 X1;refine F8 hs fun a w1 σ1 A X=>?_;simp only[Value.cells] at X;have R:=A.sat;replace C:=C.up A
 ((try simp only[↓M1,M1,Mb,reduceIte]);repeat ((first | refine ld Q8 Q8 rfl ?_ | refine Y6 Q8 Q8 rfl ?_ | refine Q6 Q8 ?_);(try simp only[↓M1,M1,Mb,reduceIte])))
 refine V7 xs.length (fun n w'=>Below w1.heap.size w1 w'/\Qw f [] xs=Qw f (xs.take n) (xs.drop n)) ⟨Below.refl _ _,rfl⟩ fun n w2 d hn hi=>?_;obtain ⟨i,r⟩:=hi;have B:=R.below i
 ((try simp only[↓M1,M1,Mb,reduceIte]);repeat ((first | refine ld Q8 Q8 rfl ?_ | refine Y6 Q8 Q8 rfl ?_ | refine Q6 Q8 ?_);(try simp only[↓M1,M1,Mb,reduceIte])))
 refine Q4 (fun N=>?_) (fun N=>?_)
 .have k:n<xs.length:=by simpa using N
  rw[List.drop_eq_getElem_cons k] at r;simp only[Qw] at r;refine E4 C k fun p cs hl g Z=>?_;refine Z3 B hl g ?_;refine Z9 B (by rfl) g (Rep.one Z) fun q w3 σ3 j hq=>?_
  refine Gf (C.up j) none (some (I n)) 0 n (.inl ⟨rfl,rfl⟩) (.inr rfl) Q5 Q5 fun v' V=>?_
  ((try simp only[↓M1,M1,Mb,reduceIte]);repeat ((first | refine ld Q8 Q8 rfl ?_ | refine Y6 Q8 Q8 rfl ?_ | refine Q6 Q8 ?_);(try simp only[↓M1,M1,Mb,reduceIte])))
  refine Qf (fun y=>decide (f y=f xs[n])) j.sat V (fun y ys w4 K hy U Q D hK=>?_) fun w4 J=>?_
  .refine J8 (Is ?_)
   unfold Wu;simp only[Y5,N2];unfold X1;refine F8 U fun b w5 W c L=>?_;have u:=(X.up j).up c;have O:=hq.up c;have s:σ.Le W:=fun b o e=>c.le b o (j.le b o (A.le b o e));refine Cr (Below.refl _ _) ?_;refine Y1 (.func fn E l) (fun w i=>Y6 (c.sat.below i) u rfl (Y4 rfl)) ?_;refine Y1 (.agg ys.toArray) (fun w i=>Z3 (c.sat.below i) L D (Y4 rfl)) ?_;refine Y1 (S (f y)) (fun t t' w i e e'=>by rw[e,e'];exact Y W y ys w _ s (c.sat.below i) (Rep.up c.le Q) D fun w' H=>Q6S H rfl) ?_
   refine Y1 (.func fn E l) (fun w i=>Y6 (c.sat.below i) u rfl (Y4 rfl)) ?_;refine Y1 (.agg cs.toArray) (fun w i=>Z3 (c.sat.below i) O g (Y4 rfl)) ?_;rintro _ _ _ _ _ w6 z rfl rfl rfl rfl rfl;refine Y W xs[n] cs w6 _ s (c.sat.below z) (Rep.up (fun b o e=>c.le b o (j.le b o e)) Z) g fun w7 M=>?_
   (try simp only[↓M1,M1,Mb,reduceIte])
   exact hK w7 (bt (bt c.bel z) M)
  .have m:=bt i (bt j.bel J)
   simp only[List.drop_zero,Nat.sub_zero] at*;refine Q4 (fun hh=>?_) (fun hh=>?_)
   .rw[hh] at r
    have:=h w4 (bt A.bel m);rw[r] at this;exact this
   .rw[hh] at r
    ((try simp only[↓M1,M1,Mb,reduceIte]);repeat ((first | refine ld Q8 Q8 rfl ?_ | refine Y6 Q8 Q8 rfl ?_ | refine Q6 Q8 ?_);(try simp only[↓M1,M1,Mb,reduceIte])))
    refine Z4 C.max k ⟨m,?_⟩;rw[r,List.take_add_one,List.getElem?_eq_getElem k];rfl
 .have k: ¬n<xs.length:=by simpa using N
  rw[List.drop_eq_nil_of_le Q5] at r;have:=h w2 (bt A.bel i);rw[r] at this;exact this)
theorem Q6k {xs:List Fld} {v:Value} {fn:Fn} {E l:Array Value} (f:Fld->Q9) (hs:X3 w σ) (C:Sl 3 K3 σ v xs)
 (Y: ∀(σ1:Q2) x cs (w1:World) (K:Value->World->Prop),σ.Le σ1->X3 w1 σ1->K3 σ1 x cs->cs.length=3->(∀w',Below w1.heap.size w1 w'->K (S (f x)) w')->J6 P (.func fn E l) [.agg cs.toArray] w1 K)
 (h: ∀w',Below w.heap.size w w'->K (.bool (Qw f [] xs)) w'):Q0 P F.aF [v, .func fn E l] w K:=Q02 (by
 unfold Om;simp only[L9];unfold J3 V1 X4 X1;refine F8 hs fun a w1 σ1 A X=>?_;simp only[Value.cells] at X;have R:=A.sat;replace C:=C.up A
 ((try simp only[↓M1,M1,Mb,reduceIte]);repeat ((first | refine ld Q8 Q8 rfl ?_ | refine Y6 Q8 Q8 rfl ?_ | refine Q6 Q8 ?_);(try simp only[↓M1,M1,Mb,reduceIte])))
 refine V7 xs.length (fun n w'=>Below w1.heap.size w1 w'/\Qw f [] xs=Qw f (xs.take n) (xs.drop n)) ⟨Below.refl _ _,rfl⟩ fun n w2 d hn hi=>?_;obtain ⟨i,r⟩:=hi;have B:=R.below i
 ((try simp only[↓M1,M1,Mb,reduceIte]);repeat ((first | refine ld Q8 Q8 rfl ?_ | refine Y6 Q8 Q8 rfl ?_ | refine Q6 Q8 ?_);(try simp only[↓M1,M1,Mb,reduceIte])))
 refine Q4 (fun N=>?_) (fun N=>?_)
 .have k:n<xs.length:=by simpa using N
  rw[List.drop_eq_getElem_cons k] at r;simp only[Qw] at r;refine E4 C k fun p cs hl g Z=>?_;refine Z3 B hl g ?_;refine Z9 B (by rfl) g (Rep.one Z) fun q w3 σ3 j hq=>?_
  refine Gf (C.up j) none (some (I n)) 0 n (.inl ⟨rfl,rfl⟩) (.inr rfl) Q5 Q5 fun v' V=>?_
  ((try simp only[↓M1,M1,Mb,reduceIte]);repeat ((first | refine ld Q8 Q8 rfl ?_ | refine Y6 Q8 Q8 rfl ?_ | refine Q6 Q8 ?_);(try simp only[↓M1,M1,Mb,reduceIte])))
  refine Lh (fun y=>decide (f y=f xs[n])) j.sat V (fun y ys w4 K hy U Q D hK=>?_) fun w4 J=>?_
  .refine J8 (Po ?_)
   unfold Lu;simp only[Y5,N2];unfold X1;refine F8 U fun b w5 W c L=>?_;have u:=(X.up j).up c;have O:=hq.up c;have s:σ.Le W:=fun b o e=>c.le b o (j.le b o (A.le b o e));refine Cr (Below.refl _ _) ?_;refine Y1 (.func fn E l) (fun w i=>Y6 (c.sat.below i) u rfl (Y4 rfl)) ?_;refine Y1 (.agg ys.toArray) (fun w i=>Z3 (c.sat.below i) L D (Y4 rfl)) ?_;refine Y1 (S (f y)) (fun t t' w i e e'=>by rw[e,e'];exact Y W y ys w _ s (c.sat.below i) (Rep.up c.le Q) D fun w' H=>Q6S H rfl) ?_
   refine Y1 (.func fn E l) (fun w i=>Y6 (c.sat.below i) u rfl (Y4 rfl)) ?_;refine Y1 (.agg cs.toArray) (fun w i=>Z3 (c.sat.below i) O g (Y4 rfl)) ?_;rintro _ _ _ _ _ w6 z rfl rfl rfl rfl rfl;refine Y W xs[n] cs w6 _ s (c.sat.below z) (Rep.up (fun b o e=>c.le b o (j.le b o e)) Z) g fun w7 M=>?_
   (try simp only[↓M1,M1,Mb,reduceIte])
   exact hK w7 (bt (bt c.bel z) M)
  .have m:=bt i (bt j.bel J)
   simp only[List.drop_zero,Nat.sub_zero] at*;refine Q4 (fun hh=>?_) (fun hh=>?_)
   .rw[hh] at r
    have:=h w4 (bt A.bel m);rw[r] at this;exact this
   .rw[hh] at r
    ((try simp only[↓M1,M1,Mb,reduceIte]);repeat ((first | refine ld Q8 Q8 rfl ?_ | refine Y6 Q8 Q8 rfl ?_ | refine Q6 Q8 ?_);(try simp only[↓M1,M1,Mb,reduceIte])))
    refine Z4 C.max k ⟨m,?_⟩;rw[r,List.take_add_one,List.getElem?_eq_getElem k];rfl
 .have k: ¬n<xs.length:=by simpa using N
  rw[List.drop_eq_nil_of_le Q5] at r;have:=h w2 (bt A.bel i);rw[r] at this;exact this)
theorem Q9v {xs:List Q9} {v:Value} {fn:Fn} {D k:Array Value} (f:Q9->Q9) (hs:X3 w σ) (C:Sl 1 L1 σ v xs)
 (U: ∀(σ1:Q2) x (w1:World) (K:Value->World->Prop),σ.Le σ1->X3 w1 σ1->x.length<=V4->(∀w',Below w1.heap.size w1 w'->K (S (f x)) w')->J6 P (.func fn D k) [S x] w1 K)
 (h: ∀w',Below w.heap.size w w'->K (.bool (Qw f [] xs)) w'):Q0 P F.b1 [v, .func fn D k] w K:=Q3e (by
 unfold Sr;simp only[L9];unfold J3 V1 X4 X1;refine F8 hs fun a w1 σ1 A R=>?_;simp only[Value.cells] at R;have N:=A.sat;replace C:=C.up A
 ((try simp only[↓M1,M1,Mb,reduceIte]);repeat ((first | refine ld Q8 Q8 rfl ?_ | refine Y6 Q8 Q8 rfl ?_ | refine Q6 Q8 ?_);(try simp only[↓M1,M1,Mb,reduceIte])))
 refine V7 xs.length (fun n w'=>Below w1.heap.size w1 w'/\Qw f [] xs=Qw f (xs.take n) (xs.drop n)) ⟨Below.refl _ _,rfl⟩ fun n w2 d hn Y=>?_;obtain ⟨c,m⟩:=Y;have B:=N.below c
 ((try simp only[↓M1,M1,Mb,reduceIte]);repeat ((first | refine ld Q8 Q8 rfl ?_ | refine Y6 Q8 Q8 rfl ?_ | refine Q6 Q8 ?_);(try simp only[↓M1,M1,Mb,reduceIte])))
 refine Q4 (fun L=>?_) (fun L=>?_)
 .have i:n<xs.length:=by simpa using L
  rw[List.drop_eq_getElem_cons i] at m;simp only[Qw] at m;refine E4 C i fun p cs Z V hr=>?_;obtain ⟨rfl,z⟩:=hr;refine Y6 B Z rfl ?_;refine W8 B (by rfl) rfl rfl fun q w3 Q g hq=>?_
  refine Gf (C.up g) none (some (I n)) 0 n (.inl ⟨rfl,rfl⟩) (.inr rfl) Q5 Q5 fun v' O=>?_
  ((try simp only[↓M1,M1,Mb,reduceIte]);repeat ((first | refine ld Q8 Q8 rfl ?_ | refine Y6 Q8 Q8 rfl ?_ | refine Q6 Q8 ?_);(try simp only[↓M1,M1,Mb,reduceIte])))
  refine Yc (fun y=>decide (f y=f xs[n])) g.sat O (fun y W K hy j M X=>?_) fun W H=>?_
  .refine J8 (Q0B ?_)
   unfold Du;simp only[Y5,X5];unfold X1;have s:=R.up g;have r:σ.Le Q:=fun b o e=>g.le b o (A.le b o e);refine Cr (Below.refl _ _) ?_;refine Y1 (.func fn D k) (fun w c=>Y6 (j.below c) s rfl (Y4 rfl)) ?_;refine Y1 (S (f y)) (fun t w c e=>by rw[e];exact U Q y w _ r (j.below c) M fun w' E=>Q6S E rfl) ?_
   refine Y1 (.func fn D k) (fun w c=>Y6 (j.below c) s rfl (Y4 rfl)) ?_;refine Y1 (S xs[n]) (fun w c=>Y6 (j.below c) hq rfl (Y4 rfl)) ?_;rintro _ _ _ _ w6 u rfl rfl rfl rfl;refine U Q xs[n] w6 _ r (j.below u) z fun w7 J=>?_
   (try simp only[↓M1,M1,Mb,reduceIte])
   exact X w7 (bt u J)
  .have l:=bt c (bt g.bel H)
   simp only[List.drop_zero,Nat.sub_zero] at*;refine Q4 (fun hh=>?_) (fun hh=>?_)
   .rw[hh] at m
    have:=h W (bt A.bel l);rw[m] at this;exact this
   .rw[hh] at m
    ((try simp only[↓M1,M1,Mb,reduceIte]);repeat ((first | refine ld Q8 Q8 rfl ?_ | refine Y6 Q8 Q8 rfl ?_ | refine Q6 Q8 ?_);(try simp only[↓M1,M1,Mb,reduceIte])))
    refine Z4 C.max i ⟨l,?_⟩;rw[m,List.take_add_one,List.getElem?_eq_getElem i];rfl
 .have i: ¬n<xs.length:=by simpa using L
  rw[List.drop_eq_nil_of_le Q5] at m;have:=h w2 (bt A.bel c);rw[m] at this;exact this)
theorem X28 {P:Program} {w:World} (d:Nat) (t e:TypeId) (a:Option Addr) (n c:Nat) (h:P.underlying t=some (.slice e)):
 (Op.equalIn (d+1) t (.slice a n c) (.slice none 0 0)).run P w= .ok a.isNone w:=by
 cases a<;>simp[Op.equalIn,run_underlying h]
theorem Q0g {t e:TypeId} {i j:Operand} [ts:TS P t e] {a:Option Addr} {n c:Nat} {b:Bool} (f:a.isNone=b) (g:K (.bool b) w):Z2 P .eql t i j (.slice a n c) (.slice none 0 0) w K:=by
 have d:(Op.equal t (.slice a n c) (.slice none 0 0)).run P w= .ok b w:=by
  have:=X28 (P:=P) (w:=w) 9999 t e a n c ts.h;rw[f] at this;exact this
 unfold Z2;rw[Y8 (v:= .bool b) (w':=w) (by simp[eqGuard,Go.binOp,d])]
 exact g
theorem Dn {xs:List Q9} {v:Value} (f:X3 w σ) (g:Sl 1 L1 σ v xs) (A:xs.length<=1000000)
 (h: ∀i w' b,Stp w σ w' b->Sl 1 L1 b i xs->K i w'):Q0 P F.aa [v] w K:=Ry (by
 unfold Zt;have d:=g;obtain ⟨a,j,rfl,t,u,k,y⟩:=g;refine Q0g rfl ?_;refine Q4 (fun e=>?_) (fun e=>?_)
 .have:a=none:=by simpa using e
  have s:=k this;have o:xs=[]:=List.eq_nil_of_length_eq_zero Q5;subst o;exact h _ w σ (Stp.refl f) Sl.nil
 .refine Xu (R:=L1) (sz:=1) (Stp.refl f) [] [] rfl rfl V5 (by rfl) trivial fun B w1 n m _=>?_
  refine app n m d (by rfl) (by simp only[List.length_nil];omega) (by simp only[List.length_nil];omega) fun C r z l c _=>?_
  obtain ⟨b,p,q,_⟩:=c.keep l;exact h _ r b p q)
theorem Bq {xs:List Fld} {v:Value} (f:X3 w σ) (g:Sl 3 K3 σ v xs) (A:xs.length<=1000000)
 (h: ∀i w' b,Stp w σ w' b->Sl 3 K3 b i xs->K i w'):Q0 P F.ag [v] w K:=Mk (by
 unfold Xx;have d:=g;obtain ⟨a,j,rfl,t,u,k,y⟩:=g;refine Q0g rfl ?_;refine Q4 (fun e=>?_) (fun e=>?_)
 .have:a=none:=by simpa using e
  have s:=k this;have o:xs=[]:=List.eq_nil_of_length_eq_zero Q5;subst o;exact h _ w σ (Stp.refl f) Sl.nil
 .refine Xu (R:=K3) (sz:=3) (Stp.refl f) [] [] rfl rfl V5 (by rfl) trivial fun B w1 n m _=>?_
  refine app n m d (by rfl) (by simp only[List.length_nil];omega) (by simp only[List.length_nil];omega) fun C r z l c _=>?_
  obtain ⟨b,p,q,_⟩:=c.keep l;exact h _ r b p q)
theorem Bs {xs:List Ins} {v:Value} (f:X3 w σ) (g:Sl 3 Zn σ v xs) (A:xs.length<=1000000)
 (h: ∀i w' b,Stp w σ w' b->Sl 3 Zn b i xs->K i w'):Q0 P F.ah [v] w K:=Ml (by
 unfold Xy;have d:=g;obtain ⟨a,j,rfl,t,u,k,y⟩:=g;refine Q0g rfl ?_;refine Q4 (fun e=>?_) (fun e=>?_)
 .have:a=none:=by simpa using e
  have s:=k this;have o:xs=[]:=List.eq_nil_of_length_eq_zero Q5;subst o;exact h _ w σ (Stp.refl f) Sl.nil
 .refine Xu (R:=Zn) (sz:=3) (Stp.refl f) [] [] rfl rfl V5 (by rfl) trivial fun B w1 n m _=>?_
  refine app n m d (by rfl) (by simp only[List.length_nil];omega) (by simp only[List.length_nil];omega) fun C r z l c _=>?_
  obtain ⟨b,p,q,_⟩:=c.keep l;exact h _ r b p q)
theorem Bp {xs:List Cat} {v:Value} (f:X3 w σ) (g:Sl 4 Ld σ v xs) (A:xs.length<=1000000)
 (h: ∀i w' b,Stp w σ w' b->Sl 4 Ld b i xs->K i w'):Q0 P F.af [v] w K:=Mj (by
 unfold Xw;have d:=g;obtain ⟨a,j,rfl,t,u,k,y⟩:=g;refine Q0g rfl ?_;refine Q4 (fun e=>?_) (fun e=>?_)
 .have:a=none:=by simpa using e
  have s:=k this;have o:xs=[]:=List.eq_nil_of_length_eq_zero Q5;subst o;exact h _ w σ (Stp.refl f) Sl.nil
 .refine Xu (R:=Ld) (sz:=4) (Stp.refl f) [] [] rfl rfl V5 (by rfl) trivial fun B w1 n m _=>?_
  refine app n m d (by rfl) (by simp only[List.length_nil];omega) (by simp only[List.length_nil];omega) fun C r z l c _=>?_
  obtain ⟨b,p,q,_⟩:=c.keep l;exact h _ r b p q)
end Go.Proofs.Y
namespace Go.Hm
open Go.Kd
structure Opr where
  name : Q9
  number : Bool
  text : Bool
deriving DecidableEq
def Mg:List Opr:=[
 ⟨[105,110,116],true,false⟩,
 ⟨[116,114,117,101],false,false⟩,
 ⟨[102,97,108,115,101],false,false⟩,
 ⟨[119,111,114,100],false,true⟩,
 ⟨[110,117,108,108],false,false⟩,
 ⟨[108,111,97,100],true,false⟩,
 ⟨[115,116,111,114,101],true,false⟩,
 ⟨[112,111,112],false,false⟩,
 ⟨[100,117,112],false,false⟩,
 ⟨[115,119,97,112],false,false⟩,
 ⟨[97,100,100],false,false⟩,
 ⟨[115,117,98],false,false⟩,
 ⟨[109,117,108],false,false⟩,
 ⟨[100,105,118],false,false⟩,
 ⟨[114,101,109],false,false⟩,
 ⟨[110,101,103],false,false⟩,
 ⟨[108,101,115,115],false,false⟩,
 ⟨[115,97,109,101],false,false⟩,
 ⟨[110,111,116],false,false⟩,
 ⟨[98,111,116,104],false,false⟩,
 ⟨[106,111,105,110],false,false⟩,
 ⟨[115,105,122,101],false,false⟩,
 ⟨[106,117,109,112],true,false⟩,
 ⟨[98,114,97,110,99,104],true,false⟩,
 ⟨[110,101,119],false,true⟩,
 ⟨[103,101,116],false,true⟩,
 ⟨[112,117,116],false,true⟩,
 ⟨[99,97,108,108],false,true⟩,
 ⟨[97,114,114,97,121],false,true⟩,
 ⟨[97,116],false,false⟩,
 ⟨[115,101,116],false,false⟩,
 ⟨[105,115],false,true⟩,
 ⟨[99,97,115,116],false,true⟩,
 ⟨[114,101,116,117,114,110],false,false⟩,
 ⟨[116,104,114,111,119],false,false⟩,
 ⟨[111,117,116],false,false⟩,
 ⟨[101,113,117,97,108],false,false⟩,
 ⟨[97,110,100],false,false⟩,
 ⟨[111,114],false,false⟩,
 ⟨[120,111,114],false,false⟩,
 ⟨[115,104,108],false,false⟩,
 ⟨[115,104,114],false,false⟩]
end Go.Hm
namespace Go.Emb
open Go.Hm
def ROp (_:Q2) (o:Opr) (cs:List Value):Prop:=cs=[S o.name, .bool o.number, .bool o.text]
def cOp (o:Opr):List Value:=[S o.name, .bool o.number, .bool o.text]
instance:Rep ROp:=⟨fun _ h=>h,fun h u hu=>by rw[h] at hu;simp at hu;rcases hu with rfl | rfl | rfl<;>rfl⟩
end Go.Emb
namespace Go.Proofs.Y
open Go.Emb Go.RowKit Go.Kd Go.Hm
variable {w : World} {K : Value -> World -> Prop} {σ : Q2}
theorem X0e {a:Q9} (k:a.length<=V4) (h: ∀w',Below w.heap.size w w'->K (.bool (B5 a)) w'):Q0 P F.cg [S a] w K:=Q8p (by
 unfold Q0j X8;have b:a.length<=140737488355328:=by simp only[V4] at k;omega
 refine X0J a b fun w1 e=>?_;cases d:name a
 ·(try simp only[↓M1,M1,Mb,reduceIte])
  have:=h w1 e
  rwa [show B5 a=false by cases a with | nil=>rfl | cons c r=>simp[B5,d]] at this
 ·(try simp only[↓M1,M1,Mb,reduceIte])
  refine Ke a b fun m j=>?_
  (try simp only[↓M1,M1,Mb,reduceIte])
  have:=h m (bt e j)
  rwa [show B5 a= !C6 a by
   cases a with
   | nil=>simp[name] at d
   | cons c r=>
    obtain ⟨i,l⟩:=Q19 d;simp only[C6,B5,d,Bool.true_and];simp only[K9,l,Bool.or_false] at i;cases f:Jt c.toNat<;>cases g:Zg c.toNat
    .simp[f,g] at i
    .rfl
    .rfl
    .exfalso
     simp only[Jt,Zg,Bool.and_eq_true,decide_eq_true_eq] at f g;omega] at this)
theorem X95 {t e:TypeId} {n sz b:Nat} {z:Value} [ta:TA P t n e] [tz:TZ P e sz b z] {a:Addr} (d:K (.slice (some a) n n) w):I7 P t (.pointer (some a)) none none none w K:=by
 unfold I7
 have:(Instr.sliceAt t (.pointer (some a)) none none none).run P w= .ok (.slice (some (if n=0 then a else a.add (0*sz))) (n-0) (n-0)) w:=by
  simp[Instr.sliceAt,run_underlying ta.h,Instr.sureAddr,Instr.sliceBounds,H2 tz]
 rw[Y8 this]
 have c:(if n=0 then a else a.add (0*sz))=a:=by
  by_cases h:n=0
  .rw[if_pos h]
  .rw[if_neg h,Nat.zero_mul,add_zero]
 rw[c];exact d
def Q6i (σ:Q2):Prop:=U0 σ ⟨G.a,0,none⟩ (Mg.flatMap cOp)
theorem X33 (i:Nat) (o:Opr) (h:Mg[i]? =some o):((Mg.flatMap cOp).drop (i*3)).take 3=cOp o:=by
 have c:i<42:=(List.getElem?_eq_some_iff.1 h).1
 have key: ∀l:List Opr,∀i o,l[i]? =some o->((l.flatMap cOp).drop (i*3)).take 3=cOp o:=by
  intro l
  induction l with
  | nil=>intro i o h;simp at h
  | cons a r b=>
   intro i o h;cases i with
   | zero=>simp at h;subst h;rfl
   | succ i=>
    have:=b i o (by simpa using h)
    rw[List.flatMap_cons,show (i+1)*3=(cOp a).length+i*3 by simp[cOp];omega,List.drop_append]
    simpa [List.drop_eq_nil_of_le] using this
 exact key _ i o h
theorem Q7e {σ:Q2} {a:Addr} {cs:List Value} (h:U0 σ a cs) (i n:Nat):U0 σ (a.add i) ((cs.drop i).take n):=by
 obtain ⟨d,arr,e,c,f,g⟩:=h;refine ⟨Xj d _,arr,e,c,by rw[K8];exact f,fun j v b=>?_⟩
 rw[List.getElem?_take] at b
 split at b
 .rw[List.getElem?_drop] at b
  rw[Zi,Nat.add_assoc];exact g _ _ b
 .cases b
theorem Y05 (h:Q6i σ):Sl 3 ROp σ (.slice (some ⟨G.a,0,none⟩) 42 42) Mg:=by
 refine ⟨_,42,rfl,by decide,by decide,by simp,?_⟩
 rintro _ ⟨⟩;refine ⟨fun _=>rfl,fun i x a=>⟨cOp x,?_,rfl,rfl⟩⟩;rw[<-X33 i x a];exact Q7e h (i*3) 3
theorem Q3B {β:Type} {xs:List Opr} {v f:Value} (b:β->Opr->Bool×β) (m:β) (a:β->World->Prop) (D:Nat->Prop) (l: ∀s w,a s w->X3 w σ) (y:a m w) (u:Sl 3 ROp σ v xs)
 (z: ∀s x cs (w1:World) (K:Value->World->Prop),x∈xs->Kpt D w w1->a s w1->ROp σ x cs->cs.length=3->(∀w',Kpt D w w'->a (b s x).2 w'->K (.bool (b s x).1) w')->J6 P f [.agg cs.toArray] w1 K)
 (h: ∀w',Kpt D w w'->a (W1 b m xs 0).2 w'->K (I (E1 (W1 b m xs 0).1)) w'):Q0 P F.v [v,f] w K:=Mn (by
 unfold Xz J3 V1 X4 X1
 ((try simp only[↓M1,M1,Mb,reduceIte]);repeat ((first | refine ld Q8 Q8 rfl ?_ | refine Y6 Q8 Q8 rfl ?_ | refine Q6 Q8 ?_);(try simp only[↓M1,M1,Mb,reduceIte])))
 refine V7 xs.length (fun n w'=>Kpt D w w'/\ ∃s,a s w'/\W1 b m xs 0=W1 b s (xs.drop n) n) ⟨Kpt.refl,m,y,rfl⟩ fun n w1 d E i=>?_;obtain ⟨t,s,i,e⟩:=i;have r:=l s w1 i
 ((try simp only[↓M1,M1,Mb,reduceIte]);repeat ((first | refine ld Q8 Q8 rfl ?_ | refine Y6 Q8 Q8 rfl ?_ | refine Q6 Q8 ?_);(try simp only[↓M1,M1,Mb,reduceIte])))
 refine Q4 (fun q=>?_) (fun q=>?_)
 .have c:n<xs.length:=by simpa using q
  refine E4 u c fun p cs A g B=>?_;refine Z3 r A g ?_;refine z s xs[n] cs w1 _ (List.getElem_mem c) t i B g fun C k j=>?_;rw[List.drop_eq_getElem_cons c] at e;simp only[W1] at e;refine Q4 (fun o=>?_) (fun o=>?_)
  .rw[o] at e
   have:=h C k;rw[e] at this;exact this j
  .rw[o] at e
   ((try simp only[↓M1,M1,Mb,reduceIte]);repeat ((first | refine ld Q8 Q8 rfl ?_ | refine Y6 Q8 Q8 rfl ?_ | refine Q6 Q8 ?_);(try simp only[↓M1,M1,Mb,reduceIte])))
   exact Z4 u.max c ⟨k,_,j,by simpa using e⟩
 .have c: ¬n<xs.length:=by simpa using q
  rw[List.drop_eq_nil_of_le Q5] at e;have:=h w1 t;rw[e] at this;exact this i)
theorem Q2M {xs:List Opr} {v f:Value} (p:Opr->Bool) (hs:X3 w σ) (hv:Sl 3 ROp σ v xs)
 (hf: ∀x cs (w1:World) (K:Value->World->Prop),x∈xs->X3 w1 σ->ROp σ x cs->cs.length=3->(∀w',Below w1.heap.size w1 w'->K (.bool (p x)) w')->J6 P f [.agg cs.toArray] w1 K)
 (h: ∀w',Below w.heap.size w w'->K (I (E1 (xs.findIdx? p))) w'):Q0 P F.v [v,f] w K:=by
 refine Q3B (fun (_:Unit) x=>(p x,())) () (fun _ w'=>Below w.heap.size w w') (fun _=>False) (fun _ w' hb=>hs.below hb) (Below.refl _ _) hv (fun s x cs w1 K hx hk hi hr hl hK=>hf x cs w1 K hx (hs.below hi) hr hl fun w' hb=>hK w' (.of_below (bt hi hb)) (bt hi hb)) fun w' hk hi=>?_;rw[Xc]
 simpa using h w' hi
theorem Q6i.le {σ a:Q2} (h:Q6i σ) (c: ∀b o,σ b=some o->a b=some o):Q6i a:=U0.le h c
def Zr (n:Q9):Option Nat:=Mg.findIdx? fun o=>decide (o.name=n)
theorem X9s {a:Q9} (r:X3 w σ) (k:Q6i σ) (h: ∀w',Below w.heap.size w w'->K (I (E1 (Zr a))) w'):Q0 P F.dp [S a] w K:=X2p (by
 unfold Q5Y;refine F8 r fun p w1 σ1 c f=>?_;simp only[Value.cells] at f;refine X95 ?_
 ((try simp only[↓M1,M1,Mb,reduceIte]);repeat ((first | refine ld Q8 Q8 rfl ?_ | refine Y6 Q8 Q8 rfl ?_ | refine Q6 Q8 ?_);(try simp only[↓M1,M1,Mb,reduceIte])))
 refine Q2M (fun o=>decide (o.name=a)) c.sat (Y05 (k.le c.le)) (fun x cs g K v e n u i=>?_) fun g j=>?_
 .refine J8 (Q9C ?_)
  unfold Q2D X6 X1;refine F8 e fun q t y b m=>?_;have d:cs=[S x.name, .bool x.number, .bool x.text]:=n;subst d;have s:=b.sat;have l:=f.up b;simp only[Value.cells] at m
  ((try simp only[↓M1,M1,Mb,reduceIte]);repeat ((first | refine ld Q8 Q8 rfl ?_ | refine Y6 Q8 Q8 rfl ?_ | refine Q6 Q8 ?_);(try simp only[↓M1,M1,Mb,reduceIte])))
  exact i t b.bel
 ·(try simp only[↓M1,M1,Mb,reduceIte])
  exact h g (bt c.bel j))
def K1 (n:Q9):Bool×Bool×Bool:=match Zr n with
 | none=>(false,false,false)
 | some i=>((Mg.getD i ⟨[],false,false⟩).number,(Mg.getD i ⟨[],false,false⟩).text,true)
theorem X87 {a:Q9} (l:X3 w σ) (j:Q6i σ) (h: ∀w',Below w.heap.size w w'->K (.tuple #[.bool (K1 a).1, .bool (K1 a).2.1, .bool (K1 a).2.2]) w'):Q0 P F.cL [S a] w K:=X19 (by
 unfold Q3Y;simp only[Y5,X5];unfold X2;refine X9s l j fun w1 b=>?_;have c:=l.below b;unfold K1 at h;cases f:Zr a with
 | none=>
  rw[f] at h;simp only[E1]
  (try simp only[↓M1,M1,Mb,reduceIte])
  simp only[show decide ((-1:Int)<0)=true from rfl,↓M1,M1,Mb,reduceIte]
  exact h w1 b
 | some i=>
  rw[f] at h;simp only at h;have n:i<42:=(List.findIdx?_eq_some_iff_getElem.1 f).1
  have k:Mg[i]? =some (Mg.getD i ⟨[],false,false⟩):=by
   rw[List.getD,List.getElem?_eq_getElem (by exact n)];rfl
  generalize Mg.getD i ⟨[],false,false⟩=o at h k;have g:=Q7e j (i*3) 3;rw[X33 i o k] at g;simp only[E1];have m:decide ((i:Int)<0)=false:=by simp
  simp only[m,↓M1,M1,Mb,reduceIte]
  have A: ∀{w:World} {K:Value->World->Prop},K (.pointer (some ((⟨G.a,0,none⟩:Addr).add (i*3)))) w->indexAddr P T.ao (.pointer (some ⟨G.a,0,none⟩)) (I i) w K:=by
   intro w K h;rw[X0H Q5 Q5]
   simpa using h
  refine Cr (Below.refl _ _) ?_;refine Y1 (.pointer (some ((⟨G.a,0,none⟩:Addr).add (i*3)))) (fun w b=>A (Y4 rfl)) ?_;refine Y1 (.pointer (some (((⟨G.a,0,none⟩:Addr).add (i*3)).add 1))) (fun t w b e=>by rw[e,fa];exact Y4 rfl) ?_
  refine Y1 (.pointer (some ((⟨G.a,0,none⟩:Addr).add (i*3)))) (fun w b=>A (Y4 rfl)) ?_;refine Y1 (.pointer (some (((⟨G.a,0,none⟩:Addr).add (i*3)).add 2))) (fun t w b e=>by rw[e,fa];exact Y4 rfl) ?_
  refine Y1 (.bool o.number) (fun t w b e=>by rw[e];exact ld (c.below b) g rfl (Y4 rfl)) ?_
  refine Y1 (.bool o.text) (fun t w b e=>by rw[e];exact ld (c.below b) g rfl (Y4 rfl)) ?_
  rintro _ _ _ _ _ _ p d rfl rfl rfl rfl rfl rfl;exact h p (bt b d))
end Go.Proofs.Y
namespace Go.Emb
open Go.RowKit Go.Hm
variable {P : Program} {w w' : World} {K : Value -> World -> Prop} {σ σ0 σ' : Q2}
structure SLe (σ σ' : Q2) : Prop where
  le : ∀ b o, σ b = some o -> σ' b = some o
theorem SLe.refl (σ:Q2):SLe σ σ:=⟨fun _ _ h=>h⟩
theorem SLe.step {w w':World} (h:SLe σ0 σ) (k:Stp w σ w' σ'):SLe σ0 σ':=⟨fun b o e=>k.le b o (h.le b o e)⟩
theorem SLe.more (h:SLe σ0 σ) (k:SLe σ σ'):SLe σ0 σ':=⟨fun b o e=>k.le b o (h.le b o e)⟩
structure Hst (w : World) (σ : Q2) (w' : World) (σ' : Q2) : Prop where
  stp : Stp w σ w' σ'
theorem Hst.sat (h:Hst w σ w' σ'):X3 w' σ':=h.stp.sat
variable {α : Type} {R : Q2 -> α -> List Value -> Prop} {sz : Nat} {v : Value} {xs : List α} {a : Addr} {cs : List Value}
theorem Sl.lift [Rep R] (h:Sl sz R σ0 v xs) (k:SLe σ0 σ):Sl sz R σ v xs:=h.le k.le
theorem U0.lift (h:U0 σ0 a cs) (k:SLe σ0 σ):U0 σ a cs:=h.le k.le
theorem Js.lift {r:Nat} {m:List (List UInt8×Value)} (h:Js σ0 r m) (k:SLe σ0 σ):Js σ r m:=h.le k.le
theorem RMe_lift {x:Hm.Met} (h:F9 σ0 x cs) (k:SLe σ0 σ):F9 σ x cs:=Rep.up k.le h
theorem RCl_lift {x:Cla} (h:M8 σ0 x cs) (k:SLe σ0 σ):M8 σ x cs:=Rep.up k.le h
theorem RFd_any {x:Fld} (h:K3 σ0 x cs):K3 σ x cs:=h
theorem RIn_any {x:Ins} (h:Zn σ0 x cs):Zn σ x cs:=h
theorem RCa_any {x:Cat} (h:Ld σ0 x cs):Ld σ x cs:=h
theorem Z7.step {b:Nat} (h:Z7 σ w b cs) (k:Stp w σ w' σ'):Z7 σ' w' b cs:=h.up k
theorem W4.step [Rep R] {B:Nat} {e:TypeId} (h:W4 B e sz R σ w v xs) (k:Stp w σ w' σ'):W4 B e sz R σ' w' v xs:=h.up k
theorem H6 {Q:World->Prop} (d:X3 w σ) (h: ∀w' σ',Stp w σ w' σ'->Q w'): ∀w',Below w.heap.size w w'->Q w':=fun w' c=>h w' σ (Stp.of_below d c)
variable {k : IntKind} {t : TypeId} {ox oy : Operand} {a b : Int} {x : Bool} {s u : List UInt8}
theorem C2 (h:K (.int k (k.wrap (a+b))) w):Z2 P .add t ox oy (.int k a) (.int k b) w K:=by rw[Q09];exact h
theorem Zm (c: -9223372036854775808<=a+b/\a+b<=9223372036854775807) (h:K (I (a+b)) w):Z2 P .add t ox oy (I a) (I b) w K:=by rw[Q09,Qi c.1 c.2];exact h
theorem Wh (c: -9223372036854775808<=a-b/\a-b<=9223372036854775807) (h:K (I (a-b)) w):Z2 P .sub t ox oy (I a) (I b) w K:=by rw[Q7Z,Qi c.1 c.2];exact h
theorem X7V (h:K (.int k (k.wrap (a*b))) w):Z2 P .mul t ox oy (.int k a) (.int k b) w K:=by rw[Q7X];exact h
theorem Y9 (h:K (.bool (decide (a<b))) w):Z2 P .lss t ox oy (.int k a) (.int k b) w K:=by rw[Q7W];exact h
theorem Q9U (h:K (.bool (decide (a<=b))) w):Z2 P .leq t ox oy (.int k a) (.int k b) w K:=by rw[Q7V];exact h
theorem Vo (h:K (.bool (decide (b<a))) w):Z2 P .gtr t ox oy (.int k a) (.int k b) w K:=by rw[Kc];exact h
theorem T2 (h:K (.bool (decide (b<=a))) w):Z2 P .geq t ox oy (.int k a) (.int k b) w K:=by rw[Q55];exact h
theorem E7 (h:K (.bool (decide (a=b))) w):Z2 P .eql t ox oy (.int k a) (.int k b) w K:=by rw[Q54];exact h
theorem Lb (h:K (.bool (!decide (a=b))) w):Z2 P .neq t ox oy (.int k a) (.int k b) w K:=by rw[Q7Y];exact h
theorem Nj (h:K (.bool (!x)) w):W2 P .not (.bool x) w K:=by rw[Q8y];exact h
theorem Y1e (h:K (.int k (k.wrap (0-a))) w):W2 P .neg (.int k a) w K:=by rw[X98];exact h
theorem K2 (h:K (.bool (decide (s=u))) w):Z2 P .eql t ox oy (S s) (S u) w K:=by rw[Ak];exact h
theorem Jb (h:K (.bool (!decide (s=u))) w):Z2 P .neq t ox oy (S s) (S u) w K:=by rw[Al];exact h
theorem H4 (c:s.length+u.length<=9223372036854775807) (h:K (S (s++u)) w):Z2 P .add t ox oy (S s) (S u) w K:=by rw[Q5P c];exact h
theorem Oy {cs:List Bool} {r:TypeId} (c:P.underlying t=some .string) (h:K (I s.length) w):U4 P .len [t] r cs [S s] w K:=by rw[I4 c];exact h
theorem X9f {v u:Value} (h:K v w):pick P (.bool true) v u w K:=by rw[F5];exact h
theorem X9e {v u:Value} (h:K u w):pick P (.bool false) v u w K:=by rw[C8];exact h
theorem F6 {v u:Value} (h:K (if x=true then v else u) w):pick P (.bool x) v u w K:=by rw[Fw];exact h
theorem Q0S {f:Fn} {first caps:List Value} (h:K (.func f first.toArray caps.toArray) w):S1 P f first caps w K:=by rw[Zl];exact h
theorem J5 {vs:List Value} {i:Nat} {v:Value} (c:vs[i]? =some v) (h:K v w):ext P (.tuple vs.toArray) i w K:=by rw[Lm c];exact h
theorem Q7P {a:Addr} (h:K (.pointer (some a)) w):nilCheck P (.pointer (some a)) w K:=by rw[C0];exact h
theorem Z1 {t e:Prop} (h:t):X0 (.bool true) t e:=by rw[I5];exact h
theorem Z0 {t e:Prop} (h:e):X0 (.bool false) t e:=by rw[F3];exact h
theorem Y0l {c:World->(Value->World->Prop)->Prop} (h:c w K):Q1 (.bool true) true w c K:=by rw[H0];exact h
theorem Y0k {c:World->(Value->World->Prop)->Prop} (h:c w K):Q1 (.bool false) false w c K:=by rw[C3];exact h
theorem X9d {c:World->(Value->World->Prop)->Prop} (h:K undef w):Q1 (.bool true) false w c K:=by rw[Qs];exact h
theorem X9a {c:World->(Value->World->Prop)->Prop} (h:K undef w):Q1 (.bool false) true w c K:=by rw[G8];exact h
variable {a : Addr}
theorem Z6 {t:TypeId} (f:X3 w σ) (h: ∀a w' σ',Stp w σ w' σ'->U0 σ' a cs->K (.pointer (some a)) w'):box P t (.agg cs.toArray) w K:=
 F8 f fun a w' σ' c d=>h a w' σ' c (by simpa [Value.cells] using d)
theorem L6 {t:TypeId} (g:X3 w σ) (d:v.cells= #[v]) (h: ∀a w' σ',Stp w σ w' σ'->U0 σ' a [v]->K (.pointer (some a)) w'):box P t v w K:=
 F8 g fun a w' σ' f c=>h a w' σ' f (by rw[d] at c;exact c)
theorem Dh (h:Sl sz R σ v xs):v.cells= #[v]:=by
 obtain ⟨a,c,rfl,_⟩:=h;rfl
theorem U7 {t:TypeId} {k c:Nat} {d:TypeId} {sz by_:Nat} {z:Value} [tf:TF P t k c d] [tz:TZ P d sz by_ z] [nz:NZ sz] (h:K (.pointer (some (a.add c))) w):fieldAddr P t (.pointer (some a)) k w K:=by
 rw[fa];exact h
theorem W3 {t:TypeId} {k c:Nat} {d:TypeId} [tf:TF P t k c d] [tg:TG P d false] {cs:List Value} {v:Value} (f:cs[c]? =some v) (h:K v w):Xv P t (.agg cs.toArray) k w K:=by
 rw[X8z (v:=v) (by simpa using f)];exact h
theorem V3 {A:(World->World->Prop)->(World->Prop)->Prop} (f:X3 w σ) (h:A (fun w w'=>Below w.heap.size w w') (fun w'=>Hst w σ w' σ)):dr w A:=
 Q13 _ _ ⟨Stp.of_below f (Below.refl _ _).drew⟩ (fun _ _ c d=>⟨c.stp.trans (Stp.of_below c.sat d)⟩) h
theorem H9 {α:Type} {R:Q2->α->List Value->Prop} {sz:Nat} {v:Value} {xs:List α} {t:TypeId} (c:X3 w σ) (d:Sl sz R σ v xs) (h: ∀a w' σ',Stp w σ w' σ'->U0 σ' a [v]->K (.pointer (some a)) w'):box P t v w K:=
 L6 c (Dh d) h
variable {e : TypeId} {by_ : Nat} {z : Value} {n : Nat}
theorem X0G {xs:List Kd.Q9} [TS P t e] [TZ P e 1 by_ z] (h:Sl 1 L1 σ v xs) (i:n<xs.length) (g: ∀a,U0 σ a [S xs[n]]->xs[n].length<=V4->K (.pointer (some a)) w):indexAddr P t v (I n) w K:=
 E4 h i fun a cs c j d=>by obtain ⟨rfl,f⟩:=d;exact g a c f
theorem Q4i {xs:List Fld} [TS P t e] [TZ P e 3 by_ z] (h:Sl 3 K3 σ v xs) (i:n<xs.length) (g: ∀a,U0 σ a [S xs[n].name,S xs[n].kind, .bool xs[n].tr]->K3 σ xs[n] [S xs[n].name,S xs[n].kind, .bool xs[n].tr]->K (.pointer (some a)) w):indexAddr P t v (I n) w K:=
 E4 h i fun a cs c j d=>by obtain ⟨rfl,f⟩:=d;exact g a c ⟨rfl,f⟩
end Go.Emb
namespace Go.Hm
open Go.Kd
abbrev Nv:=Q9->Option Cla
def U2 (l:List Cla) (n:Q9):Option Nat:=l.findIdx? fun c=>decide (c.name=n)
def lk (l:List Cla):Nv:=fun n=>(U2 l n).bind (l[·]?)
def M6 (c:Cla):List Q9:=c.super::c.like
def L3:Q9:=[79,98,106,101,99,116]
def B0:Q9:=[70,97,117,108,116]
def I1:Q9:=[110,117,108,108]
def B9:Q9:=[116,101,120,116]
def Wx:Q9:=[119,104,97,116]
def M7:List Q9:=[[78,117,108,108,70,97,117,108,116],[73,110,100,101,120,70,97,117,108,116],[67,97,115,116,70,97,117,108,116],[90,101,114,111,70,97,117,108,116],[82,111,111,109,70,97,117,108,116],[67,97,108,108,70,97,117,108,116]]
def Xr:List Cla:=[⟨L3,[],[],false,false,false,[],[]⟩,⟨B0,L3,[],false,false,false,[⟨Wx,B9,false⟩],[]⟩]++M7.map fun n=>⟨n,B0,[],false,false,true,[],[]⟩
def Nk (L:Nv):Nat->List Q9->List Q9->List Q9
 | 0,_,a=>a
 | _,[],a=>a
 | f+1,n::b,a=>match L n with
  | none=>Nk L f b a
  | some c=>if n∈a then Nk L f b a else Nk L f (b++M6 c) (a++[n])
def weigh (l:List Cla) (a:List Q9):Nat:=(l.map fun c=>if c.name∈a then 0 else (M6 c).length).sum
def Zh:Q9:=[105,110,116]
def Ww:Q9:=[98,111,111,108]
def Qy (l:List Cla) (n:Q9):List Q9:=Nk (lk l) (1+weigh l []) [n] []
def Q4d (l:List Cla) (n:Q9):Bool:=(U2 l n).isSome
def H7 (l:List Cla) (s:Q9):Bool:=decide (s=I1)||(right s&&(plain (base s).1||Q4d l (base s).1))
def Vm (l:List Cla) (a b:Q9):Bool:=
 if !H7 l a|| !H7 l b then false else if a=b then true else if plain a||plain b then false else if a=I1 then true
 else if elem a≠[] then decide (b=L3) else (Qy l a).contains b
def Xh (L:Nv):Nat->Q9->List Cla
 | 0,_=>[]
 | f+1,n=>match L n with
  | none=>[]
  | some c=>c::Xh L f c.super
def chain (l:List Cla) (n:Q9):List Cla:=Xh (lk l) (l.length+1) n
def V0 (l:List Cla) (n:Q9):List Fld:=(chain l n).reverse.flatMap (·.fields)
def Rv (l:List Cla) (n f:Q9):Option Nat:=(V0 l n).findIdx? fun x=>decide (x.name=f)
def Qg (c:Cla) (n:Q9):Option Hm.Met:=c.methods.find? fun m=>decide (m.name=n)
def Pa (L:Nv):Nat->Cla->Q9->Option (Q9×Hm.Met)
 | 0,_,_=>none
 | f+1,c,n=>c.like.findSome? fun u=>match L u with
  | none=>none
  | some d=>match Qg d n with
   | some m=>some (u,m)
   | none=>Pa L f d n
def N3 (l:List Cla) (k n:Q9):Option (Q9×Hm.Met):=
 match (chain l k).findSome? fun c=>(Qg c n).map (c.name,·) with
 | some r=>some r
 | none=>(chain l k).findSome? fun c=>Pa (lk l) (l.length+1) c n
def Za (l:List Cla) (n:Q9):Bool:=match lk l n with
 | some c=> !c.abs
 | none=>false
def I8 (f:Fld):Q9:=if f.tr then [] else [32]++f.name++[58]++f.kind
def Ya (L:Nv):Nat->Q9->Q9
 | 0,_=>[]
 | f+1,n=>match L n with
  | none=>[]
  | some c=>if n=L3 then [] else n++[40]++Ya L f c.super++[41]++c.fields.flatMap I8++[46]
def E3 (l:List Cla) (n:Q9):Q9:=Ya (lk l) (l.length+1) n
def G7:List Q9->Q9
 | []=>[]
 | [a]=>a
 | a::b::r=>a++[44]++G7 (b::r)
def Jh (m:Hm.Met):Q9:=[40]++G7 m.params++[41]++m.result
def B2 (l:List Cla) (s:Q9):Bool:= !decide (s=I1)&&H7 l s
def Uz (l:List Cla) (c:Cla):Bool:=c.fields.any fun f=>(Rv l c.super f.name).isSome
def Qd (l:List Cla) (c:Cla):Bool:=c.fields.any (fun f=> !B2 l f.kind)||c.methods.any fun m=>(!B2 l m.result&& !decide (m.result=[]))||m.params.any fun s=> !B2 l s
def Dl (l:List Cla) (n:Q9):List Hm.Met:=(Qy l n).flatMap fun u=>((lk l u).map (·.methods)).getD []
def Rt (a:List Hm.Met):Bool:=a.any fun x=>a.any fun y=>decide (x.name=y.name)&& !decide (Jh x=Jh y)
def Wd (l:List Cla) (c:Cla):Bool:=Rt (Dl l c.name)
def Vu (l:List Cla) (k n:Q9):Bool:=match N3 l k n with
 | none=>true
 | some r=>r.2.abs
def Cw (l:List Cla) (c:Cla):Bool:= !c.abs&&(Dl l c.name).any fun m=>Vu l c.name m.name
def O7 (l:List Cla) (c:Cla):Nat:=if Uz l c then 64 else if Qd l c then 65 else if Wd l c then 66 else if Cw l c then 67 else 0
def Ji (l:List Cla) (n:Q9):Bool:=match lk l n with
 | none=>true
 | some d=>d.iface||d.fin
def I9 (l:List Cla) (n:Q9):Bool:=match lk l n with
 | none=>true
 | some d=> !d.iface
def B8 (l:List Cla) (c:Cla):Nat:=if Ji l c.super then 61 else if c.like.any (I9 l) then 62 else 0
def Yk (l:List Cla) (c:Cla):Bool:=(M6 c).any fun n=>(Qy l n).contains c.name
def Zc (l:List Cla) (frm:Nat):Nat->List Nat->Nat->List Nat
 | 0,out,_=>out
 | f+1,out,i=>if i<frm then out else if i∈out then out else ((M6 (l.getD i Cla.zero)).foldl (fun out n=>Zc l frm f out ((U2 l n).getD 0)) out)++[i]
def O9 (l:List Cla) (frm:Nat):List Nat:=((List.range l.length).drop frm).foldl (fun out i=>Zc l frm (l.length+1) out i) []
end Go.Hm
namespace Go.Emb
open Go.RowKit Go.Hm
variable {P : Program} {w w0 w1 w' w'' : World} {K : Value -> World -> Prop} {σ σ0 σ1 σ' : Q2}
def J7 {α:Type} (B:Nat) (e:TypeId) (sz:Nat) (R:Q2->α->List Value->Prop) (σ:Q2) (w:World) (v:Value) (xs:List α):Prop:=
 ∃a c,v= .slice a xs.length c/\xs.length<=c/\c<=maxLen/\(∀b,a=some b->b.spot=none/\B<=b.block/\b.block<w.heap.size/\σ b.block=none)/\(0<c-> ∃g f d,a=some ⟨g,f,none⟩/\B<=g/\σ g=none/\w.heap[g]? =some (.cells d e (0,0))/\f+c*sz<=d.size/\ ∀i x,xs[i]? =some x->R σ x ((d.toList.drop (f+i*sz)).take sz))
variable {α : Type} {R : Q2 -> α -> List Value -> Prop} {B sz : Nat} {e : TypeId} {v u : Value} {xs ys : List α}
theorem J7.of_acc (h:W4 B e sz R σ w v xs):J7 B e sz R σ w v xs:=by
 obtain ⟨cells,o,j,p⟩:=h
 rcases o.2 with ⟨rfl,n⟩ | ⟨g,b,c,rfl,k,l,d,a,r,f⟩
 .exact ⟨none,0,by rw[n],by omega,by simp,by simp,fun h=>by omega⟩
 .refine ⟨_,b,rfl,d,a,by rintro _ ⟨⟩;exact ⟨rfl,k,(Array.getElem?_eq_some_iff.1 l).1,j g rfl⟩,fun _=>⟨g,0,c,rfl,k,j g rfl,l,by omega,fun i x m=>?_⟩⟩
  have q:i<xs.length:=(List.getElem?_eq_some_iff.1 m).1;have hh:i*sz+sz<=xs.length*sz:=by rw[<-Nat.succ_mul];exact Nat.mul_le_mul_right _ q
  have:=p i x m;rw[<-f,List.drop_take,List.take_take] at this;rw[Nat.zero_add]
  rwa [show min sz (xs.length*sz-i*sz)=sz by omega] at this
theorem J7.mem (h:J7 B e sz R σ w v xs) {k:Nat} (c:v.ownBlock=some k):B<=k/\k<w.heap.size/\σ k=none:=by
 obtain ⟨a,d,rfl,f,g,b,i⟩:=h;cases a with
 | none=>cases c
 | some a=>cases c;exact (b a rfl).2
theorem J7.up [hr:Rep R] (h:J7 B e sz R σ w v xs) (f:Stp w σ w' σ'):J7 B e sz R σ' w' v xs:=by
 obtain ⟨a,j,rfl,o,p,c,q⟩:=h;refine ⟨a,j,rfl,o,p,fun b d=>⟨(c b d).1,(c b d).2.1,Nat.lt_of_lt_of_le (c b d).2.2.1 f.bel.size,(f.old _ (c b d).2.2.1).trans (c b d).2.2.2⟩,fun r=>?_⟩;obtain ⟨g,l,k,rfl,t,y,n,z,A⟩:=q r;have m:=(Array.getElem?_eq_some_iff.1 n).1;exact ⟨g,l,k,rfl,t,(f.old g m).trans y,(f.bel.block g m).trans n,z,fun i x s=>hr.up f.le (A i x s)⟩
theorem J7.step [hr:Rep R] (h:J7 B e sz R σ w v xs) (a:Stp w σ w' σ'):J7 B e sz R σ' w' v xs:=h.up a
theorem J7.kp {D:Nat->Prop} (h:J7 B e sz R σ w v xs) (m:Kpt D w w') (j: ∀k,v.ownBlock=some k-> ¬D k):J7 B e sz R σ w' v xs:=by
 obtain ⟨a,f,rfl,o,p,c,q⟩:=h;refine ⟨a,f,rfl,o,p,fun b d=>⟨(c b d).1,(c b d).2.1,Nat.lt_of_lt_of_le (c b d).2.2.1 m.size,(c b d).2.2.2⟩,fun r=>?_⟩;obtain ⟨g,l,i,rfl,t,y,n,z,A⟩:=q r;have s:=(Array.getElem?_eq_some_iff.1 n).1;exact ⟨g,l,i,rfl,t,y,(m.block g s (j g rfl)).trans n,z,A⟩
theorem Rw {b t:TypeId} {cs:List Bool} [ts:TS P b e] (h:J7 B e sz R σ w v xs) (d:K (I xs.length) w):U4 P .len [b] t cs [v] w K:=by
 obtain ⟨a,c,rfl,_⟩:=h;rw[Q5f];exact d
theorem X15 {t:TypeId} {c:Nat} {z:Value} [TS P t e] [TZ P e sz c z] (h:J7 B e sz R σ w v xs) {n:Nat} (m:n<xs.length)
 (l: ∀a cs,(∀j u,cs[j]? =some u->w.cell? (a.add j)=some u)->cs.length=sz->R σ xs[n] cs->K (.pointer (some a)) w):indexAddr P t v (I n) w K:=by
 obtain ⟨a,d,rfl,r,s,o,k⟩:=h;obtain ⟨g,i,f,rfl,y,A,p,C,q⟩:=k Q5;rw[Kz Q5 Q5];have hh:n*sz+sz<=d*sz:=by rw[<-Nat.succ_mul];exact Nat.mul_le_mul_right _ Q5
 refine l _ ((f.toList.drop (i+n*sz)).take sz) ?_ ?_ (q n _ (by simp[m]))
 .intro j u b
  rw[List.getElem?_take] at b
  split at b
  .rw[List.getElem?_drop] at b
   unfold World.cell?;rw[K8,K8,Zi,Zi,Xj (Xj rfl _)];simp only[p]
   simpa using b
  .cases b
 .rw[List.length_take,List.length_drop,Array.length_toList];omega
theorem Y11 {t:TypeId} {m:Nat} {z:Value} [ts:TS P t e] [tz:TZ P e sz m z] (h:J7 B e sz R σ w v xs) (l:Nat) (M:l<=xs.length)
 (A: ∀k,J7 B e sz R σ w k (xs.drop l)->(k.ownBlock=v.ownBlock\/k.ownBlock=none)->K k w):I7 P t v (some (I l)) none none w K:=by
 obtain ⟨a,c,rfl,s,J,d,p⟩:=h
 have hh: ∀w:World,(Instr.sliceBounds true xs.length c (some (I l)) none none).run P w= .ok (l,xs.length,c) w:=by
  intro w;have r:(l:Int)<=xs.length:=by omega
  simp[Instr.sliceBounds,Instr.sliceBound,asIntOf,s,r]
  intros;omega
 unfold I7
 have:(Instr.sliceAt t (.slice a xs.length c) (some (I l)) none none).run P w= .ok (.slice (if c=l then a else a.map (·.add (l*sz))) (xs.length-l) (c-l)) w:=by
  simp[Instr.sliceAt,run_underlying ts.h,Instr.slice,hh,H2 tz]
 rw[Y8 this];refine A _ ⟨_,c-l,by rw[List.length_drop],by rw[List.length_drop];omega,by omega,?_,fun L=>?_⟩ ?_
 .intro b j
  split at j
  .exact d b j
  .cases a with
   | none=>cases j
   | some a=>cases j;exact ⟨Xj (d a rfl).1 _,by rw[K8];exact (d a rfl).2⟩
 .have y:=p Q5
  clear p;obtain ⟨g,o,n,rfl,C,D,E,N,H⟩:=y;refine ⟨g,o+l*sz,n,?_,C,D,E,?_,fun i x q=>?_⟩
  .rw[if_neg Q5];simp only[Option.map_some];congr 1;unfold Addr.add;split<;>simp_all
  .have:l*sz+(c-l)*sz=c*sz:=by rw[<-Nat.add_mul];congr 1;omega
   omega
  .rw[List.getElem?_drop] at q
   have:=H _ _ q
   rwa [Nat.add_mul,<-Nat.add_assoc] at this
 .left
  by_cases f:c=l
  .rw[if_pos f];cases a<;>rfl
  .rw[if_neg f]
   cases a with
   | none=>rfl
   | some a=>simp only[Option.map_some,Value.ownBlock,K8]
theorem X5N {t Q ty:TypeId} {W:Nat} {z:Value} {cs:List Bool} {news:List Value} [ts:TS P t e] [tz:TZ P e sz W z] [hr:Rep R] (hs:X3 w σ) (hB:B<=w.heap.size) (ha:J7 B e sz R σ w v xs) (q:Src P sz Q u ys.length news w) (n5: ∀j y,ys[j]? =some y->R σ y ((news.drop (j*sz)).take sz)) (hz:(z.cells.size==sz&&decide (0<sz))=true)
 (U:(xs.length+ys.length)*W<=140737488355328) (hm:xs.length+ys.length<=1000000000000)
 (h: ∀r w',Kpt (fun k=>v.ownBlock=some k/\B<=k/\σ k=none) w w'->X3 w' σ->J7 B e sz R σ w' r (xs++ys)->((∃a A,v= .slice a xs.length A/\r= .slice a (xs.length+ys.length) A)\/(Below w.heap.size w w'/\ ∀k,r.ownBlock=some k->w.heap.size<=k))->K r w'):U4 P .append [t,Q] ty cs [v,u] w K:=by
 obtain ⟨s,c,rfl,c1,c2,C,c3⟩:=ha;obtain ⟨i,hi,H,aj,O⟩:=tz.info;simp only[Bool.and_eq_true,beq_iff_eq,decide_eq_true_eq] at hz;obtain ⟨ap,be⟩:=hz
 have J: ∀r w',(Builtin.append_ #[t,Q] ty #[.slice s xs.length c,u]).run P w= .ok r w'->Kpt (fun k=>(Value.slice s xs.length c).ownBlock=some k/\B<=k/\σ k=none) w w'->J7 B e sz R σ w' r (xs++ys)->((∃a A,(Value.slice s xs.length c)= .slice a xs.length A/\r= .slice a (xs.length+ys.length) A)\/(Below w.heap.size w w'/\ ∀k,r.ownBlock=some k->w.heap.size<=k))->U4 P .append [t,Q] ty cs [.slice s xs.length c,u] w K:=by
  intro r w' E hk hq ai
  have N:(builtin .append #[t,Q] ty cs.toArray #[.slice s xs.length c,u]).run P w= .ok (.value r) w':=by
   simp[builtin,E]
  unfold U4;rw[Zf];unfold Yp;rw[N];exact h r w' hk (fun k o ho=>by rw[hk.block k (hs.lt ho) fun e=>by rw[e.2.2] at ho;cases ho];exact hs k o ho) hq ai
 have n2:=q.newsLen;have n4:=q.one;have m:Src P i.size Q u ys.length news w:=by rw[H];exact q
 by_cases p:xs.length+ys.length<=c
 .by_cases L:c=0
  ·-- nothing at all
   subst L;have n:xs=[]:=List.eq_nil_of_length_eq_zero Q5;have hy:ys=[]:=List.eq_nil_of_length_eq_zero Q5;subst n hy;have hn:news=[]:=List.eq_nil_of_length_eq_zero (by simpa using n2)
   subst hn;refine J (.slice s 0 0) w ?_ Kpt.refl ⟨s,0,rfl,by simp,by simp,C,fun h=>by omega⟩ (.inl ⟨_,_,rfl,rfl⟩)
   have hl:=m.len w;have D:=m.cells;simp only[List.length_nil] at hl D⊢
   rcases m.kind with ⟨e',hk⟩ | hk<;>cases s<;>simp[Builtin.append_,run_underlying ts.h,run_underlying hk,sizeOf,typeInfo,hi,hl,D,storeCells]
  .obtain ⟨g,f,d,rfl,q1,q2,q3,q4,q5⟩:=c3 Q5
   have e1:(xs.length+ys.length)*sz<=c*sz:=Nat.mul_le_mul_right _ p;rw[Nat.add_mul] at e1;have Y:=run_storeCells_at P g (f+xs.length*sz) e news 0 d w q3 Q5 n4;simp only[Nat.add_zero] at Y;obtain ⟨aa,ao⟩:=Sb (cs:=(d.toList.take (f+xs.length*sz)++news++d.toList.drop (f+xs.length*sz+news.length)).toArray) q3;refine J (.slice (some ⟨g,f,none⟩) (xs.length+ys.length) c) _ ?_ (Kpt.of_upd aa ⟨rfl,q1,q2⟩) ?_ (.inl ⟨_,_,rfl,rfl⟩)
   .have hl:=m.len w
    have D:=m.cells;rw[H] at D
    rcases m.kind with ⟨e',hk⟩ | hk<;>simp[Builtin.append_,run_underlying ts.h,run_underlying hk,sizeOf,typeInfo,hi,hl,D,H,p,Addr.add_lit,Y]
   .refine ⟨_,c,by rw[List.length_append],by rw[List.length_append];exact p,c2,fun b U=>⟨(C b U).1,(C b U).2.1,by rw[aa.size];exact (C b U).2.2.1,(C b U).2.2.2⟩,fun _=>⟨g,f,_,rfl,q1,q2,ao,?_,fun j x n=>?_⟩⟩
    .simp;omega
    .by_cases V:j<xs.length
     .rw[List.getElem?_append_left V] at n
      have:=q5 j x n;have hh:j*sz+sz<=xs.length*sz:=by rw[<-Nat.succ_mul];exact Nat.mul_le_mul_right _ V
      have e2:((d.toList.take (f+xs.length*sz)++news++d.toList.drop (f+xs.length*sz+news.length)).toArray.toList.drop (f+j*sz)).take sz=(d.toList.drop (f+j*sz)).take sz:=by
       rw[List.toList_toArray,List.append_assoc];rw[List.drop_append_of_le_length (by rw[List.length_take,Array.length_toList (xs:=d)];omega),List.take_append_of_le_length (by rw[List.length_drop,List.length_take,Array.length_toList (xs:=d)];omega),List.drop_take,List.take_take]
       congr 1;omega
      rw[e2];exact this
     .rw[List.getElem?_append_right Q5] at n
      have:=n5 _ _ n;have an:j-xs.length<ys.length:=(List.getElem?_eq_some_iff.1 n).1;have hh:(j-xs.length)*sz+sz<=ys.length*sz:=by rw[<-Nat.succ_mul];exact Nat.mul_le_mul_right _ an
      have ba:j*sz=xs.length*sz+(j-xs.length)*sz:=by rw[<-Nat.add_mul];congr 1;omega
      have e2:((d.toList.take (f+xs.length*sz)++news++d.toList.drop (f+xs.length*sz+news.length)).toArray.toList.drop (f+j*sz)).take sz=(news.drop ((j-xs.length)*sz)).take sz:=by
       rw[List.toList_toArray,List.append_assoc]
       rw[List.drop_append,List.drop_eq_nil_of_le (by rw[List.length_take,Array.length_toList (xs:=d)];omega),List.nil_append,List.length_take,Array.length_toList (xs:=d),
        show f+j*sz-min (f+xs.length*sz) d.size=(j-xs.length)*sz by omega,
        List.drop_append_of_le_length Q5,List.take_append_of_le_length (by rw[List.length_drop];omega)]
      rw[e2];exact this
 ·-- a new row
  have M: ∃l:List Value,l.length=xs.length*sz/\(Builtin.firstCells i.size xs.length (.slice s xs.length c)).run P w.drew= .ok l.toArray w.drew/\ ∀j x,xs[j]? =some x->R σ x ((l.drop (j*sz)).take sz):=by
   by_cases L:c=0
   .subst L
    have n:xs=[]:=List.eq_nil_of_length_eq_zero Q5;subst n;refine ⟨[],by simp,?_,by simp⟩
    cases s with
    | none=>exact run_firstCells_none w.drew i.size 0 0 0
    | some a'=>exact run_firstCells_some w.drew i.size 0 a' 0 0 [] V5 (by intro _ _ h';simp at h')
   .obtain ⟨g,f,d,rfl,q1,q2,q3,q4,q5⟩:=c3 Q5
    have e1:xs.length*sz<=c*sz:=Nat.mul_le_mul_right _ c1;refine ⟨(d.toList.drop f).take (xs.length*sz),by rw[List.length_take,List.length_drop,Array.length_toList (xs:=d)];omega,?_,fun j x n=>?_⟩
    .refine run_firstCells_some w.drew i.size xs.length ⟨g,f,none⟩ xs.length c _ (by rw[List.length_take,List.length_drop,Array.length_toList (xs:=d),H];omega) (fun j u Z=>?_)
     rw[List.getElem?_take] at Z
     split at Z
     .rw[List.getElem?_drop] at Z
      have av:w.drew.heap[g]? =some (.cells d e (0,0)):=q3;unfold World.cell?;rw[K8,Zi,Xj rfl];simp only[av]
      simpa using Z
     .cases Z
    .have V:j<xs.length:=(List.getElem?_eq_some_iff.1 n).1
     have hh:j*sz+sz<=xs.length*sz:=by rw[<-Nat.succ_mul];exact Nat.mul_le_mul_right _ V
     have:=q5 j x n;rw[List.drop_take,List.take_take,List.drop_drop,show min sz (xs.length*sz-j*sz)=sz by omega]
     exact this
  obtain ⟨l,o1,o2,o3⟩:=M;have hg:c<xs.length+ys.length:=by omega
  have E:=run_append_grow_src (P:=P) w t Q ty e i z ts.h hi O s xs.length c l o2 (u) ys.length news m hg Q5 (growslice_fits hg (by rw[aj];exact U))
  have ak:=grownCap_le_maxLen w (xs.length+ys.length) c e (by simp only[maxLen];omega)
  have al:=grownCap_ge w (xs.length+ys.length) c e;have hL:(l++news).length=(xs.length+ys.length)*sz:=by rw[List.length_append,o1,n2,Nat.add_mul]
  refine J _ _ E ?_ ?_ (.inr ⟨(Below.refl _ _).drew.alloc (Nat.le_refl _) _,by intro k hk;cases hk;exact Nat.le_refl _⟩)
  .exact Kpt.of_below ((Below.refl _ _).drew.alloc (Nat.le_refl _) _)
  .refine ⟨_,_,by rw[List.length_append],by rw[List.length_append];exact al,ak,by rintro _ ⟨⟩;exact ⟨rfl,hB,(Array.getElem?_eq_some_iff.1 (heap_alloc_new w.drew _)).1,hs.none (Nat.le_refl _)⟩,fun _=>⟨w.heap.size,0,_,rfl,hB,hs.none (Nat.le_refl _),heap_alloc_new w.drew _,?_,fun j x n=>?_⟩⟩
   .rw[Array.size_append,List.size_toArray,hL,size_zeroCells,ap,<-Nat.add_mul]
    rw[Nat.zero_add];exact Nat.mul_le_mul_right _ Q5
   .rw[Nat.zero_add,Array.toList_append]
    have V:j<xs.length+ys.length:=by have:=(List.getElem?_eq_some_iff.1 n).1;rwa [List.length_append] at this
    have hh:j*sz+sz<=(xs.length+ys.length)*sz:=by rw[<-Nat.succ_mul];exact Nat.mul_le_mul_right _ V
    rw[List.drop_append_of_le_length (by simp only[List.toList_toArray];omega),List.take_append_of_le_length (by rw[List.length_drop];simp only[List.toList_toArray];omega)]
    simp only[List.toList_toArray]
    by_cases X:j<xs.length
    .rw[List.getElem?_append_left X] at n
     rw[Di l news xs.length j o1 X];exact o3 j x n
    .rw[List.getElem?_append_right Q5] at n
     have:=n5 _ _ n;rw[show j*sz=l.length+(j-xs.length)*sz by rw[o1,<-Nat.add_mul];congr 1;omega,List.drop_append]
     simpa [List.drop_eq_nil_of_le] using this
theorem Il {t E:TypeId} {d:Nat} {z:Value} {cs:List Bool} [ts:TS P t e] [tz:TZ P e sz d z] [hr:Rep R] (i:X3 w σ) (hB:B<=w.heap.size) (o:J7 B e sz R σ w v xs) (j:Sl sz R σ u ys) (s:(z.cells.size==sz&&decide (0<sz))=true)
 (p:(xs.length+ys.length)*d<=140737488355328) (q:xs.length+ys.length<=1000000000000)
 (h: ∀f w',Kpt (fun k=>v.ownBlock=some k/\B<=k/\σ k=none) w w'->X3 w' σ->J7 B e sz R σ w' f (xs++ys)->((∃a c,v= .slice a xs.length c/\f= .slice a (xs.length+ys.length) c)\/(Below w.heap.size w w'/\ ∀k,f.ownBlock=some k->w.heap.size<=k))->K f w'):U4 P .append [t,t] E cs [v,u] w K:=by
 obtain ⟨a,c,news,rfl,y,m,A,C,D⟩:=j.cells i;refine X5N i hB o (news:=news) ?_ D s p q h;cases a with
 | some b=>exact Src.ofSlice w ts.h b ys.length c news m (A b rfl) C
 | none=>
  have l:ys.length=0:=by
   obtain ⟨H,g,n,J,_,L,_⟩:=j;injection n with e1 e2 e3;have:=y rfl;omega
  have r:news=[]:=List.eq_nil_of_length_eq_zero (by rw[m,l];simp)
  subst r;rw[l];exact Src.ofNil w ts.h c
theorem C7 {b:Nat} (h:w1.heap.size<=b) (k:Stp w σ w1 σ1):w.heap.size<=b:=Nat.le_trans k.bel.size h
theorem E5 {t:TypeId} {sz a:Nat} {z:Value} [tz:TZ P t sz a z] (g:X3 w σ) (h: ∀b w' σ',w.heap.size<=b->Stp w σ w' σ'->Z7 σ' w' b z.cells.toList->K (.pointer (some ⟨b,0,none⟩)) w'):Qa P t w K:=
 Kj g fun b w' c d f=>h b w' σ c d f
theorem Sc {t:TypeId} {cs:List Value} (f:X3 w σ) (h: ∀b w' σ',w.heap.size<=b->Stp w σ w' σ'->Z7 σ' w' b cs->K (.pointer (some ⟨b,0,none⟩)) w'):box P t (.agg cs.toArray) w K:=
 X08 f fun b w' a c d=>h b w' σ a c (by simpa [Value.cells] using d)
theorem Qz {t:TypeId} {sz a:Nat} {z:Value} [tz:TZ P t sz a z] {b:Nat} {cs ds:List Value} (d:Z7 σ w b cs) (g:Stp w0 σ0 w σ) (i:w0.heap.size<=b) (k:cs.length=sz) (j:ds.length=sz) (f: ∀u∈ds,u.oneCell'=true)
 (h: ∀w',Hst w0 σ0 w' σ->Z7 σ w' b ds->K undef w'):U8 P t (.pointer (some ⟨b,0,none⟩)) (.agg ds.toArray) w K:=
 Ms d k j (by rw[List.all_toArray];exact List.all_eq_true.2 f) fun w' l c=>h w' ⟨l.stp g i d.1⟩ c
structure Nxt (D : Nat -> Prop) (w : World) (σ : Q2) (w' : World) (σ' : Q2) : Prop where
  kp : Kpt D w w'
  le : SLe σ σ'
  old : ∀ k, k < w.heap.size -> σ' k = σ k
  sat : X3 w' σ'
theorem Nxt.of_stp {D:Nat->Prop} (h:Stp w σ w' σ'):Nxt D w σ w' σ':=⟨Kpt.of_below h.bel,⟨h.le⟩,h.old,h.sat⟩
theorem Nxt.mono {D D':Nat->Prop} (h:Nxt D w σ w' σ') (a: ∀k,k<w.heap.size->D k->D' k):Nxt D' w σ w' σ':=⟨h.kp.mono a,h.le,h.old,h.sat⟩
theorem Nxt.trans {D:Nat->Prop} (h:Nxt D w σ w' σ') (k:Nxt D w' σ' w'' σ1):Nxt D w σ w'' σ1:=
 ⟨h.kp.trans k.kp,h.le.more k.le,fun i a=>(k.old i (Nat.lt_of_lt_of_le a h.kp.size)).trans (h.old i a),k.sat⟩
theorem Z7.nx {D:Nat->Prop} {b:Nat} {cs:List Value} (h:Z7 σ w b cs) (k:Nxt D w σ w' σ') (f: ¬D b):Z7 σ' w' b cs:=by
 have a:=h.lt;obtain ⟨c,e,d⟩:=h;exact ⟨(k.old b a).trans c,e,(k.kp.block b a f).trans d⟩
theorem P8.nx {D:Nat->Prop} {r:Nat} {m:List (List UInt8×Value)} (h:P8 σ w r m) (k:Nxt D w σ w' σ') (a: ¬D r):P8 σ' w' r m:=
 ⟨(k.old r h.lt).trans h.1,(k.kp.block r h.lt a).symm▸h.2⟩
variable {x : α}
theorem W4.nx [hr:Rep R] {D:Nat->Prop} (h:W4 B e sz R σ w v xs) (k:Nxt D w σ w' σ') (g: ∀k,v.ownBlock=some k-> ¬D k):W4 B e sz R σ' w' v xs:=by
 have b:=h.kp k.kp g;obtain ⟨cells,c,d,f⟩:=b;refine ⟨cells,c,fun i a=>(k.old i (h.mem i a).2.1).trans (d i a),fun i x j=>hr.up k.le.le (f i x j)⟩
theorem J7.nx [hr:Rep R] {D:Nat->Prop} (h:J7 B e sz R σ w v xs) (k:Nxt D w σ w' σ') (s: ∀k,v.ownBlock=some k-> ¬D k):J7 B e sz R σ' w' v xs:=by
 obtain ⟨a,f,rfl,o,p,c,q⟩:=h;refine ⟨a,f,rfl,o,p,fun b d=>⟨(c b d).1,(c b d).2.1,Nat.lt_of_lt_of_le (c b d).2.2.1 k.kp.size,(k.old _ (c b d).2.2.1).trans (c b d).2.2.2⟩,fun r=>?_⟩;obtain ⟨g,l,j,rfl,y,z,n,A,C⟩:=q r;have m:=(Array.getElem?_eq_some_iff.1 n).1;exact ⟨g,l,j,rfl,y,(k.old g m).trans z,(k.kp.block g m (s g rfl)).trans n,A,fun i x t=>hr.up k.le.le (C i x t)⟩
theorem Un {t E:TypeId} {c:Nat} {z:Value} {cs:List Bool} {A:Value->Value->World->Prop} [ts:TS P t e] [tz:TZ P e sz c z] [hr:Rep R] (m:Stp w0 σ0 w σ) (o:W4 w0.heap.size e sz R σ w v xs) (C:R σ x u.cells.toList) (q:u.cells.size=sz) (D:(z.cells.size==sz&&decide (0<sz))=true) (l:(decide (0<sz)&&decide ([u].length*sz<=16777216))=true)
 (p:(xs.length+1)*c<=140737488355328) (y:xs.length+1<=9223372036854775807)
 (h: ∀s b w' σ',Nxt (fun k=>v.ownBlock=some k) w σ w' σ'->Stp w0 σ0 w' σ'->W4 w0.heap.size e sz R σ' w' b (xs++[x])->(b.ownBlock=v.ownBlock\/ ∀k,b.ownBlock=some k->w.heap.size<=k)->A s b w'):
 buildSlice P t 1 [(0,u)] w (fun s w=>U4 P .append [t,t] E cs [v,s] w (fun b w=>A s b w)):=by
 refine C1 m.sat [u] [x] rfl rfl (by simpa using q) l ⟨C,trivial⟩ fun s w1 σ1 a j=>?_
 refine app (m.trans a) (o.up a) j D (by simpa using p) (by simpa using y) fun b n r d f hat=>?_
 have i:Kpt (fun k=>v.ownBlock=some k) w n:=(Kpt.of_below a.bel).trans (Kpt.of_grown r fun k a=>a);refine h s b n σ1 ⟨i,⟨a.le⟩,a.old,d.sat⟩ d f ?_
 rcases hat with hat | hat
 .exact .inl hat
 .exact .inr fun k g=>Nat.le_trans a.bel.size (hat k g)
theorem Vn {t q:TypeId} {b:Nat} {z:Value} {cs:List Bool} {ys:List α} [ts:TS P t e] [tz:TZ P e sz b z] [hr:Rep R] (g:Stp w0 σ0 w σ) (i:W4 w0.heap.size e sz R σ w v xs) (o:Sl sz R σ u ys) (p:(z.cells.size==sz&&decide (0<sz))=true)
 (j:(xs.length+ys.length)*b<=140737488355328) (n:xs.length+ys.length<=9223372036854775807)
 (h: ∀a w',Nxt (fun k=>v.ownBlock=some k) w σ w' σ->Stp w0 σ0 w' σ->W4 w0.heap.size e sz R σ w' a (xs++ys)->(a.ownBlock=v.ownBlock\/ ∀k,a.ownBlock=some k->w.heap.size<=k)->K a w'):U4 P .append [t,t] q cs [v,u] w K:=
 app g i o p j n fun a r l c d f=>h a r ⟨Kpt.of_grown l fun k m=>m,SLe.refl _,fun _ _=>rfl,c.sat⟩ c d f
theorem J7.mono {B':Nat} (h:J7 B e sz R σ w v xs) (k:B'<=B):J7 B' e sz R σ w v xs:=by
 obtain ⟨a,f,rfl,l,m,d,n⟩:=h;refine ⟨a,f,rfl,l,m,fun b c=>⟨(d b c).1,Nat.le_trans k (d b c).2.1,(d b c).2.2⟩,fun o=>?_⟩;obtain ⟨g,j,i,rfl,p,q⟩:=n o;exact ⟨g,j,i,rfl,Nat.le_trans k p,q⟩
theorem J7.own (h:J7 B e sz R σ w v xs) {k:Nat} (a:v.ownBlock=some k):B<=k:=(h.mem a).1
theorem J7.keep [hr:Rep R] (h:J7 w0.heap.size e sz R σ w v xs) (n:Stp w0 σ0 w σ): ∃σ',Stp w0 σ0 w σ'/\Sl sz R σ' v xs/\SLe σ σ'/\(∀k,some k≠v.ownBlock->σ' k=σ k):=by
 obtain ⟨a,f,rfl,r,s,o,t⟩:=h
 by_cases z:f=0
 .have m:xs=[]:=List.eq_nil_of_length_eq_zero Q5
  subst z m;exact ⟨σ,n,⟨a,0,rfl,by simp,by simp,fun _=>rfl,fun b y=>⟨fun _=>(o b y).1,by simp⟩⟩,SLe.refl _,fun _ _=>rfl⟩
 .obtain ⟨g,p,c,rfl,C,q,D,J,E⟩:=t Q5
  have d:=Q2.put_le n.sat q (.cells c e (0,0));refine ⟨σ.put g (.cells c e (0,0)),n.put q C D,⟨_,f,rfl,r,s,by simp,?_⟩,⟨d⟩,?_⟩
  .rintro _ ⟨⟩
   refine ⟨fun _=>rfl,fun i x m=>⟨(c.toList.drop (p+i*sz)).take sz,⟨Xj rfl _,c,e,(0,0),by rw[K8];simp[Q2.put],?_⟩,?_,hr.up d (E i x m)⟩⟩
   .intro j u l
    rw[Zi];rw[List.getElem?_take] at l
    split at l
    .rw[List.getElem?_drop] at l;simpa using l
    .cases l
   .have H:i<xs.length:=(List.getElem?_eq_some_iff.1 m).1
    have h:i*sz+sz<=f*sz:=by rw[<-Nat.succ_mul];exact Nat.mul_le_mul_right _ Q5
    rw[List.length_take,List.length_drop,Array.length_toList (xs:=c)];omega
  .intro k A
   have:k≠g:=by intro e;subst e;exact A rfl
   simp only[Q2.put,if_neg this]
theorem Q7p {t U:TypeId} {C:Nat} {z:Value} {A:Value->Value->World->Prop} {ds:List Value} [ts:TS P t e] [tz:TZ P e sz C z] {s:Nat} {z':Value} [tz':TZ P U sz s z'] (Z:Stp w0 σ0 w σ) (ha:J7 w0.heap.size e sz R σ w v xs) {n:Nat} (hn:n<xs.length) (D:ds.length=sz) (hx:R σ x ds) (Y: ∀u∈ds,u.oneCell'=true)
 (h: ∀p u w',Kpt (fun k=>v.ownBlock=some k) w w'->Hst w0 σ0 w' σ->J7 w0.heap.size e sz R σ w' v (xs.set n x)->A p u w'):
 indexAddr P t v (I n) w (fun p w=>U8 P U p (.agg ds.toArray) w (fun u w=>A p u w)):=by
 obtain ⟨a,f,rfl,V,W,i,X⟩:=ha;obtain ⟨g,c,d,rfl,N,O,Q,q4,q5⟩:=X Q5;rw[Kz Q5 Q5];have hh:n*sz+sz<=f*sz:=by rw[<-Nat.succ_mul];exact Nat.mul_le_mul_right _ Q5
 have m:(⟨g,c,none⟩:Addr).add ((n:Int).toNat*sz)=⟨g,c+n*sz,none⟩:=by unfold Addr.add;split<;>simp_all
 rw[m];have o:=run_storeCells_at P g (c+n*sz) e ds 0 d w Q Q5 Y;simp only[Nat.add_zero] at o;obtain ⟨l,L⟩:=Sb (cs:=(d.toList.take (c+n*sz)++ds++d.toList.drop (c+n*sz+ds.length)).toArray) Q;unfold U8
 rw[Wg (w':=w.setRow g (d.toList.take (c+n*sz)++ds++d.toList.drop (c+n*sz+ds.length)).toArray) (by
  simp[Instr.storeAt,Instr.sureAddr,storeVar,H2 tz',Value.cells,D]
  simpa [D] using o)]
 have hk:Kpt (fun k=>(Value.slice (some ⟨g,c,none⟩) xs.length f).ownBlock=some k) w (w.setRow g (d.toList.take (c+n*sz)++ds++d.toList.drop (c+n*sz+ds.length)).toArray):=Kpt.of_upd l rfl;refine h _ _ _ hk ⟨l.stp Z N O⟩ ⟨_,f,by rw[List.length_set],by rw[List.length_set];exact V,W,fun b r=>⟨(i b r).1,(i b r).2.1,by rw[l.size];exact (i b r).2.2.1,(i b r).2.2.2⟩,fun _=>⟨g,c,_,rfl,N,O,L,?_,fun j y q=>?_⟩⟩
 .simp;omega
 .rw[List.toList_toArray]
  have ab:=Array.length_toList (xs:=d);have H:j<xs.length:=by have:=(List.getElem?_eq_some_iff.1 q).1;simpa using this
  have ac:j*sz+sz<=f*sz:=by rw[<-Nat.succ_mul];exact Nat.mul_le_mul_right _ Q5
  by_cases M:j=n
  .subst M
   rw[List.getElem?_set_self H] at q;cases q;rw[List.append_assoc,List.drop_append,List.drop_eq_nil_of_le (by rw[List.length_take];omega),List.nil_append,List.length_take,show c+j*sz-min (c+j*sz) d.toList.length=0 by omega,List.drop_zero,List.take_append_of_le_length Q5,List.take_of_length_le Q5]
   exact hx
  .rw[List.getElem?_set_ne Q5] at q
   have:=q5 j y q
   rcases Nat.lt_or_gt_of_ne M with J | hgt
   .have E:j*sz+sz<=n*sz:=by rw[<-Nat.succ_mul];exact Nat.mul_le_mul_right _ J
    rw[List.append_assoc,List.drop_append_of_le_length (by rw[List.length_take];omega),List.take_append_of_le_length (by rw[List.length_drop,List.length_take];omega),List.drop_take,List.take_take]
    rwa [show min sz (c+n*sz-(c+j*sz))=sz by omega]
   .have E:n*sz+sz<=j*sz:=by rw[<-Nat.succ_mul];exact Nat.mul_le_mul_right _ hgt
    rw[List.drop_append,List.drop_eq_nil_of_le (by rw[List.length_append,List.length_take];omega),List.nil_append,List.length_append,List.length_take,List.drop_drop,D]
    rwa [show c+n*sz+sz+(c+j*sz-(min (c+n*sz) d.toList.length+sz))=c+j*sz by omega]
theorem X0y (p:Nat->Prop): ∀n,p n-> ∃m,p m/\ ∀k,p k->m<=k:=by
 intro n
 induction n using Nat.strongRecOn with
 | _ n g=>
  intro h
  by_cases b: ∃k,k<n/\p k
  .obtain ⟨k,c,d⟩:=b;exact g k c d
  .exact ⟨n,h,fun k f=>Nat.le_of_not_lt fun a=>b ⟨k,a,f⟩⟩
noncomputable def Q5e (p:Nat->Prop):Nat:=open Classical in if h: ∃m,p m/\ ∀k,p k->m<=k then Classical.choose h else 0
theorem Q4k {p:Nat->Prop} {n:Nat} (h:p n):p (Q5e p)/\Q5e p<=n:=by
 have a:=X0y p n h;unfold Q5e;rw[dif_pos a];exact ⟨(Classical.choose_spec a).1,(Classical.choose_spec a).2 n h⟩
theorem Q1b {α:Type} {x0:α} {A:(α->World->Prop)->α->(Nat->Value)->World->Prop} (I:Nat->α->World->Prop) (n:Nat) (h:I n x0 w)
 (k: ∀a n x d w,I n x w->(∀b c w',b<n->I b c w'->a c w')->A a x d w):lp x0 w A:=by
 refine Wv (fun x w=> ∃n,I n x w) (fun x w=>Q5e fun n=>I n x w) ⟨n,h⟩ ?_;rintro x d w ⟨n,j⟩;obtain ⟨i,l⟩:=Q4k (p:=fun n=>I n x w) j;refine k _ _ x d w i fun b c w' f g=>⟨⟨b,g⟩,?_⟩;exact Nat.lt_of_le_of_lt (Q4k (p:=fun n=>I n c w') g).2 f
theorem J7.below (h:J7 B e sz R σ w v xs) (a:Below w.heap.size w w'):J7 B e sz R σ w' v xs:=h.kp (D:=fun _=>False) (.of_below a) fun _ _=>id
theorem J7.pre {a:Option Addr} {n m b:Nat} (h:J7 B e sz R σ w (.slice a m b) (xs++ys)) (y:n=xs.length):J7 B e sz R σ w (.slice a n b) xs:=by
 obtain ⟨H,j,t,p,q,d,r⟩:=h
 injection t with l e2 o
 subst l o y;rw[List.length_append] at p;refine ⟨a,b,rfl,by omega,q,d,fun s=>?_⟩
 obtain ⟨g,f,c,q0,z,A,C,D,E⟩:=r s;exact ⟨g,f,c,q0,z,A,C,D,fun i x k=>E i x (by rw[List.getElem?_append_left (List.getElem?_eq_some_iff.1 k).1];exact k)⟩
def TQa (B:Nat) (e:TypeId) (sz:Nat) (R:Q2->α->List Value->Prop) (σ:Q2) (v:Value) (xs:List α) (x:α) (w1 c:World):Prop:=
 Kpt (fun k=>v.ownBlock=some k) w1 c/\(J7 B e sz R σ w1 v xs->J7 B e sz R σ c v xs)/\
  ∀a b,v= .slice a xs.length b->J7 B e sz R σ w1 (.slice a (xs.length+1) b) (xs++[x])->J7 B e sz R σ c (.slice a (xs.length+1) b) (xs++[x])
theorem TQa.below (a:Below w.heap.size w w'):TQa B e sz R σ v xs x w w':=⟨.of_below a,fun h=>h.below a,fun _ _ _ h=>h.below a⟩
theorem TQa.refl:TQa B e sz R σ v xs x w w:=TQa.below (Below.refl _ _)
def VQa (N B:Nat) (e:TypeId) (sz:Nat) (R:Q2->α->List Value->Prop) (σ:Q2) (v:Value) (xs:List α) (x:α) (c:Value) (w:World):Prop:=
 J7 B e sz R σ w c (xs++[x])/\((∃a b,v= .slice a xs.length b/\c= .slice a (xs.length+1) b)\/((∀k,c.ownBlock=some k->N<=k)/\ ∀k,v.ownBlock=some k->k<N))
theorem VQa.stable {N:Nat} {j:Value} (h:VQa N B e sz R σ v xs x j w) (i:TQa B e sz R σ v xs x w w'):VQa N B e sz R σ v xs x j w':=by
 obtain ⟨g,b⟩:=h;refine ⟨?_,b⟩
 rcases b with ⟨a,c,d,rfl⟩ | ⟨b,d⟩
 .exact i.2.2 a c d g
 .exact g.kp i.1 fun k l f=>by have:=b k l;have:=d k f;omega
theorem Kpt.more {D E:Nat->Prop} (h:Kpt D w w') (k:Kpt E w' w'') (hE: ∀j,E j->w.heap.size<=j):Kpt D w w'':=
 ⟨k.os.trans h.os,k.tape.trans h.tape,k.output.trans h.output,Nat.le_trans h.size k.size,fun i a b=>(k.block i (Nat.lt_of_lt_of_le a h.size) fun e=>by have:=hE i e;omega).trans (h.block i a b)⟩
end Go.Emb
namespace Go.Hm
open Go.Kd
theorem N1 {l:List Cla} {n:Q9} {c:Cla} (h:lk l n=some c):c.name=n/\c∈l/\ ∃i,U2 l n=some i/\l[i]? =some c:=by
 unfold lk at h;cases a:U2 l n with
 | none=>rw[a] at h;cases h
 | some i=>
  rw[a] at h;obtain ⟨b,e,_⟩:=List.findIdx?_eq_some_iff_getElem.1 a;have d:l[i]? =some c:=h;rw[List.getElem?_eq_getElem b] at d;cases d;exact ⟨by simpa using e,List.getElem_mem b,i,rfl,List.getElem?_eq_getElem b⟩
theorem Wc {l:List Cla} {n:Q9} {i:Nat} (h:U2 l n=some i): ∃c,lk l n=some c/\l[i]? =some c/\c.name=n:=by
 obtain ⟨a,b,_⟩:=List.findIdx?_eq_some_iff_getElem.1 h;refine ⟨l[i],?_,List.getElem?_eq_getElem a,by simpa using b⟩
 unfold lk;rw[h];simp[a]
theorem Q5b {l:List Cla} {n:Q9}:Q4d l n=(lk l n).isSome:=by
 unfold Q4d;cases a:U2 l n with
 | none=>simp[lk,a]
 | some i=>obtain ⟨c,h,_⟩:=Wc a;simp[h]
theorem X5u {l:List Cla} {c:Cla} (h:c∈l): ∃d,lk l c.name=some d:=by
 cases a:U2 l c.name with
 | none=>
  have:=List.findIdx?_eq_none_iff.1 a c h
  simp at this
 | some i=>obtain ⟨d,h,_⟩:=Wc a;exact ⟨d,h⟩
inductive Reach (L : Nv) : Q9 -> Q9 -> Prop
  | refl {a : Q9} {c : Cla} : L a = some c -> Reach L a a
  | step {a u b : Q9} {c : Cla} : L a = some c -> u ∈ M6 c -> Reach L u b -> Reach L a b
theorem Reach.trans {L:Nv} {a b d:Q9} (h:Reach L a b) (k:Reach L b d):Reach L a d:=by
 induction h with
 | refl _=>exact k
 | step c e _ f=>exact .step c e (f k)
theorem Reach.right {L:Nv} {a b:Q9} (h:Reach L a b): ∃c,L b=some c:=by
 induction h with
 | refl h=>exact ⟨_,h⟩
 | step _ _ _ d=>exact d
theorem Reach.left {L:Nv} {a b:Q9} (h:Reach L a b): ∃c,L a=some c:=by
 cases h with
 | refl h=>exact ⟨_,h⟩
 | step h _ _=>exact ⟨_,h⟩
theorem Q53 (L:Nv): ∀(f:Nat) (a b:List Q9),∃r,Nk L f a b=b++r:=by
 intro f
 induction f with
 | zero=>intro a b;exact ⟨[],by simp[Nk]⟩
 | succ f c=>
  intro a b;cases a with
  | nil=>exact ⟨[],by simp[Nk]⟩
  | cons n a=>
   simp only[Nk]
   split
   .exact c _ _
   .split
    .exact c _ _
    .obtain ⟨r,d⟩:=c (a++M6 ‹_›) (b++[n])
     exact ⟨n::r,by rw[d];simp⟩
theorem X4Q (L:Nv): ∀(f:Nat) (a b:List Q9) (x:Q9),x∈Nk L f a b->x∈b\/ ∃t∈a,Reach L t x:=by
 intro f
 induction f with
 | zero=>intro a b x h;exact .inl h
 | succ f d=>
  intro a b x h;cases a with
  | nil=>exact .inl h
  | cons n a=>
   simp only[Nk] at h
   split at h
   .rcases d _ _ _ h with h | ⟨t,ht,h⟩
    .exact .inl h
    .exact .inr ⟨t,by simp[ht],h⟩
   .rename_i c e
    split at h
    .rcases d _ _ _ h with h | ⟨t,ht,h⟩
     .exact .inl h
     .exact .inr ⟨t,by simp[ht],h⟩
    .rcases d _ _ _ h with h | ⟨t,ht,h⟩
     .rcases List.mem_append.1 h with h | h
      .exact .inl h
      .simp at h;subst h;exact .inr ⟨x,by simp, .refl e⟩
     .rcases List.mem_append.1 ht with ht | ht
      .exact .inr ⟨t,by simp[ht],h⟩
      .exact .inr ⟨n,by simp, .step e ht h⟩
theorem X7o (l:List Cla) (a b:List Q9) (h: ∀x∈a,x∈b):weigh l b<=weigh l a:=by
 unfold weigh
 induction l with
 | nil=>simp
 | cons c r e=>
  simp only[List.map_cons,List.sum_cons]
  by_cases d:c.name∈a
  .rw[if_pos d,if_pos (h _ d)];omega
  .rw[if_neg d];split<;>omega
theorem Q2w (l:List Cla) (a:List Q9) (c:Cla) (hc:c∈l) (f:c.name∉a):weigh l (a++[c.name])+(M6 c).length<=weigh l a:=by
 unfold weigh
 induction l with
 | nil=>simp at hc
 | cons d r h=>
  simp only[List.map_cons,List.sum_cons];have e:weigh r (a++[c.name])<=weigh r a:=X7o _ _ _ (by simp;intro x g;exact .inl g)
  unfold weigh at e
  rcases List.mem_cons.1 hc with rfl | hc
  .rw[if_pos (by simp),if_neg f];omega
  .have:=h hc
   by_cases b:d.name∈a
   .rw[if_pos (by simp[b]),if_pos b];omega
   .rw[if_neg b];split<;>omega
theorem X6m (l:List Cla): ∀(f:Nat) (a b:List Q9),a.length+weigh l b<=f->
 (∀x∈b,∀c,lk l x=some c-> ∀u∈M6 c,∀d,lk l u=some d->u∈b\/u∈a)->
 (∀t∈a,∀d,lk l t=some d->t∈Nk (lk l) f a b)/\ ∀x∈Nk (lk l) f a b,∀c,lk l x=some c-> ∀u∈M6 c,∀d,lk l u=some d->u∈Nk (lk l) f a b:=by
 intro f
 induction f with
 | zero=>
  intro a b w o;have:a=[]:=List.eq_nil_of_length_eq_zero (by omega)
  subst this;refine ⟨by simp,fun x hx c i u j d g=>?_⟩
  rcases o x hx c i u j d g with h | h
  .exact h
  .simp at h
 | succ f v=>
  intro a b w o;cases a with
  | nil=>
   refine ⟨by simp,fun x hx c i u j d g=>?_⟩
   rcases o x hx c i u j d g with h | h
   .exact h
   .simp at h
  | cons n a=>
   simp only[List.length_cons] at w;simp only[Nk]
   split
   .rename_i y
    obtain ⟨p,q⟩:=v a b (by omega) (fun x hx c i u j d g=>by
     rcases o x hx c i u j d g with h | h
     .exact .inl h
     .rcases List.mem_cons.1 h with rfl | h
      .rw[y] at g;cases g
      .exact .inr h)
    refine ⟨fun t ht d g=>?_,q⟩
    rcases List.mem_cons.1 ht with rfl | ht
    .rw[y] at g;cases g
    .exact p t ht d g
   .rename_i c i
    split
    .rename_i k
     obtain ⟨r,s⟩:=Q53 (lk l) f a b
     obtain ⟨p,q⟩:=v a b (by omega) (fun x hx c i u j d g=>by
      rcases o x hx c i u j d g with h | h
      .exact .inl h
      .rcases List.mem_cons.1 h with rfl | h
       .exact .inl k
       .exact .inr h)
     refine ⟨fun t ht d g=>?_,q⟩
     rcases List.mem_cons.1 ht with rfl | ht
     .rw[s];simp[k]
     .exact p t ht d g
    .rename_i k
     obtain ⟨e,A,_⟩:=N1 i;have B:=Q2w l b c A (by rw[e];exact k)
     rw[e] at B
     obtain ⟨p,q⟩:=v (a++M6 c) (b++[n]) (by rw[List.length_append];omega) (fun x hx z m u j d g=>by
      rcases List.mem_append.1 hx with hx | hx
      .rcases o x hx z m u j d g with h | h
       .exact .inl (by simp[h])
       .rcases List.mem_cons.1 h with rfl | h
        .exact .inl (by simp)
        .exact .inr (by simp[h])
      .simp at hx;subst hx
       rw[i] at m;cases m;exact .inr (by simp[j]))
     refine ⟨fun t ht d g=>?_,q⟩
     rcases List.mem_cons.1 ht with rfl | ht
     .obtain ⟨r,s⟩:=Q53 (lk l) f (a++M6 c) (b++[t])
      rw[s];simp
     .exact p t (by simp[ht]) d g
theorem Nh {l:List Cla} {a b:Q9}:b∈Qy l a↔Reach (lk l) a b:=by
 obtain ⟨g,i⟩:=X6m l (1+weigh l []) [a] [] (by simp) (by simp)
 constructor
 .intro h
  rcases X4Q _ _ _ _ _ h with h | ⟨t,e,f⟩
  .simp at h
  .simp at e;subst e;exact f
 .intro h
  have key: ∀{x y:Q9},Reach (lk l) x y->x∈Qy l a->y∈Qy l a:=by
   intro x y h
   induction h with
   | refl _=>exact id
   | step j m k o=>
    intro n;obtain ⟨d,c⟩:=k.left;exact o (i _ n _ j _ m _ c)
  obtain ⟨d,c⟩:=h.left;exact key h (g a (by simp) d c)
theorem X6n (l:List Cla): ∀(f:Nat) (a b:List Q9),a.length+weigh l b<=f-> ∀k,Nk (lk l) (f+k) a b=Nk (lk l) f a b:=by
 intro f
 induction f with
 | zero=>
  intro a b h k;have:a=[]:=List.eq_nil_of_length_eq_zero (by omega)
  subst this;cases k<;>rfl
 | succ f g=>
  intro a b h k;cases a with
  | nil=>rw[Nat.succ_add];rfl
  | cons n a=>
   simp only[List.length_cons] at h;rw[Nat.succ_add];simp only[Nk]
   split
   .exact g _ _ (by omega) k
   .rename_i c i
    split
    .exact g _ _ (by omega) k
    .rename_i d
     obtain ⟨e,j,_⟩:=N1 i;have m:=Q2w l b c j (by rw[e];exact d)
     rw[e] at m;exact g _ _ (by rw[List.length_append];omega) k
def De (L:Nv) (a b:Q9):Prop:= ∃c,L a=some c/\ ∃u∈M6 c,Reach L u b
def Uo (l:List Cla):Prop:= ∀a,¬De (lk l) a a
theorem De.reach {L:Nv} {a b:Q9} (h:De L a b):Reach L a b:=by
 obtain ⟨c,d,u,f,e⟩:=h;exact .step d f e
theorem De.trans {L:Nv} {a b d:Q9} (h:De L a b) (k:Reach L b d):De L a d:=by
 obtain ⟨c,e,u,g,f⟩:=h;exact ⟨c,e,u,g,f.trans k⟩
theorem Q4U {L:Nv} {a b:Q9}:Reach L a b↔(a=b/\(∃c,L a=some c))\/De L a b:=by
 constructor
 .intro h
  cases h with
  | refl h=>exact .inl ⟨rfl,_,h⟩
  | step d e f=>exact .inr ⟨_,d,_,e,f⟩
 .rintro (⟨rfl,c,h⟩ | h)
  .exact .refl h
  .exact h.reach
def Jv (l:List Cla) (a b:Q9):Bool:=match lk l a with
 | none=>false
 | some c=>(M6 c).any fun u=>(Qy l u).contains b
theorem Mh {l:List Cla} {a b:Q9}:Jv l a b=true↔De (lk l) a b:=by
 unfold Jv De;cases h:lk l a with
 | none=>simp
 | some c=>
  simp only[List.any_eq_true,List.contains_iff_mem,Nh];constructor
  .rintro ⟨u,e,d⟩;exact ⟨c,rfl,u,e,d⟩
  .rintro ⟨_,⟨⟩,u,e,d⟩;exact ⟨u,e,d⟩
def A0 (l:List Cla) (n:Q9):Nat:=l.countP fun m=>Jv l n m.name
theorem Q0I (l:List Cla) (n:Q9):A0 l n<=l.length:=List.countP_le_length
theorem Q8O {α:Type} {p q:α->Bool}: ∀{l:List α},(∀x∈l,p x=true->q x=true)->(∃x∈l,q x=true/\p x=false)->l.countP p<l.countP q:=by
 intro l
 induction l with
 | nil=>rintro _ ⟨x,hx,_⟩;simp at hx
 | cons a r g=>
  rintro h ⟨x,hx,d,c⟩;have f:r.countP p<=r.countP q:=List.countP_mono_left fun x hx=>h x (by simp[hx])
  rw[List.countP_cons,List.countP_cons]
  rcases List.mem_cons.1 hx with rfl | hx
  .rw[d,c];simp;omega
  .have:=g (fun x hx=>h x (by simp[hx])) ⟨x,hx,d,c⟩
   have e:=h a (by simp)
   cases b:p a
   .simp;split<;>omega
   .rw[e b];simp;omega
theorem X8S {l:List Cla} (f:Uo l) {a b:Q9} (h:De (lk l) a b):A0 l b<A0 l a:=by
 unfold A0;refine Q8O (fun x _ j=>?_) ?_
 .rw[Mh] at*
  exact h.trans j.reach
 .obtain ⟨d,g⟩:=(Reach.right (h.reach))
  obtain ⟨e,i,_⟩:=N1 g;refine ⟨d,i,?_,?_⟩
  .rw[Mh,e];exact h
  .cases c:Jv l b d.name with
   | false=>rfl
   | true=>rw[Mh,e] at c;exact absurd c (f b)
theorem Yf {l:List Cla} (b:Uo l) {a u:Q9} {c d:Cla} (e:lk l a=some c) (g:u∈M6 c) (f:lk l u=some d):A0 l u<A0 l a:=
 X8S b ⟨c,e,u,g, .refl f⟩
theorem X21 {l:List Cla} (b:Uo l): ∀(f g:Nat) (n:Q9),A0 l n<f->A0 l n<g->Xh (lk l) f n=Xh (lk l) g n:=by
 intro f
 induction f with
 | zero=>intro g n h;omega
 | succ f i=>
  intro g n j k;obtain ⟨g,rfl⟩: ∃m,g=m+1:=⟨g-1,by omega⟩
  simp only[Xh];cases e:lk l n with
  | none=>rfl
  | some c=>
   simp only
   congr 1
   cases a:lk l c.super with
   | none=>cases f<;>cases g<;>simp[Xh,a]
   | some d=>
    have:=Yf b e (by simp[M6]) a
    exact i g c.super (by omega) (by omega)
theorem Kn {l:List Cla} (a:Uo l) (n:Q9):chain l n=match lk l n with | none=>[] | some c=>c::chain l c.super:=by
 have:=Q0I l n;unfold chain;rw[Xh];cases e:lk l n with
 | none=>rfl
 | some c=>
  simp only
  congr 1
  cases b:lk l c.super with
  | none=>cases l.length<;>simp[Xh,b]
  | some d=>
   have:=Yf a e (by simp[M6]) b
   exact X21 a _ _ _ (by omega) (by omega)
theorem Em {l:List Cla} {n:Q9} (h:lk l n=none):chain l n=[]:=by simp[chain,Xh,h]
theorem Cs {α β:Type} {f g:α->Option β}: ∀{l:List α},(∀x∈l,f x=g x)->l.findSome? f=l.findSome? g
 | [],_=>rfl
 | a::r,h=>by
  rw[List.findSome?_cons,List.findSome?_cons,h a (by simp),Cs fun x b=>h x (by simp[b])]
theorem X2i {l:List Cla} (b:Uo l) (n:Q9): ∀(f g:Nat) (c:Cla),lk l c.name=some c->A0 l c.name<f->A0 l c.name<g->Pa (lk l) f c n=Pa (lk l) g c n:=by
 intro f
 induction f with
 | zero=>intro g c _ h;omega
 | succ f k=>
  intro g c i o p;obtain ⟨g,rfl⟩: ∃m,g=m+1:=⟨g-1,by omega⟩
  simp only[Pa];refine Cs fun u j=>?_;cases a:lk l u with
  | none=>rfl
  | some d=>
   simp only;cases Qg d n with
   | some m=>rfl
   | none=>
    simp only;have:=Yf b i (by simp[M6,j]) a
    have e:=(N1 a).1;exact k g d (by rw[e];exact a) (by rw[e];omega) (by rw[e];omega)
def O3 (l:List Cla) (c:Cla) (n:Q9):Option (Q9×Hm.Met):=Pa (lk l) (l.length+1) c n
theorem Q93 {l:List Cla} (b:Uo l) {c:Cla} (f:lk l c.name=some c) (n:Q9):O3 l c n=c.like.findSome? fun u=>match lk l u with
 | none=>none
 | some d=>match Qg d n with
  | some m=>some (u,m)
  | none=>O3 l d n:=by
 have:=Q0I l c.name;unfold O3;rw[Pa];refine Cs fun u g=>?_;cases a:lk l u with
 | none=>rfl
 | some d=>
  simp only;cases Qg d n with
  | some m=>rfl
  | none=>
   have:=Yf b f (by simp[M6,g]) a
   have e:=(N1 a).1;exact X2i b n _ _ d (by rw[e];exact a) (by rw[e];omega) (by rw[e];omega)
theorem X2n {l:List Cla} (b:Uo l): ∀(f g:Nat) (n:Q9),A0 l n<f->A0 l n<g->Ya (lk l) f n=Ya (lk l) g n:=by
 intro f
 induction f with
 | zero=>intro g n h;omega
 | succ f i=>
  intro g n j k;obtain ⟨g,rfl⟩: ∃m,g=m+1:=⟨g-1,by omega⟩
  simp only[Ya];cases e:lk l n with
  | none=>rfl
  | some c=>
   simp only
   have:Ya (lk l) f c.super=Ya (lk l) g c.super:=by
    cases a:lk l c.super with
    | none=>cases f<;>cases g<;>simp[Ya,a]
    | some d=>
     have:=Yf b e (by simp[M6]) a
     exact i g c.super (by omega) (by omega)
   rw[this]
theorem Q9f {l:List Cla} (a:Uo l) (n:Q9):E3 l n=match lk l n with
 | none=>[]
 | some c=>if n=L3 then [] else n++[40]++E3 l c.super++[41]++c.fields.flatMap I8++[46]:=by
 have:=Q0I l n;unfold E3;rw[Ya];cases e:lk l n with
 | none=>rfl
 | some c=>
  simp only
  have:Ya (lk l) l.length c.super=Ya (lk l) (l.length+1) c.super:=by
   cases b:lk l c.super with
   | none=>cases l.length<;>simp[Ya,b]
   | some d=>
    have:=Yf a e (by simp[M6]) b
    exact X2n a _ _ _ (by omega) (by omega)
  rw[this]
theorem Aw {l:List Cla} {n:Q9} (h:lk l n=none):E3 l n=[]:=by simp[E3,Ya,h]
def Yr (l:List Cla):Prop:=(l.map (·.name)).Nodup
theorem Yr.lk {l:List Cla} (h:Yr l) {c:Cla} (f:c∈l):Go.Hm.lk l c.name=some c:=by
 obtain ⟨d,g⟩:=X5u f;obtain ⟨e,p,i,o,a⟩:=N1 g;obtain ⟨j,n,rfl⟩:=List.getElem_of_mem f;obtain ⟨b,k⟩:=List.getElem?_eq_some_iff.1 a
 have:i=j:=by
  have m:(l.map (·.name))[i]'(by simpa using b)=(l.map (·.name))[j]'(by simpa using n):=by simp[k,e]
  exact (List.getElem_inj h).1 m
 subst this;rw[g,<-k]
theorem Yr.find {l:List Cla} (h:Yr l) {i:Nat} {c:Cla} (f:l[i]? =some c):U2 l c.name=some i:=by
 obtain ⟨b,rfl⟩:=List.getElem?_eq_some_iff.1 f;have:=h.lk (List.getElem_mem b);obtain ⟨e,n,j,m,g⟩:=N1 this;obtain ⟨a,k⟩:=List.getElem?_eq_some_iff.1 g
 have:j=i:=by
  have d:(l.map (·.name))[j]'(by simpa using a)=(l.map (·.name))[i]'(by simpa using b):=by simp[k]
  exact (List.getElem_inj h).1 d
 rw[m,this]
end Go.Hm
namespace Go.Emb
open Go.RowKit Go.Hm
variable {w w1 w' : World} {σ σ1 σ2 σ' : Q2}
theorem Stp.join (c:Stp w σ w' σ1) (d:Stp w σ w' σ2): ∃f,Stp w σ w' f/\SLe σ1 f/\SLe σ2 f:=by
 have h: ∀b o,σ1 b=some o->(fun b=>(σ1 b).or (σ2 b)) b=some o:=fun b o e=>by simp[e]
 have j: ∀b o,σ2 b=some o->(fun b=>(σ1 b).or (σ2 b)) b=some o:=by
  intro b o e;cases a:σ1 b with
  | none=>simp[a,e]
  | some p=>
   have i:=c.sat b p a;have g:=d.sat b o e;rw[i] at g;cases g;simp only[a,Option.some_or]
 refine ⟨fun b=>(σ1 b).or (σ2 b),⟨c.bel,?_,fun b o e=>h b o (c.le b o e),?_⟩,⟨h⟩,⟨j⟩⟩
 .intro b o e
  cases a:σ1 b with
  | none=>simp only[a,Option.none_or] at e;exact d.sat b o e
  | some p=>simp only[a,Option.some_or] at e;cases e;exact c.sat b _ a
 .intro b a
  simp only[c.old b a,d.old b a];cases σ b<;>rfl
theorem Zq {Φ:Q2->Value->Prop} {A a:(Value->World->Prop)->Prop} (h:A (fun v w'=> ∃σ',Stp w σ w' σ'/\Φ σ' v)) (e:a (fun v w'=> ∃σ',Stp w σ w' σ'/\Φ σ' v)):V2 (fun w w'=>Below w.heap.size w w') A a:=
 F4 _ (fun _ _ _ ⟨σ',b,c⟩ d=>⟨σ',b.trans (Stp.of_below b.sat d),c⟩) h e
theorem Er {Φ:Q2->Value->Prop} {v:Value} (a:Hst w σ w1 σ) (h:Stp w1 σ w' σ') (b:Φ σ' v):dk (fun w w'=>Below w.heap.size w w') (fun v w'=> ∃σ',Stp w σ w' σ'/\Φ σ' v) w1 v w':=
 ⟨h.bel,σ',a.stp.trans h,b⟩
theorem F9.mk {m:Hm.Met} {pv a b:Value} (c:Sl 1 L1 σ pv m.params) (d:Sl 3 Zn σ a m.code) (e:Sl 4 Ld σ b m.catches) (f:m.name.length<=V4) (g:m.result.length<=V4) (h:Qj m.locals):F9 σ m [S m.name,pv,S m.result, .bool m.abs,I m.locals,a,b]:=
 ⟨pv,a,b,rfl,c,d,e,f,g,h⟩
theorem M8.mk {c:Cla} {b a mv:Value} (d:Sl 1 L1 σ b c.like) (e:Sl 3 K3 σ a c.fields) (f:Sl 7 F9 σ mv c.methods) (g:c.name.length<=V4) (h:c.super.length<=V4):M8 σ c [S c.name,S c.super,b, .bool c.iface, .bool c.abs, .bool c.fin,a,mv]:=
 ⟨b,a,mv,rfl,d,e,f,g,h⟩
end Go.Emb
namespace Go.Hm
def SmM (m:Hm.Met):Prop:=m.params.length<=1000000/\m.code.length<=1000000/\m.catches.length<=1000000
def Yy (c:Cla):Prop:=c.like.length<=1000000/\c.fields.length<=1000000/\c.methods.length<=1000000/\ ∀m∈c.methods,SmM m
end Go.Hm
namespace Go.Proofs.Y
open Go.Emb Go.RowKit Go.Kd Go.Hm
variable {w : World} {K : Value -> World -> Prop} {σ : Q2}
theorem Q8L {m:Hm.Met} {cs:List Value} (hs:X3 w σ) (hm:F9 σ m cs) (D:SmM m)
 (h: ∀pv o f w' σ',Stp w σ w' σ'->F9 σ' m [S m.name,pv,S m.result, .bool m.abs,I m.locals,o,f]->K (.agg [S m.name,pv,S m.result, .bool m.abs,I m.locals,o,f].toArray) w'):Q0 P F.cB [.agg cs.toArray] w K:=Q9F (by
 obtain ⟨pv,o,f,rfl,y,z,A,Y,Z,g6⟩:=hm;obtain ⟨s1,s2,s3⟩:=D;unfold Q2G;simp only[Y5,X5];refine Sc hs fun b w1 σ1 d g a=>?_;refine E5 g.sat fun X w2 σ2 B j c=>?_;have ac:=a.lt;replace a:=a.step j;have C:=j.sat;have y:=(y.up g).up j;have z:=(z.up g).up j;have A:=(A.up g).up j;have L: ∀{w':World} (i:Nat) (v:Value),[S m.name,pv,S m.result, .bool m.abs,I m.locals,o,f][i]? =some v->Hst w2 σ2 w' σ2->w'.cell? ((⟨b,0,none⟩:Addr).add i)=some v:=fun i v f hh=>(a.step hh.stp).cell f;refine V3 C ?_;refine Y1 (.pointer (some ((⟨b,0,none⟩:Addr).add 1))) (fun w d=>by rw[fa];exact Y4 rfl) ?_
 refine Y1 (.pointer (some ((⟨b,0,none⟩:Addr).add 5))) (fun w d=>by rw[fa];exact Y4 rfl) ?_
 refine Y1 (.pointer (some ((⟨b,0,none⟩:Addr).add 6))) (fun w d=>by rw[fa];exact Y4 rfl) ?_
 refine Y1 pv (fun t w d e=>by rw[e];exact Zk (L 1 pv rfl d) (Y4 rfl)) ?_
 refine Zq (Φ:=fun σ' v=>Sl 1 L1 σ' v m.params) (fun t w d e=>by rw[e];exact Dn d.sat y s1 fun W w' σ' s f=>Er d s f) ?_
 refine Y1 o (fun t w d e=>by rw[e];exact Zk (L 5 o rfl d) (Y4 rfl)) ?_
 refine Zq (Φ:=fun σ' v=>Sl 3 Zn σ' v m.code) (fun t w d e=>by rw[e];exact Bs d.sat z s2 fun W w' σ' s f=>Er d s f) ?_
 refine Y1 f (fun t w d e=>by rw[e];exact Zk (L 6 f rfl d) (Y4 rfl)) ?_
 refine Y1 (.pointer (some ((⟨b,0,none⟩:Addr).add 1))) (fun w d=>by rw[fa];exact Y4 rfl) ?_
 refine Zq (Φ:=fun σ' v=>Sl 4 Ld σ' v m.catches) (fun t w d e=>by rw[e];exact Bp d.sat A s3 fun W w' σ' s f=>Er d s f) ?_
 rintro t1 t2 t3 t4 t5 t6 t8 t9 am N w3 ab e1 e2 e3 e4 ⟨σ5,k5,p⟩ e6 ⟨σ8,k8,q⟩ e9 u ⟨av,E,k⟩;subst u;obtain ⟨σa,ka,J,M⟩:=k5.join k8;obtain ⟨σ3,H,Q,l2⟩:=ka.join E;have p:=(p.lift J).lift Q;have q:=(q.lift M).lift Q;have k:=k.lift l2;have a:=a.step H;have c:=c.step H;have n:X≠b:=by omega
 have l:=(g.trans j).trans H;refine Vy a V5 (Dh p) (Yl p) fun w4 R a=>?_;rw[fa];have l:=R.stp l d a.1;have c:=c.upd R n;refine Vy a V5 (Dh q) (Yl q) fun w5 U a=>?_;rw[fa];have l:=U.stp l d a.1;have c:=c.upd U n;refine Vy a V5 (Dh k) (Yl k) fun w6 V a=>?_;have l:=V.stp l d a.1;have c:=c.upd V n;refine Gi a rfl ?_;have O:=F9.mk p q k Y Z g6;have r:=C7 B g;refine Ms c rfl rfl (by rw[List.all_toArray];exact List.all_eq_true.2 (Rep.one O)) fun w7 u7 c=>?_
 have l:=u7.stp l r c.1;refine M5 c rfl ?_;exact h t5 t8 N w7 σ3 l O)
theorem X6v {c:Cla} {cs:List Value} (hs:X3 w σ) (hc:M8 σ c cs) (av:Yy c)
 (h: ∀X U mv w' σ',Stp w σ w' σ'->M8 σ' c [S c.name,S c.super,X, .bool c.iface, .bool c.abs, .bool c.fin,U,mv]->K (.agg [S c.name,S c.super,X, .bool c.iface, .bool c.abs, .bool c.fin,U,mv].toArray) w'):Q0 P F.d9 [.agg cs.toArray] w K:=Q9E (by
 obtain ⟨X,U,mv,rfl,g1,g2,V,g4,g5⟩:=hc;obtain ⟨s1,s2,s3,s4⟩:=av;unfold Q2F;simp only[Y5,X5,L9];unfold X6 J3 X4 X2 X1;refine Sc hs fun b w1 σ1 l m f=>?_;refine E5 m.sat fun R w2 σ2 ap o g=>?_;have be:=f.lt;replace f:=f.step o;have ar:=o.sat;have g1:=(g1.up m).up o;have g2:=(g2.up m).up o;have V:=(V.up m).up o;have L: ∀{w':World} (i:Nat) (v:Value),[S c.name,S c.super,X, .bool c.iface, .bool c.abs, .bool c.fin,U,mv][i]? =some v->Hst w2 σ2 w' σ2->w'.cell? ((⟨b,0,none⟩:Addr).add i)=some v:=fun i v W hh=>(f.step hh.stp).cell W;refine V3 ar ?_;refine Y1 (.pointer (some ((⟨b,0,none⟩:Addr).add 2))) (fun w l=>by rw[fa];exact Y4 rfl) ?_
 refine Y1 (.pointer (some ((⟨b,0,none⟩:Addr).add 6))) (fun w l=>by rw[fa];exact Y4 rfl) ?_
 refine Y1 X (fun t w l e=>by rw[e];exact Zk (L 2 X rfl l) (Y4 rfl)) ?_
 refine Zq (Φ:=fun σ' v=>Sl 1 L1 σ' v c.like) (fun t w l e=>by rw[e];exact Dn l.sat g1 s1 fun v' w' σ' E W=>Er l E W) ?_
 refine Y1 U (fun t w l e=>by rw[e];exact Zk (L 6 U rfl l) (Y4 rfl)) ?_
 refine Y1 (.pointer (some ((⟨b,0,none⟩:Addr).add 2))) (fun w l=>by rw[fa];exact Y4 rfl) ?_
 refine Zq (Φ:=fun σ' v=>Sl 3 K3 σ' v c.fields) (fun t w l e=>by rw[e];exact Bq l.sat g2 s2 fun v' w' σ' E W=>Er l E W) ?_
 rintro t6 t9 t7 t8 bn bo ae w3 ba e6 e9 e7 ⟨σ8,k8,Y⟩ a7 ah ⟨bs,aw,u⟩;subst ah;obtain ⟨σ3,k3,l1,l2⟩:=k8.join aw;have Y:=Y.lift l1;have u:=u.lift l2;have V:=V.up k3;have f:=f.step k3;have g:=g.step k3;have Q:R≠b:=by omega
 have Z:=(m.trans o).trans k3;refine Vy f V5 (Dh Y) (Yl Y) fun w4 u4 f=>?_;rw[fa];have Z:=u4.stp Z l f.1;have g:=g.upd u4 Q;refine Vy f V5 (Dh u) (Yl u) fun w5 u5 f=>?_;rw[fa];have Z:=u5.stp Z l f.1;have g:=g.upd u5 Q;refine Yj f rfl ?_;refine Q6 V ?_
 refine O4 c.methods.length (fun n a w'=> ∃σ',Stp w σ w' σ'/\SLe σ3 σ'/\W4 w.heap.size T.d 7 F9 σ' w' a (c.methods.take n)/\Z7 σ' w' b [S c.name,S c.super,t8, .bool c.iface, .bool c.abs, .bool c.fin,ae,mv]/\Z7 σ' w' R [S [],S [], .slice none 0 0, .bool false, .bool false, .bool false, .slice none 0 0, .slice none 0 0]/\ ∀k,a.ownBlock=some k->k≠b/\k≠R)
  ⟨σ3,Z,SLe.refl _,W4.nil,f,g,fun k E=>by cases E⟩ fun n a w6 d hn hi=>?_
 obtain ⟨σ6,B,C,ha,f,g,j⟩:=hi;refine Y9 ?_;refine Q4 (fun hh=>?_) (fun hh=>?_)
 .have z:n<c.methods.length:=by simpa using hh
  have ab:c.methods.length<=9223372036854775807:=by omega
  refine E4 (V.lift C) z fun p cs hl y hr=>?_;refine Z3 B.sat hl y ?_;refine Z9 B.sat (by rfl) y (Rep.one hr) fun q w7 σ7 r hq=>?_
  refine Z3 r.sat hq y ?_;refine Q8L r.sat (Rep.up r.le hr) (s4 _ (List.getElem_mem z)) fun pv cv W w8 σ8 N aq=>?_;have O:=(Nxt.of_stp (D:=fun k=>a.ownBlock=some k) r).trans (Nxt.of_stp N);have an:=(ha.up r).up N;have ax:=(f.nx O fun e=>(j _ e).1 rfl).lt;have ay:=(g.nx O fun e=>(j _ e).2 rfl).lt;refine Un ((B.trans r).trans N) an aq rfl rfl rfl (by rw[List.length_take];omega) (by rw[List.length_take];omega) fun s v' w9 σ9 A al ao hat=>?_
  refine C2 ?_;have A:=O.trans A;refine Z8 ab z ⟨σ9,al,C.more A.le,?_,f.nx A fun e=>(j _ e).1 rfl,g.nx A fun e=>(j _ e).2 rfl,?_⟩
  .rw[List.take_add_one,List.getElem?_eq_getElem z];exact ao
  .intro k E
   rcases hat with hat | hat
   .exact j k (hat▸E)
   .have:=hat k E
    constructor<;>omega
 .have z: ¬n<c.methods.length:=by simpa using hh
  rw[List.take_of_length_le Q5] at ha;obtain ⟨σ7,J,M,ad,H⟩:=ha.keep B;have f:Z7 σ7 w6 b _:=⟨(H b fun e=>(j b e.symm).1 rfl).trans f.1,f.2⟩;have g:Z7 σ7 w6 R _:=⟨(H R fun e=>(j R e.symm).2 rfl).trans g.1,g.2⟩;rw[fa];refine Vy f V5 (Dh M) (Yl M) fun w7 u7 f=>?_;have J:=u7.stp J l f.1;have g:=g.upd u7 Q;refine Gi f rfl ?_;have hr:=M8.mk (Y.lift (C.more ⟨ad⟩)) (u.lift (C.more ⟨ad⟩)) M g4 g5;have aa:=C7 ap m;refine Ms g rfl rfl (by rw[List.all_toArray];exact List.all_eq_true.2 (Rep.one hr)) fun w8 u8 g=>?_
  have ak:=u8.stp J aa g.1;refine M5 g rfl ?_;exact h t8 ae a w8 σ7 ak hr)
end Go.Proofs.Y
namespace Go.Hm
open Go.Kd
def T1 {α:Type}:Nat->List α->List α
 | 0,xs=>xs
 | i+1,xs=>match (T1 i xs)[i]?,(T1 i xs)[xs.length-1-i]? with
  | some a,some b=>((T1 i xs).set i b).set (xs.length-1-i) a
  | _,_=>T1 i xs
theorem Q4X {α:Type} (xs:List α): ∀i,2*i<=xs.length->(T1 i xs).length=xs.length/\ ∀k,k<xs.length->(T1 i xs)[k]? =if k<i\/xs.length-1-k<i then xs[xs.length-1-k]? else xs[k]?
 | 0,_=>⟨rfl,fun k j=>by simp[T1]⟩
 | i+1,h=>by
  obtain ⟨m,c⟩:=Q4X xs i (by omega)
  have a:=c i (by omega)
  have b:=c (xs.length-1-i) (by omega)
  rw[if_neg (by omega)] at a b
  have n:i<xs.length:=by omega
  have d:xs.length-1-i<xs.length:=by omega
  rw[List.getElem?_eq_getElem (l:=xs) n] at a;rw[List.getElem?_eq_getElem (l:=xs) d] at b;simp only[T1,a,b];refine ⟨by simp[m],fun k j=>?_⟩
  by_cases e:k=xs.length-1-i
  .subst e
   rw[List.getElem?_set_self (by simp[m];omega),if_pos (by omega)]
   rw[show xs.length-1-(xs.length-1-i)=i by omega,List.getElem?_eq_getElem (by omega)]
  .rw[List.getElem?_set_ne (by omega)]
   by_cases f:k=i
   .subst f
    rw[List.getElem?_set_self (by omega),if_pos (by omega),List.getElem?_eq_getElem (by omega)]
   .rw[List.getElem?_set_ne (by omega),c k j]
    by_cases g:k<i\/xs.length-1-k<i
    .rw[if_pos g,if_pos (by omega)]
    .rw[if_neg g,if_neg (by omega)]
theorem X65 {α:Type} (xs:List α) (i:Nat) (c:2*i<=xs.length) (e:xs.length<=2*i+1):T1 i xs=xs.reverse:=by
 obtain ⟨f,d⟩:=Q4X xs i c;apply List.ext_getElem?;intro k
 by_cases b:k<xs.length
 .rw[d k b,List.getElem?_reverse b]
  by_cases a:k<i\/xs.length-1-k<i
  .rw[if_pos a]
  .rw[if_neg a];congr 1;omega
 .rw[List.getElem?_eq_none (by omega),List.getElem?_eq_none (by simp;omega)]
theorem Q0Y (L:Nv): ∀(f:Nat) (n:Q9),(Xh L f n).length<=f
 | 0,_=>by simp[Xh]
 | f+1,n=>by
  simp only[Xh]
  split
  .simp
  .have:=Q0Y L f (by rename_i c _;exact c.super)
   simp only[List.length_cons];rename_i c _;have:=Q0Y L f c.super;omega
theorem Tn (l:List Cla) (n:Q9):(chain l n).length<=l.length+1:=Q0Y _ _ _
theorem To {l:List Cla} {n:Q9} {c:Cla} (h:c∈chain l n):c∈l:=by
 have key: ∀(f:Nat) (n:Q9),c∈Xh (lk l) f n->c∈l:=by
  intro f
  induction f with
  | zero=>intro n h;simp[Xh] at h
  | succ f b=>
   intro n h;simp only[Xh] at h
   split at h
   .simp at h
   .rename_i d a
    rcases List.mem_cons.1 h with rfl | h
    .exact (N1 a).2.1
    .exact b _ h
 exact key _ _ h
theorem Jd {α β:Type} (f:α->List β) (k:Nat): ∀(xs:List α),(∀x∈xs,(f x).length<=k)->(xs.flatMap f).length<=xs.length*k
 | [],_=>by simp
 | x::r,h=>by
  have b:=h x (by simp)
  have c:=Jd f k r fun y a=>h y (by simp[a])
  simp only[List.flatMap_cons,List.length_append,List.length_cons,Nat.add_mul];omega
def J0 (l:List Cla) (i:Nat):Q9:=(l.getD i Cla.zero).name
theorem Us {l:List Cla} (b:Yr l) {i:Nat} (a:i<l.length):lk l (J0 l i)=some (l.getD i Cla.zero):=by
 have e:l.getD i Cla.zero=l[i]:=by rw[List.getD_eq_getElem?_getD,List.getElem?_eq_getElem a];rfl
 unfold J0;rw[e];exact b.lk (List.getElem_mem a)
theorem K6 {l:List Cla} {u:Q9} {j:Nat} (h:U2 l u=some j):j<l.length/\J0 l j=u:=by
 obtain ⟨a,b,_⟩:=List.findIdx?_eq_some_iff_getElem.1 h;refine ⟨a,?_⟩;unfold J0;rw[List.getD_eq_getElem?_getD,List.getElem?_eq_getElem a]
 simpa using b
theorem Q5q {l:List Cla} (b:Uo l) (f:Yr l) {i j:Nat} (e:i<l.length) {u:Q9} (g:u∈M6 (l.getD i Cla.zero)) (a:U2 l u=some j):A0 l (J0 l j)<A0 l (J0 l i):=by
 obtain ⟨c,d,_⟩:=Wc a;rw[(K6 a).2];exact Yf b (Us f e) g d
theorem Ao {α β:Type} {f g:β->α->β}: ∀(xs:List α) (b:β),(∀b x,x∈xs->f b x=g b x)->xs.foldl f b=xs.foldl g b
 | [],_,_=>rfl
 | x::r,b,h=>by
  rw[List.foldl_cons,List.foldl_cons,h b x (by simp)]
  exact Ao r _ fun b y a=>h b y (by simp[a])
theorem Vg {l:List Cla} {frm:Nat} (f:Nat) (out:List Nat) {i:Nat} (h:i<frm):Zc l frm f out i=out:=by
 cases f<;>simp[Zc,h]
theorem X5J {l:List Cla} (d:Uo l) (k:Yr l) {frm:Nat} (a:0<frm): ∀(f g:Nat) (out:List Nat) (i:Nat),i<l.length->A0 l (J0 l i)<f->A0 l (J0 l i)<g->Zc l frm f out i=Zc l frm g out i:=by
 intro f
 induction f with
 | zero=>intro g out i _ h;omega
 | succ f o=>
  intro g out i e p q;obtain ⟨g,rfl⟩: ∃m,g=m+1:=⟨g-1,by omega⟩
  simp only[Zc]
  split
  .rfl
  .split
   .rfl
   .congr 1
    refine Ao _ _ fun b u n=>?_;cases c:U2 l u with
    | none=>simp only[Option.getD_none];rw[Vg f b a,Vg g b a]
    | some j=>
     simp only[Option.getD_some];have:=Q5q d k e n c;exact o g b j (K6 c).1 (by omega) (by omega)
def Uh (l:List Cla) (frm:Nat) (out:List Nat) (i:Nat):List Nat:=Zc l frm (l.length+1) out i
theorem X39 {l:List Cla} (c:Uo l) (e:Yr l) {frm:Nat} (a:0<frm) (out:List Nat) {i:Nat} (f:i<l.length):Uh l frm out i=if i<frm then out else if i∈out then out else
 ((M6 (l.getD i Cla.zero)).foldl (fun out n=>Uh l frm out ((U2 l n).getD 0)) out)++[i]:=by
 have h:=Q0I l (J0 l i);unfold Uh;rw[Zc]
 split
 .rfl
 .split
  .rfl
  .congr 1
   refine Ao _ _ fun b u g=>?_;cases d:U2 l u with
   | none=>simp only[Option.getD_none];rw[Vg _ b a,Vg _ b a]
   | some j=>
    simp only[Option.getD_some];have:=Q5q c e f g d;exact X5J c e a _ _ b j (K6 d).1 (by omega) (by omega)
theorem Dp {α:Type} {p:Nat->Prop} {f:List Nat->α->List Nat}: ∀(xs:List α) (b:List Nat),(∀b x,x∈xs-> ∀y∈f b x,y∈b\/p y)-> ∀y∈xs.foldl f b,y∈b\/p y
 | [],b,_=>fun y a=> .inl a
 | x::r,b,h=>fun y a=>by
  rw[List.foldl_cons] at a
  rcases Dp r _ (fun b z c=>h b z (by simp[c])) y a with h1 | h1
  .exact h b x (by simp) y h1
  .exact .inr h1
theorem X10 {l:List Cla} (m:Yr l) {frm:Nat} (q:0<frm): ∀(f:Nat) (out:List Nat) (i:Nat),i<l.length-> ∀y∈Zc l frm f out i,y∈out\/(y<l.length/\(y=i\/De (lk l) (J0 l i) (J0 l y))):=by
 intro f
 induction f with
 | zero=>intro out i _ y hy;exact .inl hy
 | succ f r=>
  intro out i e y hy;simp only[Zc] at hy
  split at hy
  .exact .inl hy
  .split at hy
   .exact .inl hy
   .rcases List.mem_append.1 hy with hy | hy
    .refine Dp (p:=fun y=>y<l.length/\(y=i\/De (lk l) (J0 l i) (J0 l y))) _ _ (fun b u n y hy=>?_) y hy
     cases d:U2 l u with
     | none=>
      rw[d] at hy;simp only[Option.getD_none] at hy;rw[Vg f b q] at hy;exact .inl hy
     | some j=>
      rw[d] at hy;simp only[Option.getD_some] at hy;obtain ⟨g,a⟩:=K6 d;obtain ⟨c,o,_⟩:=Wc d
      rcases r b j g y hy with h | ⟨k,rfl | h2⟩
      .exact .inl h
      .exact .inr ⟨k, .inr ⟨_,Us m e,u,n,by rw[a];exact .refl o⟩⟩
      .exact .inr ⟨k, .inr ⟨_,Us m e,u,n,by rw[<-a];exact h2.reach⟩⟩
    .simp at hy;subst hy;exact .inr ⟨e, .inl rfl⟩
theorem Q6X {α:Type} {q:List Nat->Prop} {f:List Nat->α->List Nat}: ∀(xs:List α) (b:List Nat),(∀b x,x∈xs->q b->q (f b x))->q b->q (xs.foldl f b)
 | [],b,_,h=>h
 | x::r,b,a,h=>by
  rw[List.foldl_cons];exact Q6X r _ (fun b z c=>a b z (by simp[c])) (a b x (by simp) h)
def Few (l:List Cla) (out:List Nat):Prop:=out.Nodup/\ ∀y∈out,y<l.length
theorem Few.len {l:List Cla} {out:List Nat} (h:Few l out):out.length<=l.length:=by
 have key: ∀(n:Nat) (out:List Nat),out.Nodup->(∀y∈out,y<n)->out.length<=n:=by
  intro n
  induction n with
  | zero=>
   intro out _ h;cases out with
   | nil=>simp
   | cons a r=>have:=h a (by simp);omega
  | succ n k=>
   intro out d h
   have f:=k (out.filter (fun y=> !decide (y=n))) (d.sublist List.filter_sublist) (fun y b=>by
    have:=List.mem_filter.1 b;have g:=h y this.1;have m:y≠n:=by simpa using this.2
    omega)
   have g:out.length<=(out.filter (fun y=> !decide (y=n))).length+1:=by
    clear f h
    induction out with
    | nil=>simp
    | cons a r c=>
     obtain ⟨i,j⟩:=List.nodup_cons.1 d
     by_cases e:a=n
     .subst e
      have:r.filter (fun y=> !decide (y=a))=r:=List.filter_eq_self.2 fun y b=>by simp;rintro rfl;exact i b
      simp[this]
     .have:=c j
      simp[e];exact this
   omega
 exact key _ _ h.1 h.2
theorem Q1M {l:List Cla} (m:Uo l) (t:Yr l) {frm:Nat} (o:0<frm): ∀(f:Nat) (out:List Nat) (i:Nat),i<l.length->Few l out->Few l (Zc l frm f out i):=by
 intro f
 induction f with
 | zero=>intro out i _ h;exact h
 | succ f B=>
  intro out i w h;simp only[Zc]
  split
  .exact h
  .split
   .exact h
   .rename_i q
    have z:Few l ((M6 (l.getD i Cla.zero)).foldl (fun out n=>Zc l frm f out ((U2 l n).getD 0)) out):=by
     refine Q6X _ _ (fun b u v e=>?_) h;cases d:U2 l u with
     | none=>simp only[Option.getD_none];rw[Vg f b o];exact e
     | some j=>exact B b j (K6 d).1 e
    have s:i∉(M6 (l.getD i Cla.zero)).foldl (fun out n=>Zc l frm f out ((U2 l n).getD 0)) out:=by
     intro k
     rcases Dp (p:=fun y=>De (lk l) (J0 l i) (J0 l y)) _ _ (fun b u v y hy=>by
      cases d:U2 l u with
      | none=>
       rw[d] at hy;simp only[Option.getD_none] at hy;rw[Vg f b o] at hy;exact .inl hy
      | some j=>
       rw[d] at hy;simp only[Option.getD_some] at hy;obtain ⟨r,g⟩:=K6 d;obtain ⟨c,A,_⟩:=Wc d
       rcases X10 t o f b j r y hy with h | ⟨h1,rfl | h2⟩
       .exact .inl h
       .exact .inr ⟨_,Us t w,u,v,by rw[g];exact .refl A⟩
       .exact .inr ⟨_,Us t w,u,v,by rw[<-g];exact h2.reach⟩) i k with h1 | h1
     .exact q h1
     .exact m _ h1
    refine ⟨?_,fun y hy=>?_⟩
    .rw[List.nodup_append]
     exact ⟨z.1,by simp,by rintro a m b e rfl;simp at e;subst e;exact s m⟩
    .rcases List.mem_append.1 hy with hy | hy
     .exact z.2 y hy
     .simp at hy;omega
end Go.Hm
namespace Go.Emb
open Go.RowKit Go.Hm
variable {w w' : World}
def K4 (sz:Nat) (v:Value) (i:Nat):Addr:=match v with
 | .slice (some b) _ _=>b.add (i*sz)
 | _=>⟨0,0,none⟩
variable {P : Program} {K : Value -> World -> Prop} {σ : Q2} {α : Type} {R : Q2 -> α -> List Value -> Prop} {sz : Nat} {v : Value} {xs : List α}
theorem Sl.el (h:Sl sz R σ v xs) {i:Nat} (k:i<xs.length): ∃cs,U0 σ (K4 sz v i) cs/\cs.length=sz/\R σ xs[i] cs:=by
 obtain ⟨a,c,rfl,l,m,g,j⟩:=h;cases a with
 | none=>have:=g rfl;omega
 | some b=>
  obtain ⟨cs,d,e,f⟩:=(j b rfl).2 i xs[i] (by simp[k])
  exact ⟨cs,d,e,f⟩
theorem Y7 {t e:TypeId} {c:Nat} {z:Value} [TS P t e] [TZ P e sz c z] (h:Sl sz R σ v xs) {i:Nat} (m:i<xs.length) (g:K (.pointer (some (K4 sz v i))) w):indexAddr P t v (I i) w K:=by
 obtain ⟨a,d,rfl,j,k,f,l⟩:=h;cases a with
 | none=>have:=f rfl;omega
 | some b=>
  rw[Kz Q5 Q5]
  simpa [K4] using g
theorem Sl.elS {xs:List Kd.Q9} (h:Sl 1 L1 σ v xs) {i:Nat} (c:i<xs.length):U0 σ (K4 1 v i) [S xs[i]]/\xs[i].length<=V4:=by
 obtain ⟨cs,a,d,rfl,b⟩:=h.el c;exact ⟨a,b⟩
theorem Sl.elF {xs:List Fld} (h:Sl 3 K3 σ v xs) {i:Nat} (c:i<xs.length):U0 σ (K4 3 v i) [S xs[i].name,S xs[i].kind, .bool xs[i].tr]/\K3 σ xs[i] [S xs[i].name,S xs[i].kind, .bool xs[i].tr]:=by
 obtain ⟨cs,a,d,rfl,b⟩:=h.el c;exact ⟨a,rfl,b⟩
theorem Sl.elI {xs:List Ins} (h:Sl 3 Zn σ v xs) {i:Nat} (c:i<xs.length):U0 σ (K4 3 v i) [S xs[i].op,I xs[i].n,S xs[i].s]/\Zn σ xs[i] [S xs[i].op,I xs[i].n,S xs[i].s]:=by
 obtain ⟨cs,a,d,rfl,b⟩:=h.el c;exact ⟨a,rfl,b⟩
theorem Sl.elK {xs:List Cat} (h:Sl 4 Ld σ v xs) {i:Nat} (c:i<xs.length):U0 σ (K4 4 v i) [I xs[i].frm,I xs[i].to,I xs[i].at_,S xs[i].cls]/\Ld σ xs[i] [I xs[i].frm,I xs[i].to,I xs[i].at_,S xs[i].cls]:=by
 obtain ⟨cs,a,d,rfl,b⟩:=h.el c;exact ⟨a,rfl,b⟩
theorem Sl.conv {α β:Type} {R:Q2->α->List Value->Prop} {R':Q2->β->List Value->Prop} {sz:Nat} {v:Value} {xs:List α} {ys:List β} (h:Sl sz R σ v xs) (j:ys.length=xs.length) (q: ∀i (g:i<xs.length) (s:i<ys.length) cs,R σ xs[i] cs->R' σ ys[i] cs):Sl sz R' σ v ys:=by
 obtain ⟨a,d,rfl,n,o,p,e⟩:=h;refine ⟨a,d,by rw[j],by rw[j];exact n,o,p,fun b f=>⟨fun t=>(e b f).1 Q5,fun i x r=>?_⟩⟩
 obtain ⟨g,rfl⟩:=List.getElem?_eq_some_iff.1 r;have c:i<xs.length:=by omega
 obtain ⟨cs,k,l,m⟩:=(e b f).2 i xs[i] (List.getElem?_eq_getElem c);exact ⟨cs,k,l,q i c g cs m⟩
theorem Sl.elM {xs:List Hm.Met} (h:Sl 7 F9 σ v xs) {i:Nat} (e:i<xs.length): ∃pv a b,U0 σ (K4 7 v i) [S xs[i].name,pv,S xs[i].result, .bool xs[i].abs,I xs[i].locals,a,b]/\F9 σ xs[i] [S xs[i].name,pv,S xs[i].result, .bool xs[i].abs,I xs[i].locals,a,b]:=by
 obtain ⟨cs,c,f,pv,a,b,rfl,d⟩:=h.el e;exact ⟨pv,a,b,c,pv,a,b,rfl,d⟩
theorem Sl.elC {xs:List Cla} (h:Sl 8 M8 σ v xs) {i:Nat} (e:i<xs.length): ∃b a mv,U0 σ (K4 8 v i) [S xs[i].name,S xs[i].super,b, .bool xs[i].iface, .bool xs[i].abs, .bool xs[i].fin,a,mv]/\M8 σ xs[i] [S xs[i].name,S xs[i].super,b, .bool xs[i].iface, .bool xs[i].abs, .bool xs[i].fin,a,mv]:=by
 obtain ⟨cs,c,f,b,a,mv,rfl,d⟩:=h.el e;exact ⟨b,a,mv,c,b,a,mv,rfl,d⟩
theorem Y3 {b:World->World->Prop} {A a:(Value->World->Prop)->Prop} {V:Value} (h:A (fun v _=>V=v)) (c:a (fun v _=>V=v)):V2 b A a:=F4 _ (fun _ _ _ h _=>h) h c
theorem X9 {v V:Value} (h:V=v):dk (fun w w'=>Below w.heap.size w w') (fun v _=>V=v) w v w:=⟨Below.refl _ _,h⟩
theorem F7 {v V:Value} (a:Below w.heap.size w w') (h:V=v):dk (fun w w'=>Below w.heap.size w w') (fun v _=>V=v) w v w':=⟨a,h⟩
theorem Zv {c b:Bool} {V:Value} {a:World->(Value->World->Prop)->Prop} (h:c=b->a w (dk (fun w w'=>Below w.heap.size w w') (fun v _=>V=v) w)):Q1 (.bool c) b w a (dk (fun w w'=>Below w.heap.size w w') (fun v _=>(if c=b then V else undef)=v) w):=by
 by_cases e:c=b
 .simp only[e,if_true]
  subst e;have:=h rfl;cases c
  .rw[C3];exact this
  .rw[H0];exact this
 .have d:c= !b:=by cases c<;>cases b<;>simp_all
  rw[if_neg e];subst d;cases b
  .rw[Bool.not_false,Qs];exact ⟨Below.refl _ _,rfl⟩
  .rw[Bool.not_true,G8];exact ⟨Below.refl _ _,rfl⟩
theorem Vq {p:Prop} (hq:p:=by intros;(repeat (rename_i hx;subst hx));(repeat' (first | (with_reducible exact X9 rfl) | (with_reducible exact F7 (Stp.bel (by (repeat (first | exact Stp.refl (by (first | assumption | exact Stp.sat Q8 | exact Hst.sat Q8)) | assumption | refine Stp.trans ?_ (by first | assumption | exact Hst.stp Q8))))) rfl) | (with_reducible intro _) | (simp only[↓M2,M2,Mb,reduceIte]) | (with_reducible show Q7 _ _ _ _ _;first | refine Y6 aS aL aR ?_ | refine Z3 aS aL aR ?_ | refine ld aS aL aR ?_) | (with_reducible show indexAddr _ _ _ _ _ _;refine Y7 aL au ?_) | (with_reducible show U4 _ _ _ _ _ _ _ _;refine Q6 aL ?_) | (with_reducible show Xv _ _ _ _ _ _;refine W3 aR ?_) | (with_reducible show pick _ _ _ _ _ _;refine F6 ?_) | (apply Zv;intro hh;(try simp only[hh,reduceIte,↓M2,M2,Mb,reduceIte]))));done):p:=hq
variable {w0 : World} {σ0 σ' : Q2} {e : TypeId} {u : Value} {ys : List α}
def Emp (v:Value):Prop:= ∃a,v= .slice a 0 0
theorem X3q {t y:TypeId} {o:Nat} {z:Value} {cs:List Bool} [ts:TS P t e] [tz:TZ P e sz o z] [hr:Rep R] (V:Stp w0 σ0 w σ) (ha:W4 w0.heap.size e sz R σ w v []) (hv:Emp v) (M:X3 w σ') (Z:Sl sz R σ' u ys) (hR: ∀x cs,R σ' x cs->R σ x cs) (hz:(z.cells.size==sz&&decide (0<sz))=true)
 (hb:ys.length*o<=140737488355328) (hm:ys.length<=1000000000000)
 (h: ∀j w',Stp w σ w' σ->W4 w0.heap.size e sz R σ w' j ys->K j w'):U4 P .append [t,t] y cs [v,u] w K:=by
 obtain ⟨g,rfl⟩:=hv;have L:=V.sat;obtain ⟨a,c,news,rfl,n1,s,n3,n4,n5⟩:=Z.cells M;obtain ⟨i,X,N,C,n⟩:=tz.info;simp only[Bool.and_eq_true,beq_iff_eq,decide_eq_true_eq] at hz;obtain ⟨O,al⟩:=hz
 have f:Src P i.size t (.slice a ys.length c) ys.length news w:=by
  cases a with
  | some b=>exact Src.ofSlice w ts.h b ys.length c news (by rw[N];exact s) (n3 b rfl) n4
  | none=>
   have r:ys.length=0:=by
    obtain ⟨Q,U,e',q1,_,q3,_⟩:=Z;injection e' with e1 e2 e3;have:=n1 rfl;omega
   have J:news=[]:=List.eq_nil_of_length_eq_zero (by rw[s,r];simp)
   subst J;rw[r];exact Src.ofNil w ts.h c
 have p: ∀j w',(Builtin.append_ #[t,t] y #[.slice g 0 0, .slice a ys.length c]).run P w= .ok j w'->Stp w σ w' σ->W4 w0.heap.size e sz R σ w' j ys->U4 P .append [t,t] y cs [.slice g 0 0, .slice a ys.length c] w K:=by
  intro j w' d H hq
  have m:(builtin .append #[t,t] y cs.toArray #[.slice g 0 0, .slice a ys.length c]).run P w= .ok (.value j) w':=by
   simp[builtin,d]
  unfold U4;rw[Zf];unfold Yp;rw[m];exact h j w' H hq
 by_cases r:ys=[]
 .subst r
  have J:news=[]:=List.eq_nil_of_length_eq_zero (by simpa using s)
  subst J;refine p (.slice g 0 0) w ?_ (Stp.refl L) ha;have Y:=f.len w;have q:=f.cells;simp only[List.length_nil] at Y q⊢;cases g<;>simp[Builtin.append_,run_underlying ts.h,sizeOf,typeInfo,X,Y,q,storeCells]
 .have ak:0<ys.length:=List.length_pos_iff.2 r
  have l:(Builtin.firstCells i.size 0 (.slice g 0 0)).run P w.drew= .ok (#[]:Array Value) w.drew:=by
   cases g with
   | none=>exact run_firstCells_none w.drew i.size 0 0 0
   | some Q=>exact run_firstCells_some w.drew i.size 0 Q 0 0 [] V5 (by intro _ _ h';simp at h')
  have W:0<0+ys.length:=by omega
  have d:=run_append_grow_src (P:=P) w t t y e i z ts.h X n g 0 0 [] l (.slice a ys.length c) ys.length news f W Q5 (growslice_fits W (by rw[C,Nat.zero_add];exact hb))
  simp only[Nat.zero_add] at d;have D:=grownCap_le_maxLen w ys.length 0 e (by simp only[maxLen];omega)
  have E:=grownCap_ge w ys.length 0 e;refine p _ _ d (Stp.of_below L ((Below.refl _ _).drew.alloc (Nat.le_refl _) _)) ⟨news,⟨s, .inr ⟨w.heap.size,_,_,rfl,V.bel.size,heap_alloc_new w.drew _,E,D,?_,?_⟩⟩,?_,fun i x hx=>hR _ _ (n5 i x hx)⟩
  .simp only[List.nil_append]
   rw[Array.size_append,List.size_toArray,s,size_zeroCells,O,<-Nat.add_mul]
   congr 1;omega
  .simp only[List.nil_append]
   rw[Array.toList_append];rw[List.take_append_of_le_length (by simp only[List.toList_toArray];omega),List.take_of_length_le (by simp only[List.toList_toArray];omega)]
  .intro k H;cases H;exact L.none (Nat.le_refl _)
theorem X6c {t l:TypeId} {a:Nat} {z:Value} {cs:List Bool} [ts:TS P t e] [tz:TZ P e sz a z] [hr:Rep R] (b:Stp w0 σ0 w σ) (d:W4 w0.heap.size e sz R σ w v []) (j:Emp v) (i:Sl sz R σ u ys) (k:(z.cells.size==sz&&decide (0<sz))=true)
 (f:ys.length*a<=140737488355328) (g:ys.length<=1000000000000)
 (h: ∀c w',Stp w σ w' σ->W4 w0.heap.size e sz R σ w' c ys->K c w'):U4 P .append [t,t] l cs [v,u] w K:=
 X3q b d j b.sat i (fun _ _ h=>h) k f g h
def X6h {α:Type} (w0:World) (σ:Q2) (e:TypeId) (sz:Nat) (R:Q2->α->List Value->Prop) (xs:List α) (v:Value) (w':World):Prop:=Stp w0 σ w' σ/\W4 w0.heap.size e sz R σ w' v xs
def X3r {α:Type} (w0:World) (σ:Q2) (e:TypeId) (sz:Nat) (R:Q2->α->List Value->Prop) (v:Value) (w':World):Prop:=Stp w0 σ w' σ/\W4 w0.heap.size e sz R σ w' v ([]:List α)/\Emp v
variable {w1 : World} {A rest : (Value -> World -> Prop) -> Prop}
theorem Q0f [Rep R] (xs:List α) (h:A (X6h w σ e sz R xs)) (d:rest (X6h w σ e sz R xs)):V2 (fun w w'=>Below w.heap.size w w') A rest:=
 F4 _ (fun _ _ _ ⟨a,c⟩ b=>⟨a.trans (Stp.of_below a.sat b),c.up (Stp.of_below a.sat b)⟩) h d
theorem X8n [Rep R] (h:A (X3r w σ e sz R)) (f:rest (X3r w σ e sz R)):V2 (fun w w'=>Below w.heap.size w w') A rest:=
 F4 _ (fun _ _ _ ⟨a,c,d⟩ b=>⟨a.trans (Stp.of_below a.sat b),c.up (Stp.of_below a.sat b),d⟩) h f
theorem Q3O (a:Hst w σ w1 σ) (h:Stp w1 σ w' σ) (b:W4 w.heap.size e sz R σ w' v xs):dk (fun w w'=>Below w.heap.size w w') (X6h w σ e sz R xs) w1 v w':=⟨h.bel,a.stp.trans h,b⟩
theorem X9E (a:Hst w σ w1 σ) (h:Stp w1 σ w' σ) (b:W4 w.heap.size e sz R σ w' v ([]:List α)) (c:Emp v):dk (fun w w'=>Below w.heap.size w w') (X3r w σ e sz R) w1 v w':=⟨h.bel,a.stp.trans h,b,c⟩
theorem Bm {t:TypeId} {a:Nat} {z:Value} [ts:TS P t e] [tz:TZ P e sz a z] (R:Q2->α->List Value->Prop) (c:Stp w0 σ0 w σ) (i:0<sz)
 (h: ∀v w',Stp w σ w' σ->W4 w0.heap.size e sz R σ w' v ([]:List α)->Emp v->K v w'):buildSlice P t 0 [] w K:=by
 obtain ⟨cells,d,f⟩:=Gz (P:=P) (t:=t) (sz:=sz) (e:=e) [] V5 V5 w;unfold buildSlice;have b:(Instr.buildSlice t 0 ([]:List (Nat×Value)).toArray).run P w=_:=d;rw[Y8 b];refine h _ _ (Stp.own c.sat _) ⟨[],⟨by simp, .inr ⟨_,_,cells,rfl,c.bel.size,heap_alloc_new w _,by simp,by simp[maxLen],?_,by simp⟩⟩,?_,by simp⟩ ⟨_,rfl⟩
 .have:cells.size=0:=by rw[<-Array.length_toList,f];rfl
  simp[this]
 .intro k g;cases g;exact c.sat.none (Nat.le_refl _)
theorem Q11 [Rep R] {t:TypeId} {a:Nat} {z:Value} [ts:TS P t e] [tz:TZ P e sz a z] (b:(decide (0<sz))=true) (h:rest (X3r w σ e sz R)):
 V2 (fun w w'=>Below w.heap.size w w') (fun φ=> ∀w1:World,Hst w σ w1 σ->buildSlice P t 0 [] w1 (dk (fun w w'=>Below w.heap.size w w') φ w1)) rest:=
 X8n (fun w1 c=>Bm R c.stp (by simpa using b) fun v w' g d f=>X9E c g d f) h
theorem M8.parts {c:Cla} {a b j d e f g mv:Value} (h:M8 σ c [a,b,j,d,e,f,g,mv]):Sl 1 L1 σ j c.like/\Sl 3 K3 σ g c.fields/\Sl 7 F9 σ mv c.methods/\c.name.length<=V4/\c.super.length<=V4:=by
 obtain ⟨_,_,_,i,k⟩:=h;simp only[List.cons.injEq,and_true] at i;obtain ⟨_,_,rfl,_,_,_,rfl,rfl⟩:=i;exact k
theorem F9.parts {m:Hm.Met} {a pv b d e c g:Value} (h:F9 σ m [a,pv,b,d,e,c,g]):Sl 1 L1 σ pv m.params/\Sl 3 Zn σ c m.code/\Sl 4 Ld σ g m.catches/\m.name.length<=V4/\m.result.length<=V4/\Qj m.locals:=by
 obtain ⟨_,_,_,f,i⟩:=h;simp only[List.cons.injEq,and_true] at f;obtain ⟨_,rfl,_,_,_,rfl,rfl⟩:=f;exact i
theorem Q9w (a:Array Value) (n i:Nat) (f:i<n) (k:0<a.size):((madeCells a (n*a.size)).toList.drop (i*a.size)).take a.size=a.toList:=by
 have g:i*a.size+a.size<=n*a.size:=by rw[<-Nat.succ_mul];exact Nat.mul_le_mul_right _ f
 refine List.ext_getElem (by simp[madeCells];omega) fun j h d=>?_
 have c:j<a.size:=by simpa using d
 simp only[List.getElem_take,List.getElem_drop,madeCells,Array.toList_map,List.getElem_map,Array.toList_range,List.getElem_range,Array.getElem_toList];have:(i*a.size+j) % a.size=j:=by rw[Nat.add_comm,Nat.add_mul_mod_self_right];exact Nat.mod_eq_of_lt c
 rw[this]
 simp[c]
theorem Y00 {α:Type} {R:Q2->α->List Value->Prop} {t e:TypeId} {sz a n:Nat} {z:Value} [ts:TS P t e] [tz:TZ P e sz a z] (x0:α) (s:X3 w σ) (E:z.cells.size=sz) (f:0<sz) (D:R σ x0 z.cells.toList) (J:n*sz<=16777216) (H:a*n<=281474976710656)
 (h: ∀v w',Stp w σ w' σ->W4 w.heap.size e sz R σ w' v (List.replicate n x0)->(∀k,v.ownBlock=some k->w.heap.size<=k)->K v w'):Cx P t (I n) (I n) w K:=by
 obtain ⟨i,A,d,m,c⟩:=tz.info
 have l:(i.bytes:Int)*(n:Int)<=281474976710656:=by
  rw[m];have:((a*n:Nat):Int)<=281474976710656:=by omega
  rwa [Int.natCast_mul] at this
 have C:n<=16777216:=by
  have:n*1<=n*sz:=Nat.mul_le_mul_left _ f;omega
 have p:=run_makeSlice (P:=P) w t e i z ts.h A c .i64 .i64 (n:Int) (n:Int) Q5 (Int.le_refl _) (by rw[d];simp only[Int.toNat_natCast];omega) l Q5
 unfold Cx;rw[Y8 p];simp only[Int.toNat_natCast,d];refine h _ _ (Stp.own s _) ⟨(madeCells z.cells (n*sz)).toList,⟨by simp[madeCells], .inr ⟨w.heap.size,n,madeCells z.cells (n*sz),?_,Nat.le_refl _,heap_alloc_new w _,?_,?_,?_,?_⟩⟩,?_,fun j x g=>?_⟩ ?_
 .simp
 .simp
 .simp[maxLen];omega
 .simp[madeCells]
 .rw[List.take_of_length_le (by simp[madeCells])]
 .intro k o;cases o;exact s.none (Nat.le_refl _)
 .have r:j<n:=by have:=(List.getElem?_eq_some_iff.1 g).1;simpa using this
  have q:x=x0:=by
   rw[List.getElem?_replicate] at g;rw[if_pos r] at g;exact (Option.some.inj g).symm
  subst q;subst E;rw[Q9w z.cells n j r f];exact D
 .intro k o;cases o;exact Nat.le_refl _
variable {B : Nat}
theorem J7.shiftR [hr:Rep R] (h:J7 B e sz R σ w v xs) (t:SLe σ σ') (m: ∀k,v.ownBlock=some k->σ' k=none):J7 B e sz R σ' w v xs:=by
 obtain ⟨a,f,rfl,o,p,c,q⟩:=h;refine ⟨a,f,rfl,o,p,fun b d=>⟨(c b d).1,(c b d).2.1,(c b d).2.2.1,by subst d;exact m _ rfl⟩,fun r=>?_⟩
 obtain ⟨g,l,j,rfl,z,E,A,C,D⟩:=q r;exact ⟨g,l,j,rfl,z,m g rfl,A,C,fun i x s=>hr.up t.le (D i x s)⟩
def Q0W (w:World):World:={w with heap:= #[]}
theorem Uu (d:X3 w σ):Stp (Q0W w) (fun _=>none) w σ:=
 ⟨⟨rfl,rfl,rfl,Nat.zero_le _,fun k c=>absurd c (Nat.not_lt_zero k)⟩,d,fun _ _ h=>(by cases h),fun b a=>absurd a (Nat.not_lt_zero b)⟩
theorem J7.freeze [hr:Rep R] (g:X3 w σ) (h:J7 B e sz R σ w v xs): ∃σ',X3 w σ'/\SLe σ σ'/\Sl sz R σ' v xs/\ ∀k,some k≠v.ownBlock->σ' k=σ k:=by
 obtain ⟨σ',a,c,d,f⟩:=(h.mono (Nat.zero_le B):J7 (Q0W w).heap.size e sz R σ w v xs).keep (Uu g);exact ⟨σ',a.sat,d,c,f⟩
theorem Z7.freeze {b:Nat} {cs:List Value} (g:X3 w σ) (h:Z7 σ w b cs): ∃σ',X3 w σ'/\SLe σ σ'/\U0 σ' ⟨b,0,none⟩ cs/\ ∀k,k≠b->σ' k=σ k:=by
 obtain ⟨σ',a,c,d,f⟩:=h.keep (Uu g) (Nat.zero_le b);exact ⟨σ',a.sat,⟨d⟩,c,f⟩
theorem J7.raise {α:Type} {R:Q2->α->List Value->Prop} {B B' sz:Nat} {e:TypeId} {v:Value} {xs:List α} (h:J7 B' e sz R σ w v xs) (l: ∀k,v.ownBlock=some k->B<=k):J7 B e sz R σ w v xs:=by
 obtain ⟨a,f,rfl,m,o,d,p⟩:=h;refine ⟨a,f,rfl,m,o,fun b c=>⟨(d b c).1,l _ (by subst c;rfl),(d b c).2.2⟩,fun r=>?_⟩
 obtain ⟨g,j,i,rfl,s,q⟩:=p r;exact ⟨g,j,i,rfl,l g rfl,q⟩
theorem U0.tail {q:Addr} {xs ys:List Value} (h:U0 σ q (xs++ys)):U0 σ (q.add xs.length) ys:=by
 obtain ⟨d,a,e,z,f,g⟩:=h;cases xs with
 | nil=>exact ⟨by simp[Addr.add,d],a,e,z,by simpa [Addr.add] using f,fun i u c=>by simpa [Addr.add] using g i u c⟩
 | cons x xs=>
  refine ⟨by simp[Addr.add,d],a,e,z,by simpa [Addr.add] using f,fun i u c=>?_⟩
  have:=g ((x::xs).length+i) u (by rw[List.getElem?_append_right Q5];simpa using c)
  simpa [Addr.add,Nat.add_assoc] using this
theorem J7.down {α:Type} {R:Q2->α->List Value->Prop} {B sz:Nat} {e:TypeId} {v:Value} {xs:List α} (h:J7 B e sz R σ' w v xs) (C:SLe σ σ') (s: ∀x cs,R σ' x cs->R σ x cs):J7 B e sz R σ w v xs:=by
 obtain ⟨a,f,rfl,p,q,c,r⟩:=h
 have m: ∀k,σ' k=none->σ k=none:=fun k z=>by
  cases e:σ k with
  | none=>rfl
  | some o=>have:=C.le k o e;rw[z] at this;cases this
 refine ⟨a,f,rfl,p,q,fun b d=>⟨(c b d).1,(c b d).2.1,(c b d).2.2.1,m _ (c b d).2.2.2⟩,fun t=>?_⟩;obtain ⟨g,l,j,rfl,D,E,H,J,L⟩:=r t;exact ⟨g,l,j,rfl,D,m _ E,H,J,fun i x A=>s _ _ (L i x A)⟩
variable {b n : Nat} {ds : List Value} {V : Value}
structure VarT (b : Nat) (ds : List Value) (w w' : World) : Prop where
  kp : Kpt (fun j => j = b) w w'
  var : (b < w.heap.size -> w'.heap[b]? = w.heap[b]?) \/ ∃ e, w'.heap[b]? = some (.cells ds.toArray e (0, 0))
structure VarB (w0 : World) (σ0 : Q2) (w1 : World) (σ : Q2) (b n : Nat) (w' : World) : Prop where
  hst : Hst w0 σ0 w' σ
  kp : Kpt (fun j => j = b) w1 w'
  var : ∃ cs, cs.length = n /\ Z7 σ w' b cs
theorem VarT.of_below (h:Below w.heap.size w w'):VarT b ds w w':=⟨.of_below h, .inl fun a=>h.block b a⟩
theorem VarT.of_upd (h:Upd w b w') (a:Z7 σ w' b ds):VarT b ds w w':=⟨.of_upd h rfl, .inr a.2⟩
theorem VarB.step (d:w0.heap.size<=b) (g:ds.length=n) (h:VarB w0 σ0 w1 σ b n w) (k:VarT b ds w w'):VarB w0 σ0 w1 σ b n w':=by
 obtain ⟨cs,c,a⟩:=h.var;refine ⟨⟨h.hst.stp.kp k.kp fun j f=>by subst f;exact ⟨d,a.1⟩⟩,h.kp.trans k.kp,?_⟩
 rcases k.var with e | e
 .exact ⟨cs,c,a.1,by rw[e a.lt];exact a.2⟩
 .exact ⟨ds,g,a.1,e⟩
theorem X0v {A:(World->World->Prop)->(World->Prop)->Prop} (ds:List Value) {cs:List Value} (a:Stp w0 σ0 w σ) (f:w0.heap.size<=b) (j:Z7 σ w b cs) (i:cs.length=n) (g:ds.length=n)
 (h:A (VarT b ds) (VarB w0 σ0 w σ b n)):dr w A:=
 Q13 _ _ ⟨⟨a.trans (Stp.of_below a.sat (Below.refl _ _).drew)⟩, .of_below (Below.refl _ _).drew,cs,i,j⟩ (fun _ _ c d=>c.step f g d) h
theorem Ql (h:V=v):dk (VarT b ds) (fun v _=>V=v) w v w:=⟨.of_below (Below.refl _ _),h⟩
theorem Vz (a:Below w.heap.size w w') (h:V=v):dk (VarT b ds) (fun v _=>V=v) w v w':=⟨.of_below a,h⟩
theorem Ll {t:TypeId} {c:Nat} {z:Value} [tz:TZ P t n c z] {a:(List Value->Value->World->Prop)->Prop} {φ:Value->World->Prop} (m:ds.length=n) (g: ∀u∈ds,u.oneCell'=true) (r: ∀v w,φ v w-> .agg ds.toArray=v)
 (o:a (fun _ _ w=>Z7 σ w b ds)) (f:σ b=none):Ko (VarT b ds) (fun F=> ∀x w,VarB w0 σ0 w1 σ b n w->φ x w->U8 P t (.pointer (some ⟨b,0,none⟩)) x w (dk (VarT b ds) (F [x]) w)) a:=by
 refine Q8c _ (fun xs v w w' h k=>?_) (fun x w l q=>?_) o
 .rcases k.var with e | e
  .exact ⟨f,by rw[e h.lt];exact h.2⟩
  .exact ⟨f,e⟩
 .have:=r x w q
  subst this;obtain ⟨cs,i,j⟩:=l.var;exact Ms j i m (by rw[List.all_toArray];exact List.all_eq_true.2 g) fun w' p d=>⟨.of_upd p d,d⟩
theorem Ot {c a:Bool} {V:Value} {d:World->(Value->World->Prop)->Prop} (h:c=a->d w (dk (VarT b ds) (fun v _=>V=v) w)):Q1 (.bool c) a w d (dk (VarT b ds) (fun v _=>(if c=a then V else undef)=v) w):=by
 by_cases e:c=a
 .simp only[e,if_true]
  subst e;have:=h rfl;cases c
  .rw[C3];exact this
  .rw[H0];exact this
 .simp only[e,if_false]
  cases c<;>cases a<;>first | exact absurd rfl e | (rw[Qs];exact Ql rfl) | (rw[G8];exact Ql rfl)
theorem VarB.hs (h:VarB w0 σ0 w1 σ b n w):Hst w0 σ0 w σ:=h.hst
end Go.Emb
namespace Go.Emb
open Go.RowKit
variable {P : Program} {w : World} {K : Value -> World -> Prop}
theorem X8p {d:Nat} {xs ys:Array Value}:(Op.eqFields d xs ys []).run P w= .ok true w:=by simp[Op.eqFields]
theorem Q16 {d:Nat} {xs ys:Array Value} {f:Field} {a:List Field} {u v:Value} {b c:Bool} (h:f.name≠ "_") [tg:TG P f.type false] (i:xs[f.offset]? =some u) (j:ys[f.offset]? =some v)
 (e:(Op.equalIn d f.type u v).run P w= .ok b w) (g:(Op.eqFields d xs ys a).run P w= .ok c w):(Op.eqFields d xs ys (f::a)).run P w= .ok (b&&c) w:=by
 simp only[Op.eqFields,if_pos h]
 simp[part,Ul tg,i,j,e]
 cases b
 .simp
 .simp[g]
theorem X8r {d:Nat} {t:TypeId} (c:P.underlying t=some .string) (a b:List UInt8):(Op.equalIn (d+1) t (S a) (S b)).run P w= .ok (decide (a=b)) w:=by
 simp[Op.equalIn,run_underlying c,Bo]
theorem Q8d {d:Nat} {t:TypeId} {k c:IntKind} (f:P.underlying t=some (.int k)) (a b:Int):(Op.equalIn (d+1) t (.int c a) (.int c b)).run P w= .ok (decide (a=b)) w:=by
 simp[Op.equalIn,run_underlying f]
 by_cases e:a=b<;>simp[e]
theorem X8s {t:TypeId} {a c:Operand} {xs ys:List Value} {b:Bool} (i:P.underlying t=some (.struct (P.fieldsOf t))) (g:P.stoodInHeld t=false) (f:P.eqGuardType P.depth t=false)
 (d:(Op.eqFields 9999 xs.toArray ys.toArray (P.fieldsOf t).toList).run P w= .ok b w) (h:K (.bool b) w):Z2 P .eql t a c (.agg xs.toArray) (.agg ys.toArray) w K:=by
 have e:Z2 P .eql t a c (.agg xs.toArray) (.agg ys.toArray) w K=K (.bool b) w:=Y8 (by
  simp only[Sem.run_bind,run_eqGuard_agg w .eql t a c xs.toArray ys.toArray f,Result.andThen_ok];rw[run_eql_struct,run_equalIn_struct w 9999 t _ _ i g,d];rfl)
 rw[e];exact h
variable {w' : World}
def Q9W (o:Option Obj) (m:List (Int×Value)):Prop:=
 ∃b a,o=some (.map b a)/\b.toList.map (fun e=>(e.key,e.val))=m.map (fun p=>(I p.1,p.2))/\(b.toList.map (·.born)).Pairwise (· < ·)/\ ∀e∈b.toList,e.born<a
def Qv (m:List (Int×Value)) (k:Int):Option Value:=match m with
 | []=>none
 | p::r=>if p.1=k then some p.2 else Qv r k
def Ph (m:List (Int×Value)) (k:Int) (v:Value):List (Int×Value):=match m with
 | []=>[(k,v)]
 | p::r=>if p.1=k then (k,v)::r else p::Ph r k v
theorem Q3S (k:Int): ∀(c:List MapEntry) (m:List (Int×Value)) (i:Nat),c.map (fun e=>(e.key,e.val))=m.map (fun p=>(I p.1,p.2))->
 ∃r,Instr.findNow (.int .i64) (I k) c i=some r/\r.map (·.2)=Qv m k/\(∀j v,r=some (j,v)->i<=j/\(∃e,c[j-i]? =some e/\e.key=I k)/\ ∀u,(c.modify (j-i) fun e=>{e with key:=I k,val:=u}).map (fun e=>(e.key,e.val))=(Ph m k u).map (fun p=>(I p.1,p.2)))/\
  (r=none-> ∀u,Ph m k u=m++[(k,u)]):=by
 intro c
 induction c with
 | nil=>
  intro m i h;cases m with
  | nil=>exact ⟨none,rfl,rfl,V5,fun _ u=>rfl⟩
  | cons=>simp at h
 | cons e r o=>
  intro m i h;cases m with
  | nil=>simp at h
  | cons p q=>
   simp only[List.map_cons,List.cons.injEq,Prod.mk.injEq] at h;obtain ⟨⟨d,g⟩,l⟩:=h;simp only[Instr.findNow,d,Instr.sameNow,if_true]
   by_cases a:p.1=k
   .have f:(k==p.1)=true:=by simp[a]
    simp only[f];refine ⟨_,rfl,by simp[Qv,a,g],?_,by simp⟩
    intro j v b;cases b;refine ⟨Nat.le_refl _,⟨e,by simp,by rw[d,a]⟩,fun u=>?_⟩
    simp[Ph,a,l]
   .have f:(k==p.1)=false:=by simp;exact fun e=>a e.symm
    simp only[f];obtain ⟨A,s,t,y,z⟩:=o q (i+1) l;refine ⟨A,s,by simp[Qv,a,t],?_,?_⟩
    .intro j v b
     obtain ⟨D,B,C⟩:=y j v b;refine ⟨by omega,by rw[show j-i=(j-(i+1))+1 by omega];simpa using B,fun u=>?_⟩
     have:=C u;rw[show j-i=(j-(i+1))+1 by omega]
     simp[Ph,a,d,g,this]
    .intro n u
     simp[Ph,a,z n u]
theorem Uk {t:TypeId} (a:P.underlying t=some (.int .i64)) (b:Bool) (k:Int) (w:World):(Instr.checkKey b 10000 t (I k)).run P w= .ok () w:=by
 unfold Instr.checkKey
 simp[run_underlying a]
theorem Q96 {t g f:TypeId} {sz d:Nat} {z:Value} [tm:TM P t g f] [tz:TZ P f sz d z] (b:P.underlying g=some (.int .i64)) {r:Nat} {m:List (Int×Value)} (o:Q9W (w.heap[r]?) m) (k:Int):
 lookup P t (.map (some r)) (I k) true w K=K (match Qv m k with | some v=> .tuple #[v, .bool true] | none=> .tuple #[z, .bool false]) w:=by
 obtain ⟨e,a,j,l,s,u⟩:=o;obtain ⟨q,i,c,y,A⟩:=Q3S k e.toList m 0 l;unfold lookup;refine Y8 ?_;simp only[Instr.lookup,Sem.run_bind,run_underlying tm.h,Result.andThen_ok,Instr.findKey,run_underlying b,i,Uk b];have n:(getObj r).run P w= .ok (.map e a) w:=by simp[getObj,Sem.run,j]
 simp only[n,Result.andThen_ok,Sem.run_bind,Sem.run_pure,Uk b,run_underlying b,i];cases q with
 | none=>simp at c;rw[<-c];simp[Yu tz]
 | some p=>simp at c;rw[<-c];simp
theorem X5v {t g e:TypeId} {sz c:Nat} {z:Value} [tm:TM P t g e] [tz:TZ P e sz c z] (f:P.underlying g=some (.int .i64)) {r:Nat} {m:List (Int×Value)} (n:Q9W (w.heap[r]?) m) (k:Int):
 lookup P t (.map (some r)) (I k) false w K=K ((Qv m k).getD z) w:=by
 obtain ⟨d,a,i,j,s,u⟩:=n;obtain ⟨q,o,b,v,y⟩:=Q3S k d.toList m 0 j;unfold lookup;refine Y8 ?_;have l:(getObj r).run P w= .ok (.map d a) w:=by simp[getObj,Sem.run,i]
 simp only[Instr.lookup,Sem.run_bind,run_underlying tm.h,Result.andThen_ok,Instr.findKey,run_underlying f,o,Uk f,l,Sem.run_pure];cases q with
 | none=>simp at b;rw[<-b];simp[Yu tz]
 | some p=>simp at b;rw[<-b];simp
def K7 (σ:Q2) (w:World) (r:Nat) (m:List (Int×Value)):Prop:=σ r=none/\Q9W (w.heap[r]?) m
theorem K7.lt {σ:Q2} {r:Nat} {m:List (Int×Value)} (h:K7 σ w r m):r<w.heap.size:=by
 obtain ⟨_,c,a,b,_⟩:=h;exact (Array.getElem?_eq_some_iff.1 b).1
theorem K7.up {σ c:Q2} {r:Nat} {m:List (Int×Value)} (h:K7 σ w r m) (a:Stp w σ w' c):K7 c w' r m:=by
 have b:=h.lt;exact ⟨(a.old r b).trans h.1,(a.bel.block r b).symm▸h.2⟩
theorem X31 {t:TypeId} {σ:Q2} (a:X3 w σ) (h: ∀r w',w.heap.size<=r->Stp w σ w' σ->K7 σ w' r []->K (.map (some r)) w'):Rr P t none w K:=by
 unfold Rr;rw[Y8 (v:= .map (some w.heap.size)) (w':=w.alloc (.map #[] 0)) (by simp[Instr.makeMap])]
 exact h _ _ (Nat.le_refl _) (Stp.own a _) ⟨a.none (Nat.le_refl _), #[],0,heap_alloc_new w _,rfl,by simp,by simp⟩
theorem Q67 {t Q W:TypeId} [tm:TM P t Q W] (A:P.underlying Q=some (.int .i64)) {σ:Q2} {r:Nat} {m:List (Int×Value)} (Z:K7 σ w r m) (k:Int) (v:Value)
 (h: ∀w',Upd w r w'->K7 σ w' r (Ph m k v)->K undef w'):mapUpdate P t (.map (some r)) (I k) v w K:=by
 obtain ⟨J,l,d,C,L,M,D⟩:=Z;obtain ⟨r',R,q2,q3,q4⟩:=Q3S k l.toList m 0 L;have O:(getObj r).run P w= .ok (.map l d) w:=by simp[getObj,Sem.run,C]
 have Y:=(Array.getElem?_eq_some_iff.1 C).1
 have n: ∀o,o=Obj.map l d\/True->(∀c e f,o≠ .cells c e f)->(setObj r o).run P w= .ok () {w with heap:=w.heap.setIfInBounds r o}:=by
  intro o _ _
  simp[setObj,Sem.run,C]
 have B: ∀o,Upd w r {w with heap:=w.heap.setIfInBounds r o}:=fun o=>⟨rfl,rfl,rfl,by simp,fun k A=>by simp only[Array.getElem?_setIfInBounds];rw[if_neg Q5]⟩
 have z: ∀o,({w with heap:=w.heap.setIfInBounds r o}:World).heap[r]? =some o:=fun o=>by simp[Array.getElem?_setIfInBounds,Y]
 unfold mapUpdate;cases r' with
 | none=>
  rw[Wg (w':={w with heap:=w.heap.setIfInBounds r (.map (l.push {key:=I k,val:=v,born:=d}) (d+1))}) (by
   simp only[Instr.mapUpdate,Sem.run_bind,run_underlying tm.h,Result.andThen_ok,Instr.findKey,run_underlying A,R,Uk A,O,Sem.run_pure];exact n _ (.inr trivial) (by intros;simp))]
  refine h _ (B _) ⟨J,_,_,z _,?_,?_,?_⟩
  .rw[q4 rfl];simp[L]
  .simp only[Array.toList_push,List.map_append,List.map_cons,List.map_nil]
   rw[List.pairwise_append];refine ⟨M,by simp,?_⟩
   intro a X b N
   simp at N;subst N
   obtain ⟨e,s,rfl⟩:=List.mem_map.1 X;exact D e s
  .intro e s
   simp at s
   rcases s with s | rfl
   .have:=D e (by simpa using s);omega
   .simp
 | some p=>
  obtain ⟨j,u⟩:=p;obtain ⟨z1,z2,U⟩:=q3 j u rfl;obtain ⟨e,H,V⟩:=z2;simp only[Nat.sub_zero] at H U
  have g:((l.modify j fun e=>{e with key:=I k,val:=v}).toList.map (·.born))=l.toList.map (·.born):=by
   apply List.ext_getElem?;intro i;simp only[Array.toList_modify,List.getElem?_map,List.getElem?_modify]
   by_cases E:j=i<;>cases l.toList[i]? <;>simp[E]
  have q:(Instr.keyThatStays (I k) (I k)).run P w= .ok (I k) w:=by
   simp[Instr.keyThatStays,Instr.sameBits]
  rw[Wg (w':={w with heap:=w.heap.setIfInBounds r (.map (l.modify j fun e=>{e with key:=I k,val:=v}) d)}) (by
   simp only[Instr.mapUpdate,Sem.run_bind,run_underlying tm.h,Result.andThen_ok,Instr.findKey,run_underlying A,R,Uk A,O,Sem.run_pure];rw[show ((l[j]?).map (·.key)).getD (I k)=I k by rw[<-Array.getElem?_toList,H];simp[V]]
   simp only[q,Result.andThen_ok];exact n _ (.inr trivial) (by intros;simp))]
  refine h _ (B _) ⟨J,_,_,z _,?_,?_,?_⟩
  .simp only[Array.toList_modify];exact U v
  .rw[g];exact M
  .intro x hx
   have:x.born∈l.toList.map (·.born):=by rw[<-g];exact List.mem_map.2 ⟨x,hx,rfl⟩
   obtain ⟨y,hy,e⟩:=List.mem_map.1 this;rw[<-e];exact D y hy
end Go.Emb
namespace Go.Proofs.Y
open Go.Emb Go.RowKit Go.Kd
variable {w : World}
theorem bt {w w1 b:World} (a:Below w.heap.size w w1) (c:Below w1.heap.size w1 b):Below w.heap.size w b:=a.trans (c.mono a.size)
end Go.Proofs.Y
namespace Go.Emb
open Go.RowKit Go.Hm
variable {P : Program} {w : World} {K : Value -> World -> Prop}
theorem Y1c {c:List TypeId} {t:TypeId} {cs:List Bool} {k:IntKind} {a b:Int} (h:K (.int k (max a b)) w):U4 P .max c t cs [.int k a, .int k b] w K:=by
 have d:(builtin .max c.toArray t cs.toArray #[.int k a, .int k b]).run P w= .ok (.value (.int k (max a b))) w:=by
  have:=run_max_int2 (P:=P) (w:=w) c.toArray t k k a b;have e:(if b>a then b else a)=max a b:=by split<;>omega
  rw[e] at this
  simp[builtin,this]
 unfold U4;rw[Zf];unfold Yp;rw[d];exact h
theorem Y1d {c:List TypeId} {t:TypeId} {cs:List Bool} {k:IntKind} {a b:Int} (h:K (.int k (min a b)) w):U4 P .min c t cs [.int k a, .int k b] w K:=by
 have d:(builtin .min c.toArray t cs.toArray #[.int k a, .int k b]).run P w= .ok (.value (.int k (min a b))) w:=by
  have:=run_min_int2 (P:=P) (w:=w) c.toArray t k k a b;have e:(if b<a then b else a)=min a b:=by split<;>omega
  rw[e] at this
  simp[builtin,this]
 unfold U4;rw[Zf];unfold Yp;rw[d];exact h
end Go.Emb
