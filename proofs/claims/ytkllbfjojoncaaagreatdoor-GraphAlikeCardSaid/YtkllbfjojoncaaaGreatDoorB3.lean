/- Parts of a proof about the given program: its functions as texts of their own, what each computes, plain laws of that. The conditions of each stand in its statement. -/
import Derived.Test.YtkllbfjojoncaaaGreatDoorB2
import Derived.Deep.AppendSrc
import Derived.Laws.OwnMore
import Derived.Laws.CopyRow
import Derived.Laws.StructEq
import Derived.Test.YtkllbfjojoncaaaGreatDoorB1
set_option linter.unnecessarySimpa false
set_option linter.defProp false
set_option linter.unusedSectionVars false
set_option linter.unusedVariables false
set_option linter.unusedSimpArgs false
namespace Go.Emb
def W5 {α β:Type} (a:β->α->Bool×β):β->List α->Nat->Option Nat×β
 | s,[],_=>(none,s)
 | s,x::xs,i=>if (a s x).1 then (some i,(a s x).2) else W5 a (a s x).2 xs (i+1)
def H2 (o:Option Nat):Int:=match o with | some i=>i | none=> -1
theorem Yi {α:Type} (p:α->Bool): ∀(xs:List α) (i:Nat),(W5 (fun (_:Unit) x=>(p x,())) () xs i).1=(xs.findIdx? p).map (· +i):=by
 intro xs
 induction xs with
 | nil=>intro i;rfl
 | cons x r ih=>
  intro i;rw[List.findIdx?_cons];simp only[W5];cases p x with
  | true=>simp
  | false=>
   simp only[Bool.false_eq_true,if_false];rw[ih (i+1),Option.map_map]
   congr 1;funext n;simp only[Function.comp];omega
theorem Km {α β:Type} (a:β->α->Bool×β) (s:β) (xs:List α) (i:Nat):decide ((0:Int)<=H2 (W5 a s xs i).1)=(W5 a s xs i).1.isSome:=by
 cases (W5 a s xs i).1<;>simp[H2]
end Go.Emb
namespace Go.Proofs.Y
open Go.Emb Go.RowKit Go.Kd Go.Hm
variable {w : World} {K : Value -> World -> Prop} {σ : Q2}
theorem Nz {β:Type} {xs:List Hm.Met} {v f:Value} (b:β->Hm.Met->Bool×β) (m:β) (a:β->World->Prop) (D:Nat->Prop) (l: ∀s w,a s w->X7 w σ) (y:a m w) (u:Sl 7 F5 σ v xs)
 (z: ∀s x cs (w1:World) (K:Value->World->Prop),x∈xs->Kpt D w w1->a s w1->F5 σ x cs->cs.length=7->(∀w',Kpt D w w'->a (b s x).2 w'->K (.bool (b s x).1) w')->U7 P f [.agg cs.toArray] w1 K)
 (h: ∀w',Kpt D w w'->a (W5 b m xs 0).2 w'->K (I (H2 (W5 b m xs 0).1)) w'):Q0 P F.h [v,f] w K:=Ub (by
 unfold T5 V1 V3 Y0 X5
 ((try simp only[↓M1,M1,Mb,reduceIte]);repeat ((first | refine ld Q9 Q9 rfl ?_ | refine Y6 Q9 Q9 rfl ?_ | refine Q7 Q9 ?_);(try simp only[↓M1,M1,Mb,reduceIte])))
 refine V7 xs.length (fun n w'=>Kpt D w w'/\ ∃s,a s w'/\W5 b m xs 0=W5 b s (xs.drop n) n) ⟨Kpt.refl,m,y,rfl⟩ fun n w1 d E i=>?_;obtain ⟨t,s,i,e⟩:=i;have r:=l s w1 i
 ((try simp only[↓M1,M1,Mb,reduceIte]);repeat ((first | refine ld Q9 Q9 rfl ?_ | refine Y6 Q9 Q9 rfl ?_ | refine Q7 Q9 ?_);(try simp only[↓M1,M1,Mb,reduceIte])))
 refine Q4 (fun q=>?_) (fun q=>?_)
 .have c:n<xs.length:=by simpa using q
  refine E5 u c fun p cs A g B=>?_;refine Y7 r A g ?_;refine z s xs[n] cs w1 _ (List.getElem_mem c) t i B g fun C k j=>?_;rw[List.drop_eq_getElem_cons c] at e;simp only[W5] at e;refine Q4 (fun o=>?_) (fun o=>?_)
  .rw[o] at e
   have:=h C k;rw[e] at this;exact this j
  .rw[o] at e
   ((try simp only[↓M1,M1,Mb,reduceIte]);repeat ((first | refine ld Q9 Q9 rfl ?_ | refine Y6 Q9 Q9 rfl ?_ | refine Q7 Q9 ?_);(try simp only[↓M1,M1,Mb,reduceIte])))
   exact Z5 u.max c ⟨k,_,j,by simpa using e⟩
 .have c: ¬n<xs.length:=by simpa using q
  rw[List.drop_eq_nil_of_le Q5] at e;have:=h w1 t;rw[e] at this;exact this i)
theorem Wk {β:Type} {xs:List Hm.Met} {v f:Value} (b:β->Hm.Met->Bool×β) (d:β) (a:β->World->Prop) (D:Nat->Prop) (c: ∀s w,a s w->X7 w σ) (e:a d w) (k:Sl 7 F5 σ v xs)
 (g: ∀s x cs (w1:World) (K:Value->World->Prop),x∈xs->Kpt D w w1->a s w1->F5 σ x cs->cs.length=7->(∀w',Kpt D w w'->a (b s x).2 w'->K (.bool (b s x).1) w')->U7 P f [.agg cs.toArray] w1 K)
 (h: ∀w',Kpt D w w'->a (W5 b d xs 0).2 w'->K (.bool (W5 b d xs 0).1.isSome) w'):Q0 P F.a [v,f] w K:=Zp (by
 unfold K4 X4;refine Nz b d a D c e k g fun w1 j i=>?_
 (try simp only[↓M1,M1,Mb,reduceIte])
 rw[Km];exact h w1 j i)
theorem Tb {xs:List Hm.Met} {v f:Value} (p:Hm.Met->Bool) (hs:X7 w σ) (hv:Sl 7 F5 σ v xs)
 (hf: ∀x cs (w1:World) (K:Value->World->Prop),x∈xs->X7 w1 σ->F5 σ x cs->cs.length=7->(∀w',Below w1.heap.size w1 w'->K (.bool (p x)) w')->U7 P f [.agg cs.toArray] w1 K)
 (h: ∀w',Below w.heap.size w w'->K (I (H2 (xs.findIdx? p))) w'):Q0 P F.h [v,f] w K:=by
 refine Nz (fun (_:Unit) x=>(p x,())) () (fun _ w'=>Below w.heap.size w w') (fun _=>False) (fun _ w' hb=>hs.below hb) (Below.refl _ _) hv (fun s x cs w1 K hx hk hi hr hl hK=>hf x cs w1 K hx (hs.below hi) hr hl fun w' hb=>hK w' (.of_below (bt hi hb)) (bt hi hb)) fun w' hk hi=>?_;rw[Yi]
 simpa using h w' hi
theorem T9 {xs:List Hm.Met} {v f:Value} (p:Hm.Met->Bool) (hs:X7 w σ) (hv:Sl 7 F5 σ v xs)
 (hf: ∀x cs (w1:World) (K:Value->World->Prop),x∈xs->X7 w1 σ->F5 σ x cs->cs.length=7->(∀w',Below w1.heap.size w1 w'->K (.bool (p x)) w')->U7 P f [.agg cs.toArray] w1 K)
 (h: ∀w',Below w.heap.size w w'->K (.bool (xs.any p)) w'):Q0 P F.a [v,f] w K:=by
 refine Wk (fun (_:Unit) x=>(p x,())) () (fun _ w'=>Below w.heap.size w w') (fun _=>False) (fun _ w' hb=>hs.below hb) (Below.refl _ _) hv (fun s x cs w1 K hx hk hi hr hl hK=>hf x cs w1 K hx (hs.below hi) hr hl fun w' hb=>hK w' (.of_below (bt hi hb)) (bt hi hb)) fun w' hk hi=>?_;rw[Yi]
 simpa using h w' hi
theorem Du {β:Type} {xs:List Fld} {v f:Value} (b:β->Fld->Bool×β) (m:β) (a:β->World->Prop) (D:Nat->Prop) (l: ∀s w,a s w->X7 w σ) (y:a m w) (u:Sl 3 I7 σ v xs)
 (z: ∀s x cs (w1:World) (K:Value->World->Prop),x∈xs->Kpt D w w1->a s w1->I7 σ x cs->cs.length=3->(∀w',Kpt D w w'->a (b s x).2 w'->K (.bool (b s x).1) w')->U7 P f [.agg cs.toArray] w1 K)
 (h: ∀w',Kpt D w w'->a (W5 b m xs 0).2 w'->K (I (H2 (W5 b m xs 0).1)) w'):Q0 P F.j [v,f] w K:=Va (by
 unfold Qk V1 V3 Y0 X5
 ((try simp only[↓M1,M1,Mb,reduceIte]);repeat ((first | refine ld Q9 Q9 rfl ?_ | refine Y6 Q9 Q9 rfl ?_ | refine Q7 Q9 ?_);(try simp only[↓M1,M1,Mb,reduceIte])))
 refine V7 xs.length (fun n w'=>Kpt D w w'/\ ∃s,a s w'/\W5 b m xs 0=W5 b s (xs.drop n) n) ⟨Kpt.refl,m,y,rfl⟩ fun n w1 d E i=>?_;obtain ⟨t,s,i,e⟩:=i;have r:=l s w1 i
 ((try simp only[↓M1,M1,Mb,reduceIte]);repeat ((first | refine ld Q9 Q9 rfl ?_ | refine Y6 Q9 Q9 rfl ?_ | refine Q7 Q9 ?_);(try simp only[↓M1,M1,Mb,reduceIte])))
 refine Q4 (fun q=>?_) (fun q=>?_)
 .have c:n<xs.length:=by simpa using q
  refine E5 u c fun p cs A g B=>?_;refine Y7 r A g ?_;refine z s xs[n] cs w1 _ (List.getElem_mem c) t i B g fun C k j=>?_;rw[List.drop_eq_getElem_cons c] at e;simp only[W5] at e;refine Q4 (fun o=>?_) (fun o=>?_)
  .rw[o] at e
   have:=h C k;rw[e] at this;exact this j
  .rw[o] at e
   ((try simp only[↓M1,M1,Mb,reduceIte]);repeat ((first | refine ld Q9 Q9 rfl ?_ | refine Y6 Q9 Q9 rfl ?_ | refine Q7 Q9 ?_);(try simp only[↓M1,M1,Mb,reduceIte])))
   exact Z5 u.max c ⟨k,_,j,by simpa using e⟩
 .have c: ¬n<xs.length:=by simpa using q
  rw[List.drop_eq_nil_of_le Q5] at e;have:=h w1 t;rw[e] at this;exact this i)
theorem Ki {β:Type} {xs:List Fld} {v f:Value} (b:β->Fld->Bool×β) (d:β) (a:β->World->Prop) (D:Nat->Prop) (c: ∀s w,a s w->X7 w σ) (e:a d w) (k:Sl 3 I7 σ v xs)
 (g: ∀s x cs (w1:World) (K:Value->World->Prop),x∈xs->Kpt D w w1->a s w1->I7 σ x cs->cs.length=3->(∀w',Kpt D w w'->a (b s x).2 w'->K (.bool (b s x).1) w')->U7 P f [.agg cs.toArray] w1 K)
 (h: ∀w',Kpt D w w'->a (W5 b d xs 0).2 w'->K (.bool (W5 b d xs 0).1.isSome) w'):Q0 P F.g [v,f] w K:=Jf (by
 unfold T0 X4;refine Du b d a D c e k g fun w1 j i=>?_
 (try simp only[↓M1,M1,Mb,reduceIte])
 rw[Km];exact h w1 j i)
theorem Aa {xs:List Fld} {v f:Value} (p:Fld->Bool) (hs:X7 w σ) (hv:Sl 3 I7 σ v xs)
 (hf: ∀x cs (w1:World) (K:Value->World->Prop),x∈xs->X7 w1 σ->I7 σ x cs->cs.length=3->(∀w',Below w1.heap.size w1 w'->K (.bool (p x)) w')->U7 P f [.agg cs.toArray] w1 K)
 (h: ∀w',Below w.heap.size w w'->K (I (H2 (xs.findIdx? p))) w'):Q0 P F.j [v,f] w K:=by
 refine Du (fun (_:Unit) x=>(p x,())) () (fun _ w'=>Below w.heap.size w w') (fun _=>False) (fun _ w' hb=>hs.below hb) (Below.refl _ _) hv (fun s x cs w1 K hx hk hi hr hl hK=>hf x cs w1 K hx (hs.below hi) hr hl fun w' hb=>hK w' (.of_below (bt hi hb)) (bt hi hb)) fun w' hk hi=>?_;rw[Yi]
 simpa using h w' hi
theorem Wu {xs:List Fld} {v f:Value} (p:Fld->Bool) (hs:X7 w σ) (hv:Sl 3 I7 σ v xs)
 (hf: ∀x cs (w1:World) (K:Value->World->Prop),x∈xs->X7 w1 σ->I7 σ x cs->cs.length=3->(∀w',Below w1.heap.size w1 w'->K (.bool (p x)) w')->U7 P f [.agg cs.toArray] w1 K)
 (h: ∀w',Below w.heap.size w w'->K (.bool (xs.any p)) w'):Q0 P F.g [v,f] w K:=by
 refine Ki (fun (_:Unit) x=>(p x,())) () (fun _ w'=>Below w.heap.size w w') (fun _=>False) (fun _ w' hb=>hs.below hb) (Below.refl _ _) hv (fun s x cs w1 K hx hk hi hr hl hK=>hf x cs w1 K hx (hs.below hi) hr hl fun w' hb=>hK w' (.of_below (bt hi hb)) (bt hi hb)) fun w' hk hi=>?_;rw[Yi]
 simpa using h w' hi
theorem Q09 {β:Type} {xs:List Ins} {v f:Value} (b:β->Ins->Bool×β) (m:β) (a:β->World->Prop) (D:Nat->Prop) (l: ∀s w,a s w->X7 w σ) (y:a m w) (u:Sl 3 Ze σ v xs)
 (z: ∀s x cs (w1:World) (K:Value->World->Prop),x∈xs->Kpt D w w1->a s w1->Ze σ x cs->cs.length=3->(∀w',Kpt D w w'->a (b s x).2 w'->K (.bool (b s x).1) w')->U7 P f [.agg cs.toArray] w1 K)
 (h: ∀w',Kpt D w w'->a (W5 b m xs 0).2 w'->K (I (H2 (W5 b m xs 0).1)) w'):Q0 P F.a7 [v,f] w K:=Vb (by
 unfold Ql V1 V3 Y0 X5
 ((try simp only[↓M1,M1,Mb,reduceIte]);repeat ((first | refine ld Q9 Q9 rfl ?_ | refine Y6 Q9 Q9 rfl ?_ | refine Q7 Q9 ?_);(try simp only[↓M1,M1,Mb,reduceIte])))
 refine V7 xs.length (fun n w'=>Kpt D w w'/\ ∃s,a s w'/\W5 b m xs 0=W5 b s (xs.drop n) n) ⟨Kpt.refl,m,y,rfl⟩ fun n w1 d E i=>?_;obtain ⟨t,s,i,e⟩:=i;have r:=l s w1 i
 ((try simp only[↓M1,M1,Mb,reduceIte]);repeat ((first | refine ld Q9 Q9 rfl ?_ | refine Y6 Q9 Q9 rfl ?_ | refine Q7 Q9 ?_);(try simp only[↓M1,M1,Mb,reduceIte])))
 refine Q4 (fun q=>?_) (fun q=>?_)
 .have c:n<xs.length:=by simpa using q
  refine E5 u c fun p cs A g B=>?_;refine Y7 r A g ?_;refine z s xs[n] cs w1 _ (List.getElem_mem c) t i B g fun C k j=>?_;rw[List.drop_eq_getElem_cons c] at e;simp only[W5] at e;refine Q4 (fun o=>?_) (fun o=>?_)
  .rw[o] at e
   have:=h C k;rw[e] at this;exact this j
  .rw[o] at e
   ((try simp only[↓M1,M1,Mb,reduceIte]);repeat ((first | refine ld Q9 Q9 rfl ?_ | refine Y6 Q9 Q9 rfl ?_ | refine Q7 Q9 ?_);(try simp only[↓M1,M1,Mb,reduceIte])))
   exact Z5 u.max c ⟨k,_,j,by simpa using e⟩
 .have c: ¬n<xs.length:=by simpa using q
  rw[List.drop_eq_nil_of_le Q5] at e;have:=h w1 t;rw[e] at this;exact this i)
theorem Kj {β:Type} {xs:List Ins} {v f:Value} (b:β->Ins->Bool×β) (d:β) (a:β->World->Prop) (D:Nat->Prop) (c: ∀s w,a s w->X7 w σ) (e:a d w) (k:Sl 3 Ze σ v xs)
 (g: ∀s x cs (w1:World) (K:Value->World->Prop),x∈xs->Kpt D w w1->a s w1->Ze σ x cs->cs.length=3->(∀w',Kpt D w w'->a (b s x).2 w'->K (.bool (b s x).1) w')->U7 P f [.agg cs.toArray] w1 K)
 (h: ∀w',Kpt D w w'->a (W5 b d xs 0).2 w'->K (.bool (W5 b d xs 0).1.isSome) w'):Q0 P F.n [v,f] w K:=Jg (by
 unfold T1 X4;refine Q09 b d a D c e k g fun w1 j i=>?_
 (try simp only[↓M1,M1,Mb,reduceIte])
 rw[Km];exact h w1 j i)
theorem Gr {xs:List Ins} {v f:Value} (p:Ins->Bool) (hs:X7 w σ) (hv:Sl 3 Ze σ v xs)
 (hf: ∀x cs (w1:World) (K:Value->World->Prop),x∈xs->X7 w1 σ->Ze σ x cs->cs.length=3->(∀w',Below w1.heap.size w1 w'->K (.bool (p x)) w')->U7 P f [.agg cs.toArray] w1 K)
 (h: ∀w',Below w.heap.size w w'->K (.bool (xs.any p)) w'):Q0 P F.n [v,f] w K:=by
 refine Kj (fun (_:Unit) x=>(p x,())) () (fun _ w'=>Below w.heap.size w w') (fun _=>False) (fun _ w' hb=>hs.below hb) (Below.refl _ _) hv (fun s x cs w1 K hx hk hi hr hl hK=>hf x cs w1 K hx (hs.below hi) hr hl fun w' hb=>hK w' (.of_below (bt hi hb)) (bt hi hb)) fun w' hk hi=>?_;rw[Yi]
 simpa using h w' hi
theorem Q07 {β:Type} {xs:List Cat} {v f:Value} (b:β->Cat->Bool×β) (m:β) (a:β->World->Prop) (D:Nat->Prop) (l: ∀s w,a s w->X7 w σ) (y:a m w) (u:Sl 4 Wq σ v xs)
 (z: ∀s x cs (w1:World) (K:Value->World->Prop),x∈xs->Kpt D w w1->a s w1->Wq σ x cs->cs.length=4->(∀w',Kpt D w w'->a (b s x).2 w'->K (.bool (b s x).1) w')->U7 P f [.agg cs.toArray] w1 K)
 (h: ∀w',Kpt D w w'->a (W5 b m xs 0).2 w'->K (I (H2 (W5 b m xs 0).1)) w'):Q0 P F.a6 [v,f] w K:=Uy (by
 unfold Qi V1 V3 Y0 X5
 ((try simp only[↓M1,M1,Mb,reduceIte]);repeat ((first | refine ld Q9 Q9 rfl ?_ | refine Y6 Q9 Q9 rfl ?_ | refine Q7 Q9 ?_);(try simp only[↓M1,M1,Mb,reduceIte])))
 refine V7 xs.length (fun n w'=>Kpt D w w'/\ ∃s,a s w'/\W5 b m xs 0=W5 b s (xs.drop n) n) ⟨Kpt.refl,m,y,rfl⟩ fun n w1 d E i=>?_;obtain ⟨t,s,i,e⟩:=i;have r:=l s w1 i
 ((try simp only[↓M1,M1,Mb,reduceIte]);repeat ((first | refine ld Q9 Q9 rfl ?_ | refine Y6 Q9 Q9 rfl ?_ | refine Q7 Q9 ?_);(try simp only[↓M1,M1,Mb,reduceIte])))
 refine Q4 (fun q=>?_) (fun q=>?_)
 .have c:n<xs.length:=by simpa using q
  refine E5 u c fun p cs A g B=>?_;refine Y7 r A g ?_;refine z s xs[n] cs w1 _ (List.getElem_mem c) t i B g fun C k j=>?_;rw[List.drop_eq_getElem_cons c] at e;simp only[W5] at e;refine Q4 (fun o=>?_) (fun o=>?_)
  .rw[o] at e
   have:=h C k;rw[e] at this;exact this j
  .rw[o] at e
   ((try simp only[↓M1,M1,Mb,reduceIte]);repeat ((first | refine ld Q9 Q9 rfl ?_ | refine Y6 Q9 Q9 rfl ?_ | refine Q7 Q9 ?_);(try simp only[↓M1,M1,Mb,reduceIte])))
   exact Z5 u.max c ⟨k,_,j,by simpa using e⟩
 .have c: ¬n<xs.length:=by simpa using q
  rw[List.drop_eq_nil_of_le Q5] at e;have:=h w1 t;rw[e] at this;exact this i)
theorem Kh {β:Type} {xs:List Cat} {v f:Value} (b:β->Cat->Bool×β) (d:β) (a:β->World->Prop) (D:Nat->Prop) (c: ∀s w,a s w->X7 w σ) (e:a d w) (k:Sl 4 Wq σ v xs)
 (g: ∀s x cs (w1:World) (K:Value->World->Prop),x∈xs->Kpt D w w1->a s w1->Wq σ x cs->cs.length=4->(∀w',Kpt D w w'->a (b s x).2 w'->K (.bool (b s x).1) w')->U7 P f [.agg cs.toArray] w1 K)
 (h: ∀w',Kpt D w w'->a (W5 b d xs 0).2 w'->K (.bool (W5 b d xs 0).1.isSome) w'):Q0 P F.m [v,f] w K:=Je (by
 unfold P9 X4;refine Q07 b d a D c e k g fun w1 j i=>?_
 (try simp only[↓M1,M1,Mb,reduceIte])
 rw[Km];exact h w1 j i)
theorem Gq {xs:List Cat} {v f:Value} (p:Cat->Bool) (hs:X7 w σ) (hv:Sl 4 Wq σ v xs)
 (hf: ∀x cs (w1:World) (K:Value->World->Prop),x∈xs->X7 w1 σ->Wq σ x cs->cs.length=4->(∀w',Below w1.heap.size w1 w'->K (.bool (p x)) w')->U7 P f [.agg cs.toArray] w1 K)
 (h: ∀w',Below w.heap.size w w'->K (.bool (xs.any p)) w'):Q0 P F.m [v,f] w K:=by
 refine Kh (fun (_:Unit) x=>(p x,())) () (fun _ w'=>Below w.heap.size w w') (fun _=>False) (fun _ w' hb=>hs.below hb) (Below.refl _ _) hv (fun s x cs w1 K hx hk hi hr hl hK=>hf x cs w1 K hx (hs.below hi) hr hl fun w' hb=>hK w' (.of_below (bt hi hb)) (bt hi hb)) fun w' hk hi=>?_;rw[Yi]
 simpa using h w' hi
theorem Q08 {β:Type} {xs:List Cla} {v f:Value} (b:β->Cla->Bool×β) (m:β) (a:β->World->Prop) (D:Nat->Prop) (l: ∀s w,a s w->X7 w σ) (y:a m w) (u:Sl 8 M8 σ v xs)
 (z: ∀s x cs (w1:World) (K:Value->World->Prop),x∈xs->Kpt D w w1->a s w1->M8 σ x cs->cs.length=8->(∀w',Kpt D w w'->a (b s x).2 w'->K (.bool (b s x).1) w')->U7 P f [.agg cs.toArray] w1 K)
 (h: ∀w',Kpt D w w'->a (W5 b m xs 0).2 w'->K (I (H2 (W5 b m xs 0).1)) w'):Q0 P F.p [v,f] w K:=Uz (by
 unfold Qj V1 V3 Y0 X5
 ((try simp only[↓M1,M1,Mb,reduceIte]);repeat ((first | refine ld Q9 Q9 rfl ?_ | refine Y6 Q9 Q9 rfl ?_ | refine Q7 Q9 ?_);(try simp only[↓M1,M1,Mb,reduceIte])))
 refine V7 xs.length (fun n w'=>Kpt D w w'/\ ∃s,a s w'/\W5 b m xs 0=W5 b s (xs.drop n) n) ⟨Kpt.refl,m,y,rfl⟩ fun n w1 d E i=>?_;obtain ⟨t,s,i,e⟩:=i;have r:=l s w1 i
 ((try simp only[↓M1,M1,Mb,reduceIte]);repeat ((first | refine ld Q9 Q9 rfl ?_ | refine Y6 Q9 Q9 rfl ?_ | refine Q7 Q9 ?_);(try simp only[↓M1,M1,Mb,reduceIte])))
 refine Q4 (fun q=>?_) (fun q=>?_)
 .have c:n<xs.length:=by simpa using q
  refine E5 u c fun p cs A g B=>?_;refine Y7 r A g ?_;refine z s xs[n] cs w1 _ (List.getElem_mem c) t i B g fun C k j=>?_;rw[List.drop_eq_getElem_cons c] at e;simp only[W5] at e;refine Q4 (fun o=>?_) (fun o=>?_)
  .rw[o] at e
   have:=h C k;rw[e] at this;exact this j
  .rw[o] at e
   ((try simp only[↓M1,M1,Mb,reduceIte]);repeat ((first | refine ld Q9 Q9 rfl ?_ | refine Y6 Q9 Q9 rfl ?_ | refine Q7 Q9 ?_);(try simp only[↓M1,M1,Mb,reduceIte])))
   exact Z5 u.max c ⟨k,_,j,by simpa using e⟩
 .have c: ¬n<xs.length:=by simpa using q
  rw[List.drop_eq_nil_of_le Q5] at e;have:=h w1 t;rw[e] at this;exact this i)
theorem Tz {xs:List Cla} {v f:Value} (p:Cla->Bool) (hs:X7 w σ) (hv:Sl 8 M8 σ v xs)
 (hf: ∀x cs (w1:World) (K:Value->World->Prop),x∈xs->X7 w1 σ->M8 σ x cs->cs.length=8->(∀w',Below w1.heap.size w1 w'->K (.bool (p x)) w')->U7 P f [.agg cs.toArray] w1 K)
 (h: ∀w',Below w.heap.size w w'->K (I (H2 (xs.findIdx? p))) w'):Q0 P F.p [v,f] w K:=by
 refine Q08 (fun (_:Unit) x=>(p x,())) () (fun _ w'=>Below w.heap.size w w') (fun _=>False) (fun _ w' hb=>hs.below hb) (Below.refl _ _) hv (fun s x cs w1 K hx hk hi hr hl hK=>hf x cs w1 K hx (hs.below hi) hr hl fun w' hb=>hK w' (.of_below (bt hi hb)) (bt hi hb)) fun w' hk hi=>?_;rw[Yi]
 simpa using h w' hi
theorem Q3J {β:Type} {xs:List X2} {v f:Value} (b:β->X2->Bool×β) (m:β) (a:β->World->Prop) (D:Nat->Prop) (l: ∀s w,a s w->X7 w σ) (z:a m w) (y:Sl 1 M7 σ v xs)
 (A: ∀s x (w1:World) (K:Value->World->Prop),x∈xs->Kpt D w w1->a s w1->x.length<=W6->(∀w',Kpt D w w'->a (b s x).2 w'->K (.bool (b s x).1) w')->U7 P f [S x] w1 K)
 (h: ∀w',Kpt D w w'->a (W5 b m xs 0).2 w'->K (I (H2 (W5 b m xs 0).1)) w'):Q0 P F.x [v,f] w K:=Nd (by
 unfold Ya V1 V3 Y0 X5
 ((try simp only[↓M1,M1,Mb,reduceIte]);repeat ((first | refine ld Q9 Q9 rfl ?_ | refine Y6 Q9 Q9 rfl ?_ | refine Q7 Q9 ?_);(try simp only[↓M1,M1,Mb,reduceIte])))
 refine V7 xs.length (fun n w'=>Kpt D w w'/\ ∃s,a s w'/\W5 b m xs 0=W5 b s (xs.drop n) n) ⟨Kpt.refl,m,z,rfl⟩ fun n w1 d H i=>?_;obtain ⟨t,s,i,e⟩:=i;have r:=l s w1 i
 ((try simp only[↓M1,M1,Mb,reduceIte]);repeat ((first | refine ld Q9 Q9 rfl ?_ | refine Y6 Q9 Q9 rfl ?_ | refine Q7 Q9 ?_);(try simp only[↓M1,M1,Mb,reduceIte])))
 refine Q4 (fun q=>?_) (fun q=>?_)
 .have c:n<xs.length:=by simpa using q
  refine E5 y c fun p cs B u C=>?_;obtain ⟨rfl,g⟩:=C;refine Y6 r B rfl ?_;refine A s xs[n] w1 _ (List.getElem_mem c) t i g fun E k j=>?_;rw[List.drop_eq_getElem_cons c] at e;simp only[W5] at e;refine Q4 (fun o=>?_) (fun o=>?_)
  .rw[o] at e
   have:=h E k;rw[e] at this;exact this j
  .rw[o] at e
   ((try simp only[↓M1,M1,Mb,reduceIte]);repeat ((first | refine ld Q9 Q9 rfl ?_ | refine Y6 Q9 Q9 rfl ?_ | refine Q7 Q9 ?_);(try simp only[↓M1,M1,Mb,reduceIte])))
   exact Z5 y.max c ⟨k,_,j,by simpa using e⟩
 .have c: ¬n<xs.length:=by simpa using q
  rw[List.drop_eq_nil_of_le Q5] at e;have:=h w1 t;rw[e] at this;exact this i)
theorem Q2G {xs:List X2} {v f:Value} (p:X2->Bool) (hs:X7 w σ) (hv:Sl 1 M7 σ v xs)
 (hf: ∀x (w1:World) (K:Value->World->Prop),x∈xs->X7 w1 σ->x.length<=W6->(∀w',Below w1.heap.size w1 w'->K (.bool (p x)) w')->U7 P f [S x] w1 K)
 (h: ∀w',Below w.heap.size w w'->K (I (H2 (xs.findIdx? p))) w'):Q0 P F.x [v,f] w K:=by
 refine Q3J (fun (_:Unit) x=>(p x,())) () (fun _ w'=>Below w.heap.size w w') (fun _=>False) (fun _ w' hb=>hs.below hb) (Below.refl _ _) hv (fun s x w1 K hx hk hi hr hK=>hf x w1 K hx (hs.below hi) hr fun w' hb=>hK w' (.of_below (bt hi hb)) (bt hi hb)) fun w' hk hi=>?_;rw[Yi]
 simpa using h w' hi
theorem Q9c {α:Type} (p:α->Bool) (xs:List α):decide ((0:Int)<=H2 (xs.findIdx? p))=xs.any p:=by
 rw[Bool.eq_iff_iff,List.any_eq_true];simp only[decide_eq_true_eq];cases h:xs.findIdx? p with
 | none=>
  simp only[H2];constructor
  .intro h;omega
  .rintro ⟨x,c,a⟩;have:=List.findIdx?_eq_none_iff.1 h x c;rw[a] at this;cases this
 | some i=>
  simp only[H2];obtain ⟨b,a,_⟩:=List.findIdx?_eq_some_iff_getElem.1 h;exact ⟨fun _=>⟨xs[i],List.getElem_mem b,a⟩,fun _=>by omega⟩
theorem Xr {xs:List X2} {v f:Value} (p:X2->Bool) (c:X7 w σ) (d:Sl 1 M7 σ v xs)
 (b: ∀x (w1:World) (K:Value->World->Prop),x∈xs->X7 w1 σ->x.length<=W6->(∀w',Below w1.heap.size w1 w'->K (.bool (p x)) w')->U7 P f [S x] w1 K)
 (h: ∀w',Below w.heap.size w w'->K (.bool (xs.any p)) w'):Q0 P F.d [v,f] w K:=Wo (by
 unfold Xd X4;refine Q2G p c d b fun w1 a=>?_
 (try simp only[↓M1,M1,Mb,reduceIte])
 rw[Q9c];exact h w1 a)
theorem Q6G {xs:List X2} {v:Value} {x:X2} (r:X7 w σ) (i:Sl 1 M7 σ v xs)
 (h:K (I (H2 (xs.findIdx? fun y=>decide (x=y)))) w):Q0 P F.aA [v,S x] w K:=Hz (by
 unfold Zm V1 V3 Y0 X5
 ((try simp only[↓M1,M1,Mb,reduceIte]);repeat ((first | refine ld Q9 Q9 rfl ?_ | refine Y6 Q9 Q9 rfl ?_ | refine Q7 Q9 ?_);(try simp only[↓M1,M1,Mb,reduceIte])))
 refine V7 xs.length (fun n w'=>w=w'/\(xs.take n).any (fun y=>decide (x=y))=false) ⟨rfl,rfl⟩ fun n w1 d q b=>?_;obtain ⟨rfl,b⟩:=b
 ((try simp only[↓M1,M1,Mb,reduceIte]);repeat ((first | refine ld Q9 Q9 rfl ?_ | refine Y6 Q9 Q9 rfl ?_ | refine Q7 Q9 ?_);(try simp only[↓M1,M1,Mb,reduceIte])))
 refine Q4 (fun e=>?_) (fun e=>?_)
 .have a:n<xs.length:=by simpa using e
  refine E5 i a fun p cs o g k=>?_;obtain ⟨rfl,f⟩:=k
  ((try simp only[↓M1,M1,Mb,reduceIte]);repeat ((first | refine ld Q9 Q9 rfl ?_ | refine Y6 Q9 Q9 rfl ?_ | refine Q7 Q9 ?_);(try simp only[↓M1,M1,Mb,reduceIte])))
  refine Q4 (fun c=>?_) (fun c=>?_)
  .have:xs.findIdx? (fun y=>decide (x=y))=some n:=by
    rw[List.findIdx?_eq_some_iff_getElem];refine ⟨a,c,fun j m=>?_⟩;have:=List.any_eq_false.1 b (xs[j]) (List.mem_take_iff_getElem.2 ⟨j,by omega,rfl⟩)
    exact this
   rw[this] at h;exact h
  ·((try simp only[↓M1,M1,Mb,reduceIte]);repeat ((first | refine ld Q9 Q9 rfl ?_ | refine Y6 Q9 Q9 rfl ?_ | refine Q7 Q9 ?_);(try simp only[↓M1,M1,Mb,reduceIte])))
   exact Z5 i.max a ⟨rfl,by rw[E7 a,b,c];rfl⟩
 .have a: ¬n<xs.length:=by simpa using e
  rw[B4 a] at b
  have:xs.findIdx? (fun y=>decide (x=y))=none:=by
   rw[List.findIdx?_eq_none_iff];intro y l;simpa using List.any_eq_false.1 b y l
  rw[this] at h;exact h)
theorem Q4j {xs:List X2} {v:Value} {x:X2} (a:X7 w σ) (b:Sl 1 M7 σ v xs)
 (h:K (.bool (xs.any fun y=>decide (x=y))) w):Q0 P F.ah [v,S x] w K:=Ny (by
 unfold Yh X4;refine Q6G a b ?_
 (try simp only[↓M1,M1,Mb,reduceIte])
 rw[Q9c];exact h)
end Go.Proofs.Y
namespace Go.Emb
abbrev Q2.Le (σ σ':Q2):Prop:= ∀b o,σ b=some o->σ' b=some o
def Qo {α:Type} (f:α->List UInt8):List α->List α->Bool
 | _,[]=>true
 | seen,x::r=> !(seen.any fun y=>decide (f y=f x))&&Qo f (seen++[x]) r
theorem Nh {α:Type} (p:α->Bool) (xs:List α):(!xs.any fun x=> !p x)=xs.all p:=by
 rw[List.all_eq_not_any_not]
end Go.Emb
namespace Go.Proofs.Y
open Go.Emb Go.RowKit Go.Kd Go.Hm
variable {w : World} {K : Value -> World -> Prop} {σ : Q2}
theorem Q2H {xs:List Hm.Met} {v:Value} {fn:Fn} {k d:Array Value} (p:Hm.Met->Bool) (u:X7 w σ) (y:Sl 7 F5 σ v xs)
 (s: ∀(σ1:Q2) x cs (w1:World) (K:Value->World->Prop),σ.Le σ1->x∈xs->X7 w1 σ1->F5 σ1 x cs->cs.length=7->(∀w',Below w1.heap.size w1 w'->K (.bool (p x)) w')->U7 P (.func fn k d) [.agg cs.toArray] w1 K)
 (h: ∀w',Below w.heap.size w w'->K (.bool (xs.all p)) w'):Q0 P F.aq [v, .func fn k d] w K:=Ka (by
 unfold Lg;refine F4 u fun a w1 σ1 f l=>?_;simp only[Value.cells] at l
 ((try simp only[↓M1,M1,Mb,reduceIte]);repeat ((first | refine ld Q9 Q9 rfl ?_ | refine Y6 Q9 Q9 rfl ?_ | refine Q7 Q9 ?_);(try simp only[↓M1,M1,Mb,reduceIte])))
 refine T9 (fun x=> !p x) f.sat (y.up f) (fun x cs n K z j t m q=>?_) fun n r=>?_
 .refine U3 (Bt ?_)
  unfold Vh;refine F4 j fun b A C c g=>?_;refine Y6 c.sat (l.up c) rfl ?_;refine Y7 c.sat g m ?_;refine s C x _ A _ (fun b o e=>c.le b o (f.le b o e)) z c.sat (Rep.up c.le t) m fun B i=>?_
  (try simp only[↓M1,M1,Mb,reduceIte])
  exact q B (bt c.bel i)
 ·(try simp only[↓M1,M1,Mb,reduceIte])
  rw[Nh];exact h n (bt f.bel r))
theorem Q4l {xs:List Fld} {v:Value} {fn:Fn} {k d:Array Value} (p:Fld->Bool) (u:X7 w σ) (y:Sl 3 I7 σ v xs)
 (s: ∀(σ1:Q2) x cs (w1:World) (K:Value->World->Prop),σ.Le σ1->x∈xs->X7 w1 σ1->I7 σ1 x cs->cs.length=3->(∀w',Below w1.heap.size w1 w'->K (.bool (p x)) w')->U7 P (.func fn k d) [.agg cs.toArray] w1 K)
 (h: ∀w',Below w.heap.size w w'->K (.bool (xs.all p)) w'):Q0 P F.ax [v, .func fn k d] w K:=Kt (by
 unfold Mq;refine F4 u fun a w1 σ1 f l=>?_;simp only[Value.cells] at l
 ((try simp only[↓M1,M1,Mb,reduceIte]);repeat ((first | refine ld Q9 Q9 rfl ?_ | refine Y6 Q9 Q9 rfl ?_ | refine Q7 Q9 ?_);(try simp only[↓M1,M1,Mb,reduceIte])))
 refine Wu (fun x=> !p x) f.sat (y.up f) (fun x cs n K z j t m q=>?_) fun n r=>?_
 .refine U3 (Fz ?_)
  unfold Wd;refine F4 j fun b A C c g=>?_;refine Y6 c.sat (l.up c) rfl ?_;refine Y7 c.sat g m ?_;refine s C x _ A _ (fun b o e=>c.le b o (f.le b o e)) z c.sat (Rep.up c.le t) m fun B i=>?_
  (try simp only[↓M1,M1,Mb,reduceIte])
  exact q B (bt c.bel i)
 ·(try simp only[↓M1,M1,Mb,reduceIte])
  rw[Nh];exact h n (bt f.bel r))
theorem Q4m {xs:List Ins} {v:Value} {fn:Fn} {k d:Array Value} (p:Ins->Bool) (u:X7 w σ) (y:Sl 3 Ze σ v xs)
 (s: ∀(σ1:Q2) x cs (w1:World) (K:Value->World->Prop),σ.Le σ1->x∈xs->X7 w1 σ1->Ze σ1 x cs->cs.length=3->(∀w',Below w1.heap.size w1 w'->K (.bool (p x)) w')->U7 P (.func fn k d) [.agg cs.toArray] w1 K)
 (h: ∀w',Below w.heap.size w w'->K (.bool (xs.all p)) w'):Q0 P F.ay [v, .func fn k d] w K:=Ku (by
 unfold Ms;refine F4 u fun a w1 σ1 f l=>?_;simp only[Value.cells] at l
 ((try simp only[↓M1,M1,Mb,reduceIte]);repeat ((first | refine ld Q9 Q9 rfl ?_ | refine Y6 Q9 Q9 rfl ?_ | refine Q7 Q9 ?_);(try simp only[↓M1,M1,Mb,reduceIte])))
 refine Gr (fun x=> !p x) f.sat (y.up f) (fun x cs n K z j t m q=>?_) fun n r=>?_
 .refine U3 (Ga ?_)
  unfold We;refine F4 j fun b A C c g=>?_;refine Y6 c.sat (l.up c) rfl ?_;refine Y7 c.sat g m ?_;refine s C x _ A _ (fun b o e=>c.le b o (f.le b o e)) z c.sat (Rep.up c.le t) m fun B i=>?_
  (try simp only[↓M1,M1,Mb,reduceIte])
  exact q B (bt c.bel i)
 ·(try simp only[↓M1,M1,Mb,reduceIte])
  rw[Nh];exact h n (bt f.bel r))
theorem Q4k {xs:List Cat} {v:Value} {fn:Fn} {k d:Array Value} (p:Cat->Bool) (u:X7 w σ) (y:Sl 4 Wq σ v xs)
 (s: ∀(σ1:Q2) x cs (w1:World) (K:Value->World->Prop),σ.Le σ1->x∈xs->X7 w1 σ1->Wq σ1 x cs->cs.length=4->(∀w',Below w1.heap.size w1 w'->K (.bool (p x)) w')->U7 P (.func fn k d) [.agg cs.toArray] w1 K)
 (h: ∀w',Below w.heap.size w w'->K (.bool (xs.all p)) w'):Q0 P F.aw [v, .func fn k d] w K:=Ks (by
 unfold Mo;refine F4 u fun a w1 σ1 f l=>?_;simp only[Value.cells] at l
 ((try simp only[↓M1,M1,Mb,reduceIte]);repeat ((first | refine ld Q9 Q9 rfl ?_ | refine Y6 Q9 Q9 rfl ?_ | refine Q7 Q9 ?_);(try simp only[↓M1,M1,Mb,reduceIte])))
 refine Gq (fun x=> !p x) f.sat (y.up f) (fun x cs n K z j t m q=>?_) fun n r=>?_
 .refine U3 (Fy ?_)
  unfold Wc;refine F4 j fun b A C c g=>?_;refine Y6 c.sat (l.up c) rfl ?_;refine Y7 c.sat g m ?_;refine s C x _ A _ (fun b o e=>c.le b o (f.le b o e)) z c.sat (Rep.up c.le t) m fun B i=>?_
  (try simp only[↓M1,M1,Mb,reduceIte])
  exact q B (bt c.bel i)
 ·(try simp only[↓M1,M1,Mb,reduceIte])
  rw[Nh];exact h n (bt f.bel r))
theorem Ab {xs:List X2} {v:Value} {fn:Fn} {g b:Array Value} (p:X2->Bool) (n:X7 w σ) (o:Sl 1 M7 σ v xs)
 (l: ∀(σ1:Q2) x (w1:World) (K:Value->World->Prop),σ.Le σ1->x∈xs->X7 w1 σ1->x.length<=W6->(∀w',Below w1.heap.size w1 w'->K (.bool (p x)) w')->U7 P (.func fn g b) [S x] w1 K)
 (h: ∀w',Below w.heap.size w w'->K (.bool (xs.all p)) w'):Q0 P F.ab [v, .func fn g b] w K:=Q17 (by
 unfold Em;refine F4 n fun a w1 σ1 d i=>?_;simp only[Value.cells] at i
 ((try simp only[↓M1,M1,Mb,reduceIte]);repeat ((first | refine ld Q9 Q9 rfl ?_ | refine Y6 Q9 Q9 rfl ?_ | refine Q7 Q9 ?_);(try simp only[↓M1,M1,Mb,reduceIte])))
 refine Xr (fun x=> !p x) d.sat (o.up d) (fun x f K q c m j=>?_) fun f k=>?_
 .refine U3 (Tn ?_)
  unfold Nr;refine Y6 c i rfl ?_;refine l σ1 x f _ d.le q c m fun r e=>?_
  (try simp only[↓M1,M1,Mb,reduceIte])
  exact j r e
 ·(try simp only[↓M1,M1,Mb,reduceIte])
  rw[Nh];exact h f (bt d.bel k))
theorem Q4n {xs:List Hm.Met} {v:Value} {fn:Fn} {E l:Array Value} (f:Hm.Met->X2) (hs:X7 w σ) (C:Sl 7 F5 σ v xs)
 (Y: ∀(σ1:Q2) x cs (w1:World) (K:Value->World->Prop),σ.Le σ1->X7 w1 σ1->F5 σ1 x cs->cs.length=7->(∀w',Below w1.heap.size w1 w'->K (S (f x)) w')->U7 P (.func fn E l) [.agg cs.toArray] w1 K)
 (h: ∀w',Below w.heap.size w w'->K (.bool (Qo f [] xs)) w'):Q0 P F.az [v, .func fn E l] w K:=Kv (by
 unfold Mt;simp only[N0];unfold V1 V3 Y0 X5;refine F4 hs fun a w1 σ1 A X=>?_;simp only[Value.cells] at X;have R:=A.sat;replace C:=C.up A
 ((try simp only[↓M1,M1,Mb,reduceIte]);repeat ((first | refine ld Q9 Q9 rfl ?_ | refine Y6 Q9 Q9 rfl ?_ | refine Q7 Q9 ?_);(try simp only[↓M1,M1,Mb,reduceIte])))
 refine V7 xs.length (fun n w'=>Below w1.heap.size w1 w'/\Qo f [] xs=Qo f (xs.take n) (xs.drop n)) ⟨Below.refl _ _,rfl⟩ fun n w2 d hn hi=>?_;obtain ⟨i,r⟩:=hi;have B:=R.below i
 ((try simp only[↓M1,M1,Mb,reduceIte]);repeat ((first | refine ld Q9 Q9 rfl ?_ | refine Y6 Q9 Q9 rfl ?_ | refine Q7 Q9 ?_);(try simp only[↓M1,M1,Mb,reduceIte])))
 refine Q4 (fun N=>?_) (fun N=>?_)
 .have k:n<xs.length:=by simpa using N
  rw[List.drop_eq_getElem_cons k] at r;simp only[Qo] at r;refine E5 C k fun p cs hl g Z=>?_;refine Y7 B hl g ?_;refine J6 B (by rfl) g (Rep.one Z) fun q w3 σ3 j hq=>?_
  refine Bn (C.up j) none (some (I n)) 0 n (.inl ⟨rfl,rfl⟩) (.inr rfl) Q5 Q5 fun v' V=>?_
  ((try simp only[↓M1,M1,Mb,reduceIte]);repeat ((first | refine ld Q9 Q9 rfl ?_ | refine Y6 Q9 Q9 rfl ?_ | refine Q7 Q9 ?_);(try simp only[↓M1,M1,Mb,reduceIte])))
  refine T9 (fun y=>decide (f y=f xs[n])) j.sat V (fun y ys w4 K hy U Q D hK=>?_) fun w4 J=>?_
  .refine U3 (Gb ?_)
   unfold Wg;simp only[Y3,L9];unfold X5;refine F4 U fun b w5 W c L=>?_;have u:=(X.up j).up c;have O:=hq.up c;have s:σ.Le W:=fun b o e=>c.le b o (j.le b o (A.le b o e));refine Sn (Below.refl _ _) ?_;refine X9 (.func fn E l) (fun w i=>Y6 (c.sat.below i) u rfl (Y5 rfl)) ?_;refine X9 (.agg ys.toArray) (fun w i=>Y7 (c.sat.below i) L D (Y5 rfl)) ?_;refine X9 (S (f y)) (fun t t' w i e e'=>by rw[e,e'];exact Y W y ys w _ s (c.sat.below i) (Rep.up c.le Q) D fun w' H=>Q5E H rfl) ?_
   refine X9 (.func fn E l) (fun w i=>Y6 (c.sat.below i) u rfl (Y5 rfl)) ?_;refine X9 (.agg cs.toArray) (fun w i=>Y7 (c.sat.below i) O g (Y5 rfl)) ?_;rintro _ _ _ _ _ w6 z rfl rfl rfl rfl rfl;refine Y W xs[n] cs w6 _ s (c.sat.below z) (Rep.up (fun b o e=>c.le b o (j.le b o e)) Z) g fun w7 M=>?_
   (try simp only[↓M1,M1,Mb,reduceIte])
   exact hK w7 (bt (bt c.bel z) M)
  .have m:=bt i (bt j.bel J)
   simp only[List.drop_zero,Nat.sub_zero] at*;refine Q4 (fun hh=>?_) (fun hh=>?_)
   .rw[hh] at r
    have:=h w4 (bt A.bel m);rw[r] at this;exact this
   .rw[hh] at r
    ((try simp only[↓M1,M1,Mb,reduceIte]);repeat ((first | refine ld Q9 Q9 rfl ?_ | refine Y6 Q9 Q9 rfl ?_ | refine Q7 Q9 ?_);(try simp only[↓M1,M1,Mb,reduceIte])))
    refine Z5 C.max k ⟨m,?_⟩;rw[r,List.take_add_one,List.getElem?_eq_getElem k];rfl
 .have k: ¬n<xs.length:=by simpa using N
  rw[List.drop_eq_nil_of_le Q5] at r;have:=h w2 (bt A.bel i);rw[r] at this;exact this)
theorem Q56 {xs:List Fld} {v:Value} {fn:Fn} {E l:Array Value} (f:Fld->X2) (hs:X7 w σ) (C:Sl 3 I7 σ v xs)
 (Y: ∀(σ1:Q2) x cs (w1:World) (K:Value->World->Prop),σ.Le σ1->X7 w1 σ1->I7 σ1 x cs->cs.length=3->(∀w',Below w1.heap.size w1 w'->K (S (f x)) w')->U7 P (.func fn E l) [.agg cs.toArray] w1 K)
 (h: ∀w',Below w.heap.size w w'->K (.bool (Qo f [] xs)) w'):Q0 P F.aE [v, .func fn E l] w K:=To (by
 unfold Ns;simp only[N0];unfold V1 V3 Y0 X5;refine F4 hs fun a w1 σ1 A X=>?_;simp only[Value.cells] at X;have R:=A.sat;replace C:=C.up A
 ((try simp only[↓M1,M1,Mb,reduceIte]);repeat ((first | refine ld Q9 Q9 rfl ?_ | refine Y6 Q9 Q9 rfl ?_ | refine Q7 Q9 ?_);(try simp only[↓M1,M1,Mb,reduceIte])))
 refine V7 xs.length (fun n w'=>Below w1.heap.size w1 w'/\Qo f [] xs=Qo f (xs.take n) (xs.drop n)) ⟨Below.refl _ _,rfl⟩ fun n w2 d hn hi=>?_;obtain ⟨i,r⟩:=hi;have B:=R.below i
 ((try simp only[↓M1,M1,Mb,reduceIte]);repeat ((first | refine ld Q9 Q9 rfl ?_ | refine Y6 Q9 Q9 rfl ?_ | refine Q7 Q9 ?_);(try simp only[↓M1,M1,Mb,reduceIte])))
 refine Q4 (fun N=>?_) (fun N=>?_)
 .have k:n<xs.length:=by simpa using N
  rw[List.drop_eq_getElem_cons k] at r;simp only[Qo] at r;refine E5 C k fun p cs hl g Z=>?_;refine Y7 B hl g ?_;refine J6 B (by rfl) g (Rep.one Z) fun q w3 σ3 j hq=>?_
  refine Bn (C.up j) none (some (I n)) 0 n (.inl ⟨rfl,rfl⟩) (.inr rfl) Q5 Q5 fun v' V=>?_
  ((try simp only[↓M1,M1,Mb,reduceIte]);repeat ((first | refine ld Q9 Q9 rfl ?_ | refine Y6 Q9 Q9 rfl ?_ | refine Q7 Q9 ?_);(try simp only[↓M1,M1,Mb,reduceIte])))
  refine Wu (fun y=>decide (f y=f xs[n])) j.sat V (fun y ys w4 K hy U Q D hK=>?_) fun w4 J=>?_
  .refine U3 (Kb ?_)
   unfold Lh;simp only[Y3,L9];unfold X5;refine F4 U fun b w5 W c L=>?_;have u:=(X.up j).up c;have O:=hq.up c;have s:σ.Le W:=fun b o e=>c.le b o (j.le b o (A.le b o e));refine Sn (Below.refl _ _) ?_;refine X9 (.func fn E l) (fun w i=>Y6 (c.sat.below i) u rfl (Y5 rfl)) ?_;refine X9 (.agg ys.toArray) (fun w i=>Y7 (c.sat.below i) L D (Y5 rfl)) ?_;refine X9 (S (f y)) (fun t t' w i e e'=>by rw[e,e'];exact Y W y ys w _ s (c.sat.below i) (Rep.up c.le Q) D fun w' H=>Q5E H rfl) ?_
   refine X9 (.func fn E l) (fun w i=>Y6 (c.sat.below i) u rfl (Y5 rfl)) ?_;refine X9 (.agg cs.toArray) (fun w i=>Y7 (c.sat.below i) O g (Y5 rfl)) ?_;rintro _ _ _ _ _ w6 z rfl rfl rfl rfl rfl;refine Y W xs[n] cs w6 _ s (c.sat.below z) (Rep.up (fun b o e=>c.le b o (j.le b o e)) Z) g fun w7 M=>?_
   (try simp only[↓M1,M1,Mb,reduceIte])
   exact hK w7 (bt (bt c.bel z) M)
  .have m:=bt i (bt j.bel J)
   simp only[List.drop_zero,Nat.sub_zero] at*;refine Q4 (fun hh=>?_) (fun hh=>?_)
   .rw[hh] at r
    have:=h w4 (bt A.bel m);rw[r] at this;exact this
   .rw[hh] at r
    ((try simp only[↓M1,M1,Mb,reduceIte]);repeat ((first | refine ld Q9 Q9 rfl ?_ | refine Y6 Q9 Q9 rfl ?_ | refine Q7 Q9 ?_);(try simp only[↓M1,M1,Mb,reduceIte])))
    refine Z5 C.max k ⟨m,?_⟩;rw[r,List.take_add_one,List.getElem?_eq_getElem k];rfl
 .have k: ¬n<xs.length:=by simpa using N
  rw[List.drop_eq_nil_of_le Q5] at r;have:=h w2 (bt A.bel i);rw[r] at this;exact this)
theorem Q82 {xs:List X2} {v:Value} {fn:Fn} {D k:Array Value} (f:X2->X2) (hs:X7 w σ) (C:Sl 1 M7 σ v xs)
 (U: ∀(σ1:Q2) x (w1:World) (K:Value->World->Prop),σ.Le σ1->X7 w1 σ1->x.length<=W6->(∀w',Below w1.heap.size w1 w'->K (S (f x)) w')->U7 P (.func fn D k) [S x] w1 K)
 (h: ∀w',Below w.heap.size w w'->K (.bool (Qo f [] xs)) w'):Q0 P F.aU [v, .func fn D k] w K:=Q2e (by
 unfold Rp;simp only[N0];unfold V1 V3 Y0 X5;refine F4 hs fun a w1 σ1 A R=>?_;simp only[Value.cells] at R;have N:=A.sat;replace C:=C.up A
 ((try simp only[↓M1,M1,Mb,reduceIte]);repeat ((first | refine ld Q9 Q9 rfl ?_ | refine Y6 Q9 Q9 rfl ?_ | refine Q7 Q9 ?_);(try simp only[↓M1,M1,Mb,reduceIte])))
 refine V7 xs.length (fun n w'=>Below w1.heap.size w1 w'/\Qo f [] xs=Qo f (xs.take n) (xs.drop n)) ⟨Below.refl _ _,rfl⟩ fun n w2 d hn Y=>?_;obtain ⟨c,m⟩:=Y;have B:=N.below c
 ((try simp only[↓M1,M1,Mb,reduceIte]);repeat ((first | refine ld Q9 Q9 rfl ?_ | refine Y6 Q9 Q9 rfl ?_ | refine Q7 Q9 ?_);(try simp only[↓M1,M1,Mb,reduceIte])))
 refine Q4 (fun L=>?_) (fun L=>?_)
 .have i:n<xs.length:=by simpa using L
  rw[List.drop_eq_getElem_cons i] at m;simp only[Qo] at m;refine E5 C i fun p cs Z V hr=>?_;obtain ⟨rfl,z⟩:=hr;refine Y6 B Z rfl ?_;refine L1 B (by rfl) rfl rfl fun q w3 Q g hq=>?_
  refine Bn (C.up g) none (some (I n)) 0 n (.inl ⟨rfl,rfl⟩) (.inr rfl) Q5 Q5 fun v' O=>?_
  ((try simp only[↓M1,M1,Mb,reduceIte]);repeat ((first | refine ld Q9 Q9 rfl ?_ | refine Y6 Q9 Q9 rfl ?_ | refine Q7 Q9 ?_);(try simp only[↓M1,M1,Mb,reduceIte])))
  refine Xr (fun y=>decide (f y=f xs[n])) g.sat O (fun y W K hy j M X=>?_) fun W H=>?_
  .refine U3 (Ay ?_)
   unfold Dg;simp only[Y3,X3];unfold X5;have s:=R.up g;have r:σ.Le Q:=fun b o e=>g.le b o (A.le b o e);refine Sn (Below.refl _ _) ?_;refine X9 (.func fn D k) (fun w c=>Y6 (j.below c) s rfl (Y5 rfl)) ?_;refine X9 (S (f y)) (fun t w c e=>by rw[e];exact U Q y w _ r (j.below c) M fun w' E=>Q5E E rfl) ?_
   refine X9 (.func fn D k) (fun w c=>Y6 (j.below c) s rfl (Y5 rfl)) ?_;refine X9 (S xs[n]) (fun w c=>Y6 (j.below c) hq rfl (Y5 rfl)) ?_;rintro _ _ _ _ w6 u rfl rfl rfl rfl;refine U Q xs[n] w6 _ r (j.below u) z fun w7 J=>?_
   (try simp only[↓M1,M1,Mb,reduceIte])
   exact X w7 (bt u J)
  .have l:=bt c (bt g.bel H)
   simp only[List.drop_zero,Nat.sub_zero] at*;refine Q4 (fun hh=>?_) (fun hh=>?_)
   .rw[hh] at m
    have:=h W (bt A.bel l);rw[m] at this;exact this
   .rw[hh] at m
    ((try simp only[↓M1,M1,Mb,reduceIte]);repeat ((first | refine ld Q9 Q9 rfl ?_ | refine Y6 Q9 Q9 rfl ?_ | refine Q7 Q9 ?_);(try simp only[↓M1,M1,Mb,reduceIte])))
    refine Z5 C.max i ⟨l,?_⟩;rw[m,List.take_add_one,List.getElem?_eq_getElem i];rfl
 .have i: ¬n<xs.length:=by simpa using L
  rw[List.drop_eq_nil_of_le Q5] at m;have:=h w2 (bt A.bel c);rw[m] at this;exact this)
theorem X0w {P:Program} {w:World} (d:Nat) (t e:TypeId) (a:Option Addr) (n c:Nat) (h:P.underlying t=some (.slice e)):
 (Op.equalIn (d+1) t (.slice a n c) (.slice none 0 0)).run P w= .ok a.isNone w:=by
 cases a<;>simp[Op.equalIn,run_underlying h]
theorem Q40 {t e:TypeId} {i j:Operand} [ts:TS P t e] {a:Option Addr} {n c:Nat} {b:Bool} (f:a.isNone=b) (g:K (.bool b) w):Z9 P .eql t i j (.slice a n c) (.slice none 0 0) w K:=by
 have d:(Op.equal t (.slice a n c) (.slice none 0 0)).run P w= .ok b w:=by
  have:=X0w (P:=P) (w:=w) 9999 t e a n c ts.h;rw[f] at this;exact this
 unfold Z9;rw[Z0 (v:= .bool b) (w':=w) (by simp[eqGuard,Go.binOp,d])]
 exact g
theorem Oz {xs:List X2} {v:Value} (f:X7 w σ) (g:Sl 1 M7 σ v xs) (A:xs.length<=1000000)
 (h: ∀i w' b,Stp w σ w' b->Sl 1 M7 b i xs->K i w'):Q0 P F.aa [v] w K:=Hy (by
 unfold Zl;have d:=g;obtain ⟨a,j,rfl,t,u,k,y⟩:=g;refine Q40 rfl ?_;refine Q4 (fun e=>?_) (fun e=>?_)
 .have:a=none:=by simpa using e
  have s:=k this;have o:xs=[]:=List.eq_nil_of_length_eq_zero Q5;subst o;exact h _ w σ (Stp.refl f) Sl.nil
 .refine Zh (R:=M7) (sz:=1) (Stp.refl f) [] [] rfl rfl U5 (by rfl) trivial fun B w1 n m _=>?_
  refine app n m d (by rfl) (by simp only[List.length_nil];omega) (by simp only[List.length_nil];omega) fun C r z l c _=>?_
  obtain ⟨b,p,q,_⟩:=c.keep l;exact h _ r b p q)
theorem Cl {xs:List Fld} {v:Value} (f:X7 w σ) (g:Sl 3 I7 σ v xs) (A:xs.length<=1000000)
 (h: ∀i w' b,Stp w σ w' b->Sl 3 I7 b i xs->K i w'):Q0 P F.af [v] w K:=Ls (by
 unfold Xl;have d:=g;obtain ⟨a,j,rfl,t,u,k,y⟩:=g;refine Q40 rfl ?_;refine Q4 (fun e=>?_) (fun e=>?_)
 .have:a=none:=by simpa using e
  have s:=k this;have o:xs=[]:=List.eq_nil_of_length_eq_zero Q5;subst o;exact h _ w σ (Stp.refl f) Sl.nil
 .refine Zh (R:=I7) (sz:=3) (Stp.refl f) [] [] rfl rfl U5 (by rfl) trivial fun B w1 n m _=>?_
  refine app n m d (by rfl) (by simp only[List.length_nil];omega) (by simp only[List.length_nil];omega) fun C r z l c _=>?_
  obtain ⟨b,p,q,_⟩:=c.keep l;exact h _ r b p q)
theorem Cm {xs:List Ins} {v:Value} (f:X7 w σ) (g:Sl 3 Ze σ v xs) (A:xs.length<=1000000)
 (h: ∀i w' b,Stp w σ w' b->Sl 3 Ze b i xs->K i w'):Q0 P F.ag [v] w K:=Lt (by
 unfold Xm;have d:=g;obtain ⟨a,j,rfl,t,u,k,y⟩:=g;refine Q40 rfl ?_;refine Q4 (fun e=>?_) (fun e=>?_)
 .have:a=none:=by simpa using e
  have s:=k this;have o:xs=[]:=List.eq_nil_of_length_eq_zero Q5;subst o;exact h _ w σ (Stp.refl f) Sl.nil
 .refine Zh (R:=Ze) (sz:=3) (Stp.refl f) [] [] rfl rfl U5 (by rfl) trivial fun B w1 n m _=>?_
  refine app n m d (by rfl) (by simp only[List.length_nil];omega) (by simp only[List.length_nil];omega) fun C r z l c _=>?_
  obtain ⟨b,p,q,_⟩:=c.keep l;exact h _ r b p q)
theorem Ck {xs:List Cat} {v:Value} (f:X7 w σ) (g:Sl 4 Wq σ v xs) (A:xs.length<=1000000)
 (h: ∀i w' b,Stp w σ w' b->Sl 4 Wq b i xs->K i w'):Q0 P F.ae [v] w K:=Lr (by
 unfold Xk;have d:=g;obtain ⟨a,j,rfl,t,u,k,y⟩:=g;refine Q40 rfl ?_;refine Q4 (fun e=>?_) (fun e=>?_)
 .have:a=none:=by simpa using e
  have s:=k this;have o:xs=[]:=List.eq_nil_of_length_eq_zero Q5;subst o;exact h _ w σ (Stp.refl f) Sl.nil
 .refine Zh (R:=Wq) (sz:=4) (Stp.refl f) [] [] rfl rfl U5 (by rfl) trivial fun B w1 n m _=>?_
  refine app n m d (by rfl) (by simp only[List.length_nil];omega) (by simp only[List.length_nil];omega) fun C r z l c _=>?_
  obtain ⟨b,p,q,_⟩:=c.keep l;exact h _ r b p q)
end Go.Proofs.Y
namespace Go.Hm
open Go.Kd
structure Opr where
  name : X2
  number : Bool
  text : Bool
deriving DecidableEq
def Lo:List Opr:=[
 ⟨[105,110,116],true,false⟩,
 ⟨[116,114,117,101],false,false⟩,
 ⟨[102,97,108,115,101],false,false⟩,
 ⟨[119,111,114,100],false,true⟩,
 ⟨[110,117,108,108],false,false⟩,
 ⟨[108,111,97,100],true,false⟩,
 ⟨[115,116,111,114,101],true,false⟩,
 ⟨[112,111,112],false,false⟩,
 ⟨[100,117,112],false,false⟩,
 ⟨[115,119,97,112],false,false⟩,
 ⟨[97,100,100],false,false⟩,
 ⟨[115,117,98],false,false⟩,
 ⟨[109,117,108],false,false⟩,
 ⟨[100,105,118],false,false⟩,
 ⟨[114,101,109],false,false⟩,
 ⟨[110,101,103],false,false⟩,
 ⟨[108,101,115,115],false,false⟩,
 ⟨[115,97,109,101],false,false⟩,
 ⟨[110,111,116],false,false⟩,
 ⟨[98,111,116,104],false,false⟩,
 ⟨[106,111,105,110],false,false⟩,
 ⟨[115,105,122,101],false,false⟩,
 ⟨[106,117,109,112],true,false⟩,
 ⟨[98,114,97,110,99,104],true,false⟩,
 ⟨[110,101,119],false,true⟩,
 ⟨[103,101,116],false,true⟩,
 ⟨[112,117,116],false,true⟩,
 ⟨[99,97,108,108],false,true⟩,
 ⟨[97,114,114,97,121],false,true⟩,
 ⟨[97,116],false,false⟩,
 ⟨[115,101,116],false,false⟩,
 ⟨[105,115],false,true⟩,
 ⟨[99,97,115,116],false,true⟩,
 ⟨[114,101,116,117,114,110],false,false⟩,
 ⟨[116,104,114,111,119],false,false⟩,
 ⟨[111,117,116],false,false⟩,
 ⟨[101,113,117,97,108],false,false⟩,
 ⟨[97,110,100],false,false⟩,
 ⟨[111,114],false,false⟩,
 ⟨[120,111,114],false,false⟩,
 ⟨[115,104,108],false,false⟩,
 ⟨[115,104,114],false,false⟩]
end Go.Hm
namespace Go.Emb
open Go.Hm
def ROp (_:Q2) (o:Opr) (cs:List Value):Prop:=cs=[S o.name, .bool o.number, .bool o.text]
def cOp (o:Opr):List Value:=[S o.name, .bool o.number, .bool o.text]
instance:Rep ROp:=⟨fun _ h=>h,fun h u hu=>by rw[h] at hu;simp at hu;rcases hu with rfl | rfl | rfl<;>rfl⟩
end Go.Emb
namespace Go.Proofs.Y
open Go.Emb Go.RowKit Go.Kd Go.Hm
variable {w : World} {K : Value -> World -> Prop} {σ : Q2}
theorem Q8M {a:X2} (k:a.length<=W6) (h: ∀w',Below w.heap.size w w'->K (.bool (B3 a)) w'):Q0 P F.bW [S a] w K:=Q76 (by
 unfold Af X6;have b:a.length<=140737488355328:=by simp only[W6] at k;omega
 refine Q9i a b fun w1 e=>?_;cases d:name a
 ·(try simp only[↓M1,M1,Mb,reduceIte])
  have:=h w1 e
  rwa [show B3 a=false by cases a with | nil=>rfl | cons c r=>simp[B3,d]] at this
 ·(try simp only[↓M1,M1,Mb,reduceIte])
  refine Gk a b fun m j=>?_
  (try simp only[↓M1,M1,Mb,reduceIte])
  have:=h m (bt e j)
  rwa [show B3 a= !C2 a by
   cases a with
   | nil=>simp[name] at d
   | cons c r=>
    obtain ⟨i,l⟩:=Q0w d;simp only[C2,B3,d,Bool.true_and];simp only[K1,l,Bool.or_false] at i;cases f:Jj c.toNat<;>cases g:Yx c.toNat
    .simp[f,g] at i
    .rfl
    .rfl
    .exfalso
     simp only[Jj,Yx,Bool.and_eq_true,decide_eq_true_eq] at f g;omega] at this)
theorem X7o {t e:TypeId} {n sz b:Nat} {z:Value} [ta:TA P t n e] [tz:TZ P e sz b z] {a:Addr} (d:K (.slice (some a) n n) w):I3 P t (.pointer (some a)) none none none w K:=by
 unfold I3
 have:(Instr.sliceAt t (.pointer (some a)) none none none).run P w= .ok (.slice (some (if n=0 then a else a.add (0*sz))) (n-0) (n-0)) w:=by
  simp[Instr.sliceAt,run_underlying ta.h,Instr.sureAddr,Instr.sliceBounds,E8 tz]
 rw[Z0 this]
 have c:(if n=0 then a else a.add (0*sz))=a:=by
  by_cases h:n=0
  .rw[if_pos h]
  .rw[if_neg h,Nat.zero_mul,add_zero]
 rw[c];exact d
def Q54 (σ:Q2):Prop:=J7 σ ⟨G.a,0,none⟩ (Lo.flatMap cOp)
theorem X1x (i:Nat) (o:Opr) (h:Lo[i]? =some o):((Lo.flatMap cOp).drop (i*3)).take 3=cOp o:=by
 have c:i<42:=(List.getElem?_eq_some_iff.1 h).1
 have key: ∀l:List Opr,∀i o,l[i]? =some o->((l.flatMap cOp).drop (i*3)).take 3=cOp o:=by
  intro l
  induction l with
  | nil=>intro i o h;simp at h
  | cons a r b=>
   intro i o h;cases i with
   | zero=>simp at h;subst h;rfl
   | succ i=>
    have:=b i o (by simpa using h)
    rw[List.flatMap_cons,show (i+1)*3=(cOp a).length+i*3 by simp[cOp];omega,List.drop_append]
    simpa [List.drop_eq_nil_of_le] using this
 exact key _ i o h
theorem Fp {σ:Q2} {a:Addr} {cs:List Value} (h:J7 σ a cs) (i n:Nat):J7 σ (a.add i) ((cs.drop i).take n):=by
 obtain ⟨d,arr,e,c,f,g⟩:=h;refine ⟨Qz d _,arr,e,c,by rw[K0];exact f,fun j v b=>?_⟩
 rw[List.getElem?_take] at b
 split at b
 .rw[List.getElem?_drop] at b
  rw[Za,Nat.add_assoc];exact g _ _ b
 .cases b
theorem X8l (h:Q54 σ):Sl 3 ROp σ (.slice (some ⟨G.a,0,none⟩) 42 42) Lo:=by
 refine ⟨_,42,rfl,by decide,by decide,by simp,?_⟩
 rintro _ ⟨⟩;refine ⟨fun _=>rfl,fun i x a=>⟨cOp x,?_,rfl,rfl⟩⟩;rw[<-X1x i x a];exact Fp h (i*3) 3
theorem Q2x {β:Type} {xs:List Opr} {v f:Value} (b:β->Opr->Bool×β) (m:β) (a:β->World->Prop) (D:Nat->Prop) (l: ∀s w,a s w->X7 w σ) (y:a m w) (u:Sl 3 ROp σ v xs)
 (z: ∀s x cs (w1:World) (K:Value->World->Prop),x∈xs->Kpt D w w1->a s w1->ROp σ x cs->cs.length=3->(∀w',Kpt D w w'->a (b s x).2 w'->K (.bool (b s x).1) w')->U7 P f [.agg cs.toArray] w1 K)
 (h: ∀w',Kpt D w w'->a (W5 b m xs 0).2 w'->K (I (H2 (W5 b m xs 0).1)) w'):Q0 P F.t [v,f] w K:=Lu (by
 unfold Xo V1 V3 Y0 X5
 ((try simp only[↓M1,M1,Mb,reduceIte]);repeat ((first | refine ld Q9 Q9 rfl ?_ | refine Y6 Q9 Q9 rfl ?_ | refine Q7 Q9 ?_);(try simp only[↓M1,M1,Mb,reduceIte])))
 refine V7 xs.length (fun n w'=>Kpt D w w'/\ ∃s,a s w'/\W5 b m xs 0=W5 b s (xs.drop n) n) ⟨Kpt.refl,m,y,rfl⟩ fun n w1 d E i=>?_;obtain ⟨t,s,i,e⟩:=i;have r:=l s w1 i
 ((try simp only[↓M1,M1,Mb,reduceIte]);repeat ((first | refine ld Q9 Q9 rfl ?_ | refine Y6 Q9 Q9 rfl ?_ | refine Q7 Q9 ?_);(try simp only[↓M1,M1,Mb,reduceIte])))
 refine Q4 (fun q=>?_) (fun q=>?_)
 .have c:n<xs.length:=by simpa using q
  refine E5 u c fun p cs A g B=>?_;refine Y7 r A g ?_;refine z s xs[n] cs w1 _ (List.getElem_mem c) t i B g fun C k j=>?_;rw[List.drop_eq_getElem_cons c] at e;simp only[W5] at e;refine Q4 (fun o=>?_) (fun o=>?_)
  .rw[o] at e
   have:=h C k;rw[e] at this;exact this j
  .rw[o] at e
   ((try simp only[↓M1,M1,Mb,reduceIte]);repeat ((first | refine ld Q9 Q9 rfl ?_ | refine Y6 Q9 Q9 rfl ?_ | refine Q7 Q9 ?_);(try simp only[↓M1,M1,Mb,reduceIte])))
   exact Z5 u.max c ⟨k,_,j,by simpa using e⟩
 .have c: ¬n<xs.length:=by simpa using q
  rw[List.drop_eq_nil_of_le Q5] at e;have:=h w1 t;rw[e] at this;exact this i)
theorem Q1R {xs:List Opr} {v f:Value} (p:Opr->Bool) (hs:X7 w σ) (hv:Sl 3 ROp σ v xs)
 (hf: ∀x cs (w1:World) (K:Value->World->Prop),x∈xs->X7 w1 σ->ROp σ x cs->cs.length=3->(∀w',Below w1.heap.size w1 w'->K (.bool (p x)) w')->U7 P f [.agg cs.toArray] w1 K)
 (h: ∀w',Below w.heap.size w w'->K (I (H2 (xs.findIdx? p))) w'):Q0 P F.t [v,f] w K:=by
 refine Q2x (fun (_:Unit) x=>(p x,())) () (fun _ w'=>Below w.heap.size w w') (fun _=>False) (fun _ w' hb=>hs.below hb) (Below.refl _ _) hv (fun s x cs w1 K hx hk hi hr hl hK=>hf x cs w1 K hx (hs.below hi) hr hl fun w' hb=>hK w' (.of_below (bt hi hb)) (bt hi hb)) fun w' hk hi=>?_;rw[Yi]
 simpa using h w' hi
theorem Q54.le {σ a:Q2} (h:Q54 σ) (c: ∀b o,σ b=some o->a b=some o):Q54 a:=J7.le h c
def Zj (n:X2):Option Nat:=Lo.findIdx? fun o=>decide (o.name=n)
theorem X7I {a:X2} (r:X7 w σ) (k:Q54 σ) (h: ∀w',Below w.heap.size w w'->K (I (H2 (Zj a))) w'):Q0 P F.cW [S a] w K:=X0N (by
 unfold Q4L;refine F4 r fun p w1 σ1 c f=>?_;simp only[Value.cells] at f;refine X7o ?_
 ((try simp only[↓M1,M1,Mb,reduceIte]);repeat ((first | refine ld Q9 Q9 rfl ?_ | refine Y6 Q9 Q9 rfl ?_ | refine Q7 Q9 ?_);(try simp only[↓M1,M1,Mb,reduceIte])))
 refine Q1R (fun o=>decide (o.name=a)) c.sat (X8l (k.le c.le)) (fun x cs g K v e n u i=>?_) fun g j=>?_
 .refine U3 (Q8b ?_)
  unfold Q1H Y1 X5;refine F4 e fun q t y b m=>?_;have d:cs=[S x.name, .bool x.number, .bool x.text]:=n;subst d;have s:=b.sat;have l:=f.up b;simp only[Value.cells] at m
  ((try simp only[↓M1,M1,Mb,reduceIte]);repeat ((first | refine ld Q9 Q9 rfl ?_ | refine Y6 Q9 Q9 rfl ?_ | refine Q7 Q9 ?_);(try simp only[↓M1,M1,Mb,reduceIte])))
  exact i t b.bel
 ·(try simp only[↓M1,M1,Mb,reduceIte])
  exact h g (bt c.bel j))
def I6 (n:X2):Bool×Bool×Bool:=match Zj n with
 | none=>(false,false,false)
 | some i=>((Lo.getD i ⟨[],false,false⟩).number,(Lo.getD i ⟨[],false,false⟩).text,true)
theorem X6s {a:X2} (l:X7 w σ) (j:Q54 σ) (h: ∀w',Below w.heap.size w w'->K (.tuple #[.bool (I6 a).1, .bool (I6 a).2.1, .bool (I6 a).2.2]) w'):Q0 P F.co [S a] w K:=Q9F (by
 unfold Q2U;simp only[Y3,X3];unfold X4;refine X7I l j fun w1 b=>?_;have c:=l.below b;unfold I6 at h;cases f:Zj a with
 | none=>
  rw[f] at h;simp only[H2]
  (try simp only[↓M1,M1,Mb,reduceIte])
  simp only[show decide ((-1:Int)<0)=true from rfl,↓M1,M1,Mb,reduceIte]
  exact h w1 b
 | some i=>
  rw[f] at h;simp only at h;have n:i<42:=(List.findIdx?_eq_some_iff_getElem.1 f).1
  have k:Lo[i]? =some (Lo.getD i ⟨[],false,false⟩):=by
   rw[List.getD,List.getElem?_eq_getElem (by exact n)];rfl
  generalize Lo.getD i ⟨[],false,false⟩=o at h k;have g:=Fp j (i*3) 3;rw[X1x i o k] at g;simp only[H2];have m:decide ((i:Int)<0)=false:=by simp
  simp only[m,↓M1,M1,Mb,reduceIte]
  have A: ∀{w:World} {K:Value->World->Prop},K (.pointer (some ((⟨G.a,0,none⟩:Addr).add (i*3)))) w->indexAddr P T.ak (.pointer (some ⟨G.a,0,none⟩)) (I i) w K:=by
   intro w K h;rw[Q9f Q5 Q5]
   simpa using h
  refine Sn (Below.refl _ _) ?_;refine X9 (.pointer (some ((⟨G.a,0,none⟩:Addr).add (i*3)))) (fun w b=>A (Y5 rfl)) ?_;refine X9 (.pointer (some (((⟨G.a,0,none⟩:Addr).add (i*3)).add 1))) (fun t w b e=>by rw[e,fa];exact Y5 rfl) ?_
  refine X9 (.pointer (some ((⟨G.a,0,none⟩:Addr).add (i*3)))) (fun w b=>A (Y5 rfl)) ?_;refine X9 (.pointer (some (((⟨G.a,0,none⟩:Addr).add (i*3)).add 2))) (fun t w b e=>by rw[e,fa];exact Y5 rfl) ?_
  refine X9 (.bool o.number) (fun t w b e=>by rw[e];exact ld (c.below b) g rfl (Y5 rfl)) ?_
  refine X9 (.bool o.text) (fun t w b e=>by rw[e];exact ld (c.below b) g rfl (Y5 rfl)) ?_
  rintro _ _ _ _ _ _ p d rfl rfl rfl rfl rfl rfl;exact h p (bt b d))
end Go.Proofs.Y
namespace Go.Emb
open Go.RowKit Go.Hm
variable {P : Program} {w w' : World} {K : Value -> World -> Prop} {σ σ0 σ' : Q2}
structure SLe (σ σ' : Q2) : Prop where
  le : ∀ b o, σ b = some o -> σ' b = some o
theorem SLe.refl (σ:Q2):SLe σ σ:=⟨fun _ _ h=>h⟩
theorem SLe.step {w w':World} (h:SLe σ0 σ) (k:Stp w σ w' σ'):SLe σ0 σ':=⟨fun b o e=>k.le b o (h.le b o e)⟩
theorem SLe.more (h:SLe σ0 σ) (k:SLe σ σ'):SLe σ0 σ':=⟨fun b o e=>k.le b o (h.le b o e)⟩
structure Hst (w : World) (σ : Q2) (w' : World) (σ' : Q2) : Prop where
  stp : Stp w σ w' σ'
theorem Hst.sat (h:Hst w σ w' σ'):X7 w' σ':=h.stp.sat
variable {α : Type} {R : Q2 -> α -> List Value -> Prop} {sz : Nat} {v : Value} {xs : List α} {a : Addr} {cs : List Value}
theorem Sl.lift [Rep R] (h:Sl sz R σ0 v xs) (k:SLe σ0 σ):Sl sz R σ v xs:=h.le k.le
theorem J7.lift (h:J7 σ0 a cs) (k:SLe σ0 σ):J7 σ a cs:=h.le k.le
theorem Ji.lift {r:Nat} {m:List (List UInt8×Value)} (h:Ji σ0 r m) (k:SLe σ0 σ):Ji σ r m:=h.le k.le
theorem RMe_lift {x:Hm.Met} (h:F5 σ0 x cs) (k:SLe σ0 σ):F5 σ x cs:=Rep.up k.le h
theorem RCl_lift {x:Cla} (h:M8 σ0 x cs) (k:SLe σ0 σ):M8 σ x cs:=Rep.up k.le h
theorem RFd_any {x:Fld} (h:I7 σ0 x cs):I7 σ x cs:=h
theorem RIn_any {x:Ins} (h:Ze σ0 x cs):Ze σ x cs:=h
theorem RCa_any {x:Cat} (h:Wq σ0 x cs):Wq σ x cs:=h
theorem Y8.step {b:Nat} (h:Y8 σ w b cs) (k:Stp w σ w' σ'):Y8 σ' w' b cs:=h.up k
theorem W7.step [Rep R] {B:Nat} {e:TypeId} (h:W7 B e sz R σ w v xs) (k:Stp w σ w' σ'):W7 B e sz R σ' w' v xs:=h.up k
theorem H1 {Q:World->Prop} (d:X7 w σ) (h: ∀w' σ',Stp w σ w' σ'->Q w'): ∀w',Below w.heap.size w w'->Q w':=fun w' c=>h w' σ (Stp.of_below d c)
variable {k : IntKind} {t : TypeId} {ox oy : Operand} {a b : Int} {x : Bool} {s u : List UInt8}
theorem R5 (h:K (.int k (k.wrap (a+b))) w):Z9 P .add t ox oy (.int k a) (.int k b) w K:=by rw[Tx];exact h
theorem Zd (c: -9223372036854775808<=a+b/\a+b<=9223372036854775807) (h:K (I (a+b)) w):Z9 P .add t ox oy (I a) (I b) w K:=by rw[Tx,Qr c.1 c.2];exact h
theorem Vs (c: -9223372036854775808<=a-b/\a-b<=9223372036854775807) (h:K (I (a-b)) w):Z9 P .sub t ox oy (I a) (I b) w K:=by rw[Q6E,Qr c.1 c.2];exact h
theorem J0 (h:K (.bool (decide (a<b))) w):Z9 P .lss t ox oy (.int k a) (.int k b) w K:=by rw[Q6C];exact h
theorem Q8u (h:K (.bool (decide (a<=b))) w):Z9 P .leq t ox oy (.int k a) (.int k b) w K:=by rw[Q6B];exact h
theorem Q4h (h:K (.bool (decide (b<a))) w):Z9 P .gtr t ox oy (.int k a) (.int k b) w K:=by rw[Gj];exact h
theorem A0 (h:K (.bool (decide (b<=a))) w):Z9 P .geq t ox oy (.int k a) (.int k b) w K:=by rw[Q3T];exact h
theorem B1 (h:K (.bool (decide (a=b))) w):Z9 P .eql t ox oy (.int k a) (.int k b) w K:=by rw[Q3S];exact h
theorem P8 (h:K (.bool (!decide (a=b))) w):Z9 P .neq t ox oy (.int k a) (.int k b) w K:=by rw[Q6D];exact h
theorem Zv (h:K (.bool (!x)) w):W0 P .not (.bool x) w K:=by rw[Q7b];exact h
theorem Qu (h:K (.bool (decide (s=u))) w):Z9 P .eql t ox oy (S s) (S u) w K:=by rw[Pz];exact h
theorem Jn (h:K (.bool (!decide (s=u))) w):Z9 P .neq t ox oy (S s) (S u) w K:=by rw[Ta];exact h
theorem Gi (c:s.length+u.length<=9223372036854775807) (h:K (S (s++u)) w):Z9 P .add t ox oy (S s) (S u) w K:=by rw[Q4D c];exact h
theorem Q0c {cs:List Bool} {r:TypeId} (c:P.underlying t=some .string) (h:K (I s.length) w):V0 P .len [t] r cs [S s] w K:=by rw[G8 c];exact h
theorem X7x {v u:Value} (h:K v w):pick P (.bool true) v u w K:=by rw[H3];exact h
theorem X7w {v u:Value} (h:K u w):pick P (.bool false) v u w K:=by rw[E3];exact h
theorem F3 {v u:Value} (h:K (if x=true then v else u) w):pick P (.bool x) v u w K:=by rw[Bi];exact h
theorem Q6w {f:Fn} {first caps:List Value} (h:K (.func f first.toArray caps.toArray) w):C5 P f first caps w K:=by rw[Zc];exact h
theorem J8 {vs:List Value} {i:Nat} {v:Value} (c:vs[i]? =some v) (h:K v w):ext P (.tuple vs.toArray) i w K:=by rw[Wy c];exact h
theorem G5 {a:Addr} (h:K (.pointer (some a)) w):nilCheck P (.pointer (some a)) w K:=by rw[H7];exact h
theorem Z3 {t e:Prop} (h:t):X1 (.bool true) t e:=by rw[I0];exact h
theorem Z7 {t e:Prop} (h:e):X1 (.bool false) t e:=by rw[F0];exact h
theorem X8w {c:World->(Value->World->Prop)->Prop} (h:c w K):Q1 (.bool true) true w c K:=by rw[V9];exact h
theorem X8v {c:World->(Value->World->Prop)->Prop} (h:c w K):Q1 (.bool false) false w c K:=by rw[D2];exact h
theorem X7u {c:World->(Value->World->Prop)->Prop} (h:K undef w):Q1 (.bool true) false w c K:=by rw[G1];exact h
theorem X7r {c:World->(Value->World->Prop)->Prop} (h:K undef w):Q1 (.bool false) true w c K:=by rw[O3];exact h
variable {a : Addr}
theorem Z4 {t:TypeId} (f:X7 w σ) (h: ∀a w' σ',Stp w σ w' σ'->J7 σ' a cs->K (.pointer (some a)) w'):box P t (.agg cs.toArray) w K:=
 F4 f fun a w' σ' c d=>h a w' σ' c (by simpa [Value.cells] using d)
theorem L8 {t:TypeId} (g:X7 w σ) (d:v.cells= #[v]) (h: ∀a w' σ',Stp w σ w' σ'->J7 σ' a [v]->K (.pointer (some a)) w'):box P t v w K:=
 F4 g fun a w' σ' f c=>h a w' σ' f (by rw[d] at c;exact c)
theorem Oo (h:Sl sz R σ v xs):v.cells= #[v]:=by
 obtain ⟨a,c,rfl,_⟩:=h;rfl
theorem J4 {t:TypeId} {k c:Nat} {d:TypeId} {sz by_:Nat} {z:Value} [tf:TF P t k c d] [tz:TZ P d sz by_ z] [nz:NZ sz] (h:K (.pointer (some (a.add c))) w):fieldAddr P t (.pointer (some a)) k w K:=by
 rw[fa];exact h
theorem W2 {t:TypeId} {k c:Nat} {d:TypeId} [tf:TF P t k c d] [tg:TG P d false] {cs:List Value} {v:Value} (f:cs[c]? =some v) (h:K v w):Xj P t (.agg cs.toArray) k w K:=by
 rw[X6M (v:=v) (by simpa using f)];exact h
theorem U8 {A:(World->World->Prop)->(World->Prop)->Prop} (f:X7 w σ) (h:A (fun w w'=>Below w.heap.size w w') (fun w'=>Hst w σ w' σ)):dr w A:=
 Pe _ _ ⟨Stp.of_below f (Below.refl _ _).drew⟩ (fun _ _ c d=>⟨c.stp.trans (Stp.of_below c.sat d)⟩) h
theorem S1 {α:Type} {R:Q2->α->List Value->Prop} {sz:Nat} {v:Value} {xs:List α} {t:TypeId} (c:X7 w σ) (d:Sl sz R σ v xs) (h: ∀a w' σ',Stp w σ w' σ'->J7 σ' a [v]->K (.pointer (some a)) w'):box P t v w K:=
 L8 c (Oo d) h
variable {e : TypeId} {by_ : Nat} {z : Value} {n : Nat}
theorem Q9e {xs:List Kd.X2} [TS P t e] [TZ P e 1 by_ z] (h:Sl 1 M7 σ v xs) (i:n<xs.length) (g: ∀a,J7 σ a [S xs[n]]->xs[n].length<=W6->K (.pointer (some a)) w):indexAddr P t v (I n) w K:=
 E5 h i fun a cs c j d=>by obtain ⟨rfl,f⟩:=d;exact g a c f
theorem Q5W {xs:List Fld} [TS P t e] [TZ P e 3 by_ z] (h:Sl 3 I7 σ v xs) (i:n<xs.length) (g: ∀a,J7 σ a [S xs[n].name,S xs[n].kind, .bool xs[n].tr]->I7 σ xs[n] [S xs[n].name,S xs[n].kind, .bool xs[n].tr]->K (.pointer (some a)) w):indexAddr P t v (I n) w K:=
 E5 h i fun a cs c j d=>by obtain ⟨rfl,f⟩:=d;exact g a c ⟨rfl,f⟩
end Go.Emb
namespace Go.Hm
open Go.Kd
abbrev Oj:=X2->Option Cla
def U1 (l:List Cla) (n:X2):Option Nat:=l.findIdx? fun c=>decide (c.name=n)
def lk (l:List Cla):Oj:=fun n=>(U1 l n).bind (l[·]?)
def M6 (c:Cla):List X2:=c.super::c.like
def M3:X2:=[79,98,106,101,99,116]
def C8:X2:=[70,97,117,108,116]
def G4:X2:=[110,117,108,108]
def B8:X2:=[116,101,120,116]
def Wj:X2:=[119,104,97,116]
def M0:List X2:=[[78,117,108,108,70,97,117,108,116],[73,110,100,101,120,70,97,117,108,116],[67,97,115,116,70,97,117,108,116],[90,101,114,111,70,97,117,108,116],[82,111,111,109,70,97,117,108,116],[67,97,108,108,70,97,117,108,116]]
def Xg:List Cla:=[⟨M3,[],[],false,false,false,[],[]⟩,⟨C8,M3,[],false,false,false,[⟨Wj,B8,false⟩],[]⟩]++M0.map fun n=>⟨n,C8,[],false,false,true,[],[]⟩
def Mk (L:Oj):Nat->List X2->List X2->List X2
 | 0,_,a=>a
 | _,[],a=>a
 | f+1,n::b,a=>match L n with
  | none=>Mk L f b a
  | some c=>if n∈a then Mk L f b a else Mk L f (b++M6 c) (a++[n])
def weigh (l:List Cla) (a:List X2):Nat:=(l.map fun c=>if c.name∈a then 0 else (M6 c).length).sum
def Yz:X2:=[105,110,116]
def Wi:X2:=[98,111,111,108]
def Qq (l:List Cla) (n:X2):List X2:=Mk (lk l) (1+weigh l []) [n] []
def Q35 (l:List Cla) (n:X2):Bool:=(U1 l n).isSome
def H8 (l:List Cla) (s:X2):Bool:=decide (s=G4)||(right s&&(plain (base s).1||Q35 l (base s).1))
def Vd (l:List Cla) (a b:X2):Bool:=
 if !H8 l a|| !H8 l b then false else if a=b then true else if plain a||plain b then false else if a=G4 then true
 else if elem a≠[] then decide (b=M3) else (Qq l a).contains b
def Qx (L:Oj):Nat->X2->List Cla
 | 0,_=>[]
 | f+1,n=>match L n with
  | none=>[]
  | some c=>c::Qx L f c.super
def chain (l:List Cla) (n:X2):List Cla:=Qx (lk l) (l.length+1) n
def U6 (l:List Cla) (n:X2):List Fld:=(chain l n).reverse.flatMap (·.fields)
def Hw (l:List Cla) (n f:X2):Option Nat:=(U6 l n).findIdx? fun x=>decide (x.name=f)
def Qb (c:Cla) (n:X2):Option Hm.Met:=c.methods.find? fun m=>decide (m.name=n)
def Ii (L:Oj):Nat->Cla->X2->Option (X2×Hm.Met)
 | 0,_,_=>none
 | f+1,c,n=>c.like.findSome? fun u=>match L u with
  | none=>none
  | some d=>match Qb d n with
   | some m=>some (u,m)
   | none=>Ii L f d n
def N2 (l:List Cla) (k n:X2):Option (X2×Hm.Met):=
 match (chain l k).findSome? fun c=>(Qb c n).map (c.name,·) with
 | some r=>some r
 | none=>(chain l k).findSome? fun c=>Ii (lk l) (l.length+1) c n
def Yq (l:List Cla) (n:X2):Bool:=match lk l n with
 | some c=> !c.abs
 | none=>false
def F9:List X2->X2
 | []=>[]
 | [a]=>a
 | a::b::r=>a++[44]++F9 (b::r)
def Zz (m:Hm.Met):X2:=[40]++F9 m.params++[41]++m.result
def B0 (l:List Cla) (s:X2):Bool:= !decide (s=G4)&&H8 l s
def Uo (l:List Cla) (c:Cla):Bool:=c.fields.any fun f=>(Hw l c.super f.name).isSome
def T6 (l:List Cla) (c:Cla):Bool:=c.fields.any (fun f=> !B0 l f.kind)||c.methods.any fun m=>(!B0 l m.result&& !decide (m.result=[]))||m.params.any fun s=> !B0 l s
def Ox (l:List Cla) (n:X2):List Hm.Met:=(Qq l n).flatMap fun u=>((lk l u).map (·.methods)).getD []
def Hu (a:List Hm.Met):Bool:=a.any fun x=>a.any fun y=>decide (x.name=y.name)&& !decide (Zz x=Zz y)
def Vq (l:List Cla) (c:Cla):Bool:=Hu (Ox l c.name)
def Vi (l:List Cla) (k n:X2):Bool:=match N2 l k n with
 | none=>true
 | some r=>r.2.abs
def Ss (l:List Cla) (c:Cla):Bool:= !c.abs&&(Ox l c.name).any fun m=>Vi l c.name m.name
def O5 (l:List Cla) (c:Cla):Nat:=if Uo l c then 64 else if T6 l c then 65 else if Vq l c then 66 else if Ss l c then 67 else 0
def Ja (l:List Cla) (n:X2):Bool:=match lk l n with
 | none=>true
 | some d=>d.iface||d.fin
def I4 (l:List Cla) (n:X2):Bool:=match lk l n with
 | none=>true
 | some d=> !d.iface
def B6 (l:List Cla) (c:Cla):Nat:=if Ja l c.super then 61 else if c.like.any (I4 l) then 62 else 0
def Yb (l:List Cla) (c:Cla):Bool:=(M6 c).any fun n=>(Qq l n).contains c.name
def Ys (l:List Cla) (frm:Nat):Nat->List Nat->Nat->List Nat
 | 0,out,_=>out
 | f+1,out,i=>if i<frm then out else if i∈out then out else ((M6 (l.getD i Cla.zero)).foldl (fun out n=>Ys l frm f out ((U1 l n).getD 0)) out)++[i]
def O6 (l:List Cla) (frm:Nat):List Nat:=((List.range l.length).drop frm).foldl (fun out i=>Ys l frm (l.length+1) out i) []
end Go.Hm
namespace Go.Emb
open Go.RowKit Go.Hm
variable {P : Program} {w w0 w1 w' w'' : World} {K : Value -> World -> Prop} {σ σ0 σ1 σ' : Q2}
def V6 {α:Type} (B:Nat) (e:TypeId) (sz:Nat) (R:Q2->α->List Value->Prop) (σ:Q2) (w:World) (v:Value) (xs:List α):Prop:=
 ∃a c,v= .slice a xs.length c/\xs.length<=c/\c<=maxLen/\(∀b,a=some b->b.spot=none/\B<=b.block/\b.block<w.heap.size/\σ b.block=none)/\(0<c-> ∃g f d,a=some ⟨g,f,none⟩/\B<=g/\σ g=none/\w.heap[g]? =some (.cells d e (0,0))/\f+c*sz<=d.size/\ ∀i x,xs[i]? =some x->R σ x ((d.toList.drop (f+i*sz)).take sz))
variable {α : Type} {R : Q2 -> α -> List Value -> Prop} {B sz : Nat} {e : TypeId} {v u : Value} {xs ys : List α}
theorem V6.of_acc (h:W7 B e sz R σ w v xs):V6 B e sz R σ w v xs:=by
 obtain ⟨cells,o,j,p⟩:=h
 rcases o.2 with ⟨rfl,n⟩ | ⟨g,b,c,rfl,k,l,d,a,r,f⟩
 .exact ⟨none,0,by rw[n],by omega,by simp,by simp,fun h=>by omega⟩
 .refine ⟨_,b,rfl,d,a,by rintro _ ⟨⟩;exact ⟨rfl,k,(Array.getElem?_eq_some_iff.1 l).1,j g rfl⟩,fun _=>⟨g,0,c,rfl,k,j g rfl,l,by omega,fun i x m=>?_⟩⟩
  have q:i<xs.length:=(List.getElem?_eq_some_iff.1 m).1;have hh:i*sz+sz<=xs.length*sz:=by rw[<-Nat.succ_mul];exact Nat.mul_le_mul_right _ q
  have:=p i x m;rw[<-f,List.drop_take,List.take_take] at this;rw[Nat.zero_add]
  rwa [show min sz (xs.length*sz-i*sz)=sz by omega] at this
theorem V6.mem (h:V6 B e sz R σ w v xs) {k:Nat} (c:v.ownBlock=some k):B<=k/\k<w.heap.size/\σ k=none:=by
 obtain ⟨a,d,rfl,f,g,b,i⟩:=h;cases a with
 | none=>cases c
 | some a=>cases c;exact (b a rfl).2
theorem V6.up [hr:Rep R] (h:V6 B e sz R σ w v xs) (f:Stp w σ w' σ'):V6 B e sz R σ' w' v xs:=by
 obtain ⟨a,j,rfl,o,p,c,q⟩:=h;refine ⟨a,j,rfl,o,p,fun b d=>⟨(c b d).1,(c b d).2.1,Nat.lt_of_lt_of_le (c b d).2.2.1 f.bel.size,(f.old _ (c b d).2.2.1).trans (c b d).2.2.2⟩,fun r=>?_⟩;obtain ⟨g,l,k,rfl,t,y,n,z,A⟩:=q r;have m:=(Array.getElem?_eq_some_iff.1 n).1;exact ⟨g,l,k,rfl,t,(f.old g m).trans y,(f.bel.block g m).trans n,z,fun i x s=>hr.up f.le (A i x s)⟩
theorem V6.step [hr:Rep R] (h:V6 B e sz R σ w v xs) (a:Stp w σ w' σ'):V6 B e sz R σ' w' v xs:=h.up a
theorem V6.kp {D:Nat->Prop} (h:V6 B e sz R σ w v xs) (m:Kpt D w w') (j: ∀k,v.ownBlock=some k-> ¬D k):V6 B e sz R σ w' v xs:=by
 obtain ⟨a,f,rfl,o,p,c,q⟩:=h;refine ⟨a,f,rfl,o,p,fun b d=>⟨(c b d).1,(c b d).2.1,Nat.lt_of_lt_of_le (c b d).2.2.1 m.size,(c b d).2.2.2⟩,fun r=>?_⟩;obtain ⟨g,l,i,rfl,t,y,n,z,A⟩:=q r;have s:=(Array.getElem?_eq_some_iff.1 n).1;exact ⟨g,l,i,rfl,t,y,(m.block g s (j g rfl)).trans n,z,A⟩
theorem Fx {b t:TypeId} {cs:List Bool} [ts:TS P b e] (h:V6 B e sz R σ w v xs) (d:K (I xs.length) w):V0 P .len [b] t cs [v] w K:=by
 obtain ⟨a,c,rfl,_⟩:=h;rw[Q47];exact d
theorem Q9B {t:TypeId} {c:Nat} {z:Value} [TS P t e] [TZ P e sz c z] (h:V6 B e sz R σ w v xs) {n:Nat} (m:n<xs.length)
 (l: ∀a cs,(∀j u,cs[j]? =some u->w.cell? (a.add j)=some u)->cs.length=sz->R σ xs[n] cs->K (.pointer (some a)) w):indexAddr P t v (I n) w K:=by
 obtain ⟨a,d,rfl,r,s,o,k⟩:=h;obtain ⟨g,i,f,rfl,y,A,p,C,q⟩:=k Q5;rw[Ih Q5 Q5];have hh:n*sz+sz<=d*sz:=by rw[<-Nat.succ_mul];exact Nat.mul_le_mul_right _ Q5
 refine l _ ((f.toList.drop (i+n*sz)).take sz) ?_ ?_ (q n _ (by simp[m]))
 .intro j u b
  rw[List.getElem?_take] at b
  split at b
  .rw[List.getElem?_drop] at b
   unfold World.cell?;rw[K0,K0,Za,Za,Qz (Qz rfl _)];simp only[p]
   simpa using b
  .cases b
 .rw[List.length_take,List.length_drop,Array.length_toList];omega
theorem X97 {t:TypeId} {m:Nat} {z:Value} [ts:TS P t e] [tz:TZ P e sz m z] (h:V6 B e sz R σ w v xs) (l:Nat) (M:l<=xs.length)
 (A: ∀k,V6 B e sz R σ w k (xs.drop l)->(k.ownBlock=v.ownBlock\/k.ownBlock=none)->K k w):I3 P t v (some (I l)) none none w K:=by
 obtain ⟨a,c,rfl,s,J,d,p⟩:=h
 have hh: ∀w:World,(Instr.sliceBounds true xs.length c (some (I l)) none none).run P w= .ok (l,xs.length,c) w:=by
  intro w;have r:(l:Int)<=xs.length:=by omega
  simp[Instr.sliceBounds,Instr.sliceBound,asIntOf,s,r]
  intros;omega
 unfold I3
 have:(Instr.sliceAt t (.slice a xs.length c) (some (I l)) none none).run P w= .ok (.slice (if c=l then a else a.map (·.add (l*sz))) (xs.length-l) (c-l)) w:=by
  simp[Instr.sliceAt,run_underlying ts.h,Instr.slice,hh,E8 tz]
 rw[Z0 this];refine A _ ⟨_,c-l,by rw[List.length_drop],by rw[List.length_drop];omega,by omega,?_,fun L=>?_⟩ ?_
 .intro b j
  split at j
  .exact d b j
  .cases a with
   | none=>cases j
   | some a=>cases j;exact ⟨Qz (d a rfl).1 _,by rw[K0];exact (d a rfl).2⟩
 .have y:=p Q5
  clear p;obtain ⟨g,o,n,rfl,C,D,E,N,H⟩:=y;refine ⟨g,o+l*sz,n,?_,C,D,E,?_,fun i x q=>?_⟩
  .rw[if_neg Q5];simp only[Option.map_some];congr 1;unfold Addr.add;split<;>simp_all
  .have:l*sz+(c-l)*sz=c*sz:=by rw[<-Nat.add_mul];congr 1;omega
   omega
  .rw[List.getElem?_drop] at q
   have:=H _ _ q
   rwa [Nat.add_mul,<-Nat.add_assoc] at this
 .left
  by_cases f:c=l
  .rw[if_pos f];cases a<;>rfl
  .rw[if_neg f]
   cases a with
   | none=>rfl
   | some a=>simp only[Option.map_some,Value.ownBlock,K0]
theorem Q66 {t ty:TypeId} {V:Nat} {z:Value} {cs:List Bool} [ts:TS P t e] [tz:TZ P e sz V z] [hr:Rep R] (X:X7 w σ) (hB:B<=w.heap.size) (ha:V6 B e sz R σ w v xs) (H:Sl sz R σ u ys) (hz:(z.cells.size==sz&&decide (0<sz))=true)
 (Q:(xs.length+ys.length)*V<=140737488355328) (hm:xs.length+ys.length<=1000000000000)
 (h: ∀s w',Kpt (fun k=>v.ownBlock=some k/\B<=k/\σ k=none) w w'->X7 w' σ->V6 B e sz R σ w' s (xs++ys)->((∃a m,v= .slice a xs.length m/\s= .slice a (xs.length+ys.length) m)\/(Below w.heap.size w w'/\ ∀k,s.ownBlock=some k->w.heap.size<=k))->K s w'):V0 P .append [t,t] ty cs [v,u] w K:=by
 obtain ⟨y,c,rfl,c1,c2,A,c3⟩:=ha;obtain ⟨a,m,d,rfl,n1,n2,n3,n4,n5⟩:=H.cells X;obtain ⟨i,hi,E,am,O⟩:=tz.info;simp only[Bool.and_eq_true,beq_iff_eq,decide_eq_true_eq] at hz;obtain ⟨aw,bf⟩:=hz
 have J: ∀s w',(Builtin.append_ #[t,t] ty #[.slice y xs.length c, .slice a ys.length m]).run P w= .ok s w'->Kpt (fun k=>(Value.slice y xs.length c).ownBlock=some k/\B<=k/\σ k=none) w w'->V6 B e sz R σ w' s (xs++ys)->((∃a m,(Value.slice y xs.length c)= .slice a xs.length m/\s= .slice a (xs.length+ys.length) m)\/(Below w.heap.size w w'/\ ∀k,s.ownBlock=some k->w.heap.size<=k))->V0 P .append [t,t] ty cs [.slice y xs.length c, .slice a ys.length m] w K:=by
  intro s w' D hk hq al
  have N:(builtin .append #[t,t] ty cs.toArray #[.slice y xs.length c, .slice a ys.length m]).run P w= .ok (.value s) w':=by
   simp[builtin,D]
  unfold V0;rw[Yw];unfold Yd;rw[N];exact h s w' hk (fun k o ho=>by rw[hk.block k (X.lt ho) fun e=>by rw[e.2.2] at ho;cases ho];exact X k o ho) hq al
 have q:Src P i.size t (.slice a ys.length m) ys.length d w:=by
  cases a with
  | some b=>exact Src.ofSlice w ts.h b ys.length m d (by rw[E];exact n2) (n3 b rfl) n4
  | none=>
   have hy:ys.length=0:=by
    obtain ⟨a',a2,e',q1,_,q3,_⟩:=H;injection e' with e1 e2 e3;have:=n1 rfl;omega
   have hn:d=[]:=List.eq_nil_of_length_eq_zero (by rw[n2,hy];simp)
   subst hn;rw[hy];exact Src.ofNil w ts.h m
 by_cases r:xs.length+ys.length<=c
 .by_cases L:c=0
  ·-- nothing at all
   subst L;have p:xs=[]:=List.eq_nil_of_length_eq_zero Q5;have hy:ys=[]:=List.eq_nil_of_length_eq_zero Q5;subst p hy;have hn:d=[]:=List.eq_nil_of_length_eq_zero (by simpa using n2)
   subst hn;refine J (.slice y 0 0) w ?_ Kpt.refl ⟨y,0,rfl,by simp,by simp,A,fun h=>by omega⟩ (.inl ⟨_,_,rfl,rfl⟩)
   have hl:=q.len w;have C:=q.cells;simp only[List.length_nil] at hl C⊢;cases y<;>simp[Builtin.append_,run_underlying ts.h,sizeOf,typeInfo,hi,hl,C,storeCells]
  .obtain ⟨g,l,f,rfl,q1,q2,q3,q4,q5⟩:=c3 Q5
   have e1:(xs.length+ys.length)*sz<=c*sz:=Nat.mul_le_mul_right _ r;rw[Nat.add_mul] at e1;have Y:=run_storeCells_at P g (l+xs.length*sz) e d 0 f w q3 Q5 n4;simp only[Nat.add_zero] at Y;obtain ⟨Z,av⟩:=Rc (cs:=(f.toList.take (l+xs.length*sz)++d++f.toList.drop (l+xs.length*sz+d.length)).toArray) q3;refine J (.slice (some ⟨g,l,none⟩) (xs.length+ys.length) c) _ ?_ (Kpt.of_upd Z ⟨rfl,q1,q2⟩) ?_ (.inl ⟨_,_,rfl,rfl⟩)
   .have hl:=q.len w
    have C:=q.cells;rw[E] at C
    simp[Builtin.append_,run_underlying ts.h,sizeOf,typeInfo,hi,hl,C,E,r,Addr.add_lit,Y]
   .refine ⟨_,c,by rw[List.length_append],by rw[List.length_append];exact r,c2,fun b Q=>⟨(A b Q).1,(A b Q).2.1,by rw[Z.size];exact (A b Q).2.2.1,(A b Q).2.2.2⟩,fun _=>⟨g,l,_,rfl,q1,q2,av,?_,fun j x p=>?_⟩⟩
    .simp;omega
    .by_cases U:j<xs.length
     .rw[List.getElem?_append_left U] at p
      have:=q5 j x p;have hh:j*sz+sz<=xs.length*sz:=by rw[<-Nat.succ_mul];exact Nat.mul_le_mul_right _ U
      have e2:((f.toList.take (l+xs.length*sz)++d++f.toList.drop (l+xs.length*sz+d.length)).toArray.toList.drop (l+j*sz)).take sz=(f.toList.drop (l+j*sz)).take sz:=by
       rw[List.toList_toArray,List.append_assoc];rw[List.drop_append_of_le_length (by rw[List.length_take,Array.length_toList (xs:=f)];omega),List.take_append_of_le_length (by rw[List.length_drop,List.length_take,Array.length_toList (xs:=f)];omega),List.drop_take,List.take_take]
       congr 1;omega
      rw[e2];exact this
     .rw[List.getElem?_append_right Q5] at p
      have:=n5 _ _ p;have aq:j-xs.length<ys.length:=(List.getElem?_eq_some_iff.1 p).1;have hh:(j-xs.length)*sz+sz<=ys.length*sz:=by rw[<-Nat.succ_mul];exact Nat.mul_le_mul_right _ aq
      have bd:j*sz=xs.length*sz+(j-xs.length)*sz:=by rw[<-Nat.add_mul];congr 1;omega
      have e2:((f.toList.take (l+xs.length*sz)++d++f.toList.drop (l+xs.length*sz+d.length)).toArray.toList.drop (l+j*sz)).take sz=(d.drop ((j-xs.length)*sz)).take sz:=by
       rw[List.toList_toArray,List.append_assoc]
       rw[List.drop_append,List.drop_eq_nil_of_le (by rw[List.length_take,Array.length_toList (xs:=f)];omega),List.nil_append,List.length_take,Array.length_toList (xs:=f),
        show l+j*sz-min (l+xs.length*sz) f.size=(j-xs.length)*sz by omega,
        List.drop_append_of_le_length Q5,List.take_append_of_le_length (by rw[List.length_drop];omega)]
      rw[e2];exact this
 ·-- a new row
  have M: ∃n:List Value,n.length=xs.length*sz/\(Builtin.firstCells i.size xs.length (.slice y xs.length c)).run P w.drew= .ok n.toArray w.drew/\ ∀j x,xs[j]? =some x->R σ x ((n.drop (j*sz)).take sz):=by
   by_cases L:c=0
   .subst L
    have p:xs=[]:=List.eq_nil_of_length_eq_zero Q5;subst p;refine ⟨[],by simp,?_,by simp⟩
    cases y with
    | none=>exact run_firstCells_none w.drew i.size 0 0 0
    | some a'=>exact run_firstCells_some w.drew i.size 0 a' 0 0 [] U5 (by intro _ _ h';simp at h')
   .obtain ⟨g,l,f,rfl,q1,q2,q3,q4,q5⟩:=c3 Q5
    have e1:xs.length*sz<=c*sz:=Nat.mul_le_mul_right _ c1;refine ⟨(f.toList.drop l).take (xs.length*sz),by rw[List.length_take,List.length_drop,Array.length_toList (xs:=f)];omega,?_,fun j x p=>?_⟩
    .refine run_firstCells_some w.drew i.size xs.length ⟨g,l,none⟩ xs.length c _ (by rw[List.length_take,List.length_drop,Array.length_toList (xs:=f),E];omega) (fun j u H=>?_)
     rw[List.getElem?_take] at H
     split at H
     .rw[List.getElem?_drop] at H
      have ay:w.drew.heap[g]? =some (.cells f e (0,0)):=q3;unfold World.cell?;rw[K0,Za,Qz rfl];simp only[ay]
      simpa using H
     .cases H
    .have U:j<xs.length:=(List.getElem?_eq_some_iff.1 p).1
     have hh:j*sz+sz<=xs.length*sz:=by rw[<-Nat.succ_mul];exact Nat.mul_le_mul_right _ U
     have:=q5 j x p;rw[List.drop_take,List.take_take,List.drop_drop,show min sz (xs.length*sz-j*sz)=sz by omega]
     exact this
  obtain ⟨n,o1,o2,o3⟩:=M;have hg:c<xs.length+ys.length:=by omega
  have D:=run_append_grow_src (P:=P) w t t ty e i z ts.h hi O y xs.length c n o2 (.slice a ys.length m) ys.length d q hg Q5 (growslice_fits hg (by rw[am];exact Q))
  have an:=grownCap_le_maxLen w (xs.length+ys.length) c e (by simp only[maxLen];omega)
  have ao:=grownCap_ge w (xs.length+ys.length) c e;have hL:(n++d).length=(xs.length+ys.length)*sz:=by rw[List.length_append,o1,n2,Nat.add_mul]
  refine J _ _ D ?_ ?_ (.inr ⟨(Below.refl _ _).drew.alloc (Nat.le_refl _) _,by intro k hk;cases hk;exact Nat.le_refl _⟩)
  .exact Kpt.of_below ((Below.refl _ _).drew.alloc (Nat.le_refl _) _)
  .refine ⟨_,_,by rw[List.length_append],by rw[List.length_append];exact ao,an,by rintro _ ⟨⟩;exact ⟨rfl,hB,(Array.getElem?_eq_some_iff.1 (heap_alloc_new w.drew _)).1,X.none (Nat.le_refl _)⟩,fun _=>⟨w.heap.size,0,_,rfl,hB,X.none (Nat.le_refl _),heap_alloc_new w.drew _,?_,fun j x p=>?_⟩⟩
   .rw[Array.size_append,List.size_toArray,hL,size_zeroCells,aw,<-Nat.add_mul]
    rw[Nat.zero_add];exact Nat.mul_le_mul_right _ Q5
   .rw[Nat.zero_add,Array.toList_append]
    have U:j<xs.length+ys.length:=by have:=(List.getElem?_eq_some_iff.1 p).1;rwa [List.length_append] at this
    have hh:j*sz+sz<=(xs.length+ys.length)*sz:=by rw[<-Nat.succ_mul];exact Nat.mul_le_mul_right _ U
    rw[List.drop_append_of_le_length (by simp only[List.toList_toArray];omega),List.take_append_of_le_length (by rw[List.length_drop];simp only[List.toList_toArray];omega)]
    simp only[List.toList_toArray]
    by_cases W:j<xs.length
    .rw[List.getElem?_append_left W] at p
     rw[Oq n d xs.length j o1 W];exact o3 j x p
    .rw[List.getElem?_append_right Q5] at p
     have:=n5 _ _ p;rw[show j*sz=n.length+(j-xs.length)*sz by rw[o1,<-Nat.add_mul];congr 1;omega,List.drop_append]
     simpa [List.drop_eq_nil_of_le] using this
theorem C6 {b:Nat} (h:w1.heap.size<=b) (k:Stp w σ w1 σ1):w.heap.size<=b:=Nat.le_trans k.bel.size h
theorem D3 {t:TypeId} {sz a:Nat} {z:Value} [tz:TZ P t sz a z] (g:X7 w σ) (h: ∀b w' σ',w.heap.size<=b->Stp w σ w' σ'->Y8 σ' w' b z.cells.toList->K (.pointer (some ⟨b,0,none⟩)) w'):G9 P t w K:=
 Q0g g fun b w' c d f=>h b w' σ c d f
theorem Rd {t:TypeId} {cs:List Value} (f:X7 w σ) (h: ∀b w' σ',w.heap.size<=b->Stp w σ w' σ'->Y8 σ' w' b cs->K (.pointer (some ⟨b,0,none⟩)) w'):box P t (.agg cs.toArray) w K:=
 Q8I f fun b w' a c d=>h b w' σ a c (by simpa [Value.cells] using d)
theorem Qs {t:TypeId} {sz a:Nat} {z:Value} [tz:TZ P t sz a z] {b:Nat} {cs ds:List Value} (d:Y8 σ w b cs) (g:Stp w0 σ0 w σ) (i:w0.heap.size<=b) (k:cs.length=sz) (j:ds.length=sz) (f: ∀u∈ds,u.oneCell'=true)
 (h: ∀w',Hst w0 σ0 w' σ->Y8 σ w' b ds->K undef w'):J9 P t (.pointer (some ⟨b,0,none⟩)) (.agg ds.toArray) w K:=
 Vk d k j (by rw[List.all_toArray];exact List.all_eq_true.2 f) fun w' l c=>h w' ⟨l.stp g i d.1⟩ c
structure Nxt (D : Nat -> Prop) (w : World) (σ : Q2) (w' : World) (σ' : Q2) : Prop where
  kp : Kpt D w w'
  le : SLe σ σ'
  old : ∀ k, k < w.heap.size -> σ' k = σ k
  sat : X7 w' σ'
theorem Nxt.of_stp {D:Nat->Prop} (h:Stp w σ w' σ'):Nxt D w σ w' σ':=⟨Kpt.of_below h.bel,⟨h.le⟩,h.old,h.sat⟩
theorem Nxt.mono {D a:Nat->Prop} (h:Nxt D w σ w' σ') (b: ∀k,k<w.heap.size->D k->a k):Nxt a w σ w' σ':=⟨h.kp.mono b,h.le,h.old,h.sat⟩
theorem Nxt.trans {D:Nat->Prop} (h:Nxt D w σ w' σ') (k:Nxt D w' σ' w'' σ1):Nxt D w σ w'' σ1:=
 ⟨h.kp.trans k.kp,h.le.more k.le,fun i a=>(k.old i (Nat.lt_of_lt_of_le a h.kp.size)).trans (h.old i a),k.sat⟩
theorem Y8.nx {D:Nat->Prop} {b:Nat} {cs:List Value} (h:Y8 σ w b cs) (k:Nxt D w σ w' σ') (f: ¬D b):Y8 σ' w' b cs:=by
 have a:=h.lt;obtain ⟨c,e,d⟩:=h;exact ⟨(k.old b a).trans c,e,(k.kp.block b a f).trans d⟩
theorem P3.nx {D:Nat->Prop} {r:Nat} {m:List (List UInt8×Value)} (h:P3 σ w r m) (k:Nxt D w σ w' σ') (a: ¬D r):P3 σ' w' r m:=
 ⟨(k.old r h.lt).trans h.1,(k.kp.block r h.lt a).symm▸h.2⟩
variable {x : α}
theorem W7.nx [hr:Rep R] {D:Nat->Prop} (h:W7 B e sz R σ w v xs) (k:Nxt D w σ w' σ') (g: ∀k,v.ownBlock=some k-> ¬D k):W7 B e sz R σ' w' v xs:=by
 have b:=h.kp k.kp g;obtain ⟨cells,c,d,f⟩:=b;refine ⟨cells,c,fun i a=>(k.old i (h.mem i a).2.1).trans (d i a),fun i x j=>hr.up k.le.le (f i x j)⟩
theorem V6.nx [hr:Rep R] {D:Nat->Prop} (h:V6 B e sz R σ w v xs) (k:Nxt D w σ w' σ') (s: ∀k,v.ownBlock=some k-> ¬D k):V6 B e sz R σ' w' v xs:=by
 obtain ⟨a,f,rfl,o,p,c,q⟩:=h;refine ⟨a,f,rfl,o,p,fun b d=>⟨(c b d).1,(c b d).2.1,Nat.lt_of_lt_of_le (c b d).2.2.1 k.kp.size,(k.old _ (c b d).2.2.1).trans (c b d).2.2.2⟩,fun r=>?_⟩;obtain ⟨g,l,j,rfl,y,z,n,A,C⟩:=q r;have m:=(Array.getElem?_eq_some_iff.1 n).1;exact ⟨g,l,j,rfl,y,(k.old g m).trans z,(k.kp.block g m (s g rfl)).trans n,A,fun i x t=>hr.up k.le.le (C i x t)⟩
theorem Lz {t E:TypeId} {c:Nat} {z:Value} {cs:List Bool} {A:Value->Value->World->Prop} [ts:TS P t e] [tz:TZ P e sz c z] [hr:Rep R] (m:Stp w0 σ0 w σ) (o:W7 w0.heap.size e sz R σ w v xs) (C:R σ x u.cells.toList) (q:u.cells.size=sz) (D:(z.cells.size==sz&&decide (0<sz))=true) (l:(decide (0<sz)&&decide ([u].length*sz<=16777216))=true)
 (p:(xs.length+1)*c<=140737488355328) (y:xs.length+1<=9223372036854775807)
 (h: ∀s b w' σ',Nxt (fun k=>v.ownBlock=some k) w σ w' σ'->Stp w0 σ0 w' σ'->W7 w0.heap.size e sz R σ' w' b (xs++[x])->(b.ownBlock=v.ownBlock\/ ∀k,b.ownBlock=some k->w.heap.size<=k)->A s b w'):
 buildSlice P t 1 [(0,u)] w (fun s w=>V0 P .append [t,t] E cs [v,s] w (fun b w=>A s b w)):=by
 refine P4 m.sat [u] [x] rfl rfl (by simpa using q) l ⟨C,trivial⟩ fun s w1 σ1 a j=>?_
 refine app (m.trans a) (o.up a) j D (by simpa using p) (by simpa using y) fun b n r d f hat=>?_
 have i:Kpt (fun k=>v.ownBlock=some k) w n:=(Kpt.of_below a.bel).trans (Kpt.of_grown r fun k a=>a);refine h s b n σ1 ⟨i,⟨a.le⟩,a.old,d.sat⟩ d f ?_
 rcases hat with hat | hat
 .exact .inl hat
 .exact .inr fun k g=>Nat.le_trans a.bel.size (hat k g)
theorem Jm {t q:TypeId} {b:Nat} {z:Value} {cs:List Bool} {ys:List α} [ts:TS P t e] [tz:TZ P e sz b z] [hr:Rep R] (g:Stp w0 σ0 w σ) (i:W7 w0.heap.size e sz R σ w v xs) (o:Sl sz R σ u ys) (p:(z.cells.size==sz&&decide (0<sz))=true)
 (j:(xs.length+ys.length)*b<=140737488355328) (n:xs.length+ys.length<=9223372036854775807)
 (h: ∀a w',Nxt (fun k=>v.ownBlock=some k) w σ w' σ->Stp w0 σ0 w' σ->W7 w0.heap.size e sz R σ w' a (xs++ys)->(a.ownBlock=v.ownBlock\/ ∀k,a.ownBlock=some k->w.heap.size<=k)->K a w'):V0 P .append [t,t] q cs [v,u] w K:=
 app g i o p j n fun a r l c d f=>h a r ⟨Kpt.of_grown l fun k m=>m,SLe.refl _,fun _ _=>rfl,c.sat⟩ c d f
theorem V6.mono {k:Nat} (h:V6 B e sz R σ w v xs) (l:k<=B):V6 k e sz R σ w v xs:=by
 obtain ⟨a,f,rfl,m,n,d,o⟩:=h;refine ⟨a,f,rfl,m,n,fun b c=>⟨(d b c).1,Nat.le_trans l (d b c).2.1,(d b c).2.2⟩,fun p=>?_⟩;obtain ⟨g,j,i,rfl,r,q⟩:=o p;exact ⟨g,j,i,rfl,Nat.le_trans l r,q⟩
theorem V6.own (h:V6 B e sz R σ w v xs) {k:Nat} (a:v.ownBlock=some k):B<=k:=(h.mem a).1
theorem V6.keep [hr:Rep R] (h:V6 w0.heap.size e sz R σ w v xs) (n:Stp w0 σ0 w σ): ∃σ',Stp w0 σ0 w σ'/\Sl sz R σ' v xs/\SLe σ σ'/\(∀k,some k≠v.ownBlock->σ' k=σ k):=by
 obtain ⟨a,f,rfl,r,s,o,t⟩:=h
 by_cases z:f=0
 .have m:xs=[]:=List.eq_nil_of_length_eq_zero Q5
  subst z m;exact ⟨σ,n,⟨a,0,rfl,by simp,by simp,fun _=>rfl,fun b y=>⟨fun _=>(o b y).1,by simp⟩⟩,SLe.refl _,fun _ _=>rfl⟩
 .obtain ⟨g,p,c,rfl,C,q,D,J,E⟩:=t Q5
  have d:=Q2.put_le n.sat q (.cells c e (0,0));refine ⟨σ.put g (.cells c e (0,0)),n.put q C D,⟨_,f,rfl,r,s,by simp,?_⟩,⟨d⟩,?_⟩
  .rintro _ ⟨⟩
   refine ⟨fun _=>rfl,fun i x m=>⟨(c.toList.drop (p+i*sz)).take sz,⟨Qz rfl _,c,e,(0,0),by rw[K0];simp[Q2.put],?_⟩,?_,hr.up d (E i x m)⟩⟩
   .intro j u l
    rw[Za];rw[List.getElem?_take] at l
    split at l
    .rw[List.getElem?_drop] at l;simpa using l
    .cases l
   .have H:i<xs.length:=(List.getElem?_eq_some_iff.1 m).1
    have h:i*sz+sz<=f*sz:=by rw[<-Nat.succ_mul];exact Nat.mul_le_mul_right _ Q5
    rw[List.length_take,List.length_drop,Array.length_toList (xs:=c)];omega
  .intro k A
   have:k≠g:=by intro e;subst e;exact A rfl
   simp only[Q2.put,if_neg this]
theorem Q67 {t U:TypeId} {C:Nat} {z:Value} {A:Value->Value->World->Prop} {ds:List Value} [ts:TS P t e] [tz:TZ P e sz C z] {s:Nat} {z':Value} [tz':TZ P U sz s z'] (Z:Stp w0 σ0 w σ) (ha:V6 w0.heap.size e sz R σ w v xs) {n:Nat} (hn:n<xs.length) (D:ds.length=sz) (hx:R σ x ds) (Y: ∀u∈ds,u.oneCell'=true)
 (h: ∀p u w',Kpt (fun k=>v.ownBlock=some k) w w'->Hst w0 σ0 w' σ->V6 w0.heap.size e sz R σ w' v (xs.set n x)->A p u w'):
 indexAddr P t v (I n) w (fun p w=>J9 P U p (.agg ds.toArray) w (fun u w=>A p u w)):=by
 obtain ⟨a,f,rfl,V,W,i,X⟩:=ha;obtain ⟨g,c,d,rfl,N,O,Q,q4,q5⟩:=X Q5;rw[Ih Q5 Q5];have hh:n*sz+sz<=f*sz:=by rw[<-Nat.succ_mul];exact Nat.mul_le_mul_right _ Q5
 have m:(⟨g,c,none⟩:Addr).add ((n:Int).toNat*sz)=⟨g,c+n*sz,none⟩:=by unfold Addr.add;split<;>simp_all
 rw[m];have o:=run_storeCells_at P g (c+n*sz) e ds 0 d w Q Q5 Y;simp only[Nat.add_zero] at o;obtain ⟨l,L⟩:=Rc (cs:=(d.toList.take (c+n*sz)++ds++d.toList.drop (c+n*sz+ds.length)).toArray) Q;unfold J9
 rw[Jy (w':=w.setRow g (d.toList.take (c+n*sz)++ds++d.toList.drop (c+n*sz+ds.length)).toArray) (by
  simp[Instr.storeAt,Instr.sureAddr,storeVar,E8 tz',Value.cells,D]
  simpa [D] using o)]
 have hk:Kpt (fun k=>(Value.slice (some ⟨g,c,none⟩) xs.length f).ownBlock=some k) w (w.setRow g (d.toList.take (c+n*sz)++ds++d.toList.drop (c+n*sz+ds.length)).toArray):=Kpt.of_upd l rfl;refine h _ _ _ hk ⟨l.stp Z N O⟩ ⟨_,f,by rw[List.length_set],by rw[List.length_set];exact V,W,fun b r=>⟨(i b r).1,(i b r).2.1,by rw[l.size];exact (i b r).2.2.1,(i b r).2.2.2⟩,fun _=>⟨g,c,_,rfl,N,O,L,?_,fun j y q=>?_⟩⟩
 .simp;omega
 .rw[List.toList_toArray]
  have ab:=Array.length_toList (xs:=d);have H:j<xs.length:=by have:=(List.getElem?_eq_some_iff.1 q).1;simpa using this
  have ac:j*sz+sz<=f*sz:=by rw[<-Nat.succ_mul];exact Nat.mul_le_mul_right _ Q5
  by_cases M:j=n
  .subst M
   rw[List.getElem?_set_self H] at q;cases q;rw[List.append_assoc,List.drop_append,List.drop_eq_nil_of_le (by rw[List.length_take];omega),List.nil_append,List.length_take,show c+j*sz-min (c+j*sz) d.toList.length=0 by omega,List.drop_zero,List.take_append_of_le_length Q5,List.take_of_length_le Q5]
   exact hx
  .rw[List.getElem?_set_ne Q5] at q
   have:=q5 j y q
   rcases Nat.lt_or_gt_of_ne M with J | hgt
   .have E:j*sz+sz<=n*sz:=by rw[<-Nat.succ_mul];exact Nat.mul_le_mul_right _ J
    rw[List.append_assoc,List.drop_append_of_le_length (by rw[List.length_take];omega),List.take_append_of_le_length (by rw[List.length_drop,List.length_take];omega),List.drop_take,List.take_take]
    rwa [show min sz (c+n*sz-(c+j*sz))=sz by omega]
   .have E:n*sz+sz<=j*sz:=by rw[<-Nat.succ_mul];exact Nat.mul_le_mul_right _ hgt
    rw[List.drop_append,List.drop_eq_nil_of_le (by rw[List.length_append,List.length_take];omega),List.nil_append,List.length_append,List.length_take,List.drop_drop,D]
    rwa [show c+n*sz+sz+(c+j*sz-(min (c+n*sz) d.toList.length+sz))=c+j*sz by omega]
theorem Q96 (p:Nat->Prop): ∀n,p n-> ∃m,p m/\ ∀k,p k->m<=k:=by
 intro n
 induction n using Nat.strongRecOn with
 | _ n g=>
  intro h
  by_cases b: ∃k,k<n/\p k
  .obtain ⟨k,c,d⟩:=b;exact g k c d
  .exact ⟨n,h,fun k f=>Nat.le_of_not_lt fun a=>b ⟨k,a,f⟩⟩
noncomputable def Q46 (p:Nat->Prop):Nat:=open Classical in if h: ∃m,p m/\ ∀k,p k->m<=k then Classical.choose h else 0
theorem Q39 {p:Nat->Prop} {n:Nat} (h:p n):p (Q46 p)/\Q46 p<=n:=by
 have a:=Q96 p n h;unfold Q46;rw[dif_pos a];exact ⟨(Classical.choose_spec a).1,(Classical.choose_spec a).2 n h⟩
theorem Q0y {α:Type} {x0:α} {A:(α->World->Prop)->α->(Nat->Value)->World->Prop} (I:Nat->α->World->Prop) (n:Nat) (h:I n x0 w)
 (k: ∀a n x d w,I n x w->(∀b c w',b<n->I b c w'->a c w')->A a x d w):lp x0 w A:=by
 refine Of (fun x w=> ∃n,I n x w) (fun x w=>Q46 fun n=>I n x w) ⟨n,h⟩ ?_;rintro x d w ⟨n,j⟩;obtain ⟨i,l⟩:=Q39 (p:=fun n=>I n x w) j;refine k _ _ x d w i fun b c w' f g=>⟨⟨b,g⟩,?_⟩;exact Nat.lt_of_le_of_lt (Q39 (p:=fun n=>I n c w') g).2 f
theorem V6.below (h:V6 B e sz R σ w v xs) (a:Below w.heap.size w w'):V6 B e sz R σ w' v xs:=h.kp (D:=fun _=>False) (.of_below a) fun _ _=>id
theorem V6.pre {a:Option Addr} {n m b:Nat} (h:V6 B e sz R σ w (.slice a m b) (xs++ys)) (y:n=xs.length):V6 B e sz R σ w (.slice a n b) xs:=by
 obtain ⟨J,j,t,p,q,d,r⟩:=h
 injection t with l e2 o
 subst l o y;rw[List.length_append] at p;refine ⟨a,b,rfl,by omega,q,d,fun s=>?_⟩
 obtain ⟨g,f,c,z,A,C,D,E,H⟩:=r s;exact ⟨g,f,c,z,A,C,D,E,fun i x k=>H i x (by rw[List.getElem?_append_left (List.getElem?_eq_some_iff.1 k).1];exact k)⟩
def Tw (B:Nat) (e:TypeId) (sz:Nat) (R:Q2->α->List Value->Prop) (σ:Q2) (v:Value) (xs:List α) (x:α) (w1 c:World):Prop:=
 Kpt (fun k=>v.ownBlock=some k) w1 c/\(V6 B e sz R σ w1 v xs->V6 B e sz R σ c v xs)/\
  ∀a b,v= .slice a xs.length b->V6 B e sz R σ w1 (.slice a (xs.length+1) b) (xs++[x])->V6 B e sz R σ c (.slice a (xs.length+1) b) (xs++[x])
theorem Tw.below (a:Below w.heap.size w w'):Tw B e sz R σ v xs x w w':=⟨.of_below a,fun h=>h.below a,fun _ _ _ h=>h.below a⟩
theorem Tw.refl:Tw B e sz R σ v xs x w w:=Tw.below (Below.refl _ _)
def VQa (N B:Nat) (e:TypeId) (sz:Nat) (R:Q2->α->List Value->Prop) (σ:Q2) (v:Value) (xs:List α) (x:α) (c:Value) (w:World):Prop:=
 V6 B e sz R σ w c (xs++[x])/\((∃a b,v= .slice a xs.length b/\c= .slice a (xs.length+1) b)\/((∀k,c.ownBlock=some k->N<=k)/\ ∀k,v.ownBlock=some k->k<N))
theorem VQa.stable {N:Nat} {j:Value} (h:VQa N B e sz R σ v xs x j w) (i:Tw B e sz R σ v xs x w w'):VQa N B e sz R σ v xs x j w':=by
 obtain ⟨g,b⟩:=h;refine ⟨?_,b⟩
 rcases b with ⟨a,c,d,rfl⟩ | ⟨b,d⟩
 .exact i.2.2 a c d g
 .exact g.kp i.1 fun k l f=>by have:=b k l;have:=d k f;omega
theorem Kpt.more {D E:Nat->Prop} (h:Kpt D w w') (k:Kpt E w' w'') (hE: ∀j,E j->w.heap.size<=j):Kpt D w w'':=
 ⟨k.os.trans h.os,k.tape.trans h.tape,k.output.trans h.output,Nat.le_trans h.size k.size,fun i a b=>(k.block i (Nat.lt_of_lt_of_le a h.size) fun e=>by have:=hE i e;omega).trans (h.block i a b)⟩
end Go.Emb
namespace Go.Hm
open Go.Kd
theorem O9 {l:List Cla} {n:X2} {c:Cla} (h:lk l n=some c):c.name=n/\c∈l/\ ∃i,U1 l n=some i/\l[i]? =some c:=by
 unfold lk at h;cases a:U1 l n with
 | none=>rw[a] at h;cases h
 | some i=>
  rw[a] at h;obtain ⟨b,e,_⟩:=List.findIdx?_eq_some_iff_getElem.1 a;have d:l[i]? =some c:=h;rw[List.getElem?_eq_getElem b] at d;cases d;exact ⟨by simpa using e,List.getElem_mem b,i,rfl,List.getElem?_eq_getElem b⟩
theorem Vp {l:List Cla} {n:X2} {i:Nat} (h:U1 l n=some i): ∃c,lk l n=some c/\l[i]? =some c/\c.name=n:=by
 obtain ⟨a,b,_⟩:=List.findIdx?_eq_some_iff_getElem.1 h;refine ⟨l[i],?_,List.getElem?_eq_getElem a,by simpa using b⟩
 unfold lk;rw[h];simp[a]
theorem Q43 {l:List Cla} {n:X2}:Q35 l n=(lk l n).isSome:=by
 unfold Q35;cases a:U1 l n with
 | none=>simp[lk,a]
 | some i=>obtain ⟨c,h,_⟩:=Vp a;simp[h]
theorem X3V {l:List Cla} {c:Cla} (h:c∈l): ∃d,lk l c.name=some d:=by
 cases a:U1 l c.name with
 | none=>
  have:=List.findIdx?_eq_none_iff.1 a c h
  simp at this
 | some i=>obtain ⟨d,h,_⟩:=Vp a;exact ⟨d,h⟩
inductive Reach (L : Oj) : X2 -> X2 -> Prop
  | refl {a : X2} {c : Cla} : L a = some c -> Reach L a a
  | step {a u b : X2} {c : Cla} : L a = some c -> u ∈ M6 c -> Reach L u b -> Reach L a b
theorem Reach.trans {L:Oj} {a b d:X2} (h:Reach L a b) (k:Reach L b d):Reach L a d:=by
 induction h with
 | refl _=>exact k
 | step c e _ f=>exact .step c e (f k)
theorem Reach.right {L:Oj} {a b:X2} (h:Reach L a b): ∃c,L b=some c:=by
 induction h with
 | refl h=>exact ⟨_,h⟩
 | step _ _ _ d=>exact d
theorem Reach.left {L:Oj} {a b:X2} (h:Reach L a b): ∃c,L a=some c:=by
 cases h with
 | refl h=>exact ⟨_,h⟩
 | step h _ _=>exact ⟨_,h⟩
theorem Q3R (L:Oj): ∀(f:Nat) (a b:List X2),∃r,Mk L f a b=b++r:=by
 intro f
 induction f with
 | zero=>intro a b;exact ⟨[],by simp[Mk]⟩
 | succ f c=>
  intro a b;cases a with
  | nil=>exact ⟨[],by simp[Mk]⟩
  | cons n a=>
   simp only[Mk]
   split
   .exact c _ _
   .split
    .exact c _ _
    .obtain ⟨r,d⟩:=c (a++M6 ‹_›) (b++[n])
     exact ⟨n::r,by rw[d];simp⟩
theorem X3d (L:Oj): ∀(f:Nat) (a b:List X2) (x:X2),x∈Mk L f a b->x∈b\/ ∃t∈a,Reach L t x:=by
 intro f
 induction f with
 | zero=>intro a b x h;exact .inl h
 | succ f d=>
  intro a b x h;cases a with
  | nil=>exact .inl h
  | cons n a=>
   simp only[Mk] at h
   split at h
   .rcases d _ _ _ h with h | ⟨t,ht,h⟩
    .exact .inl h
    .exact .inr ⟨t,by simp[ht],h⟩
   .rename_i c e
    split at h
    .rcases d _ _ _ h with h | ⟨t,ht,h⟩
     .exact .inl h
     .exact .inr ⟨t,by simp[ht],h⟩
    .rcases d _ _ _ h with h | ⟨t,ht,h⟩
     .rcases List.mem_append.1 h with h | h
      .exact .inl h
      .simp at h;subst h;exact .inr ⟨x,by simp, .refl e⟩
     .rcases List.mem_append.1 ht with ht | ht
      .exact .inr ⟨t,by simp[ht],h⟩
      .exact .inr ⟨n,by simp, .step e ht h⟩
theorem X5J (l:List Cla) (a b:List X2) (h: ∀x∈a,x∈b):weigh l b<=weigh l a:=by
 unfold weigh
 induction l with
 | nil=>simp
 | cons c r e=>
  simp only[List.map_cons,List.sum_cons]
  by_cases d:c.name∈a
  .rw[if_pos d,if_pos (h _ d)];omega
  .rw[if_neg d];split<;>omega
theorem Q1B (l:List Cla) (a:List X2) (c:Cla) (hc:c∈l) (f:c.name∉a):weigh l (a++[c.name])+(M6 c).length<=weigh l a:=by
 unfold weigh
 induction l with
 | nil=>simp at hc
 | cons d r h=>
  simp only[List.map_cons,List.sum_cons];have e:weigh r (a++[c.name])<=weigh r a:=X5J _ _ _ (by simp;intro x g;exact .inl g)
  unfold weigh at e
  rcases List.mem_cons.1 hc with rfl | hc
  .rw[if_pos (by simp),if_neg f];omega
  .have:=h hc
   by_cases b:d.name∈a
   .rw[if_pos (by simp[b]),if_pos b];omega
   .rw[if_neg b];split<;>omega
theorem X4J (l:List Cla): ∀(f:Nat) (a b:List X2),a.length+weigh l b<=f->
 (∀x∈b,∀c,lk l x=some c-> ∀u∈M6 c,∀d,lk l u=some d->u∈b\/u∈a)->
 (∀t∈a,∀d,lk l t=some d->t∈Mk (lk l) f a b)/\ ∀x∈Mk (lk l) f a b,∀c,lk l x=some c-> ∀u∈M6 c,∀d,lk l u=some d->u∈Mk (lk l) f a b:=by
 intro f
 induction f with
 | zero=>
  intro a b w o;have:a=[]:=List.eq_nil_of_length_eq_zero (by omega)
  subst this;refine ⟨by simp,fun x hx c i u j d g=>?_⟩
  rcases o x hx c i u j d g with h | h
  .exact h
  .simp at h
 | succ f v=>
  intro a b w o;cases a with
  | nil=>
   refine ⟨by simp,fun x hx c i u j d g=>?_⟩
   rcases o x hx c i u j d g with h | h
   .exact h
   .simp at h
  | cons n a=>
   simp only[List.length_cons] at w;simp only[Mk]
   split
   .rename_i y
    obtain ⟨p,q⟩:=v a b (by omega) (fun x hx c i u j d g=>by
     rcases o x hx c i u j d g with h | h
     .exact .inl h
     .rcases List.mem_cons.1 h with rfl | h
      .rw[y] at g;cases g
      .exact .inr h)
    refine ⟨fun t ht d g=>?_,q⟩
    rcases List.mem_cons.1 ht with rfl | ht
    .rw[y] at g;cases g
    .exact p t ht d g
   .rename_i c i
    split
    .rename_i k
     obtain ⟨r,s⟩:=Q3R (lk l) f a b
     obtain ⟨p,q⟩:=v a b (by omega) (fun x hx c i u j d g=>by
      rcases o x hx c i u j d g with h | h
      .exact .inl h
      .rcases List.mem_cons.1 h with rfl | h
       .exact .inl k
       .exact .inr h)
     refine ⟨fun t ht d g=>?_,q⟩
     rcases List.mem_cons.1 ht with rfl | ht
     .rw[s];simp[k]
     .exact p t ht d g
    .rename_i k
     obtain ⟨e,A,_⟩:=O9 i;have B:=Q1B l b c A (by rw[e];exact k)
     rw[e] at B
     obtain ⟨p,q⟩:=v (a++M6 c) (b++[n]) (by rw[List.length_append];omega) (fun x hx z m u j d g=>by
      rcases List.mem_append.1 hx with hx | hx
      .rcases o x hx z m u j d g with h | h
       .exact .inl (by simp[h])
       .rcases List.mem_cons.1 h with rfl | h
        .exact .inl (by simp)
        .exact .inr (by simp[h])
      .simp at hx;subst hx
       rw[i] at m;cases m;exact .inr (by simp[j]))
     refine ⟨fun t ht d g=>?_,q⟩
     rcases List.mem_cons.1 ht with rfl | ht
     .obtain ⟨r,s⟩:=Q3R (lk l) f (a++M6 c) (b++[t])
      rw[s];simp
     .exact p t (by simp[ht]) d g
theorem Mh {l:List Cla} {a b:X2}:b∈Qq l a↔Reach (lk l) a b:=by
 obtain ⟨g,i⟩:=X4J l (1+weigh l []) [a] [] (by simp) (by simp)
 constructor
 .intro h
  rcases X3d _ _ _ _ _ h with h | ⟨t,e,f⟩
  .simp at h
  .simp at e;subst e;exact f
 .intro h
  have key: ∀{x y:X2},Reach (lk l) x y->x∈Qq l a->y∈Qq l a:=by
   intro x y h
   induction h with
   | refl _=>exact id
   | step j m k o=>
    intro n;obtain ⟨d,c⟩:=k.left;exact o (i _ n _ j _ m _ c)
  obtain ⟨d,c⟩:=h.left;exact key h (g a (by simp) d c)
theorem X4K (l:List Cla): ∀(f:Nat) (a b:List X2),a.length+weigh l b<=f-> ∀k,Mk (lk l) (f+k) a b=Mk (lk l) f a b:=by
 intro f
 induction f with
 | zero=>
  intro a b h k;have:a=[]:=List.eq_nil_of_length_eq_zero (by omega)
  subst this;cases k<;>rfl
 | succ f g=>
  intro a b h k;cases a with
  | nil=>rw[Nat.succ_add];rfl
  | cons n a=>
   simp only[List.length_cons] at h;rw[Nat.succ_add];simp only[Mk]
   split
   .exact g _ _ (by omega) k
   .rename_i c i
    split
    .exact g _ _ (by omega) k
    .rename_i d
     obtain ⟨e,j,_⟩:=O9 i;have m:=Q1B l b c j (by rw[e];exact d)
     rw[e] at m;exact g _ _ (by rw[List.length_append];omega) k
def Ol (L:Oj) (a b:X2):Prop:= ∃c,L a=some c/\ ∃u∈M6 c,Reach L u b
def Vw (l:List Cla):Prop:= ∀a,¬Ol (lk l) a a
theorem Ol.reach {L:Oj} {a b:X2} (h:Ol L a b):Reach L a b:=by
 obtain ⟨c,d,u,f,e⟩:=h;exact .step d f e
theorem Ol.trans {L:Oj} {a b d:X2} (h:Ol L a b) (k:Reach L b d):Ol L a d:=by
 obtain ⟨c,e,u,g,f⟩:=h;exact ⟨c,e,u,g,f.trans k⟩
theorem Q3F {L:Oj} {a b:X2}:Reach L a b↔(a=b/\(∃c,L a=some c))\/Ol L a b:=by
 constructor
 .intro h
  cases h with
  | refl h=>exact .inl ⟨rfl,_,h⟩
  | step d e f=>exact .inr ⟨_,d,_,e,f⟩
 .rintro (⟨rfl,c,h⟩ | h)
  .exact .refl h
  .exact h.reach
def Jl (l:List Cla) (a b:X2):Bool:=match lk l a with
 | none=>false
 | some c=>(M6 c).any fun u=>(Qq l u).contains b
theorem Lp {l:List Cla} {a b:X2}:Jl l a b=true↔Ol (lk l) a b:=by
 unfold Jl Ol;cases h:lk l a with
 | none=>simp
 | some c=>
  simp only[List.any_eq_true,List.contains_iff_mem,Mh];constructor
  .rintro ⟨u,e,d⟩;exact ⟨c,rfl,u,e,d⟩
  .rintro ⟨_,⟨⟩,u,e,d⟩;exact ⟨u,e,d⟩
def Xx (l:List Cla) (n:X2):Nat:=l.countP fun m=>Jl l n m.name
theorem Q49 (l:List Cla) (n:X2):Xx l n<=l.length:=List.countP_le_length
theorem Q7q {α:Type} {p q:α->Bool}: ∀{l:List α},(∀x∈l,p x=true->q x=true)->(∃x∈l,q x=true/\p x=false)->l.countP p<l.countP q:=by
 intro l
 induction l with
 | nil=>rintro _ ⟨x,hx,_⟩;simp at hx
 | cons a r g=>
  rintro h ⟨x,hx,d,c⟩;have f:r.countP p<=r.countP q:=List.countP_mono_left fun x hx=>h x (by simp[hx])
  rw[List.countP_cons,List.countP_cons]
  rcases List.mem_cons.1 hx with rfl | hx
  .rw[d,c];simp;omega
  .have:=g (fun x hx=>h x (by simp[hx])) ⟨x,hx,d,c⟩
   have e:=h a (by simp)
   cases b:p a
   .simp;split<;>omega
   .rw[e b];simp;omega
theorem X7d {l:List Cla} (f:Vw l) {a b:X2} (h:Ol (lk l) a b):Xx l b<Xx l a:=by
 unfold Xx;refine Q7q (fun x _ j=>?_) ?_
 .rw[Lp] at*
  exact h.trans j.reach
 .obtain ⟨d,g⟩:=(Reach.right (h.reach))
  obtain ⟨e,i,_⟩:=O9 g;refine ⟨d,i,?_,?_⟩
  .rw[Lp,e];exact h
  .cases c:Jl l b d.name with
   | false=>rfl
   | true=>rw[Lp,e] at c;exact absurd c (f b)
theorem Vr {l:List Cla} (b:Vw l) {a u:X2} {c d:Cla} (e:lk l a=some c) (g:u∈M6 c) (f:lk l u=some d):Xx l u<Xx l a:=
 X7d b ⟨c,e,u,g, .refl f⟩
theorem X0p {l:List Cla} (b:Vw l): ∀(f g:Nat) (n:X2),Xx l n<f->Xx l n<g->Qx (lk l) f n=Qx (lk l) g n:=by
 intro f
 induction f with
 | zero=>intro g n h;omega
 | succ f i=>
  intro g n j k;obtain ⟨g,rfl⟩: ∃m,g=m+1:=⟨g-1,by omega⟩
  simp only[Qx];cases e:lk l n with
  | none=>rfl
  | some c=>
   simp only
   congr 1
   cases a:lk l c.super with
   | none=>cases f<;>cases g<;>simp[Qx,a]
   | some d=>
    have:=Vr b e (by simp[M6]) a
    exact i g c.super (by omega) (by omega)
theorem Gu {l:List Cla} (a:Vw l) (n:X2):chain l n=match lk l n with | none=>[] | some c=>c::chain l c.super:=by
 have:=Q49 l n;unfold chain;rw[Qx];cases e:lk l n with
 | none=>rfl
 | some c=>
  simp only
  congr 1
  cases b:lk l c.super with
  | none=>cases l.length<;>simp[Qx,b]
  | some d=>
   have:=Vr a e (by simp[M6]) b
   exact X0p a _ _ _ (by omega) (by omega)
theorem Dx {l:List Cla} {n:X2} (h:lk l n=none):chain l n=[]:=by simp[chain,Qx,h]
theorem So {α β:Type} {f g:α->Option β}: ∀{l:List α},(∀x∈l,f x=g x)->l.findSome? f=l.findSome? g
 | [],_=>rfl
 | a::r,h=>by
  rw[List.findSome?_cons,List.findSome?_cons,h a (by simp),So fun x b=>h x (by simp[b])]
theorem X0F {l:List Cla} (b:Vw l) (n:X2): ∀(f g:Nat) (c:Cla),lk l c.name=some c->Xx l c.name<f->Xx l c.name<g->Ii (lk l) f c n=Ii (lk l) g c n:=by
 intro f
 induction f with
 | zero=>intro g c _ h;omega
 | succ f k=>
  intro g c i o p;obtain ⟨g,rfl⟩: ∃m,g=m+1:=⟨g-1,by omega⟩
  simp only[Ii];refine So fun u j=>?_;cases a:lk l u with
  | none=>rfl
  | some d=>
   simp only;cases Qb d n with
   | some m=>rfl
   | none=>
    simp only;have:=Vr b i (by simp[M6,j]) a
    have e:=(O9 a).1;exact k g d (by rw[e];exact a) (by rw[e];omega) (by rw[e];omega)
def O4 (l:List Cla) (c:Cla) (n:X2):Option (X2×Hm.Met):=Ii (lk l) (l.length+1) c n
theorem Q7G {l:List Cla} (b:Vw l) {c:Cla} (f:lk l c.name=some c) (n:X2):O4 l c n=c.like.findSome? fun u=>match lk l u with
 | none=>none
 | some d=>match Qb d n with
  | some m=>some (u,m)
  | none=>O4 l d n:=by
 have:=Q49 l c.name;unfold O4;rw[Ii];refine So fun u g=>?_;cases a:lk l u with
 | none=>rfl
 | some d=>
  simp only;cases Qb d n with
  | some m=>rfl
  | none=>
   have:=Vr b f (by simp[M6,g]) a
   have e:=(O9 a).1;exact X0F b n _ _ d (by rw[e];exact a) (by rw[e];omega) (by rw[e];omega)
def Yg (l:List Cla):Prop:=(l.map (·.name)).Nodup
theorem Yg.lk {l:List Cla} (h:Yg l) {c:Cla} (f:c∈l):Go.Hm.lk l c.name=some c:=by
 obtain ⟨d,g⟩:=X3V f;obtain ⟨e,p,i,o,a⟩:=O9 g;obtain ⟨j,n,rfl⟩:=List.getElem_of_mem f;obtain ⟨b,k⟩:=List.getElem?_eq_some_iff.1 a
 have:i=j:=by
  have m:(l.map (·.name))[i]'(by simpa using b)=(l.map (·.name))[j]'(by simpa using n):=by simp[k,e]
  exact (List.getElem_inj h).1 m
 subst this;rw[g,<-k]
theorem Yg.find {l:List Cla} (h:Yg l) {i:Nat} {c:Cla} (f:l[i]? =some c):U1 l c.name=some i:=by
 obtain ⟨b,rfl⟩:=List.getElem?_eq_some_iff.1 f;have:=h.lk (List.getElem_mem b);obtain ⟨e,n,j,m,g⟩:=O9 this;obtain ⟨a,k⟩:=List.getElem?_eq_some_iff.1 g
 have:j=i:=by
  have d:(l.map (·.name))[j]'(by simpa using a)=(l.map (·.name))[i]'(by simpa using b):=by simp[k]
  exact (List.getElem_inj h).1 d
 rw[m,this]
end Go.Hm
namespace Go.Emb
open Go.RowKit Go.Hm
variable {w w1 w' : World} {σ σ1 σ2 σ' : Q2}
theorem Stp.join (c:Stp w σ w' σ1) (d:Stp w σ w' σ2): ∃f,Stp w σ w' f/\SLe σ1 f/\SLe σ2 f:=by
 have h: ∀b o,σ1 b=some o->(fun b=>(σ1 b).or (σ2 b)) b=some o:=fun b o e=>by simp[e]
 have j: ∀b o,σ2 b=some o->(fun b=>(σ1 b).or (σ2 b)) b=some o:=by
  intro b o e;cases a:σ1 b with
  | none=>simp[a,e]
  | some p=>
   have i:=c.sat b p a;have g:=d.sat b o e;rw[i] at g;cases g;simp only[a,Option.some_or]
 refine ⟨fun b=>(σ1 b).or (σ2 b),⟨c.bel,?_,fun b o e=>h b o (c.le b o e),?_⟩,⟨h⟩,⟨j⟩⟩
 .intro b o e
  cases a:σ1 b with
  | none=>simp only[a,Option.none_or] at e;exact d.sat b o e
  | some p=>simp only[a,Option.some_or] at e;cases e;exact c.sat b _ a
 .intro b a
  simp only[c.old b a,d.old b a];cases σ b<;>rfl
theorem Um {Φ:Q2->Value->Prop} {A a:(Value->World->Prop)->Prop} (h:A (fun v w'=> ∃σ',Stp w σ w' σ'/\Φ σ' v)) (e:a (fun v w'=> ∃σ',Stp w σ w' σ'/\Φ σ' v)):J3 (fun w w'=>Below w.heap.size w w') A a:=
 R3 _ (fun _ _ _ ⟨σ',b,c⟩ d=>⟨σ',b.trans (Stp.of_below b.sat d),c⟩) h e
theorem Eb {Φ:Q2->Value->Prop} {v:Value} (a:Hst w σ w1 σ) (h:Stp w1 σ w' σ') (b:Φ σ' v):dk (fun w w'=>Below w.heap.size w w') (fun v w'=> ∃σ',Stp w σ w' σ'/\Φ σ' v) w1 v w':=
 ⟨h.bel,σ',a.stp.trans h,b⟩
theorem F5.mk {m:Hm.Met} {pv a b:Value} (c:Sl 1 M7 σ pv m.params) (d:Sl 3 Ze σ a m.code) (e:Sl 4 Wq σ b m.catches) (f:m.name.length<=W6) (g:m.result.length<=W6) (h:Xv m.locals):F5 σ m [S m.name,pv,S m.result, .bool m.abs,I m.locals,a,b]:=
 ⟨pv,a,b,rfl,c,d,e,f,g,h⟩
theorem M8.mk {c:Cla} {b a mv:Value} (d:Sl 1 M7 σ b c.like) (e:Sl 3 I7 σ a c.fields) (f:Sl 7 F5 σ mv c.methods) (g:c.name.length<=W6) (h:c.super.length<=W6):M8 σ c [S c.name,S c.super,b, .bool c.iface, .bool c.abs, .bool c.fin,a,mv]:=
 ⟨b,a,mv,rfl,d,e,f,g,h⟩
end Go.Emb
namespace Go.Hm
def SmM (m:Hm.Met):Prop:=m.params.length<=1000000/\m.code.length<=1000000/\m.catches.length<=1000000
def Zf (c:Cla):Prop:=c.like.length<=1000000/\c.fields.length<=1000000/\c.methods.length<=1000000/\ ∀m∈c.methods,SmM m
end Go.Hm
namespace Go.Proofs.Y
open Go.Emb Go.RowKit Go.Kd Go.Hm
variable {w : World} {K : Value -> World -> Prop} {σ : Q2}
theorem Q7n {m:Hm.Met} {cs:List Value} (hs:X7 w σ) (hm:F5 σ m cs) (D:SmM m)
 (h: ∀pv o f w' σ',Stp w σ w' σ'->F5 σ' m [S m.name,pv,S m.result, .bool m.abs,I m.locals,o,f]->K (.agg [S m.name,pv,S m.result, .bool m.abs,I m.locals,o,f].toArray) w'):Q0 P F.cf [.agg cs.toArray] w K:=Q8i (by
 obtain ⟨pv,o,f,rfl,y,z,A,Y,Z,g6⟩:=hm;obtain ⟨s1,s2,s3⟩:=D;unfold Q1O;simp only[Y3,X3];refine Rd hs fun b w1 σ1 d g a=>?_;refine D3 g.sat fun X w2 σ2 B j c=>?_;have ac:=a.lt;replace a:=a.step j;have C:=j.sat;have y:=(y.up g).up j;have z:=(z.up g).up j;have A:=(A.up g).up j;have L: ∀{w':World} (i:Nat) (v:Value),[S m.name,pv,S m.result, .bool m.abs,I m.locals,o,f][i]? =some v->Hst w2 σ2 w' σ2->w'.cell? ((⟨b,0,none⟩:Addr).add i)=some v:=fun i v f hh=>(a.step hh.stp).cell f;refine U8 C ?_;refine X9 (.pointer (some ((⟨b,0,none⟩:Addr).add 1))) (fun w d=>by rw[fa];exact Y5 rfl) ?_
 refine X9 (.pointer (some ((⟨b,0,none⟩:Addr).add 5))) (fun w d=>by rw[fa];exact Y5 rfl) ?_
 refine X9 (.pointer (some ((⟨b,0,none⟩:Addr).add 6))) (fun w d=>by rw[fa];exact Y5 rfl) ?_
 refine X9 pv (fun t w d e=>by rw[e];exact Zb (L 1 pv rfl d) (Y5 rfl)) ?_
 refine Um (Φ:=fun σ' v=>Sl 1 M7 σ' v m.params) (fun t w d e=>by rw[e];exact Oz d.sat y s1 fun W w' σ' s f=>Eb d s f) ?_
 refine X9 o (fun t w d e=>by rw[e];exact Zb (L 5 o rfl d) (Y5 rfl)) ?_
 refine Um (Φ:=fun σ' v=>Sl 3 Ze σ' v m.code) (fun t w d e=>by rw[e];exact Cm d.sat z s2 fun W w' σ' s f=>Eb d s f) ?_
 refine X9 f (fun t w d e=>by rw[e];exact Zb (L 6 f rfl d) (Y5 rfl)) ?_
 refine X9 (.pointer (some ((⟨b,0,none⟩:Addr).add 1))) (fun w d=>by rw[fa];exact Y5 rfl) ?_
 refine Um (Φ:=fun σ' v=>Sl 4 Wq σ' v m.catches) (fun t w d e=>by rw[e];exact Ck d.sat A s3 fun W w' σ' s f=>Eb d s f) ?_
 rintro t1 t2 t3 t4 t5 t6 t8 t9 am N w3 ab e1 e2 e3 e4 ⟨σ5,k5,p⟩ e6 ⟨σ8,k8,q⟩ e9 u ⟨av,E,k⟩;subst u;obtain ⟨σa,ka,J,M⟩:=k5.join k8;obtain ⟨σ3,H,Q,l2⟩:=ka.join E;have p:=(p.lift J).lift Q;have q:=(q.lift M).lift Q;have k:=k.lift l2;have a:=a.step H;have c:=c.step H;have n:X≠b:=by omega
 have l:=(g.trans j).trans H;refine Yj a U5 (Oo p) (Xp p) fun w4 R a=>?_;rw[fa];have l:=R.stp l d a.1;have c:=c.upd R n;refine Yj a U5 (Oo q) (Xp q) fun w5 U a=>?_;rw[fa];have l:=U.stp l d a.1;have c:=c.upd U n;refine Yj a U5 (Oo k) (Xp k) fun w6 V a=>?_;have l:=V.stp l d a.1;have c:=c.upd V n;refine Bq a rfl ?_;have O:=F5.mk p q k Y Z g6;have r:=C6 B g;refine Vk c rfl rfl (by rw[List.all_toArray];exact List.all_eq_true.2 (Rep.one O)) fun w7 u7 c=>?_
 have l:=u7.stp l r c.1;refine M4 c rfl ?_;exact h t5 t8 N w7 σ3 l O)
theorem X4P {c:Cla} {cs:List Value} (hs:X7 w σ) (hc:M8 σ c cs) (av:Zf c)
 (h: ∀X U mv w' σ',Stp w σ w' σ'->M8 σ' c [S c.name,S c.super,X, .bool c.iface, .bool c.abs, .bool c.fin,U,mv]->K (.agg [S c.name,S c.super,X, .bool c.iface, .bool c.abs, .bool c.fin,U,mv].toArray) w'):Q0 P F.cL [.agg cs.toArray] w K:=Q8h (by
 obtain ⟨X,U,mv,rfl,g1,g2,V,g4,g5⟩:=hc;obtain ⟨s1,s2,s3,s4⟩:=av;unfold Q1N;simp only[Y3,X3,N0];unfold Y1 V1 Y0 X4 X5;refine Rd hs fun b w1 σ1 l m f=>?_;refine D3 m.sat fun R w2 σ2 ap o g=>?_;have be:=f.lt;replace f:=f.step o;have ar:=o.sat;have g1:=(g1.up m).up o;have g2:=(g2.up m).up o;have V:=(V.up m).up o;have L: ∀{w':World} (i:Nat) (v:Value),[S c.name,S c.super,X, .bool c.iface, .bool c.abs, .bool c.fin,U,mv][i]? =some v->Hst w2 σ2 w' σ2->w'.cell? ((⟨b,0,none⟩:Addr).add i)=some v:=fun i v W hh=>(f.step hh.stp).cell W;refine U8 ar ?_;refine X9 (.pointer (some ((⟨b,0,none⟩:Addr).add 2))) (fun w l=>by rw[fa];exact Y5 rfl) ?_
 refine X9 (.pointer (some ((⟨b,0,none⟩:Addr).add 6))) (fun w l=>by rw[fa];exact Y5 rfl) ?_
 refine X9 X (fun t w l e=>by rw[e];exact Zb (L 2 X rfl l) (Y5 rfl)) ?_
 refine Um (Φ:=fun σ' v=>Sl 1 M7 σ' v c.like) (fun t w l e=>by rw[e];exact Oz l.sat g1 s1 fun v' w' σ' E W=>Eb l E W) ?_
 refine X9 U (fun t w l e=>by rw[e];exact Zb (L 6 U rfl l) (Y5 rfl)) ?_
 refine X9 (.pointer (some ((⟨b,0,none⟩:Addr).add 2))) (fun w l=>by rw[fa];exact Y5 rfl) ?_
 refine Um (Φ:=fun σ' v=>Sl 3 I7 σ' v c.fields) (fun t w l e=>by rw[e];exact Cl l.sat g2 s2 fun v' w' σ' E W=>Eb l E W) ?_
 rintro t6 t9 t7 t8 bn bo ae w3 ba e6 e9 e7 ⟨σ8,k8,Y⟩ a7 ah ⟨bs,aw,u⟩;subst ah;obtain ⟨σ3,k3,l1,l2⟩:=k8.join aw;have Y:=Y.lift l1;have u:=u.lift l2;have V:=V.up k3;have f:=f.step k3;have g:=g.step k3;have Q:R≠b:=by omega
 have Z:=(m.trans o).trans k3;refine Yj f U5 (Oo Y) (Xp Y) fun w4 u4 f=>?_;rw[fa];have Z:=u4.stp Z l f.1;have g:=g.upd u4 Q;refine Yj f U5 (Oo u) (Xp u) fun w5 u5 f=>?_;rw[fa];have Z:=u5.stp Z l f.1;have g:=g.upd u5 Q;refine I1 f rfl ?_;refine Q7 V ?_
 refine C4 c.methods.length (fun n a w'=> ∃σ',Stp w σ w' σ'/\SLe σ3 σ'/\W7 w.heap.size T.e 7 F5 σ' w' a (c.methods.take n)/\Y8 σ' w' b [S c.name,S c.super,t8, .bool c.iface, .bool c.abs, .bool c.fin,ae,mv]/\Y8 σ' w' R [S [],S [], .slice none 0 0, .bool false, .bool false, .bool false, .slice none 0 0, .slice none 0 0]/\ ∀k,a.ownBlock=some k->k≠b/\k≠R)
  ⟨σ3,Z,SLe.refl _,W7.nil,f,g,fun k E=>by cases E⟩ fun n a w6 d hn hi=>?_
 obtain ⟨σ6,B,C,ha,f,g,j⟩:=hi;refine J0 ?_;refine Q4 (fun hh=>?_) (fun hh=>?_)
 .have z:n<c.methods.length:=by simpa using hh
  have ab:c.methods.length<=9223372036854775807:=by omega
  refine E5 (V.lift C) z fun p cs hl y hr=>?_;refine Y7 B.sat hl y ?_;refine J6 B.sat (by rfl) y (Rep.one hr) fun q w7 σ7 r hq=>?_
  refine Y7 r.sat hq y ?_;refine Q7n r.sat (Rep.up r.le hr) (s4 _ (List.getElem_mem z)) fun pv cv W w8 σ8 N aq=>?_;have O:=(Nxt.of_stp (D:=fun k=>a.ownBlock=some k) r).trans (Nxt.of_stp N);have an:=(ha.up r).up N;have ax:=(f.nx O fun e=>(j _ e).1 rfl).lt;have ay:=(g.nx O fun e=>(j _ e).2 rfl).lt;refine Lz ((B.trans r).trans N) an aq rfl rfl rfl (by rw[List.length_take];omega) (by rw[List.length_take];omega) fun s v' w9 σ9 A al ao hat=>?_
  refine R5 ?_;have A:=O.trans A;refine V2 ab z ⟨σ9,al,C.more A.le,?_,f.nx A fun e=>(j _ e).1 rfl,g.nx A fun e=>(j _ e).2 rfl,?_⟩
  .rw[List.take_add_one,List.getElem?_eq_getElem z];exact ao
  .intro k E
   rcases hat with hat | hat
   .exact j k (hat▸E)
   .have:=hat k E
    constructor<;>omega
 .have z: ¬n<c.methods.length:=by simpa using hh
  rw[List.take_of_length_le Q5] at ha;obtain ⟨σ7,J,M,ad,H⟩:=ha.keep B;have f:Y8 σ7 w6 b _:=⟨(H b fun e=>(j b e.symm).1 rfl).trans f.1,f.2⟩;have g:Y8 σ7 w6 R _:=⟨(H R fun e=>(j R e.symm).2 rfl).trans g.1,g.2⟩;rw[fa];refine Yj f U5 (Oo M) (Xp M) fun w7 u7 f=>?_;have J:=u7.stp J l f.1;have g:=g.upd u7 Q;refine Bq f rfl ?_;have hr:=M8.mk (Y.lift (C.more ⟨ad⟩)) (u.lift (C.more ⟨ad⟩)) M g4 g5;have aa:=C6 ap m;refine Vk g rfl rfl (by rw[List.all_toArray];exact List.all_eq_true.2 (Rep.one hr)) fun w8 u8 g=>?_
  have ak:=u8.stp J aa g.1;refine M4 g rfl ?_;exact h t8 ae a w8 σ7 ak hr)
end Go.Proofs.Y
namespace Go.Hm
open Go.Kd
def P7 {α:Type}:Nat->List α->List α
 | 0,xs=>xs
 | i+1,xs=>match (P7 i xs)[i]?,(P7 i xs)[xs.length-1-i]? with
  | some a,some b=>((P7 i xs).set i b).set (xs.length-1-i) a
  | _,_=>P7 i xs
theorem Q3L {α:Type} (xs:List α): ∀i,2*i<=xs.length->(P7 i xs).length=xs.length/\ ∀k,k<xs.length->(P7 i xs)[k]? =if k<i\/xs.length-1-k<i then xs[xs.length-1-k]? else xs[k]?
 | 0,_=>⟨rfl,fun k j=>by simp[P7]⟩
 | i+1,h=>by
  obtain ⟨m,c⟩:=Q3L xs i (by omega)
  have a:=c i (by omega)
  have b:=c (xs.length-1-i) (by omega)
  rw[if_neg (by omega)] at a b
  have n:i<xs.length:=by omega
  have d:xs.length-1-i<xs.length:=by omega
  rw[List.getElem?_eq_getElem (l:=xs) n] at a;rw[List.getElem?_eq_getElem (l:=xs) d] at b;simp only[P7,a,b];refine ⟨by simp[m],fun k j=>?_⟩
  by_cases e:k=xs.length-1-i
  .subst e
   rw[List.getElem?_set_self (by simp[m];omega),if_pos (by omega)]
   rw[show xs.length-1-(xs.length-1-i)=i by omega,List.getElem?_eq_getElem (by omega)]
  .rw[List.getElem?_set_ne (by omega)]
   by_cases f:k=i
   .subst f
    rw[List.getElem?_set_self (by omega),if_pos (by omega),List.getElem?_eq_getElem (by omega)]
   .rw[List.getElem?_set_ne (by omega),c k j]
    by_cases g:k<i\/xs.length-1-k<i
    .rw[if_pos g,if_pos (by omega)]
    .rw[if_neg g,if_neg (by omega)]
theorem X4u {α:Type} (xs:List α) (i:Nat) (c:2*i<=xs.length) (e:xs.length<=2*i+1):P7 i xs=xs.reverse:=by
 obtain ⟨f,d⟩:=Q3L xs i c;apply List.ext_getElem?;intro k
 by_cases b:k<xs.length
 .rw[d k b,List.getElem?_reverse b]
  by_cases a:k<i\/xs.length-1-k<i
  .rw[if_pos a]
  .rw[if_neg a];congr 1;omega
 .rw[List.getElem?_eq_none (by omega),List.getElem?_eq_none (by simp;omega)]
theorem Q0l (L:Oj): ∀(f:Nat) (n:X2),(Qx L f n).length<=f
 | 0,_=>by simp[Qx]
 | f+1,n=>by
  simp only[Qx]
  split
  .simp
  .have:=Q0l L f (by rename_i c _;exact c.super)
   simp only[List.length_cons];rename_i c _;have:=Q0l L f c.super;omega
theorem Pb (l:List Cla) (n:X2):(chain l n).length<=l.length+1:=Q0l _ _ _
theorem Pc {l:List Cla} {n:X2} {c:Cla} (h:c∈chain l n):c∈l:=by
 have key: ∀(f:Nat) (n:X2),c∈Qx (lk l) f n->c∈l:=by
  intro f
  induction f with
  | zero=>intro n h;simp[Qx] at h
  | succ f b=>
   intro n h;simp only[Qx] at h
   split at h
   .simp at h
   .rename_i d a
    rcases List.mem_cons.1 h with rfl | h
    .exact (O9 a).2.1
    .exact b _ h
 exact key _ _ h
theorem Nk {α β:Type} (f:α->List β) (k:Nat): ∀(xs:List α),(∀x∈xs,(f x).length<=k)->(xs.flatMap f).length<=xs.length*k
 | [],_=>by simp
 | x::r,h=>by
  have b:=h x (by simp)
  have c:=Nk f k r fun y a=>h y (by simp[a])
  simp only[List.flatMap_cons,List.length_append,List.length_cons,Nat.add_mul];omega
def J1 (l:List Cla) (i:Nat):X2:=(l.getD i Cla.zero).name
theorem Ug {l:List Cla} (b:Yg l) {i:Nat} (a:i<l.length):lk l (J1 l i)=some (l.getD i Cla.zero):=by
 have e:l.getD i Cla.zero=l[i]:=by rw[List.getD_eq_getElem?_getD,List.getElem?_eq_getElem a];rfl
 unfold J1;rw[e];exact b.lk (List.getElem_mem a)
theorem I8 {l:List Cla} {u:X2} {j:Nat} (h:U1 l u=some j):j<l.length/\J1 l j=u:=by
 obtain ⟨a,b,_⟩:=List.findIdx?_eq_some_iff_getElem.1 h;refine ⟨a,?_⟩;unfold J1;rw[List.getD_eq_getElem?_getD,List.getElem?_eq_getElem a]
 simpa using b
theorem Q4g {l:List Cla} (b:Vw l) (f:Yg l) {i j:Nat} (e:i<l.length) {u:X2} (g:u∈M6 (l.getD i Cla.zero)) (a:U1 l u=some j):Xx l (J1 l j)<Xx l (J1 l i):=by
 obtain ⟨c,d,_⟩:=Vp a;rw[(I8 a).2];exact Vr b (Ug f e) g d
theorem Td {α β:Type} {f g:β->α->β}: ∀(xs:List α) (b:β),(∀b x,x∈xs->f b x=g b x)->xs.foldl f b=xs.foldl g b
 | [],_,_=>rfl
 | x::r,b,h=>by
  rw[List.foldl_cons,List.foldl_cons,h b x (by simp)]
  exact Td r _ fun b y a=>h b y (by simp[a])
theorem Uw {l:List Cla} {frm:Nat} (f:Nat) (out:List Nat) {i:Nat} (h:i<frm):Ys l frm f out i=out:=by
 cases f<;>simp[Ys,h]
theorem X4a {l:List Cla} (d:Vw l) (k:Yg l) {frm:Nat} (a:0<frm): ∀(f g:Nat) (out:List Nat) (i:Nat),i<l.length->Xx l (J1 l i)<f->Xx l (J1 l i)<g->Ys l frm f out i=Ys l frm g out i:=by
 intro f
 induction f with
 | zero=>intro g out i _ h;omega
 | succ f o=>
  intro g out i e p q;obtain ⟨g,rfl⟩: ∃m,g=m+1:=⟨g-1,by omega⟩
  simp only[Ys]
  split
  .rfl
  .split
   .rfl
   .congr 1
    refine Td _ _ fun b u n=>?_;cases c:U1 l u with
    | none=>simp only[Option.getD_none];rw[Uw f b a,Uw g b a]
    | some j=>
     simp only[Option.getD_some];have:=Q4g d k e n c;exact o g b j (I8 c).1 (by omega) (by omega)
def Ua (l:List Cla) (frm:Nat) (out:List Nat) (i:Nat):List Nat:=Ys l frm (l.length+1) out i
theorem X1B {l:List Cla} (c:Vw l) (e:Yg l) {frm:Nat} (a:0<frm) (out:List Nat) {i:Nat} (f:i<l.length):Ua l frm out i=if i<frm then out else if i∈out then out else
 ((M6 (l.getD i Cla.zero)).foldl (fun out n=>Ua l frm out ((U1 l n).getD 0)) out)++[i]:=by
 have h:=Q49 l (J1 l i);unfold Ua;rw[Ys]
 split
 .rfl
 .split
  .rfl
  .congr 1
   refine Td _ _ fun b u g=>?_;cases d:U1 l u with
   | none=>simp only[Option.getD_none];rw[Uw _ b a,Uw _ b a]
   | some j=>
    simp only[Option.getD_some];have:=Q4g c e f g d;exact X4a c e a _ _ b j (I8 d).1 (by omega) (by omega)
theorem Dc {α:Type} {p:Nat->Prop} {f:List Nat->α->List Nat}: ∀(xs:List α) (b:List Nat),(∀b x,x∈xs-> ∀y∈f b x,y∈b\/p y)-> ∀y∈xs.foldl f b,y∈b\/p y
 | [],b,_=>fun y a=> .inl a
 | x::r,b,h=>fun y a=>by
  rw[List.foldl_cons] at a
  rcases Dc r _ (fun b z c=>h b z (by simp[c])) y a with h1 | h1
  .exact h b x (by simp) y h1
  .exact .inr h1
theorem Q9x {l:List Cla} (m:Yg l) {frm:Nat} (q:0<frm): ∀(f:Nat) (out:List Nat) (i:Nat),i<l.length-> ∀y∈Ys l frm f out i,y∈out\/(y<l.length/\(y=i\/Ol (lk l) (J1 l i) (J1 l y))):=by
 intro f
 induction f with
 | zero=>intro out i _ y hy;exact .inl hy
 | succ f r=>
  intro out i e y hy;simp only[Ys] at hy
  split at hy
  .exact .inl hy
  .split at hy
   .exact .inl hy
   .rcases List.mem_append.1 hy with hy | hy
    .refine Dc (p:=fun y=>y<l.length/\(y=i\/Ol (lk l) (J1 l i) (J1 l y))) _ _ (fun b u n y hy=>?_) y hy
     cases d:U1 l u with
     | none=>
      rw[d] at hy;simp only[Option.getD_none] at hy;rw[Uw f b q] at hy;exact .inl hy
     | some j=>
      rw[d] at hy;simp only[Option.getD_some] at hy;obtain ⟨g,a⟩:=I8 d;obtain ⟨c,o,_⟩:=Vp d
      rcases r b j g y hy with h | ⟨k,rfl | h2⟩
      .exact .inl h
      .exact .inr ⟨k, .inr ⟨_,Ug m e,u,n,by rw[a];exact .refl o⟩⟩
      .exact .inr ⟨k, .inr ⟨_,Ug m e,u,n,by rw[<-a];exact h2.reach⟩⟩
    .simp at hy;subst hy;exact .inr ⟨e, .inl rfl⟩
theorem Q5K {α:Type} {q:List Nat->Prop} {f:List Nat->α->List Nat}: ∀(xs:List α) (b:List Nat),(∀b x,x∈xs->q b->q (f b x))->q b->q (xs.foldl f b)
 | [],b,_,h=>h
 | x::r,b,a,h=>by
  rw[List.foldl_cons];exact Q5K r _ (fun b z c=>a b z (by simp[c])) (a b x (by simp) h)
def Few (l:List Cla) (out:List Nat):Prop:=out.Nodup/\ ∀y∈out,y<l.length
theorem Few.len {l:List Cla} {out:List Nat} (h:Few l out):out.length<=l.length:=by
 have key: ∀(n:Nat) (out:List Nat),out.Nodup->(∀y∈out,y<n)->out.length<=n:=by
  intro n
  induction n with
  | zero=>
   intro out _ h;cases out with
   | nil=>simp
   | cons a r=>have:=h a (by simp);omega
  | succ n k=>
   intro out d h
   have f:=k (out.filter (fun y=> !decide (y=n))) (d.sublist List.filter_sublist) (fun y b=>by
    have:=List.mem_filter.1 b;have g:=h y this.1;have m:y≠n:=by simpa using this.2
    omega)
   have g:out.length<=(out.filter (fun y=> !decide (y=n))).length+1:=by
    clear f h
    induction out with
    | nil=>simp
    | cons a r c=>
     obtain ⟨i,j⟩:=List.nodup_cons.1 d
     by_cases e:a=n
     .subst e
      have:r.filter (fun y=> !decide (y=a))=r:=List.filter_eq_self.2 fun y b=>by simp;rintro rfl;exact i b
      simp[this]
     .have:=c j
      simp[e];exact this
   omega
 exact key _ _ h.1 h.2
theorem Q0Z {l:List Cla} (m:Vw l) (t:Yg l) {frm:Nat} (o:0<frm): ∀(f:Nat) (out:List Nat) (i:Nat),i<l.length->Few l out->Few l (Ys l frm f out i):=by
 intro f
 induction f with
 | zero=>intro out i _ h;exact h
 | succ f B=>
  intro out i w h;simp only[Ys]
  split
  .exact h
  .split
   .exact h
   .rename_i q
    have z:Few l ((M6 (l.getD i Cla.zero)).foldl (fun out n=>Ys l frm f out ((U1 l n).getD 0)) out):=by
     refine Q5K _ _ (fun b u v e=>?_) h;cases d:U1 l u with
     | none=>simp only[Option.getD_none];rw[Uw f b o];exact e
     | some j=>exact B b j (I8 d).1 e
    have s:i∉(M6 (l.getD i Cla.zero)).foldl (fun out n=>Ys l frm f out ((U1 l n).getD 0)) out:=by
     intro k
     rcases Dc (p:=fun y=>Ol (lk l) (J1 l i) (J1 l y)) _ _ (fun b u v y hy=>by
      cases d:U1 l u with
      | none=>
       rw[d] at hy;simp only[Option.getD_none] at hy;rw[Uw f b o] at hy;exact .inl hy
      | some j=>
       rw[d] at hy;simp only[Option.getD_some] at hy;obtain ⟨r,g⟩:=I8 d;obtain ⟨c,A,_⟩:=Vp d
       rcases Q9x t o f b j r y hy with h | ⟨h1,rfl | h2⟩
       .exact .inl h
       .exact .inr ⟨_,Ug t w,u,v,by rw[g];exact .refl A⟩
       .exact .inr ⟨_,Ug t w,u,v,by rw[<-g];exact h2.reach⟩) i k with h1 | h1
     .exact q h1
     .exact m _ h1
    refine ⟨?_,fun y hy=>?_⟩
    .rw[List.nodup_append]
     exact ⟨z.1,by simp,by rintro a m b e rfl;simp at e;subst e;exact s m⟩
    .rcases List.mem_append.1 hy with hy | hy
     .exact z.2 y hy
     .simp at hy;omega
end Go.Hm
namespace Go.Emb
open Go.RowKit Go.Hm
variable {w w' : World}
def K9 (sz:Nat) (v:Value) (i:Nat):Addr:=match v with
 | .slice (some b) _ _=>b.add (i*sz)
 | _=>⟨0,0,none⟩
variable {P : Program} {K : Value -> World -> Prop} {σ : Q2} {α : Type} {R : Q2 -> α -> List Value -> Prop} {sz : Nat} {v : Value} {xs : List α}
theorem Sl.el (h:Sl sz R σ v xs) {i:Nat} (k:i<xs.length): ∃cs,J7 σ (K9 sz v i) cs/\cs.length=sz/\R σ xs[i] cs:=by
 obtain ⟨a,c,rfl,l,m,g,j⟩:=h;cases a with
 | none=>have:=g rfl;omega
 | some b=>
  obtain ⟨cs,d,e,f⟩:=(j b rfl).2 i xs[i] (by simp[k])
  exact ⟨cs,d,e,f⟩
theorem Z1 {t e:TypeId} {c:Nat} {z:Value} [TS P t e] [TZ P e sz c z] (h:Sl sz R σ v xs) {i:Nat} (m:i<xs.length) (g:K (.pointer (some (K9 sz v i))) w):indexAddr P t v (I i) w K:=by
 obtain ⟨a,d,rfl,j,k,f,l⟩:=h;cases a with
 | none=>have:=f rfl;omega
 | some b=>
  rw[Ih Q5 Q5]
  simpa [K9] using g
theorem Sl.elS {xs:List Kd.X2} (h:Sl 1 M7 σ v xs) {i:Nat} (c:i<xs.length):J7 σ (K9 1 v i) [S xs[i]]/\xs[i].length<=W6:=by
 obtain ⟨cs,a,d,rfl,b⟩:=h.el c;exact ⟨a,b⟩
theorem Sl.elF {xs:List Fld} (h:Sl 3 I7 σ v xs) {i:Nat} (c:i<xs.length):J7 σ (K9 3 v i) [S xs[i].name,S xs[i].kind, .bool xs[i].tr]/\I7 σ xs[i] [S xs[i].name,S xs[i].kind, .bool xs[i].tr]:=by
 obtain ⟨cs,a,d,rfl,b⟩:=h.el c;exact ⟨a,rfl,b⟩
theorem Sl.elI {xs:List Ins} (h:Sl 3 Ze σ v xs) {i:Nat} (c:i<xs.length):J7 σ (K9 3 v i) [S xs[i].op,I xs[i].n,S xs[i].s]/\Ze σ xs[i] [S xs[i].op,I xs[i].n,S xs[i].s]:=by
 obtain ⟨cs,a,d,rfl,b⟩:=h.el c;exact ⟨a,rfl,b⟩
theorem Sl.elK {xs:List Cat} (h:Sl 4 Wq σ v xs) {i:Nat} (c:i<xs.length):J7 σ (K9 4 v i) [I xs[i].frm,I xs[i].to,I xs[i].at_,S xs[i].cls]/\Wq σ xs[i] [I xs[i].frm,I xs[i].to,I xs[i].at_,S xs[i].cls]:=by
 obtain ⟨cs,a,d,rfl,b⟩:=h.el c;exact ⟨a,rfl,b⟩
theorem Sl.conv {α β:Type} {R:Q2->α->List Value->Prop} {R':Q2->β->List Value->Prop} {sz:Nat} {v:Value} {xs:List α} {ys:List β} (h:Sl sz R σ v xs) (j:ys.length=xs.length) (q: ∀i (g:i<xs.length) (s:i<ys.length) cs,R σ xs[i] cs->R' σ ys[i] cs):Sl sz R' σ v ys:=by
 obtain ⟨a,d,rfl,n,o,p,e⟩:=h;refine ⟨a,d,by rw[j],by rw[j];exact n,o,p,fun b f=>⟨fun t=>(e b f).1 Q5,fun i x r=>?_⟩⟩
 obtain ⟨g,rfl⟩:=List.getElem?_eq_some_iff.1 r;have c:i<xs.length:=by omega
 obtain ⟨cs,k,l,m⟩:=(e b f).2 i xs[i] (List.getElem?_eq_getElem c);exact ⟨cs,k,l,q i c g cs m⟩
theorem Sl.elM {xs:List Hm.Met} (h:Sl 7 F5 σ v xs) {i:Nat} (e:i<xs.length): ∃pv a b,J7 σ (K9 7 v i) [S xs[i].name,pv,S xs[i].result, .bool xs[i].abs,I xs[i].locals,a,b]/\F5 σ xs[i] [S xs[i].name,pv,S xs[i].result, .bool xs[i].abs,I xs[i].locals,a,b]:=by
 obtain ⟨cs,c,f,pv,a,b,rfl,d⟩:=h.el e;exact ⟨pv,a,b,c,pv,a,b,rfl,d⟩
theorem Sl.elC {xs:List Cla} (h:Sl 8 M8 σ v xs) {i:Nat} (e:i<xs.length): ∃b a mv,J7 σ (K9 8 v i) [S xs[i].name,S xs[i].super,b, .bool xs[i].iface, .bool xs[i].abs, .bool xs[i].fin,a,mv]/\M8 σ xs[i] [S xs[i].name,S xs[i].super,b, .bool xs[i].iface, .bool xs[i].abs, .bool xs[i].fin,a,mv]:=by
 obtain ⟨cs,c,f,b,a,mv,rfl,d⟩:=h.el e;exact ⟨b,a,mv,c,b,a,mv,rfl,d⟩
theorem X0 {b:World->World->Prop} {A a:(Value->World->Prop)->Prop} {V:Value} (h:A (fun v _=>V=v)) (c:a (fun v _=>V=v)):J3 b A a:=R3 _ (fun _ _ _ h _=>h) h c
theorem Q8 {v V:Value} (h:V=v):dk (fun w w'=>Below w.heap.size w w') (fun v _=>V=v) w v w:=⟨Below.refl _ _,h⟩
theorem B5 {v V:Value} (a:Below w.heap.size w w') (h:V=v):dk (fun w w'=>Below w.heap.size w w') (fun v _=>V=v) w v w':=⟨a,h⟩
theorem Zn {c b:Bool} {V:Value} {a:World->(Value->World->Prop)->Prop} (h:c=b->a w (dk (fun w w'=>Below w.heap.size w w') (fun v _=>V=v) w)):Q1 (.bool c) b w a (dk (fun w w'=>Below w.heap.size w w') (fun v _=>(if c=b then V else undef)=v) w):=by
 by_cases e:c=b
 .simp only[e,if_true]
  subst e;have:=h rfl;cases c
  .rw[D2];exact this
  .rw[V9];exact this
 .have d:c= !b:=by cases c<;>cases b<;>simp_all
  rw[if_neg e];subst d;cases b
  .rw[Bool.not_false,G1];exact ⟨Below.refl _ _,rfl⟩
  .rw[Bool.not_true,O3];exact ⟨Below.refl _ _,rfl⟩
theorem Vf {p:Prop} (hq:p:=by intros;(repeat (rename_i hx;subst hx));(repeat' (first | (with_reducible exact Q8 rfl) | (with_reducible exact B5 (Stp.bel (by (repeat (first | exact Stp.refl (by (first | assumption | exact Stp.sat Q9 | exact Hst.sat Q9)) | assumption | refine Stp.trans ?_ (by first | assumption | exact Hst.stp Q9))))) rfl) | (with_reducible intro _) | (simp only[↓M2,M2,Mb,reduceIte]) | (with_reducible show Q6 _ _ _ _ _;first | refine Y6 aS aL aR ?_ | refine Y7 aS aL aR ?_ | refine ld aS aL aR ?_) | (with_reducible show indexAddr _ _ _ _ _ _;refine Z1 aL au ?_) | (with_reducible show V0 _ _ _ _ _ _ _ _;refine Q7 aL ?_) | (with_reducible show Xj _ _ _ _ _ _;refine W2 aR ?_) | (with_reducible show pick _ _ _ _ _ _;refine F3 ?_) | (apply Zn;intro hh;(try simp only[hh,reduceIte,↓M2,M2,Mb,reduceIte]))));done):p:=hq
variable {w0 : World} {σ0 σ' : Q2} {e : TypeId} {u : Value} {ys : List α}
def Emp (v:Value):Prop:= ∃a,v= .slice a 0 0
theorem X1S {t C:TypeId} {p:Nat} {z:Value} {cs:List Bool} [ts:TS P t e] [tz:TZ P e sz p z] [hr:Rep R] (W:Stp w0 σ0 w σ) (ha:W7 w0.heap.size e sz R σ w v []) (hv:Emp v) (N:X7 w σ') (hu:Sl sz R σ' u ys) (hR: ∀x cs,R σ' x cs->R σ x cs) (hz:(z.cells.size==sz&&decide (0<sz))=true)
 (hb:ys.length*p<=140737488355328) (hm:ys.length<=1000000000000)
 (h: ∀l w',Stp w σ w' σ->W7 w0.heap.size e sz R σ w' l ys->K l w'):V0 P .append [t,t] C cs [v,u] w K:=by
 obtain ⟨j,rfl⟩:=hv;have M:=W.sat;obtain ⟨a,d,c,rfl,n1,y,n3,n4,n5⟩:=hu.cells N;obtain ⟨i,Y,O,D,o⟩:=tz.info;simp only[Bool.and_eq_true,beq_iff_eq,decide_eq_true_eq] at hz;obtain ⟨Q,am⟩:=hz
 have g:Src P i.size t (.slice a ys.length d) ys.length c w:=by
  cases a with
  | some b=>exact Src.ofSlice w ts.h b ys.length d c (by rw[O];exact y) (n3 b rfl) n4
  | none=>
   have s:ys.length=0:=by
    obtain ⟨U,V,e',q1,_,q3,_⟩:=hu;injection e' with e1 e2 e3;have:=n1 rfl;omega
   have L:c=[]:=List.eq_nil_of_length_eq_zero (by rw[y,s];simp)
   subst L;rw[s];exact Src.ofNil w ts.h d
 have q: ∀l w',(Builtin.append_ #[t,t] C #[.slice j 0 0, .slice a ys.length d]).run P w= .ok l w'->Stp w σ w' σ->W7 w0.heap.size e sz R σ w' l ys->V0 P .append [t,t] C cs [.slice j 0 0, .slice a ys.length d] w K:=by
  intro l w' f J hq
  have n:(builtin .append #[t,t] C cs.toArray #[.slice j 0 0, .slice a ys.length d]).run P w= .ok (.value l) w':=by
   simp[builtin,f]
  unfold V0;rw[Yw];unfold Yd;rw[n];exact h l w' J hq
 by_cases s:ys=[]
 .subst s
  have L:c=[]:=List.eq_nil_of_length_eq_zero (by simpa using y)
  subst L;refine q (.slice j 0 0) w ?_ (Stp.refl M) ha;have Z:=g.len w;have r:=g.cells;simp only[List.length_nil] at Z r⊢;cases j<;>simp[Builtin.append_,run_underlying ts.h,sizeOf,typeInfo,Y,Z,r,storeCells]
 .have al:0<ys.length:=List.length_pos_iff.2 s
  have m:(Builtin.firstCells i.size 0 (.slice j 0 0)).run P w.drew= .ok (#[]:Array Value) w.drew:=by
   cases j with
   | none=>exact run_firstCells_none w.drew i.size 0 0 0
   | some U=>exact run_firstCells_some w.drew i.size 0 U 0 0 [] U5 (by intro _ _ h';simp at h')
  have X:0<0+ys.length:=by omega
  have f:=run_append_grow_src (P:=P) w t t C e i z ts.h Y o j 0 0 [] m (.slice a ys.length d) ys.length c g X Q5 (growslice_fits X (by rw[D,Nat.zero_add];exact hb))
  simp only[Nat.zero_add] at f;have E:=grownCap_le_maxLen w ys.length 0 e (by simp only[maxLen];omega)
  have H:=grownCap_ge w ys.length 0 e;refine q _ _ f (Stp.of_below M ((Below.refl _ _).drew.alloc (Nat.le_refl _) _)) ⟨c,⟨y, .inr ⟨w.heap.size,_,_,rfl,W.bel.size,heap_alloc_new w.drew _,H,E,?_,?_⟩⟩,?_,fun i x hx=>hR _ _ (n5 i x hx)⟩
  .simp only[List.nil_append]
   rw[Array.size_append,List.size_toArray,y,size_zeroCells,Q,<-Nat.add_mul]
   congr 1;omega
  .simp only[List.nil_append]
   rw[Array.toList_append];rw[List.take_append_of_le_length (by simp only[List.toList_toArray];omega),List.take_of_length_le (by simp only[List.toList_toArray];omega)]
  .intro k J;cases J;exact M.none (Nat.le_refl _)
theorem X8t {t l:TypeId} {a:Nat} {z:Value} {cs:List Bool} [ts:TS P t e] [tz:TZ P e sz a z] [hr:Rep R] (b:Stp w0 σ0 w σ) (d:W7 w0.heap.size e sz R σ w v []) (j:Emp v) (i:Sl sz R σ u ys) (k:(z.cells.size==sz&&decide (0<sz))=true)
 (f:ys.length*a<=140737488355328) (g:ys.length<=1000000000000)
 (h: ∀c w',Stp w σ w' σ->W7 w0.heap.size e sz R σ w' c ys->K c w'):V0 P .append [t,t] l cs [v,u] w K:=
 X1S b d j b.sat i (fun _ _ h=>h) k f g h
def X4E {α:Type} (w0:World) (σ:Q2) (e:TypeId) (sz:Nat) (R:Q2->α->List Value->Prop) (xs:List α) (v:Value) (w':World):Prop:=Stp w0 σ w' σ/\W7 w0.heap.size e sz R σ w' v xs
def X1V {α:Type} (w0:World) (σ:Q2) (e:TypeId) (sz:Nat) (R:Q2->α->List Value->Prop) (v:Value) (w':World):Prop:=Stp w0 σ w' σ/\W7 w0.heap.size e sz R σ w' v ([]:List α)/\Emp v
variable {w1 : World} {A rest : (Value -> World -> Prop) -> Prop}
theorem Q3Z [Rep R] (xs:List α) (h:A (X4E w σ e sz R xs)) (d:rest (X4E w σ e sz R xs)):J3 (fun w w'=>Below w.heap.size w w') A rest:=
 R3 _ (fun _ _ _ ⟨a,c⟩ b=>⟨a.trans (Stp.of_below a.sat b),c.up (Stp.of_below a.sat b)⟩) h d
theorem X6E [Rep R] (h:A (X1V w σ e sz R)) (f:rest (X1V w σ e sz R)):J3 (fun w w'=>Below w.heap.size w w') A rest:=
 R3 _ (fun _ _ _ ⟨a,c,d⟩ b=>⟨a.trans (Stp.of_below a.sat b),c.up (Stp.of_below a.sat b),d⟩) h f
theorem Q5D (a:Hst w σ w1 σ) (h:Stp w1 σ w' σ) (b:W7 w.heap.size e sz R σ w' v xs):dk (fun w w'=>Below w.heap.size w w') (X4E w σ e sz R xs) w1 v w':=⟨h.bel,a.stp.trans h,b⟩
theorem X7W (a:Hst w σ w1 σ) (h:Stp w1 σ w' σ) (b:W7 w.heap.size e sz R σ w' v ([]:List α)) (c:Emp v):dk (fun w w'=>Below w.heap.size w w') (X1V w σ e sz R) w1 v w':=⟨h.bel,a.stp.trans h,b,c⟩
theorem Ci {t:TypeId} {a:Nat} {z:Value} [ts:TS P t e] [tz:TZ P e sz a z] (R:Q2->α->List Value->Prop) (c:Stp w0 σ0 w σ) (i:0<sz)
 (h: ∀v w',Stp w σ w' σ->W7 w0.heap.size e sz R σ w' v ([]:List α)->Emp v->K v w'):buildSlice P t 0 [] w K:=by
 obtain ⟨cells,d,f⟩:=Fh (P:=P) (t:=t) (sz:=sz) (e:=e) [] U5 U5 w;unfold buildSlice;have b:(Instr.buildSlice t 0 ([]:List (Nat×Value)).toArray).run P w=_:=d;rw[Z0 b];refine h _ _ (Stp.own c.sat _) ⟨[],⟨by simp, .inr ⟨_,_,cells,rfl,c.bel.size,heap_alloc_new w _,by simp,by simp[maxLen],?_,by simp⟩⟩,?_,by simp⟩ ⟨_,rfl⟩
 .have:cells.size=0:=by rw[<-Array.length_toList,f];rfl
  simp[this]
 .intro k g;cases g;exact c.sat.none (Nat.le_refl _)
theorem Q5F [Rep R] {t:TypeId} {a:Nat} {z:Value} [ts:TS P t e] [tz:TZ P e sz a z] (b:(decide (0<sz))=true) (h:rest (X1V w σ e sz R)):
 J3 (fun w w'=>Below w.heap.size w w') (fun φ=> ∀w1:World,Hst w σ w1 σ->buildSlice P t 0 [] w1 (dk (fun w w'=>Below w.heap.size w w') φ w1)) rest:=
 X6E (fun w1 c=>Ci R c.stp (by simpa using b) fun v w' g d f=>X7W c g d f) h
theorem M8.parts {c:Cla} {a b j d e f g mv:Value} (h:M8 σ c [a,b,j,d,e,f,g,mv]):Sl 1 M7 σ j c.like/\Sl 3 I7 σ g c.fields/\Sl 7 F5 σ mv c.methods/\c.name.length<=W6/\c.super.length<=W6:=by
 obtain ⟨_,_,_,i,k⟩:=h;simp only[List.cons.injEq,and_true] at i;obtain ⟨_,_,rfl,_,_,_,rfl,rfl⟩:=i;exact k
theorem F5.parts {m:Hm.Met} {a pv b d e c g:Value} (h:F5 σ m [a,pv,b,d,e,c,g]):Sl 1 M7 σ pv m.params/\Sl 3 Ze σ c m.code/\Sl 4 Wq σ g m.catches/\m.name.length<=W6/\m.result.length<=W6/\Xv m.locals:=by
 obtain ⟨_,_,_,f,i⟩:=h;simp only[List.cons.injEq,and_true] at f;obtain ⟨_,rfl,_,_,_,rfl,rfl⟩:=f;exact i
theorem Q83 (a:Array Value) (n i:Nat) (f:i<n) (k:0<a.size):((madeCells a (n*a.size)).toList.drop (i*a.size)).take a.size=a.toList:=by
 have g:i*a.size+a.size<=n*a.size:=by rw[<-Nat.succ_mul];exact Nat.mul_le_mul_right _ f
 refine List.ext_getElem (by simp[madeCells];omega) fun j h d=>?_
 have c:j<a.size:=by simpa using d
 simp only[List.getElem_take,List.getElem_drop,madeCells,Array.toList_map,List.getElem_map,Array.toList_range,List.getElem_range,Array.getElem_toList];have:(i*a.size+j) % a.size=j:=by rw[Nat.add_comm,Nat.add_mul_mod_self_right];exact Nat.mod_eq_of_lt c
 rw[this]
 simp[c]
theorem X8g {α:Type} {R:Q2->α->List Value->Prop} {t e:TypeId} {sz a n:Nat} {z:Value} [ts:TS P t e] [tz:TZ P e sz a z] (x0:α) (s:X7 w σ) (E:z.cells.size=sz) (f:0<sz) (D:R σ x0 z.cells.toList) (J:n*sz<=16777216) (H:a*n<=281474976710656)
 (h: ∀v w',Stp w σ w' σ->W7 w.heap.size e sz R σ w' v (List.replicate n x0)->(∀k,v.ownBlock=some k->w.heap.size<=k)->K v w'):St P t (I n) (I n) w K:=by
 obtain ⟨i,A,d,m,c⟩:=tz.info
 have l:(i.bytes:Int)*(n:Int)<=281474976710656:=by
  rw[m];have:((a*n:Nat):Int)<=281474976710656:=by omega
  rwa [Int.natCast_mul] at this
 have C:n<=16777216:=by
  have:n*1<=n*sz:=Nat.mul_le_mul_left _ f;omega
 have p:=run_makeSlice (P:=P) w t e i z ts.h A c .i64 .i64 (n:Int) (n:Int) Q5 (Int.le_refl _) (by rw[d];simp only[Int.toNat_natCast];omega) l Q5
 unfold St;rw[Z0 p];simp only[Int.toNat_natCast,d];refine h _ _ (Stp.own s _) ⟨(madeCells z.cells (n*sz)).toList,⟨by simp[madeCells], .inr ⟨w.heap.size,n,madeCells z.cells (n*sz),?_,Nat.le_refl _,heap_alloc_new w _,?_,?_,?_,?_⟩⟩,?_,fun j x g=>?_⟩ ?_
 .simp
 .simp
 .simp[maxLen];omega
 .simp[madeCells]
 .rw[List.take_of_length_le (by simp[madeCells])]
 .intro k o;cases o;exact s.none (Nat.le_refl _)
 .have r:j<n:=by have:=(List.getElem?_eq_some_iff.1 g).1;simpa using this
  have q:x=x0:=by
   rw[List.getElem?_replicate] at g;rw[if_pos r] at g;exact (Option.some.inj g).symm
  subst q;subst E;rw[Q83 z.cells n j r f];exact D
 .intro k o;cases o;exact Nat.le_refl _
variable {B : Nat}
theorem V6.shiftR [hr:Rep R] (h:V6 B e sz R σ w v xs) (t:SLe σ σ') (m: ∀k,v.ownBlock=some k->σ' k=none):V6 B e sz R σ' w v xs:=by
 obtain ⟨a,f,rfl,o,p,c,q⟩:=h;refine ⟨a,f,rfl,o,p,fun b d=>⟨(c b d).1,(c b d).2.1,(c b d).2.2.1,by subst d;exact m _ rfl⟩,fun r=>?_⟩
 obtain ⟨g,l,j,rfl,z,E,A,C,D⟩:=q r;exact ⟨g,l,j,rfl,z,m g rfl,A,C,fun i x s=>hr.up t.le (D i x s)⟩
def Q0i (w:World):World:={w with heap:= #[]}
theorem Uj (d:X7 w σ):Stp (Q0i w) (fun _=>none) w σ:=
 ⟨⟨rfl,rfl,rfl,Nat.zero_le _,fun k c=>absurd c (Nat.not_lt_zero k)⟩,d,fun _ _ h=>(by cases h),fun b a=>absurd a (Nat.not_lt_zero b)⟩
theorem V6.freeze [hr:Rep R] (g:X7 w σ) (h:V6 B e sz R σ w v xs): ∃σ',X7 w σ'/\SLe σ σ'/\Sl sz R σ' v xs/\ ∀k,some k≠v.ownBlock->σ' k=σ k:=by
 obtain ⟨σ',a,c,d,f⟩:=(h.mono (Nat.zero_le B):V6 (Q0i w).heap.size e sz R σ w v xs).keep (Uj g);exact ⟨σ',a.sat,d,c,f⟩
theorem Y8.freeze {b:Nat} {cs:List Value} (g:X7 w σ) (h:Y8 σ w b cs): ∃σ',X7 w σ'/\SLe σ σ'/\J7 σ' ⟨b,0,none⟩ cs/\ ∀k,k≠b->σ' k=σ k:=by
 obtain ⟨σ',a,c,d,f⟩:=h.keep (Uj g) (Nat.zero_le b);exact ⟨σ',a.sat,⟨d⟩,c,f⟩
theorem V6.raise {α:Type} {R:Q2->α->List Value->Prop} {B m sz:Nat} {e:TypeId} {v:Value} {xs:List α} (h:V6 m e sz R σ w v xs) (l: ∀k,v.ownBlock=some k->B<=k):V6 B e sz R σ w v xs:=by
 obtain ⟨a,f,rfl,o,p,d,r⟩:=h;refine ⟨a,f,rfl,o,p,fun b c=>⟨(d b c).1,l _ (by subst c;rfl),(d b c).2.2⟩,fun s=>?_⟩
 obtain ⟨g,j,i,rfl,t,q⟩:=r s;exact ⟨g,j,i,rfl,l g rfl,q⟩
theorem J7.tail {q:Addr} {xs ys:List Value} (h:J7 σ q (xs++ys)):J7 σ (q.add xs.length) ys:=by
 obtain ⟨d,a,e,z,f,g⟩:=h;cases xs with
 | nil=>exact ⟨by simp[Addr.add,d],a,e,z,by simpa [Addr.add] using f,fun i u c=>by simpa [Addr.add] using g i u c⟩
 | cons x xs=>
  refine ⟨by simp[Addr.add,d],a,e,z,by simpa [Addr.add] using f,fun i u c=>?_⟩
  have:=g ((x::xs).length+i) u (by rw[List.getElem?_append_right Q5];simpa using c)
  simpa [Addr.add,Nat.add_assoc] using this
theorem V6.down {α:Type} {R:Q2->α->List Value->Prop} {B sz:Nat} {e:TypeId} {v:Value} {xs:List α} (h:V6 B e sz R σ' w v xs) (C:SLe σ σ') (s: ∀x cs,R σ' x cs->R σ x cs):V6 B e sz R σ w v xs:=by
 obtain ⟨a,f,rfl,p,q,c,r⟩:=h
 have m: ∀k,σ' k=none->σ k=none:=fun k z=>by
  cases e:σ k with
  | none=>rfl
  | some o=>have:=C.le k o e;rw[z] at this;cases this
 refine ⟨a,f,rfl,p,q,fun b d=>⟨(c b d).1,(c b d).2.1,(c b d).2.2.1,m _ (c b d).2.2.2⟩,fun t=>?_⟩;obtain ⟨g,l,j,rfl,D,E,H,J,L⟩:=r t;exact ⟨g,l,j,rfl,D,m _ E,H,J,fun i x A=>s _ _ (L i x A)⟩
variable {b n : Nat} {ds : List Value} {V : Value}
structure VarT (b : Nat) (ds : List Value) (w w' : World) : Prop where
  kp : Kpt (fun j => j = b) w w'
  var : (b < w.heap.size -> w'.heap[b]? = w.heap[b]?) \/ ∃ e, w'.heap[b]? = some (.cells ds.toArray e (0, 0))
structure VarB (w0 : World) (σ0 : Q2) (w1 : World) (σ : Q2) (b n : Nat) (w' : World) : Prop where
  hst : Hst w0 σ0 w' σ
  kp : Kpt (fun j => j = b) w1 w'
  var : ∃ cs, cs.length = n /\ Y8 σ w' b cs
theorem VarT.of_below (h:Below w.heap.size w w'):VarT b ds w w':=⟨.of_below h, .inl fun a=>h.block b a⟩
theorem VarT.of_upd (h:Upd w b w') (a:Y8 σ w' b ds):VarT b ds w w':=⟨.of_upd h rfl, .inr a.2⟩
theorem VarB.step (d:w0.heap.size<=b) (g:ds.length=n) (h:VarB w0 σ0 w1 σ b n w) (k:VarT b ds w w'):VarB w0 σ0 w1 σ b n w':=by
 obtain ⟨cs,c,a⟩:=h.var;refine ⟨⟨h.hst.stp.kp k.kp fun j f=>by subst f;exact ⟨d,a.1⟩⟩,h.kp.trans k.kp,?_⟩
 rcases k.var with e | e
 .exact ⟨cs,c,a.1,by rw[e a.lt];exact a.2⟩
 .exact ⟨ds,g,a.1,e⟩
theorem Q93 {A:(World->World->Prop)->(World->Prop)->Prop} (ds:List Value) {cs:List Value} (a:Stp w0 σ0 w σ) (f:w0.heap.size<=b) (j:Y8 σ w b cs) (i:cs.length=n) (g:ds.length=n)
 (h:A (VarT b ds) (VarB w0 σ0 w σ b n)):dr w A:=
 Pe _ _ ⟨⟨a.trans (Stp.of_below a.sat (Below.refl _ _).drew)⟩, .of_below (Below.refl _ _).drew,cs,i,j⟩ (fun _ _ c d=>c.step f g d) h
theorem Qf (h:V=v):dk (VarT b ds) (fun v _=>V=v) w v w:=⟨.of_below (Below.refl _ _),h⟩
theorem Vm (a:Below w.heap.size w w') (h:V=v):dk (VarT b ds) (fun v _=>V=v) w v w':=⟨.of_below a,h⟩
theorem Wx {t:TypeId} {c:Nat} {z:Value} [tz:TZ P t n c z] {a:(List Value->Value->World->Prop)->Prop} {φ:Value->World->Prop} (m:ds.length=n) (g: ∀u∈ds,u.oneCell'=true) (r: ∀v w,φ v w-> .agg ds.toArray=v)
 (o:a (fun _ _ w=>Y8 σ w b ds)) (f:σ b=none):Gv (VarT b ds) (fun F=> ∀x w,VarB w0 σ0 w1 σ b n w->φ x w->J9 P t (.pointer (some ⟨b,0,none⟩)) x w (dk (VarT b ds) (F [x]) w)) a:=by
 refine Q6Q _ (fun xs v w w' h k=>?_) (fun x w l q=>?_) o
 .rcases k.var with e | e
  .exact ⟨f,by rw[e h.lt];exact h.2⟩
  .exact ⟨f,e⟩
 .have:=r x w q
  subst this;obtain ⟨cs,i,j⟩:=l.var;exact Vk j i m (by rw[List.all_toArray];exact List.all_eq_true.2 g) fun w' p d=>⟨.of_upd p d,d⟩
theorem Nw {c a:Bool} {V:Value} {d:World->(Value->World->Prop)->Prop} (h:c=a->d w (dk (VarT b ds) (fun v _=>V=v) w)):Q1 (.bool c) a w d (dk (VarT b ds) (fun v _=>(if c=a then V else undef)=v) w):=by
 by_cases e:c=a
 .simp only[e,if_true]
  subst e;have:=h rfl;cases c
  .rw[D2];exact this
  .rw[V9];exact this
 .simp only[e,if_false]
  cases c<;>cases a<;>first | exact absurd rfl e | (rw[G1];exact Qf rfl) | (rw[O3];exact Qf rfl)
theorem VarB.hs (h:VarB w0 σ0 w1 σ b n w):Hst w0 σ0 w σ:=h.hst
end Go.Emb
namespace Go.Emb
open Go.RowKit
variable {P : Program} {w : World} {K : Value -> World -> Prop}
theorem X6G {d:Nat} {xs ys:Array Value}:(Op.eqFields d xs ys []).run P w= .ok true w:=by simp[Op.eqFields]
theorem Q0s {d:Nat} {xs ys:Array Value} {f:Field} {a:List Field} {u v:Value} {b c:Bool} (h:f.name≠ "_") [tg:TG P f.type false] (i:xs[f.offset]? =some u) (j:ys[f.offset]? =some v)
 (e:(Op.equalIn d f.type u v).run P w= .ok b w) (g:(Op.eqFields d xs ys a).run P w= .ok c w):(Op.eqFields d xs ys (f::a)).run P w= .ok (b&&c) w:=by
 simp only[Op.eqFields,if_pos h]
 simp[part,Uc tg,i,j,e]
 cases b
 .simp
 .simp[g]
theorem X6H {d:Nat} {t:TypeId} (c:P.underlying t=some .string) (a b:List UInt8):(Op.equalIn (d+1) t (S a) (S b)).run P w= .ok (decide (a=b)) w:=by
 simp[Op.equalIn,run_underlying c,Cj]
theorem Q6R {d:Nat} {t:TypeId} {k c:IntKind} (f:P.underlying t=some (.int k)) (a b:Int):(Op.equalIn (d+1) t (.int c a) (.int c b)).run P w= .ok (decide (a=b)) w:=by
 simp[Op.equalIn,run_underlying f]
 by_cases e:a=b<;>simp[e]
theorem X75 {t:TypeId} {a c:Operand} {xs ys:List Value} {b:Bool} (i:P.underlying t=some (.struct (P.fieldsOf t))) (g:P.stoodInHeld t=false) (f:P.eqGuardType P.depth t=false)
 (d:(Op.eqFields 9999 xs.toArray ys.toArray (P.fieldsOf t).toList).run P w= .ok b w) (h:K (.bool (!b)) w):Z9 P .neq t a c (.agg xs.toArray) (.agg ys.toArray) w K:=by
 have e:Z9 P .neq t a c (.agg xs.toArray) (.agg ys.toArray) w K=K (.bool (!b)) w:=Z0 (by
  simp only[Sem.run_bind,run_eqGuard_agg w .neq t a c xs.toArray ys.toArray f,Result.andThen_ok];rw[run_neq_struct,run_equalIn_struct w 9999 t _ _ i g,d];rfl)
 rw[e];exact h
theorem X6I {t:TypeId} {a c:Operand} {xs ys:List Value} {b:Bool} (i:P.underlying t=some (.struct (P.fieldsOf t))) (g:P.stoodInHeld t=false) (f:P.eqGuardType P.depth t=false)
 (d:(Op.eqFields 9999 xs.toArray ys.toArray (P.fieldsOf t).toList).run P w= .ok b w) (h:K (.bool b) w):Z9 P .eql t a c (.agg xs.toArray) (.agg ys.toArray) w K:=by
 have e:Z9 P .eql t a c (.agg xs.toArray) (.agg ys.toArray) w K=K (.bool b) w:=Z0 (by
  simp only[Sem.run_bind,run_eqGuard_agg w .eql t a c xs.toArray ys.toArray f,Result.andThen_ok];rw[run_eql_struct,run_equalIn_struct w 9999 t _ _ i g,d];rfl)
 rw[e];exact h
variable {w' : World}
def Q2B (o:Option Obj) (m:List (Int×Value)):Prop:=
 ∃b a,o=some (.map b a)/\b.toList.map (fun e=>(e.key,e.val))=m.map (fun p=>(I p.1,p.2))/\(b.toList.map (·.born)).Pairwise (· < ·)/\ ∀e∈b.toList,e.born<a
def C3 (m:List (Int×Value)) (k:Int):Option Value:=match m with
 | []=>none
 | p::r=>if p.1=k then some p.2 else C3 r k
def Uv (m:List (Int×Value)) (k:Int) (v:Value):List (Int×Value):=match m with
 | []=>[(k,v)]
 | p::r=>if p.1=k then (k,v)::r else p::Uv r k v
theorem Cn (k:Int): ∀(c:List MapEntry) (m:List (Int×Value)) (i:Nat),c.map (fun e=>(e.key,e.val))=m.map (fun p=>(I p.1,p.2))->
 ∃r,Instr.findNow (.int .i64) (I k) c i=some r/\r.map (·.2)=C3 m k/\(∀j v,r=some (j,v)->i<=j/\(∃e,c[j-i]? =some e/\e.key=I k)/\ ∀u,(c.modify (j-i) fun e=>{e with key:=I k,val:=u}).map (fun e=>(e.key,e.val))=(Uv m k u).map (fun p=>(I p.1,p.2)))/\
  (r=none-> ∀u,Uv m k u=m++[(k,u)]):=by
 intro c
 induction c with
 | nil=>
  intro m i h;cases m with
  | nil=>exact ⟨none,rfl,rfl,U5,fun _ u=>rfl⟩
  | cons=>simp at h
 | cons e r o=>
  intro m i h;cases m with
  | nil=>simp at h
  | cons p q=>
   simp only[List.map_cons,List.cons.injEq,Prod.mk.injEq] at h;obtain ⟨⟨d,g⟩,l⟩:=h;simp only[Instr.findNow,d,Instr.sameNow,if_true]
   by_cases a:p.1=k
   .have f:(k==p.1)=true:=by simp[a]
    simp only[f];refine ⟨_,rfl,by simp[C3,a,g],?_,by simp⟩
    intro j v b;cases b;refine ⟨Nat.le_refl _,⟨e,by simp,by rw[d,a]⟩,fun u=>?_⟩
    simp[Uv,a,l]
   .have f:(k==p.1)=false:=by simp;exact fun e=>a e.symm
    simp only[f];obtain ⟨A,s,t,y,z⟩:=o q (i+1) l;refine ⟨A,s,by simp[C3,a,t],?_,?_⟩
    .intro j v b
     obtain ⟨D,B,C⟩:=y j v b;refine ⟨by omega,by rw[show j-i=(j-(i+1))+1 by omega];simpa using B,fun u=>?_⟩
     have:=C u;rw[show j-i=(j-(i+1))+1 by omega]
     simp[Uv,a,d,g,this]
    .intro n u
     simp[Uv,a,z n u]
theorem Yn {t:TypeId} (a:P.underlying t=some (.int .i64)) (b:Bool) (k:Int) (w:World):(Instr.checkKey b 10000 t (I k)).run P w= .ok () w:=by
 unfold Instr.checkKey
 simp[run_underlying a]
theorem Q7J {t g f:TypeId} {sz d:Nat} {z:Value} [tm:TM P t g f] [tz:TZ P f sz d z] (b:P.underlying g=some (.int .i64)) {r:Nat} {m:List (Int×Value)} (o:Q2B (w.heap[r]?) m) (k:Int):
 lookup P t (.map (some r)) (I k) true w K=K (match C3 m k with | some v=> .tuple #[v, .bool true] | none=> .tuple #[z, .bool false]) w:=by
 obtain ⟨e,a,j,l,s,u⟩:=o;obtain ⟨q,i,c,y,A⟩:=Cn k e.toList m 0 l;unfold lookup;refine Z0 ?_;simp only[Instr.lookup,Sem.run_bind,run_underlying tm.h,Result.andThen_ok,Instr.findKey,run_underlying b,i,Yn b];have n:(getObj r).run P w= .ok (.map e a) w:=by simp[getObj,Sem.run,j]
 simp only[n,Result.andThen_ok,Sem.run_bind,Sem.run_pure,Yn b,run_underlying b,i];cases q with
 | none=>simp at c;rw[<-c];simp[Xh tz]
 | some p=>simp at c;rw[<-c];simp
def T7 (σ:Q2) (w:World) (r:Nat) (m:List (Int×Value)):Prop:=σ r=none/\Q2B (w.heap[r]?) m
theorem T7.lt {σ:Q2} {r:Nat} {m:List (Int×Value)} (h:T7 σ w r m):r<w.heap.size:=by
 obtain ⟨_,c,a,b,_⟩:=h;exact (Array.getElem?_eq_some_iff.1 b).1
theorem T7.up {σ c:Q2} {r:Nat} {m:List (Int×Value)} (h:T7 σ w r m) (a:Stp w σ w' c):T7 c w' r m:=by
 have b:=h.lt;exact ⟨(a.old r b).trans h.1,(a.bel.block r b).symm▸h.2⟩
theorem Q6Y {t:TypeId} {σ:Q2} (a:X7 w σ) (h: ∀r w',w.heap.size<=r->Stp w σ w' σ->T7 σ w' r []->K (.map (some r)) w'):Oh P t none w K:=by
 unfold Oh;rw[Z0 (v:= .map (some w.heap.size)) (w':=w.alloc (.map #[] 0)) (by simp[Instr.makeMap])]
 exact h _ _ (Nat.le_refl _) (Stp.own a _) ⟨a.none (Nat.le_refl _), #[],0,heap_alloc_new w _,rfl,by simp,by simp⟩
theorem X0G {t Q W:TypeId} [tm:TM P t Q W] (A:P.underlying Q=some (.int .i64)) {σ:Q2} {r:Nat} {m:List (Int×Value)} (Z:T7 σ w r m) (k:Int) (v:Value)
 (h: ∀w',Upd w r w'->T7 σ w' r (Uv m k v)->K undef w'):mapUpdate P t (.map (some r)) (I k) v w K:=by
 obtain ⟨J,l,d,C,L,M,D⟩:=Z;obtain ⟨r',R,q2,q3,q4⟩:=Cn k l.toList m 0 L;have O:(getObj r).run P w= .ok (.map l d) w:=by simp[getObj,Sem.run,C]
 have Y:=(Array.getElem?_eq_some_iff.1 C).1
 have n: ∀o,o=Obj.map l d\/True->(∀c e f,o≠ .cells c e f)->(setObj r o).run P w= .ok () {w with heap:=w.heap.setIfInBounds r o}:=by
  intro o _ _
  simp[setObj,Sem.run,C]
 have B: ∀o,Upd w r {w with heap:=w.heap.setIfInBounds r o}:=fun o=>⟨rfl,rfl,rfl,by simp,fun k A=>by simp only[Array.getElem?_setIfInBounds];rw[if_neg Q5]⟩
 have z: ∀o,({w with heap:=w.heap.setIfInBounds r o}:World).heap[r]? =some o:=fun o=>by simp[Array.getElem?_setIfInBounds,Y]
 unfold mapUpdate;cases r' with
 | none=>
  rw[Jy (w':={w with heap:=w.heap.setIfInBounds r (.map (l.push {key:=I k,val:=v,born:=d}) (d+1))}) (by
   simp only[Instr.mapUpdate,Sem.run_bind,run_underlying tm.h,Result.andThen_ok,Instr.findKey,run_underlying A,R,Yn A,O,Sem.run_pure];exact n _ (.inr trivial) (by intros;simp))]
  refine h _ (B _) ⟨J,_,_,z _,?_,?_,?_⟩
  .rw[q4 rfl];simp[L]
  .simp only[Array.toList_push,List.map_append,List.map_cons,List.map_nil]
   rw[List.pairwise_append];refine ⟨M,by simp,?_⟩
   intro a X b N
   simp at N;subst N
   obtain ⟨e,s,rfl⟩:=List.mem_map.1 X;exact D e s
  .intro e s
   simp at s
   rcases s with s | rfl
   .have:=D e (by simpa using s);omega
   .simp
 | some p=>
  obtain ⟨j,u⟩:=p;obtain ⟨z1,z2,U⟩:=q3 j u rfl;obtain ⟨e,H,V⟩:=z2;simp only[Nat.sub_zero] at H U
  have g:((l.modify j fun e=>{e with key:=I k,val:=v}).toList.map (·.born))=l.toList.map (·.born):=by
   apply List.ext_getElem?;intro i;simp only[Array.toList_modify,List.getElem?_map,List.getElem?_modify]
   by_cases E:j=i<;>cases l.toList[i]? <;>simp[E]
  have q:(Instr.keyThatStays (I k) (I k)).run P w= .ok (I k) w:=by
   simp[Instr.keyThatStays,Instr.sameBits]
  rw[Jy (w':={w with heap:=w.heap.setIfInBounds r (.map (l.modify j fun e=>{e with key:=I k,val:=v}) d)}) (by
   simp only[Instr.mapUpdate,Sem.run_bind,run_underlying tm.h,Result.andThen_ok,Instr.findKey,run_underlying A,R,Yn A,O,Sem.run_pure];rw[show ((l[j]?).map (·.key)).getD (I k)=I k by rw[<-Array.getElem?_toList,H];simp[V]]
   simp only[q,Result.andThen_ok];exact n _ (.inr trivial) (by intros;simp))]
  refine h _ (B _) ⟨J,_,_,z _,?_,?_,?_⟩
  .simp only[Array.toList_modify];exact U v
  .rw[g];exact M
  .intro x hx
   have:x.born∈l.toList.map (·.born):=by rw[<-g];exact List.mem_map.2 ⟨x,hx,rfl⟩
   obtain ⟨y,hy,e⟩:=List.mem_map.1 this;rw[<-e];exact D y hy
variable {r : Nat} {m : List (Int × Value)} {k : Int} {v : Value}
def X4D (o:Option Obj) (m:List (Int×Value)) (c:Nat):Prop:=
 ∃a,o=some (.map a c)/\a.toList.map (fun e=>(e.key,e.val))=m.map (fun p=>(I p.1,p.2))/\(a.toList.map (·.born)).Pairwise (· < ·)/\ ∀e∈a.toList,e.born<c
def Q2A (o:Option Obj) (m:List (Int×Value)) (k:Int) (c:Nat):Prop:=
 ∃b a,o=some (.map b a)/\b.toList.map (fun e=>(e.key,e.val))=m.map (fun p=>(I p.1,p.2))/\(b.toList.map (·.born)).Pairwise (· < ·)/\(∀e∈b.toList,e.born<a)/\ ∃(i:Nat) (e:MapEntry),b[i]? =some e/\e.key=I k/\e.born=c/\ ∀(j:Nat) (x:MapEntry),j<i->b[j]? =some x->x.key≠I k
theorem Q2A.is {o:Option Obj} {c:Nat} (h:Q2A o m k c):Q2B o m:=by
 obtain ⟨b,a,d,e,f,g,_⟩:=h;exact ⟨b,a,d,e,f,g⟩
theorem Q2B.clock {o:Option Obj} (h:Q2B o m): ∃c,X4D o m c:=by
 obtain ⟨a,clock,b,d,e,f⟩:=h;exact ⟨clock,a,b,d,e,f⟩
theorem X49 (h:C3 m k=none):Uv m k v=m++[(k,v)]:=by
 induction m with
 | nil=>rfl
 | cons p q a=>
  simp only[C3] at h
  split at h
  .cases h
  .rename_i e
   simp only[Uv,if_neg e,a h,List.cons_append]
theorem find_none (k:Int): ∀(c:List MapEntry) (i:Nat),Instr.findNow (.int .i64) (I k) c i=some none-> ∀e∈c,e.key≠I k:=by
 intro c
 induction c with
 | nil=>intro i _ e he;cases he
 | cons a f h=>
  intro i b e he;simp only[Instr.findNow] at b
  split at b
  .cases b
  .rename_i d
   rcases List.mem_cons.1 he with rfl | he
   .intro g
    rw[g] at d
    simp[Instr.sameNow] at d
   .exact h _ b e he
  .cases b
theorem find_first (k:Int): ∀(f:List MapEntry) (i a:Nat) (b:Value),Instr.findNow (.int .i64) (I k) f i=some (some (a,b))-> ∀(n:Nat) (e:MapEntry),f[n]? =some e->e.key=I k->a<=i+n:=by
 intro f
 induction f with
 | nil=>intro i a b c;simp[Instr.findNow] at c
 | cons x j l=>
  intro i a b c n e g d;simp only[Instr.findNow] at c
  split at c
  .cases c;omega
  .rename_i h
   cases n with
   | zero=>
    simp at g;subst g
    rw[d] at h
    simp[Instr.sameNow] at h
   | succ n=>
    have:=l _ _ _ c n e (by simpa using g) d
    omega
  .cases c
theorem X3F {t J A:TypeId} {sz n:Nat} {z:Value} [tm:TM P t J A] [tz:TZ P A sz n z] (s:P.underlying J=some (.int .i64)) {c:Nat} (V:X4D (w.heap[r]?) m c) (W:C3 m k=none)
 (h: ∀w',Upd w r w'->Q2A (w'.heap[r]?) (m++[(k,z)]) k c->K (.tuple #[z,I c]) w'):mapEntry P t (.map (some r)) (I k) w K:=by
 obtain ⟨g,q,B,O,C⟩:=V;obtain ⟨N,L,M,X,Y⟩:=Cn k g.toList m 0 B;rw[W] at M
 have u:N=none:=by cases N with
  | none=>rfl
  | some p=>cases M
 subst u;have R:(getObj r).run P w= .ok (.map g c) w:=by simp[getObj,Sem.run,q]
 have U:=(Array.getElem?_eq_some_iff.1 q).1;have y: ∀o,Upd w r {w with heap:=w.heap.setIfInBounds r o}:=fun o=>⟨rfl,rfl,rfl,by simp,fun k s=>by simp only[Array.getElem?_setIfInBounds];rw[if_neg Q5]⟩
 have l: ∀o,({w with heap:=w.heap.setIfInBounds r o}:World).heap[r]? =some o:=fun o=>by simp[Array.getElem?_setIfInBounds,U]
 have i: ∀o,(∀c e f,o≠ .cells c e f)->(setObj r o).run P w= .ok () {w with heap:=w.heap.setIfInBounds r o}:=by
  intro o _
  simp[setObj,Sem.run,q]
 unfold mapEntry
 rw[Z0 (v:= .tuple #[z,I c]) (w':={w with heap:=w.heap.setIfInBounds r (.map (g.push {key:=I k,val:=z,born:=c}) (c+1))}) (by
  simp only[Instr.mapEntry,Sem.run_bind,run_underlying tm.h,Result.andThen_ok,Instr.findKey,run_underlying s,L,Yn s,R,Sem.run_pure,Xh tz];rw[i _ (by intros;simp)]
  rfl)]
 refine h _ (y _) ⟨_,_,l _,?_,?_,?_,g.size,{key:=I k,val:=z,born:=c},by simp,rfl,rfl,fun j x E H=>?_⟩
 .simp[B]
 .simp only[Array.toList_push,List.map_append,List.map_cons,List.map_nil]
  rw[List.pairwise_append];refine ⟨O,by simp,?_⟩
  intro a Q b D
  simp at D;subst D
  obtain ⟨e,d,rfl⟩:=List.mem_map.1 Q;exact C e d
 .intro e d
  simp at d
  rcases d with d | rfl
  .have:=C e (by simpa using d);omega
  .simp
 .rw[Array.getElem?_push_lt E] at H
  have:x∈g.toList:=by
   rw[<-Option.some.inj H];exact Array.getElem_mem_toList E
  exact find_none k _ _ L x this
theorem X46 {c:List MapEntry} (h:(c.map (·.born)).Pairwise (· < ·)) {i j:Nat} {a b:MapEntry} (g:c[i]? =some a) (l:c[j]? =some b) (e:a.born=b.born):i=j:=by
 have n:(c.map (·.born))[i]? =some a.born:=by rw[List.getElem?_map,g];rfl
 have o:(c.map (·.born))[j]? =some b.born:=by rw[List.getElem?_map,l];rfl
 obtain ⟨d,p⟩:=List.getElem?_eq_some_iff.1 n;obtain ⟨f,q⟩:=List.getElem?_eq_some_iff.1 o
 rcases Nat.lt_trichotomy i j with hlt | rfl | hlt
 .have:=List.pairwise_iff_getElem.1 h i j d f hlt
  omega
 .rfl
 .have:=List.pairwise_iff_getElem.1 h j i f d hlt
  omega
theorem X4r {r:Nat} {o:Obj} (h:w.heap[r]? =some o):({w with heap:=w.heap.setIfInBounds r o}:World)=w:=by
 have:w.heap.setIfInBounds r o=w.heap:=by
  apply Array.ext';rw[Array.toList_setIfInBounds];refine List.ext_getElem? fun i=>?_;rw[List.getElem?_set]
  split
  .rename_i e
   subst e;have a:=(Array.getElem?_eq_some_iff.1 h).1;rw[if_pos (by simpa using a)]
   rw[Array.getElem?_toList,h]
  .rfl
 rw[this]
theorem X3G {t N L:TypeId} {sz C:Nat} {z:Value} [tm:TM P t N L] [tz:TZ P L sz C z] (M:P.underlying N=some (.int .i64)) {c:Nat} (Z:Q2A (w.heap[r]?) m k c)
 (h: ∀z,K (.tuple #[z,I c]) w):mapEntry P t (.map (some r)) (I k) w K:=by
 obtain ⟨g,b,E,U,h3,h4,B,y,D,l,Q,R⟩:=Z;obtain ⟨r',J,q2,q3,q4⟩:=Cn k g.toList m 0 U;have V:(getObj r).run P w= .ok (.map g b) w:=by simp[getObj,Sem.run,E]
 have s: ∀o,(∀c e f,o≠ .cells c e f)->(setObj r o).run P w= .ok () {w with heap:=w.heap.setIfInBounds r o}:=by
  intro o _
  simp[setObj,Sem.run,E]
 have a:g.toList[B]? =some y:=by rw[Array.getElem?_toList];exact D
 cases r' with
 | none=>exact absurd l (find_none k _ _ J y (List.mem_of_getElem? a))
 | some p=>
  obtain ⟨j,u⟩:=p;obtain ⟨z1,z2,z3⟩:=q3 j u rfl;obtain ⟨e,A,O⟩:=z2;simp only[Nat.sub_zero] at A;have Y:=find_first k _ _ _ _ J B y a l;have W: ¬j<B:=fun H=>R j e H (by rw[<-Array.getElem?_toList];exact A) O
  have X:j=B:=by omega
  subst X;rw[a] at A;cases A
  have d:(Instr.keyThatStays (I k) (I k)).run P w= .ok (I k) w:=by
   simp[Instr.keyThatStays,Instr.sameBits]
  have q:(g.modify j fun e=>{e with key:=I k})=g:=by
   apply Array.ext';rw[Array.toList_modify];refine List.ext_getElem? fun i=>?_;rw[List.getElem?_modify]
   by_cases n:j=i
   .subst n
    rw[a];obtain ⟨ek,ev,eb⟩:=y;simp only at l;subst l
    simp
   .simp[n]
  unfold mapEntry
  rw[Z0 (v:= .tuple #[u,I c]) (w':=w) (by
   simp only[Instr.mapEntry,Sem.run_bind,run_underlying tm.h,Result.andThen_ok,Instr.findKey,run_underlying M,J,Yn M,V,Sem.run_pure];rw[show ((g[j]?).map (·.key)).getD (I k)=I k by rw[D];exact l]
   simp only[d,Result.andThen_ok,q];rw[s _ (by intros;simp),X4r E,D]
   simp[Q]
   rfl)]
  exact h u
theorem X4Z {t:TypeId} {c:Nat} (hm:Q2A (w.heap[r]?) m k c) (v:Value)
 (h: ∀w',Upd w r w'->Q2A (w'.heap[r]?) (Uv m k v) k c->K undef w'):entryStore P t (.map (some r)) (I c) v w K:=by
 obtain ⟨d,l,O,h2,Z,h4,J,z,M,H,N,Y⟩:=hm;obtain ⟨r',q1,q2,q3,q4⟩:=Cn k d.toList m 0 h2;have hg:(getObj r).run P w= .ok (.map d l) w:=by simp[getObj,Sem.run,O]
 have hl:=(Array.getElem?_eq_some_iff.1 O).1;have X: ∀o,Upd w r {w with heap:=w.heap.setIfInBounds r o}:=fun o=>⟨rfl,rfl,rfl,by simp,fun k hk=>by simp only[Array.getElem?_setIfInBounds];rw[if_neg Q5]⟩
 have L: ∀o,({w with heap:=w.heap.setIfInBounds r o}:World).heap[r]? =some o:=fun o=>by simp[Array.getElem?_setIfInBounds,hl]
 have D: ∀o,(∀c e f,o≠ .cells c e f)->(setObj r o).run P w= .ok () {w with heap:=w.heap.setIfInBounds r o}:=by
  intro o _
  simp[setObj,Sem.run,O]
 have g:d.toList[J]? =some z:=by rw[Array.getElem?_toList];exact M
 cases r' with
 | none=>exact absurd H (find_none k _ _ q1 z (List.mem_of_getElem? g))
 | some p=>
  obtain ⟨j,u⟩:=p;obtain ⟨z1,z2,z3⟩:=q3 j u rfl;obtain ⟨e,E,e2⟩:=z2;simp only[Nat.sub_zero] at E z3;have ak:=find_first k _ _ _ _ q1 J z g H;have ah: ¬j<J:=fun V=>Y j e V (by rw[<-Array.getElem?_toList];exact E) e2
  have hj:j=J:=by omega
  subst hj;rw[g] at E;cases E;have R:=(Array.getElem?_eq_some_iff.1 M).1
  have B:d.findIdx? (fun e=>(e.born:Int)==(c:Int))=some j:=by
   rw[Array.findIdx?_eq_some_iff_getElem];refine ⟨R,?_,fun n hn=>?_⟩
   .have:d[j]=z:=(Array.getElem?_eq_some_iff.1 M).2
    rw[this,N];simp
   .simp only[beq_iff_eq,Bool.not_eq_true]
    intro e;have e:d[n].born=c:=by omega
    have W:n<d.size:=by omega
    have:=X46 Z (i:=n) (j:=j) (a:=d[n]) (b:=z) (by rw[Array.getElem?_toList,Array.getElem?_eq_getElem W]) g (by rw[e,N])
    omega
  have C:d.toList.modify j (fun e=>{e with key:=I k,val:=v})=d.toList.modify j (fun e=>{e with val:=v}):=by
   refine List.ext_getElem? fun i=>?_;rw[List.getElem?_modify,List.getElem?_modify]
   by_cases s:j=i
   .subst s
    rw[g]
    simp[H]
   .simp[s]
  have q:((d.modify j fun e=>{e with val:=v}).toList.map (·.born))=d.toList.map (·.born):=by
   apply List.ext_getElem?;intro i;simp only[Array.toList_modify,List.getElem?_map,List.getElem?_modify]
   by_cases s:j=i<;>cases d.toList[i]? <;>simp[s]
  unfold entryStore
  rw[Jy (w':={w with heap:=w.heap.setIfInBounds r (.map (d.modify j fun e=>{e with val:=v}) l)}) (by
   have Q:(asIntOf (I c)).run P w= .ok (.i64,(c:Int)) w:=by simp[asIntOf]
   simp only[Instr.entryStore,Sem.run_bind,Result.andThen_ok,hg,Sem.run_pure,asInt,Q,B];exact D _ (by intros;simp))]
  refine h _ (X _) ⟨_,_,L _,?_,?_,?_,j,{z with val:=v},?_,H,N,fun n x hn A=>?_⟩
  .rw[Array.toList_modify,<-C]
   exact z3 v
  .rw[q];exact Z
  .intro x A
   have:x.born∈d.toList.map (·.born):=by rw[<-q];exact List.mem_map.2 ⟨x,A,rfl⟩
   obtain ⟨y,hy,e⟩:=List.mem_map.1 this;rw[<-e];exact h4 y hy
  .rw[<-Array.getElem?_toList,Array.toList_modify,List.getElem?_modify,g]
   simp
  .rw[<-Array.getElem?_toList,Array.toList_modify,List.getElem?_modify] at A
   have U: ¬j=n:=by omega
   have A:d.toList[n]? =some x:=by simpa [U] using A
   exact Y n x hn (by rw[<-Array.getElem?_toList];exact A)
end Go.Emb
namespace Go.Emb
open Go.RowKit Go.Hm
variable {P : Program} {w : World} {K : Value -> World -> Prop}
theorem X9i {c:List TypeId} {t:TypeId} {cs:List Bool} {k:IntKind} {a b:Int} (h:K (.int k (max a b)) w):V0 P .max c t cs [.int k a, .int k b] w K:=by
 have d:(builtin .max c.toArray t cs.toArray #[.int k a, .int k b]).run P w= .ok (.value (.int k (max a b))) w:=by
  have:=run_max_int2 (P:=P) (w:=w) c.toArray t k k a b;have e:(if b>a then b else a)=max a b:=by split<;>omega
  rw[e] at this
  simp[builtin,this]
 unfold V0;rw[Yw];unfold Yd;rw[d];exact h
theorem X9j {c:List TypeId} {t:TypeId} {cs:List Bool} {k:IntKind} {a b:Int} (h:K (.int k (min a b)) w):V0 P .min c t cs [.int k a, .int k b] w K:=by
 have d:(builtin .min c.toArray t cs.toArray #[.int k a, .int k b]).run P w= .ok (.value (.int k (min a b))) w:=by
  have:=run_min_int2 (P:=P) (w:=w) c.toArray t k k a b;have e:(if b<a then b else a)=min a b:=by split<;>omega
  rw[e] at this
  simp[builtin,this]
 unfold V0;rw[Yw];unfold Yd;rw[d];exact h
end Go.Emb
