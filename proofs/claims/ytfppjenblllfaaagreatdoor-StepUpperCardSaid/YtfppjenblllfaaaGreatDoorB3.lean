/- Parts of a proof about the given program: its functions as texts of their own, what each computes, plain laws of that. The conditions of each stand in its statement. -/
import Derived.Test.YtfppjenblllfaaaGreatDoorB2
import Derived.Deep.AppendSrc
import Derived.Laws.StructEq
import Derived.Test.YtfppjenblllfaaaGreatDoorB1
import Derived.Laws.OwnMore
import Derived.Laws.CopyRow
set_option linter.unnecessarySimpa false
set_option linter.defProp false
set_option linter.unusedSectionVars false
set_option linter.unusedVariables false
set_option linter.unusedSimpArgs false
namespace Go.Emb
def J1 {α β:Type} (a:β→α→Bool×β):β→List α→Nat→Option Nat×β
 | s,[],_=>(none,s)
 | s,x::xs,i=>if (a s x).1 then (some i,(a s x).2) else J1 a (a s x).2 xs (i+1)
def W5 (o:Option Nat):Int:=match o with | some i=>i | none=> -1
theorem K6 {α:Type} (p:α→Bool): ∀(xs:List α) (i:Nat),(J1 (fun (_:Unit) x=>(p x,())) () xs i).1=(xs.findIdx? p).map (· +i):=by
 intro xs
 induction xs with
 | nil=>intro i;rfl
 | cons x r ih=>
  intro i
  rw[List.findIdx?_cons]
  simp only[J1]
  cases p x with
  | true=>simp
  | false=>
   simp only[Bool.false_eq_true,if_false]
   rw[ih (i+1),Option.map_map]
   congr 1;funext n;simp only[Function.comp];omega
theorem Fh {α β:Type} (a:β→α→Bool×β) (s:β) (xs:List α) (i:Nat):decide ((0:Int)≤W5 (J1 a s xs i).1)=(J1 a s xs i).1.isSome:=by
 cases (J1 a s xs i).1<;>simp[W5]
end Go.Emb
namespace Go.Proofs.YtfppjenblllfaaaGreatDoor
open Go.Emb Go.RowKit Go.Kd Go.Hm
variable {w : World} {K : Value → World → Prop} {σ : Q5}
theorem Ua {β:Type} {xs:List Hm.Met} {v f:Value} (b:β→Hm.Met→Bool×β) (j:β) (a:β→World→Prop) (D:Nat→Prop) (l: ∀s w,a s w→X4 w σ) (z:a j w) (t:Sl 7 M5 σ v xs)
 (A: ∀s x cs (w1:World) (K:Value→World→Prop),x∈xs→Kpt D w w1→a s w1→M5 σ x cs→cs.length=7→(∀w',Kpt D w w'→a (b s x).2 w'→K (.bool (b s x).1) w')→Z1 P f [.agg cs.toArray] w1 K)
 (h: ∀w',Kpt D w w'→a (J1 b j xs 0).2 w'→K (I (W5 (J1 b j xs 0).1)) w'):Q1 P F.g [v,f] w K:=Qf (by
 unfold H9
 ((try simp only[↓M1,M1,Mb,reduceIte]);repeat ((first | refine ld (by assumption) (by assumption) rfl ?_ | refine X8 (by assumption) (by assumption) rfl ?_ | refine Q8 (by assumption) ?_);(try simp only[↓M1,M1,Mb,reduceIte])))
 refine J0 xs.length (fun n w'=>Kpt D w w'∧ ∃s,a s w'∧J1 b j xs 0=J1 b s (xs.drop n) n) ⟨Kpt.refl,j,z,rfl⟩ fun n w1 d E m=>?_
 obtain ⟨u,s,m,e⟩:=m
 have q:=l s w1 m
 ((try simp only[↓M1,M1,Mb,reduceIte]);repeat ((first | refine ld (by assumption) (by assumption) rfl ?_ | refine X8 (by assumption) (by assumption) rfl ?_ | refine Q8 (by assumption) ?_);(try simp only[↓M1,M1,Mb,reduceIte])))
 refine Q6 (fun r=>?_) (fun r=>?_)
 ·have c:n<xs.length:=by simpa using r
  refine L8 t c fun p cs B g y=>?_
  refine Y7 q B g ?_
  refine A s xs[n] cs w1 _ (List.getElem_mem c) u m y g fun C i k=>?_
  rw[List.drop_eq_getElem_cons c] at e
  simp only[J1] at e
  refine Q6 (fun o=>?_) (fun o=>?_)
  ·rw[o] at e
   have:=h C i
   rw[e] at this
   exact this k
  ·rw[o] at e
   ((try simp only[↓M1,M1,Mb,reduceIte]);repeat ((first | refine ld (by assumption) (by assumption) rfl ?_ | refine X8 (by assumption) (by assumption) rfl ?_ | refine Q8 (by assumption) ?_);(try simp only[↓M1,M1,Mb,reduceIte])))
   exact Y2 t.max c ⟨i,_,k,by simpa using e⟩
 ·have c: ¬n<xs.length:=by simpa using r
  rw[List.drop_eq_nil_of_le (by omega)] at e
  have:=h w1 u
  rw[e] at this
  exact this m)
theorem Yd {β:Type} {xs:List Hm.Met} {v f:Value} (b:β→Hm.Met→Bool×β) (d:β) (a:β→World→Prop) (D:Nat→Prop) (c: ∀s w,a s w→X4 w σ) (e:a d w) (j:Sl 7 M5 σ v xs)
 (g: ∀s x cs (w1:World) (K:Value→World→Prop),x∈xs→Kpt D w w1→a s w1→M5 σ x cs→cs.length=7→(∀w',Kpt D w w'→a (b s x).2 w'→K (.bool (b s x).1) w')→Z1 P f [.agg cs.toArray] w1 K)
 (h: ∀w',Kpt D w w'→a (J1 b d xs 0).2 w'→K (.bool (J1 b d xs 0).1.isSome) w'):Q1 P F.a [v,f] w K:=P3 (by
 unfold E4
 refine Ua b d a D c e j g fun w1 k i=>?_
 (try simp only[↓M1,M1,Mb,reduceIte])
 rw[Fh]
 exact h w1 k i)
theorem Rt {xs:List Hm.Met} {v f:Value} (p:Hm.Met→Bool) (hs:X4 w σ) (hv:Sl 7 M5 σ v xs)
 (hf: ∀x cs (w1:World) (K:Value→World→Prop),x∈xs→X4 w1 σ→M5 σ x cs→cs.length=7→(∀w',Below w1.heap.size w1 w'→K (.bool (p x)) w')→Z1 P f [.agg cs.toArray] w1 K)
 (h: ∀w',Below w.heap.size w w'→K (I (W5 (xs.findIdx? p))) w'):Q1 P F.g [v,f] w K:=by
 refine Ua (fun (_:Unit) x=>(p x,())) () (fun _ w'=>Below w.heap.size w w') (fun _=>False) (fun _ w' hb=>hs.below hb) (Below.refl _ _) hv (fun s x cs w1 K hx hk hi hr hl hK=>hf x cs w1 K hx (hs.below hi) hr hl fun w' hb=>hK w' (.of_below (bt hi hb)) (bt hi hb)) fun w' hk hi=>?_
 rw[K6]
 simpa using h w' hi
theorem R1 {xs:List Hm.Met} {v f:Value} (p:Hm.Met→Bool) (hs:X4 w σ) (hv:Sl 7 M5 σ v xs)
 (hf: ∀x cs (w1:World) (K:Value→World→Prop),x∈xs→X4 w1 σ→M5 σ x cs→cs.length=7→(∀w',Below w1.heap.size w1 w'→K (.bool (p x)) w')→Z1 P f [.agg cs.toArray] w1 K)
 (h: ∀w',Below w.heap.size w w'→K (.bool (xs.any p)) w'):Q1 P F.a [v,f] w K:=by
 refine Yd (fun (_:Unit) x=>(p x,())) () (fun _ w'=>Below w.heap.size w w') (fun _=>False) (fun _ w' hb=>hs.below hb) (Below.refl _ _) hv (fun s x cs w1 K hx hk hi hr hl hK=>hf x cs w1 K hx (hs.below hi) hr hl fun w' hb=>hK w' (.of_below (bt hi hb)) (bt hi hb)) fun w' hk hi=>?_
 rw[K6]
 simpa using h w' hi
theorem Vk {β:Type} {xs:List Fld} {v f:Value} (b:β→Fld→Bool×β) (j:β) (a:β→World→Prop) (D:Nat→Prop) (l: ∀s w,a s w→X4 w σ) (z:a j w) (t:Sl 3 E6 σ v xs)
 (A: ∀s x cs (w1:World) (K:Value→World→Prop),x∈xs→Kpt D w w1→a s w1→E6 σ x cs→cs.length=3→(∀w',Kpt D w w'→a (b s x).2 w'→K (.bool (b s x).1) w')→Z1 P f [.agg cs.toArray] w1 K)
 (h: ∀w',Kpt D w w'→a (J1 b j xs 0).2 w'→K (I (W5 (J1 b j xs 0).1)) w'):Q1 P F.j [v,f] w K:=Qw (by
 unfold R3
 ((try simp only[↓M1,M1,Mb,reduceIte]);repeat ((first | refine ld (by assumption) (by assumption) rfl ?_ | refine X8 (by assumption) (by assumption) rfl ?_ | refine Q8 (by assumption) ?_);(try simp only[↓M1,M1,Mb,reduceIte])))
 refine J0 xs.length (fun n w'=>Kpt D w w'∧ ∃s,a s w'∧J1 b j xs 0=J1 b s (xs.drop n) n) ⟨Kpt.refl,j,z,rfl⟩ fun n w1 d E m=>?_
 obtain ⟨u,s,m,e⟩:=m
 have q:=l s w1 m
 ((try simp only[↓M1,M1,Mb,reduceIte]);repeat ((first | refine ld (by assumption) (by assumption) rfl ?_ | refine X8 (by assumption) (by assumption) rfl ?_ | refine Q8 (by assumption) ?_);(try simp only[↓M1,M1,Mb,reduceIte])))
 refine Q6 (fun r=>?_) (fun r=>?_)
 ·have c:n<xs.length:=by simpa using r
  refine L8 t c fun p cs B g y=>?_
  refine Y7 q B g ?_
  refine A s xs[n] cs w1 _ (List.getElem_mem c) u m y g fun C i k=>?_
  rw[List.drop_eq_getElem_cons c] at e
  simp only[J1] at e
  refine Q6 (fun o=>?_) (fun o=>?_)
  ·rw[o] at e
   have:=h C i
   rw[e] at this
   exact this k
  ·rw[o] at e
   ((try simp only[↓M1,M1,Mb,reduceIte]);repeat ((first | refine ld (by assumption) (by assumption) rfl ?_ | refine X8 (by assumption) (by assumption) rfl ?_ | refine Q8 (by assumption) ?_);(try simp only[↓M1,M1,Mb,reduceIte])))
   exact Y2 t.max c ⟨i,_,k,by simpa using e⟩
 ·have c: ¬n<xs.length:=by simpa using r
  rw[List.drop_eq_nil_of_le (by omega)] at e
  have:=h w1 u
  rw[e] at this
  exact this m)
theorem Ej {β:Type} {xs:List Fld} {v f:Value} (b:β→Fld→Bool×β) (d:β) (a:β→World→Prop) (D:Nat→Prop) (c: ∀s w,a s w→X4 w σ) (e:a d w) (j:Sl 3 E6 σ v xs)
 (g: ∀s x cs (w1:World) (K:Value→World→Prop),x∈xs→Kpt D w w1→a s w1→E6 σ x cs→cs.length=3→(∀w',Kpt D w w'→a (b s x).2 w'→K (.bool (b s x).1) w')→Z1 P f [.agg cs.toArray] w1 K)
 (h: ∀w',Kpt D w w'→a (J1 b d xs 0).2 w'→K (.bool (J1 b d xs 0).1.isSome) w'):Q1 P F.f [v,f] w K:=T4 (by
 unfold H5
 refine Vk b d a D c e j g fun w1 k i=>?_
 (try simp only[↓M1,M1,Mb,reduceIte])
 rw[Fh]
 exact h w1 k i)
theorem Cj {xs:List Fld} {v f:Value} (p:Fld→Bool) (hs:X4 w σ) (hv:Sl 3 E6 σ v xs)
 (hf: ∀x cs (w1:World) (K:Value→World→Prop),x∈xs→X4 w1 σ→E6 σ x cs→cs.length=3→(∀w',Below w1.heap.size w1 w'→K (.bool (p x)) w')→Z1 P f [.agg cs.toArray] w1 K)
 (h: ∀w',Below w.heap.size w w'→K (I (W5 (xs.findIdx? p))) w'):Q1 P F.j [v,f] w K:=by
 refine Vk (fun (_:Unit) x=>(p x,())) () (fun _ w'=>Below w.heap.size w w') (fun _=>False) (fun _ w' hb=>hs.below hb) (Below.refl _ _) hv (fun s x cs w1 K hx hk hi hr hl hK=>hf x cs w1 K hx (hs.below hi) hr hl fun w' hb=>hK w' (.of_below (bt hi hb)) (bt hi hb)) fun w' hk hi=>?_
 rw[K6]
 simpa using h w' hi
theorem Ym {xs:List Fld} {v f:Value} (p:Fld→Bool) (hs:X4 w σ) (hv:Sl 3 E6 σ v xs)
 (hf: ∀x cs (w1:World) (K:Value→World→Prop),x∈xs→X4 w1 σ→E6 σ x cs→cs.length=3→(∀w',Below w1.heap.size w1 w'→K (.bool (p x)) w')→Z1 P f [.agg cs.toArray] w1 K)
 (h: ∀w',Below w.heap.size w w'→K (.bool (xs.any p)) w'):Q1 P F.f [v,f] w K:=by
 refine Ej (fun (_:Unit) x=>(p x,())) () (fun _ w'=>Below w.heap.size w w') (fun _=>False) (fun _ w' hb=>hs.below hb) (Below.refl _ _) hv (fun s x cs w1 K hx hk hi hr hl hK=>hf x cs w1 K hx (hs.below hi) hr hl fun w' hb=>hK w' (.of_below (bt hi hb)) (bt hi hb)) fun w' hk hi=>?_
 rw[K6]
 simpa using h w' hi
theorem Sq {β:Type} {xs:List Ins} {v f:Value} (b:β→Ins→Bool×β) (j:β) (a:β→World→Prop) (D:Nat→Prop) (l: ∀s w,a s w→X4 w σ) (z:a j w) (t:Sl 3 I8 σ v xs)
 (A: ∀s x cs (w1:World) (K:Value→World→Prop),x∈xs→Kpt D w w1→a s w1→I8 σ x cs→cs.length=3→(∀w',Kpt D w w'→a (b s x).2 w'→K (.bool (b s x).1) w')→Z1 P f [.agg cs.toArray] w1 K)
 (h: ∀w',Kpt D w w'→a (J1 b j xs 0).2 w'→K (I (W5 (J1 b j xs 0).1)) w'):Q1 P F.z [v,f] w K:=Xd (by
 unfold R9
 ((try simp only[↓M1,M1,Mb,reduceIte]);repeat ((first | refine ld (by assumption) (by assumption) rfl ?_ | refine X8 (by assumption) (by assumption) rfl ?_ | refine Q8 (by assumption) ?_);(try simp only[↓M1,M1,Mb,reduceIte])))
 refine J0 xs.length (fun n w'=>Kpt D w w'∧ ∃s,a s w'∧J1 b j xs 0=J1 b s (xs.drop n) n) ⟨Kpt.refl,j,z,rfl⟩ fun n w1 d E m=>?_
 obtain ⟨u,s,m,e⟩:=m
 have q:=l s w1 m
 ((try simp only[↓M1,M1,Mb,reduceIte]);repeat ((first | refine ld (by assumption) (by assumption) rfl ?_ | refine X8 (by assumption) (by assumption) rfl ?_ | refine Q8 (by assumption) ?_);(try simp only[↓M1,M1,Mb,reduceIte])))
 refine Q6 (fun r=>?_) (fun r=>?_)
 ·have c:n<xs.length:=by simpa using r
  refine L8 t c fun p cs B g y=>?_
  refine Y7 q B g ?_
  refine A s xs[n] cs w1 _ (List.getElem_mem c) u m y g fun C i k=>?_
  rw[List.drop_eq_getElem_cons c] at e
  simp only[J1] at e
  refine Q6 (fun o=>?_) (fun o=>?_)
  ·rw[o] at e
   have:=h C i
   rw[e] at this
   exact this k
  ·rw[o] at e
   ((try simp only[↓M1,M1,Mb,reduceIte]);repeat ((first | refine ld (by assumption) (by assumption) rfl ?_ | refine X8 (by assumption) (by assumption) rfl ?_ | refine Q8 (by assumption) ?_);(try simp only[↓M1,M1,Mb,reduceIte])))
   exact Y2 t.max c ⟨i,_,k,by simpa using e⟩
 ·have c: ¬n<xs.length:=by simpa using r
  rw[List.drop_eq_nil_of_le (by omega)] at e
  have:=h w1 u
  rw[e] at this
  exact this m)
theorem Ex {β:Type} {xs:List Ins} {v f:Value} (b:β→Ins→Bool×β) (d:β) (a:β→World→Prop) (D:Nat→Prop) (c: ∀s w,a s w→X4 w σ) (e:a d w) (j:Sl 3 I8 σ v xs)
 (g: ∀s x cs (w1:World) (K:Value→World→Prop),x∈xs→Kpt D w w1→a s w1→I8 σ x cs→cs.length=3→(∀w',Kpt D w w'→a (b s x).2 w'→K (.bool (b s x).1) w')→Z1 P f [.agg cs.toArray] w1 K)
 (h: ∀w',Kpt D w w'→a (J1 b d xs 0).2 w'→K (.bool (J1 b d xs 0).1.isSome) w'):Q1 P F.l [v,f] w K:=T5 (by
 unfold H3
 refine Sq b d a D c e j g fun w1 k i=>?_
 (try simp only[↓M1,M1,Mb,reduceIte])
 rw[Fh]
 exact h w1 k i)
theorem En {xs:List Ins} {v f:Value} (p:Ins→Bool) (hs:X4 w σ) (hv:Sl 3 I8 σ v xs)
 (hf: ∀x cs (w1:World) (K:Value→World→Prop),x∈xs→X4 w1 σ→I8 σ x cs→cs.length=3→(∀w',Below w1.heap.size w1 w'→K (.bool (p x)) w')→Z1 P f [.agg cs.toArray] w1 K)
 (h: ∀w',Below w.heap.size w w'→K (.bool (xs.any p)) w'):Q1 P F.l [v,f] w K:=by
 refine Ex (fun (_:Unit) x=>(p x,())) () (fun _ w'=>Below w.heap.size w w') (fun _=>False) (fun _ w' hb=>hs.below hb) (Below.refl _ _) hv (fun s x cs w1 K hx hk hi hr hl hK=>hf x cs w1 K hx (hs.below hi) hr hl fun w' hb=>hK w' (.of_below (bt hi hb)) (bt hi hb)) fun w' hk hi=>?_
 rw[K6]
 simpa using h w' hi
theorem Sy {β:Type} {xs:List Cat} {v f:Value} (b:β→Cat→Bool×β) (j:β) (a:β→World→Prop) (D:Nat→Prop) (l: ∀s w,a s w→X4 w σ) (z:a j w) (t:Sl 4 Ys σ v xs)
 (A: ∀s x cs (w1:World) (K:Value→World→Prop),x∈xs→Kpt D w w1→a s w1→Ys σ x cs→cs.length=4→(∀w',Kpt D w w'→a (b s x).2 w'→K (.bool (b s x).1) w')→Z1 P f [.agg cs.toArray] w1 K)
 (h: ∀w',Kpt D w w'→a (J1 b j xs 0).2 w'→K (I (W5 (J1 b j xs 0).1)) w'):Q1 P F.a0 [v,f] w K:=Xf (by
 unfold R5
 ((try simp only[↓M1,M1,Mb,reduceIte]);repeat ((first | refine ld (by assumption) (by assumption) rfl ?_ | refine X8 (by assumption) (by assumption) rfl ?_ | refine Q8 (by assumption) ?_);(try simp only[↓M1,M1,Mb,reduceIte])))
 refine J0 xs.length (fun n w'=>Kpt D w w'∧ ∃s,a s w'∧J1 b j xs 0=J1 b s (xs.drop n) n) ⟨Kpt.refl,j,z,rfl⟩ fun n w1 d E m=>?_
 obtain ⟨u,s,m,e⟩:=m
 have q:=l s w1 m
 ((try simp only[↓M1,M1,Mb,reduceIte]);repeat ((first | refine ld (by assumption) (by assumption) rfl ?_ | refine X8 (by assumption) (by assumption) rfl ?_ | refine Q8 (by assumption) ?_);(try simp only[↓M1,M1,Mb,reduceIte])))
 refine Q6 (fun r=>?_) (fun r=>?_)
 ·have c:n<xs.length:=by simpa using r
  refine L8 t c fun p cs B g y=>?_
  refine Y7 q B g ?_
  refine A s xs[n] cs w1 _ (List.getElem_mem c) u m y g fun C i k=>?_
  rw[List.drop_eq_getElem_cons c] at e
  simp only[J1] at e
  refine Q6 (fun o=>?_) (fun o=>?_)
  ·rw[o] at e
   have:=h C i
   rw[e] at this
   exact this k
  ·rw[o] at e
   ((try simp only[↓M1,M1,Mb,reduceIte]);repeat ((first | refine ld (by assumption) (by assumption) rfl ?_ | refine X8 (by assumption) (by assumption) rfl ?_ | refine Q8 (by assumption) ?_);(try simp only[↓M1,M1,Mb,reduceIte])))
   exact Y2 t.max c ⟨i,_,k,by simpa using e⟩
 ·have c: ¬n<xs.length:=by simpa using r
  rw[List.drop_eq_nil_of_le (by omega)] at e
  have:=h w1 u
  rw[e] at this
  exact this m)
theorem Es {β:Type} {xs:List Cat} {v f:Value} (b:β→Cat→Bool×β) (d:β) (a:β→World→Prop) (D:Nat→Prop) (c: ∀s w,a s w→X4 w σ) (e:a d w) (j:Sl 4 Ys σ v xs)
 (g: ∀s x cs (w1:World) (K:Value→World→Prop),x∈xs→Kpt D w w1→a s w1→Ys σ x cs→cs.length=4→(∀w',Kpt D w w'→a (b s x).2 w'→K (.bool (b s x).1) w')→Z1 P f [.agg cs.toArray] w1 K)
 (h: ∀w',Kpt D w w'→a (J1 b d xs 0).2 w'→K (.bool (J1 b d xs 0).1.isSome) w'):Q1 P F.m [v,f] w K:=T6 (by
 unfold H6
 refine Sy b d a D c e j g fun w1 k i=>?_
 (try simp only[↓M1,M1,Mb,reduceIte])
 rw[Fh]
 exact h w1 k i)
theorem Ek {xs:List Cat} {v f:Value} (p:Cat→Bool) (hs:X4 w σ) (hv:Sl 4 Ys σ v xs)
 (hf: ∀x cs (w1:World) (K:Value→World→Prop),x∈xs→X4 w1 σ→Ys σ x cs→cs.length=4→(∀w',Below w1.heap.size w1 w'→K (.bool (p x)) w')→Z1 P f [.agg cs.toArray] w1 K)
 (h: ∀w',Below w.heap.size w w'→K (.bool (xs.any p)) w'):Q1 P F.m [v,f] w K:=by
 refine Es (fun (_:Unit) x=>(p x,())) () (fun _ w'=>Below w.heap.size w w') (fun _=>False) (fun _ w' hb=>hs.below hb) (Below.refl _ _) hv (fun s x cs w1 K hx hk hi hr hl hK=>hf x cs w1 K hx (hs.below hi) hr hl fun w' hb=>hK w' (.of_below (bt hi hb)) (bt hi hb)) fun w' hk hi=>?_
 rw[K6]
 simpa using h w' hi
theorem Cd {β:Type} {xs:List Cla} {v f:Value} (b:β→Cla→Bool×β) (j:β) (a:β→World→Prop) (D:Nat→Prop) (l: ∀s w,a s w→X4 w σ) (z:a j w) (t:Sl 8 U4 σ v xs)
 (A: ∀s x cs (w1:World) (K:Value→World→Prop),x∈xs→Kpt D w w1→a s w1→U4 σ x cs→cs.length=8→(∀w',Kpt D w w'→a (b s x).2 w'→K (.bool (b s x).1) w')→Z1 P f [.agg cs.toArray] w1 K)
 (h: ∀w',Kpt D w w'→a (J1 b j xs 0).2 w'→K (I (W5 (J1 b j xs 0).1)) w'):Q1 P F.n [v,f] w K:=Qv (by
 unfold R8
 ((try simp only[↓M1,M1,Mb,reduceIte]);repeat ((first | refine ld (by assumption) (by assumption) rfl ?_ | refine X8 (by assumption) (by assumption) rfl ?_ | refine Q8 (by assumption) ?_);(try simp only[↓M1,M1,Mb,reduceIte])))
 refine J0 xs.length (fun n w'=>Kpt D w w'∧ ∃s,a s w'∧J1 b j xs 0=J1 b s (xs.drop n) n) ⟨Kpt.refl,j,z,rfl⟩ fun n w1 d E m=>?_
 obtain ⟨u,s,m,e⟩:=m
 have q:=l s w1 m
 ((try simp only[↓M1,M1,Mb,reduceIte]);repeat ((first | refine ld (by assumption) (by assumption) rfl ?_ | refine X8 (by assumption) (by assumption) rfl ?_ | refine Q8 (by assumption) ?_);(try simp only[↓M1,M1,Mb,reduceIte])))
 refine Q6 (fun r=>?_) (fun r=>?_)
 ·have c:n<xs.length:=by simpa using r
  refine L8 t c fun p cs B g y=>?_
  refine Y7 q B g ?_
  refine A s xs[n] cs w1 _ (List.getElem_mem c) u m y g fun C i k=>?_
  rw[List.drop_eq_getElem_cons c] at e
  simp only[J1] at e
  refine Q6 (fun o=>?_) (fun o=>?_)
  ·rw[o] at e
   have:=h C i
   rw[e] at this
   exact this k
  ·rw[o] at e
   ((try simp only[↓M1,M1,Mb,reduceIte]);repeat ((first | refine ld (by assumption) (by assumption) rfl ?_ | refine X8 (by assumption) (by assumption) rfl ?_ | refine Q8 (by assumption) ?_);(try simp only[↓M1,M1,Mb,reduceIte])))
   exact Y2 t.max c ⟨i,_,k,by simpa using e⟩
 ·have c: ¬n<xs.length:=by simpa using r
  rw[List.drop_eq_nil_of_le (by omega)] at e
  have:=h w1 u
  rw[e] at this
  exact this m)
theorem Ch {xs:List Cla} {v f:Value} (p:Cla→Bool) (hs:X4 w σ) (hv:Sl 8 U4 σ v xs)
 (hf: ∀x cs (w1:World) (K:Value→World→Prop),x∈xs→X4 w1 σ→U4 σ x cs→cs.length=8→(∀w',Below w1.heap.size w1 w'→K (.bool (p x)) w')→Z1 P f [.agg cs.toArray] w1 K)
 (h: ∀w',Below w.heap.size w w'→K (I (W5 (xs.findIdx? p))) w'):Q1 P F.n [v,f] w K:=by
 refine Cd (fun (_:Unit) x=>(p x,())) () (fun _ w'=>Below w.heap.size w w') (fun _=>False) (fun _ w' hb=>hs.below hb) (Below.refl _ _) hv (fun s x cs w1 K hx hk hi hr hl hK=>hf x cs w1 K hx (hs.below hi) hr hl fun w' hb=>hK w' (.of_below (bt hi hb)) (bt hi hb)) fun w' hk hi=>?_
 rw[K6]
 simpa using h w' hi
theorem Av {β:Type} {xs:List Q9} {v f:Value} (b:β→Q9→Bool×β) (i:β) (a:β→World→Prop) (D:Nat→Prop) (k: ∀s w,a s w→X4 w σ) (A:a i w) (u:Sl 1 Y1 σ v xs)
 (B: ∀s x (w1:World) (K:Value→World→Prop),x∈xs→Kpt D w w1→a s w1→x.length≤Z9→(∀w',Kpt D w w'→a (b s x).2 w'→K (.bool (b s x).1) w')→Z1 P f [S x] w1 K)
 (h: ∀w',Kpt D w w'→a (J1 b i xs 0).2 w'→K (I (W5 (J1 b i xs 0).1)) w'):Q1 P F.s [v,f] w K:=Jj (by
 unfold G0
 ((try simp only[↓M1,M1,Mb,reduceIte]);repeat ((first | refine ld (by assumption) (by assumption) rfl ?_ | refine X8 (by assumption) (by assumption) rfl ?_ | refine Q8 (by assumption) ?_);(try simp only[↓M1,M1,Mb,reduceIte])))
 refine J0 xs.length (fun n w'=>Kpt D w w'∧ ∃s,a s w'∧J1 b i xs 0=J1 b s (xs.drop n) n) ⟨Kpt.refl,i,A,rfl⟩ fun n w1 d H m=>?_
 obtain ⟨y,s,m,e⟩:=m
 have q:=k s w1 m
 ((try simp only[↓M1,M1,Mb,reduceIte]);repeat ((first | refine ld (by assumption) (by assumption) rfl ?_ | refine X8 (by assumption) (by assumption) rfl ?_ | refine Q8 (by assumption) ?_);(try simp only[↓M1,M1,Mb,reduceIte])))
 refine Q6 (fun r=>?_) (fun r=>?_)
 ·have c:n<xs.length:=by simpa using r
  refine L8 u c fun p cs C t z=>?_
  obtain ⟨rfl,l⟩:=z
  refine X8 q C rfl ?_
  refine B s xs[n] w1 _ (List.getElem_mem c) y m l fun E g j=>?_
  rw[List.drop_eq_getElem_cons c] at e
  simp only[J1] at e
  refine Q6 (fun o=>?_) (fun o=>?_)
  ·rw[o] at e
   have:=h E g
   rw[e] at this
   exact this j
  ·rw[o] at e
   ((try simp only[↓M1,M1,Mb,reduceIte]);repeat ((first | refine ld (by assumption) (by assumption) rfl ?_ | refine X8 (by assumption) (by assumption) rfl ?_ | refine Q8 (by assumption) ?_);(try simp only[↓M1,M1,Mb,reduceIte])))
   exact Y2 u.max c ⟨g,_,j,by simpa using e⟩
 ·have c: ¬n<xs.length:=by simpa using r
  rw[List.drop_eq_nil_of_le (by omega)] at e
  have:=h w1 y
  rw[e] at this
  exact this m)
theorem Td {xs:List Q9} {v f:Value} (p:Q9→Bool) (hs:X4 w σ) (hv:Sl 1 Y1 σ v xs)
 (hf: ∀x (w1:World) (K:Value→World→Prop),x∈xs→X4 w1 σ→x.length≤Z9→(∀w',Below w1.heap.size w1 w'→K (.bool (p x)) w')→Z1 P f [S x] w1 K)
 (h: ∀w',Below w.heap.size w w'→K (I (W5 (xs.findIdx? p))) w'):Q1 P F.s [v,f] w K:=by
 refine Av (fun (_:Unit) x=>(p x,())) () (fun _ w'=>Below w.heap.size w w') (fun _=>False) (fun _ w' hb=>hs.below hb) (Below.refl _ _) hv (fun s x w1 K hx hk hi hr hK=>hf x w1 K hx (hs.below hi) hr fun w' hb=>hK w' (.of_below (bt hi hb)) (bt hi hb)) fun w' hk hi=>?_
 rw[K6]
 simpa using h w' hi
theorem Q3L {α:Type} (p:α→Bool) (xs:List α):decide ((0:Int)≤W5 (xs.findIdx? p))=xs.any p:=by
 rw[Bool.eq_iff_iff,List.any_eq_true]
 simp only[decide_eq_true_eq]
 cases h:xs.findIdx? p with
 | none=>
  simp only[W5]
  constructor
  ·intro h;omega
  ·rintro ⟨x,c,a⟩;have:=List.findIdx?_eq_none_iff.1 h x c;rw[a] at this;cases this
 | some i=>
  simp only[W5]
  obtain ⟨b,a,_⟩:=List.findIdx?_eq_some_iff_getElem.1 h
  exact ⟨fun _=>⟨xs[i],List.getElem_mem b,a⟩,fun _=>by omega⟩
theorem F5 {xs:List Q9} {v f:Value} (p:Q9→Bool) (c:X4 w σ) (a:Sl 1 Y1 σ v xs)
 (b: ∀x (w1:World) (K:Value→World→Prop),x∈xs→X4 w1 σ→x.length≤Z9→(∀w',Below w1.heap.size w1 w'→K (.bool (p x)) w')→Z1 P f [S x] w1 K)
 (h: ∀w',Below w.heap.size w w'→K (.bool (xs.any p)) w'):Q1 P F.d [v,f] w K:=Yk (by
 unfold B3
 refine Td p c a b fun w1 d=>?_
 (try simp only[↓M1,M1,Mb,reduceIte])
 rw[Q3L]
 exact h w1 d)
theorem Q2z {xs:List Q9} {v:Value} {x:Q9} (q:X4 w σ) (i:Sl 1 Y1 σ v xs)
 (h:K (I (W5 (xs.findIdx? fun y=>decide (x=y)))) w):Q1 P F.aq [v,S x] w K:=Wg (by
 unfold P5
 ((try simp only[↓M1,M1,Mb,reduceIte]);repeat ((first | refine ld (by assumption) (by assumption) rfl ?_ | refine X8 (by assumption) (by assumption) rfl ?_ | refine Q8 (by assumption) ?_);(try simp only[↓M1,M1,Mb,reduceIte])))
 refine J0 xs.length (fun n w'=>w=w'∧(xs.take n).any (fun y=>decide (x=y))=false) ⟨rfl,rfl⟩ fun n w1 d m b=>?_
 obtain ⟨rfl,b⟩:=b
 ((try simp only[↓M1,M1,Mb,reduceIte]);repeat ((first | refine ld (by assumption) (by assumption) rfl ?_ | refine X8 (by assumption) (by assumption) rfl ?_ | refine Q8 (by assumption) ?_);(try simp only[↓M1,M1,Mb,reduceIte])))
 refine Q6 (fun e=>?_) (fun e=>?_)
 ·have a:n<xs.length:=by simpa using e
  refine L8 i a fun p cs o g k=>?_
  obtain ⟨rfl,f⟩:=k
  ((try simp only[↓M1,M1,Mb,reduceIte]);repeat ((first | refine ld (by assumption) (by assumption) rfl ?_ | refine X8 (by assumption) (by assumption) rfl ?_ | refine Q8 (by assumption) ?_);(try simp only[↓M1,M1,Mb,reduceIte])))
  refine Q6 (fun c=>?_) (fun c=>?_)
  ·have:xs.findIdx? (fun y=>decide (x=y))=some n:=by
    rw[List.findIdx?_eq_some_iff_getElem]
    refine ⟨a,c,fun j r=>?_⟩
    have:=List.any_eq_false.1 b (xs[j]) (List.mem_take_iff_getElem.2 ⟨j,by omega,rfl⟩)
    exact this
   rw[this] at h;exact h
  ·((try simp only[↓M1,M1,Mb,reduceIte]);repeat ((first | refine ld (by assumption) (by assumption) rfl ?_ | refine X8 (by assumption) (by assumption) rfl ?_ | refine Q8 (by assumption) ?_);(try simp only[↓M1,M1,Mb,reduceIte])))
   exact Y2 i.max a ⟨rfl,by rw[M3 a,b,c];rfl⟩
 ·have a: ¬n<xs.length:=by simpa using e
  rw[D0 a] at b
  have:xs.findIdx? (fun y=>decide (x=y))=none:=by
   rw[List.findIdx?_eq_none_iff];intro y l;simpa using List.any_eq_false.1 b y l
  rw[this] at h;exact h)
theorem Q0o {xs:List Q9} {v:Value} {x:Q9} (b:X4 w σ) (a:Sl 1 Y1 σ v xs)
 (h:K (.bool (xs.any fun y=>decide (x=y))) w):Q1 P F.ad [v,S x] w K:=Jt (by
 unfold G5
 refine Q2z b a ?_
 (try simp only[↓M1,M1,Mb,reduceIte])
 rw[Q3L]
 exact h)
end Go.Proofs.YtfppjenblllfaaaGreatDoor

namespace Go.Emb
abbrev Q5.Le (σ σ':Q5):Prop:= ∀b o,σ b=some o→σ' b=some o
def H0 {α:Type} (f:α→List UInt8):List α→List α→Bool
 | _,[]=>true
 | seen,x::r=> !(seen.any fun y=>decide (f y=f x))&&H0 f (seen++[x]) r
theorem Ud {α:Type} (p:α→Bool) (xs:List α):(!xs.any fun x=> !p x)=xs.all p:=by
 rw[List.all_eq_not_any_not]
end Go.Emb
namespace Go.Proofs.YtfppjenblllfaaaGreatDoor
open Go.Emb Go.RowKit Go.Kd Go.Hm
variable {w : World} {K : Value → World → Prop} {σ : Q5}
theorem Pi {xs:List Hm.Met} {v:Value} {fn:Fn} {k d:Array Value} (p:Hm.Met→Bool) (B:X4 w σ) (A:Sl 7 M5 σ v xs)
 (u: ∀(σ1:Q5) x cs (w1:World) (K:Value→World→Prop),σ.Le σ1→x∈xs→X4 w1 σ1→M5 σ1 x cs→cs.length=7→(∀w',Below w1.heap.size w1 w'→K (.bool (p x)) w')→Z1 P (.func fn k d) [.agg cs.toArray] w1 K)
 (h: ∀w',Below w.heap.size w w'→K (.bool (xs.all p)) w'):Q1 P F.al [v, .func fn k d] w K:=Dq (by
 unfold Zh
 refine M9 B fun a w1 σ1 f m=>?_
 simp only[Value.cells] at m
 ((try simp only[↓M1,M1,Mb,reduceIte]);repeat ((first | refine ld (by assumption) (by assumption) rfl ?_ | refine X8 (by assumption) (by assumption) rfl ?_ | refine Q8 (by assumption) ?_);(try simp only[↓M1,M1,Mb,reduceIte])))
 refine R1 (fun x=> !p x) f.sat (A.up f) (fun x cs n K z g s l t=>?_) fun n y=>?_
 ·refine Y9 (Og ?_)
  unfold Xm
  refine M9 g fun b r C c i=>?_
  refine X8 c.sat (m.up c) rfl ?_
  refine Y7 c.sat i l ?_
  refine u C x _ r _ (fun b o e=>c.le b o (f.le b o e)) z c.sat (Rep.up c.le s) l fun q j=>?_
  (try simp only[↓M1,M1,Mb,reduceIte])
  exact t q (bt c.bel j)
 ·(try simp only[↓M1,M1,Mb,reduceIte])
  rw[Ud]
  exact h n (bt f.bel y))
theorem Q0t {xs:List Fld} {v:Value} {fn:Fn} {k d:Array Value} (p:Fld→Bool) (B:X4 w σ) (A:Sl 3 E6 σ v xs)
 (u: ∀(σ1:Q5) x cs (w1:World) (K:Value→World→Prop),σ.Le σ1→x∈xs→X4 w1 σ1→E6 σ1 x cs→cs.length=3→(∀w',Below w1.heap.size w1 w'→K (.bool (p x)) w')→Z1 P (.func fn k d) [.agg cs.toArray] w1 K)
 (h: ∀w',Below w.heap.size w w'→K (.bool (xs.all p)) w'):Q1 P F.ap [v, .func fn k d] w K:=Hp (by
 unfold Jg
 refine M9 B fun a w1 σ1 f m=>?_
 simp only[Value.cells] at m
 ((try simp only[↓M1,M1,Mb,reduceIte]);repeat ((first | refine ld (by assumption) (by assumption) rfl ?_ | refine X8 (by assumption) (by assumption) rfl ?_ | refine Q8 (by assumption) ?_);(try simp only[↓M1,M1,Mb,reduceIte])))
 refine Ym (fun x=> !p x) f.sat (A.up f) (fun x cs n K z g s l t=>?_) fun n y=>?_
 ·refine Y9 (Oy ?_)
  unfold Yh
  refine M9 g fun b r C c i=>?_
  refine X8 c.sat (m.up c) rfl ?_
  refine Y7 c.sat i l ?_
  refine u C x _ r _ (fun b o e=>c.le b o (f.le b o e)) z c.sat (Rep.up c.le s) l fun q j=>?_
  (try simp only[↓M1,M1,Mb,reduceIte])
  exact t q (bt c.bel j)
 ·(try simp only[↓M1,M1,Mb,reduceIte])
  rw[Ud]
  exact h n (bt f.bel y))
theorem Q0s {xs:List Ins} {v:Value} {fn:Fn} {k d:Array Value} (p:Ins→Bool) (B:X4 w σ) (A:Sl 3 I8 σ v xs)
 (u: ∀(σ1:Q5) x cs (w1:World) (K:Value→World→Prop),σ.Le σ1→x∈xs→X4 w1 σ1→I8 σ1 x cs→cs.length=3→(∀w',Below w1.heap.size w1 w'→K (.bool (p x)) w')→Z1 P (.func fn k d) [.agg cs.toArray] w1 K)
 (h: ∀w',Below w.heap.size w w'→K (.bool (xs.all p)) w'):Q1 P F.ar [v, .func fn k d] w K:=Hr (by
 unfold Zz
 refine M9 B fun a w1 σ1 f m=>?_
 simp only[Value.cells] at m
 ((try simp only[↓M1,M1,Mb,reduceIte]);repeat ((first | refine ld (by assumption) (by assumption) rfl ?_ | refine X8 (by assumption) (by assumption) rfl ?_ | refine Q8 (by assumption) ?_);(try simp only[↓M1,M1,Mb,reduceIte])))
 refine En (fun x=> !p x) f.sat (A.up f) (fun x cs n K z g s l t=>?_) fun n y=>?_
 ·refine Y9 (Dc ?_)
  unfold Xz
  refine M9 g fun b r C c i=>?_
  refine X8 c.sat (m.up c) rfl ?_
  refine Y7 c.sat i l ?_
  refine u C x _ r _ (fun b o e=>c.le b o (f.le b o e)) z c.sat (Rep.up c.le s) l fun q j=>?_
  (try simp only[↓M1,M1,Mb,reduceIte])
  exact t q (bt c.bel j)
 ·(try simp only[↓M1,M1,Mb,reduceIte])
  rw[Ud]
  exact h n (bt f.bel y))
theorem Q0n {xs:List Cat} {v:Value} {fn:Fn} {k d:Array Value} (p:Cat→Bool) (B:X4 w σ) (A:Sl 4 Ys σ v xs)
 (u: ∀(σ1:Q5) x cs (w1:World) (K:Value→World→Prop),σ.Le σ1→x∈xs→X4 w1 σ1→Ys σ1 x cs→cs.length=4→(∀w',Below w1.heap.size w1 w'→K (.bool (p x)) w')→Z1 P (.func fn k d) [.agg cs.toArray] w1 K)
 (h: ∀w',Below w.heap.size w w'→K (.bool (xs.all p)) w'):Q1 P F.au [v, .func fn k d] w K:=Hn (by
 unfold Jd
 refine M9 B fun a w1 σ1 f m=>?_
 simp only[Value.cells] at m
 ((try simp only[↓M1,M1,Mb,reduceIte]);repeat ((first | refine ld (by assumption) (by assumption) rfl ?_ | refine X8 (by assumption) (by assumption) rfl ?_ | refine Q8 (by assumption) ?_);(try simp only[↓M1,M1,Mb,reduceIte])))
 refine Ek (fun x=> !p x) f.sat (A.up f) (fun x cs n K z g s l t=>?_) fun n y=>?_
 ·refine Y9 (Ot ?_)
  unfold Yi
  refine M9 g fun b r C c i=>?_
  refine X8 c.sat (m.up c) rfl ?_
  refine Y7 c.sat i l ?_
  refine u C x _ r _ (fun b o e=>c.le b o (f.le b o e)) z c.sat (Rep.up c.le s) l fun q j=>?_
  (try simp only[↓M1,M1,Mb,reduceIte])
  exact t q (bt c.bel j)
 ·(try simp only[↓M1,M1,Mb,reduceIte])
  rw[Ud]
  exact h n (bt f.bel y))
theorem Cp {xs:List Q9} {v:Value} {fn:Fn} {g c:Array Value} (p:Q9→Bool) (r:X4 w σ) (q:Sl 1 Y1 σ v xs)
 (m: ∀(σ1:Q5) x (w1:World) (K:Value→World→Prop),σ.Le σ1→x∈xs→X4 w1 σ1→x.length≤Z9→(∀w',Below w1.heap.size w1 w'→K (.bool (p x)) w')→Z1 P (.func fn g c) [S x] w1 K)
 (h: ∀w',Below w.heap.size w w'→K (.bool (xs.all p)) w'):Q1 P F.a5 [v, .func fn g c] w K:=Ft (by
 unfold Wq
 refine M9 r fun a w1 σ1 d i=>?_
 simp only[Value.cells] at i
 ((try simp only[↓M1,M1,Mb,reduceIte]);repeat ((first | refine ld (by assumption) (by assumption) rfl ?_ | refine X8 (by assumption) (by assumption) rfl ?_ | refine Q8 (by assumption) ?_);(try simp only[↓M1,M1,Mb,reduceIte])))
 refine F5 (fun x=> !p x) d.sat (q.up d) (fun x f K o b k l=>?_) fun f n=>?_
 ·refine Y9 (Rx ?_)
  unfold Jp
  refine X8 b i rfl ?_
  refine m σ1 x f _ d.le o b k fun j e=>?_
  (try simp only[↓M1,M1,Mb,reduceIte])
  exact l j e
 ·(try simp only[↓M1,M1,Mb,reduceIte])
  rw[Ud]
  exact h f (bt d.bel n))
theorem Q0q {xs:List Hm.Met} {v:Value} {fn:Fn} {E l:Array Value} (f:Hm.Met→Q9) (hs:X4 w σ) (A:Sl 7 M5 σ v xs)
 (Z: ∀(σ1:Q5) x cs (w1:World) (K:Value→World→Prop),σ.Le σ1→X4 w1 σ1→M5 σ1 x cs→cs.length=7→(∀w',Below w1.heap.size w1 w'→K (S (f x)) w')→Z1 P (.func fn E l) [.agg cs.toArray] w1 K)
 (h: ∀w',Below w.heap.size w w'→K (.bool (H0 f [] xs)) w'):Q1 P F.ao [v, .func fn E l] w K:=Hk (by
 unfold Ja
 refine M9 hs fun a w1 σ1 B ha=>?_
 simp only[Value.cells] at ha
 have V:=B.sat
 replace A:=A.up B
 ((try simp only[↓M1,M1,Mb,reduceIte]);repeat ((first | refine ld (by assumption) (by assumption) rfl ?_ | refine X8 (by assumption) (by assumption) rfl ?_ | refine Q8 (by assumption) ?_);(try simp only[↓M1,M1,Mb,reduceIte])))
 refine J0 xs.length (fun n w'=>Below w1.heap.size w1 w'∧H0 f [] xs=H0 f (xs.take n) (xs.drop n)) ⟨Below.refl _ _,rfl⟩ fun n w2 d hn hi=>?_
 obtain ⟨j,r⟩:=hi
 have u:=V.below j
 ((try simp only[↓M1,M1,Mb,reduceIte]);repeat ((first | refine ld (by assumption) (by assumption) rfl ?_ | refine X8 (by assumption) (by assumption) rfl ?_ | refine Q8 (by assumption) ?_);(try simp only[↓M1,M1,Mb,reduceIte])))
 refine Q6 (fun W=>?_) (fun W=>?_)
 ·have k:n<xs.length:=by simpa using W
  rw[List.drop_eq_getElem_cons k] at r
  simp only[H0] at r
  refine L8 A k fun p cs hl g Y=>?_
  refine Y7 u hl g ?_
  refine Y5 u (by rfl) g (Rep.one Y) fun q w3 σ3 i hq=>?_
  refine Sx (A.up i) none (some (I n)) 0 n (.inl ⟨rfl,rfl⟩) (.inr rfl) (by omega) (by omega) fun v' Q=>?_
  ((try simp only[↓M1,M1,Mb,reduceIte]);repeat ((first | refine ld (by assumption) (by assumption) rfl ?_ | refine X8 (by assumption) (by assumption) rfl ?_ | refine Q8 (by assumption) ?_);(try simp only[↓M1,M1,Mb,reduceIte])))
  refine R1 (fun y=>decide (f y=f xs[n])) i.sat Q (fun y ys X K hy N L C hK=>?_) fun X O=>?_
  ·refine Y9 (Da ?_)
   unfold Yj
   refine M9 N fun b w5 J c U=>?_
   have D:=(ha.up i).up c
   have M:=hq.up c
   have s:σ.Le J:=fun b o e=>c.le b o (i.le b o (B.le b o e))
   refine Mx (Below.refl _ _) ?_
   refine X2 (.func fn E l) (fun w j=>X8 (c.sat.below j) D rfl (X6 rfl)) ?_
   refine X2 (.agg ys.toArray) (fun w j=>Y7 (c.sat.below j) U C (X6 rfl)) ?_
   refine X2 (S (f y)) (fun t t' w j e e'=>by rw[e,e'];exact Z J y ys w _ s (c.sat.below j) (Rep.up c.le L) C fun w' H=>Q1I H rfl) ?_
   refine X2 (.func fn E l) (fun w j=>X8 (c.sat.below j) D rfl (X6 rfl)) ?_
   refine X2 (.agg cs.toArray) (fun w j=>Y7 (c.sat.below j) M g (X6 rfl)) ?_
   rintro _ _ _ _ _ w6 z rfl rfl rfl rfl rfl
   refine Z J xs[n] cs w6 _ s (c.sat.below z) (Rep.up (fun b o e=>c.le b o (i.le b o e)) Y) g fun w7 R=>?_
   (try simp only[↓M1,M1,Mb,reduceIte])
   exact hK w7 (bt (bt c.bel z) R)
  ·have m:=bt j (bt i.bel O)
   simp only[List.drop_zero,Nat.sub_zero] at*
   refine Q6 (fun hh=>?_) (fun hh=>?_)
   ·rw[hh] at r
    have:=h X (bt B.bel m)
    rw[r] at this;exact this
   ·rw[hh] at r
    ((try simp only[↓M1,M1,Mb,reduceIte]);repeat ((first | refine ld (by assumption) (by assumption) rfl ?_ | refine X8 (by assumption) (by assumption) rfl ?_ | refine Q8 (by assumption) ?_);(try simp only[↓M1,M1,Mb,reduceIte])))
    refine Y2 A.max k ⟨m,?_⟩
    rw[r,List.take_add_one,List.getElem?_eq_getElem k];rfl
 ·have k: ¬n<xs.length:=by simpa using W
  rw[List.drop_eq_nil_of_le (by omega)] at r
  have:=h w2 (bt B.bel j)
  rw[r] at this;exact this)
theorem Q1d {xs:List Fld} {v:Value} {fn:Fn} {E l:Array Value} (f:Fld→Q9) (hs:X4 w σ) (A:Sl 3 E6 σ v xs)
 (Z: ∀(σ1:Q5) x cs (w1:World) (K:Value→World→Prop),σ.Le σ1→X4 w1 σ1→E6 σ1 x cs→cs.length=3→(∀w',Below w1.heap.size w1 w'→K (S (f x)) w')→Z1 P (.func fn E l) [.agg cs.toArray] w1 K)
 (h: ∀w',Below w.heap.size w w'→K (.bool (H0 f [] xs)) w'):Q1 P F.ay [v, .func fn E l] w K:=Sf (by
 unfold Jq
 refine M9 hs fun a w1 σ1 B ha=>?_
 simp only[Value.cells] at ha
 have V:=B.sat
 replace A:=A.up B
 ((try simp only[↓M1,M1,Mb,reduceIte]);repeat ((first | refine ld (by assumption) (by assumption) rfl ?_ | refine X8 (by assumption) (by assumption) rfl ?_ | refine Q8 (by assumption) ?_);(try simp only[↓M1,M1,Mb,reduceIte])))
 refine J0 xs.length (fun n w'=>Below w1.heap.size w1 w'∧H0 f [] xs=H0 f (xs.take n) (xs.drop n)) ⟨Below.refl _ _,rfl⟩ fun n w2 d hn hi=>?_
 obtain ⟨j,r⟩:=hi
 have u:=V.below j
 ((try simp only[↓M1,M1,Mb,reduceIte]);repeat ((first | refine ld (by assumption) (by assumption) rfl ?_ | refine X8 (by assumption) (by assumption) rfl ?_ | refine Q8 (by assumption) ?_);(try simp only[↓M1,M1,Mb,reduceIte])))
 refine Q6 (fun W=>?_) (fun W=>?_)
 ·have k:n<xs.length:=by simpa using W
  rw[List.drop_eq_getElem_cons k] at r
  simp only[H0] at r
  refine L8 A k fun p cs hl g Y=>?_
  refine Y7 u hl g ?_
  refine Y5 u (by rfl) g (Rep.one Y) fun q w3 σ3 i hq=>?_
  refine Sx (A.up i) none (some (I n)) 0 n (.inl ⟨rfl,rfl⟩) (.inr rfl) (by omega) (by omega) fun v' Q=>?_
  ((try simp only[↓M1,M1,Mb,reduceIte]);repeat ((first | refine ld (by assumption) (by assumption) rfl ?_ | refine X8 (by assumption) (by assumption) rfl ?_ | refine Q8 (by assumption) ?_);(try simp only[↓M1,M1,Mb,reduceIte])))
  refine Ym (fun y=>decide (f y=f xs[n])) i.sat Q (fun y ys X K hy N L C hK=>?_) fun X O=>?_
  ·refine Y9 (Ds ?_)
   unfold Zo
   refine M9 N fun b w5 J c U=>?_
   have D:=(ha.up i).up c
   have M:=hq.up c
   have s:σ.Le J:=fun b o e=>c.le b o (i.le b o (B.le b o e))
   refine Mx (Below.refl _ _) ?_
   refine X2 (.func fn E l) (fun w j=>X8 (c.sat.below j) D rfl (X6 rfl)) ?_
   refine X2 (.agg ys.toArray) (fun w j=>Y7 (c.sat.below j) U C (X6 rfl)) ?_
   refine X2 (S (f y)) (fun t t' w j e e'=>by rw[e,e'];exact Z J y ys w _ s (c.sat.below j) (Rep.up c.le L) C fun w' H=>Q1I H rfl) ?_
   refine X2 (.func fn E l) (fun w j=>X8 (c.sat.below j) D rfl (X6 rfl)) ?_
   refine X2 (.agg cs.toArray) (fun w j=>Y7 (c.sat.below j) M g (X6 rfl)) ?_
   rintro _ _ _ _ _ w6 z rfl rfl rfl rfl rfl
   refine Z J xs[n] cs w6 _ s (c.sat.below z) (Rep.up (fun b o e=>c.le b o (i.le b o e)) Y) g fun w7 R=>?_
   (try simp only[↓M1,M1,Mb,reduceIte])
   exact hK w7 (bt (bt c.bel z) R)
  ·have m:=bt j (bt i.bel O)
   simp only[List.drop_zero,Nat.sub_zero] at*
   refine Q6 (fun hh=>?_) (fun hh=>?_)
   ·rw[hh] at r
    have:=h X (bt B.bel m)
    rw[r] at this;exact this
   ·rw[hh] at r
    ((try simp only[↓M1,M1,Mb,reduceIte]);repeat ((first | refine ld (by assumption) (by assumption) rfl ?_ | refine X8 (by assumption) (by assumption) rfl ?_ | refine Q8 (by assumption) ?_);(try simp only[↓M1,M1,Mb,reduceIte])))
    refine Y2 A.max k ⟨m,?_⟩
    rw[r,List.take_add_one,List.getElem?_eq_getElem k];rfl
 ·have k: ¬n<xs.length:=by simpa using W
  rw[List.drop_eq_nil_of_le (by omega)] at r
  have:=h w2 (bt B.bel j)
  rw[r] at this;exact this)
theorem Q3k {xs:List Q9} {v:Value} {fn:Fn} {D k:Array Value} (f:Q9→Q9) (hs:X4 w σ) (A:Sl 1 Y1 σ v xs)
 (U: ∀(σ1:Q5) x (w1:World) (K:Value→World→Prop),σ.Le σ1→X4 w1 σ1→x.length≤Z9→(∀w',Below w1.heap.size w1 w'→K (S (f x)) w')→Z1 P (.func fn D k) [S x] w1 K)
 (h: ∀w',Below w.heap.size w w'→K (.bool (H0 f [] xs)) w'):Q1 P F.aJ [v, .func fn D k] w K:=Ky (by
 unfold Lr
 refine M9 hs fun a w1 σ1 B W=>?_
 simp only[Value.cells] at W
 have N:=B.sat
 replace A:=A.up B
 ((try simp only[↓M1,M1,Mb,reduceIte]);repeat ((first | refine ld (by assumption) (by assumption) rfl ?_ | refine X8 (by assumption) (by assumption) rfl ?_ | refine Q8 (by assumption) ?_);(try simp only[↓M1,M1,Mb,reduceIte])))
 refine J0 xs.length (fun n w'=>Below w1.heap.size w1 w'∧H0 f [] xs=H0 f (xs.take n) (xs.drop n)) ⟨Below.refl _ _,rfl⟩ fun n w2 d hn hi=>?_
 obtain ⟨i,m⟩:=hi
 have s:=N.below i
 ((try simp only[↓M1,M1,Mb,reduceIte]);repeat ((first | refine ld (by assumption) (by assumption) rfl ?_ | refine X8 (by assumption) (by assumption) rfl ?_ | refine Q8 (by assumption) ?_);(try simp only[↓M1,M1,Mb,reduceIte])))
 refine Q6 (fun O=>?_) (fun O=>?_)
 ·have g:n<xs.length:=by simpa using O
  rw[List.drop_eq_getElem_cons g] at m
  simp only[H0] at m
  refine L8 A g fun p cs hl V X=>?_
  obtain ⟨rfl,z⟩:=X
  refine X8 s hl rfl ?_
  refine U0 s (by rfl) rfl rfl fun q w3 Q c hq=>?_
  refine Sx (A.up c) none (some (I n)) 0 n (.inl ⟨rfl,rfl⟩) (.inr rfl) (by omega) (by omega) fun v' L=>?_
  ((try simp only[↓M1,M1,Mb,reduceIte]);repeat ((first | refine ld (by assumption) (by assumption) rfl ?_ | refine X8 (by assumption) (by assumption) rfl ?_ | refine Q8 (by assumption) ?_);(try simp only[↓M1,M1,Mb,reduceIte])))
  refine F5 (fun y=>decide (f y=f xs[n])) c.sat L (fun y R K hy j H Y=>?_) fun R J=>?_
  ·refine Y9 (Sm ?_)
   unfold Ux
   have C:=W.up c
   have r:σ.Le Q:=fun b o e=>c.le b o (B.le b o e)
   refine Mx (Below.refl _ _) ?_
   refine X2 (.func fn D k) (fun w i=>X8 (j.below i) C rfl (X6 rfl)) ?_
   refine X2 (S (f y)) (fun t w i e=>by rw[e];exact U Q y w _ r (j.below i) H fun w' E=>Q1I E rfl) ?_
   refine X2 (.func fn D k) (fun w i=>X8 (j.below i) C rfl (X6 rfl)) ?_
   refine X2 (S xs[n]) (fun w i=>X8 (j.below i) hq rfl (X6 rfl)) ?_
   rintro _ _ _ _ w6 u rfl rfl rfl rfl
   refine U Q xs[n] w6 _ r (j.below u) z fun Z M=>?_
   (try simp only[↓M1,M1,Mb,reduceIte])
   exact Y Z (bt u M)
  ·have l:=bt i (bt c.bel J)
   simp only[List.drop_zero,Nat.sub_zero] at*
   refine Q6 (fun hh=>?_) (fun hh=>?_)
   ·rw[hh] at m
    have:=h R (bt B.bel l)
    rw[m] at this;exact this
   ·rw[hh] at m
    ((try simp only[↓M1,M1,Mb,reduceIte]);repeat ((first | refine ld (by assumption) (by assumption) rfl ?_ | refine X8 (by assumption) (by assumption) rfl ?_ | refine Q8 (by assumption) ?_);(try simp only[↓M1,M1,Mb,reduceIte])))
    refine Y2 A.max g ⟨l,?_⟩
    rw[m,List.take_add_one,List.getElem?_eq_getElem g];rfl
 ·have g: ¬n<xs.length:=by simpa using O
  rw[List.drop_eq_nil_of_le (by omega)] at m
  have:=h w2 (bt B.bel i)
  rw[m] at this;exact this)
theorem Q5c {P:Program} {w:World} (d:Nat) (t e:TypeId) (a:Option Addr) (n c:Nat) (h:P.underlying t=some (.slice e)):
 (Op.equalIn (d+1) t (.slice a n c) (.slice none 0 0)).run P w= .ok a.isNone w:=by
 cases a<;>simp[Op.equalIn,run_underlying h]
theorem Di {t e:TypeId} {f g:Operand} [ts:TS P t e] {a:Option Addr} {n c:Nat} {b:Bool} (i:a.isNone=b) (d:K (.bool b) w):Q4 P .eql t f g (.slice a n c) (.slice none 0 0) w K:=by
 have j:(Op.equal t (.slice a n c) (.slice none 0 0)).run P w= .ok b w:=by
  have:=Q5c (P:=P) (w:=w) 9999 t e a n c ts.h
  rw[i] at this
  exact this
 unfold Q4
 rw[Y0 (v:= .bool b) (w':=w) (by simp[eqGuard,Go.binOp,j])]
 exact d
theorem Us {xs:List Q9} {v:Value} (g:X4 w σ) (f:Sl 1 Y1 σ v xs) (B:xs.length≤1000000)
 (h: ∀e w' b,Stp w σ w' b→Sl 1 Y1 b e xs→K e w'):Q1 P F.b [v] w K:=R7 (by
 unfold N6
 have c:=f
 obtain ⟨a,j,rfl,t,A,r,z⟩:=f
 refine Di rfl ?_
 refine Q6 (fun i=>?_) (fun i=>?_)
 ·have:a=none:=by simpa using i
  have u:=r this
  have m:xs=[]:=List.eq_nil_of_length_eq_zero (by omega)
  subst m
  exact h _ w σ (Stp.refl g) Sl.nil
 ·refine Qb (R:=Y1) (sz:=1) (Stp.refl g) [] [] rfl rfl (by simp) (by rfl) trivial fun y w1 n p _=>?_
  refine app n p c (by rfl) (by simp only[List.length_nil];omega) (by simp only[List.length_nil];omega) fun C q s k d _=>?_
  obtain ⟨b,l,o,_⟩:=d.keep k
  exact h _ q b l o)
theorem Of {xs:List Fld} {v:Value} (g:X4 w σ) (f:Sl 3 E6 σ v xs) (B:xs.length≤1000000)
 (h: ∀e w' b,Stp w σ w' b→Sl 3 E6 b e xs→K e w'):Q1 P F.a9 [v] w K:=Yz (by
 unfold B9
 have c:=f
 obtain ⟨a,j,rfl,t,A,r,z⟩:=f
 refine Di rfl ?_
 refine Q6 (fun i=>?_) (fun i=>?_)
 ·have:a=none:=by simpa using i
  have u:=r this
  have m:xs=[]:=List.eq_nil_of_length_eq_zero (by omega)
  subst m
  exact h _ w σ (Stp.refl g) Sl.nil
 ·refine Qb (R:=E6) (sz:=3) (Stp.refl g) [] [] rfl rfl (by simp) (by rfl) trivial fun y w1 n p _=>?_
  refine app n p c (by rfl) (by simp only[List.length_nil];omega) (by simp only[List.length_nil];omega) fun C q s k d _=>?_
  obtain ⟨b,l,o,_⟩:=d.keep k
  exact h _ q b l o)
theorem Oe {xs:List Ins} {v:Value} (g:X4 w σ) (f:Sl 3 I8 σ v xs) (B:xs.length≤1000000)
 (h: ∀e w' b,Stp w σ w' b→Sl 3 I8 b e xs→K e w'):Q1 P F.aa [v] w K:=Yv (by
 unfold F3
 have c:=f
 obtain ⟨a,j,rfl,t,A,r,z⟩:=f
 refine Di rfl ?_
 refine Q6 (fun i=>?_) (fun i=>?_)
 ·have:a=none:=by simpa using i
  have u:=r this
  have m:xs=[]:=List.eq_nil_of_length_eq_zero (by omega)
  subst m
  exact h _ w σ (Stp.refl g) Sl.nil
 ·refine Qb (R:=I8) (sz:=3) (Stp.refl g) [] [] rfl rfl (by simp) (by rfl) trivial fun y w1 n p _=>?_
  refine app n p c (by rfl) (by simp only[List.length_nil];omega) (by simp only[List.length_nil];omega) fun C q s k d _=>?_
  obtain ⟨b,l,o,_⟩:=d.keep k
  exact h _ q b l o)
theorem Nw {xs:List Cat} {v:Value} (g:X4 w σ) (f:Sl 4 Ys σ v xs) (B:xs.length≤1000000)
 (h: ∀e w' b,Stp w σ w' b→Sl 4 Ys b e xs→K e w'):Q1 P F.ab [v] w K:=Zg (by
 unfold B8
 have c:=f
 obtain ⟨a,j,rfl,t,A,r,z⟩:=f
 refine Di rfl ?_
 refine Q6 (fun i=>?_) (fun i=>?_)
 ·have:a=none:=by simpa using i
  have u:=r this
  have m:xs=[]:=List.eq_nil_of_length_eq_zero (by omega)
  subst m
  exact h _ w σ (Stp.refl g) Sl.nil
 ·refine Qb (R:=Ys) (sz:=4) (Stp.refl g) [] [] rfl rfl (by simp) (by rfl) trivial fun y w1 n p _=>?_
  refine app n p c (by rfl) (by simp only[List.length_nil];omega) (by simp only[List.length_nil];omega) fun C q s k d _=>?_
  obtain ⟨b,l,o,_⟩:=d.keep k
  exact h _ q b l o)
end Go.Proofs.YtfppjenblllfaaaGreatDoor

namespace Go.Hm
open Go.Kd
structure Opr where
  name : Q9
  number : Bool
  text : Bool
deriving DecidableEq
def Yo:List Opr:=[
 ⟨[105,110,116],true,false⟩,
 ⟨[116,114,117,101],false,false⟩,
 ⟨[102,97,108,115,101],false,false⟩,
 ⟨[119,111,114,100],false,true⟩,
 ⟨[110,117,108,108],false,false⟩,
 ⟨[108,111,97,100],true,false⟩,
 ⟨[115,116,111,114,101],true,false⟩,
 ⟨[112,111,112],false,false⟩,
 ⟨[100,117,112],false,false⟩,
 ⟨[115,119,97,112],false,false⟩,
 ⟨[97,100,100],false,false⟩,
 ⟨[115,117,98],false,false⟩,
 ⟨[109,117,108],false,false⟩,
 ⟨[100,105,118],false,false⟩,
 ⟨[114,101,109],false,false⟩,
 ⟨[110,101,103],false,false⟩,
 ⟨[108,101,115,115],false,false⟩,
 ⟨[115,97,109,101],false,false⟩,
 ⟨[110,111,116],false,false⟩,
 ⟨[98,111,116,104],false,false⟩,
 ⟨[106,111,105,110],false,false⟩,
 ⟨[115,105,122,101],false,false⟩,
 ⟨[106,117,109,112],true,false⟩,
 ⟨[98,114,97,110,99,104],true,false⟩,
 ⟨[110,101,119],false,true⟩,
 ⟨[103,101,116],false,true⟩,
 ⟨[112,117,116],false,true⟩,
 ⟨[99,97,108,108],false,true⟩,
 ⟨[97,114,114,97,121],false,true⟩,
 ⟨[97,116],false,false⟩,
 ⟨[115,101,116],false,false⟩,
 ⟨[105,115],false,true⟩,
 ⟨[99,97,115,116],false,true⟩,
 ⟨[114,101,116,117,114,110],false,false⟩,
 ⟨[116,104,114,111,119],false,false⟩,
 ⟨[111,117,116],false,false⟩,
 ⟨[101,113,117,97,108],false,false⟩,
 ⟨[97,110,100],false,false⟩,
 ⟨[111,114],false,false⟩,
 ⟨[120,111,114],false,false⟩,
 ⟨[115,104,108],false,false⟩,
 ⟨[115,104,114],false,false⟩]
end Go.Hm
namespace Go.Emb
open Go.Hm
def ROp (_:Q5) (o:Opr) (cs:List Value):Prop:=cs=[S o.name, .bool o.number, .bool o.text]
def cOp (o:Opr):List Value:=[S o.name, .bool o.number, .bool o.text]
instance:Rep ROp:=⟨fun _ h=>h,fun h u hu=>by rw[h] at hu;simp at hu;rcases hu with rfl | rfl | rfl<;>rfl⟩
end Go.Emb
namespace Go.Proofs.YtfppjenblllfaaaGreatDoor
open Go.Emb Go.RowKit Go.Kd Go.Hm
variable {w : World} {K : Value → World → Prop} {σ : Q5}
theorem Q3N {a:Q9} (l:a.length≤Z9) (h: ∀w',Below w.heap.size w w'→K (.bool (L6 a)) w'):Q1 P F.bx [S a] w K:=Q26 (by
 unfold Cy
 have b:a.length≤140737488355328:=by simp only[Z9] at l;omega
 refine Q4z a b fun w1 i=>?_
 cases d:name a
 ·(try simp only[↓M1,M1,Mb,reduceIte])
  have:=h w1 i
  rwa [show L6 a=false by cases a with | nil=>rfl | cons c r=>simp[L6,d]] at this
 ·(try simp only[↓M1,M1,Mb,reduceIte])
  refine Dl a b fun m j=>?_
  (try simp only[↓M1,M1,Mb,reduceIte])
  have:=h m (bt i j)
  rwa [show L6 a= !W8 a by
   cases a with
   | nil=>simp[name] at d
   | cons c r=>
    obtain ⟨f,k⟩:=Bu d
    simp only[W8,L6,d,Bool.true_and]
    simp only[E2,k,Bool.or_false] at f
    cases e:Qa c.toNat<;>cases g:I7 c.toNat
    ·simp[e,g] at f
    ·rfl
    ·rfl
    ·exfalso
     simp only[Qa,I7,Bool.and_eq_true,decide_eq_true_eq] at e g
     omega] at this)
theorem X0e {t e:TypeId} {n sz by_:Nat} {z:Value} [ta:TA P t n e] [tz:TZ P e sz by_ z] {a:Addr} (c:K (.slice (some a) n n) w):H4 P t (.pointer (some a)) none none none w K:=by
 unfold H4
 have:(Instr.sliceAt t (.pointer (some a)) none none none).run P w= .ok (.slice (some (if n=0 then a else a.add (0*sz))) (n-0) (n-0)) w:=by
  simp[Instr.sliceAt,run_underlying ta.h,Instr.sureAddr,Instr.sliceBounds,W4 tz]
 rw[Y0 this]
 have b:(if n=0 then a else a.add (0*sz))=a:=by
  by_cases h:n=0
  ·rw[if_pos h]
  ·rw[if_neg h,Nat.zero_mul,add_zero]
 rw[b];exact c
def Q16 (σ:Q5):Prop:=Z2 σ ⟨G.a,0,none⟩ (Yo.flatMap cOp)
theorem Q60 (i:Nat) (o:Opr) (h:Yo[i]? =some o):((Yo.flatMap cOp).drop (i*3)).take 3=cOp o:=by
 have c:i<42:=(List.getElem?_eq_some_iff.1 h).1
 have key: ∀l:List Opr,∀i o,l[i]? =some o→((l.flatMap cOp).drop (i*3)).take 3=cOp o:=by
  intro l
  induction l with
  | nil=>intro i o h;simp at h
  | cons a r b=>
   intro i o h
   cases i with
   | zero=>simp at h;subst h;rfl
   | succ i=>
    have:=b i o (by simpa using h)
    rw[List.flatMap_cons,show (i+1)*3=(cOp a).length+i*3 by simp[cOp];omega,List.drop_append]
    simpa [List.drop_eq_nil_of_le] using this
 exact key _ i o h
theorem Q1K {σ:Q5} {a:Addr} {cs:List Value} (h:Z2 σ a cs) (i n:Nat):Z2 σ (a.add i) ((cs.drop i).take n):=by
 obtain ⟨d,D3,e,g,f,c⟩:=h
 refine ⟨I3 d _,D3,e,g,by rw[C2];exact f,fun j v b=>?_⟩
 rw[List.getElem?_take] at b
 split at b
 ·rw[List.getElem?_drop] at b
  rw[Xp,Nat.add_assoc];exact c _ _ b
 ·cases b
theorem X1a (h:Q16 σ):Sl 3 ROp σ (.slice (some ⟨G.a,0,none⟩) 42 42) Yo:=by
 refine ⟨_,42,rfl,by decide,by decide,by simp,?_⟩
 rintro _ ⟨⟩
 refine ⟨fun _=>rfl,fun i x a=>⟨cOp x,?_,rfl,rfl⟩⟩
 rw[←Q60 i x a]
 exact Q1K h (i*3) 3
theorem Kw {β:Type} {xs:List Opr} {v f:Value} (b:β→Opr→Bool×β) (j:β) (a:β→World→Prop) (D:Nat→Prop) (l: ∀s w,a s w→X4 w σ) (z:a j w) (t:Sl 3 ROp σ v xs)
 (A: ∀s x cs (w1:World) (K:Value→World→Prop),x∈xs→Kpt D w w1→a s w1→ROp σ x cs→cs.length=3→(∀w',Kpt D w w'→a (b s x).2 w'→K (.bool (b s x).1) w')→Z1 P f [.agg cs.toArray] w1 K)
 (h: ∀w',Kpt D w w'→a (J1 b j xs 0).2 w'→K (I (W5 (J1 b j xs 0).1)) w'):Q1 P F.q [v,f] w K:=Yy (by
 unfold F2
 ((try simp only[↓M1,M1,Mb,reduceIte]);repeat ((first | refine ld (by assumption) (by assumption) rfl ?_ | refine X8 (by assumption) (by assumption) rfl ?_ | refine Q8 (by assumption) ?_);(try simp only[↓M1,M1,Mb,reduceIte])))
 refine J0 xs.length (fun n w'=>Kpt D w w'∧ ∃s,a s w'∧J1 b j xs 0=J1 b s (xs.drop n) n) ⟨Kpt.refl,j,z,rfl⟩ fun n w1 d E m=>?_
 obtain ⟨u,s,m,e⟩:=m
 have q:=l s w1 m
 ((try simp only[↓M1,M1,Mb,reduceIte]);repeat ((first | refine ld (by assumption) (by assumption) rfl ?_ | refine X8 (by assumption) (by assumption) rfl ?_ | refine Q8 (by assumption) ?_);(try simp only[↓M1,M1,Mb,reduceIte])))
 refine Q6 (fun r=>?_) (fun r=>?_)
 ·have c:n<xs.length:=by simpa using r
  refine L8 t c fun p cs B g y=>?_
  refine Y7 q B g ?_
  refine A s xs[n] cs w1 _ (List.getElem_mem c) u m y g fun C i k=>?_
  rw[List.drop_eq_getElem_cons c] at e
  simp only[J1] at e
  refine Q6 (fun o=>?_) (fun o=>?_)
  ·rw[o] at e
   have:=h C i
   rw[e] at this
   exact this k
  ·rw[o] at e
   ((try simp only[↓M1,M1,Mb,reduceIte]);repeat ((first | refine ld (by assumption) (by assumption) rfl ?_ | refine X8 (by assumption) (by assumption) rfl ?_ | refine Q8 (by assumption) ?_);(try simp only[↓M1,M1,Mb,reduceIte])))
   exact Y2 t.max c ⟨i,_,k,by simpa using e⟩
 ·have c: ¬n<xs.length:=by simpa using r
  rw[List.drop_eq_nil_of_le (by omega)] at e
  have:=h w1 u
  rw[e] at this
  exact this m)
theorem Ku {xs:List Opr} {v f:Value} (p:Opr→Bool) (hs:X4 w σ) (hv:Sl 3 ROp σ v xs)
 (hf: ∀x cs (w1:World) (K:Value→World→Prop),x∈xs→X4 w1 σ→ROp σ x cs→cs.length=3→(∀w',Below w1.heap.size w1 w'→K (.bool (p x)) w')→Z1 P f [.agg cs.toArray] w1 K)
 (h: ∀w',Below w.heap.size w w'→K (I (W5 (xs.findIdx? p))) w'):Q1 P F.q [v,f] w K:=by
 refine Kw (fun (_:Unit) x=>(p x,())) () (fun _ w'=>Below w.heap.size w w') (fun _=>False) (fun _ w' hb=>hs.below hb) (Below.refl _ _) hv (fun s x cs w1 K hx hk hi hr hl hK=>hf x cs w1 K hx (hs.below hi) hr hl fun w' hb=>hK w' (.of_below (bt hi hb)) (bt hi hb)) fun w' hk hi=>?_
 rw[K6]
 simpa using h w' hi
theorem Q16.le {σ a:Q5} (h:Q16 σ) (c: ∀b o,σ b=some o→a b=some o):Q16 a:=Z2.le h c
def K8 (n:Q9):Option Nat:=Yo.findIdx? fun o=>decide (o.name=n)
theorem X1q {a:Q9} (r:X4 w σ) (i:Q16 σ) (h: ∀w',Below w.heap.size w w'→K (I (W5 (K8 a))) w'):Q1 P F.cE [S a] w K:=Q5v (by
 unfold Q0S
 refine M9 r fun p w1 σ1 d f=>?_
 simp only[Value.cells] at f
 refine X0e ?_
 ((try simp only[↓M1,M1,Mb,reduceIte]);repeat ((first | refine ld (by assumption) (by assumption) rfl ?_ | refine X8 (by assumption) (by assumption) rfl ?_ | refine Q8 (by assumption) ?_);(try simp only[↓M1,M1,Mb,reduceIte])))
 refine Ku (fun o=>decide (o.name=a)) d.sat (X1a (i.le d.le)) (fun x cs g K u c k v l=>?_) fun g m=>?_
 ·refine Y9 (Q3m ?_)
  unfold Ij
  refine M9 c fun q j y b n=>?_
  have e:cs=[S x.name, .bool x.number, .bool x.text]:=k
  subst e
  have t:=b.sat
  have s:=f.up b
  simp only[Value.cells] at n
  ((try simp only[↓M1,M1,Mb,reduceIte]);repeat ((first | refine ld (by assumption) (by assumption) rfl ?_ | refine X8 (by assumption) (by assumption) rfl ?_ | refine Q8 (by assumption) ?_);(try simp only[↓M1,M1,Mb,reduceIte])))
  exact l j b.bel
 ·(try simp only[↓M1,M1,Mb,reduceIte])
  exact h g (bt d.bel m))
def takes (n:Q9):Bool×Bool×Bool:=match K8 n with
 | none=>(false,false,false)
 | some i=>((Yo.getD i ⟨[],false,false⟩).number,(Yo.getD i ⟨[],false,false⟩).text,true)
theorem X0u {a:Q9} (k:X4 w σ) (j:Q16 σ) (h: ∀w',Below w.heap.size w w'→K (.tuple #[.bool (takes a).1, .bool (takes a).2.1, .bool (takes a).2.2]) w'):Q1 P F.bX [S a] w K:=Q3H (by
 unfold Pm
 refine X1q k j fun w1 b=>?_
 have c:=k.below b
 unfold takes at h
 cases d:K8 a with
 | none=>
  rw[d] at h
  simp only[W5]
  (try simp only[↓M1,M1,Mb,reduceIte])
  simp only[show decide ((-1:Int)<0)=true from rfl,↓M1,M1,Mb,reduceIte]
  exact h w1 b
 | some i=>
  rw[d] at h
  simp only at h
  have n:i<42:=(List.findIdx?_eq_some_iff_getElem.1 d).1
  have l:Yo[i]? =some (Yo.getD i ⟨[],false,false⟩):=by
   rw[List.getD,List.getElem?_eq_getElem (by exact n)];rfl
  generalize Yo.getD i ⟨[],false,false⟩=o at h l
  have f:=Q1K j (i*3) 3
  rw[Q60 i o l] at f
  simp only[W5]
  have m:decide ((i:Int)<0)=false:=by simp
  simp only[m,↓M1,M1,Mb,reduceIte]
  have A: ∀{w:World} {K:Value→World→Prop},K (.pointer (some ((⟨G.a,0,none⟩:Addr).add (i*3)))) w→indexAddr P T.a8 (.pointer (some ⟨G.a,0,none⟩)) (I i) w K:=by
   intro w K h
   rw[Q89 (by omega) (by omega)]
   simpa using h
  refine Mx (Below.refl _ _) ?_
  refine X2 (.pointer (some ((⟨G.a,0,none⟩:Addr).add (i*3)))) (fun w b=>A (X6 rfl)) ?_
  refine X2 (.pointer (some (((⟨G.a,0,none⟩:Addr).add (i*3)).add 1))) (fun t w b e=>by rw[e,fa];exact X6 rfl) ?_
  refine X2 (.pointer (some ((⟨G.a,0,none⟩:Addr).add (i*3)))) (fun w b=>A (X6 rfl)) ?_
  refine X2 (.pointer (some (((⟨G.a,0,none⟩:Addr).add (i*3)).add 2))) (fun t w b e=>by rw[e,fa];exact X6 rfl) ?_
  refine X2 (.bool o.number) (fun t w b e=>by rw[e];exact ld (c.below b) f rfl (X6 rfl)) ?_
  refine X2 (.bool o.text) (fun t w b e=>by rw[e];exact ld (c.below b) f rfl (X6 rfl)) ?_
  rintro _ _ _ _ _ _ p g rfl rfl rfl rfl rfl rfl
  exact h p (bt b g))
end Go.Proofs.YtfppjenblllfaaaGreatDoor

namespace Go.Emb
open Go.RowKit Go.Hm
variable {P : Program} {w w0 w1 w' w'' : World} {K : Value → World → Prop} {σ σ0 σ1 σ' : Q5}
structure SLe (σ σ' : Q5) : Prop where
  le : ∀ b o, σ b = some o → σ' b = some o
theorem SLe.refl (σ:Q5):SLe σ σ:=⟨fun _ _ h=>h⟩
theorem SLe.step {w w':World} (h:SLe σ0 σ) (k:Stp w σ w' σ'):SLe σ0 σ':=⟨fun b o e=>k.le b o (h.le b o e)⟩
theorem SLe.more (h:SLe σ0 σ) (k:SLe σ σ'):SLe σ0 σ':=⟨fun b o e=>k.le b o (h.le b o e)⟩
structure Hst (w : World) (σ : Q5) (w' : World) (σ' : Q5) : Prop where
  stp : Stp w σ w' σ'
theorem Hst.sat (h:Hst w σ w' σ'):X4 w' σ':=h.stp.sat
section lifts
variable {α : Type} {R : Q5 → α → List Value → Prop} {sz : Nat} {v : Value} {xs : List α} {a : Addr} {cs : List Value}
theorem Sl.lift [Rep R] (h:Sl sz R σ0 v xs) (k:SLe σ0 σ):Sl sz R σ v xs:=h.le k.le
theorem Z2.lift (h:Z2 σ0 a cs) (k:SLe σ0 σ):Z2 σ a cs:=h.le k.le
theorem I5.lift {r:Nat} {m:List (List UInt8×Value)} (h:I5 σ0 r m) (k:SLe σ0 σ):I5 σ r m:=h.le k.le
theorem RMe_lift {x:Hm.Met} (h:M5 σ0 x cs) (k:SLe σ0 σ):M5 σ x cs:=Rep.up k.le h
theorem RCl_lift {x:Cla} (h:U4 σ0 x cs) (k:SLe σ0 σ):U4 σ x cs:=Rep.up k.le h
theorem RFd_any {x:Fld} (h:E6 σ0 x cs):E6 σ x cs:=h
theorem RIn_any {x:Ins} (h:I8 σ0 x cs):I8 σ x cs:=h
theorem RCa_any {x:Cat} (h:Ys σ0 x cs):Ys σ x cs:=h
theorem Z5.step {b:Nat} (h:Z5 σ w b cs) (k:Stp w σ w' σ'):Z5 σ' w' b cs:=h.up k
theorem V6.step [Rep R] {B:Nat} {e:TypeId} (h:V6 B e sz R σ w v xs) (k:Stp w σ w' σ'):V6 B e sz R σ' w' v xs:=h.up k
end lifts
theorem W3 {Q:World→Prop} (c:X4 w σ) (h: ∀w' σ',Stp w σ w' σ'→Q w'): ∀w',Below w.heap.size w w'→Q w':=fun w' d=>h w' σ (Stp.of_below c d)
section plain
variable {k : IntKind} {t : TypeId} {ox oy : Operand} {a b : Int} {x y : Bool} {s u : List UInt8}
theorem E5 (h:K (.int k (k.wrap (a+b))) w):Q4 P .add t ox oy (.int k a) (.int k b) w K:=by rw[Cs];exact h
theorem Q9G (h:K (.int k (k.wrap (a-b))) w):Q4 P .sub t ox oy (.int k a) (.int k b) w K:=by rw[Q0d];exact h
theorem Cf (c: -9223372036854775808≤a+b∧a+b≤9223372036854775807) (h:K (I (a+b)) w):Q4 P .add t ox oy (I a) (I b) w K:=by rw[Cs,F0 c.1 c.2];exact h
theorem Dj (c: -9223372036854775808≤a-b∧a-b≤9223372036854775807) (h:K (I (a-b)) w):Q4 P .sub t ox oy (I a) (I b) w K:=by rw[Q0d,F0 c.1 c.2];exact h
theorem Z0 (h:K (.bool (decide (a<b))) w):Q4 P .lss t ox oy (.int k a) (.int k b) w K:=by rw[Q2s];exact h
theorem X28 (h:K (.bool (decide (a≤b))) w):Q4 P .leq t ox oy (.int k a) (.int k b) w K:=by rw[Q2t];exact h
theorem Ax (h:K (.bool (decide (b<a))) w):Q4 P .gtr t ox oy (.int k a) (.int k b) w K:=by rw[Q2e];exact h
theorem Yb (h:K (.bool (decide (b≤a))) w):Q4 P .geq t ox oy (.int k a) (.int k b) w K:=by rw[Q03];exact h
theorem Nh (h:K (.bool (decide (a=b))) w):Q4 P .eql t ox oy (.int k a) (.int k b) w K:=by rw[Q0h];exact h
theorem I4 (h:K (.bool (!decide (a=b))) w):Q4 P .neq t ox oy (.int k a) (.int k b) w K:=by rw[Q2g];exact h
theorem Ni (h:K (.bool (!x)) w):Z8 P .not (.bool x) w K:=by rw[Q2p];exact h
theorem Nd (h:K (.bool (decide (s=u))) w):Q4 P .eql t ox oy (S s) (S u) w K:=by rw[Sj];exact h
theorem Lf (h:K (.bool (!decide (s=u))) w):Q4 P .neq t ox oy (S s) (S u) w K:=by rw[Sg];exact h
theorem Hw (c:s.length+u.length≤9223372036854775807) (h:K (S (s++u)) w):Q4 P .add t ox oy (S s) (S u) w K:=by rw[Q5J c];exact h
theorem Q1A {cs:List Bool} {r:TypeId} (c:P.underlying t=some .string) (h:K (I s.length) w):X5 P .len [t] r cs [S s] w K:=by rw[D5 c];exact h
theorem X0W {v u:Value} (h:K v w):pick P (.bool true) v u w K:=by rw[Ht];exact h
theorem X0R {v u:Value} (h:K u w):pick P (.bool false) v u w K:=by rw[Ou];exact h
theorem Jo {v u:Value} (h:K (if x=true then v else u) w):pick P (.bool x) v u w K:=by rw[Nz];exact h
theorem Q8z {f:Fn} {first caps:List Value} (h:K (.func f first.toArray caps.toArray) w):M6 P f first caps w K:=by rw[Qm];exact h
theorem U5 {vs:List Value} {i:Nat} {v:Value} (c:vs[i]? =some v) (h:K v w):ext P (.tuple vs.toArray) i w K:=by rw[Zn c];exact h
theorem Q3y {a:Addr} (h:K (.pointer (some a)) w):nilCheck P (.pointer (some a)) w K:=by rw[E9];exact h
theorem U3 {t e:Prop} (h:t):X1 (.bool true) t e:=by rw[Mz];exact h
theorem V8 {t e:Prop} (h:e):X1 (.bool false) t e:=by rw[Uz];exact h
theorem X1g {c:World→(Value→World→Prop)→Prop} (h:c w K):Q0 (.bool true) true w c K:=by rw[G9];exact h
theorem X1F {c:World→(Value→World→Prop)→Prop} (h:c w K):Q0 (.bool false) false w c K:=by rw[Vc];exact h
theorem X0S {c:World→(Value→World→Prop)→Prop} (h:K undef w):Q0 (.bool true) false w c K:=by rw[Ph];exact h
theorem X0x {c:World→(Value→World→Prop)→Prop} (h:K undef w):Q0 (.bool false) true w c K:=by rw[Ju];exact h
end plain
section mem
variable {α : Type} {R : Q5 → α → List Value → Prop} {sz : Nat} {v : Value} {xs : List α} {a : Addr} {cs : List Value}
theorem Y8 {t:TypeId} (f:X4 w σ) (h: ∀a w' σ',Stp w σ w' σ'→Z2 σ' a cs→K (.pointer (some a)) w'):box P t (.agg cs.toArray) w K:=
 M9 f fun a w' σ' d c=>h a w' σ' d (by simpa [Value.cells] using c)
theorem J6 {t:TypeId} (f:X4 w σ) (g:v.cells= #[v]) (h: ∀a w' σ',Stp w σ w' σ'→Z2 σ' a [v]→K (.pointer (some a)) w'):box P t v w K:=
 M9 f fun a w' σ' d c=>h a w' σ' d (by rw[g] at c;exact c)
theorem Xb (h:Sl sz R σ v xs):v.cells= #[v]:=by
 obtain ⟨a,c,rfl,_⟩:=h;rfl
theorem D6 {t:TypeId} {k c:Nat} {d:TypeId} {sz by_:Nat} {z:Value} [tf:TF P t k c d] [tz:TZ P d sz by_ z] [nz:NZ sz] (h:K (.pointer (some (a.add c))) w):fieldAddr P t (.pointer (some a)) k w K:=by
 rw[fa];exact h
theorem V3 {t:TypeId} {k c:Nat} {d:TypeId} [tf:TF P t k c d] [tg:TG P d false] {cs:List Value} {v:Value} (f:cs[c]? =some v) (h:K v w):Vn P t (.agg cs.toArray) k w K:=by
 rw[X0T (v:=v) (by simpa using f)];exact h
end mem
theorem U6 {A:(World→World→Prop)→(World→Prop)→Prop} (d:X4 w σ) (h:A (fun w w'=>Below w.heap.size w w') (fun w'=>Hst w σ w' σ)):dr w A:=
 Q0c _ _ ⟨Stp.of_below d (Below.refl _ _).drew⟩ (fun _ _ c f=>⟨c.stp.trans (Stp.of_below c.sat f)⟩) h
theorem L3 {α:Type} {R:Q5→α→List Value→Prop} {sz:Nat} {v:Value} {xs:List α} {t:TypeId} (d:X4 w σ) (c:Sl sz R σ v xs) (h: ∀a w' σ',Stp w σ w' σ'→Z2 σ' a [v]→K (.pointer (some a)) w'):box P t v w K:=
 J6 d (Xb c) h
section elems
variable {v : Value} {t e : TypeId} {by_ : Nat} {z : Value} {n : Nat}
theorem Js {xs:List Kd.Q9} [TS P t e] [TZ P e 1 by_ z] (h:Sl 1 Y1 σ v xs) (f:n<xs.length) (d: ∀a,Z2 σ a [S xs[n]]→xs[n].length≤Z9→K (.pointer (some a)) w):indexAddr P t v (I n) w K:=
 L8 h f fun a cs i j c=>by obtain ⟨rfl,g⟩:=c;exact d a i g
theorem Q8e {xs:List Fld} [TS P t e] [TZ P e 3 by_ z] (h:Sl 3 E6 σ v xs) (f:n<xs.length) (d: ∀a,Z2 σ a [S xs[n].name,S xs[n].kind, .bool xs[n].tr]→E6 σ xs[n] [S xs[n].name,S xs[n].kind, .bool xs[n].tr]→K (.pointer (some a)) w):indexAddr P t v (I n) w K:=
 L8 h f fun a cs i j c=>by obtain ⟨rfl,g⟩:=c;exact d a i ⟨rfl,g⟩
end elems
end Go.Emb

namespace Go.Hm
open Go.Kd
abbrev Uk:=Q9→Option Cla
def Y4 (l:List Cla) (n:Q9):Option Nat:=l.findIdx? fun c=>decide (c.name=n)
def lk (l:List Cla):Uk:=fun n=>(Y4 l n).bind (l[·]?)
def J3 (c:Cla):List Q9:=c.super::c.like
def Z7:Q9:=[79,98,106,101,99,116]
def W0:Q9:=[70,97,117,108,116]
def O9:Q9:=[110,117,108,108]
def N7:Q9:=[116,101,120,116]
def P4:Q9:=[119,104,97,116]
def J4:List Q9:=[[78,117,108,108,70,97,117,108,116],[73,110,100,101,120,70,97,117,108,116],[67,97,115,116,70,97,117,108,116],[90,101,114,111,70,97,117,108,116],[82,111,111,109,70,97,117,108,116],[67,97,108,108,70,97,117,108,116]]
def B5:List Cla:=[⟨Z7,[],[],false,false,false,[],[]⟩,⟨W0,Z7,[],false,false,false,[⟨P4,N7,false⟩],[]⟩]++J4.map fun n=>⟨n,W0,[],false,false,true,[],[]⟩
def Jh (L:Uk):Nat→List Q9→List Q9→List Q9
 | 0,_,a=>a
 | _,[],a=>a
 | f+1,n::b,a=>match L n with
  | none=>Jh L f b a
  | some c=>if n∈a then Jh L f b a else Jh L f (b++J3 c) (a++[n])
def weigh (l:List Cla) (a:List Q9):Nat:=(l.map fun c=>if c.name∈a then 0 else (J3 c).length).sum
def V5:Q9:=[105,110,116]
def M8:Q9:=[98,111,111,108]
def R4 (l:List Cla) (n:Q9):List Q9:=Jh (lk l) (1+weigh l []) [n] []
def Ag (l:List Cla) (n:Q9):Bool:=(Y4 l n).isSome
def M4 (l:List Cla) (s:Q9):Bool:=decide (s=O9)||(right s&&(plain (base s).1||Ag l (base s).1))
def V0 (l:List Cla) (a b:Q9):Bool:=
 if !M4 l a|| !M4 l b then false else if a=b then true else if plain a||plain b then false else if a=O9 then true
 else if elem a≠[] then decide (b=Z7) else (R4 l a).contains b
def C5 (L:Uk):Nat→Q9→List Cla
 | 0,_=>[]
 | f+1,n=>match L n with
  | none=>[]
  | some c=>c::C5 L f c.super
def chain (l:List Cla) (n:Q9):List Cla:=C5 (lk l) (l.length+1) n
def L1 (l:List Cla) (a b:Q9):Q9:=
 if V0 l a b then b else if V0 l b a then a else if !M4 l a|| !M4 l b||plain a||plain b then []
 else match (chain l a).find? fun c=>V0 l b c.name with
  | some c=>c.name
  | none=>Z7
def M7 (l:List Cla) (n:Q9):List Fld:=(chain l n).reverse.flatMap (·.fields)
def Xn (l:List Cla) (n f:Q9):Option Nat:=(M7 l n).findIdx? fun x=>decide (x.name=f)
def R2 (c:Cla) (n:Q9):Option Hm.Met:=c.methods.find? fun m=>decide (m.name=n)
def Eu (L:Uk):Nat→Cla→Q9→Option (Q9×Hm.Met)
 | 0,_,_=>none
 | f+1,c,n=>c.like.findSome? fun u=>match L u with
  | none=>none
  | some d=>match R2 d n with
   | some m=>some (u,m)
   | none=>Eu L f d n
def J8 (l:List Cla) (k n:Q9):Option (Q9×Hm.Met):=
 match (chain l k).findSome? fun c=>(R2 c n).map (c.name,·) with
 | some r=>some r
 | none=>(chain l k).findSome? fun c=>Eu (lk l) (l.length+1) c n
def Q9t (l:List Cla) (n:Q9):Bool:=match lk l n with
 | some c=> !c.abs
 | none=>false
def N5:List Q9→Q9
 | []=>[]
 | [a]=>a
 | a::b::r=>a++[44]++N5 (b::r)
def P6 (m:Hm.Met):Q9:=[40]++N5 m.params++[41]++m.result
def D7 (l:List Cla) (s:Q9):Bool:= !decide (s=O9)&&M4 l s
def Xi (l:List Cla) (c:Cla):Bool:=c.fields.any fun f=>(Xn l c.super f.name).isSome
def B0 (l:List Cla) (c:Cla):Bool:=c.fields.any (fun f=> !D7 l f.kind)||c.methods.any fun m=>(!D7 l m.result&& !decide (m.result=[]))||m.params.any fun s=> !D7 l s
def Vg (l:List Cla) (n:Q9):List Hm.Met:=(R4 l n).flatMap fun u=>((lk l u).map (·.methods)).getD []
def Lh (a:List Hm.Met):Bool:=a.any fun x=>a.any fun y=>decide (x.name=y.name)&& !decide (P6 x=P6 y)
def Xt (l:List Cla) (c:Cla):Bool:=Lh (Vg l c.name)
def Xj (l:List Cla) (k n:Q9):Bool:=match J8 l k n with
 | none=>true
 | some r=>r.2.abs
def Mw (l:List Cla) (c:Cla):Bool:= !c.abs&&(Vg l c.name).any fun m=>Xj l c.name m.name
def V1 (l:List Cla) (c:Cla):Nat:=if Xi l c then 64 else if B0 l c then 65 else if Xt l c then 66 else if Mw l c then 67 else 0
def P7 (l:List Cla) (n:Q9):Bool:=match lk l n with
 | none=>true
 | some d=>d.iface||d.fin
def O6 (l:List Cla) (n:Q9):Bool:=match lk l n with
 | none=>true
 | some d=> !d.iface
def L5 (l:List Cla) (c:Cla):Nat:=if P7 l c.super then 61 else if c.like.any (O6 l) then 62 else 0
def G2 (l:List Cla) (c:Cla):Bool:=(J3 c).any fun n=>(R4 l n).contains c.name
def I0 (l:List Cla) (frm:Nat):Nat→List Nat→Nat→List Nat
 | 0,a,_=>a
 | f+1,a,i=>if i<frm then a else if i∈a then a else ((J3 (l.getD i Cla.zero)).foldl (fun a n=>I0 l frm f a ((Y4 l n).getD 0)) a)++[i]
def U8 (l:List Cla) (frm:Nat):List Nat:=((List.range l.length).drop frm).foldl (fun a i=>I0 l frm (l.length+1) a i) []
end Go.Hm

namespace Go.Emb
open Go.RowKit Go.Hm
variable {P : Program} {w w0 w1 w' w'' : World} {K : Value → World → Prop} {σ σ0 σ1 σ' : Q5}
def J9 {α:Type} (B:Nat) (e:TypeId) (sz:Nat) (R:Q5→α→List Value→Prop) (σ:Q5) (w:World) (v:Value) (xs:List α):Prop:=
 ∃a c,v= .slice a xs.length c∧xs.length≤c∧c≤maxLen∧(∀b,a=some b→b.spot=none∧B≤b.block∧b.block<w.heap.size∧σ b.block=none)∧(0<c→ ∃g d f,a=some ⟨g,d,none⟩∧B≤g∧σ g=none∧w.heap[g]? =some (.cells f e (0,0))∧d+c*sz≤f.size∧ ∀i x,xs[i]? =some x→R σ x ((f.toList.drop (d+i*sz)).take sz))
section
variable {α : Type} {R : Q5 → α → List Value → Prop} {B sz : Nat} {e : TypeId} {v u : Value} {xs ys : List α}
theorem J9.of_acc (h:V6 B e sz R σ w v xs):J9 B e sz R σ w v xs:=by
 obtain ⟨cells,r,k,q⟩:=h
 rcases r.2 with ⟨rfl,o⟩ | ⟨g,b,f,rfl,l,j,c,a,n,d⟩
 ·exact ⟨none,0,by rw[o],by omega,by simp,by simp,fun h=>by omega⟩
 ·refine ⟨_,b,rfl,c,a,by rintro _ ⟨⟩;exact ⟨rfl,l,(Array.getElem?_eq_some_iff.1 j).1,k g rfl⟩,fun _=>⟨g,0,f,rfl,l,k g rfl,j,by omega,fun i x m=>?_⟩⟩
  have p:i<xs.length:=(List.getElem?_eq_some_iff.1 m).1
  have hh:i*sz+sz≤xs.length*sz:=by rw[←Nat.succ_mul];exact Nat.mul_le_mul_right _ p
  have:=q i x m
  rw[←d,List.drop_take,List.take_take] at this
  rw[Nat.zero_add]
  rwa [show min sz (xs.length*sz-i*sz)=sz by omega] at this
theorem J9.mem (h:J9 B e sz R σ w v xs) {k:Nat} (c:v.ownBlock=some k):B≤k∧k<w.heap.size∧σ k=none:=by
 obtain ⟨a,d,rfl,i,g,b,f⟩:=h
 cases a with
 | none=>cases c
 | some a=>cases c;exact (b a rfl).2
theorem J9.up [hr:Rep R] (h:J9 B e sz R σ w v xs) (f:Stp w σ w' σ'):J9 B e sz R σ' w' v xs:=by
 obtain ⟨a,j,rfl,t,o,c,r⟩:=h
 refine ⟨a,j,rfl,t,o,fun b d=>⟨(c b d).1,(c b d).2.1,Nat.lt_of_lt_of_le (c b d).2.2.1 f.bel.size,(f.old _ (c b d).2.2.1).trans (c b d).2.2.2⟩,fun A=>?_⟩
 obtain ⟨g,k,l,rfl,p,s,m,y,z⟩:=r A
 have n:=(Array.getElem?_eq_some_iff.1 m).1
 exact ⟨g,k,l,rfl,p,(f.old g n).trans s,(f.bel.block g n).trans m,y,fun i x q=>hr.up f.le (z i x q)⟩
theorem J9.step [hr:Rep R] (h:J9 B e sz R σ w v xs) (a:Stp w σ w' σ'):J9 B e sz R σ' w' v xs:=h.up a
theorem J9.kp {D:Nat→Prop} (h:J9 B e sz R σ w v xs) (n:Kpt D w w') (i: ∀k,v.ownBlock=some k→ ¬D k):J9 B e sz R σ w' v xs:=by
 obtain ⟨a,f,rfl,t,o,c,q⟩:=h
 refine ⟨a,f,rfl,t,o,fun b d=>⟨(c b d).1,(c b d).2.1,Nat.lt_of_lt_of_le (c b d).2.2.1 n.size,(c b d).2.2.2⟩,fun A=>?_⟩
 obtain ⟨g,j,l,rfl,p,s,m,y,z⟩:=q A
 have r:=(Array.getElem?_eq_some_iff.1 m).1
 exact ⟨g,j,l,rfl,p,s,(n.block g r (i g rfl)).trans m,y,z⟩
theorem Bo {b t:TypeId} {cs:List Bool} [ts:TS P b e] (h:J9 B e sz R σ w v xs) (c:K (I xs.length) w):X5 P .len [b] t cs [v] w K:=by
 obtain ⟨a,d,rfl,_⟩:=h
 rw[Q5X];exact c
theorem Q4P {t:TypeId} {by_:Nat} {z:Value} [TS P t e] [TZ P e sz by_ z] (h:J9 B e sz R σ w v xs) {n:Nat} (k:n<xs.length)
 (m: ∀a cs,(∀j u,cs[j]? =some u→w.cell? (a.add j)=some u)→cs.length=sz→R σ xs[n] cs→K (.pointer (some a)) w):indexAddr P t v (I n) w K:=by
 obtain ⟨a,c,rfl,y,q,p,l⟩:=h
 obtain ⟨g,d,f,rfl,r,s,i,A,o⟩:=l (by omega)
 rw[Cg (by omega) (by omega)]
 have hh:n*sz+sz≤c*sz:=by rw[←Nat.succ_mul];exact Nat.mul_le_mul_right _ (by omega)
 refine m _ ((f.toList.drop (d+n*sz)).take sz) ?_ ?_ (o n _ (by simp[k]))
 ·intro j u b
  rw[List.getElem?_take] at b
  split at b
  ·rw[List.getElem?_drop] at b
   unfold World.cell?
   rw[C2,C2,Xp,Xp,I3 (I3 rfl _)]
   simp only[i]
   simpa using b
  ·cases b
 ·rw[List.length_take,List.length_drop,Array.length_toList];omega
theorem Q9B {t:TypeId} {by_:Nat} {z:Value} [ts:TS P t e] [tz:TZ P e sz by_ z] (h:J9 B e sz R σ w v xs) (l:Nat) (J:l≤xs.length)
 (s: ∀j,J9 B e sz R σ w j (xs.drop l)→(j.ownBlock=v.ownBlock∨j.ownBlock=none)→K j w):H4 P t v (some (I l)) none none w K:=by
 obtain ⟨a,c,rfl,A,H,d,p⟩:=h
 have hh: ∀w:World,(Instr.sliceBounds true xs.length c (some (I l)) none none).run P w= .ok (l,xs.length,c) w:=by
  intro w
  have E:(l:Int)≤xs.length:=by omega
  simp[Instr.sliceBounds,Instr.sliceBound,asIntOf,A,E]
  intros;omega
 unfold H4
 have:(Instr.sliceAt t (.slice a xs.length c) (some (I l)) none none).run P w= .ok (.slice (if c=l then a else a.map (·.add (l*sz))) (xs.length-l) (c-l)) w:=by
  simp[Instr.sliceAt,run_underlying ts.h,Instr.slice,hh,W4 tz]
 rw[Y0 this]
 refine s _ ⟨_,c-l,by rw[List.length_drop],by rw[List.length_drop];omega,by omega,?_,fun M=>?_⟩ ?_
 ·intro b k
  split at k
  ·exact d b k
  ·cases a with
   | none=>cases k
   | some a=>cases k;exact ⟨I3 (d a rfl).1 _,by rw[C2];exact (d a rfl).2⟩
 ·have D:=p (by omega)
  clear p
  obtain ⟨g,m,n,rfl,r,y,q,L,C⟩:=D
  refine ⟨g,m+l*sz,n,?_,r,y,q,?_,fun i x o=>?_⟩
  ·rw[if_neg (by omega)];simp only[Option.map_some];congr 1;unfold Addr.add;split<;>simp_all
  ·have:l*sz+(c-l)*sz=c*sz:=by rw[←Nat.add_mul];congr 1;omega
   omega
  ·rw[List.getElem?_drop] at o
   have:=C _ _ o
   rwa [Nat.add_mul,←Nat.add_assoc] at this
 ·left
  by_cases f:c=l
  ·rw[if_pos f];cases a<;>rfl
  ·rw[if_neg f]
   cases a with
   | none=>rfl
   | some a=>simp only[Option.map_some,Value.ownBlock,C2]
theorem Q1W {t ty:TypeId} {by_:Nat} {z:Value} {cs:List Bool} [ts:TS P t e] [tz:TZ P e sz by_ z] [hr:Rep R] (V:X4 w σ) (hB:B≤w.heap.size) (ha:J9 B e sz R σ w v xs) (H:Sl sz R σ u ys) (hz:(z.cells.size==sz&&decide (0<sz))=true)
 (Q:(xs.length+ys.length)*by_≤140737488355328) (hm:xs.length+ys.length≤1000000000000)
 (h: ∀s w',Kpt (fun k=>v.ownBlock=some k∧B≤k∧σ k=none) w w'→X4 w' σ→J9 B e sz R σ w' s (xs++ys)→((∃a m,v= .slice a xs.length m∧s= .slice a (xs.length+ys.length) m)∨(Below w.heap.size w w'∧ ∀k,s.ownBlock=some k→w.heap.size≤k))→K s w'):X5 P .append [t,t] ty cs [v,u] w K:=by
 obtain ⟨D,c,rfl,c1,c2,A,c3⟩:=ha
 obtain ⟨a,m,d,rfl,n1,n2,n3,n4,n5⟩:=H.cells V
 obtain ⟨i,hi,E,al,N⟩:=tz.info
 simp only[Bool.and_eq_true,beq_iff_eq,decide_eq_true_eq] at hz
 obtain ⟨ak,be⟩:=hz
 have L: ∀s w',(Builtin.append_ #[t,t] ty #[.slice D xs.length c, .slice a ys.length m]).run P w= .ok s w'→Kpt (fun k=>(Value.slice D xs.length c).ownBlock=some k∧B≤k∧σ k=none) w w'→J9 B e sz R σ w' s (xs++ys)→((∃a m,(Value.slice D xs.length c)= .slice a xs.length m∧s= .slice a (xs.length+ys.length) m)∨(Below w.heap.size w w'∧ ∀k,s.ownBlock=some k→w.heap.size≤k))→X5 P .append [t,t] ty cs [.slice D xs.length c, .slice a ys.length m] w K:=by
  intro s w' y hk hq am
  have M:(builtin .append #[t,t] ty cs.toArray #[.slice D xs.length c, .slice a ys.length m]).run P w= .ok (.value s) w':=by
   simp[builtin,y]
  unfold X5
  rw[Xg];unfold T7
  rw[M]
  exact h s w' hk (fun k o ho=>by rw[hk.block k (V.lt ho) fun e=>by rw[e.2.2] at ho;cases ho];exact V k o ho) hq am
 have q:Src P i.size t (.slice a ys.length m) ys.length d w:=by
  cases a with
  | some b=>exact Src.ofSlice w ts.h b ys.length m d (by rw[E];exact n2) (n3 b rfl) n4
  | none=>
   have hy:ys.length=0:=by
    obtain ⟨a',a1,e',q1,_,Y,_⟩:=H;injection e' with e1 e2 e3;have:=n1 rfl;omega
   have hn:d=[]:=List.eq_nil_of_length_eq_zero (by rw[n2,hy];simp)
   subst hn
   rw[hy];exact Src.ofNil w ts.h m
 by_cases r:xs.length+ys.length≤c
 ·by_cases J:c=0
  ·-- nothing at all
   subst J
   have p:xs=[]:=List.eq_nil_of_length_eq_zero (by omega)
   have hy:ys=[]:=List.eq_nil_of_length_eq_zero (by omega)
   subst p hy
   have hn:d=[]:=List.eq_nil_of_length_eq_zero (by simpa using n2)
   subst hn
   refine L (.slice D 0 0) w ?_ Kpt.refl ⟨D,0,rfl,by simp,by simp,A,fun h=>by omega⟩ (.inl ⟨_,_,rfl,rfl⟩)
   have hl:=q.len w
   have C:=q.cells
   simp only[List.length_nil] at hl C⊢
   cases D<;>simp[Builtin.append_,run_underlying ts.h,sizeOf,typeInfo,hi,hl,C,storeCells]
  ·obtain ⟨g,l,f,rfl,q1,q2,Y,q4,q5⟩:=c3 (by omega)
   have e1:(xs.length+ys.length)*sz≤c*sz:=Nat.mul_le_mul_right _ r
   rw[Nat.add_mul] at e1
   have W:=run_storeCells_at P g (l+xs.length*sz) e d 0 f w Y (by omega) n4
   simp only[Nat.add_zero] at W
   obtain ⟨Z,ar⟩:=Oz (cs:=(f.toList.take (l+xs.length*sz)++d++f.toList.drop (l+xs.length*sz+d.length)).toArray) Y
   refine L (.slice (some ⟨g,l,none⟩) (xs.length+ys.length) c) _ ?_ (Kpt.of_upd Z ⟨rfl,q1,q2⟩) ?_ (.inl ⟨_,_,rfl,rfl⟩)
   ·have hl:=q.len w
    have C:=q.cells
    rw[E] at C
    simp[Builtin.append_,run_underlying ts.h,sizeOf,typeInfo,hi,hl,C,E,r,Addr.add_lit,W]
   ·refine ⟨_,c,by rw[List.length_append],by rw[List.length_append];exact r,c2,fun b Q=>⟨(A b Q).1,(A b Q).2.1,by rw[Z.size];exact (A b Q).2.2.1,(A b Q).2.2.2⟩,fun _=>⟨g,l,_,rfl,q1,q2,ar,?_,fun j x p=>?_⟩⟩
    ·simp;omega
    ·by_cases U:j<xs.length
     ·rw[List.getElem?_append_left U] at p
      have:=q5 j x p
      have hh:j*sz+sz≤xs.length*sz:=by rw[←Nat.succ_mul];exact Nat.mul_le_mul_right _ U
      have e2:((f.toList.take (l+xs.length*sz)++d++f.toList.drop (l+xs.length*sz+d.length)).toArray.toList.drop (l+j*sz)).take sz=(f.toList.drop (l+j*sz)).take sz:=by
       rw[List.toList_toArray,List.append_assoc]
       rw[List.drop_append_of_le_length (by rw[List.length_take,Array.length_toList (xs:=f)];omega),List.take_append_of_le_length (by rw[List.length_drop,List.length_take,Array.length_toList (xs:=f)];omega),List.drop_take,List.take_take]
       congr 1;omega
      rw[e2];exact this
     ·rw[List.getElem?_append_right (by omega)] at p
      have:=n5 _ _ p
      have an:j-xs.length<ys.length:=(List.getElem?_eq_some_iff.1 p).1
      have hh:(j-xs.length)*sz+sz≤ys.length*sz:=by rw[←Nat.succ_mul];exact Nat.mul_le_mul_right _ an
      have a8:j*sz=xs.length*sz+(j-xs.length)*sz:=by rw[←Nat.add_mul];congr 1;omega
      have e2:((f.toList.take (l+xs.length*sz)++d++f.toList.drop (l+xs.length*sz+d.length)).toArray.toList.drop (l+j*sz)).take sz=(d.drop ((j-xs.length)*sz)).take sz:=by
       rw[List.toList_toArray,List.append_assoc]
       rw[List.drop_append,List.drop_eq_nil_of_le (by rw[List.length_take,Array.length_toList (xs:=f)];omega),List.nil_append,List.length_take,Array.length_toList (xs:=f),
        show l+j*sz-min (l+xs.length*sz) f.size=(j-xs.length)*sz by omega,
        List.drop_append_of_le_length (by omega),List.take_append_of_le_length (by rw[List.length_drop];omega)]
      rw[e2];exact this
 ·-- a new row
  have O: ∃n:List Value,n.length=xs.length*sz∧(Builtin.firstCells i.size xs.length (.slice D xs.length c)).run P w.drew= .ok n.toArray w.drew∧ ∀j x,xs[j]? =some x→R σ x ((n.drop (j*sz)).take sz):=by
   by_cases J:c=0
   ·subst J
    have p:xs=[]:=List.eq_nil_of_length_eq_zero (by omega)
    subst p
    refine ⟨[],by simp,?_,by simp⟩
    cases D with
    | none=>exact run_firstCells_none w.drew i.size 0 0 0
    | some a'=>exact run_firstCells_some w.drew i.size 0 a' 0 0 [] (by simp) (by intro _ _ h';simp at h')
   ·obtain ⟨g,l,f,rfl,q1,q2,Y,q4,q5⟩:=c3 (by omega)
    have e1:xs.length*sz≤c*sz:=Nat.mul_le_mul_right _ c1
    refine ⟨(f.toList.drop l).take (xs.length*sz),by rw[List.length_take,List.length_drop,Array.length_toList (xs:=f)];omega,?_,fun j x p=>?_⟩
    ·refine run_firstCells_some w.drew i.size xs.length ⟨g,l,none⟩ xs.length c _ (by rw[List.length_take,List.length_drop,Array.length_toList (xs:=f),E];omega) (fun j u H=>?_)
     rw[List.getElem?_take] at H
     split at H
     ·rw[List.getElem?_drop] at H
      have ax:w.drew.heap[g]? =some (.cells f e (0,0)):=Y
      unfold World.cell?
      rw[C2,Xp,I3 rfl]
      simp only[ax]
      simpa using H
     ·cases H
    ·have U:j<xs.length:=(List.getElem?_eq_some_iff.1 p).1
     have hh:j*sz+sz≤xs.length*sz:=by rw[←Nat.succ_mul];exact Nat.mul_le_mul_right _ U
     have:=q5 j x p
     rw[List.drop_take,List.take_take,List.drop_drop,show min sz (xs.length*sz-j*sz)=sz by omega]
     exact this
  obtain ⟨n,o1,o2,o3⟩:=O
  have hg:c<xs.length+ys.length:=by omega
  have y:=run_append_grow_src (P:=P) w t t ty e i z ts.h hi N D xs.length c n o2 (.slice a ys.length m) ys.length d q hg (by omega) (growslice_fits hg (by rw[al];exact Q))
  have aq:=grownCap_le_maxLen w (xs.length+ys.length) c e (by simp only[maxLen];omega)
  have ao:=grownCap_ge w (xs.length+ys.length) c e
  have hL:(n++d).length=(xs.length+ys.length)*sz:=by rw[List.length_append,o1,n2,Nat.add_mul]
  refine L _ _ y ?_ ?_ (.inr ⟨(Below.refl _ _).drew.alloc (Nat.le_refl _) _,by intro k hk;cases hk;exact Nat.le_refl _⟩)
  ·exact Kpt.of_below ((Below.refl _ _).drew.alloc (Nat.le_refl _) _)
  ·refine ⟨_,_,by rw[List.length_append],by rw[List.length_append];exact ao,aq,by rintro _ ⟨⟩;exact ⟨rfl,hB,(Array.getElem?_eq_some_iff.1 (heap_alloc_new w.drew _)).1,V.none (Nat.le_refl _)⟩,fun _=>⟨w.heap.size,0,_,rfl,hB,V.none (Nat.le_refl _),heap_alloc_new w.drew _,?_,fun j x p=>?_⟩⟩
   ·rw[Array.size_append,List.size_toArray,hL,size_zeroCells,ak,←Nat.add_mul]
    rw[Nat.zero_add];exact Nat.mul_le_mul_right _ (by omega)
   ·rw[Nat.zero_add,Array.toList_append]
    have U:j<xs.length+ys.length:=by have:=(List.getElem?_eq_some_iff.1 p).1;rwa [List.length_append] at this
    have hh:j*sz+sz≤(xs.length+ys.length)*sz:=by rw[←Nat.succ_mul];exact Nat.mul_le_mul_right _ U
    rw[List.drop_append_of_le_length (by simp only[List.toList_toArray];omega),List.take_append_of_le_length (by rw[List.length_drop];simp only[List.toList_toArray];omega)]
    simp only[List.toList_toArray]
    by_cases X:j<xs.length
    ·rw[List.getElem?_append_left X] at p
     rw[Du n d xs.length j o1 X]
     exact o3 j x p
    ·rw[List.getElem?_append_right (by omega)] at p
     have:=n5 _ _ p
     rw[show j*sz=n.length+(j-xs.length)*sz by rw[o1,←Nat.add_mul];congr 1;omega,List.drop_append]
     simpa [List.drop_eq_nil_of_le] using this
end
theorem Zc {b:Nat} (h:w1.heap.size≤b) (k:Stp w σ w1 σ1):w.heap.size≤b:=Nat.le_trans k.bel.size h
theorem I2 {t:TypeId} {sz by_:Nat} {z:Value} [tz:TZ P t sz by_ z] (c:X4 w σ) (h: ∀b w' σ',w.heap.size≤b→Stp w σ w' σ'→Z5 σ' w' b z.cells.toList→K (.pointer (some ⟨b,0,none⟩)) w'):W6 P t w K:=
 Hi c fun b w' d a f=>h b w' σ d a f
theorem Tl {t:TypeId} {cs:List Value} (c:X4 w σ) (h: ∀b w' σ',w.heap.size≤b→Stp w σ w' σ'→Z5 σ' w' b cs→K (.pointer (some ⟨b,0,none⟩)) w'):box P t (.agg cs.toArray) w K:=
 Q95 c fun b w' d a f=>h b w' σ d a (by simpa [Value.cells] using f)
theorem T8 {t:TypeId} {sz by_:Nat} {z:Value} [tz:TZ P t sz by_ z] {b:Nat} {cs ds:List Value} (c:Z5 σ w b cs) (f:Stp w0 σ0 w σ) (j:w0.heap.size≤b) (d:cs.length=sz) (g:ds.length=sz) (k: ∀u∈ds,u.oneCell'=true)
 (h: ∀w',Hst w0 σ0 w' σ→Z5 σ w' b ds→K undef w'):Z4 P t (.pointer (some ⟨b,0,none⟩)) (.agg ds.toArray) w K:=
 sta c d g (by rw[List.all_toArray];exact List.all_eq_true.2 k) fun w' i a=>h w' ⟨i.stp f j c.1⟩ a
structure Nxt (D : Nat → Prop) (w : World) (σ : Q5) (w' : World) (σ' : Q5) : Prop where
  kp : Kpt D w w'
  le : SLe σ σ'
  old : ∀ k, k < w.heap.size → σ' k = σ k
  sat : X4 w' σ'
theorem Nxt.of_stp {D:Nat→Prop} (h:Stp w σ w' σ'):Nxt D w σ w' σ':=⟨Kpt.of_below h.bel,⟨h.le⟩,h.old,h.sat⟩
theorem Nxt.trans {D:Nat→Prop} (h:Nxt D w σ w' σ') (k:Nxt D w' σ' w'' σ1):Nxt D w σ w'' σ1:=
 ⟨h.kp.trans k.kp,h.le.more k.le,fun i a=>(k.old i (Nat.lt_of_lt_of_le a h.kp.size)).trans (h.old i a),k.sat⟩
theorem Z5.nx {D:Nat→Prop} {b:Nat} {cs:List Value} (h:Z5 σ w b cs) (k:Nxt D w σ w' σ') (c: ¬D b):Z5 σ' w' b cs:=by
 have a:=h.lt
 obtain ⟨f,e,d⟩:=h
 exact ⟨(k.old b a).trans f,e,(k.kp.block b a c).trans d⟩
theorem E1.nx {D:Nat→Prop} {r:Nat} {m:List (List UInt8×Value)} (h:E1 σ w r m) (k:Nxt D w σ w' σ') (a: ¬D r):E1 σ' w' r m:=
 ⟨(k.old r h.lt).trans h.1,(k.kp.block r h.lt a).symm▸h.2⟩
section
variable {α : Type} {R : Q5 → α → List Value → Prop} {B sz : Nat} {e : TypeId} {v u : Value} {xs : List α} {x : α}
theorem V6.nx [hr:Rep R] {D:Nat→Prop} (h:V6 B e sz R σ w v xs) (k:Nxt D w σ w' σ') (d: ∀k,v.ownBlock=some k→ ¬D k):V6 B e sz R σ' w' v xs:=by
 have c:=h.kp k.kp d
 obtain ⟨cells,j,g,b⟩:=c
 refine ⟨cells,j,fun i a=>(k.old i (h.mem i a).2.1).trans (g i a),fun i x f=>hr.up k.le.le (b i x f)⟩
theorem J9.nx [hr:Rep R] {D:Nat→Prop} (h:J9 B e sz R σ w v xs) (k:Nxt D w σ w' σ') (A: ∀k,v.ownBlock=some k→ ¬D k):J9 B e sz R σ' w' v xs:=by
 obtain ⟨a,f,rfl,t,o,c,r⟩:=h
 refine ⟨a,f,rfl,t,o,fun b d=>⟨(c b d).1,(c b d).2.1,Nat.lt_of_lt_of_le (c b d).2.2.1 k.kp.size,(k.old _ (c b d).2.2.1).trans (c b d).2.2.2⟩,fun C=>?_⟩
 obtain ⟨g,j,l,rfl,p,s,m,y,z⟩:=r C
 have n:=(Array.getElem?_eq_some_iff.1 m).1
 exact ⟨g,j,l,rfl,p,(k.old g n).trans s,(k.kp.block g n (A g rfl)).trans m,y,fun i x q=>hr.up k.le.le (z i x q)⟩
theorem Jm {t r:TypeId} {by_:Nat} {z:Value} {cs:List Bool} {A:Value→Value→World→Prop} [ts:TS P t e] [tz:TZ P e sz by_ z] [hr:Rep R] (l:Stp w0 σ0 w σ) (q:V6 w0.heap.size e sz R σ w v xs) (C:R σ x u.cells.toList) (D:u.cells.size=sz) (p:(z.cells.size==sz&&decide (0<sz))=true) (f:(decide (0<sz)&&decide ([u].length*sz≤16777216))=true)
 (o:(xs.length+1)*by_≤140737488355328) (y:xs.length+1≤9223372036854775807)
 (h: ∀s a w' σ',Nxt (fun k=>v.ownBlock=some k) w σ w' σ'→Stp w0 σ0 w' σ'→V6 w0.heap.size e sz R σ' w' a (xs++[x])→(a.ownBlock=v.ownBlock∨ ∀k,a.ownBlock=some k→w.heap.size≤k)→A s a w'):
 buildSlice P t 1 [(0,u)] w (fun s w=>X5 P .append [t,t] r cs [v,s] w (fun a w=>A s a w)):=by
 refine E3 l.sat [u] [x] rfl rfl (by simpa using D) f ⟨C,trivial⟩ fun s w1 σ1 b j=>?_
 refine app (l.trans b) (q.up b) j p (by simpa using o) (by simpa using y) fun a m n c i hat=>?_
 have d:Kpt (fun k=>v.ownBlock=some k) w m:=(Kpt.of_below b.bel).trans (Kpt.of_grown n fun k b=>b)
 refine h s a m σ1 ⟨d,⟨b.le⟩,b.old,c.sat⟩ c i ?_
 rcases hat with hat | hat
 ·exact .inl hat
 ·exact .inr fun k g=>Nat.le_trans b.bel.size (hat k g)
theorem Ow {t n:TypeId} {by_:Nat} {z:Value} {cs:List Bool} {ys:List α} [ts:TS P t e] [tz:TZ P e sz by_ z] [hr:Rep R] (g:Stp w0 σ0 w σ) (m:V6 w0.heap.size e sz R σ w v xs) (p:Sl sz R σ u ys) (j:(z.cells.size==sz&&decide (0<sz))=true)
 (i:(xs.length+ys.length)*by_≤140737488355328) (o:xs.length+ys.length≤9223372036854775807)
 (h: ∀a w',Nxt (fun k=>v.ownBlock=some k) w σ w' σ→Stp w0 σ0 w' σ→V6 w0.heap.size e sz R σ w' a (xs++ys)→(a.ownBlock=v.ownBlock∨ ∀k,a.ownBlock=some k→w.heap.size≤k)→K a w'):X5 P .append [t,t] n cs [v,u] w K:=
 app g m p j i o fun a q f b d c=>h a q ⟨Kpt.of_grown f fun k l=>l,SLe.refl _,fun _ _=>rfl,b.sat⟩ b d c
end
section
variable {α : Type} {R : Q5 → α → List Value → Prop} {B sz : Nat} {e : TypeId} {v u : Value} {xs : List α} {x : α}
theorem J9.mono {k:Nat} (h:J9 B e sz R σ w v xs) (l:k≤B):J9 k e sz R σ w v xs:=by
 obtain ⟨a,i,rfl,r,p,d,m⟩:=h
 refine ⟨a,i,rfl,r,p,fun b c=>⟨(d b c).1,Nat.le_trans l (d b c).2.1,(d b c).2.2⟩,fun n=>?_⟩
 obtain ⟨g,f,j,rfl,o,q⟩:=m n
 exact ⟨g,f,j,rfl,Nat.le_trans l o,q⟩
theorem J9.own (h:J9 B e sz R σ w v xs) {k:Nat} (a:v.ownBlock=some k):B≤k:=(h.mem a).1
theorem J9.keep [hr:Rep R] (h:J9 w0.heap.size e sz R σ w v xs) (n:Stp w0 σ0 w σ): ∃σ',Stp w0 σ0 w σ'∧Sl sz R σ' v xs∧SLe σ σ'∧(∀k,some k≠v.ownBlock→σ' k=σ k):=by
 obtain ⟨a,f,rfl,C,s,p,z⟩:=h
 by_cases E:f=0
 ·have m:xs=[]:=List.eq_nil_of_length_eq_zero (by omega)
  subst E m
  exact ⟨σ,n,⟨a,0,rfl,by simp,by simp,fun _=>rfl,fun b t=>⟨fun _=>(p b t).1,by simp⟩⟩,SLe.refl _,fun _ _=>rfl⟩
 ·obtain ⟨g,o,c,rfl,y,q,r,J,D⟩:=z (by omega)
  have d:=Q5.put_le n.sat q (.cells c e (0,0))
  refine ⟨σ.put g (.cells c e (0,0)),n.put q y r,⟨_,f,rfl,C,s,by simp,?_⟩,⟨d⟩,?_⟩
  ·rintro _ ⟨⟩
   refine ⟨fun _=>rfl,fun i x m=>⟨(c.toList.drop (o+i*sz)).take sz,⟨I3 rfl _,c,e,(0,0),by rw[C2];simp[Q5.put],?_⟩,?_,hr.up d (D i x m)⟩⟩
   ·intro j u l
    rw[Xp]
    rw[List.getElem?_take] at l
    split at l
    ·rw[List.getElem?_drop] at l;simpa using l
    ·cases l
   ·have H:i<xs.length:=(List.getElem?_eq_some_iff.1 m).1
    have h:i*sz+sz≤f*sz:=by rw[←Nat.succ_mul];exact Nat.mul_le_mul_right _ (by omega)
    rw[List.length_take,List.length_drop,Array.length_toList (xs:=c)];omega
  ·intro k A
   have:k≠g:=by intro e;subst e;exact A rfl
   simp only[Q5.put,if_neg this]
theorem Q9D {t M:TypeId} {by_:Nat} {z:Value} {A:Value→Value→World→Prop} {ds:List Value} [ts:TS P t e] [tz:TZ P e sz by_ z] {E:Nat} {z':Value} [tz':TZ P M sz E z'] (V:Stp w0 σ0 w σ) (ha:J9 w0.heap.size e sz R σ w v xs) {n:Nat} (hn:n<xs.length) (J:ds.length=sz) (X:R σ x ds) (h1: ∀u∈ds,u.oneCell'=true)
 (h: ∀p u w',Kpt (fun k=>v.ownBlock=some k) w w'→Hst w0 σ0 w' σ→J9 w0.heap.size e sz R σ w' v (xs.set n x)→A p u w'):
 indexAddr P t v (I n) w (fun p w=>Z4 P M p (.agg ds.toArray) w (fun u w=>A p u w)):=by
 obtain ⟨a,f,rfl,c1,U,i,Y⟩:=ha
 obtain ⟨g,c,d,rfl,N,O,L,q4,q5⟩:=Y (by omega)
 rw[Cg (by omega) (by omega)]
 have hh:n*sz+sz≤f*sz:=by rw[←Nat.succ_mul];exact Nat.mul_le_mul_right _ (by omega)
 have m:(⟨g,c,none⟩:Addr).add ((n:Int).toNat*sz)=⟨g,c+n*sz,none⟩:=by unfold Addr.add;split<;>simp_all
 rw[m]
 have q:=run_storeCells_at P g (c+n*sz) e ds 0 d w L (by omega) h1
 simp only[Nat.add_zero] at q
 obtain ⟨l,C⟩:=Oz (cs:=(d.toList.take (c+n*sz)++ds++d.toList.drop (c+n*sz+ds.length)).toArray) L
 unfold Z4
 rw[Mv (w':=w.setRow g (d.toList.take (c+n*sz)++ds++d.toList.drop (c+n*sz+ds.length)).toArray) (by
  simp[Instr.storeAt,Instr.sureAddr,storeVar,W4 tz',Value.cells,J]
  simpa [J] using q)]
 have Z:Kpt (fun k=>(Value.slice (some ⟨g,c,none⟩) xs.length f).ownBlock=some k) w (w.setRow g (d.toList.take (c+n*sz)++ds++d.toList.drop (c+n*sz+ds.length)).toArray):=Kpt.of_upd l rfl
 refine h _ _ _ Z ⟨l.stp V N O⟩ ⟨_,f,by rw[List.length_set],by rw[List.length_set];exact c1,U,fun b r=>⟨(i b r).1,(i b r).2.1,by rw[l.size];exact (i b r).2.2.1,(i b r).2.2.2⟩,fun _=>⟨g,c,_,rfl,N,O,C,?_,fun j y o=>?_⟩⟩
 ·simp;omega
 ·rw[List.toList_toArray]
  have aa:=Array.length_toList (xs:=d)
  have D:j<xs.length:=by have:=(List.getElem?_eq_some_iff.1 o).1;simpa using this
  have W:j*sz+sz≤f*sz:=by rw[←Nat.succ_mul];exact Nat.mul_le_mul_right _ (by omega)
  by_cases Q:j=n
  ·subst Q
   rw[List.getElem?_set_self D] at o
   cases o
   rw[List.append_assoc,List.drop_append,List.drop_eq_nil_of_le (by rw[List.length_take];omega),List.nil_append,List.length_take,show c+j*sz-min (c+j*sz) d.toList.length=0 by omega,List.drop_zero,List.take_append_of_le_length (by omega),List.take_of_length_le (by omega)]
   exact X
  ·rw[List.getElem?_set_ne (by omega)] at o
   have:=q5 j y o
   rcases Nat.lt_or_gt_of_ne Q with H | hgt
   ·have s:j*sz+sz≤n*sz:=by rw[←Nat.succ_mul];exact Nat.mul_le_mul_right _ H
    rw[List.append_assoc,List.drop_append_of_le_length (by rw[List.length_take];omega),List.take_append_of_le_length (by rw[List.length_drop,List.length_take];omega),List.drop_take,List.take_take]
    rwa [show min sz (c+n*sz-(c+j*sz))=sz by omega]
   ·have s:n*sz+sz≤j*sz:=by rw[←Nat.succ_mul];exact Nat.mul_le_mul_right _ hgt
    rw[List.drop_append,List.drop_eq_nil_of_le (by rw[List.length_append,List.length_take];omega),List.nil_append,List.length_append,List.length_take,List.drop_drop,J]
    rwa [show c+n*sz+sz+(c+j*sz-(min (c+n*sz) d.toList.length+sz))=c+j*sz by omega]
end
theorem Q4C (p:Nat→Prop): ∀n,p n→ ∃m,p m∧ ∀k,p k→m≤k:=by
 intro n
 induction n using Nat.strongRecOn with
 | _ n d=>
  intro h
  by_cases b: ∃k,k<n∧p k
  ·obtain ⟨k,f,c⟩:=b;exact d k f c
  ·exact ⟨n,h,fun k g=>Nat.le_of_not_lt fun a=>b ⟨k,a,g⟩⟩
noncomputable def Az (p:Nat→Prop):Nat:=open Classical in if h: ∃m,p m∧ ∀k,p k→m≤k then Classical.choose h else 0
theorem Pk {p:Nat→Prop} {n:Nat} (h:p n):p (Az p)∧Az p≤n:=by
 have a:=Q4C p n h
 unfold Az
 rw[dif_pos a]
 exact ⟨(Classical.choose_spec a).1,(Classical.choose_spec a).2 n h⟩
theorem Fj {α:Type} {g:α} {A:(α→World→Prop)→α→(Nat→Value)→World→Prop} (I:Nat→α→World→Prop) (n:Nat) (j:I n g w)
 (i: ∀a n x d w,I n x w→(∀c b w',c<n→I c b w'→a b w')→A a x d w):lp g w A:=by
 refine Zs (fun x w=> ∃n,I n x w) (fun x w=>Az fun n=>I n x w) ⟨n,j⟩ ?_
 rintro x d w ⟨n,k⟩
 obtain ⟨l,m⟩:=Pk (p:=fun n=>I n x w) k
 refine i _ _ x d w l fun c b w' f h=>⟨⟨c,h⟩,?_⟩
 exact Nat.lt_of_le_of_lt (Pk (p:=fun n=>I n b w') h).2 f
section
variable {α : Type} {R : Q5 → α → List Value → Prop} {B sz : Nat} {e : TypeId} {v u : Value} {xs ys : List α} {x : α}
theorem J9.below (h:J9 B e sz R σ w v xs) (a:Below w.heap.size w w'):J9 B e sz R σ w' v xs:=h.kp (D:=fun _=>False) (.of_below a) fun _ _=>id
theorem J9.pre {a:Option Addr} {n m b:Nat} (h:J9 B e sz R σ w (.slice a m b) (xs++ys)) (r:n=xs.length):J9 B e sz R σ w (.slice a n b) xs:=by
 obtain ⟨J,j,q,z,p,d,t⟩:=h
 injection q with l e2 A
 subst l A r
 rw[List.length_append] at z
 refine ⟨a,b,rfl,by omega,p,d,fun H=>?_⟩
 obtain ⟨g,c,f,E,s,y,o,C,D⟩:=t H
 exact ⟨g,c,f,E,s,y,o,C,fun i x k=>D i x (by rw[List.getElem?_append_left (List.getElem?_eq_some_iff.1 k).1];exact k)⟩
def Cm (B:Nat) (e:TypeId) (sz:Nat) (R:Q5→α→List Value→Prop) (σ:Q5) (v:Value) (xs:List α) (x:α) (w1 c:World):Prop:=
 Kpt (fun k=>v.ownBlock=some k) w1 c∧(J9 B e sz R σ w1 v xs→J9 B e sz R σ c v xs)∧
  ∀a b,v= .slice a xs.length b→J9 B e sz R σ w1 (.slice a (xs.length+1) b) (xs++[x])→J9 B e sz R σ c (.slice a (xs.length+1) b) (xs++[x])
theorem Cm.below (a:Below w.heap.size w w'):Cm B e sz R σ v xs x w w':=⟨.of_below a,fun h=>h.below a,fun _ _ _ h=>h.below a⟩
theorem Cm.refl:Cm B e sz R σ v xs x w w:=Cm.below (Below.refl _ _)
def VQa (N B:Nat) (e:TypeId) (sz:Nat) (R:Q5→α→List Value→Prop) (σ:Q5) (v:Value) (xs:List α) (x:α) (c:Value) (w:World):Prop:=
 J9 B e sz R σ w c (xs++[x])∧((∃a b,v= .slice a xs.length b∧c= .slice a (xs.length+1) b)∨((∀k,c.ownBlock=some k→N≤k)∧ ∀k,v.ownBlock=some k→k<N))
theorem VQa.stable {N:Nat} {g:Value} (h:VQa N B e sz R σ v xs x g w) (i:Cm B e sz R σ v xs x w w'):VQa N B e sz R σ v xs x g w':=by
 obtain ⟨j,b⟩:=h
 refine ⟨?_,b⟩
 rcases b with ⟨a,f,c,rfl⟩ | ⟨b,c⟩
 ·exact i.2.2 a f c j
 ·exact j.kp i.1 fun k l d=>by have:=b k l;have:=c k d;omega
theorem Kpt.more {D E:Nat→Prop} (h:Kpt D w w') (k:Kpt E w' w'') (hE: ∀j,E j→w.heap.size≤j):Kpt D w w'':=
 ⟨k.os.trans h.os,k.tape.trans h.tape,k.output.trans h.output,Nat.le_trans h.size k.size,fun i a b=>(k.block i (Nat.lt_of_lt_of_le a h.size) fun e=>by have:=hE i e;omega).trans (h.block i a b)⟩
end
end Go.Emb

namespace Go.Hm
open Go.Kd
theorem U1 {l:List Cla} {n:Q9} {c:Cla} (h:lk l n=some c):c.name=n∧c∈l∧ ∃i,Y4 l n=some i∧l[i]? =some c:=by
 unfold lk at h
 cases a:Y4 l n with
 | none=>rw[a] at h;cases h
 | some i=>
  rw[a] at h
  obtain ⟨b,e,_⟩:=List.findIdx?_eq_some_iff_getElem.1 a
  have d:l[i]? =some c:=h
  rw[List.getElem?_eq_getElem b] at d
  cases d
  exact ⟨by simpa using e,List.getElem_mem b,i,rfl,List.getElem?_eq_getElem b⟩
theorem Xr {l:List Cla} {n:Q9} {i:Nat} (h:Y4 l n=some i): ∃c,lk l n=some c∧l[i]? =some c∧c.name=n:=by
 obtain ⟨a,b,_⟩:=List.findIdx?_eq_some_iff_getElem.1 h
 refine ⟨l[i],?_,List.getElem?_eq_getElem a,by simpa using b⟩
 unfold lk;rw[h];simp[a]
theorem Q04 {l:List Cla} {n:Q9}:Ag l n=(lk l n).isSome:=by
 unfold Ag
 cases a:Y4 l n with
 | none=>simp[lk,a]
 | some i=>obtain ⟨c,h,_⟩:=Xr a;simp[h]
theorem Q8C {l:List Cla} {c:Cla} (h:c∈l): ∃d,lk l c.name=some d:=by
 cases a:Y4 l c.name with
 | none=>
  have:=List.findIdx?_eq_none_iff.1 a c h
  simp at this
 | some i=>obtain ⟨d,h,_⟩:=Xr a;exact ⟨d,h⟩
inductive Reach (L : Uk) : Q9 → Q9 → Prop
  | refl {a : Q9} {c : Cla} : L a = some c → Reach L a a
  | step {a u b : Q9} {c : Cla} : L a = some c → u ∈ J3 c → Reach L u b → Reach L a b
theorem Reach.trans {L:Uk} {a b d:Q9} (h:Reach L a b) (k:Reach L b d):Reach L a d:=by
 induction h with
 | refl _=>exact k
 | step c e _ f=>exact .step c e (f k)
theorem Reach.right {L:Uk} {a b:Q9} (h:Reach L a b): ∃c,L b=some c:=by
 induction h with
 | refl h=>exact ⟨_,h⟩
 | step _ _ _ d=>exact d
theorem Reach.left {L:Uk} {a b:Q9} (h:Reach L a b): ∃c,L a=some c:=by
 cases h with
 | refl h=>exact ⟨_,h⟩
 | step h _ _=>exact ⟨_,h⟩
theorem Q0e (L:Uk): ∀(f:Nat) (a b:List Q9),∃r,Jh L f a b=b++r:=by
 intro f
 induction f with
 | zero=>intro a b;exact ⟨[],by simp[Jh]⟩
 | succ f c=>
  intro a b
  cases a with
  | nil=>exact ⟨[],by simp[Jh]⟩
  | cons n a=>
   simp only[Jh]
   split
   ·exact c _ _
   ·split
    ·exact c _ _
    ·obtain ⟨r,d⟩:=c (a++J3 ‹_›) (b++[n])
     exact ⟨n::r,by rw[d];simp⟩
theorem Q8F (L:Uk): ∀(f:Nat) (a b:List Q9) (x:Q9),x∈Jh L f a b→x∈b∨ ∃t∈a,Reach L t x:=by
 intro f
 induction f with
 | zero=>intro a b x h;exact .inl h
 | succ f d=>
  intro a b x h
  cases a with
  | nil=>exact .inl h
  | cons n a=>
   simp only[Jh] at h
   split at h
   ·rcases d _ _ _ h with h | ⟨t,ht,h⟩
    ·exact .inl h
    ·exact .inr ⟨t,by simp[ht],h⟩
   ·rename_i c e
    split at h
    ·rcases d _ _ _ h with h | ⟨t,ht,h⟩
     ·exact .inl h
     ·exact .inr ⟨t,by simp[ht],h⟩
    ·rcases d _ _ _ h with h | ⟨t,ht,h⟩
     ·rcases List.mem_append.1 h with h | h
      ·exact .inl h
      ·simp at h;subst h;exact .inr ⟨x,by simp, .refl e⟩
     ·rcases List.mem_append.1 ht with ht | ht
      ·exact .inr ⟨t,by simp[ht],h⟩
      ·exact .inr ⟨n,by simp, .step e ht h⟩
theorem Q8X (l:List Cla) (b a:List Q9) (h: ∀x∈b,x∈a):weigh l a≤weigh l b:=by
 unfold weigh
 induction l with
 | nil=>simp
 | cons c r e=>
  simp only[List.map_cons,List.sum_cons]
  by_cases d:c.name∈b
  ·rw[if_pos d,if_pos (h _ d)];omega
  ·rw[if_neg d];split<;>omega
theorem Cz (l:List Cla) (a:List Q9) (c:Cla) (hc:c∈l) (f:c.name∉a):weigh l (a++[c.name])+(J3 c).length≤weigh l a:=by
 unfold weigh
 induction l with
 | nil=>simp at hc
 | cons d r h=>
  simp only[List.map_cons,List.sum_cons]
  have b:weigh r (a++[c.name])≤weigh r a:=Q8X _ _ _ (by simp;intro x g;exact .inl g)
  unfold weigh at b
  rcases List.mem_cons.1 hc with rfl | hc
  ·rw[if_pos (by simp),if_neg f];omega
  ·have:=h hc
   by_cases e:d.name∈a
   ·rw[if_pos (by simp[e]),if_pos e];omega
   ·rw[if_neg e];split<;>omega
theorem Q9f (l:List Cla): ∀(f:Nat) (a b:List Q9),a.length+weigh l b≤f→
 (∀x∈b,∀c,lk l x=some c→ ∀u∈J3 c,∀d,lk l u=some d→u∈b∨u∈a)→
 (∀t∈a,∀d,lk l t=some d→t∈Jh (lk l) f a b)∧ ∀x∈Jh (lk l) f a b,∀c,lk l x=some c→ ∀u∈J3 c,∀d,lk l u=some d→u∈Jh (lk l) f a b:=by
 intro f
 induction f with
 | zero=>
  intro a b w o
  have:a=[]:=List.eq_nil_of_length_eq_zero (by omega)
  subst this
  refine ⟨by simp,fun x hx c j u i d g=>?_⟩
  rcases o x hx c j u i d g with h | h
  ·exact h
  ·simp at h
 | succ f v=>
  intro a b w o
  cases a with
  | nil=>
   refine ⟨by simp,fun x hx c j u i d g=>?_⟩
   rcases o x hx c j u i d g with h | h
   ·exact h
   ·simp at h
  | cons n a=>
   simp only[List.length_cons] at w
   simp only[Jh]
   split
   ·rename_i y
    obtain ⟨q,p⟩:=v a b (by omega) (fun x hx c j u i d g=>by
     rcases o x hx c j u i d g with h | h
     ·exact .inl h
     ·rcases List.mem_cons.1 h with rfl | h
      ·rw[y] at g;cases g
      ·exact .inr h)
    refine ⟨fun t ht d g=>?_,p⟩
    rcases List.mem_cons.1 ht with rfl | ht
    ·rw[y] at g;cases g
    ·exact q t ht d g
   ·rename_i c j
    split
    ·rename_i k
     obtain ⟨r,s⟩:=Q0e (lk l) f a b
     obtain ⟨q,p⟩:=v a b (by omega) (fun x hx c j u i d g=>by
      rcases o x hx c j u i d g with h | h
      ·exact .inl h
      ·rcases List.mem_cons.1 h with rfl | h
       ·exact .inl k
       ·exact .inr h)
     refine ⟨fun t ht d g=>?_,p⟩
     rcases List.mem_cons.1 ht with rfl | ht
     ·rw[s];simp[k]
     ·exact q t ht d g
    ·rename_i k
     obtain ⟨e,A,_⟩:=U1 j
     have B:=Cz l b c A (by rw[e];exact k)
     rw[e] at B
     obtain ⟨q,p⟩:=v (a++J3 c) (b++[n]) (by rw[List.length_append];omega) (fun x hx z m u i d g=>by
      rcases List.mem_append.1 hx with hx | hx
      ·rcases o x hx z m u i d g with h | h
       ·exact .inl (by simp[h])
       ·rcases List.mem_cons.1 h with rfl | h
        ·exact .inl (by simp)
        ·exact .inr (by simp[h])
      ·simp at hx;subst hx
       rw[j] at m;cases m
       exact .inr (by simp[i]))
     refine ⟨fun t ht d g=>?_,p⟩
     rcases List.mem_cons.1 ht with rfl | ht
     ·obtain ⟨r,s⟩:=Q0e (lk l) f (a++J3 c) (b++[t])
      rw[s];simp
     ·exact q t (by simp[ht]) d g
theorem Zy {l:List Cla} {a b:Q9}:b∈R4 l a↔Reach (lk l) a b:=by
 obtain ⟨j,g⟩:=Q9f l (1+weigh l []) [a] [] (by simp) (by simp)
 constructor
 ·intro h
  rcases Q8F _ _ _ _ _ h with h | ⟨t,e,k⟩
  ·simp at h
  ·simp at e;subst e;exact k
 ·intro h
  have key: ∀{x y:Q9},Reach (lk l) x y→x∈R4 l a→y∈R4 l a:=by
   intro x y h
   induction h with
   | refl _=>exact id
   | step n m f o=>
    intro i
    obtain ⟨d,c⟩:=f.left
    exact o (g _ i _ n _ m _ c)
  obtain ⟨d,c⟩:=h.left
  exact key h (j a (by simp) d c)
theorem Q9n (l:List Cla): ∀(f:Nat) (a b:List Q9),a.length+weigh l b≤f→ ∀k,Jh (lk l) (f+k) a b=Jh (lk l) f a b:=by
 intro f
 induction f with
 | zero=>
  intro a b h k
  have:a=[]:=List.eq_nil_of_length_eq_zero (by omega)
  subst this
  cases k<;>rfl
 | succ f g=>
  intro a b h k
  cases a with
  | nil=>rw[Nat.succ_add];rfl
  | cons n a=>
   simp only[List.length_cons] at h
   rw[Nat.succ_add]
   simp only[Jh]
   split
   ·exact g _ _ (by omega) k
   ·rename_i c i
    split
    ·exact g _ _ (by omega) k
    ·rename_i d
     obtain ⟨e,m,_⟩:=U1 i
     have j:=Cz l b c m (by rw[e];exact d)
     rw[e] at j
     exact g _ _ (by rw[List.length_append];omega) k
end Go.Hm

namespace Go.Hm
open Go.Kd
def Um (L:Uk) (a b:Q9):Prop:= ∃c,L a=some c∧ ∃u∈J3 c,Reach L u b
def Yg (l:List Cla):Prop:= ∀a,¬Um (lk l) a a
theorem Um.reach {L:Uk} {a b:Q9} (h:Um L a b):Reach L a b:=by
 obtain ⟨c,e,u,d,f⟩:=h;exact .step e d f
theorem Um.trans {L:Uk} {a b d:Q9} (h:Um L a b) (k:Reach L b d):Um L a d:=by
 obtain ⟨c,f,u,e,g⟩:=h;exact ⟨c,f,u,e,g.trans k⟩
theorem Pw {L:Uk} {a b:Q9}:Reach L a b↔(a=b∧(∃c,L a=some c))∨Um L a b:=by
 constructor
 ·intro h
  cases h with
  | refl h=>exact .inl ⟨rfl,_,h⟩
  | step f e d=>exact .inr ⟨_,f,_,e,d⟩
 ·rintro (⟨rfl,c,h⟩ | h)
  ·exact .refl h
  ·exact h.reach
def A0 (l:List Cla) (a b:Q9):Bool:=match lk l a with
 | none=>false
 | some c=>(J3 c).any fun u=>(R4 l u).contains b
theorem Zp {l:List Cla} {a b:Q9}:A0 l a b=true↔Um (lk l) a b:=by
 unfold A0 Um
 cases h:lk l a with
 | none=>simp
 | some c=>
  simp only[List.any_eq_true,List.contains_iff_mem,Zy]
  constructor
  ·rintro ⟨u,d,e⟩;exact ⟨c,rfl,u,d,e⟩
  ·rintro ⟨_,⟨⟩,u,d,e⟩;exact ⟨u,d,e⟩
def B7 (l:List Cla) (n:Q9):Nat:=l.countP fun m=>A0 l n m.name
theorem Q02 (l:List Cla) (n:Q9):B7 l n≤l.length:=List.countP_le_length
theorem Q2B {α:Type} {p q:α→Bool}: ∀{l:List α},(∀x∈l,p x=true→q x=true)→(∃x∈l,q x=true∧p x=false)→l.countP p<l.countP q:=by
 intro l
 induction l with
 | nil=>rintro _ ⟨x,hx,_⟩;simp at hx
 | cons a r f=>
  rintro h ⟨x,hx,c,d⟩
  have e:r.countP p≤r.countP q:=List.countP_mono_left fun x hx=>h x (by simp[hx])
  rw[List.countP_cons,List.countP_cons]
  rcases List.mem_cons.1 hx with rfl | hx
  ·rw[c,d];simp;omega
  ·have:=f (fun x hx=>h x (by simp[hx])) ⟨x,hx,c,d⟩
   have g:=h a (by simp)
   cases b:p a
   ·simp;split<;>omega
   ·rw[g b];simp;omega
theorem X0z {l:List Cla} (g:Yg l) {a b:Q9} (h:Um (lk l) a b):B7 l b<B7 l a:=by
 unfold B7
 refine Q2B (fun x _ i=>?_) ?_
 ·rw[Zp] at*
  exact h.trans i.reach
 ·obtain ⟨d,f⟩:=(Reach.right (h.reach))
  obtain ⟨e,j,_⟩:=U1 f
  refine ⟨d,j,?_,?_⟩
  ·rw[Zp,e];exact h
  ·cases c:A0 l b d.name with
   | false=>rfl
   | true=>rw[Zp,e] at c;exact absurd c (g b)
theorem Qe {l:List Cla} (g:Yg l) {a u:Q9} {c d:Cla} (f:lk l a=some c) (e:u∈J3 c) (b:lk l u=some d):B7 l u<B7 l a:=
 X0z g ⟨c,f,u,e, .refl b⟩
theorem Q5y {l:List Cla} (e:Yg l): ∀(f g:Nat) (n:Q9),B7 l n<f→B7 l n<g→C5 (lk l) f n=C5 (lk l) g n:=by
 intro f
 induction f with
 | zero=>intro g n h;omega
 | succ f i=>
  intro g n k j
  obtain ⟨g,rfl⟩: ∃m,g=m+1:=⟨g-1,by omega⟩
  simp only[C5]
  cases b:lk l n with
  | none=>rfl
  | some c=>
   simp only
   congr 1
   cases a:lk l c.super with
   | none=>cases f<;>cases g<;>simp[C5,a]
   | some d=>
    have:=Qe e b (by simp[J3]) a
    exact i g c.super (by omega) (by omega)
theorem F8 {l:List Cla} (b:Yg l) (n:Q9):chain l n=match lk l n with | none=>[] | some c=>c::chain l c.super:=by
 have:=Q02 l n
 unfold chain
 rw[C5]
 cases e:lk l n with
 | none=>rfl
 | some c=>
  simp only
  congr 1
  cases a:lk l c.super with
  | none=>cases l.length<;>simp[C5,a]
  | some d=>
   have:=Qe b e (by simp[J3]) a
   exact Q5y b _ _ _ (by omega) (by omega)
theorem P0 {l:List Cla} {n:Q9} (h:lk l n=none):chain l n=[]:=by simp[chain,C5,h]
theorem My {α β:Type} {f g:α→Option β}: ∀{l:List α},(∀x∈l,f x=g x)→l.findSome? f=l.findSome? g
 | [],_=>rfl
 | a::r,h=>by
  rw[List.findSome?_cons,List.findSome?_cons,h a (by simp),My fun x b=>h x (by simp[b])]
theorem Q57 {l:List Cla} (b:Yg l) (n:Q9): ∀(f g:Nat) (c:Cla),lk l c.name=some c→B7 l c.name<f→B7 l c.name<g→Eu (lk l) f c n=Eu (lk l) g c n:=by
 intro f
 induction f with
 | zero=>intro g c _ h;omega
 | succ f k=>
  intro g c j p o
  obtain ⟨g,rfl⟩: ∃m,g=m+1:=⟨g-1,by omega⟩
  simp only[Eu]
  refine My fun u i=>?_
  cases a:lk l u with
  | none=>rfl
  | some d=>
   simp only
   cases R2 d n with
   | some m=>rfl
   | none=>
    simp only
    have:=Qe b j (by simp[J3,i]) a
    have e:=(U1 a).1
    exact k g d (by rw[e];exact a) (by rw[e];omega) (by rw[e];omega)
def U2 (l:List Cla) (c:Cla) (n:Q9):Option (Q9×Hm.Met):=Eu (lk l) (l.length+1) c n
theorem Q2R {l:List Cla} (b:Yg l) {c:Cla} (g:lk l c.name=some c) (n:Q9):U2 l c n=c.like.findSome? fun u=>match lk l u with
 | none=>none
 | some d=>match R2 d n with
  | some m=>some (u,m)
  | none=>U2 l d n:=by
 have:=Q02 l c.name
 unfold U2
 rw[Eu]
 refine My fun u f=>?_
 cases a:lk l u with
 | none=>rfl
 | some d=>
  simp only
  cases R2 d n with
  | some m=>rfl
  | none=>
   have:=Qe b g (by simp[J3,f]) a
   have e:=(U1 a).1
   exact Q57 b n _ _ d (by rw[e];exact a) (by rw[e];omega) (by rw[e];omega)
def G6 (l:List Cla):Prop:=(l.map (·.name)).Nodup
theorem G6.lk {l:List Cla} (h:G6 l) {c:Cla} (g:c∈l):Go.Hm.lk l c.name=some c:=by
 obtain ⟨d,f⟩:=Q8C g
 obtain ⟨e,o,i,p,b⟩:=U1 f
 obtain ⟨j,m,rfl⟩:=List.getElem_of_mem g
 obtain ⟨a,k⟩:=List.getElem?_eq_some_iff.1 b
 have:i=j:=by
  have n:(l.map (·.name))[i]'(by simpa using a)=(l.map (·.name))[j]'(by simpa using m):=by simp[k,e]
  exact (List.getElem_inj h).1 n
 subst this
 rw[f,←k]
theorem G6.find {l:List Cla} (h:G6 l) {i:Nat} {c:Cla} (f:l[i]? =some c):Y4 l c.name=some i:=by
 obtain ⟨b,rfl⟩:=List.getElem?_eq_some_iff.1 f
 have:=h.lk (List.getElem_mem b)
 obtain ⟨e,n,j,g,d⟩:=U1 this
 obtain ⟨a,m⟩:=List.getElem?_eq_some_iff.1 d
 have:j=i:=by
  have k:(l.map (·.name))[j]'(by simpa using a)=(l.map (·.name))[i]'(by simpa using b):=by simp[m]
  exact (List.getElem_inj h).1 k
 rw[g,this]
end Go.Hm

namespace Go.Emb
open Go.RowKit Go.Hm
variable {P : Program} {w w0 w1 w' w'' : World} {K : Value → World → Prop} {σ σ0 σ1 σ2 σ' : Q5}
theorem Stp.join (c:Stp w σ w' σ1) (f:Stp w σ w' σ2): ∃d,Stp w σ w' d∧SLe σ1 d∧SLe σ2 d:=by
 have h: ∀b o,σ1 b=some o→(fun b=>(σ1 b).or (σ2 b)) b=some o:=fun b o e=>by simp[e]
 have i: ∀b o,σ2 b=some o→(fun b=>(σ1 b).or (σ2 b)) b=some o:=by
  intro b o e
  cases a:σ1 b with
  | none=>simp[a,e]
  | some p=>
   have j:=c.sat b p a
   have g:=f.sat b o e
   rw[j] at g;cases g;simp only[a,Option.some_or]
 refine ⟨fun b=>(σ1 b).or (σ2 b),⟨c.bel,?_,fun b o e=>h b o (c.le b o e),?_⟩,⟨h⟩,⟨i⟩⟩
 ·intro b o e
  cases a:σ1 b with
  | none=>simp only[a,Option.none_or] at e;exact f.sat b o e
  | some p=>simp only[a,Option.some_or] at e;cases e;exact c.sat b _ a
 ·intro b a
  simp only[c.old b a,f.old b a];cases σ b<;>rfl
theorem Rh {Φ:Q5→Value→Prop} {A a:(Value→World→Prop)→Prop} (h:A (fun v w'=> ∃σ',Stp w σ w' σ'∧Φ σ' v)) (d:a (fun v w'=> ∃σ',Stp w σ w' σ'∧Φ σ' v)):Q7 (fun w w'=>Below w.heap.size w w') A a:=
 W7 _ (fun _ _ _ ⟨σ',b,e⟩ c=>⟨σ',b.trans (Stp.of_below b.sat c),e⟩) h d
theorem Q1h {Φ:Q5→Value→Prop} {v:Value} (a:Hst w σ w1 σ) (h:Stp w1 σ w' σ') (b:Φ σ' v):dk (fun w w'=>Below w.heap.size w w') (fun v w'=> ∃σ',Stp w σ w' σ'∧Φ σ' v) w1 v w':=
 ⟨h.bel,σ',a.stp.trans h,b⟩
theorem M5.mk {m:Hm.Met} {pv b a:Value} (d:Sl 1 Y1 σ pv m.params) (g:Sl 3 I8 σ b m.code) (c:Sl 4 Ys σ a m.catches) (f:m.name.length≤Z9) (h:m.result.length≤Z9) (e:Q1i m.locals):M5 σ m [S m.name,pv,S m.result, .bool m.abs,I m.locals,b,a]:=
 ⟨pv,b,a,rfl,d,g,c,f,h,e⟩
theorem U4.mk {c:Cla} {a b mv:Value} (g:Sl 1 Y1 σ a c.like) (f:Sl 3 E6 σ b c.fields) (d:Sl 7 M5 σ mv c.methods) (e:c.name.length≤Z9) (h:c.super.length≤Z9):U4 σ c [S c.name,S c.super,a, .bool c.iface, .bool c.abs, .bool c.fin,b,mv]:=
 ⟨a,b,mv,rfl,g,f,d,e,h⟩
end Go.Emb
namespace Go.Hm
def SmM (m:Hm.Met):Prop:=m.params.length≤1000000∧m.code.length≤1000000∧m.catches.length≤1000000
def T0 (c:Cla):Prop:=c.like.length≤1000000∧c.fields.length≤1000000∧c.methods.length≤1000000∧ ∀m∈c.methods,SmM m
end Go.Hm
namespace Go.Proofs.YtfppjenblllfaaaGreatDoor
open Go.Emb Go.RowKit Go.Kd Go.Hm
variable {w : World} {K : Value → World → Prop} {σ : Q5}
theorem Q2S {m:Hm.Met} {cs:List Value} (hs:X4 w σ) (hm:M5 σ m cs) (D:SmM m)
 (h: ∀pv o f w' σ',Stp w σ w' σ'→M5 σ' m [S m.name,pv,S m.result, .bool m.abs,I m.locals,o,f]→K (.agg [S m.name,pv,S m.result, .bool m.abs,I m.locals,o,f].toArray) w'):Q1 P F.bK [.agg cs.toArray] w K:=Q3q (by
 obtain ⟨pv,o,f,rfl,M,H,A,g4,Z,g6⟩:=hm
 obtain ⟨s1,s2,s3⟩:=D
 unfold Ic
 refine Tl hs fun b w1 σ1 d g a=>?_
 refine I2 g.sat fun b2 w2 σ2 B j c=>?_
 have ag:=a.lt
 replace a:=a.step j
 have E:=j.sat
 have M:=(M.up g).up j
 have H:=(H.up g).up j
 have A:=(A.up g).up j
 have L: ∀{w':World} (i:Nat) (v:Value),[S m.name,pv,S m.result, .bool m.abs,I m.locals,o,f][i]? =some v→Hst w2 σ2 w' σ2→w'.cell? ((⟨b,0,none⟩:Addr).add i)=some v:=fun i v f hh=>(a.step hh.stp).cell f
 refine U6 E ?_
 refine X2 (.pointer (some ((⟨b,0,none⟩:Addr).add 1))) (fun w d=>by rw[fa];exact X6 rfl) ?_
 refine X2 (.pointer (some ((⟨b,0,none⟩:Addr).add 5))) (fun w d=>by rw[fa];exact X6 rfl) ?_
 refine X2 (.pointer (some ((⟨b,0,none⟩:Addr).add 6))) (fun w d=>by rw[fa];exact X6 rfl) ?_
 refine X2 pv (fun t w d e=>by rw[e];exact Ql (L 1 pv rfl d) (X6 rfl)) ?_
 refine Rh (Φ:=fun σ' v=>Sl 1 Y1 σ' v m.params) (fun t w d e=>by rw[e];exact Us d.sat M s1 fun R w' σ' r f=>Q1h d r f) ?_
 refine X2 o (fun t w d e=>by rw[e];exact Ql (L 5 o rfl d) (X6 rfl)) ?_
 refine Rh (Φ:=fun σ' v=>Sl 3 I8 σ' v m.code) (fun t w d e=>by rw[e];exact Oe d.sat H s2 fun R w' σ' r f=>Q1h d r f) ?_
 refine X2 f (fun t w d e=>by rw[e];exact Ql (L 6 f rfl d) (X6 rfl)) ?_
 refine X2 (.pointer (some ((⟨b,0,none⟩:Addr).add 1))) (fun w d=>by rw[fa];exact X6 rfl) ?_
 refine Rh (Φ:=fun σ' v=>Sl 4 Ys σ' v m.catches) (fun t w d e=>by rw[e];exact Nw d.sat A s3 fun R w' σ' r f=>Q1h d r f) ?_
 rintro t1 t2 t3 t4 t5 t6 X t9 ac C w3 ai e1 e2 e3 e4 ⟨σ5,k5,q⟩ e6 ⟨σ8,Y,p⟩ e9 u ⟨ap,N,k⟩
 subst u
 obtain ⟨σa,ka,J,z⟩:=k5.join Y
 obtain ⟨σ3,y,W,l2⟩:=ka.join N
 have q:=(q.lift J).lift W
 have p:=(p.lift z).lift W
 have k:=k.lift l2
 have a:=a.step y
 have c:=c.step y
 have n:b2≠b:=by omega
 have l:=(g.trans j).trans y
 refine Lx a (by simp) (Xb q) (G1 q) fun w4 U a=>?_
 rw[fa]
 have l:=U.stp l d a.1
 have c:=c.upd U n
 refine Lx a (by simp) (Xb p) (G1 p) fun w5 O a=>?_
 rw[fa]
 have l:=O.stp l d a.1
 have c:=c.upd O n
 refine Lx a (by simp) (Xb k) (G1 k) fun w6 V a=>?_
 have l:=V.stp l d a.1
 have c:=c.upd V n
 refine Q6w a rfl ?_
 have Q:=M5.mk q p k g4 Z g6
 have s:=Zc B g
 refine sta c rfl rfl (by rw[List.all_toArray];exact List.all_eq_true.2 (Rep.one Q)) fun w7 u7 c=>?_
 have l:=u7.stp l s c.1
 refine W2 c rfl ?_
 exact h t5 X C w7 σ3 l Q)
theorem Q8W {c:Cla} {cs:List Value} (hs:X4 w σ) (hc:U4 σ c cs) (am:T0 c)
 (h: ∀V X mv w' σ',Stp w σ w' σ'→U4 σ' c [S c.name,S c.super,V, .bool c.iface, .bool c.abs, .bool c.fin,X,mv]→K (.agg [S c.name,S c.super,V, .bool c.iface, .bool c.abs, .bool c.fin,X,mv].toArray) w'):Q1 P F.cc [.agg cs.toArray] w K:=Q3l (by
 obtain ⟨V,X,mv,rfl,g1,g2,U,g4,g5⟩:=hc
 obtain ⟨s1,s2,s3,s4⟩:=am
 unfold Gx
 refine Tl hs fun b w1 σ1 l m f=>?_
 refine I2 m.sat fun W w2 σ2 al o g=>?_
 have bd:=f.lt
 replace f:=f.step o
 have an:=o.sat
 have g1:=(g1.up m).up o
 have g2:=(g2.up m).up o
 have U:=(U.up m).up o
 have L: ∀{w':World} (i:Nat) (v:Value),[S c.name,S c.super,V, .bool c.iface, .bool c.abs, .bool c.fin,X,mv][i]? =some v→Hst w2 σ2 w' σ2→w'.cell? ((⟨b,0,none⟩:Addr).add i)=some v:=fun i v R hh=>(f.step hh.stp).cell R
 refine U6 an ?_
 refine X2 (.pointer (some ((⟨b,0,none⟩:Addr).add 2))) (fun w l=>by rw[fa];exact X6 rfl) ?_
 refine X2 (.pointer (some ((⟨b,0,none⟩:Addr).add 6))) (fun w l=>by rw[fa];exact X6 rfl) ?_
 refine X2 V (fun t w l e=>by rw[e];exact Ql (L 2 V rfl l) (X6 rfl)) ?_
 refine Rh (Φ:=fun σ' v=>Sl 1 Y1 σ' v c.like) (fun t w l e=>by rw[e];exact Us l.sat g1 s1 fun v' w' σ' H R=>Q1h l H R) ?_
 refine X2 X (fun t w l e=>by rw[e];exact Ql (L 6 X rfl l) (X6 rfl)) ?_
 refine X2 (.pointer (some ((⟨b,0,none⟩:Addr).add 2))) (fun w l=>by rw[fa];exact X6 rfl) ?_
 refine Rh (Φ:=fun σ' v=>Sl 3 E6 σ' v c.fields) (fun t w l e=>by rw[e];exact Of l.sat g2 s2 fun v' w' σ' H R=>Q1h l H R) ?_
 rintro t6 t9 t7 t8 bb bp aa w3 bg e6 e9 e7 ⟨σ8,k8,f8⟩ a7 ai ⟨bo,aw,A⟩
 subst ai
 obtain ⟨σ3,k3,l1,l2⟩:=k8.join aw
 have f8:=f8.lift l1
 have A:=A.lift l2
 have U:=U.up k3
 have f:=f.step k3
 have g:=g.step k3
 have J:W≠b:=by omega
 have Y:=(m.trans o).trans k3
 refine Lx f (by simp) (Xb f8) (G1 f8) fun w4 u4 f=>?_
 rw[fa]
 have Y:=u4.stp Y l f.1
 have g:=g.upd u4 J
 refine Lx f (by simp) (Xb A) (G1 A) fun w5 u5 f=>?_
 rw[fa]
 have Y:=u5.stp Y l f.1
 have g:=g.upd u5 J
 refine Jx f rfl ?_
 refine Q8 U ?_
 refine D2 c.methods.length (fun n a w'=> ∃σ',Stp w σ w' σ'∧SLe σ3 σ'∧V6 w.heap.size T.c 7 M5 σ' w' a (c.methods.take n)∧Z5 σ' w' b [S c.name,S c.super,t8, .bool c.iface, .bool c.abs, .bool c.fin,aa,mv]∧Z5 σ' w' W [S [],S [], .slice none 0 0, .bool false, .bool false, .bool false, .slice none 0 0, .slice none 0 0]∧ ∀k,a.ownBlock=some k→k≠b∧k≠W)
  ⟨σ3,Y,SLe.refl _,V6.nil,f,g,fun k H=>by cases H⟩ fun n a w6 d hn hi=>?_
 obtain ⟨σ6,B,C,ha,f,g,j⟩:=hi
 refine Z0 ?_
 refine Q6 (fun hh=>?_) (fun hh=>?_)
 ·have z:n<c.methods.length:=by simpa using hh
  have ad:c.methods.length≤9223372036854775807:=by omega
  refine L8 (U.lift C) z fun p cs hl u hr=>?_
  refine Y7 B.sat hl u ?_
  refine Y5 B.sat (by rfl) u (Rep.one hr) fun q w7 σ7 r hq=>?_
  refine Y7 r.sat hq u ?_
  refine Q2S r.sat (Rep.up r.le hr) (s4 _ (List.getElem_mem z)) fun pv cv R w8 σ8 Q ak=>?_
  have N:=(Nxt.of_stp (D:=fun k=>a.ownBlock=some k) r).trans (Nxt.of_stp Q)
  have ar:=(ha.up r).up Q
  have a4:=(f.nx N fun e=>(j _ e).1 rfl).lt
  have ay:=(g.nx N fun e=>(j _ e).2 rfl).lt
  refine Jm ((B.trans r).trans Q) ar ak rfl rfl rfl (by rw[List.length_take];omega) (by rw[List.length_take];omega) fun s v' w9 σ9 y aj ah hat=>?_
  refine E5 ?_
  have y:=N.trans y
  refine Z6 ad z ⟨σ9,aj,C.more y.le,?_,f.nx y fun e=>(j _ e).1 rfl,g.nx y fun e=>(j _ e).2 rfl,?_⟩
  ·rw[List.take_add_one,List.getElem?_eq_getElem z];exact ah
  ·intro k H
   rcases hat with hat | hat
   ·exact j k (hat▸H)
   ·have:=hat k H
    constructor<;>omega
 ·have z: ¬n<c.methods.length:=by simpa using hh
  rw[List.take_of_length_le (by omega)] at ha
  obtain ⟨σ7,M,O,Z,E⟩:=ha.keep B
  have f:Z5 σ7 w6 b _:=⟨(E b fun e=>(j b e.symm).1 rfl).trans f.1,f.2⟩
  have g:Z5 σ7 w6 W _:=⟨(E W fun e=>(j W e.symm).2 rfl).trans g.1,g.2⟩
  rw[fa]
  refine Lx f (by simp) (Xb O) (G1 O) fun w7 u7 f=>?_
  have M:=u7.stp M l f.1
  have g:=g.upd u7 J
  refine Q6w f rfl ?_
  have hr:=U4.mk (f8.lift (C.more ⟨Z⟩)) (A.lift (C.more ⟨Z⟩)) O g4 g5
  have ae:=Zc al m
  refine sta g rfl rfl (by rw[List.all_toArray];exact List.all_eq_true.2 (Rep.one hr)) fun w8 u8 g=>?_
  have ap:=u8.stp M ae g.1
  refine W2 g rfl ?_
  exact h t8 aa a w8 σ7 ap hr)
end Go.Proofs.YtfppjenblllfaaaGreatDoor

namespace Go.Hm
open Go.Kd
def H2 {α:Type}:Nat→List α→List α
 | 0,xs=>xs
 | i+1,xs=>match (H2 i xs)[i]?,(H2 i xs)[xs.length-1-i]? with
  | some a,some b=>((H2 i xs).set i b).set (xs.length-1-i) a
  | _,_=>H2 i xs
theorem Pb {α:Type} (xs:List α): ∀i,2*i≤xs.length→(H2 i xs).length=xs.length∧ ∀k,k<xs.length→(H2 i xs)[k]? =if k<i∨xs.length-1-k<i then xs[xs.length-1-k]? else xs[k]?
 | 0,_=>⟨rfl,fun k j=>by simp[H2]⟩
 | i+1,h=>by
  obtain ⟨g,b⟩:=Pb xs i (by omega)
  have c:=b i (by omega)
  have f:=b (xs.length-1-i) (by omega)
  rw[if_neg (by omega)] at c f
  have n:i<xs.length:=by omega
  have e:xs.length-1-i<xs.length:=by omega
  rw[List.getElem?_eq_getElem (l:=xs) n] at c
  rw[List.getElem?_eq_getElem (l:=xs) e] at f
  simp only[H2,c,f]
  refine ⟨by simp[g],fun k j=>?_⟩
  by_cases a:k=xs.length-1-i
  ·subst a
   rw[List.getElem?_set_self (by simp[g];omega),if_pos (by omega)]
   rw[show xs.length-1-(xs.length-1-i)=i by omega,List.getElem?_eq_getElem (by omega)]
  ·rw[List.getElem?_set_ne (by omega)]
   by_cases d:k=i
   ·subst d
    rw[List.getElem?_set_self (by omega),if_pos (by omega),List.getElem?_eq_getElem (by omega)]
   ·rw[List.getElem?_set_ne (by omega),b k j]
    by_cases m:k<i∨xs.length-1-k<i
    ·rw[if_pos m,if_pos (by omega)]
    ·rw[if_neg m,if_neg (by omega)]
theorem Q7C {α:Type} (xs:List α) (i:Nat) (d:2*i≤xs.length) (f:xs.length≤2*i+1):H2 i xs=xs.reverse:=by
 obtain ⟨e,c⟩:=Pb xs i d
 apply List.ext_getElem?
 intro k
 by_cases a:k<xs.length
 ·rw[c k a,List.getElem?_reverse a]
  by_cases b:k<i∨xs.length-1-k<i
  ·rw[if_pos b]
  ·rw[if_neg b];congr 1;omega
 ·rw[List.getElem?_eq_none (by omega),List.getElem?_eq_none (by simp;omega)]
theorem Gs (L:Uk): ∀(f:Nat) (n:Q9),(C5 L f n).length≤f
 | 0,_=>by simp[C5]
 | f+1,n=>by
  simp only[C5]
  split
  ·simp
  ·have:=Gs L f (by rename_i c _;exact c.super)
   simp only[List.length_cons];rename_i c _;have:=Gs L f c.super;omega
theorem Re (l:List Cla) (n:Q9):(chain l n).length≤l.length+1:=Gs _ _ _
theorem Rk {l:List Cla} {n:Q9} {c:Cla} (h:c∈chain l n):c∈l:=by
 have key: ∀(f:Nat) (n:Q9),c∈C5 (lk l) f n→c∈l:=by
  intro f
  induction f with
  | zero=>intro n h;simp[C5] at h
  | succ f b=>
   intro n h
   simp only[C5] at h
   split at h
   ·simp at h
   ·rename_i d a
    rcases List.mem_cons.1 h with rfl | h
    ·exact (U1 a).2.1
    ·exact b _ h
 exact key _ _ h
theorem Uc {α β:Type} (f:α→List β) (k:Nat): ∀(xs:List α),(∀x∈xs,(f x).length≤k)→(xs.flatMap f).length≤xs.length*k
 | [],_=>by simp
 | x::r,h=>by
  have c:=h x (by simp)
  have b:=Uc f k r fun y a=>h y (by simp[a])
  simp only[List.flatMap_cons,List.length_append,List.length_cons,Nat.add_mul];omega
end Go.Hm

namespace Go.Hm
open Go.Kd
def X9 (l:List Cla) (i:Nat):Q9:=(l.getD i Cla.zero).name
theorem Qq {l:List Cla} (b:G6 l) {i:Nat} (a:i<l.length):lk l (X9 l i)=some (l.getD i Cla.zero):=by
 have e:l.getD i Cla.zero=l[i]:=by rw[List.getD_eq_getElem?_getD,List.getElem?_eq_getElem a];rfl
 unfold X9
 rw[e];exact b.lk (List.getElem_mem a)
theorem D9 {l:List Cla} {u:Q9} {j:Nat} (h:Y4 l u=some j):j<l.length∧X9 l j=u:=by
 obtain ⟨a,b,_⟩:=List.findIdx?_eq_some_iff_getElem.1 h
 refine ⟨a,?_⟩
 unfold X9
 rw[List.getD_eq_getElem?_getD,List.getElem?_eq_getElem a]
 simpa using b
theorem Q0g {l:List Cla} (e:Yg l) (g:G6 l) {i j:Nat} (f:i<l.length) {u:Q9} (b:u∈J3 (l.getD i Cla.zero)) (a:Y4 l u=some j):B7 l (X9 l j)<B7 l (X9 l i):=by
 obtain ⟨c,d,_⟩:=Xr a
 rw[(D9 a).2]
 exact Qe e (Qq g f) b d
theorem Rr {α β:Type} {f g:β→α→β}: ∀(xs:List α) (b:β),(∀b x,x∈xs→f b x=g b x)→xs.foldl f b=xs.foldl g b
 | [],_,_=>rfl
 | x::r,b,h=>by
  rw[List.foldl_cons,List.foldl_cons,h b x (by simp)]
  exact Rr r _ fun b y a=>h b y (by simp[a])
theorem Xe {l:List Cla} {frm:Nat} (f:Nat) (a:List Nat) {i:Nat} (h:i<frm):I0 l frm f a i=a:=by
 cases f<;>simp[I0,h]
theorem Q7S {l:List Cla} (k:Yg l) (p:G6 l) {frm:Nat} (c:0<frm): ∀(f g:Nat) (a:List Nat) (i:Nat),i<l.length→B7 l (X9 l i)<f→B7 l (X9 l i)<g→I0 l frm f a i=I0 l frm g a i:=by
 intro f
 induction f with
 | zero=>intro g a i _ h;omega
 | succ f o=>
  intro g a i e r q
  obtain ⟨g,rfl⟩: ∃m,g=m+1:=⟨g-1,by omega⟩
  simp only[I0]
  split
  ·rfl
  ·split
   ·rfl
   ·congr 1
    refine Rr _ _ fun b u n=>?_
    cases d:Y4 l u with
    | none=>simp only[Option.getD_none];rw[Xe f b c,Xe g b c]
    | some j=>
     simp only[Option.getD_some]
     have:=Q0g k p e n d
     exact o g b j (D9 d).1 (by omega) (by omega)
def Qk (l:List Cla) (frm:Nat) (a:List Nat) (i:Nat):List Nat:=I0 l frm (l.length+1) a i
theorem Q5Q {l:List Cla} (e:Yg l) (f:G6 l) {frm:Nat} (c:0<frm) (a:List Nat) {i:Nat} (h:i<l.length):Qk l frm a i=if i<frm then a else if i∈a then a else
 ((J3 (l.getD i Cla.zero)).foldl (fun a n=>Qk l frm a ((Y4 l n).getD 0)) a)++[i]:=by
 have k:=Q02 l (X9 l i)
 unfold Qk
 rw[I0]
 split
 ·rfl
 ·split
  ·rfl
  ·congr 1
   refine Rr _ _ fun b u g=>?_
   cases d:Y4 l u with
   | none=>simp only[Option.getD_none];rw[Xe _ b c,Xe _ b c]
   | some j=>
    simp only[Option.getD_some]
    have:=Q0g e f h g d
    exact Q7S e f c _ _ b j (D9 d).1 (by omega) (by omega)
theorem Uy {α:Type} {p:Nat→Prop} {f:List Nat→α→List Nat}: ∀(xs:List α) (b:List Nat),(∀b x,x∈xs→ ∀y∈f b x,y∈b∨p y)→ ∀y∈xs.foldl f b,y∈b∨p y
 | [],b,_=>fun y a=> .inl a
 | x::r,b,h=>fun y a=>by
  rw[List.foldl_cons] at a
  rcases Uy r _ (fun b z c=>h b z (by simp[c])) y a with h1 | h1
  ·exact h b x (by simp) y h1
  ·exact .inr h1
theorem Q4Z {l:List Cla} (o:G6 l) {frm:Nat} (q:0<frm): ∀(f:Nat) (a:List Nat) (i:Nat),i<l.length→ ∀y∈I0 l frm f a i,y∈a∨(y<l.length∧(y=i∨Um (lk l) (X9 l i) (X9 l y))):=by
 intro f
 induction f with
 | zero=>intro a i _ y hy;exact .inl hy
 | succ f s=>
  intro a i g y hy
  simp only[I0] at hy
  split at hy
  ·exact .inl hy
  ·split at hy
   ·exact .inl hy
   ·rcases List.mem_append.1 hy with hy | hy
    ·refine Uy (p:=fun y=>y<l.length∧(y=i∨Um (lk l) (X9 l i) (X9 l y))) _ _ (fun b u n y hy=>?_) y hy
     cases e:Y4 l u with
     | none=>
      rw[e] at hy
      simp only[Option.getD_none] at hy
      rw[Xe f b q] at hy
      exact .inl hy
     | some j=>
      rw[e] at hy
      simp only[Option.getD_some] at hy
      obtain ⟨k,d⟩:=D9 e
      obtain ⟨c,r,_⟩:=Xr e
      rcases s b j k y hy with h | ⟨m,rfl | h2⟩
      ·exact .inl h
      ·exact .inr ⟨m, .inr ⟨_,Qq o g,u,n,by rw[d];exact .refl r⟩⟩
      ·exact .inr ⟨m, .inr ⟨_,Qq o g,u,n,by rw[←d];exact h2.reach⟩⟩
    ·simp at hy;subst hy;exact .inr ⟨g, .inl rfl⟩
theorem Q1N {α:Type} {q:List Nat→Prop} {f:List Nat→α→List Nat}: ∀(xs:List α) (b:List Nat),(∀b x,x∈xs→q b→q (f b x))→q b→q (xs.foldl f b)
 | [],b,_,h=>h
 | x::r,b,a,h=>by
  rw[List.foldl_cons]
  exact Q1N r _ (fun b z c=>a b z (by simp[c])) (a b x (by simp) h)
def Ak (l:List Cla) (a:List Nat):Prop:=a.Nodup∧ ∀y∈a,y<l.length
theorem Ak.len {l:List Cla} {b:List Nat} (h:Ak l b):b.length≤l.length:=by
 have key: ∀(n:Nat) (b:List Nat),b.Nodup→(∀y∈b,y<n)→b.length≤n:=by
  intro n
  induction n with
  | zero=>
   intro b _ h
   cases b with
   | nil=>simp
   | cons a r=>have:=h a (by simp);omega
  | succ n m=>
   intro b f h
   have k:=m (b.filter (fun y=> !decide (y=n))) (f.sublist List.filter_sublist) (fun y c=>by
    have:=List.mem_filter.1 c
    have i:=h y this.1
    have o:y≠n:=by simpa using this.2
    omega)
   have i:b.length≤(b.filter (fun y=> !decide (y=n))).length+1:=by
    clear k h
    induction b with
    | nil=>simp
    | cons a r d=>
     obtain ⟨j,g⟩:=List.nodup_cons.1 f
     by_cases e:a=n
     ·subst e
      have:r.filter (fun y=> !decide (y=a))=r:=List.filter_eq_self.2 fun y c=>by simp;rintro rfl;exact j c
      simp[this]
     ·have:=d g
      simp[e];exact this
   omega
 exact key _ _ h.1 h.2
theorem Gw {l:List Cla} (t:Yg l) (w:G6 l) {frm:Nat} (r:0<frm): ∀(f:Nat) (d:List Nat) (i:Nat),i<l.length→Ak l d→Ak l (I0 l frm f d i):=by
 intro f
 induction f with
 | zero=>intro d i _ h;exact h
 | succ f C=>
  intro d i z h
  simp only[I0]
  split
  ·exact h
  ·split
   ·exact h
   ·rename_i o
    have A:Ak l ((J3 (l.getD i Cla.zero)).foldl (fun d n=>I0 l frm f d ((Y4 l n).getD 0)) d):=by
     refine Q1N _ _ (fun b u v g=>?_) h
     cases e:Y4 l u with
     | none=>simp only[Option.getD_none];rw[Xe f b r];exact g
     | some j=>exact C b j (D9 e).1 g
    have q:i∉(J3 (l.getD i Cla.zero)).foldl (fun d n=>I0 l frm f d ((Y4 l n).getD 0)) d:=by
     intro k
     rcases Uy (p:=fun y=>Um (lk l) (X9 l i) (X9 l y)) _ _ (fun b u v y hy=>by
      cases e:Y4 l u with
      | none=>
       rw[e] at hy
       simp only[Option.getD_none] at hy
       rw[Xe f b r] at hy
       exact .inl hy
      | some j=>
       rw[e] at hy
       simp only[Option.getD_some] at hy
       obtain ⟨s,m⟩:=D9 e
       obtain ⟨c,B,_⟩:=Xr e
       rcases Q4Z w r f b j s y hy with h | ⟨h1,rfl | h2⟩
       ·exact .inl h
       ·exact .inr ⟨_,Qq w z,u,v,by rw[m];exact .refl B⟩
       ·exact .inr ⟨_,Qq w z,u,v,by rw[←m];exact h2.reach⟩) i k with h1 | h1
     ·exact o h1
     ·exact t _ h1
    refine ⟨?_,fun y hy=>?_⟩
    ·rw[List.nodup_append]
     exact ⟨A.1,by simp,by rintro a t b g rfl;simp at g;subst g;exact q t⟩
    ·rcases List.mem_append.1 hy with hy | hy
     ·exact A.2 y hy
     ·simp at hy;omega
end Go.Hm

namespace Go.Emb
open Go.RowKit Go.Hm
variable {P : Program} {w w0 w1 w' w'' : World} {K : Value → World → Prop} {σ σ0 σ1 σ' : Q5}
def Ih (sz:Nat) (v:Value) (i:Nat):Addr:=match v with
 | .slice (some b) _ _=>b.add (i*sz)
 | _=>⟨0,0,none⟩
section
variable {α : Type} {R : Q5 → α → List Value → Prop} {sz : Nat} {v : Value} {xs : List α}
theorem Sl.el (h:Sl sz R σ v xs) {i:Nat} (j:i<xs.length): ∃cs,Z2 σ (Ih sz v i) cs∧cs.length=sz∧R σ xs[i] cs:=by
 obtain ⟨a,f,rfl,m,l,g,k⟩:=h
 cases a with
 | none=>have:=g rfl;omega
 | some b=>
  obtain ⟨cs,c,d,e⟩:=(k b rfl).2 i xs[i] (by simp[j])
  exact ⟨cs,c,d,e⟩
theorem J5 {t e:TypeId} {by_:Nat} {z:Value} [TS P t e] [TZ P e sz by_ z] (h:Sl sz R σ v xs) {i:Nat} (k:i<xs.length) (c:K (.pointer (some (Ih sz v i))) w):indexAddr P t v (I i) w K:=by
 obtain ⟨a,d,rfl,j,g,f,l⟩:=h
 cases a with
 | none=>have:=f rfl;omega
 | some b=>
  rw[Cg (by omega) (by omega)]
  simpa [Ih] using c
theorem Sl.elS {xs:List Kd.Q9} (h:Sl 1 Y1 σ v xs) {i:Nat} (b:i<xs.length):Z2 σ (Ih 1 v i) [S xs[i]]∧xs[i].length≤Z9:=by
 obtain ⟨cs,c,d,rfl,a⟩:=h.el b;exact ⟨c,a⟩
theorem Sl.elF {xs:List Fld} (h:Sl 3 E6 σ v xs) {i:Nat} (b:i<xs.length):Z2 σ (Ih 3 v i) [S xs[i].name,S xs[i].kind, .bool xs[i].tr]∧E6 σ xs[i] [S xs[i].name,S xs[i].kind, .bool xs[i].tr]:=by
 obtain ⟨cs,c,d,rfl,a⟩:=h.el b;exact ⟨c,rfl,a⟩
theorem Sl.elI {xs:List Ins} (h:Sl 3 I8 σ v xs) {i:Nat} (b:i<xs.length):Z2 σ (Ih 3 v i) [S xs[i].op,I xs[i].n,S xs[i].s]∧I8 σ xs[i] [S xs[i].op,I xs[i].n,S xs[i].s]:=by
 obtain ⟨cs,c,d,rfl,a⟩:=h.el b;exact ⟨c,rfl,a⟩
theorem Sl.elK {xs:List Cat} (h:Sl 4 Ys σ v xs) {i:Nat} (b:i<xs.length):Z2 σ (Ih 4 v i) [I xs[i].frm,I xs[i].to,I xs[i].at_,S xs[i].cls]∧Ys σ xs[i] [I xs[i].frm,I xs[i].to,I xs[i].at_,S xs[i].cls]:=by
 obtain ⟨cs,c,d,rfl,a⟩:=h.el b;exact ⟨c,rfl,a⟩
theorem Sl.conv {α β:Type} {R:Q5→α→List Value→Prop} {k:Q5→β→List Value→Prop} {sz:Nat} {v:Value} {xs:List α} {ys:List β} (h:Sl sz R σ v xs) (j:ys.length=xs.length) (r: ∀i (f:i<xs.length) (u:i<ys.length) cs,R σ xs[i] cs→k σ ys[i] cs):Sl sz k σ v ys:=by
 obtain ⟨a,d,rfl,m,o,s,g⟩:=h
 refine ⟨a,d,by rw[j],by rw[j];exact m,o,s,fun b e=>⟨fun t=>(g b e).1 (by omega),fun i x n=>?_⟩⟩
 obtain ⟨f,rfl⟩:=List.getElem?_eq_some_iff.1 n
 have c:i<xs.length:=by omega
 obtain ⟨cs,q,l,p⟩:=(g b e).2 i xs[i] (List.getElem?_eq_getElem c)
 exact ⟨cs,q,l,r i c f cs p⟩
theorem Sl.elM {xs:List Hm.Met} (h:Sl 7 M5 σ v xs) {i:Nat} (d:i<xs.length): ∃pv b a,Z2 σ (Ih 7 v i) [S xs[i].name,pv,S xs[i].result, .bool xs[i].abs,I xs[i].locals,b,a]∧M5 σ xs[i] [S xs[i].name,pv,S xs[i].result, .bool xs[i].abs,I xs[i].locals,b,a]:=by
 obtain ⟨cs,e,f,pv,b,a,rfl,c⟩:=h.el d;exact ⟨pv,b,a,e,pv,b,a,rfl,c⟩
theorem Sl.elC {xs:List Cla} (h:Sl 8 U4 σ v xs) {i:Nat} (d:i<xs.length): ∃a b mv,Z2 σ (Ih 8 v i) [S xs[i].name,S xs[i].super,a, .bool xs[i].iface, .bool xs[i].abs, .bool xs[i].fin,b,mv]∧U4 σ xs[i] [S xs[i].name,S xs[i].super,a, .bool xs[i].iface, .bool xs[i].abs, .bool xs[i].fin,b,mv]:=by
 obtain ⟨cs,e,f,a,b,mv,rfl,c⟩:=h.el d;exact ⟨a,b,mv,e,a,b,mv,rfl,c⟩
end
theorem U9 {b:World→World→Prop} {A a:(Value→World→Prop)→Prop} {V:Value} (h:A (fun v _=>V=v)) (c:a (fun v _=>V=v)):Q7 b A a:=W7 _ (fun _ _ _ h _=>h) h c
theorem B2 {v V:Value} (h:V=v):dk (fun w w'=>Below w.heap.size w w') (fun v _=>V=v) w v w:=⟨Below.refl _ _,h⟩
theorem Zx {v V:Value} (a:Below w.heap.size w w') (h:V=v):dk (fun w w'=>Below w.heap.size w w') (fun v _=>V=v) w v w':=⟨a,h⟩
theorem Li {c b:Bool} {V:Value} {a:World→(Value→World→Prop)→Prop} (h:c=b→a w (dk (fun w w'=>Below w.heap.size w w') (fun v _=>V=v) w)):Q0 (.bool c) b w a (dk (fun w w'=>Below w.heap.size w w') (fun v _=>(if c=b then V else undef)=v) w):=by
 by_cases e:c=b
 ·simp only[e,if_true]
  subst e
  have:=h rfl
  cases c
  ·rw[Vc];exact this
  ·rw[G9];exact this
 ·have d:c= !b:=by cases c<;>cases b<;>simp_all
  rw[if_neg e];subst d
  cases b
  ·rw[Bool.not_false,Ph];exact ⟨Below.refl _ _,rfl⟩
  ·rw[Bool.not_true,Ju];exact ⟨Below.refl _ _,rfl⟩
theorem I9 {p:Prop} (hq:p:=by intros;(repeat (rename_i hx;subst hx));(repeat' (first | (with_reducible exact B2 rfl) | (with_reducible exact Zx (Stp.bel (by (repeat (first | exact Stp.refl (by (first | assumption | exact Stp.sat (by assumption) | exact Hst.sat (by assumption))) | assumption | refine Stp.trans ?_ (by first | assumption | exact Hst.stp (by assumption)))))) rfl) | (with_reducible intro _) | (simp only[↓M2,M2,Mb,reduceIte]) | (with_reducible show Q2 _ _ _ _ _;first | refine X8 aS aL aR ?_ | refine Y7 aS aL aR ?_ | refine ld aS aL aR ?_) | (with_reducible show indexAddr _ _ _ _ _ _;refine J5 aL au ?_) | (with_reducible show X5 _ _ _ _ _ _ _ _;refine Q8 aL ?_) | (with_reducible show Vn _ _ _ _ _ _;refine V3 aR ?_) | (with_reducible show pick _ _ _ _ _ _;refine Jo ?_) | (apply Li;intro hh;(try simp only[hh,reduceIte,↓M2,M2,Mb,reduceIte]))));done):p:=hq
end Go.Emb

namespace Go.Emb
open Go.RowKit Go.Hm
variable {P : Program} {w w0 w1 w' w'' : World} {K : Value → World → Prop} {σ σ0 σ1 σ' : Q5}
section
variable {α : Type} {R : Q5 → α → List Value → Prop} {B sz : Nat} {e : TypeId} {v u : Value} {xs ys : List α}
def Emp (v:Value):Prop:= ∃a,v= .slice a 0 0
theorem X0G {t s:TypeId} {by_:Nat} {z:Value} {cs:List Bool} [ts:TS P t e] [tz:TZ P e sz by_ z] [hr:Rep R] (V:Stp w0 σ0 w σ) (ha:V6 w0.heap.size e sz R σ w v []) (hv:Emp v) (C:X4 w σ') (hu:Sl sz R σ' u ys) (hR: ∀x cs,R σ' x cs→R σ x cs) (X:(z.cells.size==sz&&decide (0<sz))=true)
 (hb:ys.length*by_≤140737488355328) (hm:ys.length≤1000000000000)
 (h: ∀j w',Stp w σ w' σ→V6 w0.heap.size e sz R σ w' j ys→K j w'):X5 P .append [t,t] s cs [v,u] w K:=by
 obtain ⟨l,rfl⟩:=hv
 have O:=V.sat
 obtain ⟨a,d,c,rfl,n1,q,n3,n4,n5⟩:=hu.cells C
 obtain ⟨i,W,E,L,n⟩:=tz.info
 simp only[Bool.and_eq_true,beq_iff_eq,decide_eq_true_eq] at X
 obtain ⟨J,ad⟩:=X
 have g:Src P i.size t (.slice a ys.length d) ys.length c w:=by
  cases a with
  | some b=>exact Src.ofSlice w ts.h b ys.length d c (by rw[E];exact q) (n3 b rfl) n4
  | none=>
   have r:ys.length=0:=by
    obtain ⟨Y,U,e',q1,_,q3,_⟩:=hu;injection e' with e1 e2 e3;have:=n1 rfl;omega
   have H:c=[]:=List.eq_nil_of_length_eq_zero (by rw[q,r];simp)
   subst H
   rw[r];exact Src.ofNil w ts.h d
 have y: ∀j w',(Builtin.append_ #[t,t] s #[.slice l 0 0, .slice a ys.length d]).run P w= .ok j w'→Stp w σ w' σ→V6 w0.heap.size e sz R σ w' j ys→X5 P .append [t,t] s cs [.slice l 0 0, .slice a ys.length d] w K:=by
  intro j w' f N hq
  have m:(builtin .append #[t,t] s cs.toArray #[.slice l 0 0, .slice a ys.length d]).run P w= .ok (.value j) w':=by
   simp[builtin,f]
  unfold X5
  rw[Xg];unfold T7
  rw[m]
  exact h j w' N hq
 by_cases r:ys=[]
 ·subst r
  have H:c=[]:=List.eq_nil_of_length_eq_zero (by simpa using q)
  subst H
  refine y (.slice l 0 0) w ?_ (Stp.refl O) ha
  have Z:=g.len w
  have p:=g.cells
  simp only[List.length_nil] at Z p⊢
  cases l<;>simp[Builtin.append_,run_underlying ts.h,sizeOf,typeInfo,W,Z,p,storeCells]
 ·have aj:0<ys.length:=List.length_pos_iff.2 r
  have o:(Builtin.firstCells i.size 0 (.slice l 0 0)).run P w.drew= .ok (#[]:Array Value) w.drew:=by
   cases l with
   | none=>exact run_firstCells_none w.drew i.size 0 0 0
   | some Y=>exact run_firstCells_some w.drew i.size 0 Y 0 0 [] (by simp) (by intro _ _ h';simp at h')
  have Q:0<0+ys.length:=by omega
  have f:=run_append_grow_src (P:=P) w t t s e i z ts.h W n l 0 0 [] o (.slice a ys.length d) ys.length c g Q (by omega) (growslice_fits Q (by rw[L,Nat.zero_add];exact hb))
  simp only[Nat.zero_add] at f
  have D:=grownCap_le_maxLen w ys.length 0 e (by simp only[maxLen];omega)
  have M:=grownCap_ge w ys.length 0 e
  refine y _ _ f (Stp.of_below O ((Below.refl _ _).drew.alloc (Nat.le_refl _) _)) ⟨c,⟨q, .inr ⟨w.heap.size,_,_,rfl,V.bel.size,heap_alloc_new w.drew _,M,D,?_,?_⟩⟩,?_,fun i x hx=>hR _ _ (n5 i x hx)⟩
  ·simp only[List.nil_append]
   rw[Array.size_append,List.size_toArray,q,size_zeroCells,J,←Nat.add_mul]
   congr 1;omega
  ·simp only[List.nil_append]
   rw[Array.toList_append]
   rw[List.take_append_of_le_length (by simp only[List.toList_toArray];omega),List.take_of_length_le (by simp only[List.toList_toArray];omega)]
  ·intro k N;cases N;exact O.none (Nat.le_refl _)
end
def Q8L {α:Type} (w0:World) (σ:Q5) (e:TypeId) (sz:Nat) (R:Q5→α→List Value→Prop) (xs:List α) (v:Value) (w':World):Prop:=Stp w0 σ w' σ∧V6 w0.heap.size e sz R σ w' v xs
def Q6G {α:Type} (w0:World) (σ:Q5) (e:TypeId) (sz:Nat) (R:Q5→α→List Value→Prop) (v:Value) (w':World):Prop:=Stp w0 σ w' σ∧V6 w0.heap.size e sz R σ w' v ([]:List α)∧Emp v
section
variable {α : Type} {R : Q5 → α → List Value → Prop} {sz : Nat} {e : TypeId} {v u : Value} {xs ys : List α} {A rest : (Value → World → Prop) → Prop}
theorem Q2y [Rep R] (xs:List α) (h:A (Q8L w σ e sz R xs)) (c:rest (Q8L w σ e sz R xs)):Q7 (fun w w'=>Below w.heap.size w w') A rest:=
 W7 _ (fun _ _ _ ⟨a,d⟩ b=>⟨a.trans (Stp.of_below a.sat b),d.up (Stp.of_below a.sat b)⟩) h c
theorem X0l [Rep R] (h:A (Q6G w σ e sz R)) (d:rest (Q6G w σ e sz R)):Q7 (fun w w'=>Below w.heap.size w w') A rest:=
 W7 _ (fun _ _ _ ⟨a,f,c⟩ b=>⟨a.trans (Stp.of_below a.sat b),f.up (Stp.of_below a.sat b),c⟩) h d
theorem Q4L (b:Hst w σ w1 σ) (h:Stp w1 σ w' σ) (a:V6 w.heap.size e sz R σ w' v xs):dk (fun w w'=>Below w.heap.size w w') (Q8L w σ e sz R xs) w1 v w':=⟨h.bel,b.stp.trans h,a⟩
theorem X1s (c:Hst w σ w1 σ) (h:Stp w1 σ w' σ) (b:V6 w.heap.size e sz R σ w' v ([]:List α)) (a:Emp v):dk (fun w w'=>Below w.heap.size w w') (Q6G w σ e sz R) w1 v w':=⟨h.bel,c.stp.trans h,b,a⟩
theorem Ao {t:TypeId} {by_:Nat} {z:Value} [ts:TS P t e] [tz:TZ P e sz by_ z] (R:Q5→α→List Value→Prop) (b:Stp w0 σ0 w σ) (d:0<sz)
 (h: ∀v w',Stp w σ w' σ→V6 w0.heap.size e sz R σ w' v ([]:List α)→Emp v→K v w'):buildSlice P t 0 [] w K:=by
 obtain ⟨cells,g,f⟩:=Oo (P:=P) (t:=t) (sz:=sz) (e:=e) [] (by simp) (by simp) w
 unfold buildSlice
 have a:(Instr.buildSlice t 0 ([]:List (Nat×Value)).toArray).run P w=_:=g
 rw[Y0 a]
 refine h _ _ (Stp.own b.sat _) ⟨[],⟨by simp, .inr ⟨_,_,cells,rfl,b.bel.size,heap_alloc_new w _,by simp,by simp[maxLen],?_,by simp⟩⟩,?_,by simp⟩ ⟨_,rfl⟩
 ·have:cells.size=0:=by rw[←Array.length_toList,f];rfl
  simp[this]
 ·intro k c;cases c;exact b.sat.none (Nat.le_refl _)
theorem Q76 [Rep R] {t:TypeId} {by_:Nat} {z:Value} [ts:TS P t e] [tz:TZ P e sz by_ z] (a:(decide (0<sz))=true) (f:rest (Q6G w σ e sz R)):
 Q7 (fun w w'=>Below w.heap.size w w') (fun φ=> ∀w1:World,Hst w σ w1 σ→buildSlice P t 0 [] w1 (dk (fun w w'=>Below w.heap.size w w') φ w1)) rest:=
 X0l (fun w1 b=>Ao R b.stp (by simpa using a) fun v w' c d g=>X1s b c d g) f
end
theorem U4.parts {c:Cla} {a b g d e f i mv:Value} (h:U4 σ c [a,b,g,d,e,f,i,mv]):Sl 1 Y1 σ g c.like∧Sl 3 E6 σ i c.fields∧Sl 7 M5 σ mv c.methods∧c.name.length≤Z9∧c.super.length≤Z9:=by
 obtain ⟨_,_,_,j,k⟩:=h
 simp only[List.cons.injEq,and_true] at j
 obtain ⟨_,_,rfl,_,_,_,rfl,rfl⟩:=j
 exact k
theorem M5.parts {m:Hm.Met} {a pv b d e f c:Value} (h:M5 σ m [a,pv,b,d,e,f,c]):Sl 1 Y1 σ pv m.params∧Sl 3 I8 σ f m.code∧Sl 4 Ys σ c m.catches∧m.name.length≤Z9∧m.result.length≤Z9∧Q1i m.locals:=by
 obtain ⟨_,_,_,g,i⟩:=h
 simp only[List.cons.injEq,and_true] at g
 obtain ⟨_,rfl,_,_,_,rfl,rfl⟩:=g
 exact i
end Go.Emb

namespace Go.Emb
open Go.RowKit
variable {P : Program} {w : World} {K : Value → World → Prop}
end Go.Emb
namespace Go.Proofs.YtfppjenblllfaaaGreatDoor
open Go.Emb Go.RowKit Go.Kd Go.Hm
variable {w : World} {K : Value → World → Prop} {σ : Q5}
end Go.Proofs.YtfppjenblllfaaaGreatDoor

namespace Go.Proofs.YtfppjenblllfaaaGreatDoor
open Go.Emb Go.RowKit Go.Kd
variable {w : World} {K : Value → World → Prop}
end Go.Proofs.YtfppjenblllfaaaGreatDoor

namespace Go.Emb
open Go.RowKit Go.Hm
section
variable {P : Program} {w w0 w1 w' w'' : World} {K : Value → World → Prop} {σ σ0 σ1 σ' : Q5}
theorem Q3o (a:Array Value) (n i:Nat) (f:i<n) (h:0<a.size):((madeCells a (n*a.size)).toList.drop (i*a.size)).take a.size=a.toList:=by
 have d:i*a.size+a.size≤n*a.size:=by rw[←Nat.succ_mul];exact Nat.mul_le_mul_right _ f
 refine List.ext_getElem (by simp[madeCells];omega) fun j k g=>?_
 have c:j<a.size:=by simpa using g
 simp only[List.getElem_take,List.getElem_drop,madeCells,Array.toList_map,List.getElem_map,Array.toList_range,List.getElem_range,Array.getElem_toList]
 have:(i*a.size+j) % a.size=j:=by rw[Nat.add_comm,Nat.add_mul_mod_self_right];exact Nat.mod_eq_of_lt c
 rw[this]
 simp[c]
theorem X1p {α:Type} {R:Q5→α→List Value→Prop} {t e:TypeId} {sz by_ n:Nat} {z:Value} [ts:TS P t e] [tz:TZ P e sz by_ z] (g:α) (r:X4 w σ) (E:z.cells.size=sz) (c:0<sz) (A:R σ g z.cells.toList) (H:n*sz≤16777216) (J:by_*n≤281474976710656)
 (h: ∀v w',Stp w σ w' σ→V6 w.heap.size e sz R σ w' v (List.replicate n g)→(∀k,v.ownBlock=some k→w.heap.size≤k)→K v w'):Nb P t (I n) (I n) w K:=by
 obtain ⟨i,C,d,m,a⟩:=tz.info
 have q:(i.bytes:Int)*(n:Int)≤281474976710656:=by
  rw[m]
  have:((by_*n:Nat):Int)≤281474976710656:=by omega
  rwa [Int.natCast_mul] at this
 have D:n≤16777216:=by
  have:n*1≤n*sz:=Nat.mul_le_mul_left _ c
  omega
 have l:=run_makeSlice (P:=P) w t e i z ts.h C a .i64 .i64 (n:Int) (n:Int) (by omega) (Int.le_refl _) (by rw[d];simp only[Int.toNat_natCast];omega) q (by omega)
 unfold Nb
 rw[Y0 l]
 simp only[Int.toNat_natCast,d]
 refine h _ _ (Stp.own r _) ⟨(madeCells z.cells (n*sz)).toList,⟨by simp[madeCells], .inr ⟨w.heap.size,n,madeCells z.cells (n*sz),?_,Nat.le_refl _,heap_alloc_new w _,?_,?_,?_,?_⟩⟩,?_,fun j x f=>?_⟩ ?_
 ·simp
 ·simp
 ·simp[maxLen];omega
 ·simp[madeCells]
 ·rw[List.take_of_length_le (by simp[madeCells])]
 ·intro k p;cases p;exact r.none (Nat.le_refl _)
 ·have s:j<n:=by have:=(List.getElem?_eq_some_iff.1 f).1;simpa using this
  have o:x=g:=by
   rw[List.getElem?_replicate] at f
   rw[if_pos s] at f
   exact (Option.some.inj f).symm
  subst o
  subst E
  rw[Q3o z.cells n j s c]
  exact A
 ·intro k p;cases p;exact Nat.le_refl _
end
section
variable {α : Type} {R : Q5 → α → List Value → Prop} {B sz : Nat} {e : TypeId} {v u : Value} {xs : List α} {w w' w0 : World} {σ σ' σ0 : Q5}
theorem J9.shiftR [hr:Rep R] (h:J9 B e sz R σ w v xs) (q:SLe σ σ') (m: ∀k,v.ownBlock=some k→σ' k=none):J9 B e sz R σ' w v xs:=by
 obtain ⟨a,f,rfl,z,p,c,t⟩:=h
 refine ⟨a,f,rfl,z,p,fun b d=>⟨(c b d).1,(c b d).2.1,(c b d).2.2.1,by subst d;exact m _ rfl⟩,fun D=>?_⟩
 obtain ⟨g,j,l,rfl,r,E,o,A,C⟩:=t D
 exact ⟨g,j,l,rfl,r,m g rfl,o,A,fun i x s=>hr.up q.le (C i x s)⟩
def X03 (w:World):World:={w with heap:= #[]}
theorem Q9y (c:X4 w σ):Stp (X03 w) (fun _=>none) w σ:=
 ⟨⟨rfl,rfl,rfl,Nat.zero_le _,fun k a=>absurd a (Nat.not_lt_zero k)⟩,c,fun _ _ h=>(by cases h),fun b d=>absurd d (Nat.not_lt_zero b)⟩
theorem J9.freeze [hr:Rep R] (c:X4 w σ) (h:J9 B e sz R σ w v xs): ∃σ',X4 w σ'∧SLe σ σ'∧Sl sz R σ' v xs∧ ∀k,some k≠v.ownBlock→σ' k=σ k:=by
 obtain ⟨σ',g,f,a,d⟩:=(h.mono (Nat.zero_le B):J9 (X03 w).heap.size e sz R σ w v xs).keep (Q9y c)
 exact ⟨σ',g.sat,a,f,d⟩
end
section
variable {P : Program} {w w0 w1 w' w'' : World} {K : Value → World → Prop} {σ σ0 σ1 σ' : Q5}
theorem Z2.tail {q:Addr} {xs ys:List Value} (h:Z2 σ q (xs++ys)):Z2 σ (q.add xs.length) ys:=by
 obtain ⟨g,a,e,z,f,d⟩:=h
 cases xs with
 | nil=>exact ⟨by simp[Addr.add,g],a,e,z,by simpa [Addr.add] using f,fun i u c=>by simpa [Addr.add] using d i u c⟩
 | cons x xs=>
  refine ⟨by simp[Addr.add,g],a,e,z,by simpa [Addr.add] using f,fun i u c=>?_⟩
  have:=d ((x::xs).length+i) u (by rw[List.getElem?_append_right (by omega)];simpa using c)
  simpa [Addr.add,Nat.add_assoc] using this
theorem J9.down {α:Type} {R:Q5→α→List Value→Prop} {B sz:Nat} {e:TypeId} {v:Value} {xs:List α} (h:J9 B e sz R σ' w v xs) (r:SLe σ σ') (C: ∀x cs,R σ' x cs→R σ x cs):J9 B e sz R σ w v xs:=by
 obtain ⟨a,f,rfl,E,q,c,z⟩:=h
 have m: ∀k,σ' k=none→σ k=none:=fun k A=>by
  cases e:σ k with
  | none=>rfl
  | some o=>have:=r.le k o e;rw[A] at this;cases this
 refine ⟨a,f,rfl,E,q,fun b d=>⟨(c b d).1,(c b d).2.1,(c b d).2.2.1,m _ (c b d).2.2.2⟩,fun L=>?_⟩
 obtain ⟨g,j,l,rfl,s,D,p,H,J⟩:=z L
 exact ⟨g,j,l,rfl,s,m _ D,p,H,fun i x t=>C _ _ (J i x t)⟩
end
section
variable {P : Program} {w w' w0 : World} {σ σ0 : Q5} {α : Type} {R : Q5 → α → List Value → Prop} {sz : Nat} {e : TypeId} {v u : Value} {xs : List α} {y : α}
end
end Go.Emb
namespace Go.Emb
open Go.RowKit Go.Hm
variable {P : Program} {w w0 w1 w' w'' : World} {K : Value → World → Prop} {σ σ0 σ1 σ' : Q5} {b n : Nat} {ds : List Value} {v V : Value}
structure VarT (b : Nat) (ds : List Value) (w w' : World) : Prop where
  kp : Kpt (fun j => j = b) w w'
  var : (b < w.heap.size → w'.heap[b]? = w.heap[b]?) ∨ ∃ e, w'.heap[b]? = some (.cells ds.toArray e (0, 0))
structure VarB (w0 : World) (σ0 : Q5) (w1 : World) (σ : Q5) (b n : Nat) (w' : World) : Prop where
  hst : Hst w0 σ0 w' σ
  kp : Kpt (fun j => j = b) w1 w'
  var : ∃ cs, cs.length = n ∧ Z5 σ w' b cs
theorem VarT.of_below (h:Below w.heap.size w w'):VarT b ds w w':=⟨.of_below h, .inl fun a=>h.block b a⟩
theorem VarT.of_upd (h:Upd w b w') (a:Z5 σ w' b ds):VarT b ds w w':=⟨.of_upd h rfl, .inr a.2⟩
theorem VarB.step (g:w0.heap.size≤b) (c:ds.length=n) (h:VarB w0 σ0 w1 σ b n w) (k:VarT b ds w w'):VarB w0 σ0 w1 σ b n w':=by
 obtain ⟨cs,d,a⟩:=h.var
 refine ⟨⟨h.hst.stp.kp k.kp fun j f=>by subst f;exact ⟨g,a.1⟩⟩,h.kp.trans k.kp,?_⟩
 rcases k.var with e | e
 ·exact ⟨cs,d,a.1,by rw[e a.lt];exact a.2⟩
 ·exact ⟨ds,c,a.1,e⟩
theorem X1j {A:(World→World→Prop)→(World→Prop)→Prop} (ds:List Value) {cs:List Value} (a:Stp w0 σ0 w σ) (g:w0.heap.size≤b) (j:Z5 σ w b cs) (c:cs.length=n) (f:ds.length=n)
 (h:A (VarT b ds) (VarB w0 σ0 w σ b n)):dr w A:=
 Q0c _ _ ⟨⟨a.trans (Stp.of_below a.sat (Below.refl _ _).drew)⟩, .of_below (Below.refl _ _).drew,cs,c,j⟩ (fun _ _ d i=>d.step g f i) h
theorem Bt (h:V=v):dk (VarT b ds) (fun v _=>V=v) w v w:=⟨.of_below (Below.refl _ _),h⟩
theorem Q9p {t:TypeId} {by_:Nat} {z:Value} [tz:TZ P t n by_ z] {a:(List Value→Value→World→Prop)→Prop} {φ:Value→World→Prop} (o:ds.length=n) (m: ∀u∈ds,u.oneCell'=true) (p: ∀v w,φ v w→ .agg ds.toArray=v)
 (f:a (fun _ _ w=>Z5 σ w b ds)) (d:σ b=none):Q1g (VarT b ds) (fun F=> ∀x w,VarB w0 σ0 w1 σ b n w→φ x w→Z4 P t (.pointer (some ⟨b,0,none⟩)) x w (dk (VarT b ds) (F [x]) w)) a:=by
 refine Q64 _ (fun xs v w w' h k=>?_) (fun x w i j=>?_) f
 ·rcases k.var with e | e
  ·exact ⟨d,by rw[e h.lt];exact h.2⟩
  ·exact ⟨d,e⟩
 ·have:=p x w j
  subst this
  obtain ⟨cs,g,l⟩:=i.var
  exact sta l g o (by rw[List.all_toArray];exact List.all_eq_true.2 m) fun w' q c=>⟨.of_upd q c,c⟩
theorem VarB.hs (h:VarB w0 σ0 w1 σ b n w):Hst w0 σ0 w σ:=h.hst
end Go.Emb
