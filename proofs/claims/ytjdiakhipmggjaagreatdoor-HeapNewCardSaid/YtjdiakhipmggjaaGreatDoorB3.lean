/- Parts of a proof about the given program: its functions as texts of their own, what each computes, plain laws of that. The conditions of each stand in its statement. -/
import Derived.Test.YtjdiakhipmggjaaGreatDoorB2
import Derived.Deep.AppendSrc
import Derived.Laws.StructEq
import Derived.Test.YtjdiakhipmggjaaGreatDoorB1
set_option linter.unnecessarySimpa false
set_option linter.defProp false
set_option linter.unusedSectionVars false
set_option linter.unusedVariables false
set_option linter.unusedSimpArgs false
namespace Go.Emb
abbrev Q4.Le (σ σ':Q4):Prop:= ∀b o,σ b=some o→σ' b=some o
def E1 {α:Type} (f:α→List UInt8):List α→List α→Bool
 | _,[]=>true
 | seen,x::r=> !(seen.any fun y=>decide (f y=f x))&&E1 f (seen++[x]) r
theorem Jt {α:Type} (p:α→Bool) (xs:List α):(!xs.any fun x=> !p x)=xs.all p:=by
 rw[List.all_eq_not_any_not]
end Go.Emb
namespace Go.Proofs.YtjdiakhipmggjaaGreatDoor
open Go.Emb Go.RowKit Go.Kd Go.Hm
variable {w : World} {K : Value → World → Prop} {σ : Q4}
theorem Kz {xs:List Hm.Met} {v:Value} {fn:Fn} {l d:Array Value} (p:Hm.Met→Bool) (u:X4 w σ) (t:Sl 7 L9 σ v xs)
 (B: ∀(σ1:Q4) x cs (w1:World) (K:Value→World→Prop),σ.Le σ1→x∈xs→X4 w1 σ1→L9 σ1 x cs→cs.length=7→(∀w',Below w1.heap.size w1 w'→K (.bool (p x)) w')→Y6 P (.func fn l d) [.agg cs.toArray] w1 K)
 (h: ∀w',Below w.heap.size w w'→K (.bool (xs.all p)) w'):Q1 P F.ah [v, .func fn l d] w K:=Ek (by
 unfold Zi
 refine L8 u fun a w1 σ1 f n=>?_
 simp only[Value.cells] at n
 ((try simp only[↓M1,M1,Mb,reduceIte]);repeat ((first | refine ld (by assumption) (by assumption) rfl ?_ | refine X8 (by assumption) (by assumption) rfl ?_ | refine Q9 (by assumption) ?_);(try simp only[↓M1,M1,Mb,reduceIte])))
 refine H3 (fun x=> !p x) f.sat (t.up f) (fun x cs m K C j A k r=>?_) fun m s=>?_
 ·refine Y8 (Oe ?_)
  unfold Qz
  refine L8 j fun b y z c i=>?_
  refine X8 c.sat (n.up c) rfl ?_
  refine Y4 c.sat i k ?_
  refine B z x _ y _ (fun b o e=>c.le b o (f.le b o e)) C c.sat (Rep.up c.le A) k fun q g=>?_
  (try simp only[↓M1,M1,Mb,reduceIte])
  exact r q (bt c.bel g)
 ·(try simp only[↓M1,M1,Mb,reduceIte])
  rw[Jt]
  exact h m (bt f.bel s))
theorem Q06 {xs:List Fld} {v:Value} {fn:Fn} {l d:Array Value} (p:Fld→Bool) (u:X4 w σ) (t:Sl 3 O4 σ v xs)
 (B: ∀(σ1:Q4) x cs (w1:World) (K:Value→World→Prop),σ.Le σ1→x∈xs→X4 w1 σ1→O4 σ1 x cs→cs.length=3→(∀w',Below w1.heap.size w1 w'→K (.bool (p x)) w')→Y6 P (.func fn l d) [.agg cs.toArray] w1 K)
 (h: ∀w',Below w.heap.size w w'→K (.bool (xs.all p)) w'):Q1 P F.al [v, .func fn l d] w K:=Hi (by
 unfold Jc
 refine L8 u fun a w1 σ1 f n=>?_
 simp only[Value.cells] at n
 ((try simp only[↓M1,M1,Mb,reduceIte]);repeat ((first | refine ld (by assumption) (by assumption) rfl ?_ | refine X8 (by assumption) (by assumption) rfl ?_ | refine Q9 (by assumption) ?_);(try simp only[↓M1,M1,Mb,reduceIte])))
 refine Yv (fun x=> !p x) f.sat (t.up f) (fun x cs m K C j A k r=>?_) fun m s=>?_
 ·refine Y8 (Db ?_)
  unfold Yd
  refine L8 j fun b y z c i=>?_
  refine X8 c.sat (n.up c) rfl ?_
  refine Y4 c.sat i k ?_
  refine B z x _ y _ (fun b o e=>c.le b o (f.le b o e)) C c.sat (Rep.up c.le A) k fun q g=>?_
  (try simp only[↓M1,M1,Mb,reduceIte])
  exact r q (bt c.bel g)
 ·(try simp only[↓M1,M1,Mb,reduceIte])
  rw[Jt]
  exact h m (bt f.bel s))
theorem Az {xs:List Ins} {v:Value} {fn:Fn} {l d:Array Value} (p:Ins→Bool) (u:X4 w σ) (t:Sl 3 G8 σ v xs)
 (B: ∀(σ1:Q4) x cs (w1:World) (K:Value→World→Prop),σ.Le σ1→x∈xs→X4 w1 σ1→G8 σ1 x cs→cs.length=3→(∀w',Below w1.heap.size w1 w'→K (.bool (p x)) w')→Y6 P (.func fn l d) [.agg cs.toArray] w1 K)
 (h: ∀w',Below w.heap.size w w'→K (.bool (xs.all p)) w'):Q1 P F.an [v, .func fn l d] w K:=Ey (by
 unfold Zv
 refine L8 u fun a w1 σ1 f n=>?_
 simp only[Value.cells] at n
 ((try simp only[↓M1,M1,Mb,reduceIte]);repeat ((first | refine ld (by assumption) (by assumption) rfl ?_ | refine X8 (by assumption) (by assumption) rfl ?_ | refine Q9 (by assumption) ?_);(try simp only[↓M1,M1,Mb,reduceIte])))
 refine Ei (fun x=> !p x) f.sat (t.up f) (fun x cs m K C j A k r=>?_) fun m s=>?_
 ·refine Y8 (Dc ?_)
  unfold Xz
  refine L8 j fun b y z c i=>?_
  refine X8 c.sat (n.up c) rfl ?_
  refine Y4 c.sat i k ?_
  refine B z x _ y _ (fun b o e=>c.le b o (f.le b o e)) C c.sat (Rep.up c.le A) k fun q g=>?_
  (try simp only[↓M1,M1,Mb,reduceIte])
  exact r q (bt c.bel g)
 ·(try simp only[↓M1,M1,Mb,reduceIte])
  rw[Jt]
  exact h m (bt f.bel s))
theorem Q03 {xs:List Cat} {v:Value} {fn:Fn} {l d:Array Value} (p:Cat→Bool) (u:X4 w σ) (t:Sl 4 Zc σ v xs)
 (B: ∀(σ1:Q4) x cs (w1:World) (K:Value→World→Prop),σ.Le σ1→x∈xs→X4 w1 σ1→Zc σ1 x cs→cs.length=4→(∀w',Below w1.heap.size w1 w'→K (.bool (p x)) w')→Y6 P (.func fn l d) [.agg cs.toArray] w1 K)
 (h: ∀w',Below w.heap.size w w'→K (.bool (xs.all p)) w'):Q1 P F.ao [v, .func fn l d] w K:=Hb (by
 unfold Zy
 refine L8 u fun a w1 σ1 f n=>?_
 simp only[Value.cells] at n
 ((try simp only[↓M1,M1,Mb,reduceIte]);repeat ((first | refine ld (by assumption) (by assumption) rfl ?_ | refine X8 (by assumption) (by assumption) rfl ?_ | refine Q9 (by assumption) ?_);(try simp only[↓M1,M1,Mb,reduceIte])))
 refine Ex (fun x=> !p x) f.sat (t.up f) (fun x cs m K C j A k r=>?_) fun m s=>?_
 ·refine Y8 (Ox ?_)
  unfold Xw
  refine L8 j fun b y z c i=>?_
  refine X8 c.sat (n.up c) rfl ?_
  refine Y4 c.sat i k ?_
  refine B z x _ y _ (fun b o e=>c.le b o (f.le b o e)) C c.sat (Rep.up c.le A) k fun q g=>?_
  (try simp only[↓M1,M1,Mb,reduceIte])
  exact r q (bt c.bel g)
 ·(try simp only[↓M1,M1,Mb,reduceIte])
  rw[Jt]
  exact h m (bt f.bel s))
theorem Cg {xs:List X0} {v:Value} {fn:Fn} {g b:Array Value} (p:X0→Bool) (n:X4 w σ) (m:Sl 1 J6 σ v xs)
 (q: ∀(σ1:Q4) x (w1:World) (K:Value→World→Prop),σ.Le σ1→x∈xs→X4 w1 σ1→x.length≤J8→(∀w',Below w1.heap.size w1 w'→K (.bool (p x)) w')→Y6 P (.func fn g b) [S x] w1 K)
 (h: ∀w',Below w.heap.size w w'→K (.bool (xs.all p)) w'):Q1 P F.a5 [v, .func fn g b] w K:=Bu (by
 unfold Wz
 refine L8 n fun a w1 σ1 d i=>?_
 simp only[Value.cells] at i
 ((try simp only[↓M1,M1,Mb,reduceIte]);repeat ((first | refine ld (by assumption) (by assumption) rfl ?_ | refine X8 (by assumption) (by assumption) rfl ?_ | refine Q9 (by assumption) ?_);(try simp only[↓M1,M1,Mb,reduceIte])))
 refine B0 (fun x=> !p x) d.sat (m.up d) (fun x f K r c o k=>?_) fun f l=>?_
 ·refine Y8 (Rr ?_)
  unfold Jj
  refine X8 c i rfl ?_
  refine q σ1 x f _ d.le r c o fun j e=>?_
  (try simp only[↓M1,M1,Mb,reduceIte])
  exact k j e
 ·(try simp only[↓M1,M1,Mb,reduceIte])
  rw[Jt]
  exact h f (bt d.bel l))
theorem Ax {xs:List Hm.Met} {v:Value} {fn:Fn} {E l:Array Value} (f:Hm.Met→X0) (hs:X4 w σ) (A:Sl 7 L9 σ v xs)
 (hf: ∀(σ1:Q4) x cs (w1:World) (K:Value→World→Prop),σ.Le σ1→X4 w1 σ1→L9 σ1 x cs→cs.length=7→(∀w',Below w1.heap.size w1 w'→K (S (f x)) w')→Y6 P (.func fn E l) [.agg cs.toArray] w1 K)
 (h: ∀w',Below w.heap.size w w'→K (.bool (E1 f [] xs)) w'):Q1 P F.ak [v, .func fn E l] w K:=Ez (by
 unfold Ja
 refine L8 hs fun a w1 σ1 u Y=>?_
 simp only[Value.cells] at Y
 have J:=u.sat
 replace A:=A.up u
 ((try simp only[↓M1,M1,Mb,reduceIte]);repeat ((first | refine ld (by assumption) (by assumption) rfl ?_ | refine X8 (by assumption) (by assumption) rfl ?_ | refine Q9 (by assumption) ?_);(try simp only[↓M1,M1,Mb,reduceIte])))
 refine U3 xs.length (fun n w'=>Below w1.heap.size w1 w'∧E1 f [] xs=E1 f (xs.take n) (xs.drop n)) ⟨Below.refl _ _,rfl⟩ fun n w2 d hn hi=>?_
 obtain ⟨i,m⟩:=hi
 have C:=J.below i
 ((try simp only[↓M1,M1,Mb,reduceIte]);repeat ((first | refine ld (by assumption) (by assumption) rfl ?_ | refine X8 (by assumption) (by assumption) rfl ?_ | refine Q9 (by assumption) ?_);(try simp only[↓M1,M1,Mb,reduceIte])))
 refine Q5 (fun N=>?_) (fun N=>?_)
 ·have k:n<xs.length:=by simpa using N
  rw[List.drop_eq_getElem_cons k] at m
  simp only[E1] at m
  refine W7 A k fun p cs hl g Z=>?_
  refine Y4 C hl g ?_
  refine Y1 C (by rfl) g (Rep.one Z) fun q w3 σ3 j hq=>?_
  refine Sh (A.up j) none (some (I n)) 0 n (.inl ⟨rfl,rfl⟩) (.inr rfl) (by omega) (by omega) fun v' Q=>?_
  ((try simp only[↓M1,M1,Mb,reduceIte]);repeat ((first | refine ld (by assumption) (by assumption) rfl ?_ | refine X8 (by assumption) (by assumption) rfl ?_ | refine Q9 (by assumption) ?_);(try simp only[↓M1,M1,Mb,reduceIte])))
  refine H3 (fun y=>decide (f y=f xs[n])) j.sat Q (fun y ys X K hy V M B hK=>?_) fun X H=>?_
  ·refine Y8 (Da ?_)
   unfold Ya
   refine L8 V fun b w5 W c O=>?_
   have z:=(Y.up j).up c
   have L:=hq.up c
   have s:σ.Le W:=fun b o e=>c.le b o (j.le b o (u.le b o e))
   refine Mo (Below.refl _ _) ?_
   refine X2 (.func fn E l) (fun w i=>X8 (c.sat.below i) z rfl (X5 rfl)) ?_
   refine X2 (.agg ys.toArray) (fun w i=>Y4 (c.sat.below i) O B (X5 rfl)) ?_
   refine X2 (S (f y)) (fun t t' w i e e'=>by rw[e,e'];exact hf W y ys w _ s (c.sat.below i) (Rep.up c.le M) B fun w' R=>Q1t R rfl) ?_
   refine X2 (.func fn E l) (fun w i=>X8 (c.sat.below i) z rfl (X5 rfl)) ?_
   refine X2 (.agg cs.toArray) (fun w i=>Y4 (c.sat.below i) L g (X5 rfl)) ?_
   rintro _ _ _ _ _ w6 D rfl rfl rfl rfl rfl
   refine hf W xs[n] cs w6 _ s (c.sat.below D) (Rep.up (fun b o e=>c.le b o (j.le b o e)) Z) g fun w7 U=>?_
   (try simp only[↓M1,M1,Mb,reduceIte])
   exact hK w7 (bt (bt c.bel D) U)
  ·have r:=bt i (bt j.bel H)
   simp only[List.drop_zero,Nat.sub_zero] at*
   refine Q5 (fun hh=>?_) (fun hh=>?_)
   ·rw[hh] at m
    have:=h X (bt u.bel r)
    rw[m] at this;exact this
   ·rw[hh] at m
    ((try simp only[↓M1,M1,Mb,reduceIte]);repeat ((first | refine ld (by assumption) (by assumption) rfl ?_ | refine X8 (by assumption) (by assumption) rfl ?_ | refine Q9 (by assumption) ?_);(try simp only[↓M1,M1,Mb,reduceIte])))
    refine Y3 A.max k ⟨r,?_⟩
    rw[m,List.take_add_one,List.getElem?_eq_getElem k];rfl
 ·have k: ¬n<xs.length:=by simpa using N
  rw[List.drop_eq_nil_of_le (by omega)] at m
  have:=h w2 (bt u.bel i)
  rw[m] at this;exact this)
theorem Q0L {xs:List Fld} {v:Value} {fn:Fn} {E l:Array Value} (f:Fld→X0) (hs:X4 w σ) (A:Sl 3 O4 σ v xs)
 (hf: ∀(σ1:Q4) x cs (w1:World) (K:Value→World→Prop),σ.Le σ1→X4 w1 σ1→O4 σ1 x cs→cs.length=3→(∀w',Below w1.heap.size w1 w'→K (S (f x)) w')→Y6 P (.func fn E l) [.agg cs.toArray] w1 K)
 (h: ∀w',Below w.heap.size w w'→K (.bool (E1 f [] xs)) w'):Q1 P F.aw [v, .func fn E l] w K:=Rm (by
 unfold Ju
 refine L8 hs fun a w1 σ1 u Y=>?_
 simp only[Value.cells] at Y
 have J:=u.sat
 replace A:=A.up u
 ((try simp only[↓M1,M1,Mb,reduceIte]);repeat ((first | refine ld (by assumption) (by assumption) rfl ?_ | refine X8 (by assumption) (by assumption) rfl ?_ | refine Q9 (by assumption) ?_);(try simp only[↓M1,M1,Mb,reduceIte])))
 refine U3 xs.length (fun n w'=>Below w1.heap.size w1 w'∧E1 f [] xs=E1 f (xs.take n) (xs.drop n)) ⟨Below.refl _ _,rfl⟩ fun n w2 d hn hi=>?_
 obtain ⟨i,m⟩:=hi
 have C:=J.below i
 ((try simp only[↓M1,M1,Mb,reduceIte]);repeat ((first | refine ld (by assumption) (by assumption) rfl ?_ | refine X8 (by assumption) (by assumption) rfl ?_ | refine Q9 (by assumption) ?_);(try simp only[↓M1,M1,Mb,reduceIte])))
 refine Q5 (fun N=>?_) (fun N=>?_)
 ·have k:n<xs.length:=by simpa using N
  rw[List.drop_eq_getElem_cons k] at m
  simp only[E1] at m
  refine W7 A k fun p cs hl g Z=>?_
  refine Y4 C hl g ?_
  refine Y1 C (by rfl) g (Rep.one Z) fun q w3 σ3 j hq=>?_
  refine Sh (A.up j) none (some (I n)) 0 n (.inl ⟨rfl,rfl⟩) (.inr rfl) (by omega) (by omega) fun v' Q=>?_
  ((try simp only[↓M1,M1,Mb,reduceIte]);repeat ((first | refine ld (by assumption) (by assumption) rfl ?_ | refine X8 (by assumption) (by assumption) rfl ?_ | refine Q9 (by assumption) ?_);(try simp only[↓M1,M1,Mb,reduceIte])))
  refine Yv (fun y=>decide (f y=f xs[n])) j.sat Q (fun y ys X K hy V M B hK=>?_) fun X H=>?_
  ·refine Y8 (Eu ?_)
   unfold Yx
   refine L8 V fun b w5 W c O=>?_
   have z:=(Y.up j).up c
   have L:=hq.up c
   have s:σ.Le W:=fun b o e=>c.le b o (j.le b o (u.le b o e))
   refine Mo (Below.refl _ _) ?_
   refine X2 (.func fn E l) (fun w i=>X8 (c.sat.below i) z rfl (X5 rfl)) ?_
   refine X2 (.agg ys.toArray) (fun w i=>Y4 (c.sat.below i) O B (X5 rfl)) ?_
   refine X2 (S (f y)) (fun t t' w i e e'=>by rw[e,e'];exact hf W y ys w _ s (c.sat.below i) (Rep.up c.le M) B fun w' R=>Q1t R rfl) ?_
   refine X2 (.func fn E l) (fun w i=>X8 (c.sat.below i) z rfl (X5 rfl)) ?_
   refine X2 (.agg cs.toArray) (fun w i=>Y4 (c.sat.below i) L g (X5 rfl)) ?_
   rintro _ _ _ _ _ w6 D rfl rfl rfl rfl rfl
   refine hf W xs[n] cs w6 _ s (c.sat.below D) (Rep.up (fun b o e=>c.le b o (j.le b o e)) Z) g fun w7 U=>?_
   (try simp only[↓M1,M1,Mb,reduceIte])
   exact hK w7 (bt (bt c.bel D) U)
  ·have r:=bt i (bt j.bel H)
   simp only[List.drop_zero,Nat.sub_zero] at*
   refine Q5 (fun hh=>?_) (fun hh=>?_)
   ·rw[hh] at m
    have:=h X (bt u.bel r)
    rw[m] at this;exact this
   ·rw[hh] at m
    ((try simp only[↓M1,M1,Mb,reduceIte]);repeat ((first | refine ld (by assumption) (by assumption) rfl ?_ | refine X8 (by assumption) (by assumption) rfl ?_ | refine Q9 (by assumption) ?_);(try simp only[↓M1,M1,Mb,reduceIte])))
    refine Y3 A.max k ⟨r,?_⟩
    rw[m,List.take_add_one,List.getElem?_eq_getElem k];rfl
 ·have k: ¬n<xs.length:=by simpa using N
  rw[List.drop_eq_nil_of_le (by omega)] at m
  have:=h w2 (bt u.bel i)
  rw[m] at this;exact this)
theorem Q38 {xs:List X0} {v:Value} {fn:Fn} {D k:Array Value} (f:X0→X0) (hs:X4 w σ) (z:Sl 1 J6 σ v xs)
 (W: ∀(σ1:Q4) x (w1:World) (K:Value→World→Prop),σ.Le σ1→X4 w1 σ1→x.length≤J8→(∀w',Below w1.heap.size w1 w'→K (S (f x)) w')→Y6 P (.func fn D k) [S x] w1 K)
 (h: ∀w',Below w.heap.size w w'→K (.bool (E1 f [] xs)) w'):Q1 P F.aG [v, .func fn D k] w K:=Gs (by
 unfold Lz
 refine L8 hs fun a w1 σ1 s V=>?_
 simp only[Value.cells] at V
 have H:=s.sat
 replace z:=z.up s
 ((try simp only[↓M1,M1,Mb,reduceIte]);repeat ((first | refine ld (by assumption) (by assumption) rfl ?_ | refine X8 (by assumption) (by assumption) rfl ?_ | refine Q9 (by assumption) ?_);(try simp only[↓M1,M1,Mb,reduceIte])))
 refine U3 xs.length (fun n w'=>Below w1.heap.size w1 w'∧E1 f [] xs=E1 f (xs.take n) (xs.drop n)) ⟨Below.refl _ _,rfl⟩ fun n w2 d hn hi=>?_
 obtain ⟨c,l⟩:=hi
 have A:=H.below c
 ((try simp only[↓M1,M1,Mb,reduceIte]);repeat ((first | refine ld (by assumption) (by assumption) rfl ?_ | refine X8 (by assumption) (by assumption) rfl ?_ | refine Q9 (by assumption) ?_);(try simp only[↓M1,M1,Mb,reduceIte])))
 refine Q5 (fun L=>?_) (fun L=>?_)
 ·have j:n<xs.length:=by simpa using L
  rw[List.drop_eq_getElem_cons j] at l
  simp only[E1] at l
  refine W7 z j fun p cs Y R hr=>?_
  obtain ⟨rfl,B⟩:=hr
  refine X8 A Y rfl ?_
  refine J5 A (by rfl) rfl rfl fun q w3 Q g hq=>?_
  refine Sh (z.up g) none (some (I n)) 0 n (.inl ⟨rfl,rfl⟩) (.inr rfl) (by omega) (by omega) fun v' M=>?_
  ((try simp only[↓M1,M1,Mb,reduceIte]);repeat ((first | refine ld (by assumption) (by assumption) rfl ?_ | refine X8 (by assumption) (by assumption) rfl ?_ | refine Q9 (by assumption) ?_);(try simp only[↓M1,M1,Mb,reduceIte])))
  refine B0 (fun y=>decide (f y=f xs[n])) g.sat M (fun y U K hy i J X=>?_) fun U E=>?_
  ·refine Y8 (Sm ?_)
   unfold Un
   have u:=V.up g
   have r:σ.Le Q:=fun b o e=>g.le b o (s.le b o e)
   refine Mo (Below.refl _ _) ?_
   refine X2 (.func fn D k) (fun w c=>X8 (i.below c) u rfl (X5 rfl)) ?_
   refine X2 (S (f y)) (fun t w c e=>by rw[e];exact W Q y w _ r (i.below c) J fun w' N=>Q1t N rfl) ?_
   refine X2 (.func fn D k) (fun w c=>X8 (i.below c) u rfl (X5 rfl)) ?_
   refine X2 (S xs[n]) (fun w c=>X8 (i.below c) hq rfl (X5 rfl)) ?_
   rintro _ _ _ _ Z C rfl rfl rfl rfl
   refine W Q xs[n] Z _ r (i.below C) B fun w7 O=>?_
   (try simp only[↓M1,M1,Mb,reduceIte])
   exact X w7 (bt C O)
  ·have m:=bt c (bt g.bel E)
   simp only[List.drop_zero,Nat.sub_zero] at*
   refine Q5 (fun hh=>?_) (fun hh=>?_)
   ·rw[hh] at l
    have:=h U (bt s.bel m)
    rw[l] at this;exact this
   ·rw[hh] at l
    ((try simp only[↓M1,M1,Mb,reduceIte]);repeat ((first | refine ld (by assumption) (by assumption) rfl ?_ | refine X8 (by assumption) (by assumption) rfl ?_ | refine Q9 (by assumption) ?_);(try simp only[↓M1,M1,Mb,reduceIte])))
    refine Y3 z.max j ⟨m,?_⟩
    rw[l,List.take_add_one,List.getElem?_eq_getElem j];rfl
 ·have j: ¬n<xs.length:=by simpa using L
  rw[List.drop_eq_nil_of_le (by omega)] at l
  have:=h w2 (bt s.bel c)
  rw[l] at this;exact this)
theorem Q4T {P:Program} {w:World} (d:Nat) (t e:TypeId) (a:Option Addr) (n c:Nat) (h:P.underlying t=some (.slice e)):
 (Op.equalIn (d+1) t (.slice a n c) (.slice none 0 0)).run P w= .ok a.isNone w:=by
 cases a<;>simp[Op.equalIn,run_underlying h]
theorem Ar {t e:TypeId} {d f:Operand} [ts:TS P t e] {a:Option Addr} {n c:Nat} {b:Bool} (i:a.isNone=b) (g:K (.bool b) w):Q3 P .eql t d f (.slice a n c) (.slice none 0 0) w K:=by
 have j:(Op.equal t (.slice a n c) (.slice none 0 0)).run P w= .ok b w:=by
  have:=Q4T (P:=P) (w:=w) 9999 t e a n c ts.h
  rw[i] at this
  exact this
 unfold Q3
 rw[X7 (v:= .bool b) (w':=w) (by simp[eqGuard,Go.binOp,j])]
 exact g
theorem Va {xs:List X0} {v:Value} (i:X4 w σ) (f:Sl 1 J6 σ v xs) (t:xs.length≤1000000)
 (h: ∀e w' b,Stp w σ w' b→Sl 1 J6 b e xs→K e w'):Q1 P F.a3 [v] w K:=Vm (by
 unfold I8
 have d:=f
 obtain ⟨a,l,rfl,C,B,n,A⟩:=f
 refine Ar rfl ?_
 refine Q5 (fun g=>?_) (fun g=>?_)
 ·have:a=none:=by simpa using g
  have u:=n this
  have r:xs=[]:=List.eq_nil_of_length_eq_zero (by omega)
  subst r
  exact h _ w σ (Stp.refl i) Sl.nil
 ·refine Xa (R:=J6) (sz:=1) (Stp.refl i) [] [] rfl rfl (by simp) (by rfl) trivial fun z w1 j o _=>?_
  refine app j o d (by rfl) (by simp only[List.length_nil];omega) (by simp only[List.length_nil];omega) fun y m s q c _=>?_
  obtain ⟨b,p,k,_⟩:=c.keep q
  exact h _ m b p k)
theorem Nw {xs:List Fld} {v:Value} (i:X4 w σ) (f:Sl 3 O4 σ v xs) (t:xs.length≤1000000)
 (h: ∀e w' b,Stp w σ w' b→Sl 3 O4 b e xs→K e w'):Q1 P F.a7 [v] w K:=Zd (by
 unfold C3
 have d:=f
 obtain ⟨a,l,rfl,C,B,n,A⟩:=f
 refine Ar rfl ?_
 refine Q5 (fun g=>?_) (fun g=>?_)
 ·have:a=none:=by simpa using g
  have u:=n this
  have r:xs=[]:=List.eq_nil_of_length_eq_zero (by omega)
  subst r
  exact h _ w σ (Stp.refl i) Sl.nil
 ·refine Xa (R:=O4) (sz:=3) (Stp.refl i) [] [] rfl rfl (by simp) (by rfl) trivial fun z w1 j o _=>?_
  refine app j o d (by rfl) (by simp only[List.length_nil];omega) (by simp only[List.length_nil];omega) fun y m s q c _=>?_
  obtain ⟨b,p,k,_⟩:=c.keep q
  exact h _ m b p k)
theorem Nj {xs:List Ins} {v:Value} (i:X4 w σ) (f:Sl 3 G8 σ v xs) (t:xs.length≤1000000)
 (h: ∀e w' b,Stp w σ w' b→Sl 3 G8 b e xs→K e w'):Q1 P F.a8 [v] w K:=Yl (by
 unfold C6
 have d:=f
 obtain ⟨a,l,rfl,C,B,n,A⟩:=f
 refine Ar rfl ?_
 refine Q5 (fun g=>?_) (fun g=>?_)
 ·have:a=none:=by simpa using g
  have u:=n this
  have r:xs=[]:=List.eq_nil_of_length_eq_zero (by omega)
  subst r
  exact h _ w σ (Stp.refl i) Sl.nil
 ·refine Xa (R:=G8) (sz:=3) (Stp.refl i) [] [] rfl rfl (by simp) (by rfl) trivial fun z w1 j o _=>?_
  refine app j o d (by rfl) (by simp only[List.length_nil];omega) (by simp only[List.length_nil];omega) fun y m s q c _=>?_
  obtain ⟨b,p,k,_⟩:=c.keep q
  exact h _ m b p k)
theorem Nv {xs:List Cat} {v:Value} (i:X4 w σ) (f:Sl 4 Zc σ v xs) (t:xs.length≤1000000)
 (h: ∀e w' b,Stp w σ w' b→Sl 4 Zc b e xs→K e w'):Q1 P F.a9 [v] w K:=Zg (by
 unfold C4
 have d:=f
 obtain ⟨a,l,rfl,C,B,n,A⟩:=f
 refine Ar rfl ?_
 refine Q5 (fun g=>?_) (fun g=>?_)
 ·have:a=none:=by simpa using g
  have u:=n this
  have r:xs=[]:=List.eq_nil_of_length_eq_zero (by omega)
  subst r
  exact h _ w σ (Stp.refl i) Sl.nil
 ·refine Xa (R:=Zc) (sz:=4) (Stp.refl i) [] [] rfl rfl (by simp) (by rfl) trivial fun z w1 j o _=>?_
  refine app j o d (by rfl) (by simp only[List.length_nil];omega) (by simp only[List.length_nil];omega) fun y m s q c _=>?_
  obtain ⟨b,p,k,_⟩:=c.keep q
  exact h _ m b p k)
end Go.Proofs.YtjdiakhipmggjaaGreatDoor

namespace Go.Hm
open Go.Kd
structure Opr where
  name : X0
  number : Bool
  text : Bool
deriving DecidableEq
def Za:List Opr:=[
 ⟨[105,110,116],true,false⟩,
 ⟨[116,114,117,101],false,false⟩,
 ⟨[102,97,108,115,101],false,false⟩,
 ⟨[119,111,114,100],false,true⟩,
 ⟨[110,117,108,108],false,false⟩,
 ⟨[108,111,97,100],true,false⟩,
 ⟨[115,116,111,114,101],true,false⟩,
 ⟨[112,111,112],false,false⟩,
 ⟨[100,117,112],false,false⟩,
 ⟨[115,119,97,112],false,false⟩,
 ⟨[97,100,100],false,false⟩,
 ⟨[115,117,98],false,false⟩,
 ⟨[109,117,108],false,false⟩,
 ⟨[100,105,118],false,false⟩,
 ⟨[114,101,109],false,false⟩,
 ⟨[110,101,103],false,false⟩,
 ⟨[108,101,115,115],false,false⟩,
 ⟨[115,97,109,101],false,false⟩,
 ⟨[110,111,116],false,false⟩,
 ⟨[98,111,116,104],false,false⟩,
 ⟨[106,111,105,110],false,false⟩,
 ⟨[115,105,122,101],false,false⟩,
 ⟨[106,117,109,112],true,false⟩,
 ⟨[98,114,97,110,99,104],true,false⟩,
 ⟨[110,101,119],false,true⟩,
 ⟨[103,101,116],false,true⟩,
 ⟨[112,117,116],false,true⟩,
 ⟨[99,97,108,108],false,true⟩,
 ⟨[97,114,114,97,121],false,true⟩,
 ⟨[97,116],false,false⟩,
 ⟨[115,101,116],false,false⟩,
 ⟨[105,115],false,true⟩,
 ⟨[99,97,115,116],false,true⟩,
 ⟨[114,101,116,117,114,110],false,false⟩,
 ⟨[116,104,114,111,119],false,false⟩,
 ⟨[111,117,116],false,false⟩,
 ⟨[101,113,117,97,108],false,false⟩,
 ⟨[97,110,100],false,false⟩,
 ⟨[111,114],false,false⟩,
 ⟨[120,111,114],false,false⟩,
 ⟨[115,104,108],false,false⟩,
 ⟨[115,104,114],false,false⟩]
end Go.Hm
namespace Go.Emb
open Go.Hm
def ROp (_:Q4) (o:Opr) (cs:List Value):Prop:=cs=[S o.name, .bool o.number, .bool o.text]
def cOp (o:Opr):List Value:=[S o.name, .bool o.number, .bool o.text]
instance:Rep ROp:=⟨fun _ h=>h,fun h u hu=>by rw[h] at hu;simp at hu;rcases hu with rfl | rfl | rfl<;>rfl⟩
end Go.Emb
namespace Go.Proofs.YtjdiakhipmggjaaGreatDoor
open Go.Emb Go.RowKit Go.Kd Go.Hm
variable {w : World} {K : Value → World → Prop} {σ : Q4}
theorem Q4p {a:X0} (l:a.length≤J8) (h: ∀w',Below w.heap.size w w'→K (.bool (L5 a)) w'):Q1 P F.bA [S a] w K:=Q21 (by
 unfold Cf
 have b:a.length≤140737488355328:=by simp only[J8] at l;omega
 refine Q3N a b fun w1 f=>?_
 cases d:name a
 ·(try simp only[↓M1,M1,Mb,reduceIte])
  have:=h w1 f
  rwa [show L5 a=false by cases a with | nil=>rfl | cons c r=>simp[L5,d]] at this
 ·(try simp only[↓M1,M1,Mb,reduceIte])
  refine Df a b fun k m=>?_
  (try simp only[↓M1,M1,Mb,reduceIte])
  have:=h k (bt f m)
  rwa [show L5 a= !W2 a by
   cases a with
   | nil=>simp[name] at d
   | cons c r=>
    obtain ⟨i,j⟩:=Bn d
    simp only[W2,L5,d,Bool.true_and]
    simp only[D0,j,Bool.or_false] at i
    cases e:T0 c.toNat<;>cases g:G3 c.toNat
    ·simp[e,g] at i
    ·rfl
    ·rfl
    ·exfalso
     simp only[T0,G3,Bool.and_eq_true,decide_eq_true_eq] at e g
     omega] at this)
theorem X0m {t e:TypeId} {n sz b:Nat} {z:Value} [ta:TA P t n e] [tz:TZ P e sz b z] {a:Addr} (c:K (.slice (some a) n n) w):R6 P t (.pointer (some a)) none none none w K:=by
 unfold R6
 have:(Instr.sliceAt t (.pointer (some a)) none none none).run P w= .ok (.slice (some (if n=0 then a else a.add (0*sz))) (n-0) (n-0)) w:=by
  simp[Instr.sliceAt,run_underlying ta.h,Instr.sureAddr,Instr.sliceBounds,W5 tz]
 rw[X7 this]
 have d:(if n=0 then a else a.add (0*sz))=a:=by
  by_cases h:n=0
  ·rw[if_pos h]
  ·rw[if_neg h,Nat.zero_mul,add_zero]
 rw[d];exact c
def Q0y (σ:Q4):Prop:=Z3 σ ⟨G.a,0,none⟩ (Za.flatMap cOp)
theorem Q5M (i:Nat) (o:Opr) (h:Za[i]? =some o):((Za.flatMap cOp).drop (i*3)).take 3=cOp o:=by
 have c:i<42:=(List.getElem?_eq_some_iff.1 h).1
 have key: ∀l:List Opr,∀i o,l[i]? =some o→((l.flatMap cOp).drop (i*3)).take 3=cOp o:=by
  intro l
  induction l with
  | nil=>intro i o h;simp at h
  | cons a r b=>
   intro i o h
   cases i with
   | zero=>simp at h;subst h;rfl
   | succ i=>
    have:=b i o (by simpa using h)
    rw[List.flatMap_cons,show (i+1)*3=(cOp a).length+i*3 by simp[cOp];omega,List.drop_append]
    simpa [List.drop_eq_nil_of_le] using this
 exact key _ i o h
theorem Q1h {σ:Q4} {a:Addr} {cs:List Value} (h:Z3 σ a cs) (i n:Nat):Z3 σ (a.add i) ((cs.drop i).take n):=by
 obtain ⟨f,arr,e,d,g,c⟩:=h
 refine ⟨F5 f _,arr,e,d,by rw[C9];exact g,fun j v b=>?_⟩
 rw[List.getElem?_take] at b
 split at b
 ·rw[List.getElem?_drop] at b
  rw[Zn,Nat.add_assoc];exact c _ _ b
 ·cases b
theorem X10 (h:Q0y σ):Sl 3 ROp σ (.slice (some ⟨G.a,0,none⟩) 42 42) Za:=by
 refine ⟨_,42,rfl,by decide,by decide,by simp,?_⟩
 rintro _ ⟨⟩
 refine ⟨fun _=>rfl,fun i x a=>⟨cOp x,?_,rfl,rfl⟩⟩
 rw[←Q5M i x a]
 exact Q1h h (i*3) 3
theorem Kb {β:Type} {xs:List Opr} {v f:Value} (b:β→Opr→Bool×β) (k:β) (a:β→World→Prop) (D:Nat→Prop) (m: ∀s w,a s w→X4 w σ) (z:a k w) (u:Sl 3 ROp σ v xs)
 (C: ∀s x cs (w1:World) (K:Value→World→Prop),x∈xs→Kpt D w w1→a s w1→ROp σ x cs→cs.length=3→(∀w',Kpt D w w'→a (b s x).2 w'→K (.bool (b s x).1) w')→Y6 P f [.agg cs.toArray] w1 K)
 (h: ∀w',Kpt D w w'→a (Z5 b k xs 0).2 w'→K (I (W0 (Z5 b k xs 0).1)) w'):Q1 P F.r [v,f] w K:=Zj (by
 unfold C7
 ((try simp only[↓M1,M1,Mb,reduceIte]);repeat ((first | refine ld (by assumption) (by assumption) rfl ?_ | refine X8 (by assumption) (by assumption) rfl ?_ | refine Q9 (by assumption) ?_);(try simp only[↓M1,M1,Mb,reduceIte])))
 refine U3 xs.length (fun n w'=>Kpt D w w'∧ ∃s,a s w'∧Z5 b k xs 0=Z5 b s (xs.drop n) n) ⟨Kpt.refl,k,z,rfl⟩ fun n w1 d E j=>?_
 obtain ⟨t,s,j,e⟩:=j
 have o:=m s w1 j
 ((try simp only[↓M1,M1,Mb,reduceIte]);repeat ((first | refine ld (by assumption) (by assumption) rfl ?_ | refine X8 (by assumption) (by assumption) rfl ?_ | refine Q9 (by assumption) ?_);(try simp only[↓M1,M1,Mb,reduceIte])))
 refine Q5 (fun r=>?_) (fun r=>?_)
 ·have c:n<xs.length:=by simpa using r
  refine W7 u c fun p cs y g B=>?_
  refine Y4 o y g ?_
  refine C s xs[n] cs w1 _ (List.getElem_mem c) t j B g fun A l i=>?_
  rw[List.drop_eq_getElem_cons c] at e
  simp only[Z5] at e
  refine Q5 (fun q=>?_) (fun q=>?_)
  ·rw[q] at e
   have:=h A l
   rw[e] at this
   exact this i
  ·rw[q] at e
   ((try simp only[↓M1,M1,Mb,reduceIte]);repeat ((first | refine ld (by assumption) (by assumption) rfl ?_ | refine X8 (by assumption) (by assumption) rfl ?_ | refine Q9 (by assumption) ?_);(try simp only[↓M1,M1,Mb,reduceIte])))
   exact Y3 u.max c ⟨l,_,i,by simpa using e⟩
 ·have c: ¬n<xs.length:=by simpa using r
  rw[List.drop_eq_nil_of_le (by omega)] at e
  have:=h w1 t
  rw[e] at this
  exact this j)
theorem Gz {xs:List Opr} {v f:Value} (p:Opr→Bool) (hs:X4 w σ) (hv:Sl 3 ROp σ v xs)
 (hf: ∀x cs (w1:World) (K:Value→World→Prop),x∈xs→X4 w1 σ→ROp σ x cs→cs.length=3→(∀w',Below w1.heap.size w1 w'→K (.bool (p x)) w')→Y6 P f [.agg cs.toArray] w1 K)
 (h: ∀w',Below w.heap.size w w'→K (I (W0 (xs.findIdx? p))) w'):Q1 P F.r [v,f] w K:=by
 refine Kb (fun (_:Unit) x=>(p x,())) () (fun _ w'=>Below w.heap.size w w') (fun _=>False) (fun _ w' hb=>hs.below hb) (Below.refl _ _) hv (fun s x cs w1 K hx hk hi hr hl hK=>hf x cs w1 K hx (hs.below hi) hr hl fun w' hb=>hK w' (.of_below (bt hi hb)) (bt hi hb)) fun w' hk hi=>?_
 rw[F0]
 simpa using h w' hi
theorem Q0y.le {σ a:Q4} (h:Q0y σ) (c: ∀b o,σ b=some o→a b=some o):Q0y a:=Z3.le h c
def I1 (n:X0):Option Nat:=Za.findIdx? fun o=>decide (o.name=n)
theorem X0z {a:X0} (n:X4 w σ) (i:Q0y σ) (h: ∀w',Below w.heap.size w w'→K (I (W0 (I1 a))) w'):Q1 P F.ct [S a] w K:=Q55 (by
 unfold Q0g
 refine L8 n fun p w1 σ1 c f=>?_
 simp only[Value.cells] at f
 refine X0m ?_
 ((try simp only[↓M1,M1,Mb,reduceIte]);repeat ((first | refine ld (by assumption) (by assumption) rfl ?_ | refine X8 (by assumption) (by assumption) rfl ?_ | refine Q9 (by assumption) ?_);(try simp only[↓M1,M1,Mb,reduceIte])))
 refine Gz (fun o=>decide (o.name=a)) c.sat (X10 (i.le c.le)) (fun x cs g K v e s u j=>?_) fun g l=>?_
 ·refine Y8 (Q2W ?_)
  unfold Gl
  refine L8 e fun q r y b t=>?_
  have d:cs=[S x.name, .bool x.number, .bool x.text]:=s
  subst d
  have m:=b.sat
  have k:=f.up b
  simp only[Value.cells] at t
  ((try simp only[↓M1,M1,Mb,reduceIte]);repeat ((first | refine ld (by assumption) (by assumption) rfl ?_ | refine X8 (by assumption) (by assumption) rfl ?_ | refine Q9 (by assumption) ?_);(try simp only[↓M1,M1,Mb,reduceIte])))
  exact j r b.bel
 ·(try simp only[↓M1,M1,Mb,reduceIte])
  exact h g (bt c.bel l))
def O6 (n:X0):Bool×Bool×Bool:=match I1 n with
 | none=>(false,false,false)
 | some i=>((Za.getD i ⟨[],false,false⟩).number,(Za.getD i ⟨[],false,false⟩).text,true)
theorem Q9Z {a:X0} (l:X4 w σ) (j:Q0y σ) (h: ∀w',Below w.heap.size w w'→K (.tuple #[.bool (O6 a).1, .bool (O6 a).2.1, .bool (O6 a).2.2]) w'):Q1 P F.c1 [S a] w K:=Q4d (by
 unfold Tj
 refine X0z l j fun w1 b=>?_
 have c:=l.below b
 unfold O6 at h
 cases g:I1 a with
 | none=>
  rw[g] at h
  simp only[W0]
  (try simp only[↓M1,M1,Mb,reduceIte])
  simp only[show decide ((-1:Int)<0)=true from rfl,↓M1,M1,Mb,reduceIte]
  exact h w1 b
 | some i=>
  rw[g] at h
  simp only at h
  have m:i<42:=(List.findIdx?_eq_some_iff_getElem.1 g).1
  have k:Za[i]? =some (Za.getD i ⟨[],false,false⟩):=by
   rw[List.getD,List.getElem?_eq_getElem (by exact m)];rfl
  generalize Za.getD i ⟨[],false,false⟩=o at h k
  have d:=Q1h j (i*3) 3
  rw[Q5M i o k] at d
  simp only[W0]
  have n:decide ((i:Int)<0)=false:=by simp
  simp only[n,↓M1,M1,Mb,reduceIte]
  have A: ∀{w:World} {K:Value→World→Prop},K (.pointer (some ((⟨G.a,0,none⟩:Addr).add (i*3)))) w→indexAddr P T.ad (.pointer (some ⟨G.a,0,none⟩)) (I i) w K:=by
   intro w K h
   rw[Q7n (by omega) (by omega)]
   simpa using h
  refine Mo (Below.refl _ _) ?_
  refine X2 (.pointer (some ((⟨G.a,0,none⟩:Addr).add (i*3)))) (fun w b=>A (X5 rfl)) ?_
  refine X2 (.pointer (some (((⟨G.a,0,none⟩:Addr).add (i*3)).add 1))) (fun t w b e=>by rw[e,fa];exact X5 rfl) ?_
  refine X2 (.pointer (some ((⟨G.a,0,none⟩:Addr).add (i*3)))) (fun w b=>A (X5 rfl)) ?_
  refine X2 (.pointer (some (((⟨G.a,0,none⟩:Addr).add (i*3)).add 2))) (fun t w b e=>by rw[e,fa];exact X5 rfl) ?_
  refine X2 (.bool o.number) (fun t w b e=>by rw[e];exact ld (c.below b) d rfl (X5 rfl)) ?_
  refine X2 (.bool o.text) (fun t w b e=>by rw[e];exact ld (c.below b) d rfl (X5 rfl)) ?_
  rintro _ _ _ _ _ _ p f rfl rfl rfl rfl rfl rfl
  exact h p (bt b f))
end Go.Proofs.YtjdiakhipmggjaaGreatDoor

namespace Go.Emb
open Go.RowKit Go.Hm
variable {P : Program} {w w0 w1 w' w'' : World} {K : Value → World → Prop} {σ σ0 σ1 σ' : Q4}
structure SLe (σ σ' : Q4) : Prop where
  le : ∀ b o, σ b = some o → σ' b = some o
theorem SLe.refl (σ:Q4):SLe σ σ:=⟨fun _ _ h=>h⟩
theorem SLe.step {w w':World} (h:SLe σ0 σ) (k:Stp w σ w' σ'):SLe σ0 σ':=⟨fun b o e=>k.le b o (h.le b o e)⟩
theorem SLe.more (h:SLe σ0 σ) (k:SLe σ σ'):SLe σ0 σ':=⟨fun b o e=>k.le b o (h.le b o e)⟩
structure Hst (w : World) (σ : Q4) (w' : World) (σ' : Q4) : Prop where
  stp : Stp w σ w' σ'
theorem Hst.sat (h:Hst w σ w' σ'):X4 w' σ':=h.stp.sat
section lifts
variable {α : Type} {R : Q4 → α → List Value → Prop} {sz : Nat} {v : Value} {xs : List α} {a : Addr} {cs : List Value}
theorem Sl.lift [Rep R] (h:Sl sz R σ0 v xs) (k:SLe σ0 σ):Sl sz R σ v xs:=h.le k.le
theorem Z3.lift (h:Z3 σ0 a cs) (k:SLe σ0 σ):Z3 σ a cs:=h.le k.le
theorem T2.lift {r:Nat} {m:List (List UInt8×Value)} (h:T2 σ0 r m) (k:SLe σ0 σ):T2 σ r m:=h.le k.le
theorem RMe_lift {x:Hm.Met} (h:L9 σ0 x cs) (k:SLe σ0 σ):L9 σ x cs:=Rep.up k.le h
theorem RCl_lift {x:Cla} (h:U4 σ0 x cs) (k:SLe σ0 σ):U4 σ x cs:=Rep.up k.le h
theorem RFd_any {x:Fld} (h:O4 σ0 x cs):O4 σ x cs:=h
theorem RIn_any {x:Ins} (h:G8 σ0 x cs):G8 σ x cs:=h
theorem RCa_any {x:Cat} (h:Zc σ0 x cs):Zc σ x cs:=h
theorem J0.step {b:Nat} (h:J0 σ w b cs) (k:Stp w σ w' σ'):J0 σ' w' b cs:=h.up k
theorem V2.step [Rep R] {B:Nat} {e:TypeId} (h:V2 B e sz R σ w v xs) (k:Stp w σ w' σ'):V2 B e sz R σ' w' v xs:=h.up k
end lifts
theorem V6 {Q:World→Prop} (d:X4 w σ) (h: ∀w' σ',Stp w σ w' σ'→Q w'): ∀w',Below w.heap.size w w'→Q w':=fun w' c=>h w' σ (Stp.of_below d c)
section plain
variable {k : IntKind} {t : TypeId} {ox oy : Operand} {a b : Int} {x y : Bool} {s u : List UInt8}
theorem M7 (h:K (.int k (k.wrap (a+b))) w):Q3 P .add t ox oy (.int k a) (.int k b) w K:=by rw[Sx];exact h
theorem Uq (c: -9223372036854775808≤a+b∧a+b≤9223372036854775807) (h:K (I (a+b)) w):Q3 P .add t ox oy (I a) (I b) w K:=by rw[Sx,S8 c.1 c.2];exact h
theorem Mq (c: -9223372036854775808≤a-b∧a-b≤9223372036854775807) (h:K (I (a-b)) w):Q3 P .sub t ox oy (I a) (I b) w K:=by rw[Q1F,S8 c.1 c.2];exact h
theorem Z1 (h:K (.bool (decide (a<b))) w):Q3 P .lss t ox oy (.int k a) (.int k b) w K:=by rw[Q1I];exact h
theorem X1v (h:K (.bool (decide (a≤b))) w):Q3 P .leq t ox oy (.int k a) (.int k b) w K:=by rw[Q1L];exact h
theorem Q68 (h:K (.bool (decide (b<a))) w):Q3 P .gtr t ox oy (.int k a) (.int k b) w K:=by rw[Aa];exact h
theorem Xx (h:K (.bool (decide (b≤a))) w):Q3 P .geq t ox oy (.int k a) (.int k b) w K:=by rw[An];exact h
theorem Q39 (h:K (.bool (decide (a=b))) w):Q3 P .eql t ox oy (.int k a) (.int k b) w K:=by rw[Aq];exact h
theorem Vr (h:K (.bool (!decide (a=b))) w):Q3 P .neq t ox oy (.int k a) (.int k b) w K:=by rw[Q1Q];exact h
theorem Oq (h:K (.bool (!x)) w):Z8 P .not (.bool x) w K:=by rw[Q1G];exact h
theorem Xy (h:K (.bool (decide (s=u))) w):Q3 P .eql t ox oy (S s) (S u) w K:=by rw[Rv];exact h
theorem Mx (h:K (.bool (!decide (s=u))) w):Q3 P .neq t ox oy (S s) (S u) w K:=by rw[Rp];exact h
theorem Hx (c:s.length+u.length≤9223372036854775807) (h:K (S (s++u)) w):Q3 P .add t ox oy (S s) (S u) w K:=by rw[Q0p c];exact h
theorem Q4n {cs:List Bool} {r:TypeId} (c:P.underlying t=some .string) (h:K (I s.length) w):X6 P .len [t] r cs [S s] w K:=by rw[O8 c];exact h
theorem Q9D {v u:Value} (h:K v w):pick P (.bool true) v u w K:=by rw[K6];exact h
theorem X0d {v u:Value} (h:K u w):pick P (.bool false) v u w K:=by rw[B7];exact h
theorem G7 {v u:Value} (h:K (if x=true then v else u) w):pick P (.bool x) v u w K:=by rw[Nb];exact h
theorem Z7 {vs:List Value} {i:Nat} {v:Value} (c:vs[i]? =some v) (h:K v w):ext P (.tuple vs.toArray) i w K:=by rw[Ym c];exact h
theorem L7 {t e:Prop} (h:t):X1 (.bool true) t e:=by rw[Ui];exact h
theorem M0 {t e:Prop} (h:e):X1 (.bool false) t e:=by rw[K4];exact h
theorem X0U {c:World→(Value→World→Prop)→Prop} (h:c w K):Q0 (.bool true) true w c K:=by rw[O9];exact h
theorem X0T {c:World→(Value→World→Prop)→Prop} (h:c w K):Q0 (.bool false) false w c K:=by rw[C8];exact h
theorem X06 {c:World→(Value→World→Prop)→Prop} (h:K undef w):Q0 (.bool true) false w c K:=by rw[Jk];exact h
theorem X0r {c:World→(Value→World→Prop)→Prop} (h:K undef w):Q0 (.bool false) true w c K:=by rw[F9];exact h
end plain
section mem
variable {α : Type} {R : Q4 → α → List Value → Prop} {sz : Nat} {v : Value} {xs : List α} {a : Addr} {cs : List Value}
theorem Y9 {t:TypeId} (d:X4 w σ) (h: ∀a w' σ',Stp w σ w' σ'→Z3 σ' a cs→K (.pointer (some a)) w'):box P t (.agg cs.toArray) w K:=
 L8 d fun a w' σ' c f=>h a w' σ' c (by simpa [Value.cells] using f)
theorem J4 {t:TypeId} (d:X4 w σ) (g:v.cells= #[v]) (h: ∀a w' σ',Stp w σ w' σ'→Z3 σ' a [v]→K (.pointer (some a)) w'):box P t v w K:=
 L8 d fun a w' σ' f c=>h a w' σ' f (by rw[g] at c;exact c)
theorem Ud (h:Sl sz R σ v xs):v.cells= #[v]:=by
 obtain ⟨a,c,rfl,_⟩:=h;rfl
theorem Q2c {t:TypeId} {k c:Nat} {d:TypeId} {sz by_:Nat} {z:Value} [tf:TF P t k c d] [tz:TZ P d sz by_ z] [nz:NZ sz] (h:K (.pointer (some (a.add c))) w):fieldAddr P t (.pointer (some a)) k w K:=by
 rw[fa];exact h
theorem U0 {t:TypeId} {k c:Nat} {d:TypeId} [tf:TF P t k c d] [tg:TG P d false] {cs:List Value} {v:Value} (f:cs[c]? =some v) (h:K v w):Yy P t (.agg cs.toArray) k w K:=by
 rw[X0k (v:=v) (by simpa using f)];exact h
end mem
theorem U6 {A:(World→World→Prop)→(World→Prop)→Prop} (d:X4 w σ) (h:A (fun w w'=>Below w.heap.size w w') (fun w'=>Hst w σ w' σ)):dr w A:=
 Q1o _ _ ⟨Stp.of_below d (Below.refl _ _).drew⟩ (fun _ _ c f=>⟨c.stp.trans (Stp.of_below c.sat f)⟩) h
theorem W4 {α:Type} {R:Q4→α→List Value→Prop} {sz:Nat} {v:Value} {xs:List α} {t:TypeId} (d:X4 w σ) (c:Sl sz R σ v xs) (h: ∀a w' σ',Stp w σ w' σ'→Z3 σ' a [v]→K (.pointer (some a)) w'):box P t v w K:=
 J4 d (Ud c) h
section elems
variable {v : Value} {t e : TypeId} {by_ : Nat} {z : Value} {n : Nat}
theorem Q48 {xs:List Kd.X0} [TS P t e] [TZ P e 1 by_ z] (h:Sl 1 J6 σ v xs) (f:n<xs.length) (d: ∀a,Z3 σ a [S xs[n]]→xs[n].length≤J8→K (.pointer (some a)) w):indexAddr P t v (I n) w K:=
 W7 h f fun a cs g j i=>by obtain ⟨rfl,c⟩:=i;exact d a g c
theorem Q7q {xs:List Fld} [TS P t e] [TZ P e 3 by_ z] (h:Sl 3 O4 σ v xs) (f:n<xs.length) (d: ∀a,Z3 σ a [S xs[n].name,S xs[n].kind, .bool xs[n].tr]→O4 σ xs[n] [S xs[n].name,S xs[n].kind, .bool xs[n].tr]→K (.pointer (some a)) w):indexAddr P t v (I n) w K:=
 W7 h f fun a cs g j i=>by obtain ⟨rfl,c⟩:=i;exact d a g ⟨rfl,c⟩
end elems
end Go.Emb

namespace Go.Hm
open Go.Kd
abbrev Ug:=X0→Option Cla
def Y2 (l:List Cla) (n:X0):Option Nat:=l.findIdx? fun c=>decide (c.name=n)
def lk (l:List Cla):Ug:=fun n=>(Y2 l n).bind (l[·]?)
def J3 (c:Cla):List X0:=c.super::c.like
def Z9:X0:=[79,98,106,101,99,116]
def V8:X0:=[70,97,117,108,116]
def C0:X0:=[110,117,108,108]
def M9:X0:=[116,101,120,116]
def I0:X0:=[119,104,97,116]
def J1:List X0:=[[78,117,108,108,70,97,117,108,116],[73,110,100,101,120,70,97,117,108,116],[67,97,115,116,70,97,117,108,116],[90,101,114,111,70,97,117,108,116],[82,111,111,109,70,97,117,108,116],[67,97,108,108,70,97,117,108,116]]
def R8:List Cla:=[⟨Z9,[],[],false,false,false,[],[]⟩,⟨V8,Z9,[],false,false,false,[⟨I0,M9,false⟩],[]⟩]++J1.map fun n=>⟨n,V8,[],false,false,true,[],[]⟩
def Zx (L:Ug):Nat→List X0→List X0→List X0
 | 0,_,a=>a
 | _,[],a=>a
 | f+1,n::b,a=>match L n with
  | none=>Zx L f b a
  | some c=>if n∈a then Zx L f b a else Zx L f (b++J3 c) (a++[n])
def weigh (l:List Cla) (a:List X0):Nat:=(l.map fun c=>if c.name∈a then 0 else (J3 c).length).sum
def R2 (l:List Cla) (n:X0):List X0:=Zx (lk l) (1+weigh l []) [n] []
def Q0w (l:List Cla) (n:X0):Bool:=(Y2 l n).isSome
def N9 (l:List Cla) (s:X0):Bool:=decide (s=C0)||(right s&&(plain (base s).1||Q0w l (base s).1))
def Ob (l:List Cla) (a b:X0):Bool:=
 if !N9 l a|| !N9 l b then false else if a=b then true else if plain a||plain b then false else if a=C0 then true
 else if elem a≠[] then decide (b=Z9) else (R2 l a).contains b
def S1 (L:Ug):Nat→X0→List Cla
 | 0,_=>[]
 | f+1,n=>match L n with
  | none=>[]
  | some c=>c::S1 L f c.super
def chain (l:List Cla) (n:X0):List Cla:=S1 (lk l) (l.length+1) n
def Z0 (l:List Cla) (n:X0):List Fld:=(chain l n).reverse.flatMap (·.fields)
def Yz (l:List Cla) (n f:X0):Option Nat:=(Z0 l n).findIdx? fun x=>decide (x.name=f)
def H4 (c:Cla) (n:X0):Option Hm.Met:=c.methods.find? fun m=>decide (m.name=n)
def Dq (L:Ug):Nat→Cla→X0→Option (X0×Hm.Met)
 | 0,_,_=>none
 | f+1,c,n=>c.like.findSome? fun u=>match L u with
  | none=>none
  | some d=>match H4 d n with
   | some m=>some (u,m)
   | none=>Dq L f d n
def U1 (l:List Cla) (k n:X0):Option (X0×Hm.Met):=
 match (chain l k).findSome? fun c=>(H4 c n).map (c.name,·) with
 | some r=>some r
 | none=>(chain l k).findSome? fun c=>Dq (lk l) (l.length+1) c n
def Ze (l:List Cla) (n:X0):Bool:=match lk l n with
 | some c=> !c.abs
 | none=>false
def M8:List X0→X0
 | []=>[]
 | [a]=>a
 | a::b::r=>a++[44]++M8 (b::r)
def K9 (m:Hm.Met):X0:=[40]++M8 m.params++[41]++m.result
def W9 (l:List Cla) (s:X0):Bool:= !decide (s=C0)&&N9 l s
def Qk (l:List Cla) (c:Cla):Bool:=c.fields.any fun f=>(Yz l c.super f.name).isSome
def H0 (l:List Cla) (c:Cla):Bool:=c.fields.any (fun f=> !W9 l f.kind)||c.methods.any fun m=>(!W9 l m.result&& !decide (m.result=[]))||m.params.any fun s=> !W9 l s
def Vi (l:List Cla) (n:X0):List Hm.Met:=(R2 l n).flatMap fun u=>((lk l u).map (·.methods)).getD []
def Wn (a:List Hm.Met):Bool:=a.any fun x=>a.any fun y=>decide (x.name=y.name)&& !decide (K9 x=K9 y)
def Xm (l:List Cla) (c:Cla):Bool:=Wn (Vi l c.name)
def Qy (l:List Cla) (k n:X0):Bool:=match U1 l k n with
 | none=>true
 | some r=>r.2.abs
def Mv (l:List Cla) (c:Cla):Bool:= !c.abs&&(Vi l c.name).any fun m=>Qy l c.name m.name
def U5 (l:List Cla) (c:Cla):Nat:=if Qk l c then 64 else if H0 l c then 65 else if Xm l c then 66 else if Mv l c then 67 else 0
def K8 (l:List Cla) (n:X0):Bool:=match lk l n with
 | none=>true
 | some d=>d.iface||d.fin
def N3 (l:List Cla) (n:X0):Bool:=match lk l n with
 | none=>true
 | some d=> !d.iface
def L2 (l:List Cla) (c:Cla):Nat:=if K8 l c.super then 61 else if c.like.any (N3 l) then 62 else 0
def B5 (l:List Cla) (c:Cla):Bool:=(J3 c).any fun n=>(R2 l n).contains c.name
def F6 (l:List Cla) (frm:Nat):Nat→List Nat→Nat→List Nat
 | 0,a,_=>a
 | f+1,a,i=>if i<frm then a else if i∈a then a else ((J3 (l.getD i Cla.zero)).foldl (fun a n=>F6 l frm f a ((Y2 l n).getD 0)) a)++[i]
def U7 (l:List Cla) (frm:Nat):List Nat:=((List.range l.length).drop frm).foldl (fun a i=>F6 l frm (l.length+1) a i) []
end Go.Hm

namespace Go.Emb
open Go.RowKit Go.Hm
variable {P : Program} {w w0 w1 w' w'' : World} {K : Value → World → Prop} {σ σ0 σ1 σ' : Q4}
def J9 {α:Type} (B:Nat) (e:TypeId) (sz:Nat) (R:Q4→α→List Value→Prop) (σ:Q4) (w:World) (v:Value) (xs:List α):Prop:=
 ∃a c,v= .slice a xs.length c∧xs.length≤c∧c≤maxLen∧(∀b,a=some b→b.spot=none∧B≤b.block∧b.block<w.heap.size∧σ b.block=none)∧(0<c→ ∃g f d,a=some ⟨g,f,none⟩∧B≤g∧σ g=none∧w.heap[g]? =some (.cells d e (0,0))∧f+c*sz≤d.size∧ ∀i x,xs[i]? =some x→R σ x ((d.toList.drop (f+i*sz)).take sz))
section
variable {α : Type} {R : Q4 → α → List Value → Prop} {B sz : Nat} {e : TypeId} {v u : Value} {xs ys : List α}
theorem J9.of_acc (h:V2 B e sz R σ w v xs):J9 B e sz R σ w v xs:=by
 obtain ⟨cells,p,m,r⟩:=h
 rcases p.2 with ⟨rfl,o⟩ | ⟨g,d,c,rfl,k,j,b,a,n,f⟩
 ·exact ⟨none,0,by rw[o],by omega,by simp,by simp,fun h=>by omega⟩
 ·refine ⟨_,d,rfl,b,a,by rintro _ ⟨⟩;exact ⟨rfl,k,(Array.getElem?_eq_some_iff.1 j).1,m g rfl⟩,fun _=>⟨g,0,c,rfl,k,m g rfl,j,by omega,fun i x l=>?_⟩⟩
  have q:i<xs.length:=(List.getElem?_eq_some_iff.1 l).1
  have hh:i*sz+sz≤xs.length*sz:=by rw[←Nat.succ_mul];exact Nat.mul_le_mul_right _ q
  have:=r i x l
  rw[←f,List.drop_take,List.take_take] at this
  rw[Nat.zero_add]
  rwa [show min sz (xs.length*sz-i*sz)=sz by omega] at this
theorem J9.mem (h:J9 B e sz R σ w v xs) {k:Nat} (c:v.ownBlock=some k):B≤k∧k<w.heap.size∧σ k=none:=by
 obtain ⟨a,d,rfl,i,g,b,f⟩:=h
 cases a with
 | none=>cases c
 | some a=>cases c;exact (b a rfl).2
theorem J9.up [hr:Rep R] (h:J9 B e sz R σ w v xs) (d:Stp w σ w' σ'):J9 B e sz R σ' w' v xs:=by
 obtain ⟨a,k,rfl,p,A,c,z⟩:=h
 refine ⟨a,k,rfl,p,A,fun b f=>⟨(c b f).1,(c b f).2.1,Nat.lt_of_lt_of_le (c b f).2.2.1 d.bel.size,(d.old _ (c b f).2.2.1).trans (c b f).2.2.2⟩,fun r=>?_⟩
 obtain ⟨g,l,j,rfl,s,q,n,t,o⟩:=z r
 have m:=(Array.getElem?_eq_some_iff.1 n).1
 exact ⟨g,l,j,rfl,s,(d.old g m).trans q,(d.bel.block g m).trans n,t,fun i x y=>hr.up d.le (o i x y)⟩
theorem J9.step [hr:Rep R] (h:J9 B e sz R σ w v xs) (a:Stp w σ w' σ'):J9 B e sz R σ' w' v xs:=h.up a
theorem J9.kp {D:Nat→Prop} (h:J9 B e sz R σ w v xs) (m:Kpt D w w') (f: ∀k,v.ownBlock=some k→ ¬D k):J9 B e sz R σ w' v xs:=by
 obtain ⟨a,j,rfl,q,A,c,z⟩:=h
 refine ⟨a,j,rfl,q,A,fun b d=>⟨(c b d).1,(c b d).2.1,Nat.lt_of_lt_of_le (c b d).2.2.1 m.size,(c b d).2.2.2⟩,fun s=>?_⟩
 obtain ⟨g,l,i,rfl,t,r,n,y,p⟩:=z s
 have o:=(Array.getElem?_eq_some_iff.1 n).1
 exact ⟨g,l,i,rfl,t,r,(m.block g o (f g rfl)).trans n,y,p⟩
theorem Am {b t:TypeId} {cs:List Bool} [ts:TS P b e] (h:J9 B e sz R σ w v xs) (c:K (I xs.length) w):X6 P .len [b] t cs [v] w K:=by
 obtain ⟨a,d,rfl,_⟩:=h
 rw[Af];exact c
theorem Q3t {t:TypeId} {d:Nat} {z:Value} [TS P t e] [TZ P e sz d z] (h:J9 B e sz R σ w v xs) {n:Nat} (p:n<xs.length)
 (k: ∀a cs,(∀j u,cs[j]? =some u→w.cell? (a.add j)=some u)→cs.length=sz→R σ xs[n] cs→K (.pointer (some a)) w):indexAddr P t v (I n) w K:=by
 obtain ⟨a,f,rfl,r,C,l,q⟩:=h
 obtain ⟨g,i,c,rfl,y,s,o,A,m⟩:=q (by omega)
 rw[Sw (by omega) (by omega)]
 have hh:n*sz+sz≤f*sz:=by rw[←Nat.succ_mul];exact Nat.mul_le_mul_right _ (by omega)
 refine k _ ((c.toList.drop (i+n*sz)).take sz) ?_ ?_ (m n _ (by simp[p]))
 ·intro j u b
  rw[List.getElem?_take] at b
  split at b
  ·rw[List.getElem?_drop] at b
   unfold World.cell?
   rw[C9,C9,Zn,Zn,F5 (F5 rfl _)]
   simp only[o]
   simpa using b
  ·cases b
 ·rw[List.length_take,List.length_drop,Array.length_toList];omega
theorem X1j {t:TypeId} {n:Nat} {z:Value} [ts:TS P t e] [tz:TZ P e sz n z] (h:J9 B e sz R σ w v xs) (l:Nat) (J:l≤xs.length)
 (r: ∀j,J9 B e sz R σ w j (xs.drop l)→(j.ownBlock=v.ownBlock∨j.ownBlock=none)→K j w):R6 P t v (some (I l)) none none w K:=by
 obtain ⟨a,c,rfl,A,N,d,q⟩:=h
 have hh: ∀w:World,(Instr.sliceBounds true xs.length c (some (I l)) none none).run P w= .ok (l,xs.length,c) w:=by
  intro w
  have D:(l:Int)≤xs.length:=by omega
  simp[Instr.sliceBounds,Instr.sliceBound,asIntOf,A,D]
  intros;omega
 unfold R6
 have:(Instr.sliceAt t (.slice a xs.length c) (some (I l)) none none).run P w= .ok (.slice (if c=l then a else a.map (·.add (l*sz))) (xs.length-l) (c-l)) w:=by
  simp[Instr.sliceAt,run_underlying ts.h,Instr.slice,hh,W5 tz]
 rw[X7 this]
 refine r _ ⟨_,c-l,by rw[List.length_drop],by rw[List.length_drop];omega,by omega,?_,fun L=>?_⟩ ?_
 ·intro b k
  split at k
  ·exact d b k
  ·cases a with
   | none=>cases k
   | some a=>cases k;exact ⟨F5 (d a rfl).1 _,by rw[C9];exact (d a rfl).2⟩
 ·have E:=q (by omega)
  clear q
  obtain ⟨g,o,m,rfl,H,C,y,M,s⟩:=E
  refine ⟨g,o+l*sz,m,?_,H,C,y,?_,fun i x p=>?_⟩
  ·rw[if_neg (by omega)];simp only[Option.map_some];congr 1;unfold Addr.add;split<;>simp_all
  ·have:l*sz+(c-l)*sz=c*sz:=by rw[←Nat.add_mul];congr 1;omega
   omega
  ·rw[List.getElem?_drop] at p
   have:=s _ _ p
   rwa [Nat.add_mul,←Nat.add_assoc] at this
 ·left
  by_cases f:c=l
  ·rw[if_pos f];cases a<;>rfl
  ·rw[if_neg f]
   cases a with
   | none=>rfl
   | some a=>simp only[Option.map_some,Value.ownBlock,C9]
theorem Q6M {t W:TypeId} {Z:Nat} {z:Value} {cs:List Bool} [ts:TS P t e] [tz:TZ P e sz Z z] [hr:Rep R] (hs:X4 w σ) (hB:B≤w.heap.size) (ha:J9 B e sz R σ w v xs) (H:Sl sz R σ u ys) (hz:(z.cells.size==sz&&decide (0<sz))=true)
 (Q:(xs.length+ys.length)*Z≤140737488355328) (hm:xs.length+ys.length≤1000000000000)
 (h: ∀s w',Kpt (fun k=>v.ownBlock=some k∧B≤k∧σ k=none) w w'→X4 w' σ→J9 B e sz R σ w' s (xs++ys)→((∃a m,v= .slice a xs.length m∧s= .slice a (xs.length+ys.length) m)∨(Below w.heap.size w w'∧ ∀k,s.ownBlock=some k→w.heap.size≤k))→K s w'):X6 P .append [t,t] W cs [v,u] w K:=by
 obtain ⟨C,c,rfl,c1,c2,y,c3⟩:=ha
 obtain ⟨a,m,d,rfl,n1,n2,n3,n4,n5⟩:=H.cells hs
 obtain ⟨i,hi,E,av,N⟩:=tz.info
 simp only[Bool.and_eq_true,beq_iff_eq,decide_eq_true_eq] at hz
 obtain ⟨ap,bc⟩:=hz
 have M: ∀s w',(Builtin.append_ #[t,t] W #[.slice C xs.length c, .slice a ys.length m]).run P w= .ok s w'→Kpt (fun k=>(Value.slice C xs.length c).ownBlock=some k∧B≤k∧σ k=none) w w'→J9 B e sz R σ w' s (xs++ys)→((∃a m,(Value.slice C xs.length c)= .slice a xs.length m∧s= .slice a (xs.length+ys.length) m)∨(Below w.heap.size w w'∧ ∀k,s.ownBlock=some k→w.heap.size≤k))→X6 P .append [t,t] W cs [.slice C xs.length c, .slice a ys.length m] w K:=by
  intro s w' D hk hq aw
  have O:(builtin .append #[t,t] W cs.toArray #[.slice C xs.length c, .slice a ys.length m]).run P w= .ok (.value s) w':=by
   simp[builtin,D]
  unfold X6
  rw[T1];unfold K1
  rw[O]
  exact h s w' hk (fun k o ho=>by rw[hk.block k (hs.lt ho) fun e=>by rw[e.2.2] at ho;cases ho];exact hs k o ho) hq aw
 have q:Src P i.size t (.slice a ys.length m) ys.length d w:=by
  cases a with
  | some b=>exact Src.ofSlice w ts.h b ys.length m d (by rw[E];exact n2) (n3 b rfl) n4
  | none=>
   have hy:ys.length=0:=by
    obtain ⟨a',a0,e',q1,_,V,_⟩:=H;injection e' with e1 e2 e3;have:=n1 rfl;omega
   have hn:d=[]:=List.eq_nil_of_length_eq_zero (by rw[n2,hy];simp)
   subst hn
   rw[hy];exact Src.ofNil w ts.h m
 by_cases r:xs.length+ys.length≤c
 ·by_cases J:c=0
  ·-- nothing at all
   subst J
   have p:xs=[]:=List.eq_nil_of_length_eq_zero (by omega)
   have hy:ys=[]:=List.eq_nil_of_length_eq_zero (by omega)
   subst p hy
   have hn:d=[]:=List.eq_nil_of_length_eq_zero (by simpa using n2)
   subst hn
   refine M (.slice C 0 0) w ?_ Kpt.refl ⟨C,0,rfl,by simp,by simp,y,fun h=>by omega⟩ (.inl ⟨_,_,rfl,rfl⟩)
   have hl:=q.len w
   have A:=q.cells
   simp only[List.length_nil] at hl A⊢
   cases C<;>simp[Builtin.append_,run_underlying ts.h,sizeOf,typeInfo,hi,hl,A,storeCells]
  ·obtain ⟨g,l,f,rfl,q1,q2,V,q4,q5⟩:=c3 (by omega)
   have e1:(xs.length+ys.length)*sz≤c*sz:=Nat.mul_le_mul_right _ r
   rw[Nat.add_mul] at e1
   have Y:=run_storeCells_at P g (l+xs.length*sz) e d 0 f w V (by omega) n4
   simp only[Nat.add_zero] at Y
   obtain ⟨aa,ao⟩:=Vy (cs:=(f.toList.take (l+xs.length*sz)++d++f.toList.drop (l+xs.length*sz+d.length)).toArray) V
   refine M (.slice (some ⟨g,l,none⟩) (xs.length+ys.length) c) _ ?_ (Kpt.of_upd aa ⟨rfl,q1,q2⟩) ?_ (.inl ⟨_,_,rfl,rfl⟩)
   ·have hl:=q.len w
    have A:=q.cells
    rw[E] at A
    simp[Builtin.append_,run_underlying ts.h,sizeOf,typeInfo,hi,hl,A,E,r,Addr.add_lit,Y]
   ·refine ⟨_,c,by rw[List.length_append],by rw[List.length_append];exact r,c2,fun b Q=>⟨(y b Q).1,(y b Q).2.1,by rw[aa.size];exact (y b Q).2.2.1,(y b Q).2.2.2⟩,fun _=>⟨g,l,_,rfl,q1,q2,ao,?_,fun j x p=>?_⟩⟩
    ·simp;omega
    ·by_cases U:j<xs.length
     ·rw[List.getElem?_append_left U] at p
      have:=q5 j x p
      have hh:j*sz+sz≤xs.length*sz:=by rw[←Nat.succ_mul];exact Nat.mul_le_mul_right _ U
      have e2:((f.toList.take (l+xs.length*sz)++d++f.toList.drop (l+xs.length*sz+d.length)).toArray.toList.drop (l+j*sz)).take sz=(f.toList.drop (l+j*sz)).take sz:=by
       rw[List.toList_toArray,List.append_assoc]
       rw[List.drop_append_of_le_length (by rw[List.length_take,Array.length_toList (xs:=f)];omega),List.take_append_of_le_length (by rw[List.length_drop,List.length_take,Array.length_toList (xs:=f)];omega),List.drop_take,List.take_take]
       congr 1;omega
      rw[e2];exact this
     ·rw[List.getElem?_append_right (by omega)] at p
      have:=n5 _ _ p
      have ar:j-xs.length<ys.length:=(List.getElem?_eq_some_iff.1 p).1
      have hh:(j-xs.length)*sz+sz≤ys.length*sz:=by rw[←Nat.succ_mul];exact Nat.mul_le_mul_right _ ar
      have a7:j*sz=xs.length*sz+(j-xs.length)*sz:=by rw[←Nat.add_mul];congr 1;omega
      have e2:((f.toList.take (l+xs.length*sz)++d++f.toList.drop (l+xs.length*sz+d.length)).toArray.toList.drop (l+j*sz)).take sz=(d.drop ((j-xs.length)*sz)).take sz:=by
       rw[List.toList_toArray,List.append_assoc]
       rw[List.drop_append,List.drop_eq_nil_of_le (by rw[List.length_take,Array.length_toList (xs:=f)];omega),List.nil_append,List.length_take,Array.length_toList (xs:=f),
        show l+j*sz-min (l+xs.length*sz) f.size=(j-xs.length)*sz by omega,
        List.drop_append_of_le_length (by omega),List.take_append_of_le_length (by rw[List.length_drop];omega)]
      rw[e2];exact this
 ·-- a new row
  have L: ∃n:List Value,n.length=xs.length*sz∧(Builtin.firstCells i.size xs.length (.slice C xs.length c)).run P w.drew= .ok n.toArray w.drew∧ ∀j x,xs[j]? =some x→R σ x ((n.drop (j*sz)).take sz):=by
   by_cases J:c=0
   ·subst J
    have p:xs=[]:=List.eq_nil_of_length_eq_zero (by omega)
    subst p
    refine ⟨[],by simp,?_,by simp⟩
    cases C with
    | none=>exact run_firstCells_none w.drew i.size 0 0 0
    | some a'=>exact run_firstCells_some w.drew i.size 0 a' 0 0 [] (by simp) (by intro _ _ h';simp at h')
   ·obtain ⟨g,l,f,rfl,q1,q2,V,q4,q5⟩:=c3 (by omega)
    have e1:xs.length*sz≤c*sz:=Nat.mul_le_mul_right _ c1
    refine ⟨(f.toList.drop l).take (xs.length*sz),by rw[List.length_take,List.length_drop,Array.length_toList (xs:=f)];omega,?_,fun j x p=>?_⟩
    ·refine run_firstCells_some w.drew i.size xs.length ⟨g,l,none⟩ xs.length c _ (by rw[List.length_take,List.length_drop,Array.length_toList (xs:=f),E];omega) (fun j u H=>?_)
     rw[List.getElem?_take] at H
     split at H
     ·rw[List.getElem?_drop] at H
      have ay:w.drew.heap[g]? =some (.cells f e (0,0)):=V
      unfold World.cell?
      rw[C9,Zn,F5 rfl]
      simp only[ay]
      simpa using H
     ·cases H
    ·have U:j<xs.length:=(List.getElem?_eq_some_iff.1 p).1
     have hh:j*sz+sz≤xs.length*sz:=by rw[←Nat.succ_mul];exact Nat.mul_le_mul_right _ U
     have:=q5 j x p
     rw[List.drop_take,List.take_take,List.drop_drop,show min sz (xs.length*sz-j*sz)=sz by omega]
     exact this
  obtain ⟨n,o1,o2,o3⟩:=L
  have hg:c<xs.length+ys.length:=by omega
  have D:=run_append_grow_src (P:=P) w t t W e i z ts.h hi N C xs.length c n o2 (.slice a ys.length m) ys.length d q hg (by omega) (growslice_fits hg (by rw[av];exact Q))
  have aq:=grownCap_le_maxLen w (xs.length+ys.length) c e (by simp only[maxLen];omega)
  have ak:=grownCap_ge w (xs.length+ys.length) c e
  have hL:(n++d).length=(xs.length+ys.length)*sz:=by rw[List.length_append,o1,n2,Nat.add_mul]
  refine M _ _ D ?_ ?_ (.inr ⟨(Below.refl _ _).drew.alloc (Nat.le_refl _) _,by intro k hk;cases hk;exact Nat.le_refl _⟩)
  ·exact Kpt.of_below ((Below.refl _ _).drew.alloc (Nat.le_refl _) _)
  ·refine ⟨_,_,by rw[List.length_append],by rw[List.length_append];exact ak,aq,by rintro _ ⟨⟩;exact ⟨rfl,hB,(Array.getElem?_eq_some_iff.1 (heap_alloc_new w.drew _)).1,hs.none (Nat.le_refl _)⟩,fun _=>⟨w.heap.size,0,_,rfl,hB,hs.none (Nat.le_refl _),heap_alloc_new w.drew _,?_,fun j x p=>?_⟩⟩
   ·rw[Array.size_append,List.size_toArray,hL,size_zeroCells,ap,←Nat.add_mul]
    rw[Nat.zero_add];exact Nat.mul_le_mul_right _ (by omega)
   ·rw[Nat.zero_add,Array.toList_append]
    have U:j<xs.length+ys.length:=by have:=(List.getElem?_eq_some_iff.1 p).1;rwa [List.length_append] at this
    have hh:j*sz+sz≤(xs.length+ys.length)*sz:=by rw[←Nat.succ_mul];exact Nat.mul_le_mul_right _ U
    rw[List.drop_append_of_le_length (by simp only[List.toList_toArray];omega),List.take_append_of_le_length (by rw[List.length_drop];simp only[List.toList_toArray];omega)]
    simp only[List.toList_toArray]
    by_cases X:j<xs.length
    ·rw[List.getElem?_append_left X] at p
     rw[Dl n d xs.length j o1 X]
     exact o3 j x p
    ·rw[List.getElem?_append_right (by omega)] at p
     have:=n5 _ _ p
     rw[show j*sz=n.length+(j-xs.length)*sz by rw[o1,←Nat.add_mul];congr 1;omega,List.drop_append]
     simpa [List.drop_eq_nil_of_le] using this
end
theorem C2 {b:Nat} (h:w1.heap.size≤b) (k:Stp w σ w1 σ1):w.heap.size≤b:=Nat.le_trans k.bel.size h
theorem C5 {t:TypeId} {sz a:Nat} {z:Value} [tz:TZ P t sz a z] (g:X4 w σ) (h: ∀b w' σ',w.heap.size≤b→Stp w σ w' σ'→J0 σ' w' b z.cells.toList→K (.pointer (some ⟨b,0,none⟩)) w'):W1 P t w K:=
 Bs g fun b w' d c f=>h b w' σ d c f
theorem Q1x {t:TypeId} {cs:List Value} (f:X4 w σ) (h: ∀b w' σ',w.heap.size≤b→Stp w σ w' σ'→J0 σ' w' b cs→K (.pointer (some ⟨b,0,none⟩)) w'):box P t (.agg cs.toArray) w K:=
 Q8g f fun b w' c a d=>h b w' σ c a (by simpa [Value.cells] using d)
theorem B8 {t:TypeId} {sz c:Nat} {z:Value} [tz:TZ P t sz c z] {b:Nat} {cs ds:List Value} (d:J0 σ w b cs) (j:Stp w0 σ0 w σ) (g:w0.heap.size≤b) (l:cs.length=sz) (k:ds.length=sz) (i: ∀u∈ds,u.oneCell'=true)
 (h: ∀w',Hst w0 σ0 w' σ→J0 σ w' b ds→K undef w'):Z6 P t (.pointer (some ⟨b,0,none⟩)) (.agg ds.toArray) w K:=
 sta d l k (by rw[List.all_toArray];exact List.all_eq_true.2 i) fun w' f a=>h w' ⟨f.stp j g d.1⟩ a
structure Nxt (D : Nat → Prop) (w : World) (σ : Q4) (w' : World) (σ' : Q4) : Prop where
  kp : Kpt D w w'
  le : SLe σ σ'
  old : ∀ k, k < w.heap.size → σ' k = σ k
  sat : X4 w' σ'
theorem Nxt.of_stp {D:Nat→Prop} (h:Stp w σ w' σ'):Nxt D w σ w' σ':=⟨Kpt.of_below h.bel,⟨h.le⟩,h.old,h.sat⟩
theorem Nxt.mono {D D':Nat→Prop} (h:Nxt D w σ w' σ') (a: ∀k,k<w.heap.size→D k→D' k):Nxt D' w σ w' σ':=⟨h.kp.mono a,h.le,h.old,h.sat⟩
theorem Nxt.trans {D:Nat→Prop} (h:Nxt D w σ w' σ') (k:Nxt D w' σ' w'' σ1):Nxt D w σ w'' σ1:=
 ⟨h.kp.trans k.kp,h.le.more k.le,fun i a=>(k.old i (Nat.lt_of_lt_of_le a h.kp.size)).trans (h.old i a),k.sat⟩
theorem J0.nx {D:Nat→Prop} {b:Nat} {cs:List Value} (h:J0 σ w b cs) (k:Nxt D w σ w' σ') (d: ¬D b):J0 σ' w' b cs:=by
 have a:=h.lt
 obtain ⟨c,e,f⟩:=h
 exact ⟨(k.old b a).trans c,e,(k.kp.block b a d).trans f⟩
theorem E4.nx {D:Nat→Prop} {r:Nat} {m:List (List UInt8×Value)} (h:E4 σ w r m) (k:Nxt D w σ w' σ') (a: ¬D r):E4 σ' w' r m:=
 ⟨(k.old r h.lt).trans h.1,(k.kp.block r h.lt a).symm▸h.2⟩
section
variable {α : Type} {R : Q4 → α → List Value → Prop} {B sz : Nat} {e : TypeId} {v u : Value} {xs : List α} {x : α}
theorem V2.nx [hr:Rep R] {D:Nat→Prop} (h:V2 B e sz R σ w v xs) (k:Nxt D w σ w' σ') (g: ∀k,v.ownBlock=some k→ ¬D k):V2 B e sz R σ' w' v xs:=by
 have c:=h.kp k.kp g
 obtain ⟨cells,d,j,b⟩:=c
 refine ⟨cells,d,fun i a=>(k.old i (h.mem i a).2.1).trans (j i a),fun i x f=>hr.up k.le.le (b i x f)⟩
theorem J9.nx [hr:Rep R] {D:Nat→Prop} (h:J9 B e sz R σ w v xs) (k:Nxt D w σ w' σ') (s: ∀k,v.ownBlock=some k→ ¬D k):J9 B e sz R σ' w' v xs:=by
 obtain ⟨a,j,rfl,p,C,c,A⟩:=h
 refine ⟨a,j,rfl,p,C,fun b d=>⟨(c b d).1,(c b d).2.1,Nat.lt_of_lt_of_le (c b d).2.2.1 k.kp.size,(k.old _ (c b d).2.2.1).trans (c b d).2.2.2⟩,fun r=>?_⟩
 obtain ⟨g,l,f,rfl,t,q,n,y,o⟩:=A r
 have m:=(Array.getElem?_eq_some_iff.1 n).1
 exact ⟨g,l,f,rfl,t,(k.old g m).trans q,(k.kp.block g m (s g rfl)).trans n,y,fun i x z=>hr.up k.le.le (o i x z)⟩
theorem Zb {t D:TypeId} {d:Nat} {z:Value} {cs:List Bool} {A:Value→Value→World→Prop} [ts:TS P t e] [tz:TZ P e sz d z] [hr:Rep R] (n:Stp w0 σ0 w σ) (E:V2 w0.heap.size e sz R σ w v xs) (o:R σ x u.cells.toList) (C:u.cells.size=sz) (y:(z.cells.size==sz&&decide (0<sz))=true) (f:(decide (0<sz)&&decide ([u].length*sz≤16777216))=true)
 (r:(xs.length+1)*d≤140737488355328) (q:xs.length+1≤9223372036854775807)
 (h: ∀s b w' σ',Nxt (fun k=>v.ownBlock=some k) w σ w' σ'→Stp w0 σ0 w' σ'→V2 w0.heap.size e sz R σ' w' b (xs++[x])→(b.ownBlock=v.ownBlock∨ ∀k,b.ownBlock=some k→w.heap.size≤k)→A s b w'):
 buildSlice P t 1 [(0,u)] w (fun s w=>X6 P .append [t,t] D cs [v,s] w (fun b w=>A s b w)):=by
 refine T4 n.sat [u] [x] rfl rfl (by simpa using C) f ⟨o,trivial⟩ fun s w1 σ1 a i=>?_
 refine app (n.trans a) (E.up a) i y (by simpa using r) (by simpa using q) fun b m p c g hat=>?_
 have j:Kpt (fun k=>v.ownBlock=some k) w m:=(Kpt.of_below a.bel).trans (Kpt.of_grown p fun k a=>a)
 refine h s b m σ1 ⟨j,⟨a.le⟩,a.old,c.sat⟩ c g ?_
 rcases hat with hat | hat
 ·exact .inl hat
 ·exact .inr fun k l=>Nat.le_trans a.bel.size (hat k l)
theorem Oy {t p:TypeId} {c:Nat} {z:Value} {cs:List Bool} {ys:List α} [ts:TS P t e] [tz:TZ P e sz c z] [hr:Rep R] (r:Stp w0 σ0 w σ) (q:V2 w0.heap.size e sz R σ w v xs) (g:Sl sz R σ u ys) (n:(z.cells.size==sz&&decide (0<sz))=true)
 (m:(xs.length+ys.length)*c≤140737488355328) (l:xs.length+ys.length≤9223372036854775807)
 (h: ∀a w',Nxt (fun k=>v.ownBlock=some k) w σ w' σ→Stp w0 σ0 w' σ→V2 w0.heap.size e sz R σ w' a (xs++ys)→(a.ownBlock=v.ownBlock∨ ∀k,a.ownBlock=some k→w.heap.size≤k)→K a w'):X6 P .append [t,t] p cs [v,u] w K:=
 app r q g n m l fun a o j b f d=>h a o ⟨Kpt.of_grown j fun k i=>i,SLe.refl _,fun _ _=>rfl,b.sat⟩ b f d
end
section
variable {α : Type} {R : Q4 → α → List Value → Prop} {B sz : Nat} {e : TypeId} {v u : Value} {xs : List α} {x : α}
theorem J9.mono {B':Nat} (h:J9 B e sz R σ w v xs) (k:B'≤B):J9 B' e sz R σ w v xs:=by
 obtain ⟨a,f,rfl,n,p,d,o⟩:=h
 refine ⟨a,f,rfl,n,p,fun b c=>⟨(d b c).1,Nat.le_trans k (d b c).2.1,(d b c).2.2⟩,fun l=>?_⟩
 obtain ⟨g,j,i,rfl,m,q⟩:=o l
 exact ⟨g,j,i,rfl,Nat.le_trans k m,q⟩
theorem J9.own (h:J9 B e sz R σ w v xs) {k:Nat} (a:v.ownBlock=some k):B≤k:=(h.mem a).1
theorem J9.keep [hr:Rep R] (h:J9 w0.heap.size e sz R σ w v xs) (p:Stp w0 σ0 w σ): ∃σ',Stp w0 σ0 w σ'∧Sl sz R σ' v xs∧SLe σ σ'∧(∀k,some k≠v.ownBlock→σ' k=σ k):=by
 obtain ⟨a,f,rfl,z,E,n,D⟩:=h
 by_cases A:f=0
 ·have m:xs=[]:=List.eq_nil_of_length_eq_zero (by omega)
  subst A m
  exact ⟨σ,p,⟨a,0,rfl,by simp,by simp,fun _=>rfl,fun b y=>⟨fun _=>(n b y).1,by simp⟩⟩,SLe.refl _,fun _ _=>rfl⟩
 ·obtain ⟨g,o,c,rfl,C,q,t,J,s⟩:=D (by omega)
  have d:=Q4.put_le p.sat q (.cells c e (0,0))
  refine ⟨σ.put g (.cells c e (0,0)),p.put q C t,⟨_,f,rfl,z,E,by simp,?_⟩,⟨d⟩,?_⟩
  ·rintro _ ⟨⟩
   refine ⟨fun _=>rfl,fun i x m=>⟨(c.toList.drop (o+i*sz)).take sz,⟨F5 rfl _,c,e,(0,0),by rw[C9];simp[Q4.put],?_⟩,?_,hr.up d (s i x m)⟩⟩
   ·intro j u l
    rw[Zn]
    rw[List.getElem?_take] at l
    split at l
    ·rw[List.getElem?_drop] at l;simpa using l
    ·cases l
   ·have H:i<xs.length:=(List.getElem?_eq_some_iff.1 m).1
    have h:i*sz+sz≤f*sz:=by rw[←Nat.succ_mul];exact Nat.mul_le_mul_right _ (by omega)
    rw[List.length_take,List.length_drop,Array.length_toList (xs:=c)];omega
  ·intro k r
   have:k≠g:=by intro e;subst e;exact r rfl
   simp only[Q4.put,if_neg this]
theorem Q3e {t O:TypeId} {E:Nat} {z:Value} {A:Value→Value→World→Prop} {ds:List Value} [ts:TS P t e] [tz:TZ P e sz E z] {C:Nat} {W:Value} [tz':TZ P O sz C W] (hS:Stp w0 σ0 w σ) (ha:J9 w0.heap.size e sz R σ w v xs) {n:Nat} (hn:n<xs.length) (D:ds.length=sz) (hx:R σ x ds) (h1: ∀u∈ds,u.oneCell'=true)
 (h: ∀p u w',Kpt (fun k=>v.ownBlock=some k) w w'→Hst w0 σ0 w' σ→J9 w0.heap.size e sz R σ w' v (xs.set n x)→A p u w'):
 indexAddr P t v (I n) w (fun p w=>Z6 P O p (.agg ds.toArray) w (fun u w=>A p u w)):=by
 obtain ⟨a,i,rfl,c1,c2,f,Z⟩:=ha
 obtain ⟨g,c,d,rfl,U,Q,N,q4,Y⟩:=Z (by omega)
 rw[Sw (by omega) (by omega)]
 have hh:n*sz+sz≤i*sz:=by rw[←Nat.succ_mul];exact Nat.mul_le_mul_right _ (by omega)
 have m:(⟨g,c,none⟩:Addr).add ((n:Int).toNat*sz)=⟨g,c+n*sz,none⟩:=by unfold Addr.add;split<;>simp_all
 rw[m]
 have q:=run_storeCells_at P g (c+n*sz) e ds 0 d w N (by omega) h1
 simp only[Nat.add_zero] at q
 obtain ⟨l,H⟩:=Vy (cs:=(d.toList.take (c+n*sz)++ds++d.toList.drop (c+n*sz+ds.length)).toArray) N
 unfold Z6
 rw[Mn (w':=w.setRow g (d.toList.take (c+n*sz)++ds++d.toList.drop (c+n*sz+ds.length)).toArray) (by
  simp[Instr.storeAt,Instr.sureAddr,storeVar,W5 tz',Value.cells,D]
  simpa [D] using q)]
 have V:Kpt (fun k=>(Value.slice (some ⟨g,c,none⟩) xs.length i).ownBlock=some k) w (w.setRow g (d.toList.take (c+n*sz)++ds++d.toList.drop (c+n*sz+ds.length)).toArray):=Kpt.of_upd l rfl
 refine h _ _ _ V ⟨l.stp hS U Q⟩ ⟨_,i,by rw[List.length_set],by rw[List.length_set];exact c1,c2,fun b r=>⟨(f b r).1,(f b r).2.1,by rw[l.size];exact (f b r).2.2.1,(f b r).2.2.2⟩,fun _=>⟨g,c,_,rfl,U,Q,H,?_,fun j y o=>?_⟩⟩
 ·simp;omega
 ·rw[List.toList_toArray]
  have X:=Array.length_toList (xs:=d)
  have s:j<xs.length:=by have:=(List.getElem?_eq_some_iff.1 o).1;simpa using this
  have ab:j*sz+sz≤i*sz:=by rw[←Nat.succ_mul];exact Nat.mul_le_mul_right _ (by omega)
  by_cases M:j=n
  ·subst M
   rw[List.getElem?_set_self s] at o
   cases o
   rw[List.append_assoc,List.drop_append,List.drop_eq_nil_of_le (by rw[List.length_take];omega),List.nil_append,List.length_take,show c+j*sz-min (c+j*sz) d.toList.length=0 by omega,List.drop_zero,List.take_append_of_le_length (by omega),List.take_of_length_le (by omega)]
   exact hx
  ·rw[List.getElem?_set_ne (by omega)] at o
   have:=Y j y o
   rcases Nat.lt_or_gt_of_ne M with J | hgt
   ·have L:j*sz+sz≤n*sz:=by rw[←Nat.succ_mul];exact Nat.mul_le_mul_right _ J
    rw[List.append_assoc,List.drop_append_of_le_length (by rw[List.length_take];omega),List.take_append_of_le_length (by rw[List.length_drop,List.length_take];omega),List.drop_take,List.take_take]
    rwa [show min sz (c+n*sz-(c+j*sz))=sz by omega]
   ·have L:n*sz+sz≤j*sz:=by rw[←Nat.succ_mul];exact Nat.mul_le_mul_right _ hgt
    rw[List.drop_append,List.drop_eq_nil_of_le (by rw[List.length_append,List.length_take];omega),List.nil_append,List.length_append,List.length_take,List.drop_drop,D]
    rwa [show c+n*sz+sz+(c+j*sz-(min (c+n*sz) d.toList.length+sz))=c+j*sz by omega]
end
theorem Q3G (p:Nat→Prop): ∀n,p n→ ∃m,p m∧ ∀k,p k→m≤k:=by
 intro n
 induction n using Nat.strongRecOn with
 | _ n c=>
  intro h
  by_cases b: ∃k,k<n∧p k
  ·obtain ⟨k,f,g⟩:=b;exact c k f g
  ·exact ⟨n,h,fun k d=>Nat.le_of_not_lt fun a=>b ⟨k,a,d⟩⟩
noncomputable def As (p:Nat→Prop):Nat:=open Classical in if h: ∃m,p m∧ ∀k,p k→m≤k then Classical.choose h else 0
theorem Px {p:Nat→Prop} {n:Nat} (h:p n):p (As p)∧As p≤n:=by
 have a:=Q3G p n h
 unfold As
 rw[dif_pos a]
 exact ⟨(Classical.choose_spec a).1,(Classical.choose_spec a).2 n h⟩
theorem Ak {α:Type} {x0:α} {A:(α→World→Prop)→α→(Nat→Value)→World→Prop} (I:Nat→α→World→Prop) (n:Nat) (h:I n x0 w)
 (k: ∀a n x d w,I n x w→(∀b c w',b<n→I b c w'→a c w')→A a x d w):lp x0 w A:=by
 refine Uc (fun x w=> ∃n,I n x w) (fun x w=>As fun n=>I n x w) ⟨n,h⟩ ?_
 rintro x d w ⟨n,j⟩
 obtain ⟨i,l⟩:=Px (p:=fun n=>I n x w) j
 refine k _ _ x d w i fun b c w' f g=>⟨⟨b,g⟩,?_⟩
 exact Nat.lt_of_le_of_lt (Px (p:=fun n=>I n c w') g).2 f
section
variable {α : Type} {R : Q4 → α → List Value → Prop} {B sz : Nat} {e : TypeId} {v u : Value} {xs ys : List α} {x : α}
theorem J9.below (h:J9 B e sz R σ w v xs) (a:Below w.heap.size w w'):J9 B e sz R σ w' v xs:=h.kp (D:=fun _=>False) (.of_below a) fun _ _=>id
theorem J9.pre {a:Option Addr} {n m b:Nat} (h:J9 B e sz R σ w (.slice a m b) (xs++ys)) (C:n=xs.length):J9 B e sz R σ w (.slice a n b) xs:=by
 obtain ⟨J,j,l,t,H,c,o⟩:=h
 injection l with A e2 p
 subst A p C
 rw[List.length_append] at t
 refine ⟨a,b,rfl,by omega,H,c,fun z=>?_⟩
 obtain ⟨g,f,d,q,D,y,s,E,r⟩:=o z
 exact ⟨g,f,d,q,D,y,s,E,fun i x k=>r i x (by rw[List.getElem?_append_left (List.getElem?_eq_some_iff.1 k).1];exact k)⟩
def Sq (B:Nat) (e:TypeId) (sz:Nat) (R:Q4→α→List Value→Prop) (σ:Q4) (v:Value) (xs:List α) (x:α) (w1 c:World):Prop:=
 Kpt (fun k=>v.ownBlock=some k) w1 c∧(J9 B e sz R σ w1 v xs→J9 B e sz R σ c v xs)∧
  ∀a b,v= .slice a xs.length b→J9 B e sz R σ w1 (.slice a (xs.length+1) b) (xs++[x])→J9 B e sz R σ c (.slice a (xs.length+1) b) (xs++[x])
theorem Sq.below (a:Below w.heap.size w w'):Sq B e sz R σ v xs x w w':=⟨.of_below a,fun h=>h.below a,fun _ _ _ h=>h.below a⟩
theorem Sq.refl:Sq B e sz R σ v xs x w w:=Sq.below (Below.refl _ _)
def VQa (N B:Nat) (e:TypeId) (sz:Nat) (R:Q4→α→List Value→Prop) (σ:Q4) (v:Value) (xs:List α) (x:α) (c:Value) (w:World):Prop:=
 J9 B e sz R σ w c (xs++[x])∧((∃a b,v= .slice a xs.length b∧c= .slice a (xs.length+1) b)∨((∀k,c.ownBlock=some k→N≤k)∧ ∀k,v.ownBlock=some k→k<N))
theorem VQa.stable {N:Nat} {i:Value} (h:VQa N B e sz R σ v xs x i w) (g:Sq B e sz R σ v xs x w w'):VQa N B e sz R σ v xs x i w':=by
 obtain ⟨j,b⟩:=h
 refine ⟨?_,b⟩
 rcases b with ⟨a,f,d,rfl⟩ | ⟨b,d⟩
 ·exact g.2.2 a f d j
 ·exact j.kp g.1 fun k l c=>by have:=b k l;have:=d k c;omega
theorem Kpt.more {D E:Nat→Prop} (h:Kpt D w w') (k:Kpt E w' w'') (hE: ∀j,E j→w.heap.size≤j):Kpt D w w'':=
 ⟨k.os.trans h.os,k.tape.trans h.tape,k.output.trans h.output,Nat.le_trans h.size k.size,fun i a b=>(k.block i (Nat.lt_of_lt_of_le a h.size) fun e=>by have:=hE i e;omega).trans (h.block i a b)⟩
end
end Go.Emb

namespace Go.Hm
open Go.Kd
theorem U8 {l:List Cla} {n:X0} {c:Cla} (h:lk l n=some c):c.name=n∧c∈l∧ ∃i,Y2 l n=some i∧l[i]? =some c:=by
 unfold lk at h
 cases a:Y2 l n with
 | none=>rw[a] at h;cases h
 | some i=>
  rw[a] at h
  obtain ⟨b,e,_⟩:=List.findIdx?_eq_some_iff_getElem.1 a
  have d:l[i]? =some c:=h
  rw[List.getElem?_eq_getElem b] at d
  cases d
  exact ⟨by simpa using e,List.getElem_mem b,i,rfl,List.getElem?_eq_getElem b⟩
theorem Zt {l:List Cla} {n:X0} {i:Nat} (h:Y2 l n=some i): ∃c,lk l n=some c∧l[i]? =some c∧c.name=n:=by
 obtain ⟨a,b,_⟩:=List.findIdx?_eq_some_iff_getElem.1 h
 refine ⟨l[i],?_,List.getElem?_eq_getElem a,by simpa using b⟩
 unfold lk;rw[h];simp[a]
theorem Q1N {l:List Cla} {n:X0}:Q0w l n=(lk l n).isSome:=by
 unfold Q0w
 cases a:Y2 l n with
 | none=>simp[lk,a]
 | some i=>obtain ⟨c,h,_⟩:=Zt a;simp[h]
theorem Q7v {l:List Cla} {c:Cla} (h:c∈l): ∃d,lk l c.name=some d:=by
 cases a:Y2 l c.name with
 | none=>
  have:=List.findIdx?_eq_none_iff.1 a c h
  simp at this
 | some i=>obtain ⟨d,h,_⟩:=Zt a;exact ⟨d,h⟩
inductive Reach (L : Ug) : X0 → X0 → Prop
  | refl {a : X0} {c : Cla} : L a = some c → Reach L a a
  | step {a u b : X0} {c : Cla} : L a = some c → u ∈ J3 c → Reach L u b → Reach L a b
theorem Reach.trans {L:Ug} {a b d:X0} (h:Reach L a b) (k:Reach L b d):Reach L a d:=by
 induction h with
 | refl _=>exact k
 | step e f _ c=>exact .step e f (c k)
theorem Reach.right {L:Ug} {a b:X0} (h:Reach L a b): ∃c,L b=some c:=by
 induction h with
 | refl h=>exact ⟨_,h⟩
 | step _ _ _ d=>exact d
theorem Reach.left {L:Ug} {a b:X0} (h:Reach L a b): ∃c,L a=some c:=by
 cases h with
 | refl h=>exact ⟨_,h⟩
 | step h _ _=>exact ⟨_,h⟩
theorem Ap (L:Ug): ∀(f:Nat) (a b:List X0),∃r,Zx L f a b=b++r:=by
 intro f
 induction f with
 | zero=>intro a b;exact ⟨[],by simp[Zx]⟩
 | succ f c=>
  intro a b
  cases a with
  | nil=>exact ⟨[],by simp[Zx]⟩
  | cons n a=>
   simp only[Zx]
   split
   ·exact c _ _
   ·split
    ·exact c _ _
    ·obtain ⟨r,d⟩:=c (a++J3 ‹_›) (b++[n])
     exact ⟨n::r,by rw[d];simp⟩
theorem Q7c (L:Ug): ∀(f:Nat) (a b:List X0) (x:X0),x∈Zx L f a b→x∈b∨ ∃t∈a,Reach L t x:=by
 intro f
 induction f with
 | zero=>intro a b x h;exact .inl h
 | succ f d=>
  intro a b x h
  cases a with
  | nil=>exact .inl h
  | cons n a=>
   simp only[Zx] at h
   split at h
   ·rcases d _ _ _ h with h | ⟨t,ht,h⟩
    ·exact .inl h
    ·exact .inr ⟨t,by simp[ht],h⟩
   ·rename_i c e
    split at h
    ·rcases d _ _ _ h with h | ⟨t,ht,h⟩
     ·exact .inl h
     ·exact .inr ⟨t,by simp[ht],h⟩
    ·rcases d _ _ _ h with h | ⟨t,ht,h⟩
     ·rcases List.mem_append.1 h with h | h
      ·exact .inl h
      ·simp at h;subst h;exact .inr ⟨x,by simp, .refl e⟩
     ·rcases List.mem_append.1 ht with ht | ht
      ·exact .inr ⟨t,by simp[ht],h⟩
      ·exact .inr ⟨n,by simp, .step e ht h⟩
theorem Q8z (l:List Cla) (a b:List X0) (h: ∀x∈a,x∈b):weigh l b≤weigh l a:=by
 unfold weigh
 induction l with
 | nil=>simp
 | cons c r e=>
  simp only[List.map_cons,List.sum_cons]
  by_cases d:c.name∈a
  ·rw[if_pos d,if_pos (h _ d)];omega
  ·rw[if_neg d];split<;>omega
theorem Be (l:List Cla) (a:List X0) (c:Cla) (hc:c∈l) (g:c.name∉a):weigh l (a++[c.name])+(J3 c).length≤weigh l a:=by
 unfold weigh
 induction l with
 | nil=>simp at hc
 | cons d r f=>
  simp only[List.map_cons,List.sum_cons]
  have b:weigh r (a++[c.name])≤weigh r a:=Q8z _ _ _ (by simp;intro x h;exact .inl h)
  unfold weigh at b
  rcases List.mem_cons.1 hc with rfl | hc
  ·rw[if_pos (by simp),if_neg g];omega
  ·have:=f hc
   by_cases e:d.name∈a
   ·rw[if_pos (by simp[e]),if_pos e];omega
   ·rw[if_neg e];split<;>omega
theorem Q8T (l:List Cla): ∀(f:Nat) (a b:List X0),a.length+weigh l b≤f→
 (∀x∈b,∀c,lk l x=some c→ ∀u∈J3 c,∀d,lk l u=some d→u∈b∨u∈a)→
 (∀t∈a,∀d,lk l t=some d→t∈Zx (lk l) f a b)∧ ∀x∈Zx (lk l) f a b,∀c,lk l x=some c→ ∀u∈J3 c,∀d,lk l u=some d→u∈Zx (lk l) f a b:=by
 intro f
 induction f with
 | zero=>
  intro a b y o
  have:a=[]:=List.eq_nil_of_length_eq_zero (by omega)
  subst this
  refine ⟨by simp,fun x hx c j u i d g=>?_⟩
  rcases o x hx c j u i d g with h | h
  ·exact h
  ·simp at h
 | succ f s=>
  intro a b y o
  cases a with
  | nil=>
   refine ⟨by simp,fun x hx c j u i d g=>?_⟩
   rcases o x hx c j u i d g with h | h
   ·exact h
   ·simp at h
  | cons n a=>
   simp only[List.length_cons] at y
   simp only[Zx]
   split
   ·rename_i w
    obtain ⟨p,q⟩:=s a b (by omega) (fun x hx c j u i d g=>by
     rcases o x hx c j u i d g with h | h
     ·exact .inl h
     ·rcases List.mem_cons.1 h with rfl | h
      ·rw[w] at g;cases g
      ·exact .inr h)
    refine ⟨fun t ht d g=>?_,q⟩
    rcases List.mem_cons.1 ht with rfl | ht
    ·rw[w] at g;cases g
    ·exact p t ht d g
   ·rename_i c j
    split
    ·rename_i k
     obtain ⟨r,v⟩:=Ap (lk l) f a b
     obtain ⟨p,q⟩:=s a b (by omega) (fun x hx c j u i d g=>by
      rcases o x hx c j u i d g with h | h
      ·exact .inl h
      ·rcases List.mem_cons.1 h with rfl | h
       ·exact .inl k
       ·exact .inr h)
     refine ⟨fun t ht d g=>?_,q⟩
     rcases List.mem_cons.1 ht with rfl | ht
     ·rw[v];simp[k]
     ·exact p t ht d g
    ·rename_i k
     obtain ⟨e,z,_⟩:=U8 j
     have B:=Be l b c z (by rw[e];exact k)
     rw[e] at B
     obtain ⟨p,q⟩:=s (a++J3 c) (b++[n]) (by rw[List.length_append];omega) (fun x hx A m u i d g=>by
      rcases List.mem_append.1 hx with hx | hx
      ·rcases o x hx A m u i d g with h | h
       ·exact .inl (by simp[h])
       ·rcases List.mem_cons.1 h with rfl | h
        ·exact .inl (by simp)
        ·exact .inr (by simp[h])
      ·simp at hx;subst hx
       rw[j] at m;cases m
       exact .inr (by simp[i]))
     refine ⟨fun t ht d g=>?_,q⟩
     rcases List.mem_cons.1 ht with rfl | ht
     ·obtain ⟨r,v⟩:=Ap (lk l) f (a++J3 c) (b++[t])
      rw[v];simp
     ·exact p t (by simp[ht]) d g
theorem Zp {l:List Cla} {a b:X0}:b∈R2 l a↔Reach (lk l) a b:=by
 obtain ⟨g,o⟩:=Q8T l (1+weigh l []) [a] [] (by simp) (by simp)
 constructor
 ·intro h
  rcases Q7c _ _ _ _ _ h with h | ⟨t,e,m⟩
  ·simp at h
  ·simp at e;subst e;exact m
 ·intro h
  have key: ∀{x y:X0},Reach (lk l) x y→x∈R2 l a→y∈R2 l a:=by
   intro x y h
   induction h with
   | refl _=>exact id
   | step i f k j=>
    intro n
    obtain ⟨d,c⟩:=k.left
    exact j (o _ n _ i _ f _ c)
  obtain ⟨d,c⟩:=h.left
  exact key h (g a (by simp) d c)
theorem Q8Y (l:List Cla): ∀(f:Nat) (a b:List X0),a.length+weigh l b≤f→ ∀k,Zx (lk l) (f+k) a b=Zx (lk l) f a b:=by
 intro f
 induction f with
 | zero=>
  intro a b h k
  have:a=[]:=List.eq_nil_of_length_eq_zero (by omega)
  subst this
  cases k<;>rfl
 | succ f d=>
  intro a b h k
  cases a with
  | nil=>rw[Nat.succ_add];rfl
  | cons n a=>
   simp only[List.length_cons] at h
   rw[Nat.succ_add]
   simp only[Zx]
   split
   ·exact d _ _ (by omega) k
   ·rename_i c j
    split
    ·exact d _ _ (by omega) k
    ·rename_i g
     obtain ⟨e,m,_⟩:=U8 j
     have i:=Be l b c m (by rw[e];exact g)
     rw[e] at i
     exact d _ _ (by rw[List.length_append];omega) k
end Go.Hm

namespace Go.Hm
open Go.Kd
def Uf (L:Ug) (a b:X0):Prop:= ∃c,L a=some c∧ ∃u∈J3 c,Reach L u b
def Xv (l:List Cla):Prop:= ∀a,¬Uf (lk l) a a
theorem Uf.reach {L:Ug} {a b:X0} (h:Uf L a b):Reach L a b:=by
 obtain ⟨c,f,u,d,e⟩:=h;exact .step f d e
theorem Uf.trans {L:Ug} {a b d:X0} (h:Uf L a b) (k:Reach L b d):Uf L a d:=by
 obtain ⟨c,f,u,e,g⟩:=h;exact ⟨c,f,u,e,g.trans k⟩
theorem Q2M {L:Ug} {a b:X0}:Reach L a b↔(a=b∧(∃c,L a=some c))∨Uf L a b:=by
 constructor
 ·intro h
  cases h with
  | refl h=>exact .inl ⟨rfl,_,h⟩
  | step d f e=>exact .inr ⟨_,d,_,f,e⟩
 ·rintro (⟨rfl,c,h⟩ | h)
  ·exact .refl h
  ·exact h.reach
def Zo (l:List Cla) (a b:X0):Bool:=match lk l a with
 | none=>false
 | some c=>(J3 c).any fun u=>(R2 l u).contains b
theorem Ux {l:List Cla} {a b:X0}:Zo l a b=true↔Uf (lk l) a b:=by
 unfold Zo Uf
 cases h:lk l a with
 | none=>simp
 | some c=>
  simp only[List.any_eq_true,List.contains_iff_mem,Zp]
  constructor
  ·rintro ⟨u,d,e⟩;exact ⟨c,rfl,u,d,e⟩
  ·rintro ⟨_,⟨⟩,u,d,e⟩;exact ⟨u,d,e⟩
def B2 (l:List Cla) (n:X0):Nat:=l.countP fun m=>Zo l n m.name
theorem Aj (l:List Cla) (n:X0):B2 l n≤l.length:=List.countP_le_length
theorem Q2G {α:Type} {p q:α→Bool}: ∀{l:List α},(∀x∈l,p x=true→q x=true)→(∃x∈l,q x=true∧p x=false)→l.countP p<l.countP q:=by
 intro l
 induction l with
 | nil=>rintro _ ⟨x,hx,_⟩;simp at hx
 | cons a r f=>
  rintro h ⟨x,hx,d,c⟩
  have g:r.countP p≤r.countP q:=List.countP_mono_left fun x hx=>h x (by simp[hx])
  rw[List.countP_cons,List.countP_cons]
  rcases List.mem_cons.1 hx with rfl | hx
  ·rw[d,c];simp;omega
  ·have:=f (fun x hx=>h x (by simp[hx])) ⟨x,hx,d,c⟩
   have e:=h a (by simp)
   cases b:p a
   ·simp;split<;>omega
   ·rw[e b];simp;omega
theorem Q9O {l:List Cla} (g:Xv l) {a b:X0} (h:Uf (lk l) a b):B2 l b<B2 l a:=by
 unfold B2
 refine Q2G (fun x _ j=>?_) ?_
 ·rw[Ux] at*
  exact h.trans j.reach
 ·obtain ⟨d,f⟩:=(Reach.right (h.reach))
  obtain ⟨e,i,_⟩:=U8 f
  refine ⟨d,i,?_,?_⟩
  ·rw[Ux,e];exact h
  ·cases c:Zo l b d.name with
   | false=>rfl
   | true=>rw[Ux,e] at c;exact absurd c (g b)
theorem Xk {l:List Cla} (e:Xv l) {a u:X0} {c d:Cla} (f:lk l a=some c) (b:u∈J3 c) (g:lk l u=some d):B2 l u<B2 l a:=
 Q9O e ⟨c,f,u,b, .refl g⟩
theorem Q4V {l:List Cla} (b:Xv l): ∀(f g:Nat) (n:X0),B2 l n<f→B2 l n<g→S1 (lk l) f n=S1 (lk l) g n:=by
 intro f
 induction f with
 | zero=>intro g n h;omega
 | succ f e=>
  intro g n k j
  obtain ⟨g,rfl⟩: ∃m,g=m+1:=⟨g-1,by omega⟩
  simp only[S1]
  cases i:lk l n with
  | none=>rfl
  | some c=>
   simp only
   congr 1
   cases a:lk l c.super with
   | none=>cases f<;>cases g<;>simp[S1,a]
   | some d=>
    have:=Xk b i (by simp[J3]) a
    exact e g c.super (by omega) (by omega)
theorem F7 {l:List Cla} (a:Xv l) (n:X0):chain l n=match lk l n with | none=>[] | some c=>c::chain l c.super:=by
 have:=Aj l n
 unfold chain
 rw[S1]
 cases e:lk l n with
 | none=>rfl
 | some c=>
  simp only
  congr 1
  cases b:lk l c.super with
  | none=>cases l.length<;>simp[S1,b]
  | some d=>
   have:=Xk a e (by simp[J3]) b
   exact Q4V a _ _ _ (by omega) (by omega)
theorem Qn {l:List Cla} {n:X0} (h:lk l n=none):chain l n=[]:=by simp[chain,S1,h]
theorem Mu {α β:Type} {f g:α→Option β}: ∀{l:List α},(∀x∈l,f x=g x)→l.findSome? f=l.findSome? g
 | [],_=>rfl
 | a::r,h=>by
  rw[List.findSome?_cons,List.findSome?_cons,h a (by simp),Mu fun x b=>h x (by simp[b])]
theorem Q52 {l:List Cla} (k:Xv l) (n:X0): ∀(f g:Nat) (c:Cla),lk l c.name=some c→B2 l c.name<f→B2 l c.name<g→Dq (lk l) f c n=Dq (lk l) g c n:=by
 intro f
 induction f with
 | zero=>intro g c _ h;omega
 | succ f j=>
  intro g c i p o
  obtain ⟨g,rfl⟩: ∃m,g=m+1:=⟨g-1,by omega⟩
  simp only[Dq]
  refine Mu fun u b=>?_
  cases a:lk l u with
  | none=>rfl
  | some d=>
   simp only
   cases H4 d n with
   | some m=>rfl
   | none=>
    simp only
    have:=Xk k i (by simp[J3,b]) a
    have e:=(U8 a).1
    exact j g d (by rw[e];exact a) (by rw[e];omega) (by rw[e];omega)
def U2 (l:List Cla) (c:Cla) (n:X0):Option (X0×Hm.Met):=Dq (lk l) (l.length+1) c n
theorem Q2u {l:List Cla} (b:Xv l) {c:Cla} (g:lk l c.name=some c) (n:X0):U2 l c n=c.like.findSome? fun u=>match lk l u with
 | none=>none
 | some d=>match H4 d n with
  | some m=>some (u,m)
  | none=>U2 l d n:=by
 have:=Aj l c.name
 unfold U2
 rw[Dq]
 refine Mu fun u f=>?_
 cases a:lk l u with
 | none=>rfl
 | some d=>
  simp only
  cases H4 d n with
  | some m=>rfl
  | none=>
   have:=Xk b g (by simp[J3,f]) a
   have e:=(U8 a).1
   exact Q52 b n _ _ d (by rw[e];exact a) (by rw[e];omega) (by rw[e];omega)
def F2 (l:List Cla):Prop:=(l.map (·.name)).Nodup
theorem F2.lk {l:List Cla} (h:F2 l) {c:Cla} (g:c∈l):Go.Hm.lk l c.name=some c:=by
 obtain ⟨d,k⟩:=Q7v g
 obtain ⟨e,o,i,p,b⟩:=U8 k
 obtain ⟨j,m,rfl⟩:=List.getElem_of_mem g
 obtain ⟨a,f⟩:=List.getElem?_eq_some_iff.1 b
 have:i=j:=by
  have n:(l.map (·.name))[i]'(by simpa using a)=(l.map (·.name))[j]'(by simpa using m):=by simp[f,e]
  exact (List.getElem_inj h).1 n
 subst this
 rw[k,←f]
theorem F2.find {l:List Cla} (h:F2 l) {i:Nat} {c:Cla} (k:l[i]? =some c):Y2 l c.name=some i:=by
 obtain ⟨b,rfl⟩:=List.getElem?_eq_some_iff.1 k
 have:=h.lk (List.getElem_mem b)
 obtain ⟨e,n,j,d,m⟩:=U8 this
 obtain ⟨a,f⟩:=List.getElem?_eq_some_iff.1 m
 have:j=i:=by
  have g:(l.map (·.name))[j]'(by simpa using a)=(l.map (·.name))[i]'(by simpa using b):=by simp[f]
  exact (List.getElem_inj h).1 g
 rw[d,this]
end Go.Hm

namespace Go.Emb
open Go.RowKit Go.Hm
variable {P : Program} {w w0 w1 w' w'' : World} {K : Value → World → Prop} {σ σ0 σ1 σ2 σ' : Q4}
theorem Stp.join (c:Stp w σ w' σ1) (f:Stp w σ w' σ2): ∃d,Stp w σ w' d∧SLe σ1 d∧SLe σ2 d:=by
 have g: ∀b o,σ1 b=some o→(fun b=>(σ1 b).or (σ2 b)) b=some o:=fun b o e=>by simp[e]
 have i: ∀b o,σ2 b=some o→(fun b=>(σ1 b).or (σ2 b)) b=some o:=by
  intro b o e
  cases a:σ1 b with
  | none=>simp[a,e]
  | some p=>
   have j:=c.sat b p a
   have h:=f.sat b o e
   rw[j] at h;cases h;simp only[a,Option.some_or]
 refine ⟨fun b=>(σ1 b).or (σ2 b),⟨c.bel,?_,fun b o e=>g b o (c.le b o e),?_⟩,⟨g⟩,⟨i⟩⟩
 ·intro b o e
  cases a:σ1 b with
  | none=>simp only[a,Option.none_or] at e;exact f.sat b o e
  | some p=>simp only[a,Option.some_or] at e;cases e;exact c.sat b _ a
 ·intro b a
  simp only[c.old b a,f.old b a];cases σ b<;>rfl
theorem Ou {Φ:Q4→Value→Prop} {A a:(Value→World→Prop)→Prop} (h:A (fun v w'=> ∃σ',Stp w σ w' σ'∧Φ σ' v)) (d:a (fun v w'=> ∃σ',Stp w σ w' σ'∧Φ σ' v)):Q6 (fun w w'=>Below w.heap.size w w') A a:=
 N1 _ (fun _ _ _ ⟨σ',b,e⟩ c=>⟨σ',b.trans (Stp.of_below b.sat c),e⟩) h d
theorem Kn {Φ:Q4→Value→Prop} {v:Value} (a:Hst w σ w1 σ) (h:Stp w1 σ w' σ') (b:Φ σ' v):dk (fun w w'=>Below w.heap.size w w') (fun v w'=> ∃σ',Stp w σ w' σ'∧Φ σ' v) w1 v w':=
 ⟨h.bel,σ',a.stp.trans h,b⟩
theorem L9.mk {m:Hm.Met} {pv a b:Value} (e:Sl 1 J6 σ pv m.params) (h:Sl 3 G8 σ a m.code) (g:Sl 4 Zc σ b m.catches) (c:m.name.length≤J8) (f:m.result.length≤J8) (d:Jh m.locals):L9 σ m [S m.name,pv,S m.result, .bool m.abs,I m.locals,a,b]:=
 ⟨pv,a,b,rfl,e,h,g,c,f,d⟩
theorem U4.mk {c:Cla} {a b mv:Value} (e:Sl 1 J6 σ a c.like) (h:Sl 3 O4 σ b c.fields) (g:Sl 7 L9 σ mv c.methods) (d:c.name.length≤J8) (f:c.super.length≤J8):U4 σ c [S c.name,S c.super,a, .bool c.iface, .bool c.abs, .bool c.fin,b,mv]:=
 ⟨a,b,mv,rfl,e,h,g,d,f⟩
end Go.Emb
namespace Go.Hm
def SmM (m:Hm.Met):Prop:=m.params.length≤1000000∧m.code.length≤1000000∧m.catches.length≤1000000
def K5 (c:Cla):Prop:=c.like.length≤1000000∧c.fields.length≤1000000∧c.methods.length≤1000000∧ ∀m∈c.methods,SmM m
end Go.Hm
namespace Go.Proofs.YtjdiakhipmggjaaGreatDoor
open Go.Emb Go.RowKit Go.Kd Go.Hm
variable {w : World} {K : Value → World → Prop} {σ : Q4}
theorem Q2j {m:Hm.Met} {cs:List Value} (hs:X4 w σ) (hm:L9 σ m cs) (y:SmM m)
 (h: ∀pv o f w' σ',Stp w σ w' σ'→L9 σ' m [S m.name,pv,S m.result, .bool m.abs,I m.locals,o,f]→K (.agg [S m.name,pv,S m.result, .bool m.abs,I m.locals,o,f].toArray) w'):Q1 P F.bM [.agg cs.toArray] w K:=Q2V (by
 obtain ⟨pv,o,f,rfl,J,C,A,g4,g5,g6⟩:=hm
 obtain ⟨s1,s2,s3⟩:=y
 unfold Gm
 refine Q1x hs fun b w1 σ1 d g a=>?_
 refine C5 g.sat fun b2 w2 σ2 H j c=>?_
 have aw:=a.lt
 replace a:=a.step j
 have M:=j.sat
 have J:=(J.up g).up j
 have C:=(C.up g).up j
 have A:=(A.up g).up j
 have L: ∀{w':World} (i:Nat) (v:Value),[S m.name,pv,S m.result, .bool m.abs,I m.locals,o,f][i]? =some v→Hst w2 σ2 w' σ2→w'.cell? ((⟨b,0,none⟩:Addr).add i)=some v:=fun i v f hh=>(a.step hh.stp).cell f
 refine U6 M ?_
 refine X2 (.pointer (some ((⟨b,0,none⟩:Addr).add 1))) (fun w d=>by rw[fa];exact X5 rfl) ?_
 refine X2 (.pointer (some ((⟨b,0,none⟩:Addr).add 5))) (fun w d=>by rw[fa];exact X5 rfl) ?_
 refine X2 (.pointer (some ((⟨b,0,none⟩:Addr).add 6))) (fun w d=>by rw[fa];exact X5 rfl) ?_
 refine X2 pv (fun t w d e=>by rw[e];exact T7 (L 1 pv rfl d) (X5 rfl)) ?_
 refine Ou (Φ:=fun σ' v=>Sl 1 J6 σ' v m.params) (fun t w d e=>by rw[e];exact Va d.sat J s1 fun Q w' σ' q f=>Kn d q f) ?_
 refine X2 o (fun t w d e=>by rw[e];exact T7 (L 5 o rfl d) (X5 rfl)) ?_
 refine Ou (Φ:=fun σ' v=>Sl 3 G8 σ' v m.code) (fun t w d e=>by rw[e];exact Nj d.sat C s2 fun Q w' σ' q f=>Kn d q f) ?_
 refine X2 f (fun t w d e=>by rw[e];exact T7 (L 6 f rfl d) (X5 rfl)) ?_
 refine X2 (.pointer (some ((⟨b,0,none⟩:Addr).add 1))) (fun w d=>by rw[fa];exact X5 rfl) ?_
 refine Ou (Φ:=fun σ' v=>Sl 4 Zc σ' v m.catches) (fun t w d e=>by rw[e];exact Nv d.sat A s3 fun Q w' σ' q f=>Kn d q f) ?_
 rintro t1 t2 t3 t4 t5 t6 t8 t9 ae N w3 ap e1 e2 e3 e4 ⟨σ5,X,r⟩ e6 ⟨σ8,k8,s⟩ e9 B ⟨aa,u,k⟩
 subst B
 obtain ⟨σa,Z,z,E⟩:=X.join k8
 obtain ⟨σ3,D,O,Y⟩:=Z.join u
 have r:=(r.lift z).lift O
 have s:=(s.lift E).lift O
 have k:=k.lift Y
 have a:=a.step D
 have c:=c.step D
 have n:b2≠b:=by omega
 have l:=(g.trans j).trans D
 refine Ce a (by simp) (Ud r) (F8 r) fun w4 R a=>?_
 rw[fa]
 have l:=R.stp l d a.1
 have c:=c.upd R n
 refine Ce a (by simp) (Ud s) (F8 s) fun w5 V a=>?_
 rw[fa]
 have l:=V.stp l d a.1
 have c:=c.upd V n
 refine Ce a (by simp) (Ud k) (F8 k) fun w6 U a=>?_
 have l:=U.stp l d a.1
 have c:=c.upd U n
 refine X0K a rfl ?_
 have W:=L9.mk r s k g4 g5 g6
 have p:=C2 H g
 refine sta c rfl rfl (by rw[List.all_toArray];exact List.all_eq_true.2 (Rep.one W)) fun w7 u7 c=>?_
 have l:=u7.stp l p c.1
 refine V9 c rfl ?_
 exact h t5 t8 N w7 σ3 l W)
theorem Q8V {c:Cla} {cs:List Value} (hs:X4 w σ) (hc:U4 σ c cs) (ak:K5 c)
 (h: ∀X U mv w' σ',Stp w σ w' σ'→U4 σ' c [S c.name,S c.super,X, .bool c.iface, .bool c.abs, .bool c.fin,U,mv]→K (.agg [S c.name,S c.super,X, .bool c.iface, .bool c.abs, .bool c.fin,U,mv].toArray) w'):Q1 P F.ce [.agg cs.toArray] w K:=Q2Z (by
 obtain ⟨X,U,mv,rfl,g1,g2,V,g4,g5⟩:=hc
 obtain ⟨s1,s2,s3,s4⟩:=ak
 unfold Gn
 refine Q1x hs fun b w1 σ1 l m f=>?_
 refine C5 m.sat fun R w2 σ2 ao r g=>?_
 have bu:=f.lt
 replace f:=f.step r
 have aw:=r.sat
 have g1:=(g1.up m).up r
 have g2:=(g2.up m).up r
 have V:=(V.up m).up r
 have L: ∀{w':World} (i:Nat) (v:Value),[S c.name,S c.super,X, .bool c.iface, .bool c.abs, .bool c.fin,U,mv][i]? =some v→Hst w2 σ2 w' σ2→w'.cell? ((⟨b,0,none⟩:Addr).add i)=some v:=fun i v W hh=>(f.step hh.stp).cell W
 refine U6 aw ?_
 refine X2 (.pointer (some ((⟨b,0,none⟩:Addr).add 2))) (fun w l=>by rw[fa];exact X5 rfl) ?_
 refine X2 (.pointer (some ((⟨b,0,none⟩:Addr).add 6))) (fun w l=>by rw[fa];exact X5 rfl) ?_
 refine X2 X (fun t w l e=>by rw[e];exact T7 (L 2 X rfl l) (X5 rfl)) ?_
 refine Ou (Φ:=fun σ' v=>Sl 1 J6 σ' v c.like) (fun t w l e=>by rw[e];exact Va l.sat g1 s1 fun v' w' σ' H W=>Kn l H W) ?_
 refine X2 U (fun t w l e=>by rw[e];exact T7 (L 6 U rfl l) (X5 rfl)) ?_
 refine X2 (.pointer (some ((⟨b,0,none⟩:Addr).add 2))) (fun w l=>by rw[fa];exact X5 rfl) ?_
 refine Ou (Φ:=fun σ' v=>Sl 3 O4 σ' v c.fields) (fun t w l e=>by rw[e];exact Nw l.sat g2 s2 fun v' w' σ' H W=>Kn l H W) ?_
 rintro t6 t9 t7 t8 be bb ac w3 br e6 e9 e7 ⟨σ8,k8,f8⟩ bh aq ⟨a9,aj,A⟩
 subst aq
 obtain ⟨σ3,k3,l1,l2⟩:=k8.join aj
 have f8:=f8.lift l1
 have A:=A.lift l2
 have V:=V.up k3
 have f:=f.step k3
 have g:=g.step k3
 have J:R≠b:=by omega
 have hS:=(m.trans r).trans k3
 refine Ce f (by simp) (Ud f8) (F8 f8) fun w4 u4 f=>?_
 rw[fa]
 have hS:=u4.stp hS l f.1
 have g:=g.upd u4 J
 refine Ce f (by simp) (Ud A) (F8 A) fun w5 u5 f=>?_
 rw[fa]
 have hS:=u5.stp hS l f.1
 have g:=g.upd u5 J
 refine Pz f rfl ?_
 refine Q9 V ?_
 refine M3 c.methods.length (fun n a w'=> ∃σ',Stp w σ w' σ'∧SLe σ3 σ'∧V2 w.heap.size T.c 7 L9 σ' w' a (c.methods.take n)∧J0 σ' w' b [S c.name,S c.super,t8, .bool c.iface, .bool c.abs, .bool c.fin,ac,mv]∧J0 σ' w' R [S [],S [], .slice none 0 0, .bool false, .bool false, .bool false, .slice none 0 0, .slice none 0 0]∧ ∀k,a.ownBlock=some k→k≠b∧k≠R)
  ⟨σ3,hS,SLe.refl _,V2.nil,f,g,fun k H=>by cases H⟩ fun n a w6 d hn hi=>?_
 obtain ⟨σ6,B,C,ha,f,g,j⟩:=hi
 refine Z1 ?_
 refine Q5 (fun hh=>?_) (fun hh=>?_)
 ·have u:n<c.methods.length:=by simpa using hh
  have Y:c.methods.length≤9223372036854775807:=by omega
  refine W7 (V.lift C) u fun p cs hl z hr=>?_
  refine Y4 B.sat hl z ?_
  refine Y1 B.sat (by rfl) z (Rep.one hr) fun q w7 σ7 o hq=>?_
  refine Y4 o.sat hq z ?_
  refine Q2j o.sat (Rep.up o.le hr) (s4 _ (List.getElem_mem u)) fun pv cv W w8 σ8 N ah=>?_
  have Q:=(Nxt.of_stp (D:=fun k=>a.ownBlock=some k) o).trans (Nxt.of_stp N)
  have ap:=(ha.up o).up N
  have a5:=(f.nx Q fun e=>(j _ e).1 rfl).lt
  have a4:=(g.nx Q fun e=>(j _ e).2 rfl).lt
  refine Zb ((B.trans o).trans N) ap ah rfl rfl rfl (by rw[List.length_take];omega) (by rw[List.length_take];omega) fun s v' w9 σ9 y ai al hat=>?_
  refine M7 ?_
  have y:=Q.trans y
  refine Z2 Y u ⟨σ9,ai,C.more y.le,?_,f.nx y fun e=>(j _ e).1 rfl,g.nx y fun e=>(j _ e).2 rfl,?_⟩
  ·rw[List.take_add_one,List.getElem?_eq_getElem u];exact al
  ·intro k H
   rcases hat with hat | hat
   ·exact j k (hat▸H)
   ·have:=hat k H
    constructor<;>omega
 ·have u: ¬n<c.methods.length:=by simpa using hh
  rw[List.take_of_length_le (by omega)] at ha
  obtain ⟨σ7,M,O,aa,E⟩:=ha.keep B
  have f:J0 σ7 w6 b _:=⟨(E b fun e=>(j b e.symm).1 rfl).trans f.1,f.2⟩
  have g:J0 σ7 w6 R _:=⟨(E R fun e=>(j R e.symm).2 rfl).trans g.1,g.2⟩
  rw[fa]
  refine Ce f (by simp) (Ud O) (F8 O) fun w7 u7 f=>?_
  have M:=u7.stp M l f.1
  have g:=g.upd u7 J
  refine X0K f rfl ?_
  have hr:=U4.mk (f8.lift (C.more ⟨aa⟩)) (A.lift (C.more ⟨aa⟩)) O g4 g5
  have Z:=C2 ao m
  refine sta g rfl rfl (by rw[List.all_toArray];exact List.all_eq_true.2 (Rep.one hr)) fun w8 u8 g=>?_
  have am:=u8.stp M Z g.1
  refine V9 g rfl ?_
  exact h t8 ac a w8 σ7 am hr)
end Go.Proofs.YtjdiakhipmggjaaGreatDoor

namespace Go.Hm
open Go.Kd
def E3 {α:Type}:Nat→List α→List α
 | 0,xs=>xs
 | i+1,xs=>match (E3 i xs)[i]?,(E3 i xs)[xs.length-1-i]? with
  | some a,some b=>((E3 i xs).set i b).set (xs.length-1-i) a
  | _,_=>E3 i xs
theorem Tv {α:Type} (xs:List α): ∀i,2*i≤xs.length→(E3 i xs).length=xs.length∧ ∀k,k<xs.length→(E3 i xs)[k]? =if k<i∨xs.length-1-k<i then xs[xs.length-1-k]? else xs[k]?
 | 0,_=>⟨rfl,fun k g=>by simp[E3]⟩
 | i+1,h=>by
  obtain ⟨m,c⟩:=Tv xs i (by omega)
  have d:=c i (by omega)
  have e:=c (xs.length-1-i) (by omega)
  rw[if_neg (by omega)] at d e
  have n:i<xs.length:=by omega
  have f:xs.length-1-i<xs.length:=by omega
  rw[List.getElem?_eq_getElem (l:=xs) n] at d
  rw[List.getElem?_eq_getElem (l:=xs) f] at e
  simp only[E3,d,e]
  refine ⟨by simp[m],fun k g=>?_⟩
  by_cases b:k=xs.length-1-i
  ·subst b
   rw[List.getElem?_set_self (by simp[m];omega),if_pos (by omega)]
   rw[show xs.length-1-(xs.length-1-i)=i by omega,List.getElem?_eq_getElem (by omega)]
  ·rw[List.getElem?_set_ne (by omega)]
   by_cases a:k=i
   ·subst a
    rw[List.getElem?_set_self (by omega),if_pos (by omega),List.getElem?_eq_getElem (by omega)]
   ·rw[List.getElem?_set_ne (by omega),c k g]
    by_cases j:k<i∨xs.length-1-k<i
    ·rw[if_pos j,if_pos (by omega)]
    ·rw[if_neg j,if_neg (by omega)]
theorem Q7l {α:Type} (xs:List α) (i:Nat) (d:2*i≤xs.length) (e:xs.length≤2*i+1):E3 i xs=xs.reverse:=by
 obtain ⟨f,c⟩:=Tv xs i d
 apply List.ext_getElem?
 intro k
 by_cases a:k<xs.length
 ·rw[c k a,List.getElem?_reverse a]
  by_cases b:k<i∨xs.length-1-k<i
  ·rw[if_pos b]
  ·rw[if_neg b];congr 1;omega
 ·rw[List.getElem?_eq_none (by omega),List.getElem?_eq_none (by simp;omega)]
theorem Bm (L:Ug): ∀(f:Nat) (n:X0),(S1 L f n).length≤f
 | 0,_=>by simp[S1]
 | f+1,n=>by
  simp only[S1]
  split
  ·simp
  ·have:=Bm L f (by rename_i c _;exact c.super)
   simp only[List.length_cons];rename_i c _;have:=Bm L f c.super;omega
theorem Hw (l:List Cla) (n:X0):(chain l n).length≤l.length+1:=Bm _ _ _
theorem Hs {l:List Cla} {n:X0} {c:Cla} (h:c∈chain l n):c∈l:=by
 have key: ∀(f:Nat) (n:X0),c∈S1 (lk l) f n→c∈l:=by
  intro f
  induction f with
  | zero=>intro n h;simp[S1] at h
  | succ f a=>
   intro n h
   simp only[S1] at h
   split at h
   ·simp at h
   ·rename_i d b
    rcases List.mem_cons.1 h with rfl | h
    ·exact (U8 b).2.1
    ·exact a _ h
 exact key _ _ h
theorem Jl {α β:Type} (f:α→List β) (k:Nat): ∀(xs:List α),(∀x∈xs,(f x).length≤k)→(xs.flatMap f).length≤xs.length*k
 | [],_=>by simp
 | x::r,h=>by
  have b:=h x (by simp)
  have c:=Jl f k r fun y a=>h y (by simp[a])
  simp only[List.flatMap_cons,List.length_append,List.length_cons,Nat.add_mul];omega
end Go.Hm

namespace Go.Hm
open Go.Kd
def Y0 (l:List Cla) (i:Nat):X0:=(l.getD i Cla.zero).name
theorem Qh {l:List Cla} (b:F2 l) {i:Nat} (a:i<l.length):lk l (Y0 l i)=some (l.getD i Cla.zero):=by
 have e:l.getD i Cla.zero=l[i]:=by rw[List.getD_eq_getElem?_getD,List.getElem?_eq_getElem a];rfl
 unfold Y0
 rw[e];exact b.lk (List.getElem_mem a)
theorem H6 {l:List Cla} {u:X0} {j:Nat} (h:Y2 l u=some j):j<l.length∧Y0 l j=u:=by
 obtain ⟨a,b,_⟩:=List.findIdx?_eq_some_iff_getElem.1 h
 refine ⟨a,?_⟩
 unfold Y0
 rw[List.getD_eq_getElem?_getD,List.getElem?_eq_getElem a]
 simpa using b
theorem Ao {l:List Cla} (e:Xv l) (d:F2 l) {i j:Nat} (f:i<l.length) {u:X0} (b:u∈J3 (l.getD i Cla.zero)) (a:Y2 l u=some j):B2 l (Y0 l j)<B2 l (Y0 l i):=by
 obtain ⟨c,g,_⟩:=Zt a
 rw[(H6 a).2]
 exact Xk e (Qh d f) b g
theorem Rk {α β:Type} {f g:β→α→β}: ∀(xs:List α) (b:β),(∀b x,x∈xs→f b x=g b x)→xs.foldl f b=xs.foldl g b
 | [],_,_=>rfl
 | x::r,b,h=>by
  rw[List.foldl_cons,List.foldl_cons,h b x (by simp)]
  exact Rk r _ fun b y a=>h b y (by simp[a])
theorem Qv {l:List Cla} {frm:Nat} (f:Nat) (a:List Nat) {i:Nat} (h:i<frm):F6 l frm f a i=a:=by
 cases f<;>simp[F6,h]
theorem Q87 {l:List Cla} (p:Xv l) (k:F2 l) {frm:Nat} (d:0<frm): ∀(f g:Nat) (a:List Nat) (i:Nat),i<l.length→B2 l (Y0 l i)<f→B2 l (Y0 l i)<g→F6 l frm f a i=F6 l frm g a i:=by
 intro f
 induction f with
 | zero=>intro g a i _ h;omega
 | succ f o=>
  intro g a i n q r
  obtain ⟨g,rfl⟩: ∃m,g=m+1:=⟨g-1,by omega⟩
  simp only[F6]
  split
  ·rfl
  ·split
   ·rfl
   ·congr 1
    refine Rk _ _ fun b u e=>?_
    cases c:Y2 l u with
    | none=>simp only[Option.getD_none];rw[Qv f b d,Qv g b d]
    | some j=>
     simp only[Option.getD_some]
     have:=Ao p k n e c
     exact o g b j (H6 c).1 (by omega) (by omega)
def A0 (l:List Cla) (frm:Nat) (a:List Nat) (i:Nat):List Nat:=F6 l frm (l.length+1) a i
theorem Q5y {l:List Cla} (e:Xv l) (f:F2 l) {frm:Nat} (c:0<frm) (a:List Nat) {i:Nat} (h:i<l.length):A0 l frm a i=if i<frm then a else if i∈a then a else
 ((J3 (l.getD i Cla.zero)).foldl (fun a n=>A0 l frm a ((Y2 l n).getD 0)) a)++[i]:=by
 have k:=Aj l (Y0 l i)
 unfold A0
 rw[F6]
 split
 ·rfl
 ·split
  ·rfl
  ·congr 1
   refine Rk _ _ fun b u g=>?_
   cases d:Y2 l u with
   | none=>simp only[Option.getD_none];rw[Qv _ b c,Qv _ b c]
   | some j=>
    simp only[Option.getD_some]
    have:=Ao e f h g d
    exact Q87 e f c _ _ b j (H6 d).1 (by omega) (by omega)
theorem Uz {α:Type} {p:Nat→Prop} {f:List Nat→α→List Nat}: ∀(xs:List α) (b:List Nat),(∀b x,x∈xs→ ∀y∈f b x,y∈b∨p y)→ ∀y∈xs.foldl f b,y∈b∨p y
 | [],b,_=>fun y a=> .inl a
 | x::r,b,h=>fun y a=>by
  rw[List.foldl_cons] at a
  rcases Uz r _ (fun b z c=>h b z (by simp[c])) y a with h1 | h1
  ·exact h b x (by simp) y h1
  ·exact .inr h1
theorem Q4D {l:List Cla} (n:F2 l) {frm:Nat} (s:0<frm): ∀(f:Nat) (a:List Nat) (i:Nat),i<l.length→ ∀y∈F6 l frm f a i,y∈a∨(y<l.length∧(y=i∨Uf (lk l) (Y0 l i) (Y0 l y))):=by
 intro f
 induction f with
 | zero=>intro a i _ y hy;exact .inl hy
 | succ f r=>
  intro a i k y hy
  simp only[F6] at hy
  split at hy
  ·exact .inl hy
  ·split at hy
   ·exact .inl hy
   ·rcases List.mem_append.1 hy with hy | hy
    ·refine Uz (p:=fun y=>y<l.length∧(y=i∨Uf (lk l) (Y0 l i) (Y0 l y))) _ _ (fun b u m y hy=>?_) y hy
     cases e:Y2 l u with
     | none=>
      rw[e] at hy
      simp only[Option.getD_none] at hy
      rw[Qv f b s] at hy
      exact .inl hy
     | some j=>
      rw[e] at hy
      simp only[Option.getD_some] at hy
      obtain ⟨g,d⟩:=H6 e
      obtain ⟨c,q,_⟩:=Zt e
      rcases r b j g y hy with h | ⟨o,rfl | h2⟩
      ·exact .inl h
      ·exact .inr ⟨o, .inr ⟨_,Qh n k,u,m,by rw[d];exact .refl q⟩⟩
      ·exact .inr ⟨o, .inr ⟨_,Qh n k,u,m,by rw[←d];exact h2.reach⟩⟩
    ·simp at hy;subst hy;exact .inr ⟨k, .inl rfl⟩
theorem Q1v {α:Type} {q:List Nat→Prop} {f:List Nat→α→List Nat}: ∀(xs:List α) (b:List Nat),(∀b x,x∈xs→q b→q (f b x))→q b→q (xs.foldl f b)
 | [],b,_,h=>h
 | x::r,b,a,h=>by
  rw[List.foldl_cons]
  exact Q1v r _ (fun b z c=>a b z (by simp[c])) (a b x (by simp) h)
def Tu (l:List Cla) (a:List Nat):Prop:=a.Nodup∧ ∀y∈a,y<l.length
theorem Tu.len {l:List Cla} {b:List Nat} (h:Tu l b):b.length≤l.length:=by
 have key: ∀(n:Nat) (b:List Nat),b.Nodup→(∀y∈b,y<n)→b.length≤n:=by
  intro n
  induction n with
  | zero=>
   intro b _ h
   cases b with
   | nil=>simp
   | cons a r=>have:=h a (by simp);omega
  | succ n i=>
   intro b f h
   have g:=i (b.filter (fun y=> !decide (y=n))) (f.sublist List.filter_sublist) (fun y c=>by
    have:=List.mem_filter.1 c
    have m:=h y this.1
    have o:y≠n:=by simpa using this.2
    omega)
   have m:b.length≤(b.filter (fun y=> !decide (y=n))).length+1:=by
    clear g h
    induction b with
    | nil=>simp
    | cons a r d=>
     obtain ⟨j,k⟩:=List.nodup_cons.1 f
     by_cases e:a=n
     ·subst e
      have:r.filter (fun y=> !decide (y=a))=r:=List.filter_eq_self.2 fun y c=>by simp;rintro rfl;exact j c
      simp[this]
     ·have:=d k
      simp[e];exact this
   omega
 exact key _ _ h.1 h.2
theorem Bj {l:List Cla} (t:Xv l) (r:F2 l) {frm:Nat} (w:0<frm): ∀(f:Nat) (d:List Nat) (i:Nat),i<l.length→Tu l d→Tu l (F6 l frm f d i):=by
 intro f
 induction f with
 | zero=>intro d i _ h;exact h
 | succ f C=>
  intro d i A h
  simp only[F6]
  split
  ·exact h
  ·split
   ·exact h
   ·rename_i v
    have z:Tu l ((J3 (l.getD i Cla.zero)).foldl (fun d n=>F6 l frm f d ((Y2 l n).getD 0)) d):=by
     refine Q1v _ _ (fun b u q k=>?_) h
     cases e:Y2 l u with
     | none=>simp only[Option.getD_none];rw[Qv f b w];exact k
     | some j=>exact C b j (H6 e).1 k
    have s:i∉(J3 (l.getD i Cla.zero)).foldl (fun d n=>F6 l frm f d ((Y2 l n).getD 0)) d:=by
     intro m
     rcases Uz (p:=fun y=>Uf (lk l) (Y0 l i) (Y0 l y)) _ _ (fun b u q y hy=>by
      cases e:Y2 l u with
      | none=>
       rw[e] at hy
       simp only[Option.getD_none] at hy
       rw[Qv f b w] at hy
       exact .inl hy
      | some j=>
       rw[e] at hy
       simp only[Option.getD_some] at hy
       obtain ⟨o,g⟩:=H6 e
       obtain ⟨c,B,_⟩:=Zt e
       rcases Q4D r w f b j o y hy with h | ⟨h1,rfl | h2⟩
       ·exact .inl h
       ·exact .inr ⟨_,Qh r A,u,q,by rw[g];exact .refl B⟩
       ·exact .inr ⟨_,Qh r A,u,q,by rw[←g];exact h2.reach⟩) i m with h1 | h1
     ·exact v h1
     ·exact t _ h1
    refine ⟨?_,fun y hy=>?_⟩
    ·rw[List.nodup_append]
     exact ⟨z.1,by simp,by rintro a t b k rfl;simp at k;subst k;exact s t⟩
    ·rcases List.mem_append.1 hy with hy | hy
     ·exact z.2 y hy
     ·simp at hy;omega
end Go.Hm

namespace Go.Emb
open Go.RowKit Go.Hm
variable {P : Program} {w w0 w1 w' w'' : World} {K : Value → World → Prop} {σ σ0 σ1 σ' : Q4}
def Gj (sz:Nat) (v:Value) (i:Nat):Addr:=match v with
 | .slice (some b) _ _=>b.add (i*sz)
 | _=>⟨0,0,none⟩
section
variable {α : Type} {R : Q4 → α → List Value → Prop} {sz : Nat} {v : Value} {xs : List α}
theorem Sl.el (h:Sl sz R σ v xs) {i:Nat} (j:i<xs.length): ∃cs,Z3 σ (Gj sz v i) cs∧cs.length=sz∧R σ xs[i] cs:=by
 obtain ⟨a,k,rfl,l,m,d,g⟩:=h
 cases a with
 | none=>have:=d rfl;omega
 | some b=>
  obtain ⟨cs,e,f,c⟩:=(g b rfl).2 i xs[i] (by simp[j])
  exact ⟨cs,e,f,c⟩
theorem Z4 {t e:TypeId} {c:Nat} {z:Value} [TS P t e] [TZ P e sz c z] (h:Sl sz R σ v xs) {i:Nat} (l:i<xs.length) (f:K (.pointer (some (Gj sz v i))) w):indexAddr P t v (I i) w K:=by
 obtain ⟨a,g,rfl,j,m,d,k⟩:=h
 cases a with
 | none=>have:=d rfl;omega
 | some b=>
  rw[Sw (by omega) (by omega)]
  simpa [Gj] using f
theorem Sl.elS {xs:List Kd.X0} (h:Sl 1 J6 σ v xs) {i:Nat} (c:i<xs.length):Z3 σ (Gj 1 v i) [S xs[i]]∧xs[i].length≤J8:=by
 obtain ⟨cs,b,d,rfl,a⟩:=h.el c;exact ⟨b,a⟩
theorem Sl.elF {xs:List Fld} (h:Sl 3 O4 σ v xs) {i:Nat} (c:i<xs.length):Z3 σ (Gj 3 v i) [S xs[i].name,S xs[i].kind, .bool xs[i].tr]∧O4 σ xs[i] [S xs[i].name,S xs[i].kind, .bool xs[i].tr]:=by
 obtain ⟨cs,b,d,rfl,a⟩:=h.el c;exact ⟨b,rfl,a⟩
theorem Sl.elI {xs:List Ins} (h:Sl 3 G8 σ v xs) {i:Nat} (c:i<xs.length):Z3 σ (Gj 3 v i) [S xs[i].op,I xs[i].n,S xs[i].s]∧G8 σ xs[i] [S xs[i].op,I xs[i].n,S xs[i].s]:=by
 obtain ⟨cs,b,d,rfl,a⟩:=h.el c;exact ⟨b,rfl,a⟩
theorem Sl.elK {xs:List Cat} (h:Sl 4 Zc σ v xs) {i:Nat} (c:i<xs.length):Z3 σ (Gj 4 v i) [I xs[i].frm,I xs[i].to,I xs[i].at_,S xs[i].cls]∧Zc σ xs[i] [I xs[i].frm,I xs[i].to,I xs[i].at_,S xs[i].cls]:=by
 obtain ⟨cs,b,d,rfl,a⟩:=h.el c;exact ⟨b,rfl,a⟩
theorem Sl.conv {α β:Type} {R:Q4→α→List Value→Prop} {R':Q4→β→List Value→Prop} {sz:Nat} {v:Value} {xs:List α} {ys:List β} (h:Sl sz R σ v xs) (e:ys.length=xs.length) (l: ∀i (g:i<xs.length) (s:i<ys.length) cs,R σ xs[i] cs→R' σ ys[i] cs):Sl sz R' σ v ys:=by
 obtain ⟨a,d,rfl,r,q,n,j⟩:=h
 refine ⟨a,d,by rw[e],by rw[e];exact r,q,n,fun b f=>⟨fun t=>(j b f).1 (by omega),fun i x p=>?_⟩⟩
 obtain ⟨g,rfl⟩:=List.getElem?_eq_some_iff.1 p
 have c:i<xs.length:=by omega
 obtain ⟨cs,o,k,m⟩:=(j b f).2 i xs[i] (List.getElem?_eq_getElem c)
 exact ⟨cs,o,k,l i c g cs m⟩
theorem Sl.elM {xs:List Hm.Met} (h:Sl 7 L9 σ v xs) {i:Nat} (e:i<xs.length): ∃pv a b,Z3 σ (Gj 7 v i) [S xs[i].name,pv,S xs[i].result, .bool xs[i].abs,I xs[i].locals,a,b]∧L9 σ xs[i] [S xs[i].name,pv,S xs[i].result, .bool xs[i].abs,I xs[i].locals,a,b]:=by
 obtain ⟨cs,d,f,pv,a,b,rfl,c⟩:=h.el e;exact ⟨pv,a,b,d,pv,a,b,rfl,c⟩
theorem Sl.elC {xs:List Cla} (h:Sl 8 U4 σ v xs) {i:Nat} (e:i<xs.length): ∃a b mv,Z3 σ (Gj 8 v i) [S xs[i].name,S xs[i].super,a, .bool xs[i].iface, .bool xs[i].abs, .bool xs[i].fin,b,mv]∧U4 σ xs[i] [S xs[i].name,S xs[i].super,a, .bool xs[i].iface, .bool xs[i].abs, .bool xs[i].fin,b,mv]:=by
 obtain ⟨cs,d,f,a,b,mv,rfl,c⟩:=h.el e;exact ⟨a,b,mv,d,a,b,mv,rfl,c⟩
end
theorem V7 {c:World→World→Prop} {A a:(Value→World→Prop)→Prop} {V:Value} (h:A (fun v _=>V=v)) (b:a (fun v _=>V=v)):Q6 c A a:=N1 _ (fun _ _ _ h _=>h) h b
theorem H9 {v V:Value} (h:V=v):dk (fun w w'=>Below w.heap.size w w') (fun v _=>V=v) w v w:=⟨Below.refl _ _,h⟩
theorem F4 {v V:Value} (a:Below w.heap.size w w') (h:V=v):dk (fun w w'=>Below w.heap.size w w') (fun v _=>V=v) w v w':=⟨a,h⟩
theorem T8 {c b:Bool} {V:Value} {a:World→(Value→World→Prop)→Prop} (h:c=b→a w (dk (fun w w'=>Below w.heap.size w w') (fun v _=>V=v) w)):Q0 (.bool c) b w a (dk (fun w w'=>Below w.heap.size w w') (fun v _=>(if c=b then V else undef)=v) w):=by
 by_cases e:c=b
 ·simp only[e,if_true]
  subst e
  have:=h rfl
  cases c
  ·rw[C8];exact this
  ·rw[O9];exact this
 ·have d:c= !b:=by cases c<;>cases b<;>simp_all
  rw[if_neg e];subst d
  cases b
  ·rw[Bool.not_false,Jk];exact ⟨Below.refl _ _,rfl⟩
  ·rw[Bool.not_true,F9];exact ⟨Below.refl _ _,rfl⟩
theorem Xc {p:Prop} (hq:p:=by intros;(repeat (rename_i hx;subst hx));(repeat' (first | (with_reducible exact H9 rfl) | (with_reducible exact F4 (Stp.bel (by (repeat (first | exact Stp.refl (by (first | assumption | exact Stp.sat (by assumption) | exact Hst.sat (by assumption))) | assumption | refine Stp.trans ?_ (by first | assumption | exact Hst.stp (by assumption)))))) rfl) | (with_reducible intro _) | (simp only[↓M2,M2,Mb,reduceIte]) | (with_reducible show Q2 _ _ _ _ _;first | refine X8 aS aL aR ?_ | refine Y4 aS aL aR ?_ | refine ld aS aL aR ?_) | (with_reducible show indexAddr _ _ _ _ _ _;refine Z4 aL au ?_) | (with_reducible show X6 _ _ _ _ _ _ _ _;refine Q9 aL ?_) | (with_reducible show Yy _ _ _ _ _ _;refine U0 aR ?_) | (with_reducible show pick _ _ _ _ _ _;refine G7 ?_) | (apply T8;intro hh;(try simp only[hh,reduceIte,↓M2,M2,Mb,reduceIte]))));done):p:=hq
end Go.Emb

namespace Go.Emb
open Go.RowKit Go.Hm
variable {P : Program} {w w0 w1 w' w'' : World} {K : Value → World → Prop} {σ σ0 σ1 σ' : Q4}
section
variable {α : Type} {R : Q4 → α → List Value → Prop} {B sz : Nat} {e : TypeId} {v u : Value} {xs ys : List α}
def Emp (v:Value):Prop:= ∃a,v= .slice a 0 0
theorem Q9X {t C:TypeId} {y:Nat} {z:Value} {cs:List Bool} [ts:TS P t e] [tz:TZ P e sz y z] [hr:Rep R] (hS:Stp w0 σ0 w σ) (ha:V2 w0.heap.size e sz R σ w v []) (hv:Emp v) (J:X4 w σ') (U:Sl sz R σ' u ys) (hR: ∀x cs,R σ' x cs→R σ x cs) (hz:(z.cells.size==sz&&decide (0<sz))=true)
 (hb:ys.length*y≤140737488355328) (hm:ys.length≤1000000000000)
 (h: ∀l w',Stp w σ w' σ→V2 w0.heap.size e sz R σ w' l ys→K l w'):X6 P .append [t,t] C cs [v,u] w K:=by
 obtain ⟨j,rfl⟩:=hv
 have M:=hS.sat
 obtain ⟨a,d,c,rfl,n1,s,n3,n4,n5⟩:=U.cells J
 obtain ⟨i,Z,E,H,n⟩:=tz.info
 simp only[Bool.and_eq_true,beq_iff_eq,decide_eq_true_eq] at hz
 obtain ⟨N,ad⟩:=hz
 have g:Src P i.size t (.slice a ys.length d) ys.length c w:=by
  cases a with
  | some b=>exact Src.ofSlice w ts.h b ys.length d c (by rw[E];exact s) (n3 b rfl) n4
  | none=>
   have r:ys.length=0:=by
    obtain ⟨W,V,e',q1,_,q3,_⟩:=U;injection e' with e1 e2 e3;have:=n1 rfl;omega
   have O:c=[]:=List.eq_nil_of_length_eq_zero (by rw[s,r];simp)
   subst O
   rw[r];exact Src.ofNil w ts.h d
 have q: ∀l w',(Builtin.append_ #[t,t] C #[.slice j 0 0, .slice a ys.length d]).run P w= .ok l w'→Stp w σ w' σ→V2 w0.heap.size e sz R σ w' l ys→X6 P .append [t,t] C cs [.slice j 0 0, .slice a ys.length d] w K:=by
  intro l w' f D hq
  have o:(builtin .append #[t,t] C cs.toArray #[.slice j 0 0, .slice a ys.length d]).run P w= .ok (.value l) w':=by
   simp[builtin,f]
  unfold X6
  rw[T1];unfold K1
  rw[o]
  exact h l w' D hq
 by_cases r:ys=[]
 ·subst r
  have O:c=[]:=List.eq_nil_of_length_eq_zero (by simpa using s)
  subst O
  refine q (.slice j 0 0) w ?_ (Stp.refl M) ha
  have Y:=g.len w
  have p:=g.cells
  simp only[List.length_nil] at Y p⊢
  cases j<;>simp[Builtin.append_,run_underlying ts.h,sizeOf,typeInfo,Z,Y,p,storeCells]
 ·have ah:0<ys.length:=List.length_pos_iff.2 r
  have m:(Builtin.firstCells i.size 0 (.slice j 0 0)).run P w.drew= .ok (#[]:Array Value) w.drew:=by
   cases j with
   | none=>exact run_firstCells_none w.drew i.size 0 0 0
   | some W=>exact run_firstCells_some w.drew i.size 0 W 0 0 [] (by simp) (by intro _ _ h';simp at h')
  have X:0<0+ys.length:=by omega
  have f:=run_append_grow_src (P:=P) w t t C e i z ts.h Z n j 0 0 [] m (.slice a ys.length d) ys.length c g X (by omega) (growslice_fits X (by rw[H,Nat.zero_add];exact hb))
  simp only[Nat.zero_add] at f
  have Q:=grownCap_le_maxLen w ys.length 0 e (by simp only[maxLen];omega)
  have L:=grownCap_ge w ys.length 0 e
  refine q _ _ f (Stp.of_below M ((Below.refl _ _).drew.alloc (Nat.le_refl _) _)) ⟨c,⟨s, .inr ⟨w.heap.size,_,_,rfl,hS.bel.size,heap_alloc_new w.drew _,L,Q,?_,?_⟩⟩,?_,fun i x hx=>hR _ _ (n5 i x hx)⟩
  ·simp only[List.nil_append]
   rw[Array.size_append,List.size_toArray,s,size_zeroCells,N,←Nat.add_mul]
   congr 1;omega
  ·simp only[List.nil_append]
   rw[Array.toList_append]
   rw[List.take_append_of_le_length (by simp only[List.toList_toArray];omega),List.take_of_length_le (by simp only[List.toList_toArray];omega)]
  ·intro k D;cases D;exact M.none (Nat.le_refl _)
end
def Q8E {α:Type} (w0:World) (σ:Q4) (e:TypeId) (sz:Nat) (R:Q4→α→List Value→Prop) (xs:List α) (v:Value) (w':World):Prop:=Stp w0 σ w' σ∧V2 w0.heap.size e sz R σ w' v xs
def Q66 {α:Type} (w0:World) (σ:Q4) (e:TypeId) (sz:Nat) (R:Q4→α→List Value→Prop) (v:Value) (w':World):Prop:=Stp w0 σ w' σ∧V2 w0.heap.size e sz R σ w' v ([]:List α)∧Emp v
section
variable {α : Type} {R : Q4 → α → List Value → Prop} {sz : Nat} {e : TypeId} {v u : Value} {xs ys : List α} {A rest : (Value → World → Prop) → Prop}
theorem Q23 [Rep R] (xs:List α) (h:A (Q8E w σ e sz R xs)) (c:rest (Q8E w σ e sz R xs)):Q6 (fun w w'=>Below w.heap.size w w') A rest:=
 N1 _ (fun _ _ _ ⟨a,d⟩ b=>⟨a.trans (Stp.of_below a.sat b),d.up (Stp.of_below a.sat b)⟩) h c
theorem X0i [Rep R] (h:A (Q66 w σ e sz R)) (c:rest (Q66 w σ e sz R)):Q6 (fun w w'=>Below w.heap.size w w') A rest:=
 N1 _ (fun _ _ _ ⟨a,f,d⟩ b=>⟨a.trans (Stp.of_below a.sat b),f.up (Stp.of_below a.sat b),d⟩) h c
theorem Q3K (b:Hst w σ w1 σ) (h:Stp w1 σ w' σ) (a:V2 w.heap.size e sz R σ w' v xs):dk (fun w w'=>Below w.heap.size w w') (Q8E w σ e sz R xs) w1 v w':=⟨h.bel,b.stp.trans h,a⟩
theorem X0X (b:Hst w σ w1 σ) (h:Stp w1 σ w' σ) (a:V2 w.heap.size e sz R σ w' v ([]:List α)) (c:Emp v):dk (fun w w'=>Below w.heap.size w w') (Q66 w σ e sz R) w1 v w':=⟨h.bel,b.stp.trans h,a,c⟩
theorem Kv {t:TypeId} {b:Nat} {z:Value} [ts:TS P t e] [tz:TZ P e sz b z] (R:Q4→α→List Value→Prop) (c:Stp w0 σ0 w σ) (g:0<sz)
 (h: ∀v w',Stp w σ w' σ→V2 w0.heap.size e sz R σ w' v ([]:List α)→Emp v→K v w'):buildSlice P t 0 [] w K:=by
 obtain ⟨cells,f,i⟩:=Oj (P:=P) (t:=t) (sz:=sz) (e:=e) [] (by simp) (by simp) w
 unfold buildSlice
 have a:(Instr.buildSlice t 0 ([]:List (Nat×Value)).toArray).run P w=_:=f
 rw[X7 a]
 refine h _ _ (Stp.own c.sat _) ⟨[],⟨by simp, .inr ⟨_,_,cells,rfl,c.bel.size,heap_alloc_new w _,by simp,by simp[maxLen],?_,by simp⟩⟩,?_,by simp⟩ ⟨_,rfl⟩
 ·have:cells.size=0:=by rw[←Array.length_toList,i];rfl
  simp[this]
 ·intro k d;cases d;exact c.sat.none (Nat.le_refl _)
theorem Q6O [Rep R] {t:TypeId} {a:Nat} {z:Value} [ts:TS P t e] [tz:TZ P e sz a z] (b:(decide (0<sz))=true) (h:rest (Q66 w σ e sz R)):
 Q6 (fun w w'=>Below w.heap.size w w') (fun φ=> ∀w1:World,Hst w σ w1 σ→buildSlice P t 0 [] w1 (dk (fun w w'=>Below w.heap.size w w') φ w1)) rest:=
 X0i (fun w1 c=>Kv R c.stp (by simpa using b) fun v w' f g d=>X0X c f g d) h
end
theorem U4.parts {c:Cla} {a b g d e f j mv:Value} (h:U4 σ c [a,b,g,d,e,f,j,mv]):Sl 1 J6 σ g c.like∧Sl 3 O4 σ j c.fields∧Sl 7 L9 σ mv c.methods∧c.name.length≤J8∧c.super.length≤J8:=by
 obtain ⟨_,_,_,i,k⟩:=h
 simp only[List.cons.injEq,and_true] at i
 obtain ⟨_,_,rfl,_,_,_,rfl,rfl⟩:=i
 exact k
theorem L9.parts {m:Hm.Met} {a pv b d e c g:Value} (h:L9 σ m [a,pv,b,d,e,c,g]):Sl 1 J6 σ pv m.params∧Sl 3 G8 σ c m.code∧Sl 4 Zc σ g m.catches∧m.name.length≤J8∧m.result.length≤J8∧Jh m.locals:=by
 obtain ⟨_,_,_,f,i⟩:=h
 simp only[List.cons.injEq,and_true] at f
 obtain ⟨_,rfl,_,_,_,rfl,rfl⟩:=f
 exact i
end Go.Emb

namespace Go.Emb
open Go.RowKit
variable {P : Program} {w : World} {K : Value → World → Prop}
theorem Q9A {d:Nat} {xs ys:Array Value}:(Op.eqFields d xs ys []).run P w= .ok true w:=by simp[Op.eqFields]
theorem Fc {d:Nat} {xs ys:Array Value} {f:Field} {a:List Field} {u v:Value} {b c:Bool} (g:f.name≠ "_") [tg:TG P f.type false] (e:xs[f.offset]? =some u) (i:ys[f.offset]? =some v)
 (h:(Op.equalIn d f.type u v).run P w= .ok b w) (j:(Op.eqFields d xs ys a).run P w= .ok c w):(Op.eqFields d xs ys (f::a)).run P w= .ok (b&&c) w:=by
 simp only[Op.eqFields,if_pos g]
 simp[part,Qc tg,e,i,h]
 cases b
 ·simp
 ·simp[j]
theorem X0t {d:Nat} {t:TypeId} (c:P.underlying t=some .string) (a b:List UInt8):(Op.equalIn (d+1) t (S a) (S b)).run P w= .ok (decide (a=b)) w:=by
 simp[Op.equalIn,run_underlying c,Na]
theorem Q1S {d:Nat} {t:TypeId} {k c:IntKind} (f:P.underlying t=some (.int k)) (a b:Int):(Op.equalIn (d+1) t (.int c a) (.int c b)).run P w= .ok (decide (a=b)) w:=by
 simp[Op.equalIn,run_underlying f]
 by_cases e:a=b<;>simp[e]
theorem X0h {t:TypeId} {c a:Operand} {xs ys:List Value} {b:Bool} (d:P.underlying t=some (.struct (P.fieldsOf t))) (i:P.stoodInHeld t=false) (g:P.eqGuardType P.depth t=false)
 (f:(Op.eqFields 9999 xs.toArray ys.toArray (P.fieldsOf t).toList).run P w= .ok b w) (h:K (.bool b) w):Q3 P .eql t c a (.agg xs.toArray) (.agg ys.toArray) w K:=by
 have e:Q3 P .eql t c a (.agg xs.toArray) (.agg ys.toArray) w K=K (.bool b) w:=X7 (by
  simp only[Sem.run_bind,run_eqGuard_agg w .eql t c a xs.toArray ys.toArray g,Result.andThen_ok]
  rw[run_eql_struct,run_equalIn_struct w 9999 t _ _ d i,f];rfl)
 rw[e];exact h
end Go.Emb
namespace Go.Proofs.YtjdiakhipmggjaaGreatDoor
open Go.Emb Go.RowKit Go.Kd Go.Hm
variable {w : World} {K : Value → World → Prop} {σ : Q4}
end Go.Proofs.YtjdiakhipmggjaaGreatDoor

namespace Go.Proofs.YtjdiakhipmggjaaGreatDoor
open Go.Emb Go.RowKit Go.Kd
variable {w : World} {K : Value → World → Prop}
end Go.Proofs.YtjdiakhipmggjaaGreatDoor
