/- Parts of a proof about the given program: its functions as texts of their own, what each computes, plain laws of that. The conditions of each stand in its statement. -/
import Derived.Test.YtjdiakhipmggjaaGreatDoorB4
import Derived.Laws.OwnMore
import Derived.Laws.CopyRow
import Derived.Test.YtjdiakhipmggjaaGreatDoorB3
import Derived.Lib.TrimUEq
set_option linter.unnecessarySimpa false
set_option linter.defProp false
set_option linter.unusedSectionVars false
set_option linter.unusedVariables false
set_option linter.unusedSimpArgs false
namespace Go.Proofs.YtjdiakhipmggjaaGreatDoor
open Go.Emb Go.RowKit Go.Kd Go.Hm
variable {w w' : World} {K : Value → World → Prop} {σ σ' : Q5} {hp tv : Value} {room : Int} {cs : List Cel} {l : List Cla}
theorem Q9e (j:X2 w σ) (i:Glb σ) (hh:S4 σ hp tv room cs) (t:Tab σ tv l) (ok:Ok l) {v:Val} {k:X0} (u:v.s.length≤U0) (o:k.length≤U0) (h: ∀w' σ',Stp w σ w' σ'→K (.bool (B3 W5 l cs v k)) w'):Q1 P F.ay [hp, .agg [I v.sort,I v.n,S v.s,I v.ref].toArray,S k] w K:=Q01 (by
 unfold Dx
 refine Z0 j fun q w1 σ1 c p=>?_
 refine Y4 c.sat p rfl ?_
 refine X3W c.sat (i.lift ⟨c.le⟩) (hh.lift ⟨c.le⟩) u fun z D f=>?_
 have b:=c.trans f
 refine Vy ?_
 unfold B3 at h
 have d:=X1L hh v
 generalize K7 W5 cs v=m at*
 by_cases e:m=[]
 ·rw[decide_eq_true e] at h⊢
  (try simp only[↓M1,M1,Mb,reduceIte])
  exact h _ _ b
 ·rw[decide_eq_false e] at h⊢
  obtain ⟨a,C,rfl,r,A⟩:=hh
  (try simp only[↓M1,M1,Mb,reduceIte])
  refine ld b.sat (r.lift ⟨b.le⟩) rfl ?_
  refine X3D b.sat (t.lift ⟨b.le⟩) ok d o fun B y g=>?_
  (try simp only[↓M1,M1,Mb,reduceIte])
  exact h _ _ (b.trans g))
theorem Q9k (u:X2 w σ) (hh:S4 σ hp tv room cs) (A:Tab σ tv l) (ok:Ok l) {k:X0} {o:Value} {i:Nat} (v:k.length≤U0) (O:o.cells= #[o]∧o.oneCell'=true) (n:elem k=[]→i<(Y5 l k).length)
 (h: ∀w' σ',Stp w σ w' σ'→K (S (Xe l k i)) w'):Q1 P F.az [hp, .agg [S k,o].toArray,I i] w K:=Q0Y (by
 unfold Ek
 refine Z0 u fun q w1 σ1 d s=>?_
 (try simp only[↓M1,M1,Mb,reduceIte])
 refine X7 d.sat s rfl ?_
 refine Q5g k (Nat.le_trans v (by decide)) fun H r=>?_
 have c:=Stp.of_below d.sat r
 have b:=d.trans c
 refine Vy ?_
 unfold Xe at h
 by_cases e:elem k=[]
 ·simp only[if_pos e] at h
  rw[decide_eq_true e]
  (try simp only[↓M1,M1,Mb,reduceIte])
  obtain ⟨a,Q,rfl,y,J⟩:=hh
  have p:=c.sat
  have B:=s.up c
  have C:=y.lift ⟨b.le⟩
  refine U2 p ?_
  (repeat refine J6 Qt ?_)
  (intros;(repeat (rename_i z;subst z));(try simp only[↓M2,M2,Mb,reduceIte]))
  rename_i L f
  have j:=b.trans f.stp
  refine Gt f.sat (A.lift ⟨j.le⟩) ok.acy ok.len ok.sm fun E N M m g=>?_
  refine Y3 g (n e) ?_
  obtain ⟨D,_⟩:=g.elF (n e)
  (try simp only[↓M1,M1,Mb,reduceIte])
  refine ld m.sat D rfl ?_
  have t:(Y5 l k).getD i Fld.zero=(Y5 l k)[i]'(n e):=by rw[List.getD_eq_getElem?_getD,List.getElem?_eq_getElem (n e)];rfl
  rw[t] at h
  exact h _ _ (j.trans m)
 ·simp only[if_neg e] at h
  rw[decide_eq_false e]
  (try simp only[↓M1,M1,Mb,reduceIte])
  exact h _ _ b)
set_option maxHeartbeats 1000000 in
theorem Q3R {w1:World} {q:Addr} {c:Cel} {vv:Value} (hk1:Stp w σ w1 σ') (hg:Glb σ) (hh:S4 σ hp tv room cs) (ht:Tab σ tv l) (ok:Ok l) (hq:Z4 σ' q [S c.kind,vv]) (hv1:Sl 4 O3 σ' vv c.vals) (hkl:c.kind.length≤U0) (hfk: ∀i,(Xe l c.kind i).length≤U0) (good:GoodC W5 l cs c) (h: ∀w' σ',Stp w σ w' σ'→K (.bool true) w'):
 lp (α:=Value) (.int .i64 0) w1 fun again6 x6 d_ w=>
  Q3 P .lss T.e (.tmp 38) (.tmp 37) x6 (I c.vals.length) w fun t39 w=>
  X1 t39 (
   indexAddr P T.l vv x6 w fun t41 w=>
   Q2 P T.f t41 w fun t42 w=>
   W0 P T.f w fun v_v_6 w=>
   Y0 P T.f v_v_6 t42 w fun _u w=>
   dr w fun Tr Br=>
   Q6 Tr (fun φ44=> ∀w,Br w→Q2 P T.f v_v_6 w (dk Tr φ44 w)) fun φ44=>
   Q6 Tr (fun φ46=> ∀w,Br w→Q2 P T.o (.pointer (some q)) w (dk Tr φ46 w)) fun φ46=>
   Q6 Tr (fun φ48=> ∀t46 w,Br w→φ46 t46 w→Q1 P F.az [hp,t46,x6] w (dk Tr φ48 w)) fun φ48=>
   ∀t44 t46 t48 w,Br w→φ44 t44 w→φ46 t46 w→φ48 t48 w→
   Q1 P F.ay [hp,t44,t48] w fun t49 w=>
   J7 P .not t49 w fun t50 w=>
   X1 t50 (
    K (.bool false) w) (
    Q3 P .add T.e (.tmp 38) (.const (.int .i64 1)) x6 (.int .i64 1) w fun t51 w=>
    again6 t51 w)) (
   dr w fun Tr Br=>
   Q6 Tr (fun φ53=> ∀w,Br w→nilCheck P hp w (dk Tr φ53 w)) fun φ53=>
   Q6 Tr (fun φ54=> ∀t53 w,Br w→φ53 t53 w→fieldAddr P T.p t53 0 w (dk Tr φ54 w)) fun φ54=>
   Q6 Tr (fun φ56=> ∀w,Br w→fieldAddr P T.o (.pointer (some q)) 0 w (dk Tr φ56 w)) fun φ56=>
   Q6 Tr (fun φ55=> ∀t54 w,Br w→φ54 t54 w→Q2 P T.r t54 w (dk Tr φ55 w)) fun φ55=>
   Q6 Tr (fun φ57=> ∀t56 w,Br w→φ56 t56 w→Q2 P T.c t56 w (dk Tr φ57 w)) fun φ57=>
   ∀t53 t54 t56 t55 t57 w,Br w→φ53 t53 w→φ54 t54 w→φ56 t56 w→φ55 t55 w→φ57 t57 w→
   Q1 P F.s [t55,t57] w fun t58 w=>
   K t58 w):=by
 have hone:vv.cells= #[vv]∧vv.oneCell'=true:=by obtain ⟨a,c,rfl,_⟩:=hv1;exact ⟨rfl,rfl⟩
 refine U1 c.vals.length (fun n w'=> ∃σ2,Stp w σ w' σ2∧SLe σ' σ2) ⟨σ',hk1,SLe.refl _⟩ fun n w2 d hn hinv=>?_
 obtain ⟨σ2,hS2,le2⟩:=hinv
 have hv2:=hv1.lift le2
 have hq2:=hq.lift le2
 have hh2:=hh.lift ⟨hS2.le⟩
 have ht2:=ht.lift ⟨hS2.le⟩
 refine Z2 ?_
 refine Q7 (fun hc=>?_) (fun hc=>?_)
 ·have hn':n<c.vals.length:=by simpa using hc
  obtain ⟨p1,r1⟩:=Sl.elV hv2 hn'
  refine Y3 hv2 hn' ?_
  refine Y4 hS2.sat p1 rfl ?_
  refine Y9 hS2.sat (by rfl) rfl (Rep.one r1) fun q3 w3 σ3 hk3 hq3=>?_
  have hS3:=hS2.trans hk3
  have hs3:=hk3.sat
  have hq23:=hq2.up hk3
  have hh3:=hh2.lift ⟨hk3.le⟩
  have ht3:=ht2.lift ⟨hk3.le⟩
  have hif:elem c.kind=[]→n<(Y5 l c.kind).length:=fun e=>by
   rcases good.is with h | h
   ·exact absurd e h
   ·rw[←h.2];exact hn'
  refine U2 hs3 ?_
  (repeat (apply J6;(· intros;(repeat (rename_i hx;subst hx));(repeat' (first | (with_reducible exact E1 rfl) | (with_reducible exact B2 (Stp.bel (by (repeat (first | exact Stp.refl (by (first | assumption | exact Stp.sat (by assumption) | exact Hst.sat (by assumption))) | assumption | refine Stp.trans ?_ (by first | assumption | exact Hst.stp (by assumption)))))) rfl) | (with_reducible intro _) | (simp only[↓M2,M2,Mb,reduceIte]) | (with_reducible show Q2 _ _ _ _ _;first | refine X7 aS aL aR ?_ | refine Y4 aS aL aR ?_ | refine ld aS aL aR ?_) | (with_reducible show indexAddr _ _ _ _ _ _;refine Y3 aL au ?_) | (with_reducible show X3 _ _ _ _ _ _ _ _;refine Q8 aL ?_) | (with_reducible show G1 _ _ _ _ _ _;refine J4 aR ?_) | (with_reducible show pick _ _ _ _ _ _;refine O5 ?_) | (with_reducible show Q1 _ _ _ _ _;first | refine Q9k au au au au au au au ?_) | (apply K1;intro hh;(try simp only[hh,reduceIte,↓M2,M2,Mb,reduceIte]))));done)))
  (intros;(repeat (rename_i hx;subst hx));(try simp only[↓M2,M2,Mb,reduceIte]))
  rename_i w4 hb4
  have hS4:=hS3.trans hb4.stp
  refine Q9e hb4.sat (hg.lift ⟨hS4.le⟩) (hh.lift ⟨hS4.le⟩) (ht.lift ⟨hS4.le⟩) ok r1.2.2.2.1 (hfk n) fun w5 σ5 hk5=>?_
  rw[good.fits n hn']
  (try simp only[↓M1,M1,Mb,reduceIte])
  exact Y6 hv1.max hn' ⟨σ5,hS4.trans hk5,le2.more ⟨(hk3.trans (hb4.stp.trans hk5)).le⟩⟩
 ·obtain ⟨a,lv,rfl,la,ls⟩:=hh2
  have hs2:=hS2.sat
  refine U2 hs2 ?_
  (repeat refine J6 Qt ?_)
  (intros;(repeat (rename_i hx;subst hx));(try simp only[↓M2,M2,Mb,reduceIte]))
  rename_i w3 hb3
  refine Q0U hb3.sat ht2 hkl fun w4 σ4 hk4=>?_
  rw[good.kd]
  exact h _ _ ((hS2.trans hb3.stp).trans hk4)
set_option maxHeartbeats 1000000 in
theorem X0x (hs:X2 w σ) (hg:Glb σ) (hh:S4 σ hp tv room cs) (ht:Tab σ tv l) (ok:Ok l) {c:Cel} {ds:List Value} (hc:R5 σ c ds) (hfk: ∀i,(Xe l c.kind i).length≤U0) (good:GoodC W5 l cs c) (h: ∀w' σ',Stp w σ w' σ'→K (.bool true) w'):Q1 P F.bC [hp, .agg ds.toArray] w K:=Ty (by
 obtain ⟨vv,rfl,hvv,hkl⟩:=hc
 have hone:vv.cells= #[vv]∧vv.oneCell'=true:=by obtain ⟨a,c,rfl,_⟩:=hvv;exact ⟨rfl,rfl⟩
 have hh0:=hh
 obtain ⟨a,lv,rfl,la,ls⟩:=hh
 unfold Og
 refine Z0 hs fun q w1 σ1 hk1 hq=>?_
 have hs1:=hk1.sat
 have la1:=la.lift ⟨hk1.le⟩
 have ht1:=ht.lift ⟨hk1.le⟩
 have hv1:=hvv.up hk1
 have hkl':c.kind.length≤140737488355328:=Nat.le_trans hkl (by decide)
 have acy:=ok.acy
 have olen:=ok.len
 have osm:=ok.sm
 refine U2 hs1 ?_
 (repeat (apply J6;(· intros;(repeat (rename_i hx;subst hx));(repeat' (first | (with_reducible exact E1 rfl) | (with_reducible exact B2 (Stp.bel (by (repeat (first | exact Stp.refl (by (first | assumption | exact Stp.sat (by assumption) | exact Hst.sat (by assumption))) | assumption | refine Stp.trans ?_ (by first | assumption | exact Hst.stp (by assumption)))))) rfl) | (with_reducible intro _) | (simp only[↓M2,M2,Mb,reduceIte]) | (with_reducible show Q2 _ _ _ _ _;first | refine X7 aS aL aR ?_ | refine Y4 aS aL aR ?_ | refine ld aS aL aR ?_) | (with_reducible show indexAddr _ _ _ _ _ _;refine Y3 aL au ?_) | (with_reducible show X3 _ _ _ _ _ _ _ _;refine Q8 aL ?_) | (with_reducible show G1 _ _ _ _ _ _;refine J4 aR ?_) | (with_reducible show pick _ _ _ _ _ _;refine O5 ?_) | (with_reducible show Q1 _ _ _ _ _;first | refine Q5g _ au (L1 aS ?_)) | (apply K1;intro hh;(try simp only[hh,reduceIte,↓M2,M2,Mb,reduceIte]))));done)))
 by_cases e:elem c.kind=[]
 ·have hd:decide (elem c.kind=[])=true:=decide_eq_true e
  obtain ⟨hobj,hlen⟩:T7 l c.kind=true∧c.vals.length=(Y5 l c.kind).length:=by
   rcases good.is with h | h
   ·exact absurd e h
   ·exact h
  simp only[hd,reduceIte]
  (repeat (apply J6;(· intros;(repeat (rename_i hx;subst hx));(repeat' (first | (with_reducible exact E1 rfl) | (with_reducible exact B2 (Stp.bel (by (repeat (first | exact Stp.refl (by (first | assumption | exact Stp.sat (by assumption) | exact Hst.sat (by assumption))) | assumption | refine Stp.trans ?_ (by first | assumption | exact Hst.stp (by assumption)))))) rfl) | (with_reducible intro _) | (simp only[↓M2,M2,Mb,reduceIte]) | (with_reducible show Q2 _ _ _ _ _;first | refine X7 aS aL aR ?_ | refine Y4 aS aL aR ?_ | refine ld aS aL aR ?_) | (with_reducible show indexAddr _ _ _ _ _ _;refine Y3 aL au ?_) | (with_reducible show X3 _ _ _ _ _ _ _ _;refine Q8 aL ?_) | (with_reducible show G1 _ _ _ _ _ _;refine J4 aR ?_) | (with_reducible show pick _ _ _ _ _ _;refine O5 ?_) | (with_reducible show Q1 _ _ _ _ _;first | refine Q4k au au ?_) | (apply K1;intro hh;(try simp only[hh,reduceIte,↓M2,M2,Mb,reduceIte]))));done)))
  simp only[hobj,Bool.not_true,reduceIte]
  (repeat refine J6 Qt ?_)
  refine Wb (w:=w1) (σ:=σ1) (Φ:=fun σ' v=>Sl 3 R3 σ' v (Y5 l c.kind)) (fun t20 t27 t29 w hb e1 e2 e3=>?_) ?_
  ·subst e1;subst e2;subst e3
   simp only[↓M2,M2,Mb,reduceIte]
   exact Gt hb.sat ht1 acy olen osm fun v' w' σ' hk hv'=>Rm hb hk hv'
  refine J6 (V:=I (Y5 l c.kind).length) (fun t20 t30 w hb e1 e2=>?_) ?_
  ·subst e1
   obtain ⟨σ',hk,hv'⟩:=e2
   simp only[↓M2,M2,Mb,reduceIte]
   exact Q8 hv' (E1 rfl)
  rintro t7 t8 t9 t10 t12 t13 t14 t16 t15 t17 t18 t19 t20 t21 t24 t25 t26 t28 t22 t23 t27 t29 t30 t31 w2 hb2 rfl rfl rfl rfl rfl rfl rfl rfl rfl rfl rfl rfl rfl rfl rfl rfl rfl rfl rfl rfl rfl rfl _ rfl
  rw[hlen]
  simp only[O7,E0,R6,W2,W6]
  refine Zz ?_
  rw[decide_eq_true (show ((Y5 l c.kind).length:Int)=(Y5 l c.kind).length from rfl)]
  simp only[Bool.not_true,W8,M4,M5]
  refine W4 ?_
  refine ld hb2.sat hq rfl ?_
  refine Q8 hv1 ?_
  exact Q3R (hk1.trans hb2.stp) hg hh0 ht ok hq hv1 hkl hfk good h
 ·have hd:decide (elem c.kind=[])=false:=decide_eq_false e
  simp only[hd,Bool.false_eq_true,reduceIte]
  (repeat refine J6 Qt ?_)
  (intros;(repeat (rename_i hx;subst hx)))
  rename_i w2 hb2
  simp only[O7,E0,R6,W2,W6,W8,M4,M5]
  refine W4 ?_
  refine ld hb2.sat hq rfl ?_
  refine Q8 hv1 ?_
  exact Q3R (hk1.trans hb2.stp) hg hh0 ht ok hq hv1 hkl hfk good h)
end Go.Proofs.YtjdiakhipmggjaaGreatDoor

namespace Go.Emb
open Go.RowKit Go.Hm
variable {P : Program} {w w0 w1 w' w'' : World} {K : Value → World → Prop} {σ σ0 σ1 σ' : Q5}
theorem Q4A (a:Array Value) (n i:Nat) (c:i<n) (f:0<a.size):((madeCells a (n*a.size)).toList.drop (i*a.size)).take a.size=a.toList:=by
 have e:i*a.size+a.size≤n*a.size:=by rw[←Nat.succ_mul];exact Nat.mul_le_mul_right _ c
 refine List.ext_getElem (by simp[madeCells];omega) fun j g d=>?_
 have b:j<a.size:=by simpa using d
 simp only[List.getElem_take,List.getElem_drop,madeCells,Array.toList_map,List.getElem_map,Array.toList_range,List.getElem_range,Array.getElem_toList]
 have:(i*a.size+j) % a.size=j:=by rw[Nat.add_comm,Nat.add_mul_mod_self_right];exact Nat.mod_eq_of_lt b
 rw[this]
 simp[b]
theorem X2X {α:Type} {R:Q5→α→List Value→Prop} {t e:TypeId} {sz a n:Nat} {z:Value} [ts:TS P t e] [tz:TZ P e sz a z] (x0:α) (r:X2 w σ) (B:z.cells.size=sz) (c:0<sz) (y:R σ x0 z.cells.toList) (C:n*sz≤16777216) (D:a*n≤281474976710656)
 (h: ∀v w',Stp w σ w' σ→V5 w.heap.size e sz R σ w' v (List.replicate n x0)→(∀k,v.ownBlock=some k→w.heap.size≤k)→K v w'):Dk P t (I n) (I n) w K:=by
 obtain ⟨i,A,d,g,b⟩:=tz.info
 have p:(i.bytes:Int)*(n:Int)≤281474976710656:=by
  rw[g]
  have:((a*n:Nat):Int)≤281474976710656:=by omega
  rwa [Int.natCast_mul] at this
 have u:n≤16777216:=by
  have:n*1≤n*sz:=Nat.mul_le_mul_left _ c
  omega
 have o:=run_makeSlice (P:=P) w t e i z ts.h A b .i64 .i64 (n:Int) (n:Int) (by omega) (Int.le_refl _) (by rw[d];simp only[Int.toNat_natCast];omega) p (by omega)
 unfold Dk
 rw[X9 o]
 simp only[Int.toNat_natCast,d]
 refine h _ _ (Stp.own r _) ⟨(madeCells z.cells (n*sz)).toList,⟨by simp[madeCells], .inr ⟨w.heap.size,n,madeCells z.cells (n*sz),?_,Nat.le_refl _,heap_alloc_new w _,?_,?_,?_,?_⟩⟩,?_,fun j x f=>?_⟩ ?_
 ·simp
 ·simp
 ·simp[maxLen];omega
 ·simp[madeCells]
 ·rw[List.take_of_length_le (by simp[madeCells])]
 ·intro k m;cases m;exact r.none (Nat.le_refl _)
 ·have s:j<n:=by have:=(List.getElem?_eq_some_iff.1 f).1;simpa using this
  have q:x=x0:=by
   rw[List.getElem?_replicate] at f
   rw[if_pos s] at f
   exact (Option.some.inj f).symm
  subst q
  subst B
  rw[Q4A z.cells n j s c]
  exact y
 ·intro k m;cases m;exact Nat.le_refl _
end Go.Emb
namespace Go.Proofs.YtjdiakhipmggjaaGreatDoor
open Go.Emb Go.RowKit Go.Kd Go.Hm
variable {w w' : World} {K : Value → World → Prop} {σ σ' : Q5} {hp tv : Value} {room : Int} {cs : List Cel} {l : List Cla}
theorem Q2f (ok:Ok l) {k:X0} (d:k.length≤U0) (i:Nat):(Xe l k i).length≤U0:=by
 unfold Xe
 split
 ·cases h:(Y5 l k)[i]? with
  | none=>rw[List.getD_eq_getElem?_getD,h];exact Nat.zero_le _
  | some f=>
   rw[List.getD_eq_getElem?_getD,h]
   have a:=List.mem_of_getElem? h
   unfold Y5 at a
   obtain ⟨c,b,a⟩:=List.mem_flatMap.1 a
   have:=((ok.nm c (Ct (by simpa using b))).2.1 f a).2
   exact Nat.le_trans this (by decide)
 ·unfold elem
  split
  ·unfold Kd.cutA;rw[List.length_take];omega
  ·exact Nat.zero_le _
theorem X1T (z:X2 w σ) (t:Glb σ) (hh:S4 σ hp tv room cs) (C:Tab σ tv l) (ok:Ok l) (g: ∀c∈cs,GoodC W5 l cs c) (h: ∀w' σ',Stp w σ w' σ'→K (.bool true) w'):Q1 P F.bz [hp] w K:=Av (by
 unfold Oc
 have m:=hh
 obtain ⟨a,M,rfl,A,y⟩:=hh
 refine U5 z rfl fun q w1 σ1 b s=>?_
 refine X7 b.sat s rfl ?_
 rw[M3,fa]
 refine ld b.sat (A.lift ⟨b.le⟩) rfl ?_
 rw[A9]
 refine Cc (fun _=>false) b.sat (y.up b) (fun c ds v K D j r f B=>Z6 (first:=[]) (caps:=[.pointer (some q)]) (Fv ?_)) fun v o=>?_
 ·unfold Ld
  refine Z0 j fun E H u d n=>?_
  refine X7 d.sat (s.up d) rfl ?_
  refine Y4 d.sat n f ?_
  have e:SLe σ u:=SLe.more ⟨b.le⟩ ⟨d.le⟩
  refine X0x d.sat (t.lift e) (m.lift e) (C.lift e) ok (Q8R r ⟨d.le⟩) (fun i=>Q2f ok (by obtain ⟨_,_,_,h⟩:=r;exact h) i) (g c D) fun L J p=>?_
  refine Wd ?_
  exact B _ (d.trans p).bel
 ·have k:=b.trans (Stp.of_below b.sat o)
  have:cs.any (fun _=>false)=false:=by simp
  rw[this]
  refine Wd ?_
  exact h _ _ k)
theorem X2S {B:Nat} {D:Nat→Prop} {m v:Value} {vals:List Val} {k:X0} {ty:TypeId} {cb:List Bool} {A:Value→Value→World→Prop} (hs:X2 w σ) (hB:B≤w.heap.size) (h:RowsIs B D σ w m cs) (X:J8 B T.f 4 O3 σ w v vals) (hd: ∀j,v.ownBlock=some j→ ¬D j) (hk:k.length≤U0) (hl:cs.length≤10000000)
 (hh: ∀s d w' σ' O,Nxt (fun j=>m.ownBlock=some j) w σ w' σ'→(∀j,m.ownBlock=some j→D j)→RowsIs B O σ' w' d (cs++[⟨k,vals⟩])→(∀j,O j→D j∨v.ownBlock=some j∨w.heap.size≤j)→(∀j,D j→m.ownBlock≠some j→O j)→A s d w'):
 buildSlice P T.g 1 [(0, .agg #[S k,v])] w (fun s w=>X3 P .append [T.g,T.g] ty cb [m,s] w (fun v' w=>A s v' w)):=by
 obtain ⟨vs,hq,n,ha,hD⟩:=h.ex
 obtain ⟨a,L,E,_⟩:=(id X:J8 B T.f 4 O3 σ w v vals)
 have an:v.cells= #[v]:=by rw[E];rfl
 refine P6 (R:=Q3n) (sz:=2) hs [.agg #[S k,v]] [(k,v)] rfl rfl (by simp[Value.cells]) rfl ⟨(⟨rfl,hk,a,_,L,E⟩:Q3n σ (k,v) [S k,v]),trivial⟩ fun s w1 σ1 c W=>?_
 refine Q8i c.sat (Nat.le_trans hB c.bel.size) (hq.up c) W rfl (by rw[Df n.1];simp;omega) (by rw[Df n.1];simp;omega) fun d H J M aa Z=>?_
 have g: ∀j,m.ownBlock=some j→D j:=fun j b=>(hD j).2 ⟨m,by simp,b⟩
 have N:Nxt (fun j=>m.ownBlock=some j) w σ H σ1:=
  ⟨(Kpt.of_below c.bel).trans (J.mono fun j _ b=>b.1),⟨c.le⟩,c.old,M⟩
 have z: ∀j,v.ownBlock=some j→m.ownBlock≠some j:=fun j b e=>hd j b (g j e)
 have f: ∀j,d.ownBlock=some j→m.ownBlock=some j∨w1.heap.size≤j:=fun j b=>by
  rcases Z with ⟨a',ad,e1,e2⟩ | ⟨_,hn⟩
  ·left;rw[e1];rw[e2] at b;cases a'<;>exact b
  ·exact .inr (hn j b)
 obtain ⟨C,V⟩:=List.pairwise_cons.1 ha
 have t: ∀i (p:i<vs.length) (r:i<cs.length),J8 B T.f 4 O3 σ1 H vs[i] cs[i].vals:=fun i p r=>(n.2 i p r).nx N fun j b e=>C _ (List.getElem_mem p) j e b
 have Q:J8 B T.f 4 O3 σ1 H v vals:=X.nx N fun j b e=>z j b e
 have U: ∀u∈vs,∀j,u.ownBlock=some j→j<w.heap.size:=fun u hu j b=>by
  obtain ⟨i,p,rfl⟩:=List.getElem_of_mem hu
  exact ((n.2 i p (by rw[←n.1];exact p)).mem b).2.1
 refine hh s d H σ1 (fun j=> ∃u∈d::(vs++[v]),u.ownBlock=some j) N g ⟨vs++[v],?_,⟨by simp[n.1],fun i p r=>?_⟩,?_,fun j=>Iff.rfl⟩ ?_ ?_
 ·have e:Qq (vs++[v]) (cs++[⟨k,vals⟩])=Qq vs cs++[(k,v)]:=by
   unfold Qq
   rw[List.zipWith_append n.1];rfl
  rw[e];exact aa
 ·by_cases o:i<vs.length
  ·have q:i<cs.length:=by rw[←n.1];exact o
   rw[List.getElem_append_left o,List.getElem_append_left q]
   exact t i o q
  ·have q: ¬i<cs.length:=by rw[←n.1];exact o
   have e1:i=vs.length:=by simp at p;omega
   rw[List.getElem_append_right (by omega),List.getElem_append_right (by omega)]
   simp only[List.getElem_singleton]
   exact Q
 ·refine List.pairwise_cons.2 ⟨fun u hu j b e=>?_,List.pairwise_append.2 ⟨V,List.pairwise_singleton _ _,fun u hu u2 y j b e=>?_⟩⟩
  ·rcases List.mem_append.1 hu with hu | hu
   ·rcases f j b with h1 | h1
    ·exact C u hu j h1 e
    ·have:=U u hu j e;have:=c.bel.size;omega
   ·simp at hu;subst hu
    rcases f j b with h1 | h1
    ·exact z j e h1
    ·have:=(X.mem e).2.1;have:=c.bel.size;omega
  ·simp at y;subst y
   exact hd j e ((hD j).2 ⟨u,by simp[hu],b⟩)
 ·rintro j ⟨u,hu,b⟩
  rcases List.mem_cons.1 hu with rfl | hu
  ·rcases f j b with h1 | h1
   ·exact .inl (g j h1)
   ·right;right;have:=c.bel.size;omega
  ·rcases List.mem_append.1 hu with hu | hu
   ·exact .inl ((hD j).2 ⟨u,by simp[hu],b⟩)
   ·simp at hu;subst hu;exact .inr (.inl b)
 ·intro j b Y
  obtain ⟨u,hu,b⟩:=(hD j).1 b
  rcases List.mem_cons.1 hu with rfl | hu
  ·exact absurd b Y
  ·exact ⟨u,by simp[hu],b⟩
end Go.Proofs.YtjdiakhipmggjaaGreatDoor

namespace Go.Proofs.YtjdiakhipmggjaaGreatDoor
open Go.Emb Go.RowKit Go.Kd Go.Hm
variable {w : World} {K : Value → World → Prop} {σ : Q5}
end Go.Proofs.YtjdiakhipmggjaaGreatDoor

namespace Go.Proofs.YtjdiakhipmggjaaGreatDoor
open Go.Emb Go.RowKit Go.Kd Go.Hm
variable {w : World} {K : Value → World → Prop} {σ : Q5} {l : List Cla} {v : Value}
theorem I0 {n:X0} (t:X2 w σ) (o:Sl 8 V0 σ v l) (h:K (I (L5 (Z1 l n))) w):Q1 P F.b [v,S n] w K:=Ad (by
 unfold Da
 refine U1 l.length (fun k w'=>w'=w∧ ∀j (g:j<l.length),j<k→ ¬l[j].name=n) ⟨rfl,fun j _ h=>by omega⟩ fun k w1 d A s=>?_
 obtain ⟨rfl,f⟩:=s
 refine Q8 o ?_
 refine Z2 ?_
 refine Q7 (fun i=>?_) (fun i=>?_)
 ·have a:k<l.length:=by simpa using i
  refine M9 o a fun p cells m u r=>?_
  obtain ⟨H,B,mv,rfl,E,y,z,D,C⟩:=r
  rw[fa]
  refine ld t m rfl ?_
  refine K6 ?_
  refine Q7 (fun b=>?_) (fun b=>?_)
  ·have b:l[k].name=n:=by simpa using b
   have:Z1 l n=some k:=by
    unfold Z1
    rw[List.findIdx?_eq_some_iff_getElem]
    exact ⟨a,by simpa using b,fun j g=>by simpa using f j (by omega) g⟩
   rw[this] at h
   exact h
  ·have b: ¬l[k].name=n:=by simpa using b
   refine L8 ?_
   refine Y6 o.max a ⟨rfl,fun j g q=>?_⟩
   by_cases e:j=k
   ·subst e;exact b
   ·exact f j g (by omega)
 ·have a: ¬k<l.length:=by simpa using i
  have:Z1 l n=none:=by
   unfold Z1
   rw[List.findIdx?_eq_none_iff]
   intro c i
   obtain ⟨j,g,rfl⟩:=List.getElem_of_mem i
   simpa using f j g (by omega)
  rw[this] at h
  exact h)
end Go.Proofs.YtjdiakhipmggjaaGreatDoor

namespace Go.Proofs.YtjdiakhipmggjaaGreatDoor
open Go.Emb Go.RowKit Go.Kd Go.Hm
variable {w : World} {K : Value → World → Prop} {σ : Q5} {l : List Cla} {v : Value}
theorem Q5T {a:X0} (c:a.length≤U0) (h:K (S (base a).1) w):Q1 P F.aU [S a] w K:=Am (by
 unfold Ou
 have d:=Q1n a
 have b:a.length≤140737488355328:=by simp only[U0] at c;omega
 rw[R1 X8]
 refine Sd a b ?_
 (try simp only[↓Mr,Mr,Mb,reduceIte])
 rw[S7 (n:=2*((base a).2:Int)) (by omega) (by omega),S7 (by omega) (by omega),P8 X8 (by omega) (by omega)]
 rw[show ((a.length:Int)-2*((base a).2:Int)).toNat=a.length-2*(base a).2 from by omega,Q4g]
 exact h)
theorem Dj {s:X0} (g:X2 w σ) (f:Sl 8 V0 σ v l) (c:s.length≤U0) (h:K (.bool (N0 l s)) w):Q1 P F.a1 [v,S s] w K:=Ah (by
 unfold Od
 have b:s.length≤140737488355328:=by simp only[U0] at c;omega
 unfold N0 at h
 refine K6 ?_
 by_cases a:s=H6
 ·have:decide (s=[110,117,108,108])=true:=by rw[decide_eq_true_eq];exact a
  simp only[this,↓M1,M1,Mb,reduceIte]
  simp only[a,decide_true,Bool.true_or] at h
  exact h
 ·have:decide (s=[110,117,108,108])=false:=by rw[decide_eq_false_iff_not];exact a
  simp only[this,↓M1,M1,Mb,reduceIte]
  simp only[a,decide_false,Bool.false_or] at h
  refine Jz s b ?_
  cases d:right s with
  | false=>(try simp only[↓M1,M1,Mb,reduceIte]);simpa [d] using h
  | true=>
   (try simp only[↓M1,M1,Mb,reduceIte])
   refine Q5T c ?_
   (try simp only[↓M1,M1,Mb,reduceIte])
   refine Eu _ ?_
   simp only[d,Bool.true_and] at h
   cases e:plain (base s).1 with
   | true=>(try simp only[↓M1,M1,Mb,reduceIte]);simpa [e] using h
   | false=>
    (try simp only[↓M1,M1,Mb,reduceIte])
    refine Q5T c ?_
    (try simp only[↓M1,M1,Mb,reduceIte])
    refine I0 g f ?_
    refine P0 ?_
    rw[T2]
    (try simp only[↓M1,M1,Mb,reduceIte])
    simpa [e,Q0Q] using h)
end Go.Proofs.YtjdiakhipmggjaaGreatDoor

namespace Go.Proofs.YtjdiakhipmggjaaGreatDoor
open Go.Emb Go.RowKit Go.Kd Go.Hm
variable {w : World} {K : Value → World → Prop} {σ : Q5} {l : List Cla} {v : Value}
theorem Q9q {s:X0} (d:X2 w σ) (c:Sl 8 V0 σ v l) (b:s.length≤U0) (h:K (.bool (O6 l s)) w):Q1 P F.bs [v,S s] w K:=Gu (by
 unfold Np
 unfold O6 at h
 refine Vy ?_
 have e:decide (s=[110,117,108,108])=decide (s=H6):=rfl
 rw[e]
 cases a:decide (s=H6) with
 | true=>
  rw[a] at h
  (try simp only[↓M1,M1,Mb,reduceIte])
  exact h
 | false=>
  rw[a] at h
  (try simp only[↓M1,M1,Mb,reduceIte])
  refine Dj d c b ?_
  (try simp only[↓M1,M1,Mb,reduceIte])
  simpa using h)
end Go.Proofs.YtjdiakhipmggjaaGreatDoor

namespace Go.Proofs.YtjdiakhipmggjaaGreatDoor
open Go.Emb Go.RowKit Go.Kd Go.Hm
variable {w : World} {K : Value → World → Prop} {σ : Q5} {l : List Cla} {v : Value}
def Ri (c:Cla) (n:X0):Option Nat:=c.methods.findIdx? fun m=>decide (m.name=n)
theorem Q77 {c:Cla} {cs:List Value} {n:X0} (A:X2 w σ) (r:V0 σ c cs) (h: ∀w' D,Stp w σ w' D→K (I (L5 (Ri c n))) w'):Q1 P F.b1 [.agg cs.toArray,S n] w K:=Q0S (by
 unfold Eh
 obtain ⟨X,O,mv,rfl,Y,E,o,V,R⟩:=r
 refine Z0 A fun q w0 σ0 a t=>?_
 have o:=o.up a
 refine U1 c.methods.length (fun k w'=>w'=w0∧ ∀j (i:j<c.methods.length),j<k→ ¬c.methods[j].name=n) ⟨rfl,fun j _ h=>by omega⟩ fun k w1 d N z=>?_
 obtain ⟨rfl,g⟩:=z
 rw[fa]
 refine ld a.sat t rfl ?_
 refine Q8 o ?_
 refine Z2 ?_
 refine Q7 (fun r=>?_) (fun r=>?_)
 ·have b:k<c.methods.length:=by simpa using r
  rw[fa]
  refine ld a.sat t rfl ?_
  refine M9 o b fun p cells s B y=>?_
  obtain ⟨pv,Q,U,rfl,H,J,M,L,W⟩:=y
  rw[fa]
  refine ld a.sat s rfl ?_
  refine K6 ?_
  refine Q7 (fun f=>?_) (fun f=>?_)
  ·have f:c.methods[k].name=n:=by simpa using f
   have:Ri c n=some k:=by
    unfold Ri
    rw[List.findIdx?_eq_some_iff_getElem]
    exact ⟨b,by simpa using f,fun j i=>by simpa using g j (by omega) i⟩
   rw[this] at h
   exact h _ _ a
  ·have f: ¬c.methods[k].name=n:=by simpa using f
   refine L8 ?_
   refine Y6 o.max b ⟨rfl,fun j i u=>?_⟩
   by_cases e:j=k
   ·subst e;exact f
   ·exact g j i (by omega)
 ·have b: ¬k<c.methods.length:=by simpa using r
  have:Ri c n=none:=by
   unfold Ri
   rw[List.findIdx?_eq_none_iff]
   intro m C
   obtain ⟨j,i,rfl⟩:=List.getElem_of_mem C
   simpa using g j i (by omega)
  rw[this] at h
  exact h _ _ a)
end Go.Proofs.YtjdiakhipmggjaaGreatDoor

namespace Go.Proofs.YtjdiakhipmggjaaGreatDoor
open Go.Emb Go.RowKit Go.Kd Go.Hm
variable {w : World} {K : Value → World → Prop} {σ : Q5} {l : List Cla} {v : Value}
theorem Cp {n:X0} {d:Cla} (f:X2 w σ) (c:Sl 8 V0 σ v l) (e:lk l n=some d) (h: ∀i:Nat,l[i]? =some d→Z1 l n=some i→K (I i) w):Q1 P F.b [v,S n] w K:=by
 obtain ⟨_,_,i,a,b⟩:=V3 e
 refine I0 f c ?_
 rw[a];exact h i b a
theorem Q13 {n:X0} (f:X2 w σ) (e:Sl 8 V0 σ v l) (d:lk l n=none) (h:K (I (-1)) w):Q1 P F.b [v,S n] w K:=by
 refine I0 f e ?_
 cases b:Z1 l n with
 | none=>exact h
 | some i=>obtain ⟨c,a,_⟩:=Zd b;rw[d] at a;cases a
end Go.Proofs.YtjdiakhipmggjaaGreatDoor

namespace Go.Proofs.YtjdiakhipmggjaaGreatDoor
open Go.Emb Go.RowKit Go.Kd Go.Hm
variable {w : World} {K : Value → World → Prop} {σ : Q5} {l : List Cla} {v : Value}
theorem X04:decide ((-1:Int)<0)=true:=by decide
theorem Q5K (i:Nat):decide ((i:Int)<0)=false:=by rw[decide_eq_false_iff_not];omega
theorem Q8j {c:Cla} {cs:List Value} (hs:X2 w σ) (hl:Sl 8 V0 σ v l) (E:V0 σ c cs) (h: ∀w' σ',Stp w σ w' σ'→K (I (O9 l c)) w'):Q1 P F.be [v, .agg cs.toArray] w K:=By (by
 unfold Ws
 obtain ⟨lv,fv,mv,rfl,z,f2,f3,f4,f5⟩:=E
 refine Z0 hs fun q w0 σ0 p Q=>?_
 have z:=z.up p
 have b:=hl.up p
 have a:=p.sat
 have u: ∀n:Nat,O9 l c=n→K (I n) w0:=fun n e=>by rw[←e];exact h _ _ p
 clear h
 (try simp only[↓M1,M1,Mb,reduceIte])
 refine ld a Q rfl ?_
 have m:Qr l c.super=true→K (I (61:Nat)) w0:=fun e=>u 61 (by unfold O9;rw[if_pos e])
 cases L:lk l c.super with
 | none=>
  refine Q13 a b L ?_
  simp only[X04,↓M1,M1,Mb,reduceIte]
  exact m (by unfold Qr;rw[L])
 | some d=>
  refine Cp a b L fun i X hf=>?_
  obtain ⟨s,O⟩:=List.getElem?_eq_some_iff.1 X
  simp only[Q5K,↓M1,M1,Mb,reduceIte]
  refine Y3 b s ?_
  obtain ⟨ac,ag,Y,R,r1⟩:=b.elC s
  rw[O] at R
  (try simp only[↓M1,M1,Mb,reduceIte])
  refine ld a R rfl ?_
  have f:Qr l c.super=(d.iface||d.fin):=by unfold Qr;rw[L]
  cases B:d.iface with
  | true=>
   rw[B] at f
   (try simp only[↓M1,M1,Mb,reduceIte])
   exact m (by rw[f];rfl)
  | false=>
   rw[B] at f
   (try simp only[↓M1,M1,Mb,reduceIte])
   refine Y3 b s ?_
   (try simp only[↓M1,M1,Mb,reduceIte])
   refine ld a R rfl ?_
   cases H:d.fin with
   | true=>
    rw[H] at f
    (try simp only[↓M1,M1,Mb,reduceIte])
    exact m (by rw[f];rfl)
   | false=>
    rw[H] at f
    have D:Qr l c.super=false:=f
    (try simp only[↓M1,M1,Mb,reduceIte])
    refine U1 c.like.length (fun k w'=>w'=w0∧(c.like.take k).any (R0 l)=false) ⟨rfl,rfl⟩ fun k w1 d1 hk N=>?_
    obtain ⟨hw,y⟩:=N
    subst hw
    (try simp only[↓M1,M1,Mb,reduceIte])
    refine ld a Q rfl ?_
    refine Q8 z ?_
    refine Z2 ?_
    refine Q7 (fun E=>?_) (fun E=>?_)
    ·have g:k<c.like.length:=by simpa using E
     have r:R0 l c.like[k]=true→K (I (62:Nat)) w1:=fun e=>u 62 (by
      unfold O9;rw[D,S1 g e];rfl)
     have t:R0 l c.like[k]=false→(c.like.take (k+1)).any (R0 l)=false:=fun e=>by rw[L4 g,y,e];rfl
     (try simp only[↓M1,M1,Mb,reduceIte])
     refine ld a Q rfl ?_
     refine Y3 z g ?_
     obtain ⟨Z,_⟩:=z.elS g
     refine X7 a Z rfl ?_
     cases J:lk l c.like[k] with
     | none=>
      refine Q13 a b J ?_
      simp only[X04,↓M1,M1,Mb,reduceIte]
      exact r (by unfold R0;rw[J])
     | some e=>
      refine Cp a b J fun j hj W=>?_
      obtain ⟨A,M⟩:=List.getElem?_eq_some_iff.1 hj
      simp only[Q5K,↓M1,M1,Mb,reduceIte]
      refine Y3 b A ?_
      obtain ⟨ad,ae,V,U,r3⟩:=b.elC A
      rw[M] at U
      (try simp only[↓M1,M1,Mb,reduceIte])
      refine ld a U rfl ?_
      have o:R0 l c.like[k]= !e.iface:=by unfold R0;rw[J]
      cases C:e.iface with
      | true=>
       rw[C] at o
       (try simp only[↓M1,M1,Mb,reduceIte])
       exact Y6 z.max g ⟨rfl,t o⟩
      | false=>
       rw[C] at o
       (try simp only[↓M1,M1,Mb,reduceIte])
       exact r o
    ·have g: ¬k<c.like.length:=by simpa using E
     rw[D9 g] at y
     exact u 0 (by unfold O9;rw[D,y];rfl))
end Go.Proofs.YtjdiakhipmggjaaGreatDoor

namespace Go.Proofs.YtjdiakhipmggjaaGreatDoor
open Go.Emb Go.RowKit Go.Kd Go.Hm
variable {w : World} {K : Value → World → Prop} {σ : Q5} {l : List Cla} {v : Value}
theorem Q6B {n:X0} (h:lk l n=none):Y5 l n=[]:=by unfold Y5;rw[Ys h];rfl
theorem Q6E (a:Zy l) {n:X0} {c:Cla} (h:lk l n=some c):Y5 l n=Y5 l c.super++c.fields:=by
 unfold Y5
 rw[T4 a,h]
 simp
theorem Q2C (a: ∀c∈l,Qj c) (n:X0):(Y5 l n).length≤(l.length+1)*1000000:=by
 unfold Y5
 have b:=Vu (fun c:Cla=>c.fields) 1000000 (chain l n).reverse fun c e=>(a c (Ct (by simpa using e))).2.1
 have d:=Cs l n
 rw[List.length_reverse] at b
 exact Nat.le_trans b (Nat.mul_le_mul_right _ d)
theorem Q25 {n:X0} (a:lk l n=none) (d:X2 w σ) (e:Sl 8 V0 σ v l) (h: ∀b w' c,Stp w σ w' c→Sl 3 R3 c b (Y5 l n)→K b w'):Q1 P F.p [v,S n] w K:=Li (by
 unfold Xj
 refine Q13 d e a ?_
 simp only[X04,↓M1,M1,Mb,reduceIte]
 exact h _ _ _ (Stp.refl d) (by rw[Q6B a];exact Sl.nil))
theorem Q6k (o:Zy l) (hl:l.length≤1000) (f: ∀c∈l,Qj c): ∀(k:Nat) {n:X0} {w:World} {σ:Q5} {K:Value→World→Prop},(lk l n=none∨K3 l n<k)→X2 w σ→Sl 8 V0 σ v l→
 (∀j w' m,Stp w σ w' m→Sl 3 R3 m j (Y5 l n)→K j w')→Q1 P F.p [v,S n] w K:=by
 intro k
 induction k with
 | zero=>
  intro n w σ K hk g b h
  rcases hk with hk | hk
  ·exact Q25 hk g b h
  ·omega
 | succ k ih=>
  intro n w σ K hk g b h
  cases a:lk l n with
  | none=>exact Q25 a g b h
  | some c=>
   have hk:K3 l n<k+1:=by
    rcases hk with hk | hk
    ·rw[a] at hk;cases hk
    ·exact hk
   refine Li ?_
   unfold Xj
   refine Cp g b a fun i X hf=>?_
   obtain ⟨q,A⟩:=List.getElem?_eq_some_iff.1 X
   simp only[Q5K,↓M1,M1,Mb,reduceIte]
   obtain ⟨lv,fv,mv,p1,O⟩:=b.elC q
   rw[A] at p1 O
   obtain ⟨_,g2,_,_,_⟩:=O.parts
   have E:lk l c.super=none∨K3 l c.super<k:=by
    cases V:lk l c.super with
    | none=>exact .inl rfl
    | some d=>
     have:=Xt o a (u:=c.super) (by simp[U3]) V
     right;omega
   have ae:=Q2C f c.super
   have am:=(f c (V3 a).2.1).2.1
   have N:(l.length+1)*1000000≤1001*1000000:=Nat.mul_le_mul_right _ (by omega)
   refine U2 g ?_
   (repeat refine J6 Qt ?_)
   refine Q2X (R:=R3) (by decide) ?_
   (repeat refine J6 Qt ?_)
   refine Wb (w:=w) (σ:=σ) (Φ:=fun m v=>Sl 3 R3 m v (Y5 l c.super)) (fun t w p e=>?_) ?_
   ·subst e;exact ih E p.sat b fun j w' m hk M=>Rm p hk M
   refine Q1p (w:=w) (σ:=σ) (R:=R3) (sz:=3) (e:=T.n) (Y5 l c.super) (fun z H w p L J=>?_) ?_
   ·obtain ⟨Q,Y,U⟩:=L
    obtain ⟨σ2,W,s2⟩:=J
    exact Q6R Q Y U W.sat s2 (fun _ _ h=>h) rfl (by omega) (by omega) fun j w' hk o=>Q2A p hk o
   (repeat refine J6 Qt ?_)
   rintro ab ag an Z z ad H ah aj w2 ak rfl rfl rfl rfl _ rfl _ ⟨s,y⟩ rfl
   refine Vw s y g2 rfl (by omega) (by omega) fun j w3 al C r _=>?_
   obtain ⟨σ4,D,B,_⟩:=r.keep C
   exact h _ _ _ D (by rw[Q6E o a];exact B)
theorem Kl {n:X0} (g:X2 w σ) (i:Sl 8 V0 σ v l) (e:Zy l) (f:l.length≤1000) (a: ∀c∈l,Qj c) (h: ∀b w' d,Stp w σ w' d→Sl 3 R3 d b (Y5 l n)→K b w'):Q1 P F.p [v,S n] w K:=
 Q6k e f a _ (.inr (Nat.lt_succ_self _)) g i h
theorem Q9L {n f:X0} (C:X2 w σ) (D:Sl 8 V0 σ v l) (y:Zy l) (J:l.length≤1000) (t: ∀c∈l,Qj c) (h: ∀w' L,Stp w σ w' L→K (I (L5 (Jh l n f))) w'):Q1 P F.br [v,S n,S f] w K:=Ku (by
 unfold Mx
 refine Kl C D y J t fun O w1 σ1 r a=>?_
 have s: ∀o,Jh l n f=o→K (I (L5 o)) w1:=fun o e=>by rw[←e];exact h _ _ r
 unfold Jh at s
 generalize Y5 l n=g at a s
 refine U1 g.length (fun k w'=>w'=w1∧ ∀j (q:j<g.length),j<k→ ¬g[j].name=f) ⟨rfl,fun j _ h=>by omega⟩ fun k M d N A=>?_
 obtain ⟨B,p⟩:=A
 subst B
 refine Q8 a ?_
 refine Z2 ?_
 refine Q7 (fun u=>?_) (fun u=>?_)
 ·have b:k<g.length:=by simpa using u
  refine Y3 a b ?_
  obtain ⟨E,_⟩:=a.elF b
  (try simp only[↓M1,M1,Mb,reduceIte])
  refine ld r.sat E rfl ?_
  refine K6 ?_
  refine Q7 (fun i=>?_) (fun i=>?_)
  ·have i:g[k].name=f:=by simpa using i
   exact s (some k) (by
    rw[List.findIdx?_eq_some_iff_getElem]
    exact ⟨b,by simpa using i,fun j q=>by simpa using p j (by omega) q⟩)
  ·have i: ¬g[k].name=f:=by simpa using i
   (try simp only[↓M1,M1,Mb,reduceIte])
   refine Y6 a.max b ⟨rfl,fun j q z=>?_⟩
   by_cases e:j=k
   ·subst e;exact i
   ·exact p j q (by omega)
 ·have b: ¬k<g.length:=by simpa using u
  exact s none (by
   rw[List.findIdx?_eq_none_iff]
   intro m H
   obtain ⟨j,q,rfl⟩:=List.getElem_of_mem H
   simpa using p j q (by omega)))
end Go.Proofs.YtjdiakhipmggjaaGreatDoor

namespace Go.Emb
open Go.RowKit Go.Hm
variable {w w' : World} {σ σ' : Q5}
theorem Nxt.of_upd {b:Nat} (d:X2 w σ) (a:Upd w b w') (c:σ b=none):Nxt (fun j=>j=b) w σ w' σ:=
 ⟨Kpt.of_upd a rfl,SLe.refl _,fun _ _=>rfl,(Kpt.of_upd (D:=fun j=>j=b) a rfl).sat d fun k e=>e▸c⟩
theorem Nxt.chain {D E:Nat→Prop} {w1 b:World} {σ1 d:Q5} (h:Nxt D w σ w1 σ1) (k:Nxt E w1 σ1 b d) (f: ∀j,j<w.heap.size→E j→D j):Nxt D w σ b d:=
 ⟨⟨k.kp.os.trans h.kp.os,k.kp.tape.trans h.kp.tape,k.kp.output.trans h.kp.output,Nat.le_trans h.kp.size k.kp.size,fun j a c=>(k.kp.block j (Nat.lt_of_lt_of_le a h.kp.size) fun e=>c (f j a e)).trans (h.kp.block j a c)⟩,h.le.more k.le,fun j a=>(k.old j (Nat.lt_of_lt_of_le a h.kp.size)).trans (h.old j a),k.sat⟩
end Go.Emb
namespace Go.Proofs.YtjdiakhipmggjaaGreatDoor
open Go.Emb Go.RowKit Go.Kd Go.Hm
variable {w w' : World} {K : Value → World → Prop} {σ σ' : Q5} {hp tv : Value} {room : Int} {cs : List Cel} {l : List Cla}
theorem RowsIs.shape {B:Nat} {D:Nat→Prop} {b:Value} (h:RowsIs B D σ w b cs):b.cells= #[b]∧b.oneCell'=true:=by
 obtain ⟨vs,c,_⟩:=h.ex
 obtain ⟨a,d,rfl,_⟩:=c
 exact ⟨rfl,rfl⟩
theorem RowsIs.len {B:Nat} {D:Nat→Prop} {c:Value} (h:RowsIs B D σ w c cs): ∃a b,c= .slice a cs.length b:=by
 obtain ⟨vs,d,e,_⟩:=h.ex
 obtain ⟨a,b,rfl,_⟩:=d
 exact ⟨a,b,by rw[Df e.1]⟩
theorem X14 {B:Nat} {D:Nat→Prop} {v:Value} {vals:List Val} {k:X0} (hs:X2 w σ) (hB:B≤w.heap.size) (h:HeapIs B D σ w hp tv room cs) (M:J8 B T.f 4 O3 σ w v vals) (A: ∀j,v.ownBlock=some j→ ¬D j) (hk:k.length≤U0) (hl:Y8 cs+(1+(vals.length:Int))≤1048576)
 (hh: ∀w' σ' U,Nxt D w σ w' σ'→HeapIs B U σ' w' hp tv room (cs++[⟨k,vals⟩])→(∀j,U j→D j∨v.ownBlock=some j∨w.heap.size≤j)→K (.tuple #[I cs.length,I 0]) w'):Q1 P F.b6 [hp,S k,v] w K:=Q1M (by
 obtain ⟨b,lv,E,rfl,C,u,Z,hE,hD⟩:=h.ex
 have aj:=P9 cs
 have ab:=L9 cs
 have c:D b:=(hD b).2 (.inl rfl)
 have N: ∃a d,v= .slice a vals.length d:=by obtain ⟨a,d,e,_⟩:=M;exact ⟨a,d,e⟩
 have R:=u.lt
 unfold Hb
 rw[M3,fa]
 refine Xx u rfl ?_
 refine Q1t M ?_
 refine Xg ⟨by omega,by omega⟩ ?_
 refine Xg ⟨by omega,by omega⟩ ?_
 rw[M3,fa]
 refine Ug u (by simp) rfl rfl fun w1 r o=>?_
 have t:=Nxt.of_upd hs r u.1
 have L:=Z.nx t fun j hj e=>hE (e▸hj)
 have H:=M.nx t fun j hj e=>A j hj (e▸c)
 have y:=t.sat
 rw[M3,fa]
 refine Xx o rfl ?_
 refine W1 (cells:= #[S k,v]) (by obtain ⟨a,d,rfl⟩:=N;kernel_rfl) ?_
 refine X2S y (by rw[r.size];exact hB) L H (fun j hj e=>A j hj ((hD j).2 (.inr e))) hk (by omega) fun s ag w2 X J z i f m ad=>?_
 have n: ∀j,lv.ownBlock=some j→j≠b:=fun j hj e=>hE (e▸i j hj)
 have q:=o.nx z fun e=>n b e rfl
 have g: ¬J b:=fun e=>by
  rcases m b e with e | e | e
  ·exact hE e
  ·exact A b e c
  ·rw[r.size] at e;omega
 rw[M3,fa]
 refine Ug q (by simp) f.shape.1 f.shape.2 fun V u3 p=>?_
 have W:=Nxt.of_upd z.sat u3 q.1
 have O:=f.nx W fun j hj e=>g (e▸hj)
 rw[M3,fa]
 refine Xx p rfl ?_
 obtain ⟨a2,Q,rfl⟩:=f.len
 rw[Q1r]
 refine Zg ⟨by simp only[List.length_append,List.length_cons,List.length_nil];omega,by simp only[List.length_append,List.length_cons,List.length_nil];omega⟩ ?_
 have Y:(((cs++[(⟨k,vals⟩:Cel)]).length:Nat):Int)-1=cs.length:=by simp
 rw[Y]
 have e2:Y8 (cs++[(⟨k,vals⟩:Cel)])=Y8 cs+(1+(vals.length:Int)):=by rw[I5];simp[Y8]
 have NN:Nxt D w σ V X:=((t.mono fun j _ e=>e▸c).chain z fun j _ e=>(hD j).2 (.inr (i j e))).chain W fun j _ e=>e▸c
 refine hh V X (fun j=>j=b∨J j) NN ⟨b,_,J,rfl,C,?_,O,g,fun j=>Iff.rfl⟩ fun j hj=>?_
 ·rw[e2];exact p
 ·rcases hj with rfl | hj
  ·exact .inl c
  ·rcases m j hj with e | e | e
   ·exact .inl ((hD j).2 (.inr e))
   ·exact .inr (.inl e)
   ·rw[r.size] at e;exact .inr (.inr e))
theorem HeapIs.tab {B:Nat} {D:Nat→Prop} (h:HeapIs B D σ w hp tv room cs): ∃b a E,hp= .pointer (some ⟨b,0,none⟩)∧Y1 σ w b [tv,I room,I (Y8 cs),a]∧RowsIs B E σ w a cs:=by
 obtain ⟨b,a,E,e,d,f,c,hE,hD⟩:=h.ex
 exact ⟨b,a,E,e,f,c⟩
theorem Q5k {B:Nat} {D:Nat→Prop} (b:X2 w σ) (h:HeapIs B D σ w hp tv room cs) (g:0≤V9 room cs) (d:room≤1048576) (f: ∀w',Stp w σ w' σ→K (I (V9 room cs)) w'):Q1 P F.v [hp] w K:=by
 obtain ⟨j,c,i,a,_⟩:=h.freeze b
 exact Q1w c a g d fun w' e=>f w' (Stp.of_below b e)
theorem Gk (k:X0) {σ:Q5}:O3 σ (L7 k) (Value.agg [I (L7 k).sort,I (L7 k).n,S (L7 k).s,I (L7 k).ref].toArray).cells.toList:=by
 refine ⟨rfl,?_⟩
 unfold L7
 split
 ·decide
 split
 ·decide
 split
 ·decide
 ·decide
theorem Ax (a: ∀c∈l,Qj c) (b:l.length≤100000) (n:X0):(Y5 l n).length≤1000000000000:=by
 have h:=Q2C a n
 have:(l.length+1)*1000000≤100001*1000000:=Nat.mul_le_mul_right _ (by omega)
 omega
def atM (cs:List Cel) (e:Int):Int:=if e=0 then cs.length else 0
set_option maxHeartbeats 1000000 in
theorem Q5n {B:Nat} {D:Nat→Prop} {k:X0} (hs:X2 w σ) (hB:B≤w.heap.size) (h:HeapIs B D σ w hp tv room cs) (ht:Tab σ tv l) (ok:Ok l) (hk:k.length≤U0) (h0:0≤V9 room cs) (h1:room≤1048576)
 (hh: ∀w' σ' N,Nxt D w σ w' σ'→HeapIs B N σ' w' hp tv room (Zn l room cs k).1→(∀j,N j→D j∨w.heap.size≤j)→K (.tuple #[I (atM cs (Zn l room cs k).2),I (Zn l room cs k).2]) w'):Q1 P F.aG [hp,S k] w K:=Pm (by
 obtain ⟨b,lv,E,rfl,hm,hr⟩:=h.tab
 unfold Lv
 rw[M3,fa]
 refine Xx (i:=0) hm rfl ?_
 refine Q4k hs ht fun w1 σ1 g=>?_
 refine Wd ?_
 unfold Zn at hh
 have U:=ht.lift ⟨g.le⟩
 cases ho:T7 l k with
 | false=>
  rw[ho] at hh
  simp only[if_pos] at hh
  refine J3 ?_
  exact hh w1 σ1 D (.of_stp g) (h.up g) fun j t=> .inl t
 | true=>
  rw[ho] at hh
  simp only[Bool.true_eq_false,if_false] at hh
  refine Z7 ?_
  rw[M3,fa]
  refine Xx (i:=0) (hm.up g) rfl ?_
  refine Gt g.sat U ok.acy ok.len ok.sm fun fv w2 Y C Q=>?_
  have y:=g.trans C
  have W:=Q.max
  refine Q8 Q ?_
  have aj:=Ax ok.sm ok.len k
  refine Xg ⟨by omega,by omega⟩ ?_
  refine Q5k C.sat (h.up y) h0 h1 fun O z=>?_
  have o:=y.trans z
  have L:=Q.up z
  rw[Ra]
  by_cases M:V9 room cs<1+((Y5 l k).length:Int)
  ·rw[if_pos M] at hh
   have e:decide (1+((Y5 l k).length:Int)>V9 room cs)=true:=decide_eq_true M
   rw[e]
   refine J3 ?_
   exact hh O Y D (.of_stp o) (h.up o) fun j t=> .inl t
  rw[if_neg M] at hh
  have e:decide (1+((Y5 l k).length:Int)>V9 room cs)=false:=decide_eq_false M
  rw[e]
  refine Z7 ?_
  refine Q8 L ?_
  have r:=o.bel.size
  refine E3 (Y5 l k).length (fun n x w'=> ∃σ',Stp O Y w' σ'∧V5 O.heap.size T.f 4 O3 σ' w' x (((Y5 l k).take n).map fun f=>L7 f.kind)) ⟨Y,Stp.refl z.sat,V5.nil⟩ fun n x w4 d hn H=>?_
  obtain ⟨σ4,c,u⟩:=H
  refine Z2 ?_
  refine Q7 (fun hc=>?_) (fun hc=>?_)
  ·have m:n<(Y5 l k).length:=by simpa using hc
   have J:=L.up c
   refine Y3 J m ?_
   obtain ⟨p1,r1⟩:=J.elF m
   refine Y4 c.sat p1 rfl ?_
   refine Y9 c.sat (by rfl) rfl (Rep.one (R:=R3) r1) fun q w5 σ5 p Z=>?_
   rw[fa]
   refine ld p.sat Z rfl ?_
   refine Q9v p.sat fun w6 σ6 A=>?_
   have X:=(c.trans p).trans A
   have aa:=(u.up p).up A
   refine Jm (R:=O3) (x:=L7 (Y5 l k)[n].kind) X aa (Gk _) rfl rfl rfl (by rw[List.length_map,List.length_take];omega) (by rw[List.length_map,List.length_take];omega) fun s v' w7 σ7 ao ae V _=>?_
   refine L8 ?_
   refine Z9 W m ⟨σ7,ae,?_⟩
   rw[List.take_add_one,List.getElem?_eq_getElem m,List.map_append]
   exact V
  ·have m: ¬n<(Y5 l k).length:=by simpa using hc
   rw[List.take_of_length_le (by omega)] at u
   have a:=o.trans c
   have v: ∀j,x.ownBlock=some j→O.heap.size≤j:=fun j t=>(u.mem j t).1
   refine X14 c.sat (Nat.le_trans hB a.bel.size) (h.up a) ((J8.of_acc u).mono (Nat.le_trans hB r)) (fun j t hD=>by
    have:=(h.mem hD).2.1;have:=v j t;omega) hk (by rw[List.length_map];unfold V9 at*;omega) fun w7 σ7 N N7 h7 ac=>?_
   refine J5 (vs:=[_,_]) rfl ?_
   refine J5 (vs:=[_,_]) rfl ?_
   refine hh w7 σ7 N ((Nxt.of_stp a).chain N7 fun j _ e=>e) h7 fun j t=>?_
   rcases ac j t with e | e | e
   ·exact .inl e
   ·right;have:=v j e;omega
   ·right;have:=a.bel.size;omega)
end Go.Proofs.YtjdiakhipmggjaaGreatDoor

namespace Go.Proofs.YtjdiakhipmggjaaGreatDoor
open Go.Emb Go.RowKit Go.Kd Go.Hm
variable {w w' : World} {K : Value → World → Prop} {σ σ' : Q5} {hp tv : Value} {room : Int} {cs : List Cel} {l : List Cla}
def part (m n:Nat) (z:Val):List Val:=(List.range m).map fun i=>if i<n then z else Val.zero
theorem Q9a (m:Nat) (z:Val):part m 0 z=List.replicate m Val.zero:=by
 refine List.ext_getElem (by simp[part]) fun i a b=>by simp[part]
theorem X0b (m:Nat) (z:Val):part m m z=List.replicate m z:=by
 refine List.ext_getElem (by simp[part]) fun i a b=>?_
 have:i<m:=by simpa [part] using a
 simp[part,this]
theorem X0A {m n:Nat} (z:Val):(part m n z).set n z=part m (n+1) z:=by
 refine List.ext_getElem (by simp[part]) fun i a b=>?_
 simp only[part,List.getElem_set,List.getElem_map,List.getElem_range]
 by_cases e:n=i
 ·subst e;simp
 ·rw[if_neg e]
  by_cases h:i<n
  ·simp[h,Nat.lt_succ_of_lt h]
  ·have: ¬i<n+1:=by omega
   simp[h,this]
theorem Q5I {e:X0} (h:G0 l e=true):right e=true:=by
 simp only[G0,Bool.and_eq_true,Bool.not_eq_true',decide_eq_false_iff_not] at h
 have:=h.1.2
 simp only[N0,Bool.or_eq_true,Bool.and_eq_true,decide_eq_true_eq] at this
 rcases this with h1 | h1
 ·exact absurd h1 h.1.1
 ·exact h1.1
theorem X1M {e:X0} (h:right e=true):Xf e≤3:=by
 unfold Xf
 rw[if_pos h]
 simp only[right,Bool.and_eq_true,decide_eq_true_eq] at h
 exact h.1
set_option maxHeartbeats 1000000 in
theorem Q7e {B:Nat} {D:Nat→Prop} {e:X0} {n:Int} (hs:X2 w σ) (hB:B≤w.heap.size) (h:HeapIs B D σ w hp tv room cs) (ht:Tab σ tv l) (hk:e.length≤U0) (h0:0≤V9 room cs) (h1:room≤1048576)
 (hh: ∀w' σ' Z,Nxt D w σ w' σ'→HeapIs B Z σ' w' hp tv room (Zj l room cs e n).1→(∀j,Z j→D j∨w.heap.size≤j)→K (.tuple #[I (atM cs (Zj l room cs e n).2),I (Zj l room cs e n).2]) w'):Q1 P F.aN [hp,S e,I n] w K:=Tn (by
 obtain ⟨b,lv,E,rfl,hm,hr⟩:=h.tab
 unfold Ot
 refine X3K e (Nat.le_trans hk (by decide)) fun w1 ae=>?_
 have A:=Stp.of_below hs ae
 unfold Zj at hh
 have o: ∀{L H},Stp w σ L H→G0 l e=false→K (.tuple #[I 0,I 91]) L:=fun {L H} hS X=>by
  rw[X] at hh
  simp only[if_pos] at hh
  exact hh L H D (.of_stp hS) (h.up hS) fun j y=> .inl y
 cases q:(right e&&decide (Xf e≠3)) with
 | false=>
  have X:G0 l e=false:=by
   cases hx:G0 l e with
   | false=>rfl
   | true=>
    have hr:=Q5I hx
    simp only[G0,Bool.and_eq_true,decide_eq_true_eq] at hx
    rw[hr,Bool.true_and,decide_eq_false_iff_not] at q
    omega
  simp only[Bool.false_eq_true,if_false]
  (try simp only[↓M1,M1,Mb,reduceIte])
  simp only[show decide ((30:Int)=0)=false from by decide,Bool.not_false,↓M1,M1,Mb,reduceIte]
  exact o A X
 | true=>
  simp only[if_true]
  (try simp only[↓M1,M1,Mb,reduceIte])
  simp only[decide_true,Bool.not_true,↓M1,M1,Mb,reduceIte]
  refine Xx (i:=0) (hm.up A) rfl ?_
  refine Q0U A.sat ht hk fun L H N=>?_
  have a:=A.trans N
  simp only[Bool.and_eq_true,decide_eq_true_eq] at q
  have az:=X1M q.1
  have g:G0 l e=(!decide (e=H6)&&N0 l e):=by
   unfold G0
   have:decide (Xf e≤2)=true:=decide_eq_true (by omega)
   rw[this,Bool.and_true]
  have en:decide (e=[110,117,108,108])=decide (e=H6):=rfl
  cases O:N0 l e with
  | false=>
   (try simp only[↓M1,M1,Mb,reduceIte])
   exact o a (by rw[g,O,Bool.and_false])
  | true=>
   (try simp only[↓M1,M1,Mb,reduceIte])
   by_cases c:e=H6
   ·have:decide (e=[110,117,108,108])=true:=decide_eq_true c
    rw[this]
    (try simp only[↓M1,M1,Mb,reduceIte])
    exact o a (by rw[g,decide_eq_true c];rfl)
   have:decide (e=[110,117,108,108])=false:=decide_eq_false c
   rw[this]
   (try simp only[↓M1,M1,Mb,reduceIte])
   have X:G0 l e=true:=by rw[g,O,decide_eq_false c];rfl
   rw[X] at hh
   simp only[Bool.true_eq_false,if_false] at hh
   by_cases k:n<0
   ·rw[if_pos k] at hh
    rw[decide_eq_true k]
    (try simp only[↓M1,M1,Mb,reduceIte])
    exact hh L H D (.of_stp a) (h.up a) fun j y=> .inl y
   rw[if_neg k] at hh
   rw[decide_eq_false k]
   (try simp only[↓M1,M1,Mb,reduceIte])
   refine Q5k N.sat (h.up a) h0 h1 fun w3 U=>?_
   have r:=a.trans U
   refine P0 ?_
   by_cases Y:V9 room cs≤n
   ·rw[if_pos Y] at hh
    rw[decide_eq_true Y]
    refine J3 ?_
    exact hh w3 H D (.of_stp r) (h.up r) fun j y=> .inl y
   rw[if_neg Y] at hh
   rw[decide_eq_false Y]
   refine Z7 ?_
   obtain ⟨m,rfl⟩:=Int.eq_ofNat_of_zero_le (Int.not_lt.1 k)
   have ad:(m:Int)<V9 room cs:=Int.not_le.1 Y
   have a1:=L9 cs
   unfold V9 at ad h0
   have t:=r.bel.size
   have an:=Gm q.1
   refine X2X (sz:=4) (R:=O3) (x0:=Val.zero) U.sat rfl (by decide) ⟨rfl,by decide⟩ (by omega) (by omega) fun v w4 aa ah C=>?_
   have Q:=J8.of_acc ah
   refine Q1t Q ?_
   rw[List.length_replicate]
   refine U1 m (fun i w'=> ∃σ',Stp w3 H w' σ'∧J8 w3.heap.size T.f 4 O3 σ' w' v (part m i (L7 e))) ⟨H,aa,by rw[Q9a];exact Q⟩ fun i w5 d hi V=>?_
   obtain ⟨σ5,s,J⟩:=V
   refine Z2 ?_
   refine Q7 (fun hc=>?_) (fun hc=>?_)
   ·have z:i<m:=by simpa using hc
    refine Q9v s.sat fun w6 σ6 M=>?_
    have ac:=s.trans M
    refine Q2P (x:=L7 e) ac (J.up M) (by simpa [part] using z) rfl (Gk e) (Rep.one (R:=O3) (Gk (σ:=σ6) e)) fun p u w7 ar ab W=>?_
    refine L8 ?_
    rw[X0A] at W
    exact Y6 (by omega) z ⟨σ6,ab.stp,W⟩
   ·have z:i=m:=by
     have: ¬i<m:=by simpa using hc
     omega
    subst z
    rw[X0b] at J
    have f:=r.trans s
    refine X14 s.sat (Nat.le_trans hB f.bel.size) (h.up f) (J.mono (Nat.le_trans hB t)) (fun j y hD=>by
     have:=(h.mem hD).2.1;have:=C j y;omega) (Nat.le_trans (show (e++[91,93]).length≤40 by simp only[List.length_append,List.length_cons,List.length_nil];omega) (by decide)) (by rw[List.length_replicate];omega) fun w7 σ7 Z N7 h7 af=>?_
    refine J5 (vs:=[_,_]) rfl ?_
    refine J5 (vs:=[_,_]) rfl ?_
    rw[Int.toNat_natCast] at hh
    refine hh w7 σ7 Z ((Nxt.of_stp f).chain N7 fun j _ e=>e) h7 fun j y=>?_
    rcases af j y with e | e | e
    ·exact .inl e
    ·right;have:=C j e;omega
    ·right;have:=f.bel.size;omega)
end Go.Proofs.YtjdiakhipmggjaaGreatDoor

namespace Go.Proofs.YtjdiakhipmggjaaGreatDoor
open Go.Emb Go.RowKit Go.Kd Go.Hm
variable {w : World} {K : Value → World → Prop} {σ : Q5} {v : Value}
def Q2B:List Cla:=[⟨J9,[],[],false,false,false,[],[]⟩,⟨L6,J9,[],false,false,false,[⟨Qg,D0,false⟩],[]⟩]
def gMk (n:X0):Cla:=⟨n,L6,[],false,false,true,[],[]⟩
theorem Q6l:G2=Q2B++U4.map gMk:=rfl
theorem Q8M (N:X2 w σ) (h: ∀A w' g,Stp w σ w' g→V5 w.heap.size T.b 8 V0 g w' A G2→K A w'):Q1 P F.bn [] w K:=Gv (by
 unfold Lr
 refine W1 (cells:= #[S J9,S [], .slice none 0 0, .bool false, .bool false, .bool false, .slice none 0 0, .slice none 0 0]) (by kernel_rfl) ?_
 refine W1 (cells:= #[S Qg,S D0, .bool false]) (by kernel_rfl) ?_
 refine P6 (R:=R3) (sz:=3) N [.agg #[S Qg,S D0, .bool false]] [⟨Qg,D0,false⟩] rfl rfl (by simp;rfl) rfl ⟨⟨rfl,by decide,by decide⟩,trivial⟩ fun v1 w1 σ1 o j=>?_
 have i:=j
 obtain ⟨H,b,rfl,_⟩:=i
 refine W1 (cells:= #[S L6,S J9, .slice none 0 0, .bool false, .bool false, .bool false, .slice H 1 b, .slice none 0 0]) (by kernel_rfl) ?_
 refine Yu (R:=V0) (sz:=8) o [.agg #[S J9,S [], .slice none 0 0, .bool false, .bool false, .bool false, .slice none 0 0, .slice none 0 0], .agg #[S L6,S J9, .slice none 0 0, .bool false, .bool false, .bool false, .slice H 1 b, .slice none 0 0]]
  Q2B rfl rfl (by simp;exact ⟨rfl,rfl⟩) rfl ⟨⟨_,_,_,rfl,Sl.nil,Sl.nil,Sl.nil,by decide,by decide⟩,⟨_,_,_,rfl,Sl.nil,j,Sl.nil,by decide,by decide⟩,trivial⟩ fun v2 W l z _=>?_
 refine P6 (R:=U9) (sz:=1) l.sat (U4.map S) U4 rfl rfl (by decide) rfl ⟨⟨rfl,by decide⟩,⟨rfl,by decide⟩,⟨rfl,by decide⟩,⟨rfl,by decide⟩,⟨rfl,by decide⟩,⟨rfl,by decide⟩,trivial⟩ fun X Y E r p=>?_
 have y:=(o.trans l).trans r
 have U:U4.length=6:=rfl
 refine E3 U4.length (fun n x w'=> ∃g,Stp w σ w' g∧SLe E g∧V5 w.heap.size T.b 8 V0 g w' x (Q2B++(U4.take n).map gMk)) ⟨E,y,SLe.refl _,z.up r⟩ fun n x w4 d hn q=>?_
 obtain ⟨O,e,f,c⟩:=q
 refine Q8 (p.lift f) ?_
 refine Z2 ?_
 refine Q7 (fun D=>?_) (fun D=>?_)
 ·have a:n<U4.length:=by simpa using D
  have m:=p.lift f
  refine Y3 m a ?_
  obtain ⟨Q,J⟩:=m.elS a
  refine X7 e.sat Q rfl ?_
  have V:(Q2B++(U4.take n).map gMk).length≤8:=by
   rw[List.length_append,List.length_map,List.length_take,show Q2B.length=2 from rfl];omega
  have k:(U4.take (n+1)).map gMk=(U4.take n).map gMk++[gMk U4[n]]:=by
   rw[List.take_add_one,List.getElem?_eq_getElem a,List.map_append];rfl
  generalize U4[n]=t at J k
  refine W1 (cells:= #[S t,S L6, .slice none 0 0, .bool false, .bool false, .bool true, .slice none 0 0, .slice none 0 0]) (by kernel_rfl) ?_
  have M:V0 O (gMk t) [S t,S L6, .slice none 0 0, .bool false, .bool false, .bool true, .slice none 0 0, .slice none 0 0]:=⟨_,_,_,rfl,Sl.nil,Sl.nil,Sl.nil,J,(by decide:L6.length≤U0)⟩
  refine Jm (x:=gMk t) e c M rfl rfl rfl (by omega) (by omega) fun s A Z L u B C _=>?_
  refine L8 ?_
  refine Z9 (by omega) a ⟨L,B,f.more u.le,?_⟩
  rw[k,←List.append_assoc];exact C
 ·have a: ¬n<U4.length:=by simpa using D
  rw[List.take_of_length_le (by omega),←Q6l] at c
  exact h _ _ _ e c)
end Go.Proofs.YtjdiakhipmggjaaGreatDoor

namespace Go.Proofs.YtjdiakhipmggjaaGreatDoor
open Go.Emb Go.RowKit Go.Kd Go.Hm
variable {w : World} {K : Value → World → Prop} {σ : Q5}
end Go.Proofs.YtjdiakhipmggjaaGreatDoor

namespace Go.Hm
open Go.Kd
def Edge (l:List Cla) (i j:Nat):Prop:= ∃c,l[i]? =some c∧ ∃u∈U3 c,Z1 l u=some j
inductive Thr (E : Nat → Nat → Prop) (n : Nat) : Nat → Nat → Prop
  | one {i j : Nat} : E i j → Thr E n i j
  | more {i m j : Nat} : E i m → m < n → Thr E n m j → Thr E n i j
theorem Thr.cut {E:Nat→Nat→Prop} {n i j:Nat} (h:Thr E (n+1) i j):Thr E n i j∨(Thr E n i n∧Thr E n n j):=by
 induction h with
 | one h=>exact .inl (.one h)
 | @more i m j d f _ c=>
  by_cases e:m<n
  ·rcases c with c | ⟨a,b⟩
   ·exact .inl (.more d e c)
   ·exact .inr ⟨.more d e a,b⟩
  ·obtain rfl:m=n:=by omega
   rcases c with c | ⟨a,b⟩
   ·exact .inr ⟨.one d,c⟩
   ·exact .inr ⟨.one d,b⟩
theorem Thr.join {E:Nat→Nat→Prop} {n i k j:Nat} (h:Thr E n i k) (a:k<n) (g:Thr E n k j):Thr E n i j:=by
 induction h with
 | one h=>exact .more h a g
 | more c d _ b=>exact .more c d (b a g)
theorem Q4h {l:List Cla} (f:T1 l) {i j:Nat} (d:i<l.length):Edge l i j↔j<l.length∧ ∃u∈U3 l[i],u=Y2 l j∧Z1 l u=some j:=by
 unfold Edge
 rw[List.getElem?_eq_getElem d]
 constructor
 ·rintro ⟨c,e,u,b,a⟩
  cases e
  exact ⟨(R7 a).1,u,b,(R7 a).2.symm,a⟩
 ·rintro ⟨_,u,b,_,a⟩
  exact ⟨_,rfl,u,b,a⟩
theorem X0B {l:List Cla} (b:T1 l) {i:Nat} (a:i<l.length):lk l (Y2 l i)=some l[i]:=by
 have:=Xz b a
 rwa [List.getD_eq_getElem?_getD,List.getElem?_eq_getElem a] at this
theorem X0D {l:List Cla} (b:T1 l) {i j:Nat} (a:i<l.length) (h:Thr (Edge l) l.length i j):j<l.length∧Wh (lk l) (Y2 l i) (Y2 l j):=by
 induction h with
 | one h=>
  obtain ⟨e,u,d,f,g⟩:=(Q4h b a).1 h
  obtain ⟨c,p,_⟩:=Zd g
  refine ⟨e,_,X0B b a,u,d,?_⟩
  subst f;exact .refl p
 | more e o _ m=>
  obtain ⟨n,k⟩:=m o
  obtain ⟨_,u,d,f,g⟩:=(Q4h b a).1 e
  refine ⟨n,_,X0B b a,u,d,?_⟩
  subst f;exact k.reach
theorem Q8T {l:List Cla} (y:T1 l) {a b:X0} (h:Hm.Reach (lk l) a b): ∀i j,Z1 l a=some i→Z1 l b=some j→i=j∨Thr (Edge l) l.length i j:=by
 induction h with
 | refl _=>
  intro i j n f;rw[n] at f;cases f;exact .inl rfl
 | step v p r t=>
  rename_i a u b c
  intro i j n f
  obtain ⟨d,q⟩:=r.left
  obtain ⟨_,_,k,m,s⟩:=V3 q
  obtain ⟨w,e,g,_⟩:=Zd n
  rw[v] at e;cases e
  have o:Edge l i k:=⟨c,g,u,p,m⟩
  rcases t k j m f with rfl | hT
  ·exact .inr (.one o)
  ·exact .inr (.more o (R7 m).1 hT)
theorem X0c {l:List Cla} (e:T1 l) {i j:Nat} (g:i<l.length) (n:j<l.length) (h:Wh (lk l) (Y2 l i) (Y2 l j)):Thr (Edge l) l.length i j:=by
 obtain ⟨c,o,u,p,f⟩:=h
 rw[X0B e g] at o;cases o
 obtain ⟨d,q⟩:=f.left
 obtain ⟨_,_,k,b,r⟩:=V3 q
 have m:Edge l i k:=⟨_,List.getElem?_eq_getElem g,u,p,b⟩
 have a:Z1 l (Y2 l j)=some j:=by
  have:=e.find (List.getElem?_eq_getElem n)
  unfold Y2
  rw[List.getD_eq_getElem?_getD,List.getElem?_eq_getElem n];exact this
 rcases Q8T e f k j b a with rfl | hT
 ·exact .one m
 ·exact .more m (R7 b).1 hT
theorem X1o {l:List Cla} (b:T1 l) {i j:Nat} (a:i<l.length) (c:j<l.length):Thr (Edge l) l.length i j↔Xc l (Y2 l i) (Y2 l j)=true:=by
 rw[Jk]
 exact ⟨fun h=>(X0D b a h).2,X0c b a c⟩
def G7 (l:List Cla):List (List Bool):=(List.range l.length).map fun i=>(List.range l.length).map fun j=>Xc l (Y2 l i) (Y2 l j)
def Bw (m:Nat→Nat→Bool) (i j:Nat) (b:Bool):Nat→Nat→Bool:=fun x y=>if x=i∧y=j then b else m x y
structure Clos (E : Nat → Nat → Prop) (n k i j : Nat) (m : Nat → Nat → Bool) : Prop where
  sound : ∀ a b, m a b = true → Thr E n a b
  full : ∀ a b, a < n → b < n → Thr E k a b → m a b = true
  done : ∀ a b, a < n → b < n → (a < i ∨ (a = i ∧ b < j)) → Thr E (k + 1) a b → m a b = true
theorem Clos.next {E:Nat→Nat→Prop} {n k i j:Nat} {m:Nat→Nat→Bool} (h:Clos E n k i j m) (p:k<n) (s:i<n) (t:j<n):Clos E n k i (j+1) (Bw m i j (m i j||(m i k&&m k j))):=by
 have f: ∀a b,m a b=true→Bw m i j (m i j||(m i k&&m k j)) a b=true:=by
  intro a b c
  unfold Bw
  split
  ·rename_i e;rw[←e.1,←e.2,c];rfl
  ·exact c
 refine ⟨fun a b c=>?_,fun a b o q g=>f a b (h.full a b o q g),fun a b o q r g=>?_⟩
 ·unfold Bw at c
  split at c
  ·rename_i e
   obtain ⟨rfl,rfl⟩:=e
   simp only[Bool.or_eq_true,Bool.and_eq_true] at c
   rcases c with d | ⟨d,l⟩
   ·exact h.sound _ _ d
   ·exact (h.sound _ _ d).join p (h.sound _ _ l)
  ·exact h.sound _ _ c
 ·by_cases e:a=i∧b=j
  ·obtain ⟨rfl,rfl⟩:=e
   unfold Bw
   rw[if_pos ⟨rfl,rfl⟩]
   rcases g.cut with d | ⟨d,l⟩
   ·rw[h.full _ _ s t d];rfl
   ·rw[h.full _ _ s p d,h.full _ _ p t l];simp
  ·refine f a b (h.done a b o q ?_ g)
   rcases r with d | ⟨d,l⟩
   ·exact .inl d
   ·right;refine ⟨d,?_⟩
    have:b≠j:=fun u=>e ⟨d,u⟩
    omega
theorem Clos.row {E:Nat→Nat→Prop} {n k i:Nat} {m:Nat→Nat→Bool} (h:Clos E n k i n m):Clos E n k (i+1) 0 m:=
 ⟨h.sound,h.full,fun a b c e f d=>h.done a b c e (by omega) d⟩
theorem Clos.round {E:Nat→Nat→Prop} {n k:Nat} {m:Nat→Nat→Bool} (h:Clos E n k n 0 m):Clos E n (k+1) 0 0 m:=
 ⟨h.sound,fun a b c e d=>h.done a b c e (.inl c) d,fun a b c e f d=>by omega⟩
theorem Clos.start {E:Nat→Nat→Prop} {n:Nat} {m:Nat→Nat→Bool} (h: ∀a b,a<n→(m a b=true↔E a b)) (i: ∀a b,n≤a→m a b=false):Clos E n 0 0 0 m:=by
 refine ⟨fun a b c=>?_,fun a b d g f=>?_,fun a b d g j f=>by omega⟩
 ·by_cases d:a<n
  ·exact .one ((h a b d).1 c)
  ·rw[i a b (by omega)] at c;cases c
 ·cases f with
  | one e=>exact (h a b d).2 e
  | more _ k _=>omega
theorem Clos.all {l:List Cla} (c:T1 l) {m:Nat→Nat→Bool} (h:Clos (Edge l) l.length l.length 0 0 m) {i j:Nat} (a:i<l.length) (b:j<l.length):m i j=Xc l (Y2 l i) (Y2 l j):=by
 rw[Bool.eq_iff_iff,←X1o c a b]
 exact ⟨h.sound i j,h.full i j a b⟩
end Go.Hm

namespace Go.Emb
open Go.RowKit Go.Hm
variable {P : Program} {w w0 w1 w' w'' : World} {K : Value → World → Prop} {σ σ0 σ1 σ' : Q5}
theorem X2v {t e:TypeId} {a n:Nat} {z:Value} [ts:TS P t e] [tz:TZ P e 1 a z] (j:X2 w σ) (m:z.cells= #[z]) (o:n≤1000000) (p:a*n≤281474976710656)
 (h: ∀b w',w.heap.size≤b→Stp w σ w' σ→Y1 σ w' b (List.replicate n z)→K (.slice (some ⟨b,0,none⟩) n n) w'):Dk P t (I n) (I n) w K:=by
 obtain ⟨i,l,d,f,c⟩:=tz.info
 have g:(i.bytes:Int)*(n:Int)≤281474976710656:=by
  rw[f]
  have:((a*n:Nat):Int)≤281474976710656:=by omega
  rwa [Int.natCast_mul] at this
 have k:=run_makeSlice (P:=P) w t e i z ts.h l c .i64 .i64 (n:Int) (n:Int) (by omega) (Int.le_refl _) (by rw[d];simp only[Int.toNat_natCast];omega) g (by omega)
 unfold Dk
 rw[X9 k]
 simp only[Int.toNat_natCast,d,Nat.mul_one]
 refine h _ _ (Nat.le_refl _) (Stp.own j _) ⟨j.none (Nat.le_refl _),e,?_⟩
 rw[heap_alloc_new,m]
 have:madeCells #[z] n=(List.replicate n z).toArray:=by rw[←toList_madeCells_one,Array.toArray_toList]
 rw[this]
def Q5H (n:Nat) (_:Q5) (b:Nat) (cs:List Value):Prop:=cs=[.slice (some ⟨b,0,none⟩) n n]
instance (n:Nat):Rep (Q5H n):=⟨fun _ h=>h,fun h u hu=>by rw[h] at hu;simp at hu;subst hu;rfl⟩
def Q5V (σ:Q5) (xs:List Bool) (cs:List Value):Prop:= ∃v,cs=[v]∧Sl 1 Q2y σ v xs
instance:Rep Q5V:=⟨fun k h=>by obtain ⟨v,h1,h2⟩:=h;exact ⟨v,h1,h2.le k⟩,fun h u hu=>by
 obtain ⟨v,rfl,a,cap,rfl,_⟩:=h
 simp at hu;subst hu;rfl⟩
def bools (n:Nat) (f:Nat→Bool):List Value:=(List.range n).map fun j=> .bool (f j)
theorem Q0q {n:Nat} {f:Nat→Bool}:(bools n f).length=n:=by simp[bools]
theorem Q4a {n j:Nat} {f:Nat→Bool} (h:j<n):(bools n f)[j]? =some (.bool (f j)):=by simp[bools,h]
theorem Q4j {n j:Nat} {f:Nat→Bool} {b:Bool}:(bools n f).set j (.bool b)=bools n (fun x=>if x=j then b else f x):=by
 apply List.ext_getElem?
 intro k
 rw[List.getElem?_set]
 by_cases a:k<n
 ·by_cases e:j=k
  ·subst e;simp[bools,a]
  ·have c: ¬k=j:=fun h=>e h.symm
   simp[bools,a,e,c]
 ·simp[bools,a]
  intro e;omega
theorem Q6I {n:Nat}:List.replicate n (Value.bool false)=bools n fun _=>false:=by
 apply List.ext_getElem?
 intro k
 by_cases a:k<n<;>simp[bools,a]
def Qu (σ:Q5) (w:World) (a:List Nat) (n:Nat) (m:Nat→Nat→Bool):Prop:=a.Nodup∧ ∀i (h:i<a.length),Y1 σ w a[i] (bools n (m i))
theorem Qu.up {a:List Nat} {n:Nat} {m:Nat→Nat→Bool} (h:Qu σ w a n m) (k:Stp w σ w' σ'):Qu σ' w' a n m:=⟨h.1,fun i b=>(h.2 i b).up k⟩
theorem Qu.kp {a:List Nat} {n:Nat} {m:Nat→Nat→Bool} {D:Nat→Prop} (h:Qu σ w a n m) (k:Kpt D w w') (d: ∀b∈a,¬D b):Qu σ w' a n m:=⟨h.1,fun i c=>(h.2 i c).kp k (d _ (List.getElem_mem c))⟩
theorem Qu.lt {c:List Nat} {n:Nat} {m:Nat→Nat→Bool} (h:Qu σ w c n m) {b:Nat} (d:b∈c):b<w.heap.size∧σ b=none:=by
 obtain ⟨i,a,rfl⟩:=List.getElem_of_mem d
 exact ⟨(h.2 i a).lt,(h.2 i a).1⟩
theorem Qu.snoc {d:List Nat} {n b:Nat} {m:Nat→Nat→Bool} {f:Nat→Bool} (h:Qu σ w d n m) (o:b∉d) (p:Y1 σ w b (bools n f)):Qu σ w (d++[b]) n (fun x=>if x=d.length then f else m x):=by
 refine ⟨by rw[List.nodup_append];exact ⟨h.1,by simp,fun a l c g e=>by simp at g;subst g;subst e;exact o l⟩,fun i k=>?_⟩
 rw[List.length_append,List.length_singleton] at k
 by_cases j:i<d.length
 ·rw[List.getElem_append_left j]
  simp only[if_neg (show¬i=d.length by omega)]
  exact h.2 i j
 ·obtain rfl:i=d.length:=by omega
  simp only[List.getElem_concat_length,if_true]
  exact p
theorem Qu.congr {a:List Nat} {n:Nat} {m m':Nat→Nat→Bool} (h:Qu σ w a n m) (c: ∀i,i<a.length→m i=m' i):Qu σ w a n m':=⟨h.1,fun i b=>c i b▸h.2 i b⟩
theorem Qu.keep {a:List Nat} {n:Nat} {m:Nat→Nat→Bool} (V:0<n) (u:n≤1000000): ∀{σ:Q5},Qu σ w a n m→Stp w0 σ0 w σ→(∀b∈a,w0.heap.size≤b)→ ∃σ',Stp w0 σ0 w σ'∧SLe σ σ'∧ ∀i (h:i<a.length),Sl 1 Q2y σ' (.slice (some ⟨a[i],0,none⟩) n n) ((List.range n).map (m i)):=by
 intro σ h Q M
 have key: ∀k,k≤a.length→ ∃σ',Stp w0 σ0 w σ'∧SLe σ σ'∧(∀i (h:i<a.length),i<k→Z4 σ' ⟨a[i],0,none⟩ (bools n (m i)))∧ ∀i (h:i<a.length),k≤i→σ' a[i]=none:=by
  intro k
  induction k with
  | zero=>intro _;exact ⟨σ,Q,SLe.refl _,fun i _ h=>by omega,fun i c _=>(h.2 i c).1⟩
  | succ k E=>
   intro U
   obtain ⟨σ1,o,f,g,r⟩:=E (by omega)
   have d:k<a.length:=by omega
   have N:Y1 σ1 w a[k] (bools n (m k)):=⟨r k d (Nat.le_refl _),(h.2 k d).2⟩
   obtain ⟨O,y,B,s,C⟩:=N.keep o (M _ (List.getElem_mem d))
   refine ⟨O,y,f.more ⟨s⟩,fun i c J=>?_,fun i c L=>?_⟩
   ·by_cases e:i=k
    ·subst e;exact B
    ·exact (g i c (by omega)).le s
   ·rw[C]
    ·exact r i c (by omega)
    ·intro e
     have:=List.nodup_iff_pairwise_ne.1 h.1
     rw[List.pairwise_iff_getElem] at this
     exact this k i d c (by omega) e.symm
 obtain ⟨σ1,o,f,g,_⟩:=key a.length (Nat.le_refl _)
 refine ⟨σ1,o,f,fun i c=>⟨some ⟨a[i],0,none⟩,n,by simp,by simp,by simp only[maxLen];omega,fun e=>(by cases e),?_⟩⟩
 intro b z
 obtain rfl:=Option.some.inj z
 refine ⟨fun _=>rfl,fun j x p=>?_⟩
 have t:j<n:=by have:=(List.getElem?_eq_some_iff.1 p).1;simpa using this
 obtain ⟨R,arr,e,A,H,D⟩:=g i c c
 have l:x=m i j:=by simp[t] at p;exact p.symm
 refine ⟨[.bool x],⟨I1 rfl _,arr,e,A,by rw[R9];exact H,fun k v q=>?_⟩,rfl,rfl⟩
 obtain rfl:k=0:=by cases k with
  | zero=>rfl
  | succ k=>simp at q
 simp at q
 rw[A7,←q,l]
 have:=D j _ (Q4a t)
 simpa using this
end Go.Emb

namespace Go.Emb
open Go.RowKit Go.Hm
variable {P : Program} {w w0 w1 w' w'' : World} {K : Value → World → Prop} {σ σ0 σ1 σ' : Q5}
theorem Q16 {t e:TypeId} {sz b:Nat} {z:Value} [ts:TS P t e] [tz:TZ P e sz b z] {a:Addr} {n c i:Nat} (f:i<n) (d:K (.pointer (some (a.add (i*sz)))) w):indexAddr P t (.slice (some a) n c) (I i) w K:=by
 rw[Ro (by omega) (by omega)]
 simpa using d
theorem Qu.nx {D:Nat→Prop} {a:List Nat} {n:Nat} {m:Nat→Nat→Bool} (h:Qu σ w a n m) (k:Nxt D w σ w' σ') (d: ∀b∈a,¬D b):Qu σ' w' a n m:=
 ⟨h.1,fun i c=>(h.2 i c).nx k (d _ (List.getElem_mem c))⟩
theorem Qu.set {a:List Nat} {n i j:Nat} {b:Bool} {m:Nat→Nat→Bool} (h:Qu σ w a n m) (d:i<a.length) (o:Upd w a[i] w') (g:Y1 σ w' a[i] ((bools n (m i)).set j (.bool b))):Qu σ w' a n (Bw m i j b):=by
 refine ⟨h.1,fun k c=>?_⟩
 by_cases e:k=i
 ·subst e
  rw[Q4j] at g
  have:Bw m k j b k=fun x=>if x=j then b else m k x:=by funext x;simp[Bw]
  rw[this];exact g
 ·have:Bw m i j b k=m k:=by funext x;simp[Bw,e]
  rw[this]
  refine (h.2 k c).upd o fun f=>e ?_
  rcases Nat.lt_trichotomy k i with hlt | hlt | hlt
  ·have:=List.nodup_iff_pairwise_ne.1 h.1
   rw[List.pairwise_iff_getElem] at this
   exact absurd f (this k i c d hlt)
  ·exact hlt
  ·have:=List.nodup_iff_pairwise_ne.1 h.1
   rw[List.pairwise_iff_getElem] at this
   exact absurd f.symm (this i k d c hlt)
end Go.Emb
namespace Go.Proofs.YtjdiakhipmggjaaGreatDoor
open Go.Emb Go.RowKit Go.Kd Go.Hm
variable {w : World} {K : Value → World → Prop} {σ : Q5} {l : List Cla} {v : Value}
def Lu (l:List Cla) (i j:Nat):Bool:=match l[i]? with
 | none=>false
 | some c=>(U3 c).any fun u=>decide (Z1 l u=some j)
theorem Q8Y (l:List Cla) (i j:Nat):Lu l i j=true↔Hm.Edge l i j:=by
 unfold Lu Hm.Edge
 cases h:l[i]? with
 | none=>simp
 | some c=>simp[List.any_eq_true]
theorem Q8K {l:List Cla} {i j:Nat} (h:l.length≤i):Lu l i j=false:=by
 unfold Lu
 rw[List.getElem?_eq_none h]
set_option maxHeartbeats 4000000 in
theorem Q02 (hs:X2 w σ) (hl:Sl 8 V0 σ v l) (ho:T1 l) (hpos:0<l.length) (hlen:l.length≤1000) (hsm: ∀c∈l,Qj c)
 (h: ∀v' w' σ',Stp w σ w' σ'→Sl 1 Q5V σ' v' (G7 l)→K v' w'):Q1 P F.ah [v] w K:=Gz (by
 unfold Md
 refine Ed (R:=Q5H l.length) (e:=T.a6) (Stp.refl hs) (by decide) fun x0 w1 hk1 ha1 _=>?_
 refine E3 l.length (fun n x w'=> ∃σ' bs,Stp w σ w' σ'∧V5 w.heap.size T.a6 1 (Q5H l.length) σ' w' x bs∧Qu σ' w' bs l.length (Lu l)∧bs.length=n∧ ∀b∈bs,w.heap.size≤b∧x.ownBlock≠some b) ⟨σ,[],hk1,ha1,⟨List.nodup_nil,by simp⟩,rfl,by simp⟩ fun n x w2 d hn hinv=>?_
 obtain ⟨σ2,bs,hS2,ha2,hM2,hbl,hb2⟩:=hinv
 refine Q8 (hl.up hS2) ?_
 refine Z2 ?_
 refine Q7 (fun hc=>?_) (fun hc=>?_)
 ·have hn':n<l.length:=by simpa using hc
  have hl2:=hl.up hS2
  refine Q8 hl2 ?_
  refine X2v hS2.sat rfl (by omega) (by omega) fun b w3 hb3 hk3 hm3=>?_
  rw[Q6I] at hm3
  obtain ⟨lv,fv,mv,p1,r1⟩:=hl2.elC hn'
  obtain ⟨g1,_,_,g4,g5⟩:=r1.parts
  have hsmc:=hsm _ (List.getElem_mem hn')
  have hs3:=hk3.sat
  refine U2 hs3 ?_
  (repeat refine J6 Qt ?_)
  refine Q1p (w:=w3) (σ:=σ2) (R:=U9) (sz:=1) (e:=T.c) [l[n].super] (fun t w hb e=>?_) ?_
  ·subst e;exact Yu hb.stp [_] [l[n].super] rfl rfl (by simp;rfl) rfl ⟨⟨rfl,g5⟩,trivial⟩ fun v' w' hk ha _=>Q2A hb hk ha
  (repeat refine J6 Qt ?_)
  rintro t24 t25 t30 t31 t26 t27 t32 w4 hb4 rfl rfl rfl rfl rfl ⟨f27,a27⟩ rfl
  refine Vw f27 a27 g1 rfl (by simp;have:=hsmc.1;omega) (by simp;have:=hsmc.1;omega) fun v5 w5 hn5 hS5 ha5 hat5=>?_
  obtain ⟨σ6,hS6,hv6,le6,_⟩:=ha5.keep hS5
  have hv6:Sl 1 U9 σ6 v5 (U3 l[n]):=hv6
  have hb3w:w.heap.size≤b:=Nat.le_trans hS2.bel.size hb3
  have hm6:=hm3.up hS6
  have ha6:=(ha2.up hk3).up hS6
  have hM6:=(hM2.up hk3).up hS6
  have hS26:=(hS2.trans hk3).trans hS6
  have hxb: ∀k,x.ownBlock=some k→k≠b:=fun k e=>by have:=(ha2.mem k e).2.1;omega
  have hbbs:b∉bs:=fun e=>by have:=(hM2.lt e).1;omega
  clear hm3 ha2 hM2 hS6 hS5 ha5 a27 f27 hn5 hat5
  refine U1 (U3 l[n]).length (fun k w'=>Stp w σ w' σ6∧V5 w.heap.size T.a6 1 (Q5H l.length) σ6 w' x bs∧Qu σ6 w' bs l.length (Lu l)∧Y1 σ6 w' b (bools l.length fun j=>((U3 l[n]).take k).any fun u=>decide (Z1 l u=some j)))
   ⟨hS26,ha6,hM6,hm6⟩ fun k w7 d7 hk hinv=>?_
  obtain ⟨hS7,ha7,hM7,hm7⟩:=hinv
  refine Q8 hv6 ?_
  refine Z2 ?_
  refine Q7 (fun hc=>?_) (fun hc=>?_)
  ·have hk':k<(U3 l[n]).length:=by simpa using hc
   refine U6 ?_
   refine Y3 hv6 hk' ?_
   obtain ⟨p2,p3⟩:=hv6.elS hk'
   refine X7 hS7.sat p2 rfl ?_
   refine I0 hS7.sat (hl.up hS7) ?_
   refine P0 ?_
   rw[T2]
   have hnx: ∀f:Nat→Bool,(∀j,f j=(((U3 l[n]).take k).any (fun u=>decide (Z1 l u=some j))||decide (Z1 l (U3 l[n])[k]=some j)))→f=fun j=>((U3 l[n]).take (k+1)).any fun u=>decide (Z1 l u=some j):=by
    intro f hf;funext j;rw[hf,L4 hk']
   cases hfc:Z1 l (U3 l[n])[k] with
   | none=>
    simp only[Option.isSome_none,↓M1,M1,Mb,reduceIte]
    intro d
    refine Y6 hv6.max hk' ⟨hS7,ha7,hM7,?_⟩
    rw[←hnx (fun j=>((U3 l[n]).take k).any fun u=>decide (Z1 l u=some j)) (fun j=>by rw[hfc];simp)]
    exact hm7
   | some j=>
    have hj:=(R7 hfc).1
    simp only[Option.isSome_some,L5,↓M1,M1,Mb,reduceIte]
    refine Q16 hj ?_
    rw[Nat.mul_one]
    refine Ug hm7 (by rw[Q0q];exact hj) (by rfl) (by rfl) fun w8 u8 hm8=>?_
    intro d
    rw[Q4j] at hm8
    refine Y6 hv6.max hk' ⟨u8.stp hS7 hb3w hm7.1,ha7.kp (D:=(· =b)) (.of_upd u8 rfl) hxb,hM7.kp (D:=(· =b)) (.of_upd u8 rfl) (fun c hc e=>hbbs (e▸hc)),?_⟩
    rw[←hnx (fun x=>if x=j then true else _) (fun i=>?_)]
    ·exact hm8
    ·rw[hfc]
     by_cases e:i=j
     ·subst e;simp
     ·have: ¬j=i:=fun e'=>e e'.symm
      simp[e,this]
  ·have hk': ¬k<(U3 l[n]).length:=by simpa using hc
   have hk0:k=(U3 l[n]).length:=by omega
   subst hk0
   rw[List.take_of_length_le (Nat.le_refl _)] at hm7
   have hef:(fun j=>(U3 l[n]).any fun u=>decide (Z1 l u=some j))=Lu l n:=by
    funext j;unfold Lu;rw[List.getElem?_eq_getElem hn']
   rw[hef] at hm7
   have hM8:=(hM7.snoc hbbs hm7).congr (m':=Lu l) (fun i _=>by
    by_cases e:i=bs.length
    ·rw[if_pos e,e,hbl]
    ·rw[if_neg e])
   refine Jm (R:=Q5H l.length) (x:=b) hS7 ha7 rfl rfl rfl rfl (by omega) (by omega) fun s v' w9 σ9 hnx hS9 ha9 hat=>?_
   have hdis: ∀c∈bs++[b],w.heap.size≤c∧x.ownBlock≠some c:=by
    intro c hc
    rcases List.mem_append.1 hc with hc | hc
    ·exact hb2 c hc
    ·simp at hc;subst hc;exact ⟨hb3w,fun e=>hxb _ e rfl⟩
   have hlt9: ∀c∈bs++[b],c<w7.heap.size:=fun c hc=>(hM8.lt hc).1
   refine L8 ?_
   refine Z9 (by omega) hn' ⟨σ9,bs++[b],hS9,ha9,hM8.nx hnx (fun c hc=>(hdis c hc).2),by rw[List.length_append,hbl];rfl,fun c hc=>⟨(hdis c hc).1,fun e=>?_⟩⟩
   rcases hat with hat | hat
   ·exact (hdis c hc).2 (hat▸e)
   ·have:=hat c e;have:=hlt9 c hc;omega
 ·have hn0:n=l.length:=by
   have: ¬n<l.length:=by simpa using hc
   omega
  obtain ⟨σ8,hS8,hv8,le8,old8⟩:=ha2.keep hS2
  have hlb:bs.length=l.length:=by omega
  have hM8:Qu σ8 w2 bs l.length (Lu l):=⟨hM2.1,fun i hi=>⟨(old8 _ (fun e=>(hb2 _ (List.getElem_mem hi)).2 e.symm)).trans (hM2.2 i hi).1,(hM2.2 i hi).2⟩⟩
  have hpx: ∀i (hi:i<bs.length),Z4 σ8 (Vp 1 x i) [.slice (some ⟨bs[i],0,none⟩) l.length l.length]:=fun i hi=>by
   obtain ⟨cs,h1,_,h2⟩:=hv8.el hi
   have h2:cs=_:=h2
   subst h2;exact h1
  clear ha2 hM2 hS2 le8 old8
  refine U1 l.length (fun k w'=> ∃m,Stp w σ w' σ8∧Qu σ8 w' bs l.length m∧Clos (Hm.Edge l) l.length k 0 0 m) ⟨Lu l,hS8,hM8,Clos.start (fun a b _=>Q8Y l a b) (fun a b h=>Q8K h)⟩ fun k w3 d3 hk3 hinv=>?_
  obtain ⟨m3,hS3,hM3,hC3⟩:=hinv
  refine Q8 (hl.up hS3) ?_
  refine Z2 ?_
  refine Q7 (fun hc=>?_) (fun hc=>?_)
  ·have hk':k<l.length:=by simpa using hc
   refine U1 l.length (fun i w'=> ∃m,Stp w σ w' σ8∧Qu σ8 w' bs l.length m∧Clos (Hm.Edge l) l.length k i 0 m) ⟨m3,hS3,hM3,hC3⟩ fun i w4 d4 hi4 hinv=>?_
   obtain ⟨m4,hS4,hM4,hC4⟩:=hinv
   refine Q8 (hl.up hS4) ?_
   refine Z2 ?_
   refine Q7 (fun hc=>?_) (fun hc=>?_)
   ·have hi':i<l.length:=by simpa using hc
    refine U1 l.length (fun j w'=> ∃m,Stp w σ w' σ8∧Qu σ8 w' bs l.length m∧Clos (Hm.Edge l) l.length k i j m) ⟨m4,hS4,hM4,hC4⟩ fun j w5 d5 hj5 hinv=>?_
    obtain ⟨m5,hS5,hM5,hC5⟩:=hinv
    refine Q8 (hl.up hS5) ?_
    refine Z2 ?_
    refine Q7 (fun hc=>?_) (fun hc=>?_)
    ·have hj':j<l.length:=by simpa using hc
     have hi6:i<bs.length:=by omega
     have hk6:k<bs.length:=by omega
     have px_i:=hpx i hi6
     have px_k:=hpx k hk6
     have hrd: ∀{w':World} {K:Value→World→Prop} {a b:Nat} {ha:a<bs.length},Hst w5 σ8 w' σ8→b<l.length→K (.bool (m5 a b)) w'→Q2 P T.u (.pointer (some ((⟨bs[a],0,none⟩:Addr).add (b*1)))) w' K:=fun hst hb hK=>by
      rw[Nat.mul_one]
      exact A6 (((hM5.up hst.stp).2 _ _).cell (Q4a hb)) hK
     refine U2 hS5.sat ?_
     (repeat (apply J6;(· intros;(repeat (rename_i hx;subst hx));(repeat' (first | (with_reducible exact E1 rfl) | (with_reducible exact B2 (Stp.bel (by (repeat (first | exact Stp.refl (by (first | assumption | exact Stp.sat (by assumption) | exact Hst.sat (by assumption))) | assumption | refine Stp.trans ?_ (by first | assumption | exact Hst.stp (by assumption)))))) rfl) | (with_reducible intro _) | (simp only[↓M2,M2,Mb,reduceIte]) | (with_reducible refine Q16 au ?_) | (with_reducible refine hrd au au ?_) | (with_reducible show Q2 _ _ _ _ _;first | refine X7 aS aL aR ?_ | refine Y4 aS aL aR ?_ | refine ld aS aL aR ?_) | (with_reducible show indexAddr _ _ _ _ _ _;refine Y3 aL au ?_) | (with_reducible show X3 _ _ _ _ _ _ _ _;refine Q8 aL ?_) | (with_reducible show G1 _ _ _ _ _ _;refine J4 aR ?_) | (with_reducible show pick _ _ _ _ _ _;refine O5 ?_) | (apply K1;intro hh;(try simp only[hh,reduceIte,↓M2,M2,Mb,reduceIte]))));done)))
     cases h1:m5 i j
     ·simp only[reduceIte]
      (repeat (apply J6;(· intros;(repeat (rename_i hx;subst hx));(repeat' (first | (with_reducible exact E1 rfl) | (with_reducible exact B2 (Stp.bel (by (repeat (first | exact Stp.refl (by (first | assumption | exact Stp.sat (by assumption) | exact Hst.sat (by assumption))) | assumption | refine Stp.trans ?_ (by first | assumption | exact Hst.stp (by assumption)))))) rfl) | (with_reducible intro _) | (simp only[↓M2,M2,Mb,reduceIte]) | (with_reducible refine Q16 au ?_) | (with_reducible refine hrd au au ?_) | (with_reducible show Q2 _ _ _ _ _;first | refine X7 aS aL aR ?_ | refine Y4 aS aL aR ?_ | refine ld aS aL aR ?_) | (with_reducible show indexAddr _ _ _ _ _ _;refine Y3 aL au ?_) | (with_reducible show X3 _ _ _ _ _ _ _ _;refine Q8 aL ?_) | (with_reducible show G1 _ _ _ _ _ _;refine J4 aR ?_) | (with_reducible show pick _ _ _ _ _ _;refine O5 ?_) | (apply K1;intro hh;(try simp only[hh,reduceIte,↓M2,M2,Mb,reduceIte]))));done)))
      (intros;(repeat (rename_i hx;subst hx));(try simp only[↓M2,M2,Mb,reduceIte]))
      rename_i w6 hb6
      refine Q16 hj' ?_
      rw[Nat.mul_one]
      refine Eq.subst (motive:=fun V=>Y0 P T.u (.pointer (some ((⟨bs[i],0,none⟩:Addr).add j))) V w6 _) (show Value.bool (m5 i j||(m5 i k&&m5 k j))=_ from by cases h2:m5 i k<;>simp[h1,h2]) ?_
      refine Ug ((hM5.up hb6.stp).2 i hi6) (by rw[Q0q];exact hj') (by rfl) (by rfl) fun w7 u7 hm7=>?_
      (try simp only[↓M1,M1,Mb,reduceIte])
      exact Y6 (by omega) hj' ⟨_,u7.stp (hS5.trans hb6.stp) (hb2 _ (List.getElem_mem hi6)).1 hm7.1,(hM5.up hb6.stp).set hi6 u7 hm7,hC5.next hk' hi' hj'⟩
     ·simp only[Bool.true_eq_false,reduceIte]
      (repeat (apply J6;(· intros;(repeat (rename_i hx;subst hx));(repeat' (first | (with_reducible exact E1 rfl) | (with_reducible exact B2 (Stp.bel (by (repeat (first | exact Stp.refl (by (first | assumption | exact Stp.sat (by assumption) | exact Hst.sat (by assumption))) | assumption | refine Stp.trans ?_ (by first | assumption | exact Hst.stp (by assumption)))))) rfl) | (with_reducible intro _) | (simp only[↓M2,M2,Mb,reduceIte]) | (with_reducible refine Q16 au ?_) | (with_reducible refine hrd au au ?_) | (with_reducible show Q2 _ _ _ _ _;first | refine X7 aS aL aR ?_ | refine Y4 aS aL aR ?_ | refine ld aS aL aR ?_) | (with_reducible show indexAddr _ _ _ _ _ _;refine Y3 aL au ?_) | (with_reducible show X3 _ _ _ _ _ _ _ _;refine Q8 aL ?_) | (with_reducible show G1 _ _ _ _ _ _;refine J4 aR ?_) | (with_reducible show pick _ _ _ _ _ _;refine O5 ?_) | (apply K1;intro hh;(try simp only[hh,reduceIte,↓M2,M2,Mb,reduceIte]))));done)))
      (intros;(repeat (rename_i hx;subst hx));(try simp only[↓M2,M2,Mb,reduceIte]))
      rename_i w6 hb6
      refine Q16 hj' ?_
      rw[Nat.mul_one]
      refine Eq.subst (motive:=fun V=>Y0 P T.u (.pointer (some ((⟨bs[i],0,none⟩:Addr).add j))) V w6 _) (show Value.bool (m5 i j||(m5 i k&&m5 k j))=_ from by simp[h1]) ?_
      refine Ug ((hM5.up hb6.stp).2 i hi6) (by rw[Q0q];exact hj') (by rfl) (by rfl) fun w7 u7 hm7=>?_
      (try simp only[↓M1,M1,Mb,reduceIte])
      exact Y6 (by omega) hj' ⟨_,u7.stp (hS5.trans hb6.stp) (hb2 _ (List.getElem_mem hi6)).1 hm7.1,(hM5.up hb6.stp).set hi6 u7 hm7,hC5.next hk' hi' hj'⟩
    ·have hj0:j=l.length:=by
      have: ¬j<l.length:=by simpa using hc
      omega
     subst hj0
     refine L8 ?_
     exact Y6 (by omega) hi' ⟨m5,hS5,hM5,hC5.row⟩
   ·have hi0:i=l.length:=by
     have: ¬i<l.length:=by simpa using hc
     omega
    subst hi0
    refine L8 ?_
    exact Y6 (by omega) hk' ⟨m4,hS4,hM4,hC4.round⟩
  ·have hk0:k=l.length:=by
    have: ¬k<l.length:=by simpa using hc
    omega
   subst hk0
   obtain ⟨σ9,hS9,le9,hrows⟩:=hM3.keep hpos (by omega) hS3 (fun b hb=>(hb2 b hb).1)
   refine h _ _ _ hS9 ((hv8.lift le9).conv (by simp[G7,hlb]) fun i hi hj cs hcs=>?_)
   have hcs:cs=_:=hcs
   subst hcs
   refine ⟨_,rfl,?_⟩
   have:=hrows i hi
   have he:(G7 l)[i]=(List.range l.length).map (m3 i):=by
    have hi':i<l.length:=by omega
    simp only[G7,List.getElem_map,List.getElem_range]
    apply List.map_congr_left
    intro j hj
    exact (Clos.all ho hC3 hi' (by simpa using hj)).symm
   rw[he];exact this)
end Go.Proofs.YtjdiakhipmggjaaGreatDoor

namespace Go.Emb
open Go.RowKit Go.Hm
end Go.Emb
namespace Go.Hm
end Go.Hm
namespace Go.Proofs.YtjdiakhipmggjaaGreatDoor
open Go.Emb Go.RowKit Go.Kd Go.Hm
variable {w : World} {K : Value → World → Prop} {σ : Q5} {l : List Cla}
end Go.Proofs.YtjdiakhipmggjaaGreatDoor

namespace Go.Emb
open Go.RowKit Go.Hm
variable {w w0 w1 w' w'' : World} {σ σ0 σ1 σ2 σ' : Q5}
theorem Stp.weak (h:Stp w σ1 w' σ2) (a: ∀b o,σ b=some o→σ1 b=some o):Stp w σ w' σ:=
 ⟨h.bel,fun b o e=>h.sat b o (h.le b o (a b o e)),fun _ _ e=>e,fun _ _=>rfl⟩
end Go.Emb
namespace Go.Proofs.YtjdiakhipmggjaaGreatDoor
open Go.Emb Go.RowKit Go.Kd Go.Hm
variable {w : World} {K : Value → World → Prop} {σ : Q5}
end Go.Proofs.YtjdiakhipmggjaaGreatDoor

namespace Go.Emb
open Go.RowKit Go.Hm
variable {w w' : World} {σ σ' : Q5}
theorem J8.raise {α:Type} {R:Q5→α→List Value→Prop} {B B' sz:Nat} {e:TypeId} {v:Value} {xs:List α} (h:J8 B' e sz R σ w v xs) (m: ∀k,v.ownBlock=some k→B≤k):J8 B e sz R σ w v xs:=by
 obtain ⟨a,f,rfl,p,n,d,o⟩:=h
 refine ⟨a,f,rfl,p,n,fun b c=>⟨(d b c).1,m _ (by subst c;rfl),(d b c).2.2⟩,fun r=>?_⟩
 obtain ⟨g,i,j,rfl,s,q⟩:=o r
 exact ⟨g,i,j,rfl,m g rfl,q⟩
end Go.Emb
namespace Go.Proofs.YtjdiakhipmggjaaGreatDoor
open Go.Emb Go.RowKit Go.Kd Go.Hm
variable {w w' : World} {K : Value → World → Prop} {σ σ' : Q5} {hp tv : Value} {room : Int} {cs : List Cel} {l : List Cla}
theorem RowsIs.rows {B:Nat} {D:Nat→Prop} {n:Value} (h:RowsIs B D σ w n cs) (z:X2 w σ): ∃vs σ',vs.length=cs.length∧X2 w σ'∧SLe σ σ'∧Sl 2 Q3n σ' n (Qq vs cs)∧(∀i (h:i<vs.length) (A:i<cs.length),J8 B T.f 4 O3 σ w vs[i] cs[i].vals∧ ∀k,vs[i].ownBlock=some k→D k)∧(∀k,¬D k→σ' k=σ k)∧
 ∀i (h:i<vs.length) (A:i<cs.length) vals' f,Kpt (fun k=>vs[i].ownBlock=some k) w f→J8 B T.f 4 O3 σ f vs[i] vals'→RowsIs B D σ f n (cs.set i ⟨cs[i].kind,vals'⟩):=by
 obtain ⟨vs,u,g,t,hD⟩:=h.ex
 obtain ⟨r,q⟩:=List.pairwise_cons.1 t
 obtain ⟨σ',v,y,E,o1⟩:=u.freeze z
 refine ⟨vs,σ',g.1,v,y,E,fun i b d=>⟨g.2 i b d,fun k c=>(hD k).2 ⟨vs[i],by simp[List.getElem_mem b],c⟩⟩,fun k c=>o1 k fun e=>c ((hD k).2 ⟨n,by simp,e.symm⟩),fun i b d vals' f c C=>⟨vs,?_,⟨by simpa using g.1,fun j s p=>?_⟩,t,hD⟩⟩
 ·have e:Qq vs (cs.set i ⟨cs[i].kind,vals'⟩)=Qq vs cs:=by
   refine List.ext_getElem (by simp[Qq]) fun j J H=>?_
   simp only[Qq,List.getElem_zipWith,List.getElem_set]
   split
   ·rename_i e;subst e;rfl
   ·rfl
  rw[e]
  exact u.kp c fun k a m=>r _ (List.getElem_mem b) k a m
 ·have o:j<cs.length:=by simpa using p
  simp only[List.getElem_set]
  by_cases e:i=j
  ·subst e;simp only[if_pos];exact C
  ·simp only[if_neg e]
   refine (g.2 j s o).kp c fun k a m=>?_
   have hp:=List.pairwise_iff_getElem.1 q
   rcases Nat.lt_or_gt_of_ne e with hlt | hlt
   ·exact hp i j b s hlt k m a
   ·exact hp j i s b hlt k a m
theorem Q8z {i:Nat} (a:i<cs.length) {vals':List Val} (h:vals'.length=cs[i].vals.length):Y8 (cs.set i ⟨cs[i].kind,vals'⟩)=Y8 cs:=by
 unfold Y8
 rw[List.map_set]
 simp only[h]
 have b:1+(cs[i].vals.length:Int)=(cs.map (fun c=>1+(c.vals.length:Int)))[i]'(by simpa using a):=by simp
 rw[b,List.set_getElem_self]
set_option maxHeartbeats 1000000 in
theorem X16 {B:Nat} {D:Nat→Prop} {r i:Int} {v:Val} (hs:X2 w σ) (hg:Glb σ) (h:HeapIs B D σ w hp tv room cs) (ht:Tab σ tv l) (ok:Ok l) (good: ∀c∈cs,GoodC W5 l cs c) (hv:O3 σ v [I v.sort,I v.n,S v.s,I v.ref])
 (hh: ∀w' σ',Nxt D w σ w' σ'→HeapIs B D σ' w' hp tv room (H5 W5 l cs r i v).1→K (I (H5 W5 l cs r i v).2) w'):Q1 P F.b4 [hp,I r,I i, .agg [I v.sort,I v.n,S v.s,I v.ref].toArray] w K:=Q1C (by
 unfold Hh
 refine Z0 hs fun q w1 σ1 hk1 hq=>?_
 have h1:=h.up hk1
 have hs1:=hk1.sat
 obtain ⟨σf,sf,lef,hsl,_⟩:=h1.freeze hs1
 refine Q79 sf hsl ?_
 unfold H5 at hh
 refine Zz ?_
 by_cases h0:E2 cs r i=0
 case neg=>
  have e:decide (E2 cs r i=0)=false:=decide_eq_false h0
  rw[if_pos h0] at hh
  rw[e]
  refine J3 ?_
  exact hh _ _ (.of_stp hk1) h1
 have e:decide (E2 cs r i=0)=true:=decide_eq_true h0
 rw[if_neg (fun hn=>hn h0)] at hh
 rw[e]
 refine Z7 ?_
 obtain ⟨j,m,rfl,rfl,hj,hm⟩:=Ll h0
 rw[W7 hj,Int.toNat_natCast] at hh
 have hsl0:=hsl
 obtain ⟨a,lv,rfl,la,ls⟩:=hsl
 obtain ⟨vv,p1,p2,p3⟩:=Sl.elO ls hj
 have hqf:=hq.lift lef
 have lesf:SLe σ σf:=SLe.more ⟨hk1.le⟩ lef
 have htf:=ht.lift lesf
 have hone:vv.cells= #[vv]∧vv.oneCell'=true:=by obtain ⟨a,c,rfl,_⟩:=p2;exact ⟨rfl,rfl⟩
 have hgc:=good cs[j] (List.getElem_mem hj)
 have hif:elem cs[j].kind=[]→m<(Y5 l cs[j].kind).length:=fun e=>by
  rcases hgc.is with h | h
  ·exact absurd e h
  ·rw[←h.2];exact hm
 refine U2 sf ?_
 (repeat (apply J6;(· intros;(repeat (rename_i hx;subst hx));(repeat' (first | (with_reducible exact E1 rfl) | (with_reducible exact B2 (Stp.bel (by (repeat (first | exact Stp.refl (by (first | assumption | exact Stp.sat (by assumption) | exact Hst.sat (by assumption))) | assumption | refine Stp.trans ?_ (by first | assumption | exact Hst.stp (by assumption)))))) rfl) | (with_reducible intro _) | (simp only[↓M2,M2,Mb,reduceIte]) | (with_reducible show Q2 _ _ _ _ _;first | refine X7 aS aL aR ?_ | refine Y4 aS aL aR ?_ | refine ld aS aL aR ?_) | (with_reducible show indexAddr _ _ _ _ _ _;refine Y3 aL au ?_) | (with_reducible show X3 _ _ _ _ _ _ _ _;refine Q8 aL ?_) | (with_reducible show G1 _ _ _ _ _ _;refine J4 aR ?_) | (with_reducible show pick _ _ _ _ _ _;refine O5 ?_) | (with_reducible show Q1 _ _ _ _ _;first | refine Q9k au au au au au au au ?_) | (apply K1;intro hh;(try simp only[hh,reduceIte,↓M2,M2,Mb,reduceIte]))));done)))
 (intros;(repeat (rename_i hx;subst hx)))
 rename_i w2 hb2
 refine Q9e hb2.sat (hg.lift lesf) hsl0 htf ok hv.2.2.2.1 (Q2f ok p3 m) fun w3 σ3 hk3=>?_
 have hk13:=(hb2.stp.trans hk3).weak lef.le
 have h3:=h1.up hk13
 have hS3:=hk1.trans hk13
 have hs3:=hk13.sat
 refine Wd ?_
 cases hf:B3 W5 l cs v (Xe l cs[j].kind m) with
 | false=>
  rw[hf] at hh
  simp only[Bool.false_eq_true,if_false] at hh
  refine J3 ?_
  exact hh _ _ (.of_stp hS3) h3
 | true=>
  rw[hf] at hh
  simp only[if_true] at hh
  refine Z7 ?_
  obtain ⟨b,lv',E,hpe,hbB,hm3,hr3,hE,hD⟩:=h3.ex
  obtain ⟨vs,σg,hvl,sg,leg,slg,hrow,hog,hset⟩:=hr3.rows hs3
  obtain ⟨σh,sh,leh,lih,_⟩:=(show Y1 σg w3 b _ from ⟨(hog b hE).trans hm3.1,hm3.2⟩).freeze sg
  cases hpe
  have slh:=slg.lift leh
  have hqh:=(hq.up hk13).lift (leg.more leh)
  have hjv:j<vs.length:=by rw[hvl];exact hj
  have hjo:j<(Qq vs cs).length:=by rw[Df hvl];exact hj
  obtain ⟨cs5,p5,_,r5⟩:=slh.el hjo
  have eo:(Qq vs cs)[j]=(cs[j].kind,vs[j]):=by simp[Qq]
  rw[eo] at r5
  obtain ⟨rfl,_⟩:=r5
  refine U2 sh ?_
  (repeat refine J6 Qt ?_)
  (intros;(repeat (rename_i hx;subst hx)))
  rename_i w4 hb4
  have hk34:=Stp.of_below hs3 hb4.stp.bel
  have N34:Nxt (fun _=>False) w3 σ1 w4 σ1:= .of_stp hk34
  obtain ⟨hrj,hrD⟩:=hrow j hjv hj
  have hrj4:=hrj.up hk34
  have hv1:O3 σ1 v [I v.sort,I v.n,S v.s,I v.ref]:=hv
  refine Q2P (w0:=Kt w4) (σ0:=fun _=>none) (x:=v) (Yh hk34.sat) (hrj4.mono (Nat.zero_le B)) hm rfl hv1 (Rep.one hv1) fun p u w5 hkp hb5 hq5=>?_
  have hkp5:Kpt (fun k=>vs[j].ownBlock=some k) w3 w5:=(Kpt.of_below hk34.bel).trans hkp
  have hr5:=hset j hjv hj _ w5 hkp5 (hq5.raise fun k hk=>(hrj.mem hk).1)
  have N35:Nxt (fun k=>vs[j].ownBlock=some k) w3 σ1 w5 σ1:=⟨hkp5,SLe.refl _,fun _ _=>rfl,hb5.sat⟩
  have hm5:=hm3.nx N35 fun e=>hE (hrD b e)
  have hsv:B5 cs j m v=cs.set j ⟨cs[j].kind,cs[j].vals.set m v⟩:=by unfold B5;rw[W7 hj,Int.toNat_natCast,Int.toNat_natCast]
  rw[hsv] at hh
  have htk:=Q8z hj (vals':=cs[j].vals.set m v) (by simp)
  refine hh w5 σ1 ((Nxt.of_stp hS3).chain N35 fun k _ e=>(hD k).2 (.inr (hrD k e))) ⟨b,lv',E,rfl,hbB,?_,hr5,hE,hD⟩
  rw[htk];exact hm5)
end Go.Proofs.YtjdiakhipmggjaaGreatDoor

namespace Go.Emb
open Go.RowKit Go.Hm
variable {P : Program} {w w' : World} {K : Value → World → Prop} {σ σ' : Q5}
theorem X3c {c:List TypeId} {t:TypeId} {cs:List Bool} {k:IntKind} {a b:Int} (h:K (.int k (max a b)) w):X3 P .max c t cs [.int k a, .int k b] w K:=by
 have d:(builtin .max c.toArray t cs.toArray #[.int k a, .int k b]).run P w= .ok (.value (.int k (max a b))) w:=by
  have:=run_max_int2 (P:=P) (w:=w) c.toArray t k k a b
  have e:(if b>a then b else a)=max a b:=by split<;>omega
  rw[e] at this
  simp[builtin,this]
 unfold X3
 rw[T9];unfold P5
 rw[d];exact h
theorem X32 {c:List TypeId} {t:TypeId} {cs:List Bool} {k:IntKind} {a b:Int} (h:K (.int k (min a b)) w):X3 P .min c t cs [.int k a, .int k b] w K:=by
 have d:(builtin .min c.toArray t cs.toArray #[.int k a, .int k b]).run P w= .ok (.value (.int k (min a b))) w:=by
  have:=run_min_int2 (P:=P) (w:=w) c.toArray t k k a b
  have e:(if b<a then b else a)=min a b:=by split<;>omega
  rw[e] at this
  simp[builtin,this]
 unfold X3
 rw[T9];unfold P5
 rw[d];exact h
theorem X3b {α:Type} {R:Q5→α→List Value→Prop} {B sz:Nat} {e:TypeId} {v:Value} {xs ys:List α} {t:TypeId} {d:Nat} {z:Value} [ts:TS P t e] [tz:TZ P e sz d z] (h:J8 B e sz R σ w v (xs++ys))
 (j: ∀f,J8 B e sz R σ w f xs→f.ownBlock=v.ownBlock→K f w):R2 P t v none (some (I xs.length)) none w K:=by
 have n:=h
 obtain ⟨a,b,rfl,k,o,i,p⟩:=n
 rw[List.length_append] at k
 have c:J8 B e sz R σ w (.slice a xs.length b) xs:=h.pre rfl
 generalize (xs++ys).length=N at*
 have hh: ∀w:World,(Instr.sliceBounds true N b none (some (I xs.length)) none).run P w= .ok (0,xs.length,b) w:=by
  intro w
  have q:(xs.length:Int)≤b:=by omega
  have m:xs.length≤b:=by omega
  simp[Instr.sliceBounds,Instr.sliceBound,asIntOf,m]
  try (intros;omega)
 unfold R2
 have:(Instr.sliceAt t (.slice a N b) none (some (I xs.length)) none).run P w= .ok (.slice (if b=0 then a else a.map (·.add (0*sz))) (xs.length-0) (b-0)) w:=by
  simp[Instr.sliceAt,run_underlying ts.h,Instr.slice,hh,L2 tz]
 rw[X9 this]
 have g:(if b=0 then a else a.map (·.add (0*sz)))=a:=by
  split
  ·rfl
  ·cases a<;>simp[add_zero]
 rw[g,Nat.sub_zero,Nat.sub_zero]
 exact j _ c (by cases a<;>rfl)
end Go.Emb
namespace Go.Proofs.YtjdiakhipmggjaaGreatDoor
open Go.Emb Go.RowKit Go.Kd Go.Hm
variable {w w' : World} {K : Value → World → Prop} {σ σ' : Q5} {hp tv : Value} {room : Int} {cs : List Cel} {l : List Cla}
theorem X2y {v:Val} {ds:List Value} {n:Int} {q:Addr} (d:X2 w σ) (f:O3 σ v ds) (c:Z4 σ q [I n]) (h: ∀w',Below w.heap.size w w'→K (.bool (F9 n v)) w'):Q1 P F.bF [.agg ds.toArray, .pointer (some q)] w K:=Tz (by
 obtain ⟨rfl,_⟩:=f
 unfold Oi
 refine Z0 d fun g w1 σ1 a b=>?_
 unfold F9 at h
 refine W4 ?_
 refine ld a.sat b rfl ?_
 refine K9 ?_
 by_cases e:v.sort=4
 ·rw[decide_eq_true e] at h⊢
  (try simp only[↓M1,M1,Mb,reduceIte])
  refine ld a.sat b rfl ?_
  refine X7 a.sat (c.up a) rfl ?_
  (try simp only[↓M1,M1,Mb,reduceIte])
  exact h _ a.bel
 ·rw[decide_eq_false e] at h⊢
  (try simp only[↓M1,M1,Mb,reduceIte])
  exact h _ a.bel)
theorem Q9x {vs:List Value} {c:Cel} (h:vs.length=cs.length+1): ∃v,Qq vs (cs++[c])=Qq (vs.take cs.length) cs++[(c.kind,v)]:=by
 refine ⟨vs[cs.length],?_⟩
 have e:vs=vs.take cs.length++[vs[cs.length]]:=by
  rw[List.take_append_getElem (by omega)]
  rw[List.take_of_length_le (by omega)]
 conv=>lhs;rw[e]
 unfold Qq
 rw[List.zipWith_append (by simp;omega)]
 rfl
theorem X3B {B n:Nat} {D:Nat→Prop} {o:Value} {c:Cel} (A:n=cs.length) (h:RowsIs B D σ w o (cs++[c])) (y: ∀a r,RowsIs B r σ w a cs→(∀j,r j→D j)→K a w):R2 P T.g o none (some (I n)) none w K:=by
 subst A
 obtain ⟨vs,s,q,u,hD⟩:=h.ex
 have b:vs.length=cs.length+1:=by rw[q.1];simp
 obtain ⟨H,z⟩:=Q9x (c:=c) b
 rw[z] at s
 have C:cs.length=(Qq (vs.take cs.length) cs).length:=by rw[Df (by simp[b])]
 rw[C]
 refine X3b s fun a m t=>?_
 refine y a (fun k=> ∃v∈a::vs.take cs.length,v.ownBlock=some k) ⟨vs.take cs.length,m,⟨by simp[b],fun i E p=>?_⟩,?_,fun k=>Iff.rfl⟩ ?_
 ·have e:i<vs.length:=by omega
  have:=q.2 i e (by simp;omega)
  rw[List.getElem_append_left p] at this
  simpa using this
 ·obtain ⟨g,f⟩:=List.pairwise_cons.1 u
  exact List.pairwise_cons.2 ⟨fun v hv k d=>g v (List.mem_of_mem_take hv) k (t▸d),f.sublist (List.take_sublist _ _)⟩
 ·rintro k ⟨v,hv,d⟩
  rcases List.mem_cons.1 hv with rfl | hv
  ·exact (hD k).2 ⟨o,by simp,t▸d⟩
  ·exact (hD k).2 ⟨v,by simp[List.mem_of_mem_take hv],d⟩
set_option maxHeartbeats 2000000 in
theorem X3F {B:Nat} {D:Nat→Prop} {n:Int} (hs:X2 w σ) (h:HeapIs B D σ w hp tv room cs) (hl:Y8 cs≤1048576) (hn:Yc n)
 (hh: ∀w' σ' D',Nxt D w σ w' σ'→HeapIs B D' σ' w' hp tv room (Iw cs n)→(∀j,D' j→D j)→K (.tuple #[]) w'):Q1 P F.c2 [hp,I n] w K:=Q1y (by
 have hcl:=P9 cs
 unfold Hi
 refine Q53 hs fun b0 w1 hb0 hk1 hm1=>?_
 have hm1:Y1 σ w1 b0 [I n]:=hm1
 refine Q7N hm1 rfl ?_
 refine X3c ?_
 refine st0 hm1 (by simp) rfl rfl fun w2 u2 hm2=>?_
 have hm2:Y1 σ w2 b0 [I (max n 0)]:=hm2
 unfold Iw at hh
 obtain ⟨m,hmE⟩:=Int.eq_ofNat_of_zero_le (show 0≤max n 0 by omega)
 rw[hmE] at hm2 hh
 have hmx:(m:Int)≤9223372036854775807:=by have:=hn.2;omega
 have hk2:Stp w σ w2 σ:=u2.stp hk1 hb0 hm1.1
 obtain ⟨σ2,hS2,hq2,le2,_⟩:=hm2.keep hk2 hb0
 have h2:=h.up hS2
 have hs2:=hS2.sat
 obtain ⟨σf,sf,lef,hsl,_⟩:=h2.freeze hs2
 rw[Int.toNat_natCast] at hh
 obtain ⟨a,lv,rfl,la,ls⟩:=hsl
 have hqf:=hq2.le lef.le
 refine U2 sf ?_
 (repeat (apply J6;(· intros;(repeat (rename_i hx;subst hx));(repeat' (first | (with_reducible exact E1 rfl) | (with_reducible exact B2 (Stp.bel (by (repeat (first | exact Stp.refl (by (first | assumption | exact Stp.sat (by assumption) | exact Hst.sat (by assumption))) | assumption | refine Stp.trans ?_ (by first | assumption | exact Hst.stp (by assumption)))))) rfl) | (with_reducible intro _) | (simp only[↓M2,M2,Mb,reduceIte]) | (with_reducible refine X32 ?_) | (with_reducible show Q2 _ _ _ _ _;first | refine X7 aS aL aR ?_ | refine Y4 aS aL aR ?_ | refine ld aS aL aR ?_) | (with_reducible show indexAddr _ _ _ _ _ _;refine Y3 aL au ?_) | (with_reducible show X3 _ _ _ _ _ _ _ _;refine Q8 aL ?_) | (with_reducible show G1 _ _ _ _ _ _;refine J4 aR ?_) | (with_reducible show pick _ _ _ _ _ _;refine O5 ?_) | (apply K1;intro hh;(try simp only[hh,reduceIte,↓M2,M2,Mb,reduceIte]))));done)))
 (intros;(repeat (rename_i hx;subst hx)))
 rename_i w3 hb3
 have hmin:min (m:Int) (cs.length:Int)=((min m cs.length:Nat):Int):=by omega
 rw[hmin]
 refine Dq ls none (some (I (min m cs.length:Nat))) 0 (min m cs.length) (.inl ⟨rfl,rfl⟩) (.inr rfl) (Nat.zero_le _) (Nat.min_le_right _ _) fun v3 hv3=>?_
 rw[List.drop_zero,Nat.sub_zero,List.take_eq_take_min.symm] at hv3
 refine Q8 hv3 ?_
 have hk23: ∀{w' σ'},Stp w3 σf w' σ'→Stp w2 σ2 w' σ2:=fun hk=>(hb3.stp.trans hk).weak lef.le
 refine U1 (cs.take m).length (fun i w'=> ∃σ',Stp w3 σf w' σ'∧((cs.take m).take i).any (fun c=>c.vals.any (F9 m))=false) ⟨σf,Stp.refl hb3.sat,rfl⟩ fun i w4 d hi hinv=>?_
 obtain ⟨σ4,hk4,hno⟩:=hinv
 refine Z2 ?_
 refine Q7 (fun hc=>?_) (fun hc=>?_)
 ·have hi':i<(cs.take m).length:=by simpa using hc
  have hv4:=hv3.up hk4
  obtain ⟨vv,p1,p2,p3⟩:=Sl.elO hv4 hi'
  refine Y3 hv4 hi' ?_
  refine Y4 hk4.sat p1 rfl ?_
  refine Y9 hk4.sat (by rfl) rfl (Rep.one (R:=R5) ⟨vv,rfl,p2,p3⟩) fun q5 w5 σ5 hk5 hq5=>?_
  rw[fa]
  refine ld hk5.sat hq5 rfl ?_
  rw[A9]
  have hq5f:=hqf.lift (SLe.more ⟨hk4.le⟩ ⟨hk5.le⟩)
  refine Se (F9 m) hk5.sat (p2.up hk5) (fun v ds w6 K hv hs6 hr hlen hK=>Z6 (first:=[]) (caps:=[.pointer (some ⟨b0,0,none⟩)]) (X2y hs6 hr hq5f hK)) fun w6 hb6=>?_
  have hk6:=(hk4.trans hk5).trans (Stp.of_below hk5.sat hb6)
  have hnx:=L4 (p:=fun c:Cel=>c.vals.any (F9 m)) hi'
  cases hany:(cs.take m)[i].vals.any (F9 m) with
  | true=>
   refine J3 ?_
   rw[if_pos (S1 hi' hany)] at hh
   have hS:=hS2.trans (hk23 hk6)
   exact hh _ _ D (.of_stp hS) (h.up hS) fun j hj=>hj
  | false=>
   refine Z7 ?_
   refine L8 ?_
   refine Y6 hv3.max hi' ⟨σ5,hk6,?_⟩
   rw[hnx,hno,hany];rfl
 have hi': ¬i<(cs.take m).length:=by simpa using hc
 rw[D9 hi'] at hno
 rw[if_neg (by rw[hno];simp)] at hh
 have hS4:=hS2.trans (hk23 hk4)
 have h4:=h.up hS4
 refine Kp (fun k (_:Unit) w'=> ∃D',Nxt D w σ w' σ2∧HeapIs B D' σ2 w' (.pointer (some a)) tv room (cs.take k)∧(∀j,D' j→D j)∧k≤cs.length∧(m≤k∨k=cs.length)) cs.length ⟨D, .of_stp hS4,by rw[List.take_length];exact h4,fun j hj=>hj,Nat.le_refl _, .inr rfl⟩ ?_
 rintro again k x d w5 ⟨D5,N5,h5,hD5,hkl,hmk⟩ hag
 have hs5:=N5.sat
 have htk:Y8 (cs.take k)≤1048576:=by
  have e:Y8 cs=Y8 (cs.take k)+Y8 (cs.drop k):=by rw[←I5,List.take_append_drop]
  have:=L9 (cs.drop k)
  omega
 obtain ⟨σg,sg,leg,hslg,_⟩:=h5.freeze hs5
 obtain ⟨ag,lvg,hpe,lag,lsg⟩:=hslg
 cases hpe
 have hqg:=(show Z4 σ2 ⟨b0,0,none⟩ [I (m:Int)] from hq2).lift leg
 have hlk:(cs.take k).length=k:=by rw[List.length_take];omega
 refine U2 sg ?_
 (repeat refine J6 Qt ?_)
 (intros;(repeat (rename_i hx;subst hx)))
 rename_i w6 hb6
 have hk56:Stp w5 σ2 w6 σ2:=hb6.stp.weak leg.le
 have h6:=h5.up hk56
 have N6:=N5.chain (Nxt.of_stp (D:=fun _=>False) hk56) fun j _ e=>e.elim
 rw[hlk]
 refine Q1v ?_
 by_cases hgt:m<k
 case neg=>
  rw[decide_eq_false (show¬(m:Int)<(k:Int) by omega)]
  refine Z7 ?_
  have e:cs.take m=cs.take k:=by
   rcases hmk with e | e
   ·rw[show m=k by omega]
   ·rw[e,List.take_length,List.take_of_length_le (by omega)]
  rw[e] at hh
  exact hh w6 σ2 D5 N6 h6 hD5
 rw[decide_eq_true (show (m:Int)<(k:Int) by omega)]
 refine J3 ?_
 obtain ⟨k1,rfl⟩: ∃k1,k=k1+1:=⟨k-1,by omega⟩
 have hk1l:k1<cs.length:=by omega
 have esnoc:cs.take (k1+1)=cs.take k1++[cs[k1]]:=by rw[List.take_append_getElem hk1l]
 have hk1t:(cs.take k1).length=k1:=by rw[List.length_take];omega
 obtain ⟨σh,sh,leh,hslh,_⟩:=h6.freeze hk56.sat
 obtain ⟨b,lv6,E6,hpb,hbB,hm6,hr6,hE6,hDe6⟩:=h6.ex
 cases hpb
 obtain ⟨ah,lvh,hpe,lah,lsh⟩:=hslh
 cases hpe
 rw[M3,fa]
 refine Xx hm6 rfl ?_
 obtain ⟨al,capl,hle⟩:=hr6.len
 rw[hlk] at hle
 subst hle
 rw[Q1r]
 refine Zg ⟨by omega,by omega⟩ ?_
 have ek:((k1+1:Nat):Int)-1=(k1:Int):=by omega
 rw[ek]
 have hkk:k1<(cs.take (k1+1)).length:=by omega
 obtain ⟨vvk,pk,pk2,_⟩:=Sl.elO lsh hkk
 have evk:((cs.take (k1+1))[k1]'hkk).vals=cs[k1].vals:=by simp
 rw[evk] at pk2
 refine U2 sh ?_
 (repeat refine J6 Qt ?_)
 (intros;(repeat (rename_i hx;subst hx)))
 rename_i w7 hb7
 have hk67:Stp w6 σ2 w7 σ2:=hb7.stp.weak leh.le
 have htn:=L9 (cs.take k1)
 have etk:Y8 (cs.take (k1+1))=Y8 (cs.take k1)+(1+(cs[k1].vals.length:Int)):=by
  rw[esnoc,I5];simp[Y8]
 rw[S7 (by omega) (by omega)]
 refine Zg ⟨by omega,by omega⟩ ?_
 have eu:Y8 (cs.take (k1+1))-(1+(cs[k1].vals.length:Int))=Y8 (cs.take k1):=by omega
 rw[eu]
 have hm7:=hm6.up hk67
 have hr7:=hr6.up hk67
 rw[M3,fa]
 refine Ug hm7 (by simp) rfl rfl fun w8 u8 hm8=>?_
 have N78:=Nxt.of_upd hk67.sat u8 hm7.1
 have hr8:=hr7.nx N78 fun j hj e=>hE6 (e▸hj)
 rw[M3,fa]
 refine Xx hm8 rfl ?_
 rw[esnoc] at hr8
 refine X3B hk1t.symm hr8 fun lv9 E9 hr9 hE9=>?_
 rw[M3,fa]
 refine Ug hm8 (by simp) hr9.shape.1 hr9.shape.2 fun w9 u9 hm9=>?_
 have N89:=Nxt.of_upd N78.sat u9 hm8.1
 have hE9b: ¬E9 b:=fun e=>hE6 (hE9 b e)
 have hr9':=hr9.nx N89 fun j hj e=>hE9b (e▸hj)
 have hDb:D5 b:=(hDe6 b).2 (.inl rfl)
 have N9:Nxt D w σ w9 σ2:=((N6.chain (Nxt.of_stp (D:=fun _=>False) hk67) fun j _ e=>e.elim).chain N78 fun j _ e=>e▸hD5 b hDb).chain N89 fun j _ e=>e▸hD5 b hDb
 refine hag k1 _ _ (Nat.lt_succ_self _) ⟨fun j=>j=b∨E9 j,N9,⟨b,lv9,E9,rfl,hbB,hm9,hr9',hE9b,fun j=>Iff.rfl⟩,fun j hj=>?_,by omega, .inl (by omega)⟩
 rcases hj with rfl | hj
 ·exact hD5 _ hDb
 ·exact hD5 j ((hDe6 j).2 (.inr (hE9 j hj))))
end Go.Proofs.YtjdiakhipmggjaaGreatDoor

namespace Go.Emb
open Go.RowKit Go.Hm
variable {P : Program} {w w' w0 : World} {K : Value → World → Prop} {σ σ' σ0 : Q5}
theorem Nxt.stp' {D:Nat→Prop} (N:Nxt D w σ w' σ') (a:Stp w0 σ0 w σ) (f: ∀k,D k→w0.heap.size≤k):Stp w0 σ0 w' σ':=
 ⟨⟨N.kp.os.trans a.bel.os,N.kp.tape.trans a.bel.tape,N.kp.output.trans a.bel.output,Nat.le_trans a.bel.size N.kp.size,fun k c=>(N.kp.block k (Nat.lt_of_lt_of_le c a.bel.size) fun h=>absurd (f k h) (by omega)).trans (a.bel.block k c)⟩,N.sat,fun b o e=>N.le.le b o (a.le b o e),fun b d=>(N.old b (Nat.lt_of_lt_of_le d a.bel.size)).trans (a.old b d)⟩
end Go.Emb
namespace Go.Proofs.YtjdiakhipmggjaaGreatDoor
open Go.Emb Go.RowKit Go.Kd Go.Hm
variable {w w' : World} {K : Value → World → Prop} {σ σ' : Q5} {hp tv : Value} {room : Int} {cs : List Cel} {l : List Cla}
theorem RowsIs.nil {B:Nat}:RowsIs B (fun _=>False) σ w (.slice none 0 0) []:=
 ⟨[],J8.of_acc V5.nil,⟨rfl,fun i h=>absurd h (Nat.not_lt_zero i)⟩,List.pairwise_singleton _ _,fun k=>by simp[Value.ownBlock]⟩
end Go.Proofs.YtjdiakhipmggjaaGreatDoor

namespace Go.Proofs.YtjdiakhipmggjaaGreatDoor
open Go.Emb Go.RowKit Go.Kd Go.Hm
variable {w : World} {K : Value → World → Prop} {σ : Q5} {l : List Cla} {v : Value}
theorem Q4b {c:Cla} {n:X0} (h:Ri c n=none):B6 c n=none:=by
 unfold B6 Ri at*
 rw[List.findIdx?_eq_none_iff] at h
 rw[List.find?_eq_none]
 intro m a
 have:=h m a
 simpa using this
theorem Q7j {c:Cla} {n:X0} {i:Nat} (h:Ri c n=some i): ∃a:i<c.methods.length,B6 c n=some c.methods[i]:=by
 unfold B6 Ri at*
 obtain ⟨a,e,d⟩:=List.findIdx?_eq_some_iff_getElem.1 h
 refine ⟨a,List.find?_eq_some_iff_getElem.2 ⟨e,i,a,rfl,fun j b=>?_⟩⟩
 have:=d j b
 simpa using this
theorem Q0b {n:X0} (h:lk l n=none):Z1 l n=none:=by
 cases b:Z1 l n with
 | none=>rfl
 | some i=>obtain ⟨c,a,_⟩:=Zd b;rw[h] at a;cases a
set_option maxHeartbeats 1000000 in
theorem Q90 {n:X0} (ok:Ok l): ∀(k:Nat) {c:Cla} {cs:List Value} {w:World} {σ:Q5} {K:Value→World→Prop},K3 l c.name<k→lk l c.name=some c→X2 w σ→Sl 8 V0 σ v l→V0 σ c cs→
 (∀pv cv hv w' Z,Stp w σ w' Z→E5 Z (o2 (V4 l c n)) [S (o2 (V4 l c n)).name,pv,S (o2 (V4 l c n)).result, .bool (o2 (V4 l c n)).abs,I (o2 (V4 l c n)).locals,cv,hv]→
  K (.tuple #[S (o1 (V4 l c n)), .agg [S (o2 (V4 l c n)).name,pv,S (o2 (V4 l c n)).result, .bool (o2 (V4 l c n)).abs,I (o2 (V4 l c n)).locals,cv,hv].toArray, .bool (V4 l c n).isSome]) w')→
 Q1 P F.aK [v, .agg cs.toArray,S n] w K:=by
 intro k
 induction k with
 | zero=>
  intro c cs w σ K hk
  omega
 | succ k ih=>
  intro c cs w σ K hk hc hs hv hr h
  refine Pe ?_
  obtain ⟨lv,fv,mv,rfl,g1,g2,g3,g4,g5⟩:=hr
  have D:=Q43 ok.acy hc n
  generalize hf:(fun u=>match lk l u with | none=>none | some d=>match B6 d n with | some m=>some (u,m) | none=>V4 l d n)=f at D
  unfold Na
  refine Z0 hs fun a w1 σ1 H ba=>?_
  refine M8 H.sat fun b w2 σ2 hb L a5=>?_
  have Y:w.heap.size≤b:=M7 hb H
  have ay:=ba.up L
  have g1:=(g1.up H).up L
  refine U1 c.like.length (fun i w'=> ∃Z,Stp w σ w' Z∧SLe σ2 Z∧Y1 Z w' b [S [], .slice none 0 0,S [], .bool false,I 0, .slice none 0 0, .slice none 0 0]∧(c.like.take i).findSome? f=none) ⟨σ2,H.trans L,SLe.refl _,a5,rfl⟩ fun i w3 d hi ah=>?_
  obtain ⟨σ3,e,U,ai,A⟩:=ah
  have M:=hv.up e
  have V:=ay.lift U
  have C:=g1.lift U
  (try simp only[↓M1,M1,Mb,reduceIte])
  refine ld e.sat V rfl ?_
  refine Q8 C ?_
  refine Z2 ?_
  refine Q7 (fun hh=>?_) (fun hh=>?_)
  ·have g:i<c.like.length:=by simpa using hh
   (try simp only[↓M1,M1,Mb,reduceIte])
   refine ld e.sat V rfl ?_
   refine Y3 C g ?_
   obtain ⟨p0,_⟩:=C.elS g
   refine X7 e.sat p0 rfl ?_
   obtain ⟨d,hd⟩:=ok.full c (V3 hc).2.1 _ (List.getElem_mem g)
   obtain ⟨X,bj,_⟩:=V3 hd
   have p:f c.like[i]=match B6 d n with | some m=>some (c.like[i],m) | none=>V4 l d n:=by rw[←hf];simp only[hd]
   refine Cp e.sat M hd fun j hj bx=>?_
   obtain ⟨aj,a7⟩:=List.getElem?_eq_some_iff.1 hj
   refine Y3 M aj ?_
   obtain ⟨bp,bn,bv,p1,r1⟩:=M.elC aj
   rw[a7] at p1 r1
   refine Y4 e.sat p1 rfl ?_
   refine Y9 e.sat (by rfl) rfl (Rep.one r1) fun q w4 σ4 o N=>?_
   refine Y4 o.sat N rfl ?_
   refine Q77 o.sat (RCl_lift r1 ⟨o.le⟩) fun w5 σ5 t=>?_
   refine P0 ?_
   rw[T2]
   have z:=(e.trans o).trans t
   have E:=(ai.step o).step t
   have a0:=N.up t
   have r5:=RCl_lift r1 ⟨(o.trans t).le⟩
   have R:=t.sat
   have ar:SLe σ2 σ5:=U.more ⟨(o.trans t).le⟩
   clear N p1 r1 p0 V C o t
   cases ho:Ri d n with
   | some i2=>
    obtain ⟨a2,a1⟩:=Q7j ho
    rw[a1] at p
    simp only[Option.isSome_some,L5,↓M1,M1,Mb,reduceIte]
    obtain ⟨_,_,a9,_,_⟩:=r5.parts
    obtain ⟨pv,cv,bw,p2,r2⟩:=a9.elM a2
    refine U2 R ?_
    (repeat refine J6 Qt ?_)
    (intros;(repeat (rename_i hx;subst hx));(try simp only[↓M2,M2,Mb,reduceIte]))
    rename_i w6 ae
    refine F8 (E.step ae.stp) (z.trans ae.stp) Y rfl rfl (Rep.one r2) fun w8 aq a6=>?_
    refine V1 a6 rfl ?_
    have O:=D.trans (Xq g A p)
    rw[O] at h
    rw[X]
    exact h _ _ _ w8 σ5 aq.stp r2
   | none=>
    rw[Q4b ho] at p
    simp only[Option.isSome_none,↓M1,M1,Mb,reduceIte]
    refine Y4 R a0 rfl ?_
    have bq:=Xt ok.acy hc (by simp[U3,List.getElem_mem g]:c.like[i]∈U3 c) hd
    refine ih (by rw[X];omega) (by rw[X];exact hd) R (hv.up z) r5 fun pv cv bu w8 σ8 B Q=>?_
    refine J5 (vs:=[_,_,_]) rfl ?_
    refine J5 (vs:=[_,_,_]) rfl ?_
    refine J5 (vs:=[_,_,_]) rfl ?_
    refine Y9 B.sat (by rfl) rfl (Rep.one Q) fun q w9 σ9 y ax=>?_
    have ag:=(z.trans B).trans y
    have ab:=(E.step B).step y
    have W:=RMe_lift Q ⟨y.le⟩
    have ap:SLe σ2 σ9:=ar.more ⟨(B.trans y).le⟩
    have av:=y.sat
    cases O:V4 l d n with
    | some r=>
     obtain ⟨s,m⟩:=r
     rw[O] at p W ax
     clear Q B y
     simp only[O,Option.isSome_some,↓M1,M1,Mb,reduceIte]
     refine U2 av ?_
     (repeat refine J6 Qt ?_)
     (intros;(repeat (rename_i hx;subst hx));(try simp only[↓M2,M2,Mb,reduceIte]))
     rename_i bs J
     refine F8 (ab.step J.stp) (ag.trans J.stp) Y rfl rfl (Rep.one W) fun a8 ak ad=>?_
     refine V1 ad rfl ?_
     have aw:=D.trans (Xq g A p)
     rw[aw] at h
     exact h _ _ _ a8 σ9 ak.stp W
    | none=>
     rw[O] at p
     simp only[Option.isSome_none,↓M1,M1,Mb,reduceIte]
     refine Y6 (by have:=g1.max;omega) g ⟨σ9,ag,ap,ab,?_⟩
     rw[Xp g A];exact p
  ·have g: ¬i<c.like.length:=by simpa using hh
   rw[List.take_of_length_le (by omega)] at A
   refine Fq ?_
   refine F8 ai e Y rfl rfl (Rep.one (Qo (σ:=σ3))) fun w5 z E=>?_
   refine V1 E rfl ?_
   have O:=D.trans A
   rw[O] at h
   exact h _ _ _ w5 σ3 z.stp Qo
set_option maxHeartbeats 1000000 in
theorem Q7B {k n:X0} (hs:X2 w σ) (hv:Sl 8 V0 σ v l) (ok:Ok l)
 (h: ∀pv cv hv w' O,Stp w σ w' O→E5 O (o2 (V2 l k n)) [S (o2 (V2 l k n)).name,pv,S (o2 (V2 l k n)).result, .bool (o2 (V2 l k n)).abs,I (o2 (V2 l k n)).locals,cv,hv]→
  K (.tuple #[S (o1 (V2 l k n)), .agg [S (o2 (V2 l k n)).name,pv,S (o2 (V2 l k n)).result, .bool (o2 (V2 l k n)).abs,I (o2 (V2 l k n)).locals,cv,hv].toArray, .bool (V2 l k n).isSome]) w'):
 Q1 P F.bf [v,S k,S n] w K:=Fi (by
 unfold Wq
 refine M8 hs fun b w1 σ1 hb aa a4=>?_
 refine I0 aa.sat (hv.up aa) ?_
 unfold V2 at h
 generalize hF:(fun c:Cla=>(B6 c n).map (c.name,·))=F1 at h
 have aj: ∀c,F1 c=(B6 c n).map (c.name,·):=fun c=>by rw[←hF]
 refine Kp (fun m x w'=> ∃s D O,m=(chain l s).length∧x=I (L5 (Z1 l s))∧chain l k=D++chain l s∧Stp w σ w' O∧Y1 O w' b [S [], .slice none 0 0,S [], .bool false,I 0, .slice none 0 0, .slice none 0 0]∧D.findSome? F1=none)
  (chain l k).length ⟨k,[],σ1,rfl,rfl,rfl,aa,a4,rfl⟩ ?_
 rintro U m x d w2 ⟨s,D,σ2,rfl,rfl,a,E,ag,e⟩ J
 have C:=hv.up E
 have Y:=E.sat
 refine P0 ?_
 rw[T2]
 cases A:lk l s with
 | some c=>
  obtain ⟨ao,a6,i,Q,R⟩:=V3 A
  obtain ⟨g,Z⟩:=List.getElem?_eq_some_iff.1 R
  simp only[Q,Option.isSome_some,L5,↓M1,M1,Mb,reduceIte]
  refine Y3 C g ?_
  obtain ⟨lv,fv,mv,y,L⟩:=C.elC g
  rw[Z] at y L
  refine Y4 Y y rfl ?_
  refine Q77 Y L fun w3 σ3 t=>?_
  refine P0 ?_
  rw[T2]
  have o:=E.trans t
  have p:=C.up t
  have z:=ag.step t
  have u:=t.sat
  replace y:=y.up t
  replace L:=RCl_lift L ⟨t.le⟩
  have j:chain l s=c::chain l c.super:=by rw[T4 ok.acy s,A]
  cases V:Ri c n with
  | some i2=>
   obtain ⟨av,ar⟩:=Q7j V
   simp only[Option.isSome_some,L5,↓M1,M1,Mb,reduceIte]
   obtain ⟨_,_,a2,_,_⟩:=L.parts
   obtain ⟨pv,cv,bi,p2,r2⟩:=a2.elM av
   clear t
   refine U2 u ?_
   (repeat refine J6 Qt ?_)
   (intros;(repeat (rename_i hx;subst hx));(try simp only[↓M2,M2,Mb,reduceIte]))
   rename_i w4 am
   refine F8 (z.step am.stp) (o.trans am.stp) hb rfl rfl (Rep.one r2) fun w8 ax ay=>?_
   refine V1 ay rfl ?_
   have H:(chain l k).findSome? F1=some (c.name,c.methods[i2]):=by
    rw[a,List.findSome?_append,e,j,List.findSome?_cons,aj,ar];rfl
   rw[H] at h
   exact h _ _ _ w8 σ3 ax.stp r2
  | none=>
   simp only[Option.isSome_none,↓M1,M1,Mb,reduceIte]
   refine Y3 p g ?_
   (try simp only[↓M1,M1,Mb,reduceIte])
   refine ld u y rfl ?_
   refine I0 u p ?_
   refine J (chain l c.super).length _ _ (by rw[j,List.length_cons];omega) ⟨c.super,D++[c],σ3,rfl,rfl,by rw[a,j];simp,o,z,?_⟩
   rw[List.findSome?_append,e]
   simp[aj,Q4b V]
 | none=>
  rw[Q0b A]
  simp only[Option.isSome_none,↓M1,M1,Mb,reduceIte]
  have ai:(chain l k).findSome? F1=none:=by rw[a,Ys A,List.append_nil];exact e
  rw[ai] at h
  clear J e a
  refine I0 Y C ?_
  refine Kp (fun m x w'=> ∃s D O,m=(chain l s).length∧x=I (L5 (Z1 l s))∧chain l k=D++chain l s∧Stp w σ w' O∧Y1 O w' b [S [], .slice none 0 0,S [], .bool false,I 0, .slice none 0 0, .slice none 0 0]∧D.findSome? (fun c=>V4 l c n)=none)
   (chain l k).length ⟨k,[],σ2,rfl,rfl,rfl,E,ag,rfl⟩ ?_
  rintro U m x d w3 ⟨s,D,σ3,rfl,rfl,a,o,z,e⟩ J
  have p:=hv.up o
  have u:=o.sat
  refine P0 ?_
  rw[T2]
  cases A:lk l s with
  | some c=>
   obtain ⟨ao,a6,i,Q,R⟩:=V3 A
   obtain ⟨g,Z⟩:=List.getElem?_eq_some_iff.1 R
   simp only[Q,Option.isSome_some,L5,↓M1,M1,Mb,reduceIte]
   refine Y3 p g ?_
   obtain ⟨lv,fv,mv,y,L⟩:=p.elC g
   rw[Z] at y L
   refine Y4 u y rfl ?_
   have j:chain l s=c::chain l c.super:=by rw[T4 ok.acy s,A]
   refine Q90 ok _ (Nat.lt_succ_self _) (by rw[ao];exact A) u p L fun pv cv bb w8 σ8 ac W=>?_
   refine J5 (vs:=[_,_,_]) rfl ?_
   refine J5 (vs:=[_,_,_]) rfl ?_
   refine J5 (vs:=[_,_,_]) rfl ?_
   refine Y9 ac.sat (by rfl) rfl (Rep.one W) fun q w9 σ9 B a1=>?_
   have f:=ac.trans B
   have ae:=o.trans f
   have af:=z.step f
   have ab:=RMe_lift W ⟨B.le⟩
   have X:=B.sat
   have an:=p.up f
   replace y:=y.up f
   cases V:V4 l c n with
   | some r=>
    obtain ⟨s,m⟩:=r
    rw[V] at ab a1
    clear W ac B f
    simp only[V,Option.isSome_some,↓M1,M1,Mb,reduceIte]
    refine U2 X ?_
    (repeat refine J6 Qt ?_)
    (intros;(repeat (rename_i hx;subst hx));(try simp only[↓M2,M2,Mb,reduceIte]))
    rename_i ba N
    refine F8 (af.step N.stp) (ae.trans N.stp) hb rfl rfl (Rep.one ab) fun az al ak=>?_
    refine V1 ak rfl ?_
    have H:(chain l k).findSome? (fun c=>V4 l c n)=some (s,m):=by
     rw[a,List.findSome?_append,e,j,List.findSome?_cons,V];rfl
    unfold V4 at H
    rw[H] at h
    exact h _ _ _ az σ9 al.stp ab
   | none=>
    simp only[Option.isSome_none,↓M1,M1,Mb,reduceIte]
    refine Y3 an g ?_
    (try simp only[↓M1,M1,Mb,reduceIte])
    refine ld X y rfl ?_
    refine I0 X an ?_
    refine J (chain l c.super).length _ _ (by rw[j,List.length_cons];omega) ⟨c.super,D++[c],σ9,rfl,rfl,by rw[a,j];simp,ae,af,?_⟩
    rw[List.findSome?_append,e]
    simp[V]
  | none=>
   rw[Q0b A]
   simp only[Option.isSome_none,↓M1,M1,Mb,reduceIte]
   have M:(chain l k).findSome? (fun c=>V4 l c n)=none:=by rw[a,Ys A,List.append_nil];exact e
   refine Fq ?_
   refine F8 z o hb rfl rfl (Rep.one (Qo (σ:=σ3))) fun w7 a0 aw=>?_
   refine V1 aw rfl ?_
   unfold V4 at M
   rw[M] at h
   exact h _ _ _ w7 σ3 a0.stp Qo)
end Go.Proofs.YtjdiakhipmggjaaGreatDoor

namespace Go.Hm
open Go.Kd
theorem Q26: ∀(xs:List X0) (x:X0),xs≠[]→H8 (xs++[x])=H8 xs++[44]++x
 | [],_,h=>absurd rfl h
 | [a],x,_=>by simp[H8]
 | a::b::r,x,_=>by
  have:=Q26 (b::r) x (by simp)
  simp only[List.cons_append] at this⊢
  simp only[H8,this]
  simp
theorem Q28 {xs:List X0} {n:Nat} (h:n<xs.length):H8 (xs.take (n+1))=H8 (xs.take n)++(if 0<n then [44] else [])++xs[n]:=by
 rw[List.take_add_one,List.getElem?_eq_getElem h]
 simp only[Option.toList_some]
 cases n with
 | zero=>simp[H8]
 | succ n=>
  rw[Q26 _ _ (by intro e;have:=congrArg List.length e;simp only[List.length_take,List.length_nil] at this;omega)]
  simp
end Go.Hm
namespace Go.Proofs.YtjdiakhipmggjaaGreatDoor
open Go.Emb Go.RowKit Go.Kd Go.Hm
variable {w : World} {K : Value → World → Prop} {σ : Q5} {l : List Cla} {v : Value}
theorem Q5q {m:Hm.Met} {cs:List Value} (A:X2 w σ) (D:E5 σ m cs) (k:SmM m) (p:NmM m) (h: ∀w' E,Stp w σ w' E→K (S (Qp m)) w'):Q1 P F.aT [.agg cs.toArray] w K:=Aq (by
 obtain ⟨pv,Q,O,rfl,f,L,N,M,R,U⟩:=D
 unfold Of
 refine Z0 A fun q w1 σ1 g j=>?_
 have f:=f.up g
 have C: ∀n,(H8 (m.params.take n)).length≤101000000:=fun n=>by
  have:=Hu (m.params.take n) fun x t=>p.2 x (List.mem_of_mem_take t)
  have y:(m.params.take n).length≤1000000:=by rw[List.length_take];have:=k.1;omega
  have H:(m.params.take n).length*101≤1000000*101:=Nat.mul_le_mul_right _ y
  omega
 have c:=g.sat
 refine E3 m.params.length (fun n a w'=>w'=w1∧a=S ([40]++H8 (m.params.take n))) ⟨rfl,by simp[H8]⟩ fun n a J d B i=>?_
 obtain ⟨z,rfl⟩:=i
 subst z
 have o:=C n
 (try simp only[↓M1,M1,Mb,reduceIte])
 refine ld c j rfl ?_
 refine Q8 f ?_
 refine Z2 ?_
 refine Q7 (fun r=>?_) (fun r=>?_)
 ·have b:n<m.params.length:=by simpa using r
  have t:=p.2 _ (List.getElem_mem b)
  refine U6 ?_
  obtain ⟨u,_⟩:=f.elS b
  refine Q7 (fun s=>?_) (fun s=>?_)
  ·have e:0<n:=by have:=of_decide_eq_true s;omega
   refine Hy (by simp only[List.length_append,List.length_cons,List.length_nil];omega) ?_
   intro d
   (try simp only[↓M1,M1,Mb,reduceIte])
   refine ld c j rfl ?_
   refine Y3 f b ?_
   refine X7 c u rfl ?_
   refine Hy (by simp only[List.length_append,List.length_cons,List.length_nil];omega) ?_
   (try simp only[↓M1,M1,Mb,reduceIte])
   refine Z9 f.max b ⟨rfl,?_⟩
   rw[Q28 b,if_pos e];simp
  ·have e: ¬0<n:=by have:=of_decide_eq_false s;omega
   intro d
   (try simp only[↓M1,M1,Mb,reduceIte])
   refine ld c j rfl ?_
   refine Y3 f b ?_
   refine X7 c u rfl ?_
   refine Hy (by simp only[List.length_append,List.length_cons,List.length_nil];omega) ?_
   (try simp only[↓M1,M1,Mb,reduceIte])
   refine Z9 f.max b ⟨rfl,?_⟩
   rw[Q28 b,if_neg e];simp
 ·have b: ¬n<m.params.length:=by simpa using r
  rw[List.take_of_length_le (by omega)] at o⊢
  refine Hy (by simp only[List.length_append,List.length_cons,List.length_nil];omega) ?_
  (try simp only[↓M1,M1,Mb,reduceIte])
  refine ld c j rfl ?_
  refine Hy (by simp only[List.length_append,List.length_cons,List.length_nil];have:=p.1;omega) ?_
  exact h _ _ g)
end Go.Proofs.YtjdiakhipmggjaaGreatDoor

namespace Go.Emb
open Go.RowKit Go.Hm
structure FinT (B : Nat) (F : Option Obj → Prop) (w w' : World) : Prop where
  os : w'.os = w.os
  tape : w'.tape = w.tape
  output : w'.output = w.output
  size : w.heap.size ≤ w'.heap.size
  old : ∀ k, k < w.heap.size → k < B → w'.heap[k]? = w.heap[k]?
  new : ∀ k, k < w.heap.size → w'.heap[k]? = w.heap[k]? ∨ F (w'.heap[k]?)
section
variable {P : Program} {B : Nat} {F : Option Obj → Prop} {w w' w0 : World} {σ : Q5} {v V : Value} {K : Value → World → Prop}
theorem FinT.of_below (h:Below w.heap.size w w'):FinT B F w w':=⟨h.os,h.tape,h.output,h.size,fun k a _=>h.block k a,fun k a=> .inl (h.block k a)⟩
theorem FinT.of_upd {b:Nat} (h:Upd w b w') (c:B≤b) (hF:F (w'.heap[b]?)):FinT B F w w':=
 ⟨h.os,h.tape,h.output,by rw[h.size];exact Nat.le_refl _,fun k a hB=>h.block k (by omega),fun k a=>by
  by_cases e:k=b
  ·subst e;exact .inr hF
  ·exact .inl (h.block k e)⟩
theorem FinT.hst (h:FinT w0.heap.size F w w') (c:X2 w0 σ) (a:Hst w0 σ w σ):Hst w0 σ w' σ:=
 ⟨Stp.of_below c ⟨h.os.trans a.stp.bel.os,h.tape.trans a.stp.bel.tape,h.output.trans a.stp.bel.output,Nat.le_trans a.stp.bel.size h.size,fun k b=>(h.old k (Nat.lt_of_lt_of_le b a.stp.bel.size) b).trans (a.stp.bel.block k b)⟩⟩
theorem X2T {A:(World→World→Prop)→(World→Prop)→Prop} (F:Option Obj→Prop) (a:X2 w σ) (h:A (FinT w.heap.size F) (fun w'=>Hst w σ w' σ)):dr w A:=
 Im _ _ ⟨Stp.of_below a (Below.refl _ _).drew⟩ (fun _ _ b c=>c.hst a b) h
theorem Q4R (h:V=v):dk (FinT B F) (fun v _=>V=v) w v w:=⟨.of_below (Below.refl _ _),h⟩
theorem X1l (a:Below w.heap.size w w') (h:V=v):dk (FinT B F) (fun v _=>V=v) w v w':=⟨.of_below a,h⟩
def X2h (B n:Nat) (F:Option Obj→Prop) (v:Value) (w:World):Prop:= ∃g,v= .pointer (some ⟨g,0,none⟩)∧B≤g∧((∃cs:List Value,∃e,cs.length=n∧w.heap[g]? =some (.cells cs.toArray e (0,0)))∨F (w.heap[g]?))
def X2V (B:Nat) (F:Option Obj→Prop) (v:Value) (w:World):Prop:= ∃g,v= .pointer (some ⟨g,0,none⟩)∧B≤g∧F (w.heap[g]?)
theorem Pi {w:World} {g:Nat} {o:Obj} (h:w.heap[g]? =some o):g<w.heap.size:=(Array.getElem?_eq_some_iff.1 h).1
theorem Q8g {n:Nat} (hF: ¬F none):Sv (FinT B F) (X2h B n F):=by
 rintro v w w' ⟨g,rfl,hB,c⟩ d
 have a:g<w.heap.size:=by
  rcases c with ⟨cs,e,_,h⟩ | h
  ·exact Pi h
  ·cases b:w.heap[g]? with
   | none=>rw[b] at h;exact absurd h hF
   | some o=>exact Pi b
 rcases d.new g a with h | h
 ·exact ⟨g,rfl,hB,by rw[h];exact c⟩
 ·exact ⟨g,rfl,hB, .inr h⟩
theorem Q8a (hF: ¬F none):Sv (FinT B F) (X2V B F):=by
 rintro v w w' ⟨g,rfl,hB,a⟩ d
 have b:g<w.heap.size:=by
  cases c:w.heap[g]? with
  | none=>rw[c] at a;exact absurd a hF
  | some o=>exact Pi c
 rcases d.new g b with h | h
 ·exact ⟨g,rfl,hB,by rw[h];exact a⟩
 ·exact ⟨g,rfl,hB,h⟩
end
end Go.Emb
namespace Go.Hm
open Go.Kd
theorem Q6G {a b:List Hm.Met} (h: ∀m,m∈a↔m∈b):Ns a=Ns b:=by
 rw[Bool.eq_iff_iff]
 simp only[Ns,List.any_eq_true]
 constructor
 ·rintro ⟨x,e,y,c,d⟩;exact ⟨x,(h x).1 e,y,(h y).1 c,d⟩
 ·rintro ⟨x,e,y,c,d⟩;exact ⟨x,(h x).2 e,y,(h y).2 c,d⟩
theorem X03 {α:Type} {a b:List α} {p:α→Bool} (h: ∀m,m∈a↔m∈b):a.any p=b.any p:=by
 rw[Bool.eq_iff_iff]
 simp only[List.any_eq_true]
 constructor
 ·rintro ⟨x,c,y⟩;exact ⟨x,(h x).1 c,y⟩
 ·rintro ⟨x,c,y⟩;exact ⟨x,(h x).2 c,y⟩
def Yw (m:Hm.Met):List X0:=m.params++if m.result=[] then [] else [m.result]
def Uf (c:Cla):List X0:=c.fields.map (·.kind)++c.methods.flatMap Yw
theorem Q96 {l:List Cla} {c:Cla}:(Uf c).any (fun s=> !O6 l s)=B1 l c:=by
 unfold Uf B1 Yw
 rw[List.any_append,List.any_map,List.any_flatMap]
 congr 1
 congr 1
 funext m
 rw[List.any_append]
 by_cases e:m.result=[]
 ·simp[e]
 ·simp[e,Bool.or_comm]
def upB (l:List Cla) (i k:Nat):Bool:=decide (k=i)||Xc l (Y2 l i) (Y2 l k)
def Xb (l:List Cla) (i n:Nat):List Hm.Met:=(List.range n).flatMap fun k=>if upB l i k then (l.getD k Cla.zero).methods else []
theorem Q7D {l:List Cla} {i n:Nat}:Xb l i (n+1)=Xb l i n++if upB l i n then (l.getD n Cla.zero).methods else []:=by
 unfold Xb
 rw[List.range_succ,List.flatMap_append]
 simp
theorem Q3X {l:List Cla} (q:T1 l) {i:Nat} (n:i<l.length) (m:Hm.Met):m∈Xb l i l.length↔m∈Wv l (Y2 l i):=by
 unfold Xb Wv
 simp only[List.mem_flatMap,List.mem_range]
 have b: ∀k,k<l.length→lk l (Y2 l k)=some (l.getD k Cla.zero):=fun k g=>Xz q g
 constructor
 ·rintro ⟨k,g,d⟩
  split at d
  ·rename_i hu
   refine ⟨Y2 l k,?_,by rw[b k g];exact d⟩
   rw[Uk,Q10]
   simp only[upB,Bool.or_eq_true,decide_eq_true_eq,Jk] at hu
   rcases hu with rfl | hu
   ·exact .inl ⟨rfl,_,b _ g⟩
   ·exact .inr hu
  ·simp at d
 ·rintro ⟨u,hu,d⟩
  rw[Uk] at hu
  obtain ⟨c,r⟩:=hu.right
  obtain ⟨y,p,j,z,a⟩:=V3 r
  obtain ⟨h,A⟩:=List.getElem?_eq_some_iff.1 a
  have f:Y2 l j=u:=by
   unfold Y2;rw[List.getD_eq_getElem?_getD,a];exact y
  refine ⟨j,h,?_⟩
  rw[r] at d
  have:upB l i j=true:=by
   simp only[upB,Bool.or_eq_true,decide_eq_true_eq,Jk]
   rw[Q10] at hu
   rcases hu with ⟨e,_⟩ | hu
   ·left
    have t:=b i n
    rw[e,←f] at t
    have o:=T1.find q (i:=i) (c:=l[i]) (List.getElem?_eq_getElem n)
    have s:l[i].name=Y2 l i:=by unfold Y2;rw[List.getD_eq_getElem?_getD,List.getElem?_eq_getElem n];rfl
    rw[s,e,z] at o
    simpa using o
   ·right;rw[f];exact hu
  rw[if_pos this,List.getD_eq_getElem?_getD,a]
  exact d
theorem Q9b {l:List Cla} {i n:Nat} {m:Hm.Met} (h:m∈Xb l i n) (d:n≤l.length): ∃c∈l,m∈c.methods:=by
 unfold Xb at h
 simp only[List.mem_flatMap,List.mem_range] at h
 obtain ⟨k,e,a⟩:=h
 split at a
 ·have b:k<l.length:=by omega
  rw[List.getD_eq_getElem?_getD,List.getElem?_eq_getElem b] at a
  exact ⟨l[k],List.getElem_mem _,a⟩
 ·simp at a
def T5 (a:List Hm.Met) (x y:Nat):Bool:=decide ((a.getD x Hm.Met.zero).name=(a.getD y Hm.Met.zero).name)&& !decide (Qp (a.getD x Hm.Met.zero)=Qp (a.getD y Hm.Met.zero))
theorem Co {α:Type} {l:List α} {d:α} {n:Nat} (h:n<l.length):l.getD n d=l[n]:=by rw[List.getD_eq_getElem?_getD,List.getElem?_eq_getElem h];rfl
theorem Q8A {a:List Hm.Met} {x y:Nat} (c:x<a.length) (b:y<a.length) (h:T5 a x y=true):Ns a=true:=by
 unfold Ns
 rw[List.any_eq_true]
 refine ⟨a[x],List.getElem_mem _,?_⟩
 rw[List.any_eq_true]
 refine ⟨a[y],List.getElem_mem _,?_⟩
 unfold T5 at h
 rwa [Co c,Co b] at h
theorem X0z {d:List Hm.Met} (h: ∀x y,x<d.length→y<x→T5 d x y=false):Ns d=false:=by
 unfold Ns
 rw[List.any_eq_false]
 intro a j
 rw[List.any_eq_true]
 rintro ⟨b,k,f⟩
 obtain ⟨x,i,rfl⟩:=List.getElem_of_mem j
 obtain ⟨y,g,rfl⟩:=List.getElem_of_mem k
 have e:T5 d y x=T5 d x y:=by
  unfold T5
  congr 1
  ·rw[Bool.eq_iff_iff];simp[eq_comm]
  ·congr 1;rw[Bool.eq_iff_iff];simp[eq_comm]
 have c:T5 d x y=true:=by unfold T5;rw[Co i,Co g];exact f
 rcases Nat.lt_trichotomy x y with hlt | heq | hlt
 ·rw[←e,h y x g hlt] at c;cases c
 ·subst heq;simp[T5] at c
 ·rw[h x y i hlt] at c;cases c
end Go.Hm
namespace Go.Proofs.YtjdiakhipmggjaaGreatDoor
open Go.Emb Go.RowKit Go.Kd Go.Hm
variable {w : World} {K : Value → World → Prop} {σ : Q5} {l : List Cla} {v : Value}
theorem Ka {c:Cla} (h:Zl c=false):c.fields.length≤32∧c.methods.length≤32∧ ∀m∈c.methods,m.params.length≤32:=by
 simp only[Zl,Bool.or_eq_false_iff,decide_eq_false_iff_not,List.any_eq_false] at h
 obtain ⟨⟨⟨a,e⟩,f⟩,d⟩:=h
 refine ⟨by omega,by omega,fun m b=>?_⟩
 have:=a m b
 simp only[Wa,Bool.or_eq_true,decide_eq_true_eq,not_or] at this
 omega
set_option maxHeartbeats 8000000 in
theorem Q6O {i:Nat} (hs:X2 w σ) (hv:Sl 8 V0 σ v l) (ok:Ok l) (own:T1 l) (hlen:l.length≤1000) (hmn: ∀c∈l,Zl c=false) (hi:i<l.length)
 (h: ∀w' σ',Stp w σ w' σ'→K (I (V6 l l[i])) w'):Q1 P F.b9 [v,I i] w K:=Bq (by
 unfold Vn
 obtain ⟨lv,fv,mv,p0,r0⟩:=hv.elC hi
 refine Y3 hv hi ?_
 refine Y4 hs p0 rfl ?_
 refine Y9 hs (by rfl) rfl (Rep.one r0) fun q w1 σ1 hk1 hq1=>?_
 have r1:=RCl_lift r0 ⟨hk1.le⟩
 obtain ⟨_,gf,gm,g4,_⟩:=r1.parts
 have hv1:=hv.up hk1
 have hnm:=ok.nm _ (List.getElem_mem hi)
 have hcm:=hmn _ (List.getElem_mem hi)
 have hname:Y2 l i=l[i].name:=Gx hi
 generalize hcE:l[i]=c at*
 obtain ⟨mf,mm,mp⟩:=Ka hcm
 have e64:Yj l c=true→V6 l c=64:=fun e=>by unfold V6;simp[e]
 have e65:Yj l c=false→B1 l c=true→V6 l c=65:=fun e e2=>by unfold V6;simp[e,e2]
 have e66:Yj l c=false→B1 l c=false→Zi l c=true→V6 l c=66:=fun e e2 e3=>by unfold V6;simp[e,e2,e3]
 have e67:Yj l c=false→B1 l c=false→Zi l c=false→Dc l c=true→V6 l c=67:=fun e e2 e3 e4=>by unfold V6;simp[e,e2,e3,e4]
 have e0:Yj l c=false→B1 l c=false→Zi l c=false→Dc l c=false→V6 l c=0:=fun e e2 e3 e4=>by unfold V6;simp[e,e2,e3,e4]
 generalize V6 l c=R at*
 clear p0 r0 r1 hcm
 refine U1 c.fields.length (fun n w'=> ∃σ',Stp w σ w' σ'∧SLe σ1 σ'∧(c.fields.take n).any (fun f=>(Jh l c.super f.name).isSome)=false) ⟨σ1,hk1,SLe.refl _,rfl⟩ fun n w2 d hn hinv=>?_
 obtain ⟨σ2,hS2,le2,hno⟩:=hinv
 have hq2:=hq1.lift le2
 have gf2:=gf.lift le2
 (try simp only[↓M1,M1,Mb,reduceIte])
 refine ld hS2.sat hq2 rfl ?_
 refine Q8 gf2 ?_
 refine Z2 ?_
 refine Q7 (fun hc=>?_) (fun hc=>?_)
 ·have hn':n<c.fields.length:=by simpa using hc
  obtain ⟨pf,_⟩:=gf2.elF hn'
  have hs2:=hS2.sat
  refine U2 hs2 ?_
  (repeat refine J6 Qt ?_)
  (intros;(repeat (rename_i hx;subst hx));(try simp only[↓M2,M2,Mb,reduceIte]))
  rename_i w3 hb3
  refine Q9L hb3.sat (hv.up (hS2.trans hb3.stp)) ok.acy hlen ok.sm fun w4 σ4 hk4=>?_
  refine P0 ?_
  rw[T2]
  have hnx:=L4 (p:=fun f:Fld=>(Jh l c.super f.name).isSome) hn'
  cases hp:(Jh l c.super c.fields[n].name).isSome with
  | true=>
   (try simp only[↓M1,M1,Mb,reduceIte])
   rw[hp,Bool.or_true] at hnx
   have:R=64:=e64 (S1 hn' hp)
   subst this
   exact h _ _ ((hS2.trans hb3.stp).trans hk4)
  | false=>
   (try simp only[↓M1,M1,Mb,reduceIte])
   exact Y6 gf.max hn' ⟨σ4,(hS2.trans hb3.stp).trans hk4,le2.more ⟨(hb3.stp.trans hk4).le⟩,by rw[hnx,hno,hp];rfl⟩
 have hA:Yj l c=false:=by
  have hn': ¬n<c.fields.length:=by simpa using hc
  rw[D9 hn'] at hno;exact hno
 clear hno hc hn e64
 refine Ed (R:=U9) (e:=T.c) hS2 (by decide) fun x3 w3 hk3 ha3 _=>?_
 have hS3:=hS2.trans hk3
 refine E3 c.fields.length (fun n x w'=> ∃σ',Stp w σ w' σ'∧SLe σ1 σ'∧V5 w.heap.size T.c 1 U9 σ' w' x ((c.fields.take n).map (·.kind))) ⟨σ2,hS3,le2,ha3⟩ fun n x w4 d hn hinv=>?_
 obtain ⟨σ4,hS4,le4,ha4⟩:=hinv
 have hq4:=hq1.lift le4
 have gf4:=gf.lift le4
 (try simp only[↓M1,M1,Mb,reduceIte])
 refine ld hS4.sat hq4 rfl ?_
 refine Q8 gf4 ?_
 refine Z2 ?_
 refine Q7 (fun hc=>?_) (fun hc=>?_)
 ·have hn':n<c.fields.length:=by simpa using hc
  obtain ⟨pf,rf⟩:=gf4.elF hn'
  have hkl:=(hnm.2.1 _ (List.getElem_mem hn')).2
  (try simp only[↓M1,M1,Mb,reduceIte])
  refine ld hS4.sat hq4 rfl ?_
  refine Y3 gf4 hn' ?_
  (try simp only[↓M1,M1,Mb,reduceIte])
  refine ld hS4.sat pf rfl ?_
  refine Jm (R:=U9) (x:=c.fields[n].kind) hS4 ha4 ⟨rfl,Nat.le_trans hkl (by decide)⟩ rfl rfl rfl (by rw[List.length_map,List.length_take];omega) (by rw[List.length_map,List.length_take];omega) fun s v' w5 σ5 hnx hS5 ha5 _=>?_
  (try simp only[↓M1,M1,Mb,reduceIte])
  refine Z9 gf.max hn' ⟨σ5,hS5,le4.more hnx.le,?_⟩
  rw[List.take_add_one,List.getElem?_eq_getElem hn',List.map_append]
  exact ha5
 rw[List.take_of_length_le (by
  have: ¬n<c.fields.length:=by simpa using hc
  omega)] at ha4
 clear hc hn hk3 ha3 hS3 hS2 le2 hq2 gf2 hq4 gf4
 have hkl: ∀n,(c.fields.map (·.kind)++(c.methods.take n).flatMap Yw).length≤2000:=fun n=>by
  have h1:=Vu Yw 33 (c.methods.take n) fun m hm=>by
   have:=mp m (List.mem_of_mem_take hm)
   unfold Yw
   split<;>simp<;>omega
  have h2:(c.methods.take n).length≤32:=by rw[List.length_take];omega
  have h3:(c.methods.take n).length*33≤32*33:=Nat.mul_le_mul_right _ h2
  rw[List.length_append,List.length_map];omega
 refine E3 c.methods.length (fun n x w'=> ∃σ',Stp w σ w' σ'∧SLe σ1 σ'∧V5 w.heap.size T.c 1 U9 σ' w' x (c.fields.map (·.kind)++(c.methods.take n).flatMap Yw)) ⟨σ4,hS4,le4,by simpa using ha4⟩ fun n x w5 d hn hinv=>?_
 clear ha4 hS4 le4
 obtain ⟨σ5,hS5,le5,ha5⟩:=hinv
 have hq5:=hq1.lift le5
 have gm5:=gm.lift le5
 have hkn:=hkl n
 (try simp only[↓M1,M1,Mb,reduceIte])
 refine ld hS5.sat hq5 rfl ?_
 refine Q8 gm5 ?_
 refine Z2 ?_
 refine Q7 (fun hc=>?_) (fun hc=>?_)
 ·have hn':n<c.methods.length:=by simpa using hc
  obtain ⟨pv,cv,hv',pm,rm⟩:=gm5.elM hn'
  obtain ⟨gp,_,_,_,gr,_⟩:=rm.parts
  have hpn:=mp _ (List.getElem_mem hn')
  have hrl:=(hnm.2.2 _ (List.getElem_mem hn')).1
  have hnx:(c.methods.take (n+1)).flatMap Yw=(c.methods.take n).flatMap Yw++Yw c.methods[n]:=by
   rw[List.take_add_one,List.getElem?_eq_getElem hn',List.flatMap_append];simp
  refine U6 ?_
  (try simp only[↓M1,M1,Mb,reduceIte])
  refine ld hS5.sat hq5 rfl ?_
  refine Y3 gm5 hn' ?_
  (try simp only[↓M1,M1,Mb,reduceIte])
  refine ld hS5.sat pm rfl ?_
  refine Vw hS5 ha5 gp rfl (by omega) (by omega) fun v6 w6 hn6 hS6 ha6 _=>?_
  (try simp only[↓M1,M1,Mb,reduceIte])
  refine ld hS6.sat hq5 rfl ?_
  refine Y3 gm5 hn' ?_
  (try simp only[↓M1,M1,Mb,reduceIte])
  refine ld hS6.sat pm rfl ?_
  refine Vy ?_
  by_cases he:c.methods[n].result=[]
  ·simp only[he,decide_true,Bool.not_true,↓M1,M1,Mb,reduceIte]
   intro d
   refine Z9 gm.max hn' ⟨σ5,hS6,le5,?_⟩
   rw[hnx]
   unfold Yw
   rw[if_pos he,List.append_nil,←List.append_assoc]
   exact ha6
  ·simp only[he,decide_false,Bool.not_false,↓M1,M1,Mb,reduceIte]
   refine ld hS6.sat hq5 rfl ?_
   refine Y3 gm5 hn' ?_
   (try simp only[↓M1,M1,Mb,reduceIte])
   refine ld hS6.sat pm rfl ?_
   refine Jm (R:=U9) (x:=c.methods[n].result) hS6 ha6 ⟨rfl,Nat.le_trans hrl (by decide)⟩ rfl rfl rfl (by rw[List.length_append];omega) (by rw[List.length_append];omega) fun s v' w7 σ7 hn7 hS7 ha7 _=>?_
   intro d
   (try simp only[↓M1,M1,Mb,reduceIte])
   refine Z9 gm.max hn' ⟨σ7,hS7,le5.more hn7.le,?_⟩
   rw[hnx]
   unfold Yw at ha7⊢
   rw[if_neg he]
   simpa only[List.append_assoc] using ha7
 rw[List.take_of_length_le (by
  have: ¬n<c.methods.length:=by simpa using hc
  omega)] at ha5
 have hkn:=hkl c.methods.length
 rw[List.take_of_length_le (Nat.le_refl _)] at hkn
 have hkE:B1 l c=(Uf c).any (fun s=> !O6 l s):=Q96.symm
 have hkb: ∀s∈Uf c,s.length≤U0:=fun s hs=>by
  unfold Uf at hs
  rcases List.mem_append.1 hs with hs | hs
  ·obtain ⟨f,hf,rfl⟩:=List.mem_map.1 hs
   exact Nat.le_trans (hnm.2.1 f hf).2 (by decide)
  ·obtain ⟨m,hm,hs⟩:=List.mem_flatMap.1 hs
   unfold Yw at hs
   rcases List.mem_append.1 hs with hs | hs
   ·exact Nat.le_trans ((hnm.2.2 m hm).2 s hs) (by decide)
   ·split at hs
    ·simp at hs
    ·simp at hs;subst hs;exact Nat.le_trans (hnm.2.2 m hm).1 (by decide)
 obtain ⟨σ6,hS6,hv6,lee6,_⟩:=ha5.keep hS5
 have le6:=le5.more ⟨lee6⟩
 clear ha5 hq5 gm5 hc hn
 change Sl 1 U9 σ6 x (Uf c) at hv6
 refine U1 (Uf c).length (fun n w'=>Stp w σ w' σ6∧((Uf c).take n).any (fun s=> !O6 l s)=false) ⟨hS6,rfl⟩ fun n w7 d hn hinv=>?_
 obtain ⟨hS7,hno⟩:=hinv
 refine Q8 hv6 ?_
 refine Z2 ?_
 refine Q7 (fun hc=>?_) (fun hc=>?_)
 ·have hn':n<(Uf c).length:=by simpa using hc
  refine Y3 hv6 hn' ?_
  obtain ⟨pk,_⟩:=hv6.elS hn'
  refine X7 hS7.sat pk rfl ?_
  refine Q9q hS7.sat (hv.up hS7) (hkb _ (List.getElem_mem hn')) ?_
  have hnx:=L4 (p:=fun s=> !O6 l s) hn'
  cases hp:O6 l (Uf c)[n] with
  | false=>
   (try simp only[↓M1,M1,Mb,reduceIte])
   have:R=65:=e65 hA (by rw[hkE];exact S1 hn' (by simp[hp]))
   subst this
   exact h _ _ hS7
  | true=>
   (try simp only[↓M1,M1,Mb,reduceIte])
   exact Y6 hv6.max hn' ⟨hS7,by rw[hnx,hno,hp];rfl⟩
 have hB:B1 l c=false:=by
  have hn': ¬n<(Uf c).length:=by simpa using hc
  rw[D9 hn'] at hno;rw[hkE];exact hno
 clear hno hc hn e65 hkE hkb hkn hkl hS5 le5 lee6 hv6
 refine Q02 hS7.sat (hv.up hS7) own (by omega) hlen ok.sm fun vb w8 σ8 hk8 hb8=>?_
 have hS8:=hS7.trans hk8
 refine Ed (R:=E5) (e:=T.d) hS8 (by decide) fun x9 w9 hk9 ha9 _=>?_
 have hml: ∀n,n≤l.length→(Xb l i n).length≤32000:=fun n hn=>by
  unfold Xb
  have h1:=Vu (fun k=>if upB l i k then (l.getD k Cla.zero).methods else []) 32 (List.range n) fun k hk=>by
   have hk':k<l.length:=by have:=List.mem_range.1 hk;omega
   split
   ·rw[Co hk'];exact (Ka (hmn _ (List.getElem_mem _))).2.1
   ·simp
  rw[List.length_range] at h1
  have h3:n*32≤1000*32:=Nat.mul_le_mul_right _ (by omega)
  omega
 have hbl:(G7 l).length=l.length:=by simp[G7]
 refine E3 l.length (fun n x w'=> ∃σ',Stp w σ w' σ'∧SLe σ1 σ'∧SLe σ8 σ'∧V5 w.heap.size T.d 7 E5 σ' w' x (Xb l i n)) ⟨σ8,hS8.trans hk9,le6.more ⟨hk8.le⟩,SLe.refl _,ha9⟩ fun n x w10 d hn hinv=>?_
 clear ha9 hk9 hS7 hS8 le6 hS6 hk8
 obtain ⟨σ10,hS10,le10,leb,ha10⟩:=hinv
 have hv10:=hv.up hS10
 refine Q8 hv10 ?_
 refine Z2 ?_
 refine Q7 (fun hc=>?_) (fun hc=>?_)
 ·have hn':n<l.length:=by simpa using hc
  have hmn1:=hml n hn
  have hsuc:=Q7D (l:=l) (i:=i) (n:=n)
  rw[Co hn'] at hsuc
  obtain ⟨lv2,fv2,mv2,p2,r2⟩:=hv10.elC hn'
  obtain ⟨_,_,g3,_,_⟩:=r2.parts
  have hmn2:=(Ka (hmn _ (List.getElem_mem hn'))).2.1
  refine Up (fun z w'=>Stp w σ w' σ10∧V5 w.heap.size T.d 7 E5 σ10 w' z (Xb l i (n+1))) ?_ (fun z d w' hz=>?_)
  ·refine K9 ?_
   have happ: ∀{J:Value→World→Prop},upB l i n=true→(∀z w',Stp w σ w' σ10→V5 w.heap.size T.d 7 E5 σ10 w' z (Xb l i (n+1))→J z w')→
    X3 P .append [T.j,T.j] T.j [false,false] [x,mv2] w10 J:=fun hu hJ=>
    Vw hS10 ha10 g3 rfl (by omega) (by omega) fun v' w' _ hS' ha' _=>hJ v' w' hS' (by rw[hsuc,if_pos hu];exact ha')
   by_cases e:n=i
   ·have e1:decide ((n:Int)=(i:Int))=true:=by simp[e]
    rw[e1]
    (try simp only[↓M1,M1,Mb,reduceIte])
    refine Y3 hv10 hn' ?_
    (try simp only[↓M1,M1,Mb,reduceIte])
    refine ld hS10.sat p2 rfl ?_
    exact happ (by simp[upB,e]) fun z w' h1 h2=>⟨h1,h2⟩
   ·have e1:decide ((n:Int)=(i:Int))=false:=by rw[decide_eq_false_iff_not];omega
    rw[e1]
    obtain ⟨cs1,pb,_,rv,rfl,rb⟩:=(hb8.lift leb).el (i:=i) (by rw[hbl];exact hi)
    have hrow:(G7 l)[i]'(by rw[hbl];exact hi)=(List.range l.length).map fun j=>Xc l (Y2 l i) (Y2 l j):=by simp[G7]
    rw[hrow] at rb
    obtain ⟨cs2,pb2,_,hcs2⟩:=rb.el (i:=n) (by simpa using hn')
    have hcs2:cs2=_:=hcs2
    subst hcs2
    simp only[List.getElem_map,List.getElem_range] at pb2
    (try simp only[↓M1,M1,Mb,reduceIte])
    refine Y3 (hb8.lift leb) (by rw[hbl];exact hi) ?_
    refine X7 hS10.sat pb rfl ?_
    refine Y3 rb (by simpa using hn') ?_
    refine X7 hS10.sat pb2 rfl ?_
    (try simp only[↓M1,M1,Mb,reduceIte])
    cases ho:Xc l (Y2 l i) (Y2 l n) with
    | true=>
     (try simp only[↓M1,M1,Mb,reduceIte])
     refine Y3 hv10 hn' ?_
     (try simp only[↓M1,M1,Mb,reduceIte])
     refine ld hS10.sat p2 rfl ?_
     exact happ (by simp[upB,ho]) fun z w' h1 h2=>⟨h1,h2⟩
    | false=>
     (try simp only[↓M1,M1,Mb,reduceIte])
     refine ⟨hS10,?_⟩
     have:upB l i n=false:=by simp[upB,ho,e]
     rw[hsuc,this]
     simpa using ha10
  ·obtain ⟨hS',ha'⟩:=hz
   (try simp only[↓M1,M1,Mb,reduceIte])
   exact Z9 (by omega) hn' ⟨σ10,hS',le10,leb,ha'⟩
 have hn0:n=l.length:=by
  have: ¬n<l.length:=by simpa using hc
  omega
 subst hn0
 obtain ⟨σ11,hS11,hv11,lee11,_⟩:=ha10.keep hS10
 have le11:=le10.more ⟨lee11⟩
 have hml2:=hml _ (Nat.le_refl l.length)
 have hov:Zi l c=Ns (Xb l i l.length):=by
  unfold Zi
  refine (Q6G fun m=>?_).symm
  rw[Q3X own hi,hname]
 have hlk:Dc l c=(!c.abs&&(Xb l i l.length).any fun m=>Yx l c.name m.name):=by
  unfold Dc
  congr 1
  refine (X03 fun m=>?_).symm
  rw[Q3X own hi,hname]
 have hsn: ∀m∈Xb l i l.length,SmM m∧NmM m:=fun m hm=>by
  obtain ⟨c2,hc2,hm2⟩:=Q9b hm (Nat.le_refl _)
  exact ⟨(ok.sm c2 hc2).2.2.2 m hm2,(ok.nm c2 hc2).2.2 m hm2⟩
 generalize Xb l i l.length=ms at hov hlk hsn hml2 hv11
 clear ha10 lee11 hS10 le10 leb hv10 hml hc hb8 hbl
 refine U1 ms.length (fun n w'=> ∃σ',Stp w σ w' σ'∧SLe σ11 σ'∧ ∀a b,a<n→b<a→T5 ms a b=false) ⟨σ11,hS11,SLe.refl _,fun a b h=>by omega⟩ fun n w12 d hn hinv=>?_
 obtain ⟨σ12,hS12,le12,hno⟩:=hinv
 have hv12:=hv11.lift le12
 refine Q8 hv12 ?_
 refine Z2 ?_
 refine Q7 (fun hc=>?_) (fun hc=>?_)
 ·have hn':n<ms.length:=by simpa using hc
  refine U1 n (fun m w'=> ∃σ',Stp w σ w' σ'∧SLe σ11 σ'∧ ∀b,b<m→T5 ms n b=false) ⟨σ12,hS12,le12,fun b h=>by omega⟩ fun m w13 d hm hinv=>?_
  obtain ⟨σ13,hS13,le13,hno2⟩:=hinv
  have hv13:=hv11.lift le13
  refine Z2 ?_
  refine Q7 (fun hc=>?_) (fun hc=>?_)
  ·have hm':m<n:=by simpa using hc
   have hm2:m<ms.length:=by omega
   obtain ⟨pv1,cv1,hv1',pn,rn⟩:=hv13.elM hn'
   obtain ⟨pv2,cv2,hv2',pm,rm⟩:=hv13.elM hm2
   obtain ⟨sn1,sn2⟩:=hsn _ (List.getElem_mem hn')
   obtain ⟨sm1,sm2⟩:=hsn _ (List.getElem_mem hm2)
   have hat:T5 ms n m=(decide (ms[n].name=ms[m].name)&& !decide (Qp ms[n]=Qp ms[m])):=by
    unfold T5;rw[Co hn',Co hm2]
   have hs13:=hS13.sat
   have hnx:T5 ms n m=false→ ∀b,b<m+1→T5 ms n b=false:=fun e b hb=>by
    by_cases e2:b=m
    ·subst e2;exact e
    ·exact hno2 b (by omega)
   refine U2 hs13 ?_
   (repeat refine J6 Qt ?_)
   by_cases he:ms[n].name=ms[m].name
   ·have hd:decide (ms[n].name=ms[m].name)=true:=by simp[he]
    simp only[hd,reduceIte]
    (repeat (apply J6;(· intros;(repeat (rename_i hx;subst hx));(repeat' (first | (with_reducible exact E1 rfl) | (with_reducible exact B2 (Stp.bel (by (repeat (first | exact Stp.refl (by (first | assumption | exact Stp.sat (by assumption) | exact Hst.sat (by assumption))) | assumption | refine Stp.trans ?_ (by first | assumption | exact Hst.stp (by assumption)))))) rfl) | (with_reducible intro _) | (simp only[↓M2,M2,Mb,reduceIte]) | (with_reducible show Q2 _ _ _ _ _;first | refine X7 aS aL aR ?_ | refine Y4 aS aL aR ?_ | refine ld aS aL aR ?_) | (with_reducible show indexAddr _ _ _ _ _ _;refine Y3 aL au ?_) | (with_reducible show X3 _ _ _ _ _ _ _ _;refine Q8 aL ?_) | (with_reducible show G1 _ _ _ _ _ _;refine J4 aR ?_) | (with_reducible show pick _ _ _ _ _ _;refine O5 ?_) | (with_reducible show Q1 _ _ _ _ _;first | refine Q5q au au au au ?_) | (apply K1;intro hh;(try simp only[hh,reduceIte,↓M2,M2,Mb,reduceIte]))));done)))
    (intros;(repeat (rename_i hx;subst hx));(try simp only[↓M2,M2,Mb,reduceIte]))
    rename_i w14 hb14
    refine Q5q hb14.sat rm sm1 sm2 fun w15 σ15 hk15=>?_
    refine Vy ?_
    (try simp only[↓M1,M1,Mb,reduceIte])
    have hS15:=(hS13.trans hb14.stp).trans hk15
    by_cases hsg:Qp ms[n]=Qp ms[m]
    ·simp only[hsg,decide_true,Bool.not_true,↓M1,M1,Mb,reduceIte]
     refine Y6 (by omega) hm' ⟨σ15,hS15,le13.more ⟨(hb14.stp.trans hk15).le⟩,hnx ?_⟩
     rw[hat,hsg];simp
    ·simp only[hsg,decide_false,Bool.not_false,↓M1,M1,Mb,reduceIte]
     have:R=66:=e66 hA hB (by rw[hov];exact Q8A hn' hm2 (by rw[hat];simp[he,hsg]))
     subst this
     exact h _ _ hS15
   ·have hd:decide (ms[n].name=ms[m].name)=false:=by simp[he]
    simp only[hd,Bool.false_eq_true,reduceIte]
    (repeat refine J6 Qt ?_)
    (intros;(repeat (rename_i hx;subst hx));(try simp only[↓M2,M2,Mb,reduceIte]))
    rename_i w14 hb14
    (try simp only[↓M1,M1,Mb,reduceIte])
    refine Y6 (by omega) hm' ⟨σ13,hS13.trans hb14.stp,le13,hnx ?_⟩
    rw[hat];simp[he]
  ·have hm0:m=n:=by
    have: ¬m<n:=by simpa using hc
    omega
   subst hm0
   (try simp only[↓M1,M1,Mb,reduceIte])
   refine Y6 hv11.max hn' ⟨σ13,hS13,le13,fun a b ha hb=>?_⟩
   by_cases e:a=m
   ·subst e;exact hno2 b hb
   ·exact hno a b (by omega) hb
 have hC:Zi l c=false:=by
  rw[hov]
  have: ¬n<ms.length:=by simpa using hc
  exact X0z fun x y hx hy=>hno x y (by omega) hy
 clear hno hc hn hv12 hov e66
 refine U1 ms.length (fun n w'=> ∃σ',Stp w σ w' σ'∧SLe σ11 σ'∧(c.abs=true→n=0)∧(ms.take n).any (fun m=>Yx l c.name m.name)=false) ⟨σ12,hS12,le12,fun _=>rfl,rfl⟩ fun n w13 d hn hinv=>?_
 clear hS12 le12
 obtain ⟨σ13,hS13,le13,hab,hno⟩:=hinv
 have hv13:=hv11.lift le13
 have hq13:=hq1.lift (le11.more le13)
 refine Q8 hv13 ?_
 refine Z2 ?_
 by_cases hn':n<ms.length
 ·have e1:decide ((n:Int)<(ms.length:Int))=true:=by simpa using hn'
  rw[e1]
  (try simp only[↓M1,M1,Mb,reduceIte])
  refine ld hS13.sat hq13 rfl ?_
  refine Wd ?_
  (try simp only[↓M1,M1,Mb,reduceIte])
  cases hca:c.abs with
  | true=>
   (try simp only[↓M1,M1,Mb,reduceIte])
   have:R=0:=e0 hA hB hC (by rw[hlk,hca];rfl)
   subst this
   exact h _ _ hS13
  | false=>
   (try simp only[↓M1,M1,Mb,reduceIte])
   obtain ⟨pvn,cvn,hvn,pn,rn⟩:=hv13.elM hn'
   have hs13:=hS13.sat
   have hnx:=L4 (p:=fun m:Hm.Met=>Yx l c.name m.name) hn'
   have hla:Yx l c.name ms[n].name=(!(V2 l c.name ms[n].name).isSome||(o2 (V2 l c.name ms[n].name)).abs):=by
    unfold Yx
    cases V2 l c.name ms[n].name<;>rfl
   generalize hF:(fun o:Option Obj=> ∃cs:List Value,∃e,o=some (.cells cs.toArray e (0,0))∧cs.length=7∧cs[3]? =some (.bool (o2 (V2 l c.name ms[n].name)).abs))=F
   have hFn: ¬F none:=by rw[←hF];rintro ⟨_,_,h,_⟩;cases h
   refine X2T F hs13 ?_
   (repeat (apply J6;(· intros;(repeat (rename_i hx;subst hx));(repeat' (first | (with_reducible exact Q4R rfl) | (with_reducible exact X1l (Stp.bel (by (repeat (first | exact Stp.refl (by (first | assumption | exact Stp.sat (by assumption) | exact Hst.sat (by assumption))) | assumption | refine Stp.trans ?_ (by first | assumption | exact Hst.stp (by assumption)))))) rfl) | (with_reducible intro _) | (simp only[↓M2,M2,Mb,reduceIte]) | (with_reducible show Q2 _ _ _ _ _;first | refine X7 aS aL aR ?_ | refine Y4 aS aL aR ?_ | refine ld aS aL aR ?_) | (with_reducible show indexAddr _ _ _ _ _ _;refine Y3 aL au ?_) | (with_reducible show X3 _ _ _ _ _ _ _ _;refine Q8 aL ?_) | (with_reducible show G1 _ _ _ _ _ _;refine J4 aR ?_) | (with_reducible show pick _ _ _ _ _ _;refine O5 ?_)));done)))
   refine E7 (fun v _=> ∃s,∃ds:List Value,v= .tuple #[s, .agg ds.toArray, .bool (V2 l c.name ms[n].name).isSome]∧ds.length=7∧ds[3]? =some (.bool (o2 (V2 l c.name ms[n].name)).abs)∧ ∀u∈ds,u.oneCell'=true) (fun _ _ _ h _=>h) (fun t180 t185 w hb e1 e2=>?_) ?_
   ·subst e1;subst e2
    refine Q7B hb.sat (hv.up (hS13.trans hb.stp)) ok fun pv cv hv w' σ' hk hr=>⟨.of_below hk.bel,_,_,rfl,rfl,rfl,Rep.one hr⟩
   refine E7 (fun _ _=>True) (fun _ _ _ _ _=>trivial) (fun t186 w hb e=>?_) ?_
   ·obtain ⟨s,ds,rfl,_⟩:=e
    exact J5 (vs:=[_,_,_]) rfl ⟨.of_below (Below.refl _ _),trivial⟩
   refine E7 (fun v _=> ∃ds:List Value,v= .agg ds.toArray∧ds.length=7∧ds[3]? =some (.bool (o2 (V2 l c.name ms[n].name)).abs)∧ ∀u∈ds,u.oneCell'=true) (fun _ _ _ h _=>h) (fun t186 w hb e=>?_) ?_
   ·obtain ⟨s,ds,rfl,h7⟩:=e
    exact J5 (vs:=[_,_,_]) rfl ⟨.of_below (Below.refl _ _),ds,rfl,h7⟩
   refine J6 (V:= .bool (V2 l c.name ms[n].name).isSome) (fun t186 w hb e=>?_) ?_
   ·obtain ⟨s,ds,rfl,h7⟩:=e
    exact J5 (vs:=[_,_,_]) rfl (Q4R rfl)
   refine E7 (X2h w13.heap.size 7 F) (Q8g hFn) (fun w hb=>?_) ?_
   ·exact Iv hb.sat fun b w' hb2 hk hm=>⟨.of_below hk.bel,b,rfl,Nat.le_trans hb.stp.bel.size hb2, .inl ⟨_,hm.2.choose,rfl,hm.2.choose_spec⟩⟩
   refine Q3u (fun xs _ w=>X2V w13.heap.size F (xs.headD undef) w) (fun xs _ w w' h hT=>Q8a hFn _ w w' h hT) (fun t18 t188 w hb e1 e2=>?_) ?_
   ·obtain ⟨g,rfl,hg,hd⟩:=e1
    obtain ⟨ds,rfl,h7,h3,h1⟩:=e2
    obtain ⟨cs,e,hl7,hh⟩: ∃cs:List Value,∃e,cs.length=7∧w.heap[g]? =some (.cells cs.toArray e (0,0)):=by
     rcases hd with h | h
     ·exact h
     ·rw[←hF] at h
      obtain ⟨cs,e,h4,h5,_⟩:=h
      exact ⟨cs,e,h5,h4⟩
    refine Nk (σ:=fun _=>none) (cs:=cs) (ds:=ds) ⟨rfl,e,hh⟩ hl7 h7 (by rw[List.all_toArray];exact List.all_eq_true.2 h1) fun w' hu hm=>?_
    have hFg:F (w'.heap[g]?):=by
     obtain ⟨_,e',hm'⟩:=hm
     rw[hm',←hF]
     exact ⟨ds,e',rfl,h7,h3⟩
    exact ⟨FinT.of_upd hu hg hFg,g,rfl,hg,hFg⟩
   rintro t179 t183 t184 t180 t185 t186 t187 t188 t189 t18 u15 w14 hb14 rfl rfl rfl rfl rfl _ _ _ rfl _ ⟨g,e,hg,hd⟩
   have e:t18=_:=e
   subst e
   rw[←hF] at hd
   obtain ⟨cs,ty,hh,hl7,h3⟩:=hd
   have hS14:=hS13.trans hb14.stp
   refine Wd ?_
   cases hsm:(V2 l c.name ms[n].name).isSome with
   | false=>
    (try simp only[↓M1,M1,Mb,reduceIte])
    have:R=67:=e67 hA hB hC (by rw[hlk,hca];exact S1 hn' (by rw[hla,hsm];rfl))
    subst this
    exact h _ _ hS14
   | true=>
    (try simp only[↓M1,M1,Mb,reduceIte])
    refine Xx (σ:=fun _=>none) ⟨rfl,ty,hh⟩ h3 ?_
    (try simp only[↓M1,M1,Mb,reduceIte])
    cases hma:(o2 (V2 l c.name ms[n].name)).abs with
    | true=>
     (try simp only[↓M1,M1,Mb,reduceIte])
     have:R=67:=e67 hA hB hC (by rw[hlk,hca];exact S1 hn' (by rw[hla,hma,Bool.or_true]))
     subst this
     exact h _ _ hS14
    | false=>
     (try simp only[↓M1,M1,Mb,reduceIte])
     refine Y6 hv11.max hn' ⟨σ13,hS14,le13,fun e=>False.elim (by simpa using e),?_⟩
     rw[hnx,hno,hla,hsm,hma];rfl
 ·have e1:decide ((n:Int)<(ms.length:Int))=false:=by simpa using hn'
  rw[e1]
  (try simp only[↓M1,M1,Mb,reduceIte])
  rw[D9 hn'] at hno
  have:R=0:=e0 hA hB hC (by rw[hlk,hno,Bool.and_false])
  subst this
  exact h _ _ hS13)
end Go.Proofs.YtjdiakhipmggjaaGreatDoor

namespace Go.Proofs.YtjdiakhipmggjaaGreatDoor
open Go.Emb Go.RowKit Go.Kd Go.Hm
variable {w : World} {K : Value → World → Prop} {σ : Q5} {l : List Cla} {v : Value}
theorem X1s {w0:World} {σ0:Q5} {frm:Nat} (V:Zy l) (ho:T1 l) (hl:l.length≤1000) (ax: ∀c∈l,Qj c) (hf:0<frm) (ap: ∀i (E:i<l.length),frm≤i→ ∀u∈U3 l[i],∃j,Z1 l u=some j): ∀(k:Nat) {i:Nat} {b:List Nat} {x:Value} {w:World} {σ:Q5} {K:Value→World→Prop},i<l.length→K3 l (Y2 l i)<k→Few l b→Stp w0 σ0 w σ→Sl 8 V0 σ v l→V5 w0.heap.size T.e 1 Wl σ w x (ints b)→
 (∀x' w' U,Stp w0 σ0 w' U→SLe σ U→V5 w0.heap.size T.e 1 Wl U w' x' (ints (Xh l frm b i))→K x' w')→Q1 P F.b0 [v,x,I frm,I i] w K:=by
 intro k
 induction k with
 | zero=>intro i b x w σ K E hk;omega
 | succ k ih=>
  intro i b x w σ K E hk H hS hv hx h
  refine Q0A ?_
  unfold Ev
  rw[Q7b V ho hf b E] at h
  refine Z2 ?_
  refine Q7 (fun N=>?_) (fun N=>?_)
  ·have N:i<frm:=by have:=of_decide_eq_true N;omega
   rw[if_pos N] at h
   exact h _ _ _ hS (SLe.refl _) hx
  have N: ¬i<frm:=by have:=of_decide_eq_false N;omega
  rw[if_neg N] at h
  have bi:=H.len
  refine U1 b.length (fun n w'=>w'=w∧ ∀m (hm:m<b.length),m<n→b[m]≠i) ⟨rfl,fun m _ h=>by omega⟩ fun n w2 d hn o=>?_
  obtain ⟨hw,O⟩:=o
  subst hw
  refine Q7O hx ?_
  rw[show (ints b).length=b.length from by simp]
  refine Z2 ?_
  refine Q7 (fun A=>?_) (fun A=>?_)
  ·have f:n<b.length:=by simpa using A
   refine Q51 (J8.of_acc hx) (n:=n) (by simpa using f) fun a cs ar be hr=>?_
   obtain ⟨rfl,_⟩:=hr
   refine A6 (by have:=ar 0 _ rfl;rwa [add_zero] at this) ?_
   simp only[List.getElem_map]
   refine K9 ?_
   by_cases e:b[n]=i
   ·have:decide ((b[n]:Int)=i)=true:=by simp[e]
    rw[this]
    refine J3 ?_
    rw[if_pos (e▸List.getElem_mem f)] at h
    exact h _ _ _ hS (SLe.refl _) hx
   ·have:decide ((b[n]:Int)=i)=false:=by rw[decide_eq_false_iff_not];omega
    rw[this]
    refine Z7 ?_
    refine L8 ?_
    refine Y6 (by omega) f ⟨rfl,fun m hm bx=>?_⟩
    by_cases e2:m=n
    ·subst e2;exact e
    ·exact O m hm (by omega)
  ·have f: ¬n<b.length:=by simpa using A
   have D:i∉b:=fun ay=>by
    obtain ⟨m,hm,e⟩:=List.getElem_of_mem ay
    exact O m hm (by omega) e
   rw[if_neg D] at h
   have X:l.getD i Cla.zero=l[i]:=by rw[List.getD_eq_getElem?_getD,List.getElem?_eq_getElem E];rfl
   rw[X] at h
   have av:=ap i E (by omega)
   obtain ⟨lv,fv,mv,p1,r1⟩:=hv.elC E
   obtain ⟨g1,_,_,_,g5⟩:=r1.parts
   have C:=ax _ (List.getElem_mem E)
   clear O D A hn
   refine U2 hS.sat ?_
   (repeat refine J6 Qt ?_)
   refine Q1p (w:=w2) (σ:=σ) (R:=U9) (sz:=1) (e:=T.c) [l[i].super] (fun t w hb e=>?_) ?_
   ·subst e;exact Yu hb.stp [_] [l[i].super] rfl rfl (by simp;rfl) rfl ⟨⟨rfl,g5⟩,trivial⟩ fun v' w' hk V _=>Q2A hb hk V
   (repeat refine J6 Qt ?_)
   rintro bo bn bw bj bv bk bm w4 az rfl rfl rfl rfl rfl ⟨Z,W⟩ rfl
   refine Vw Z W g1 rfl (by simp;have:=C.1;omega) (by simp;have:=C.1;omega) fun v5 w5 aw aa ah Y=>?_
   obtain ⟨σ6,y,Q,a9,_⟩:=ah.keep aa
   have Q:Sl 1 U9 σ6 v5 (U3 l[i]):=Q
   have am:=hx.up y
   have ab:=hv.up y
   have ad:=hS.trans y
   have ac:SLe σ σ6:=⟨y.le⟩
   clear aw Y ah W Z az aa
   refine E3 (U3 l[i]).length (fun n x w'=> ∃U p,Stp w0 σ0 w' U∧SLe σ6 U∧V5 w0.heap.size T.e 1 Wl U w' x (ints p)∧Few l p∧p=((U3 l[i]).take n).foldl (fun b n=>Xh l frm b ((Z1 l n).getD 0)) b) ⟨σ6,b,ad,SLe.refl _,am,H,rfl⟩ fun n x7 w7 d hn o=>?_
   obtain ⟨σ7,a4,r,z,af,g,L⟩:=o
   have q:=Q.lift z
   refine Q8 q ?_
   refine Z2 ?_
   refine Q7 (fun A=>?_) (fun A=>?_)
   ·have f:n<(U3 l[i]).length:=by simpa using A
    refine Y3 q f ?_
    obtain ⟨p7,_⟩:=q.elS f
    refine X7 r.sat p7 rfl ?_
    have B:=ab.lift z
    refine I0 r.sat B ?_
    obtain ⟨j,hj⟩:=av _ (List.getElem_mem f)
    have bs:=Q1m V ho E (by rw[X];exact List.getElem_mem f) hj
    have ae:=(R7 hj).1
    simp only[hj,L5]
    refine ih ae (by omega) g r B af fun x8 w8 σ8 M a0 J=>?_
    refine L8 ?_
    refine Z9 q.max f ⟨σ8,_,M,z.more a0,J,Gy V ho hf _ _ _ ae g,?_⟩
    rw[List.take_add_one,List.getElem?_eq_getElem f,List.foldl_append,←L]
    simp[hj]
   ·have f: ¬n<(U3 l[i]).length:=by simpa using A
    rw[List.take_of_length_le (by omega)] at L
    have br:=g.len
    refine Jm (R:=Wl) (x:=(i:Int)) r af ⟨rfl,by omega,by omega⟩ rfl rfl rfl (by simp;omega) (by simp;omega) fun s x8 w8 σ8 ao M J _=>?_
    refine h _ _ _ M ((ac.more z).more ao.le) ?_
    rw[←L]
    simpa [ints] using J
end Go.Proofs.YtjdiakhipmggjaaGreatDoor

namespace Go.Hm
open Go.Kd
def S5 (n i b:Nat):Bool:=decide (i<n)&&decide (128≤b)&&decide (b<192)
def Zw (n a b c d:Nat):Nat:=
 if a<128 then 1
 else if (decide (194≤a)&&decide (a<224)&&S5 n 1 b)=true then 2
 else if (decide (224≤a)&&decide (a<240)&&S5 n 1 b&&S5 n 2 c)=true then
  (if 2048≤a % 16*4096+b % 64*64+c % 64∧(a % 16*4096+b % 64*64+c % 64<55296∨57343<a % 16*4096+b % 64*64+c % 64) then 3 else 0)
 else if (decide (240≤a)&&decide (a<245)&&S5 n 1 b&&S5 n 2 c&&S5 n 3 d)=true then
  (if 65536≤a % 8*262144+b % 64*4096+c % 64*64+d % 64∧a % 8*262144+b % 64*4096+c % 64*64+d % 64≤1114111 then 4 else 0)
 else 0
theorem X0n (n a b c d:Nat) (u:a<256) (s:b<256) (q:c<256) (r:d<256):
 Zw n a b c d=if (Lib.decodeN n a b c d).1=65533∧(Lib.decodeN n a b c d).2=1 then 0 else (Lib.decodeN n a b c d).2:=by
 have key: ∀v k:Nat,Lib.decodeN n a b c d=(v,k)→ ¬k=1→Zw n a b c d=k→Zw n a b c d=if (Lib.decodeN n a b c d).1=65533∧(Lib.decodeN n a b c d).2=1 then 0 else (Lib.decodeN n a b c d).2:=by
  intro v k h p o
  rw[h,o,if_neg (fun e=>p e.2)]
 have g:Lib.decodeN n a b c d=(65533,1)→Zw n a b c d=0→Zw n a b c d=if (Lib.decodeN n a b c d).1=65533∧(Lib.decodeN n a b c d).2=1 then 0 else (Lib.decodeN n a b c d).2:=by
  intro h o
  rw[h,o];simp
 by_cases f:a<128
 ·have h:Lib.decodeN n a b c d=(a,1):=by unfold Lib.decodeN;rw[if_pos f]
  rw[h,if_neg (by simp only;omega)]
  unfold Zw;rw[if_pos f]
 by_cases j:a / 32=6∧(1<n∧b / 64=2)
 ·by_cases i:a % 32*64+b % 64≥128
  ·refine key _ 2 (by unfold Lib.decodeN;rw[if_neg f,if_pos j,if_pos i]) (by decide) ?_
   unfold Zw S5
   simp only[Bool.and_eq_true,decide_eq_true_eq]
   rw[if_neg f,if_pos (by omega)]
  ·refine g (by unfold Lib.decodeN;rw[if_neg f,if_pos j,if_neg i]) ?_
   unfold Zw S5
   simp only[Bool.and_eq_true,decide_eq_true_eq]
   rw[if_neg f,if_neg (by omega),if_neg (by omega),if_neg (by omega)]
 by_cases l:a / 16=14∧(1<n∧b / 64=2)∧(2<n∧c / 64=2)
 ·by_cases i:2048≤a % 16*4096+b % 64*64+c % 64∧(a % 16*4096+b % 64*64+c % 64<55296∨57343<a % 16*4096+b % 64*64+c % 64)
  ·refine key _ 3 (by unfold Lib.decodeN;rw[if_neg f,if_neg j,if_pos l,if_pos (by omega)]) (by decide) ?_
   unfold Zw S5
   simp only[Bool.and_eq_true,decide_eq_true_eq]
   rw[if_neg f,if_neg (by omega),if_pos (by omega),if_pos i]
  ·refine g (by unfold Lib.decodeN;rw[if_neg f,if_neg j,if_pos l,if_neg (by omega)]) ?_
   unfold Zw S5
   simp only[Bool.and_eq_true,decide_eq_true_eq]
   rw[if_neg f,if_neg (by omega),if_pos (by omega),if_neg i]
 by_cases m:a / 8=30∧(1<n∧b / 64=2)∧(2<n∧c / 64=2)∧(3<n∧d / 64=2)
 ·by_cases i:65536≤a % 8*262144+b % 64*4096+c % 64*64+d % 64∧a % 8*262144+b % 64*4096+c % 64*64+d % 64≤1114111
  ·refine key _ 4 (by unfold Lib.decodeN;rw[if_neg f,if_neg j,if_neg l,if_pos m,if_pos (by omega)]) (by decide) ?_
   unfold Zw S5
   simp only[Bool.and_eq_true,decide_eq_true_eq]
   rw[if_neg f,if_neg (by omega),if_neg (by omega),if_pos (by omega),if_pos i]
  ·refine g (by unfold Lib.decodeN;rw[if_neg f,if_neg j,if_neg l,if_pos m,if_neg (by omega)]) ?_
   unfold Zw S5
   simp only[Bool.and_eq_true,decide_eq_true_eq]
   rw[if_neg f,if_neg (by omega),if_neg (by omega)]
   by_cases t:a<245
   ·rw[if_pos (by omega),if_neg i]
   ·rw[if_neg (by omega)]
 ·refine g (by unfold Lib.decodeN;rw[if_neg f,if_neg j,if_neg l,if_neg m]) ?_
  unfold Zw S5
  simp only[Bool.and_eq_true,decide_eq_true_eq]
  rw[if_neg f,if_neg (by omega),if_neg (by omega),if_neg (by omega)]
def X5 (l:X0) (i:Nat):Nat:=(l.getD i 0).toNat
theorem Xy (l:X0) (i:Nat):X5 l i<256:=(l.getD i 0).toNat_lt
def Zv (l:X0):Nat:=Zw l.length (X5 l 0) (X5 l 1) (X5 l 2) (X5 l 3)
theorem Q5S (l:X0):Zv l=if (Lib.decodeL l).1=65533∧(Lib.decodeL l).2=1 then 0 else (Lib.decodeL l).2:=by
 rw[Lib.decodeL_N]
 exact X0n _ _ _ _ _ (Xy l 0) (Xy l 1) (Xy l 2) (Xy l 3)
theorem Q8W {l:X0} (a:l≠[]) (h:Zv l≠0):1≤Zv l∧Zv l≤l.length:=by
 have b:=Lib.decodeL_le l a
 have c:=Lib.decodeL_width l
 rw[Q5S] at h⊢
 split at h
 ·exact absurd rfl h
 ·rw[if_neg (by assumption)];omega
theorem Q8o {f:Nat} {l:X0} (a:l≠[]):Lib.validGoD (f+1) l=if Zv l=0 then false else Lib.validGoD f (l.drop (Zv l)):=by
 have b:=Lib.decodeL_width l
 simp only[Lib.validGoD,if_neg a]
 rw[Q5S]
 split
 ·rw[if_pos rfl]
 ·rw[if_neg (by omega)]
end Go.Hm
namespace Go.Emb
open Go.RowKit
theorem Q37 {P:Program} {w:World} {K:Value→World→Prop} {k:IntKind} {t:TypeId} {d b:Operand} {a c:Int} (f:0<c∧0≤a) (h:K (.int k (a % c)) w):Q3 P .rem t d b (.int k a) (.int k c) w K:=by
 have e:Q3 P .rem t d b (.int k a) (.int k c) w K=K (.int k (a.tmod c)) w:=X9 (by simp[eqGuard,Go.binOp,Op.intDiv];intro e;omega)
 rw[e,Int.tmod_eq_emod_of_nonneg f.2];exact h
end Go.Emb
namespace Go.Proofs.YtjdiakhipmggjaaGreatDoor
open Go.Emb Go.RowKit Go.Kd Go.Hm
variable {w : World} {K : Value → World → Prop} {σ : Q5}
theorem Mj {a:X0} {i:Nat} (b:i<a.length) (h:K (.int .u8 (X5 a i)) w):S6 P T.c (S a) (I i) w K:=by
 rw[Xm X8 (by omega) (by simpa using b)]
 have:(a[(i:Int).toNat]'(by simpa using b)).toNat=X5 a i:=by
  unfold X5
  rw[List.getD_eq_getElem?_getD,List.getElem?_eq_getElem b];rfl
 rw[this];exact h
theorem Q3B {n:Int} (a:0≤n∧n<256) (h:K (I n) w):conv P T.a3 T.e (.int .u8 n) w K:=by
 rw[Rn Q3L Ks,S7 (by omega) (by omega)];exact h
theorem Wp {a:X0} {i:Nat} (h:K (.bool (S5 a.length i (X5 a i))) w):Q1 P F.r [S a,I i] w K:=Gn (by
 unfold Nf
 unfold S5 at h
 simp only[↓M1,M1,Mb,reduceIte]
 by_cases b:i<a.length
 ·have d:decide ((i:Int)<a.length)=true:=by rw[decide_eq_true_eq];omega
  have c:decide (i<a.length)=true:=by simpa using b
  rw[c] at h
  simp only[d,↓M1,M1,Mb,reduceIte]
  refine Mj b ?_
  (try simp only[↓M1,M1,Mb,reduceIte])
  have f:decide ((128:Int)≤(X5 a i:Int))=decide (128≤X5 a i):=by rw[Bool.eq_iff_iff,decide_eq_true_eq,decide_eq_true_eq];omega
  have g:decide ((X5 a i:Int)<192)=decide (X5 a i<192):=by rw[Bool.eq_iff_iff,decide_eq_true_eq,decide_eq_true_eq];omega
  rw[f]
  cases e:decide (128≤X5 a i) with
  | true=>
   rw[e] at h
   simp only[↓M1,M1,Mb,reduceIte]
   refine Mj b ?_
   simp only[g,↓M1,M1,Mb,reduceIte]
   simpa using h
  | false=>
   rw[e] at h
   simp only[↓M1,M1,Mb,reduceIte]
   simpa using h
 ·have d:decide ((i:Int)<a.length)=false:=by rw[decide_eq_false_iff_not];omega
  have c:decide (i<a.length)=false:=by simpa using b
  rw[c] at h
  simp only[d,↓M1,M1,Mb,reduceIte]
  simpa using h)
def Jv (a:X0):Nat:=X5 a 0 % 16*4096+X5 a 1 % 64*64+X5 a 2 % 64
def So (a:X0):Nat:=X5 a 0 % 8*262144+X5 a 1 % 64*4096+X5 a 2 % 64*64+X5 a 3 % 64
theorem Q9p (a:X0):Zv a=if X5 a 0<128 then 1
 else if (decide (194≤X5 a 0)&&decide (X5 a 0<224)&&S5 a.length 1 (X5 a 1))=true then 2
 else if (decide (224≤X5 a 0)&&decide (X5 a 0<240)&&S5 a.length 1 (X5 a 1)&&S5 a.length 2 (X5 a 2))=true then
  (if 2048≤Jv a∧(Jv a<55296∨57343<Jv a) then 3 else 0)
 else if (decide (240≤X5 a 0)&&decide (X5 a 0<245)&&S5 a.length 1 (X5 a 1)&&S5 a.length 2 (X5 a 2)&&S5 a.length 3 (X5 a 3))=true then
  (if 65536≤So a∧So a≤1114111 then 4 else 0)
 else 0:=rfl
set_option maxHeartbeats 2000000 in
theorem Q9P {a:X0} (hne:a≠[]) (hs:X2 w σ) (h: ∀w',Below w.heap.size w w'→K (I (Zv a)) w'):Q1 P F.bG [S a] w K:=Aa (by
 unfold Oz
 have hl:0<a.length:=List.length_pos_iff.2 hne
 have b0:=Xy a 0
 have b1:=Xy a 1
 have b2:=Xy a 2
 have b3:=Xy a 3
 refine Mj (i:=0) hl ?_
 refine Q3B (by omega) ?_
 refine Up (fun _ w'=>Below w.heap.size w w'∧Zv a=0) ?_ (fun _ d w' hx=>by
  have:=h w' hx.1
  rw[hx.2] at this
  exact this)
 have hK: ∀n w',Below w.heap.size w w'→Zv a=n→K (I n) w':=fun n w' hb e=>by rw[←e];exact h w' hb
 clear h
 have hcm:=Q9p a
 simp only[↓M1,M1,Mb,reduceIte]
 refine Q7 (fun h1=>?_) (fun h1=>?_)
 ·have:X5 a 0<128:=by have:=of_decide_eq_true h1;omega
  exact hK 1 _ (Below.refl _ _) (by rw[hcm,if_pos this])
 have c0: ¬X5 a 0<128:=by have:=of_decide_eq_false h1;omega
 rw[if_neg c0] at hcm
 by_cases c1:X5 a 0<194
 ·have i1:decide ((194:Int)≤X5 a 0)=false:=by rw[decide_eq_false_iff_not];omega
  have n1:decide (194≤X5 a 0)=false:=by rw[decide_eq_false_iff_not];omega
  have i2:decide ((X5 a 0:Int)<224)=true:=by rw[decide_eq_true_eq];omega
  have n2:decide (X5 a 0<224)=true:=by rw[decide_eq_true_eq];omega
  have i3:decide ((224:Int)≤X5 a 0)=false:=by rw[decide_eq_false_iff_not];omega
  have n3:decide (224≤X5 a 0)=false:=by rw[decide_eq_false_iff_not];omega
  have i4:decide ((X5 a 0:Int)<240)=true:=by rw[decide_eq_true_eq];omega
  have n4:decide (X5 a 0<240)=true:=by rw[decide_eq_true_eq];omega
  have i5:decide ((240:Int)≤X5 a 0)=false:=by rw[decide_eq_false_iff_not];omega
  have n5:decide (240≤X5 a 0)=false:=by rw[decide_eq_false_iff_not];omega
  have i6:decide ((X5 a 0:Int)<245)=true:=by rw[decide_eq_true_eq];omega
  have n6:decide (X5 a 0<245)=true:=by rw[decide_eq_true_eq];omega
  simp only[i1,i2,i3,i4,i5,i6,↓M1,M1,Mb,reduceIte]
  exact ⟨Below.refl _ _,by rw[hcm];simp only[n1,n2,n3,n4,n5,n6,Bool.and_true,Bool.true_and,Bool.false_and,Bool.and_false,Bool.false_eq_true,if_true,if_false,reduceIte]⟩
 by_cases c2:X5 a 0<224
 ·have i1:decide ((194:Int)≤X5 a 0)=true:=by rw[decide_eq_true_eq];omega
  have n1:decide (194≤X5 a 0)=true:=by rw[decide_eq_true_eq];omega
  have i2:decide ((X5 a 0:Int)<224)=true:=by rw[decide_eq_true_eq];omega
  have n2:decide (X5 a 0<224)=true:=by rw[decide_eq_true_eq];omega
  have i3:decide ((224:Int)≤X5 a 0)=false:=by rw[decide_eq_false_iff_not];omega
  have n3:decide (224≤X5 a 0)=false:=by rw[decide_eq_false_iff_not];omega
  have i4:decide ((X5 a 0:Int)<240)=true:=by rw[decide_eq_true_eq];omega
  have n4:decide (X5 a 0<240)=true:=by rw[decide_eq_true_eq];omega
  have i5:decide ((240:Int)≤X5 a 0)=false:=by rw[decide_eq_false_iff_not];omega
  have n5:decide (240≤X5 a 0)=false:=by rw[decide_eq_false_iff_not];omega
  have i6:decide ((X5 a 0:Int)<245)=true:=by rw[decide_eq_true_eq];omega
  have n6:decide (X5 a 0<245)=true:=by rw[decide_eq_true_eq];omega
  simp only[i1,i2,i3,i4,i5,i6,↓M1,M1,Mb,reduceIte]
  refine Wp (i:=1) ?_
  cases A1:S5 a.length 1 (X5 a 1) with
  | true=>simp only[↓M1,M1,Mb,reduceIte];exact hK 2 _ (Below.refl _ _) (by rw[hcm];simp only[A1,n1,n2,n3,n4,n5,n6,Bool.and_true,Bool.true_and,Bool.false_and,Bool.and_false,Bool.false_eq_true,if_true,if_false,reduceIte])
  | false=>simp only[↓M1,M1,Mb,reduceIte];exact ⟨Below.refl _ _,by rw[hcm];simp only[A1,n1,n2,n3,n4,n5,n6,Bool.and_true,Bool.true_and,Bool.false_and,Bool.and_false,Bool.false_eq_true,if_true,if_false,reduceIte]⟩
 by_cases c3:X5 a 0<240
 ·have i1:decide ((194:Int)≤X5 a 0)=true:=by rw[decide_eq_true_eq];omega
  have n1:decide (194≤X5 a 0)=true:=by rw[decide_eq_true_eq];omega
  have i2:decide ((X5 a 0:Int)<224)=false:=by rw[decide_eq_false_iff_not];omega
  have n2:decide (X5 a 0<224)=false:=by rw[decide_eq_false_iff_not];omega
  have i3:decide ((224:Int)≤X5 a 0)=true:=by rw[decide_eq_true_eq];omega
  have n3:decide (224≤X5 a 0)=true:=by rw[decide_eq_true_eq];omega
  have i4:decide ((X5 a 0:Int)<240)=true:=by rw[decide_eq_true_eq];omega
  have n4:decide (X5 a 0<240)=true:=by rw[decide_eq_true_eq];omega
  have i5:decide ((240:Int)≤X5 a 0)=false:=by rw[decide_eq_false_iff_not];omega
  have n5:decide (240≤X5 a 0)=false:=by rw[decide_eq_false_iff_not];omega
  have i6:decide ((X5 a 0:Int)<245)=true:=by rw[decide_eq_true_eq];omega
  have n6:decide (X5 a 0<245)=true:=by rw[decide_eq_true_eq];omega
  simp only[i1,i2,i3,i4,i5,i6,↓M1,M1,Mb,reduceIte]
  refine Wp (i:=1) ?_
  cases A1:S5 a.length 1 (X5 a 1) with
  | false=>simp only[↓M1,M1,Mb,reduceIte];exact ⟨Below.refl _ _,by rw[hcm];simp only[A1,n1,n2,n3,n4,n5,n6,Bool.and_true,Bool.true_and,Bool.false_and,Bool.and_false,Bool.false_eq_true,if_true,if_false,reduceIte]⟩
  | true=>
  simp only[↓M1,M1,Mb,reduceIte]
  refine Wp (i:=2) ?_
  cases A2:S5 a.length 2 (X5 a 2) with
  | false=>simp only[↓M1,M1,Mb,reduceIte];exact ⟨Below.refl _ _,by rw[hcm];simp only[A1,A2,n1,n2,n3,n4,n5,n6,Bool.and_true,Bool.true_and,Bool.false_and,Bool.and_false,Bool.false_eq_true,if_true,if_false,reduceIte]⟩
  | true=>
  simp only[↓M1,M1,Mb,reduceIte]
  simp only[A1,A2,n1,n2,n3,n4,n5,n6,Bool.and_true,Bool.true_and,Bool.false_and,Bool.and_false,Bool.false_eq_true,if_true,if_false,reduceIte] at hcm
  have hl1:1<a.length:=by unfold S5 at A1;simp only[Bool.and_eq_true,decide_eq_true_eq] at A1;exact A1.1.1
  have hl2:2<a.length:=by unfold S5 at A2;simp only[Bool.and_eq_true,decide_eq_true_eq] at A2;exact A2.1.1
  have hw:IntKind.i64.wrap (IntKind.i64.wrap (IntKind.i64.wrap ((X5 a 0:Int) % 16*4096)+IntKind.i64.wrap ((X5 a 1:Int) % 64*64))+(X5 a 2:Int) % 64)=((Jv a:Nat):Int):=by
   rw[S7 (n:=(X5 a 0:Int) % 16*4096) (by omega) (by omega),S7 (n:=(X5 a 1:Int) % 64*64) (by omega) (by omega),S7 (n:=_+(X5 a 1:Int) % 64*64) (by omega) (by omega),S7 (by omega) (by omega)]
   unfold Jv;omega
  refine U2 hs ?_
  have hx1: ∀{w':World} {K:Value→World→Prop},K (.int .u8 (X5 a 1)) w'→S6 P T.c (S a) (.int .i64 1) w' K:=fun hK=>Mj (i:=1) hl1 hK
  have hx2: ∀{w':World} {K:Value→World→Prop},K (.int .u8 (X5 a 2)) w'→S6 P T.c (S a) (.int .i64 2) w' K:=fun hK=>Mj (i:=2) hl2 hK
  (repeat (apply J6;(· intros;(repeat (rename_i hx;subst hx));(repeat' (first | (with_reducible exact E1 rfl) | (with_reducible exact B2 (Stp.bel (by (repeat (first | exact Stp.refl (by (first | assumption | exact Stp.sat (by assumption) | exact Hst.sat (by assumption))) | assumption | refine Stp.trans ?_ (by first | assumption | exact Hst.stp (by assumption)))))) rfl) | (with_reducible intro _) | (simp only[↓M2,M2,Mb,reduceIte]) | (with_reducible refine Q37 au ?_) | (with_reducible refine Q3B au ?_) | (with_reducible refine hx1 ?_) | (with_reducible refine hx2 ?_) | (with_reducible show Q2 _ _ _ _ _;first | refine X7 aS aL aR ?_ | refine Y4 aS aL aR ?_ | refine ld aS aL aR ?_) | (with_reducible show indexAddr _ _ _ _ _ _;refine Y3 aL au ?_) | (with_reducible show X3 _ _ _ _ _ _ _ _;refine Q8 aL ?_) | (with_reducible show G1 _ _ _ _ _ _;refine J4 aR ?_) | (with_reducible show pick _ _ _ _ _ _;refine O5 ?_) | (apply K1;intro hh;(try simp only[hh,reduceIte,↓M2,M2,Mb,reduceIte]))));done)))
  (intros;(repeat (rename_i hx;subst hx));(try simp only[↓M2,M2,Mb,reduceIte]))
  rename_i w2 hb2
  simp only[hw]
  have hb:=hb2.stp.bel
  by_cases e1:2048≤Jv a
  ·by_cases e2:Jv a<55296
   ·simp only[(show decide ((2048:Int)≤(Jv a:Int))=true by rw[decide_eq_true_eq];omega),(show decide ((Jv a:Int)<55296)=true by rw[decide_eq_true_eq];omega),↓M1,M1,Mb,reduceIte]
    exact hK 3 _ hb (by rw[hcm,if_pos ⟨e1, .inl e2⟩])
   ·by_cases e3:57343<Jv a
    ·simp only[(show decide ((2048:Int)≤(Jv a:Int))=true by rw[decide_eq_true_eq];omega),(show decide ((Jv a:Int)<55296)=false by rw[decide_eq_false_iff_not];omega),(show decide ((57343:Int)<(Jv a:Int))=true by rw[decide_eq_true_eq];omega),↓M1,M1,Mb,reduceIte]
     exact hK 3 _ hb (by rw[hcm,if_pos ⟨e1, .inr e3⟩])
    ·simp only[(show decide ((2048:Int)≤(Jv a:Int))=true by rw[decide_eq_true_eq];omega),(show decide ((Jv a:Int)<55296)=false by rw[decide_eq_false_iff_not];omega),(show decide ((57343:Int)<(Jv a:Int))=false by rw[decide_eq_false_iff_not];omega),↓M1,M1,Mb,reduceIte]
     exact ⟨hb,by rw[hcm,if_neg (by omega)]⟩
  ·simp only[(show decide ((2048:Int)≤(Jv a:Int))=false by rw[decide_eq_false_iff_not];omega),↓M1,M1,Mb,reduceIte]
   exact ⟨hb,by rw[hcm,if_neg (by omega)]⟩
 by_cases c4:X5 a 0<245
 ·have i1:decide ((194:Int)≤X5 a 0)=true:=by rw[decide_eq_true_eq];omega
  have n1:decide (194≤X5 a 0)=true:=by rw[decide_eq_true_eq];omega
  have i2:decide ((X5 a 0:Int)<224)=false:=by rw[decide_eq_false_iff_not];omega
  have n2:decide (X5 a 0<224)=false:=by rw[decide_eq_false_iff_not];omega
  have i3:decide ((224:Int)≤X5 a 0)=true:=by rw[decide_eq_true_eq];omega
  have n3:decide (224≤X5 a 0)=true:=by rw[decide_eq_true_eq];omega
  have i4:decide ((X5 a 0:Int)<240)=false:=by rw[decide_eq_false_iff_not];omega
  have n4:decide (X5 a 0<240)=false:=by rw[decide_eq_false_iff_not];omega
  have i5:decide ((240:Int)≤X5 a 0)=true:=by rw[decide_eq_true_eq];omega
  have n5:decide (240≤X5 a 0)=true:=by rw[decide_eq_true_eq];omega
  have i6:decide ((X5 a 0:Int)<245)=true:=by rw[decide_eq_true_eq];omega
  have n6:decide (X5 a 0<245)=true:=by rw[decide_eq_true_eq];omega
  simp only[i1,i2,i3,i4,i5,i6,↓M1,M1,Mb,reduceIte]
  refine Wp (i:=1) ?_
  cases A1:S5 a.length 1 (X5 a 1) with
  | false=>simp only[↓M1,M1,Mb,reduceIte];exact ⟨Below.refl _ _,by rw[hcm];simp only[A1,n1,n2,n3,n4,n5,n6,Bool.and_true,Bool.true_and,Bool.false_and,Bool.and_false,Bool.false_eq_true,if_true,if_false,reduceIte]⟩
  | true=>
  simp only[↓M1,M1,Mb,reduceIte]
  refine Wp (i:=2) ?_
  cases A2:S5 a.length 2 (X5 a 2) with
  | false=>simp only[↓M1,M1,Mb,reduceIte];exact ⟨Below.refl _ _,by rw[hcm];simp only[A1,A2,n1,n2,n3,n4,n5,n6,Bool.and_true,Bool.true_and,Bool.false_and,Bool.and_false,Bool.false_eq_true,if_true,if_false,reduceIte]⟩
  | true=>
  simp only[↓M1,M1,Mb,reduceIte]
  refine Wp (i:=3) ?_
  cases A3:S5 a.length 3 (X5 a 3) with
  | false=>simp only[↓M1,M1,Mb,reduceIte];exact ⟨Below.refl _ _,by rw[hcm];simp only[A1,A2,A3,n1,n2,n3,n4,n5,n6,Bool.and_true,Bool.true_and,Bool.false_and,Bool.and_false,Bool.false_eq_true,if_true,if_false,reduceIte]⟩
  | true=>
  simp only[↓M1,M1,Mb,reduceIte]
  simp only[A1,A2,A3,n1,n2,n3,n4,n5,n6,Bool.and_true,Bool.true_and,Bool.false_and,Bool.and_false,Bool.false_eq_true,if_true,if_false,reduceIte] at hcm
  have hl1:1<a.length:=by unfold S5 at A1;simp only[Bool.and_eq_true,decide_eq_true_eq] at A1;exact A1.1.1
  have hl2:2<a.length:=by unfold S5 at A2;simp only[Bool.and_eq_true,decide_eq_true_eq] at A2;exact A2.1.1
  have hl3:3<a.length:=by unfold S5 at A3;simp only[Bool.and_eq_true,decide_eq_true_eq] at A3;exact A3.1.1
  have hw:IntKind.i64.wrap (IntKind.i64.wrap (IntKind.i64.wrap (IntKind.i64.wrap ((X5 a 0:Int) % 8*262144)+IntKind.i64.wrap ((X5 a 1:Int) % 64*4096))+IntKind.i64.wrap ((X5 a 2:Int) % 64*64))+(X5 a 3:Int) % 64)=((So a:Nat):Int):=by
   rw[S7 (n:=(X5 a 0:Int) % 8*262144) (by omega) (by omega),S7 (n:=(X5 a 1:Int) % 64*4096) (by omega) (by omega),S7 (n:=(X5 a 2:Int) % 64*64) (by omega) (by omega),S7 (n:=_+(X5 a 1:Int) % 64*4096) (by omega) (by omega),S7 (n:=_+(X5 a 2:Int) % 64*64) (by omega) (by omega),S7 (by omega) (by omega)]
   unfold So;omega
  refine U2 hs ?_
  have hx1: ∀{w':World} {K:Value→World→Prop},K (.int .u8 (X5 a 1)) w'→S6 P T.c (S a) (.int .i64 1) w' K:=fun hK=>Mj (i:=1) hl1 hK
  have hx2: ∀{w':World} {K:Value→World→Prop},K (.int .u8 (X5 a 2)) w'→S6 P T.c (S a) (.int .i64 2) w' K:=fun hK=>Mj (i:=2) hl2 hK
  have hx3: ∀{w':World} {K:Value→World→Prop},K (.int .u8 (X5 a 3)) w'→S6 P T.c (S a) (.int .i64 3) w' K:=fun hK=>Mj (i:=3) hl3 hK
  (repeat (apply J6;(· intros;(repeat (rename_i hx;subst hx));(repeat' (first | (with_reducible exact E1 rfl) | (with_reducible exact B2 (Stp.bel (by (repeat (first | exact Stp.refl (by (first | assumption | exact Stp.sat (by assumption) | exact Hst.sat (by assumption))) | assumption | refine Stp.trans ?_ (by first | assumption | exact Hst.stp (by assumption)))))) rfl) | (with_reducible intro _) | (simp only[↓M2,M2,Mb,reduceIte]) | (with_reducible refine Q37 au ?_) | (with_reducible refine Q3B au ?_) | (with_reducible refine hx1 ?_) | (with_reducible refine hx2 ?_) | (with_reducible refine hx3 ?_) | (with_reducible show Q2 _ _ _ _ _;first | refine X7 aS aL aR ?_ | refine Y4 aS aL aR ?_ | refine ld aS aL aR ?_) | (with_reducible show indexAddr _ _ _ _ _ _;refine Y3 aL au ?_) | (with_reducible show X3 _ _ _ _ _ _ _ _;refine Q8 aL ?_) | (with_reducible show G1 _ _ _ _ _ _;refine J4 aR ?_) | (with_reducible show pick _ _ _ _ _ _;refine O5 ?_) | (apply K1;intro hh;(try simp only[hh,reduceIte,↓M2,M2,Mb,reduceIte]))));done)))
  (intros;(repeat (rename_i hx;subst hx));(try simp only[↓M2,M2,Mb,reduceIte]))
  rename_i w2 hb2
  simp only[hw]
  have hb:=hb2.stp.bel
  by_cases e1:65536≤So a
  ·by_cases e2:So a≤1114111
   ·simp only[(show decide ((65536:Int)≤(So a:Int))=true by rw[decide_eq_true_eq];omega),(show decide ((So a:Int)≤1114111)=true by rw[decide_eq_true_eq];omega),↓M1,M1,Mb,reduceIte]
    exact hK 4 _ hb (by rw[hcm,if_pos ⟨e1,e2⟩])
   ·simp only[(show decide ((65536:Int)≤(So a:Int))=true by rw[decide_eq_true_eq];omega),(show decide ((So a:Int)≤1114111)=false by rw[decide_eq_false_iff_not];omega),↓M1,M1,Mb,reduceIte]
    exact ⟨hb,by rw[hcm,if_neg (by omega)]⟩
  ·simp only[(show decide ((65536:Int)≤(So a:Int))=false by rw[decide_eq_false_iff_not];omega),↓M1,M1,Mb,reduceIte]
   exact ⟨hb,by rw[hcm,if_neg (by omega)]⟩
 have i1:decide ((194:Int)≤X5 a 0)=true:=by rw[decide_eq_true_eq];omega
 have n1:decide (194≤X5 a 0)=true:=by rw[decide_eq_true_eq];omega
 have i2:decide ((X5 a 0:Int)<224)=false:=by rw[decide_eq_false_iff_not];omega
 have n2:decide (X5 a 0<224)=false:=by rw[decide_eq_false_iff_not];omega
 have i3:decide ((224:Int)≤X5 a 0)=true:=by rw[decide_eq_true_eq];omega
 have n3:decide (224≤X5 a 0)=true:=by rw[decide_eq_true_eq];omega
 have i4:decide ((X5 a 0:Int)<240)=false:=by rw[decide_eq_false_iff_not];omega
 have n4:decide (X5 a 0<240)=false:=by rw[decide_eq_false_iff_not];omega
 have i5:decide ((240:Int)≤X5 a 0)=true:=by rw[decide_eq_true_eq];omega
 have n5:decide (240≤X5 a 0)=true:=by rw[decide_eq_true_eq];omega
 have i6:decide ((X5 a 0:Int)<245)=false:=by rw[decide_eq_false_iff_not];omega
 have n6:decide (X5 a 0<245)=false:=by rw[decide_eq_false_iff_not];omega
 simp only[i1,i2,i3,i4,i5,i6,↓M1,M1,Mb,reduceIte]
 exact ⟨Below.refl _ _,by rw[hcm];simp only[n1,n2,n3,n4,n5,n6,Bool.and_true,Bool.true_and,Bool.false_and,Bool.and_false,Bool.false_eq_true,if_true,if_false,reduceIte]⟩)
theorem Q4c {s:X0} (u:s.length≤U0) (q:X2 w σ) (h: ∀w',Below w.heap.size w w'→K (.bool (Lib.validD s)) w'):Q1 P F.aH [S s] w K:=Po (by
 unfold Mn
 refine Kp (fun f x w'=> ∃r,x=S r∧r.length≤f∧r.length≤U0∧Below w.heap.size w w'∧Lib.validD s=Lib.validGoD f r) s.length ⟨s,rfl,Nat.le_refl _,u,Below.refl _ _,rfl⟩ ?_
 rintro m f x d w1 ⟨r,rfl,p,t,b,c⟩ j
 refine Vy ?_
 by_cases a:r=[]
 ·have e:decide (r=[])=true:=by simpa using a
  simp only[e,↓M1,M1,Mb,reduceIte]
  subst a
  have:Lib.validGoD f []=true:=by cases f<;>simp[Lib.validGoD]
  rw[c,this] at h
  exact h _ b
 ·have e:decide (r=[])=false:=by simpa using a
  simp only[e,↓M1,M1,Mb,reduceIte]
  have o:0<r.length:=List.length_pos_iff.2 a
  obtain ⟨f,rfl⟩: ∃g,f=g+1:=⟨f-1,by omega⟩
  rw[Q8o a] at c
  refine Q9P a (q.below b) fun v l=>?_
  have i:=b.trans (l.mono b.size)
  refine K9 ?_
  by_cases n:Zv r=0
  ·have k:decide ((Zv r:Int)=0)=true:=by rw[decide_eq_true_eq];omega
   simp only[k,↓M1,M1,Mb,reduceIte]
   rw[c,if_pos n] at h
   exact h _ i
  ·have k:decide ((Zv r:Int)=0)=false:=by rw[decide_eq_false_iff_not];omega
   simp only[k,↓M1,M1,Mb,reduceIte]
   obtain ⟨z,y⟩:=Q8W a n
   rw[Un X8 (by omega) (by omega)]
   rw[if_neg n] at c
   refine j f _ _ (by omega) ⟨r.drop (Zv r),by simp,by rw[List.length_drop];omega,by rw[List.length_drop];omega,i,c⟩)
end Go.Proofs.YtjdiakhipmggjaaGreatDoor

namespace Go.Proofs.YtjdiakhipmggjaaGreatDoor
open Go.Emb Go.RowKit Go.Kd Go.Hm
variable {w : World} {K : Value → World → Prop} {σ : Q5}
theorem Q4S {σ:Q5}: ∀(xs:List X0),(∀x∈xs,x.length≤U0)→Q0a U9 σ (xs.map S) xs
 | [],_=>trivial
 | x::r,h=>⟨⟨rfl,h x (by simp)⟩,Q4S r fun y a=>h y (by simp[a])⟩
def Um:List X0:=Ji.map (·.name)
set_option maxRecDepth 100000 in
theorem X1u (d:X2 w σ) (h: ∀v w' a,Stp w σ w' a→Sl 1 U9 a v Um→K v w'):Q1 P F.bU [] w K:=Q0x (by
 unfold Ds
 exact P6 (R:=U9) (sz:=1) d (Um.map S) Um rfl rfl (by intro v b;obtain ⟨x,_,rfl⟩:=List.mem_map.1 b;rfl) rfl (Q4S _ (by decide)) fun v w' a c b=>h v w' a c b)
theorem Q86 {a:X0} (z:X2 w σ) (h: ∀w' C,Stp w σ w' C→K (I (L5 (Qb a))) w'):Q1 P F.bg [S a] w K:=Fy (by
 unfold Ln
 refine X1u z fun v w1 σ1 n p=>?_
 have r:Qb a=Um.findIdx? fun x=>decide (x=a):=by
  unfold Qb Um
  rw[List.findIdx?_map];rfl
 have q: ∀o,Qb a=o→K (I (L5 o)) w1:=fun o e=>by rw[←e];exact h _ _ n
 rw[r] at q
 have l:Um.length=42:=rfl
 generalize Um=c at p q l
 refine U1 c.length (fun k w'=>w'=w1∧ ∀j (i:j<c.length),j<k→ ¬c[j]=a) ⟨rfl,fun j _ h=>by omega⟩ fun k D d E u=>?_
 obtain ⟨y,g⟩:=u
 subst y
 refine Q8 p ?_
 refine Z2 ?_
 refine Q7 (fun s=>?_) (fun s=>?_)
 ·have b:k<c.length:=by simpa using s
  refine Y3 p b ?_
  obtain ⟨A,_⟩:=p.elS b
  refine X7 n.sat A rfl ?_
  refine K6 ?_
  refine Q7 (fun f=>?_) (fun f=>?_)
  ·have f:c[k]=a:=by simpa using f
   exact q (some k) (by
    rw[List.findIdx?_eq_some_iff_getElem]
    exact ⟨b,by simpa using f,fun j i=>by simpa using g j (by omega) i⟩)
  ·have f: ¬c[k]=a:=by simpa using f
   (try simp only[↓M1,M1,Mb,reduceIte])
   refine Y6 p.max b ⟨rfl,fun j i t=>?_⟩
   by_cases e:j=k
   ·subst e;exact f
   ·exact g j i (by omega)
 ·have b: ¬k<c.length:=by simpa using s
  exact q none (by
   rw[List.findIdx?_eq_none_iff]
   intro m B
   obtain ⟨j,i,rfl⟩:=List.getElem_of_mem B
   simpa using g j i (by omega)))
theorem X1m {o:Option Nat}:decide (L5 o<0)= !o.isSome:=by
 cases o with
 | none=>rfl
 | some i=>
  have: ¬(i:Int)<0:=by omega
  exact decide_eq_false this
def Nr (a:X0):Bool:=decide (a=[105,110,116])||decide (a=[108,111,97,100])||decide (a=[115,116,111,114,101])||decide (a=[106,117,109,112])||decide (a=[98,114,97,110,99,104])
def Vx (a:X0):Bool:=decide (a=[119,111,114,100])||decide (a=[110,101,119])||decide (a=[103,101,116])||decide (a=[112,117,116])||decide (a=[99,97,108,108])||decide (a=[97,114,114,97,121])||decide (a=[105,115])||decide (a=[99,97,115,116])
theorem Q9Q (a:X0):takes a=(Nr a,Vx a,(Qb a).isSome):=by
 unfold takes
 cases h:Qb a with
 | none=>
  have c:=List.findIdx?_eq_none_iff.1 h
  have f: ∀x∈Um,¬x=a:=by
   intro x d
   obtain ⟨o,r,rfl⟩:=List.mem_map.1 d
   have:=c o r
   simpa using this
  have b: ∀x∈Um,decide (a=x)=false:=fun x d=>by rw[decide_eq_false_iff_not];exact fun e=>f x d e.symm
  have l:Nr a=false:=by
   unfold Nr
   rw[b _ (by decide),b _ (by decide),b _ (by decide),b _ (by decide),b _ (by decide)];rfl
  have n:Vx a=false:=by
   unfold Vx
   rw[b _ (by decide),b _ (by decide),b _ (by decide),b _ (by decide),b _ (by decide),b _ (by decide),b _ (by decide),b _ (by decide)];rfl
  simp[l,n]
 | some i=>
  obtain ⟨g,q,_⟩:=List.findIdx?_eq_some_iff_getElem.1 h
  have j:Ji[i].name=a:=by simpa using q
  have k:Ji.getD i ⟨[],false,false⟩=Ji[i]:=by rw[List.getD_eq_getElem?_getD,List.getElem?_eq_getElem g];rfl
  have c: ∀o∈Ji,o.number=Nr o.name∧o.text=Vx o.name:=by decide
  obtain ⟨p,m⟩:=c _ (List.getElem_mem g)
  simp only[k,Option.isSome_some]
  rw[p,m,j]
def Ef (a:X0):Int:=if Nr a then 1 else if Vx a then 2 else if (Qb a).isSome then 0 else-1
theorem Q8V {a:X0} (g:X2 w σ) (h: ∀w' l,Stp w σ w' l→K (I (Ef a)) w'):Q1 P F.bv [S a] w K:=Iy (by
 unfold Mo
 refine Up (fun x w'=>w'=w∧x= .bool (Nr a)) ?_ (fun x d w' f=>?_)
 ·unfold Nr
  simp only[↓M1,M1,Mb,reduceIte]
  repeat' (refine Q7 (fun hh=>?_) (fun hh=>?_))
  all_goals (refine ⟨by trivial,?_⟩;congr 1;simp_all)
 ·obtain ⟨rfl,rfl⟩:=f
  cases c:Nr a with
  | true=>
   (try simp only[↓M1,M1,Mb,reduceIte])
   have:=h _ _ (Stp.refl g)
   unfold Ef at this
   simpa [c] using this
  | false=>
   (try simp only[↓M1,M1,Mb,reduceIte])
   refine Up (fun x b=>b=w'∧x= .bool (Vx a)) ?_ (fun x d b f=>?_)
   ·unfold Vx
    simp only[↓M1,M1,Mb,reduceIte]
    repeat' (refine Q7 (fun hh=>?_) (fun hh=>?_))
    all_goals (refine ⟨by trivial,?_⟩;congr 1;simp_all)
   ·obtain ⟨rfl,rfl⟩:=f
    cases k:Vx a with
    | true=>
     (try simp only[↓M1,M1,Mb,reduceIte])
     have:=h _ _ (Stp.refl g)
     unfold Ef at this
     simpa [c,k] using this
    | false=>
     (try simp only[↓M1,M1,Mb,reduceIte])
     refine Q86 g fun w1 σ1 e=>?_
     have:=h _ _ e
     unfold Ef at this
     simp only[c,k,Bool.false_eq_true,if_false] at this
     simp only[X1m,↓M1,M1,Mb,reduceIte]
     cases j:Qb a with
     | none=>rw[j] at this;simp only[Option.isSome_none,↓M1,M1,Mb,reduceIte];simpa using this
     | some i=>rw[j] at this;simp only[Option.isSome_some,↓M1,M1,Mb,reduceIte];simpa using this)
theorem Q5c (a:X0):decide (Ef a<0)= !(takes a).2.2∧decide (Ef a=1)=(takes a).1∧decide (Ef a=2)=(takes a).2.1:=by
 rw[Q9Q]
 have d:Nr a=true→Vx a=false∧(Qb a).isSome=true:=by
  intro h
  unfold Nr at h
  simp only[Bool.or_eq_true,decide_eq_true_eq] at h
  rcases h with (((h | h) | h) | h) | h<;>(subst h;decide)
 have f:Vx a=true→(Qb a).isSome=true:=by
  intro h
  unfold Vx at h
  simp only[Bool.or_eq_true,decide_eq_true_eq] at h
  rcases h with ((((((h | h) | h) | h) | h) | h) | h) | h<;>(subst h;decide)
 unfold Ef
 cases c:Nr a with
 | true=>obtain ⟨g,e⟩:=d c;rw[g,e];decide
 | false=>
  cases b:Vx a with
  | true=>rw[f b];decide
  | false=>cases (Qb a).isSome<;>decide
theorem X3X (s:X0) (c:UInt8):decide (0≤Lib.indexByte s c)=s.any fun b=>decide (b=c):=by
 induction s with
 | nil=>rfl
 | cons b r f=>
  simp only[Lib.indexByte,List.any_cons,←f]
  by_cases e:b=c
  ·simp[e]
  ·have a:(b==c)=false:=by simpa using e
   have g:=Lib.indexByte_ge r c
   simp only[a,e,decide_false,Bool.false_or,Bool.false_eq_true,if_false]
   by_cases d:Lib.indexByte r c= -1
   ·simp[d]
   ·have:(Lib.indexByte r c== -1)=false:=by simpa using d
    simp only[this,Bool.false_eq_true,if_false]
    rw[Bool.eq_iff_iff,decide_eq_true_eq,decide_eq_true_eq];omega
def JB (w:World) (σ:Q5) (b:Bool) (x:Value) (w':World):Prop:= ∃a,Stp w σ w' a∧x= .bool b
theorem JB.mk {w w':World} {σ a:Q5} {b:Bool} (h:Stp w σ w' a):JB w σ b (.bool b) w':=⟨a,h,rfl⟩
theorem JB.of {w w':World} {σ a:Q5} {b c:Bool} (h:Stp w σ w' a) (e:c=b):JB w σ b (.bool c) w':=⟨a,h,by rw[e]⟩
theorem X2b {s:X0} {n:Nat} (h:n<s.length):decide ((X5 s n:Int)=10)=decide (s[n]=10):=by
 unfold X5
 rw[List.getD_eq_getElem?_getD,List.getElem?_eq_getElem h,Bool.eq_iff_iff,decide_eq_true_eq,decide_eq_true_eq]
 simp only[Option.getD_some]
 rw[←UInt8.toNat_inj]
 constructor
 ·intro e;have:s[n].toNat=10:=by omega
  rw[this];rfl
 ·intro e;rw[e];rfl
theorem Uj {α:Type} {xs:List α} {p:α→Bool} {n:Nat} (h:n<xs.length):(xs.take (n+1)).all p=((xs.take n).all p&&p xs[n]):=by
 rw[List.take_add_one,List.getElem?_eq_getElem h,List.all_append];simp
set_option maxHeartbeats 2000000 in
theorem Q8p {i:Ins} {cs:List Value} (hs:X2 w σ) (hi:Qk σ i cs) (h: ∀w' m,Stp w σ w' m→K (I (H3 i)) w'):Q1 P F.bu [.agg cs.toArray] w K:=Il (by
 obtain ⟨rfl,h1,h2,h3⟩:=hi
 unfold Nl
 refine Z0 hs fun q w1 σ1 R hq=>?_
 have O:=R.sat
 (try simp only[↓M1,M1,Mb,reduceIte])
 refine ld O hq rfl ?_
 refine Q8V O fun Y σ2 Q=>?_
 obtain ⟨t1,V,H⟩:=Q5c i.op
 have f:=R.trans Q
 have g:=hq.up Q
 have e:=f.sat
 have p:i.s.length≤140737488355328:=by simp only[U0] at h3;omega
 simp only[t1,↓M1,M1,Mb,reduceIte]
 unfold H3 at h
 cases e1:(takes i.op).2.2 with
 | false=>
  simp only[e1,Bool.not_false,if_true] at h
  (try simp only[↓M1,M1,Mb,reduceIte])
  exact h _ _ f
 | true=>
 simp only[e1,Bool.not_true,Bool.false_eq_true,if_false] at h
 simp only[V,H,↓M1,M1,Mb,reduceIte]
 have k: ∀(b:Bool) (w':World) (m:Q5),Stp w σ w' m→b=(!((!(takes i.op).1&&decide (i.n≠0))||(!(takes i.op).2.1&&decide (i.s≠[]))||((takes i.op).2.1&& !txt i.op i.s)))→
  X1 (.bool (!b)) (K (.int .i64 41) w') (K (.int .i64 0) w'):=by
  intro b w' m u D
  subst D
  rw[Bool.not_not]
  cases D:((!(takes i.op).1&&decide (i.n≠0))||(!(takes i.op).2.1&&decide (i.s≠[]))||((takes i.op).2.1&& !txt i.op i.s)) with
  | true=>simp only[D,if_true] at h;(try simp only[↓M1,M1,Mb,reduceIte]);exact h _ _ u
  | false=>simp only[D,Bool.false_eq_true,if_false] at h;(try simp only[↓M1,M1,Mb,reduceIte]);exact h _ _ u
 clear h
 have af:(takes i.op).2.1=true→(takes i.op).1=false:=by
  intro U
  rw[←V,decide_eq_false_iff_not]
  rw[←H,decide_eq_true_eq] at U
  omega
 cases C:(takes i.op).2.1 with
 | false=>
  rw[C] at k H
  cases y:(takes i.op).1 with
  | true=>
   rw[y] at k V
   (try simp only[↓M1,M1,Mb,reduceIte])
   simp only[H,↓M1,M1,Mb,reduceIte]
   refine ld e g rfl ?_
   (try simp only[↓M1,M1,Mb,reduceIte])
   refine U6 ?_
   intro d
   simp only[↓M1,M1,Mb,reduceIte]
   exact k _ _ _ f (by simp)
  | false=>
   rw[y] at k V
   (try simp only[↓M1,M1,Mb,reduceIte])
   refine ld e g rfl ?_
   (try simp only[↓M1,M1,Mb,reduceIte])
   by_cases N:i.n=0
   ·have d0:decide (i.n=0)=true:=by simpa using N
    simp only[d0,H,↓M1,M1,Mb,reduceIte]
    refine ld e g rfl ?_
    (try simp only[↓M1,M1,Mb,reduceIte])
    refine U6 ?_
    intro d
    simp only[↓M1,M1,Mb,reduceIte]
    exact k _ _ _ f (by simp[N])
   ·have d0:decide (i.n=0)=false:=by simpa using N
    simp only[d0,↓M1,M1,Mb,reduceIte]
    refine U6 ?_
    intro d
    have E:=k false _ _ f (by simp[N])
    (try simp only[↓M1,M1,Mb,reduceIte] at E⊢)
    exact E
 | true=>
  have y:=af C
  rw[C,y] at k
  rw[C] at H
  rw[y] at V⊢
  (try simp only[↓M1,M1,Mb,reduceIte])
  refine ld e g rfl ?_
  (try simp only[↓M1,M1,Mb,reduceIte])
  have o: ∀(b c:Bool) (w':World) (m:Q5),decide (i.n=0)=b→Stp w σ w' m→c=(b&&txt i.op i.s)→X1 (.bool (!c)) (K (.int .i64 41) w') (K (.int .i64 0) w'):=by
   intro b c w' m D u t
   refine k c w' m u ?_
   rw[t,←D]
   by_cases N:i.n=0<;>simp[N]
  clear k
  cases D:decide (i.n=0) with
  | false=>
   have v:=fun w' m u=>o false false w' m D u rfl
   clear o
   simp only[H,↓M1,M1,Mb,reduceIte]
   refine Up (JB w σ false) ?_ (fun x d w' U=>?_)
   ·refine ld e g rfl ?_
    (try simp only[↓M1,M1,Mb,reduceIte])
    refine Q7 (fun hh=>?_) (fun hh=>?_)
    ·refine E3 (a:=Value.bool false) i.s.length (fun n x w'=>w'=Y∧x=Value.bool false) ⟨rfl,rfl⟩ fun n x w3 d hn l=>?_
     obtain ⟨A,rfl⟩:=l
     subst A
     (try simp only[↓M1,M1,Mb,reduceIte])
     refine ld e g rfl ?_
     (try simp only[↓M1,M1,Mb,reduceIte])
     refine Q7 (fun t=>?_) (fun t=>?_)
     ·have j:n<i.s.length:=by simpa using t
      (try simp only[↓M1,M1,Mb,reduceIte])
      exact Z9 (by omega) j ⟨rfl,rfl⟩
     ·exact .mk f
    refine Q7 (fun hh=>?_) (fun hh=>?_)
    ·exact .mk f
    refine Up (fun x w'=>w'=Y∧ ∃b:Bool,x=Value.bool b) ?_ (fun z d w' hz=>?_)
    ·refine Q7 (fun hh=>?_) (fun hh=>?_)
     ·exact ⟨rfl,_,rfl⟩
     ·exact ⟨rfl,_,rfl⟩
    obtain ⟨A,b,rfl⟩:=hz
    subst A
    refine Q7 (fun hh=>?_) (fun hh=>?_)
    ·exact .mk f
    refine Q7 (fun hh=>?_) (fun hh=>?_)
    ·exact .mk f
    refine ld e g rfl ?_
    refine Q4f i.s p fun w4 r=>?_
    by_cases M:(Qv i.s).2.2=true
    ·simp only[M,if_true,↓M1,M1,Mb,reduceIte]
     exact .mk (f.trans (Stp.of_below e r))
    ·simp only[M,if_false,↓M1,M1,Mb,reduceIte]
     exact .mk (f.trans (Stp.of_below e r))
   ·obtain ⟨m,u,rfl⟩:=U
    have E:=v w' m u
    (try simp only[↓M1,M1,Mb,reduceIte] at E⊢)
    exact E
  | true=>
   have v:=fun c w' m u t=>o true c w' m D u t
   clear o
   simp only[H,↓M1,M1,Mb,reduceIte]
   refine Up (JB w σ (txt i.op i.s)) ?_ (fun x d w' U=>?_)
   ·refine ld e g rfl ?_
    (try simp only[↓M1,M1,Mb,reduceIte])
    unfold txt
    by_cases o1:i.op=[119,111,114,100]
    ·simp only[if_pos o1,decide_eq_true o1,↓M1,M1,Mb,reduceIte]
     refine ld e g rfl ?_
     (try simp only[↓M1,M1,Mb,reduceIte])
     have ad:decide ((i.s.length:Int)≤64)=decide (i.s.length≤64):=by rw[Bool.eq_iff_iff,decide_eq_true_eq,decide_eq_true_eq];omega
     rw[ad,X3X,List.not_any_eq_all_not]
     cases av:decide (i.s.length≤64) with
     | false=>
      (try simp only[↓M1,M1,Mb,reduceIte])
      refine E3 (a:=Value.bool false) i.s.length (fun n x w'=>w'=Y∧x=Value.bool false) ⟨rfl,rfl⟩ fun n x w3 d hn l=>?_
      obtain ⟨A,rfl⟩:=l
      subst A
      (try simp only[↓M1,M1,Mb,reduceIte])
      refine ld e g rfl ?_
      (try simp only[↓M1,M1,Mb,reduceIte])
      refine Q7 (fun t=>?_) (fun t=>?_)
      ·have j:n<i.s.length:=by simpa using t
       (try simp only[↓M1,M1,Mb,reduceIte])
       exact Z9 (by omega) j ⟨rfl,rfl⟩
      ·exact .of f (by simp)
     | true=>
      (try simp only[↓M1,M1,Mb,reduceIte])
      refine ld e g rfl ?_
      refine Q4c h3 e fun w4 r=>?_
      have L:=Stp.of_below e r
      have X:=g.up L
      have W:=L.sat
      have B:=f.trans L
      (try simp only[↓M1,M1,Mb,reduceIte])
      refine E3 (a:=Value.bool (Lib.validD i.s)) i.s.length (fun n x w'=>w'=w4∧x=Value.bool (Lib.validD i.s&&(i.s.take n).all fun c=> !decide (c=10))) ⟨rfl,by simp⟩ fun n x w3 d hn l=>?_
      obtain ⟨A,rfl⟩:=l
      subst A
      (try simp only[↓M1,M1,Mb,reduceIte])
      refine ld W X rfl ?_
      (try simp only[↓M1,M1,Mb,reduceIte])
      refine Q7 (fun t=>?_) (fun t=>?_)
      ·have j:n<i.s.length:=by simpa using t
       have J:(Lib.validD i.s&&(i.s.take (n+1)).all fun c=> !decide (c=10))=((Lib.validD i.s&&(i.s.take n).all fun c=> !decide (c=10))&& !decide (i.s[n]=10)):=by rw[Uj j,Bool.and_assoc]
       generalize an:(Lib.validD i.s&&(i.s.take n).all fun c=> !decide (c=10))=ac at J⊢
       cases ac with
       | false=>(try simp only[↓M1,M1,Mb,reduceIte]);exact Z9 (by omega) j ⟨rfl,by rw[J];rfl⟩
       | true=>
        (try simp only[↓M1,M1,Mb,reduceIte])
        refine ld W X rfl ?_
        refine Mj j ?_
        simp only[X2b j,↓M1,M1,Mb,reduceIte]
        exact Z9 (by omega) j ⟨rfl,by rw[J];rfl⟩
      ·have j: ¬n<i.s.length:=by simpa using t
       rw[List.take_of_length_le (by omega)]
       exact .of B (by simp)
    ·simp only[if_neg o1,decide_eq_false o1,↓M1,M1,Mb,reduceIte]
     by_cases o2:i.op=[110,101,119]
     ·simp only[if_pos o2,decide_eq_true o2,↓M1,M1,Mb,reduceIte]
      refine ld e g rfl ?_
      refine Ya i.s p ?_
      (try simp only[↓M1,M1,Mb,reduceIte])
      exact .mk f
     ·simp only[if_neg o2,decide_eq_false o2,↓M1,M1,Mb,reduceIte]
      refine Up (fun x w'=>w'=Y∧x=Value.bool (decide (i.op=[105,115]∨i.op=[99,97,115,116]))) ?_ (fun z d w' hz=>?_)
      ·refine Q7 (fun hh=>?_) (fun hh=>?_)
       ·exact ⟨rfl,by simp_all⟩
       ·exact ⟨rfl,by simp_all⟩
      obtain ⟨A,rfl⟩:=hz
      subst A
      by_cases o3:i.op=[105,115]∨i.op=[99,97,115,116]
      ·simp only[if_pos o3,decide_eq_true o3,↓M1,M1,Mb,reduceIte]
       refine ld e g rfl ?_
       refine Jz i.s p ?_
       cases hr:right i.s with
       | false=>(try simp only[↓M1,M1,Mb,reduceIte]);exact .mk f
       | true=>
        (try simp only[↓M1,M1,Mb,reduceIte])
        refine ld e g rfl ?_
        refine Eu i.s ?_
        (try simp only[↓M1,M1,Mb,reduceIte])
        exact .mk f
      ·simp only[if_neg o3,decide_eq_false o3,↓M1,M1,Mb,reduceIte]
       by_cases Z:i.op=[97,114,114,97,121]
       ·simp only[if_pos Z,decide_eq_true Z,↓M1,M1,Mb,reduceIte]
        refine ld e g rfl ?_
        refine Jz i.s p ?_
        cases hr:right i.s with
        | false=>(try simp only[↓M1,M1,Mb,reduceIte]);exact .mk f
        | true=>
         (try simp only[↓M1,M1,Mb,reduceIte])
         refine ld e g rfl ?_
         refine Sd i.s p ?_
         (try simp only[↓M1,M1,Mb,reduceIte])
         have e3:decide (((base i.s).2:Int)<3)=decide (Xf i.s<3):=by
          unfold Xf;rw[if_pos hr,Bool.eq_iff_iff,decide_eq_true_eq,decide_eq_true_eq];omega
         rw[e3]
         exact .mk f
       ·simp only[if_neg Z,decide_eq_false Z,↓M1,M1,Mb,reduceIte]
        refine ld e g rfl ?_
        refine Q4f i.s p fun w4 r=>?_
        have B:=f.trans (Stp.of_below e r)
        by_cases M:(Qv i.s).2.2=true
        ·simp only[M,if_true,↓M1,M1,Mb,reduceIte]
         exact .mk B
        ·have:Zh i.s=false:=by unfold Zh;rw[eq_false_of_ne_true M];rfl
         simp only[M,if_false,↓M1,M1,Mb,reduceIte]
         exact .of B this.symm
   ·obtain ⟨m,u,rfl⟩:=U
    have E:=v _ w' m u rfl
    simp only[Bool.true_and] at E
    (try simp only[↓M1,M1,Mb,reduceIte])
    exact E)
end Go.Proofs.YtjdiakhipmggjaaGreatDoor

namespace Go.Emb
theorem X1Z {w:World} {K:Value→World→Prop} {v:Value} (h:K v w):Q0 (.bool true) true w (fun w J=>J v w) K:=by rw[W2];exact h
theorem X1k {w:World} {K:Value→World→Prop} {v:Value} (h:K v w):Q0 (.bool false) false w (fun w J=>J v w) K:=by rw[W6];exact h
theorem X2P {w:World} {K:Value→World→Prop} {b:Bool} {run:World→(Value→World→Prop)→Prop} (h:K undef w):Q0 undef b w run K:=by rw[O7];exact h
class Hd (p : Prop) (q : outParam Prop) : Prop where
  h : q → p
section
variable {P : Program} {w : World} {K : Value → World → Prop} {run : World → (Value → World → Prop) → Prop} {v u : Value} {b : Bool}
instance:Hd (J7 P .not (.bool b) w K) (K (.bool (!b)) w):=⟨Wd⟩
instance:Hd (Q0 undef b w run K) (K undef w):=⟨X2P⟩
instance {t:TypeId} {k off:Nat} {ft:TypeId} {sz by_:Nat} {z:Value} {a:Addr} [tf:TF P t k off ft] [tz:TZ P ft sz by_ z] [nz:NZ sz]:Hd (fieldAddr P t (.pointer (some a)) k w K) (K (.pointer (some (a.add off))) w):=⟨W4⟩
instance:Hd (pick P (.bool false) v u w K) (K u w):=⟨X1r⟩
instance:Hd (pick P (.bool true) v u w K) (K v w):=⟨X1x⟩
instance:Hd (Q0 (.bool false) false w run K) (run w K):=⟨X2c⟩
instance:Hd (Q0 (.bool true) true w run K) (run w K):=⟨X2j⟩
instance:Hd (Q0 (.bool false) true w run K) (K undef w):=⟨X1B⟩
instance:Hd (Q0 (.bool true) false w run K) (K undef w):=⟨X1a⟩
instance:Hd (Q0 (.bool false) false w (fun w J=>J v w) K) (K v w):=⟨X1k⟩
instance:Hd (Q0 (.bool true) true w (fun w J=>J v w) K) (K v w):=⟨X1Z⟩
end
end Go.Emb
namespace Go.Proofs.YtjdiakhipmggjaaGreatDoor
open Go.Emb Go.RowKit Go.Kd Go.Hm
variable {w : World} {K : Value → World → Prop} {σ : Q5}
theorem X1h {xs:List Ins} {v:Value} (q:X2 w σ) (o:Sl 3 Qk σ v xs) (h: ∀e w' m,Stp w σ w' m→decide (e=0)=xs.all (fun i=>decide (H3 i=0))→K (I e) w'):Q1 P F.b2 [v] w K:=Q0n (by
 unfold Es
 refine U1 xs.length (fun n w'=> ∃m,Stp w σ w' m∧(xs.take n).all (fun i=>decide (H3 i=0))=true) ⟨σ,Stp.refl q,rfl⟩ fun n w1 d z k=>?_
 obtain ⟨σ1,c,f⟩:=k
 have g:=o.up c
 refine Q8 g ?_
 refine Z2 ?_
 refine Q7 (fun l=>?_) (fun l=>?_)
 ·have a:n<xs.length:=by simpa using l
  refine Y3 g a ?_
  obtain ⟨s,p⟩:=g.elI a
  refine Y4 c.sat s rfl ?_
  refine Q8p c.sat p fun y t j=>?_
  refine Zz ?_
  by_cases e:H3 xs[n]=0
  ·have:decide (H3 xs[n]=0)=true:=by simpa using e
   simp only[this,↓M1,M1,Mb,reduceIte]
   exact Y6 o.max a ⟨t,c.trans j,by rw[Uj a,f];simpa using e⟩
  ·have:decide (H3 xs[n]=0)=false:=by simpa using e
   simp only[this,↓M1,M1,Mb,reduceIte]
   refine h _ _ _ (c.trans j) ?_
   rw[this]
   symm
   rw[←Bool.not_eq_true,List.all_eq_true]
   intro r
   have:=r _ (List.getElem_mem a)
   simp at this
   exact e this
 ·have a: ¬n<xs.length:=by simpa using l
  rw[List.take_of_length_le (by omega)] at f
  exact h 0 _ _ c (by rw[f];rfl))
theorem X0s {c:Cla} {cs:List Value} (hs:X2 w σ) (hc:V0 σ c cs) (h: ∀w' σ',Stp w σ w' σ'→K (.bool (Zl c)) w'):Q1 P F.bJ [.agg cs.toArray] w K:=Tl (by
 unfold Oy
 obtain ⟨lv,fv,mv,rfl,f1,f2,f3,f4,f5⟩:=hc
 refine Z0 hs fun q w1 σ1 hk1 hq=>?_
 have f1:=f1.up hk1
 have f2:=f2.up hk1
 have f3:=f3.up hk1
 refine U1 c.methods.length (fun n w'=> ∃σ',Stp w1 σ1 w' σ'∧(c.methods.take n).any Wa=false) ⟨σ1,Stp.refl hk1.sat,rfl⟩ fun n w2 d hn hinv=>?_
 obtain ⟨σ2,hk2,hno⟩:=hinv
 have hq2:=hq.up hk2
 have f32:=f3.up hk2
 have f12:=f1.up hk2
 have f22:=f2.up hk2
 have hs2:=hk2.sat
 (try simp only[↓M1,M1,Mb,reduceIte])
 refine ld hs2 hq2 rfl ?_
 refine Q8 f32 ?_
 refine Z2 ?_
 refine Q7 (fun hc=>?_) (fun hc=>?_)
 ·have hn':n<c.methods.length:=by simpa using hc
  (try simp only[↓M1,M1,Mb,reduceIte])
  refine ld hs2 hq2 rfl ?_
  refine Y3 f32 hn' ?_
  obtain ⟨pv,cv,hv,p1,r1⟩:=f32.elM hn'
  refine Y4 hs2 p1 rfl ?_
  refine Y9 hs2 (by rfl) rfl (Rep.one r1) fun q3 w3 σ3 hk3 hq3=>?_
  obtain ⟨g1,g2,g3,_,_,_⟩:=(RMe_lift r1 ⟨hk3.le⟩).parts
  have hS3:=hk1.trans (hk2.trans hk3)
  have hyes:Wa c.methods[n]=true→K (.bool true) w3:=fun e=>by
   have:=h _ _ hS3
   have hm:Zl c=true:=by unfold Zl;rw[S1 hn' e];rfl
   rwa [hm] at this
  have hk23:=hk2.trans hk3
  clear h hk2 hk3 hS3
  have hmax:=f3.max
  (repeat' (first | (with_reducible intro _) | (with_reducible refine U6 ?_) | (simp only[↓M2,M2,Mb,reduceIte]) | (with_reducible first | refine ld aS aL aR ?_ | refine X7 aS aL aR ?_ | refine Y4 aS aL aR ?_ | refine Q8 aL ?_ | refine J4 aR ?_ | refine Z0 aS ?_ | refine N1 aS aL ?_ | refine U5 aS aR ?_ | refine Y9 aS aR aR (Rep.one (by assumption)) ?_ | refine U7 aS aR aR aR ?_ | (refine Z8 (fun hh=>?_) (fun hh=>?_)<;>(try simp only[hh,Bool.not_true,Bool.not_false,↓M2,M2,Mb,reduceIte])) | (refine Q7 (fun hh=>?_) (fun hh=>?_)<;>(try simp only[hh,Bool.not_true,Bool.not_false,↓M2,M2,Mb,reduceIte])))))
  all_goals clear hq hq2 f1 f2 f3 f32 f12 f22 hs hs2 p1 r1 g1 g2 g3 hk1 f4 f5 hq3
  all_goals first
   | (refine hyes ?_;clear hyes hk23;unfold Wa;simp only[Bool.not_false,Bool.not_true,Bool.or_eq_true,decide_eq_true_eq,decide_eq_false_iff_not] at*;omega)
   | (
    have hnx:(c.methods.take (n+1)).any Wa=false:=by
     rw[L4 hn',hno,Bool.false_or];clear hyes hk23;unfold Wa;simp only[Bool.or_eq_false_iff,decide_eq_false_iff_not] at*;omega
    exact Y6 hmax hn' ⟨_,hk23,hnx⟩)
 ·have hn': ¬n<c.methods.length:=by simpa using hc
  rw[D9 hn'] at hno
  have hS2:=hk1.trans hk2
  have hm:Zl c=(decide (32<c.like.length)||decide (32<c.fields.length)||decide (32<c.methods.length)):=by unfold Zl;rw[hno];simp
  rw[hm] at h
  have hK:=h _ _ hS2
  clear h hk2
  (try simp only[↓M1,M1,Mb,reduceIte])
  refine ld hs2 hq2 rfl ?_
  refine Q8 f12 ?_
  have d32: ∀k:Nat,decide ((32:Int)<(k:Int))=decide (32<k):=fun k=>by rw[Bool.eq_iff_iff,decide_eq_true_eq,decide_eq_true_eq];omega
  simp only[d32,↓M1,M1,Mb,reduceIte]
  cases e1:decide (32<c.like.length) with
  | true=>rw[e1] at hK;(try simp only[↓M1,M1,Mb,reduceIte]);simpa using hK
  | false=>
   rw[e1] at hK
   (try simp only[↓M1,M1,Mb,reduceIte])
   refine ld hs2 hq2 rfl ?_
   refine Q8 f22 ?_
   simp only[d32,↓M1,M1,Mb,reduceIte]
   cases e2:decide (32<c.fields.length) with
   | true=>rw[e2] at hK;(try simp only[↓M1,M1,Mb,reduceIte]);simpa using hK
   | false=>
    rw[e2] at hK
    (try simp only[↓M1,M1,Mb,reduceIte])
    refine ld hs2 hq2 rfl ?_
    refine Q8 f32 ?_
    simp only[d32,↓M1,M1,Mb,reduceIte]
    simpa using hK)
theorem Q6T {α:Type} {xs:List α} {p:α→Bool} {n:Nat} (h: ¬n<xs.length):(xs.take n).all p=xs.all p:=by rw[List.take_of_length_le (by omega)]
set_option maxHeartbeats 4000000 in
theorem Q0m {m:Hm.Met} {pv cv hv:Value} {w1:World} {σ1:Q5} {q:Addr} {z:Bool} (hs:X2 w σ) (ah:Stp w σ w1 σ1) (hq:Z4 σ1 q [S m.name,pv,S m.result, .bool m.abs,I m.locals,cv,hv]) (g1:Sl 1 U9 σ1 pv m.params) (g2:Sl 3 Qk σ1 cv m.code) (g3:Sl 4 Ui σ1 hv m.catches)
 (h: ∀w' M,Stp w σ w' M→K (.bool ((z&&m.params.all right)&&if m.abs then decide (m.locals=0)&&decide (m.code=[])&&decide (m.catches=[])
  else decide (m.code≠[])&&decide ((m.params.length:Int)<m.locals)&&m.code.all (fun i=>decide (H3 i=0))&&m.catches.all (G4 m.code.length))) w'):
 lp (α:=Value×Value) (Value.bool z,(.int .i64 0)) w1 fun W C d_ w=>
  fieldAddr P T.d (.pointer (some q)) 1 w fun dd w=>
  Q2 P T.h dd w fun cl w=>
  X3 P .len [T.h] T.e [false] [cl] w fun cu w=>
  Q3 P .lss T.e (.tmp 21) (.tmp 24) C.2 cu w fun ce w=>
  X1 ce (
   Q0 C.1 true w (fieldAddr P T.d (.pointer (some q)) 1) fun cp w=>
   Q0 C.1 true w (Q2 P T.h cp) fun b4 w=>
   Q0 C.1 true w (fun w J=>J C.2 w) fun bz w=>
   Q0 C.1 true w (indexAddr P T.h b4 bz) fun da w=>
   Q0 C.1 true w (Q2 P T.c da) fun bs w=>
   Q0 C.1 true w (Q1 P F.e [bs]) fun bn w=>
   pick P C.1 bn (.bool false) w fun bx w=>
   Q3 P .add T.e (.tmp 26) (.const (.int .i64 1)) C.2 (.int .i64 1) w fun cb w=>
   W (bx,cb) w) (
   fieldAddr P T.d (.pointer (some q)) 3 w fun dc w=>
   Q2 P T.u dc w fun bp w=>
   X1 bp (
    Q0 C.1 true w (fieldAddr P T.d (.pointer (some q)) 4) fun b5 w=>
    Q0 C.1 true w (Q2 P T.e b5) fun cg w=>
    Q0 C.1 true w (Q3 P .eql T.e (.tmp 42) (.const (.int .i64 0)) cg (.int .i64 0)) fun c5 w=>
    pick P C.1 c5 (.bool false) w fun Q w=>
    Q0 Q true w (fieldAddr P T.d (.pointer (some q)) 5) fun c3 w=>
    Q0 Q true w (Q2 P T.q c3) fun co w=>
    Q0 Q true w (X3 P .len [T.q] T.e [false] [co]) fun b7 w=>
    Q0 Q true w (Q3 P .eql T.e (.tmp 48) (.const (.int .i64 0)) b7 (.int .i64 0)) fun db w=>
    pick P Q db (.bool false) w fun L w=>
    Q0 L true w (fieldAddr P T.d (.pointer (some q)) 6) fun bh w=>
    Q0 L true w (Q2 P T.s bh) fun c9 w=>
    Q0 L true w (X3 P .len [T.s] T.e [false] [c9]) fun ca w=>
    Q0 L true w (Q3 P .eql T.e (.tmp 54) (.const (.int .i64 0)) ca (.int .i64 0)) fun cm w=>
    pick P L cm (.bool false) w fun cn w=>
    K cn w) (
    fieldAddr P T.d (.pointer (some q)) 5 w fun cc w=>
    Q2 P T.q cc w fun b0 w=>
    X3 P .len [T.q] T.e [false] [b0] w fun ag w=>
    lp (α:=Value×Value) (C.1,(.int .i64 0)) w fun R j d_ w=>
     fieldAddr P T.d (.pointer (some q)) 6 w fun bq w=>
     Q2 P T.s bq w fun cs w=>
     X3 P .len [T.s] T.e [false] [cs] w fun b6 w=>
     Q3 P .lss T.e (.tmp 60) (.tmp 63) j.2 b6 w fun b8 w=>
     X1 b8 (
      fieldAddr P T.d (.pointer (some q)) 6 w fun c8 w=>
      Q2 P T.s c8 w fun b1 w=>
      indexAddr P T.s b1 j.2 w fun cy w=>
      Q2 P T.t cy w fun bu w=>
      W0 P T.t w fun t7 w=>
      Y0 P T.t t7 bu w fun _u w=>
      Q0 j.1 true w (fieldAddr P T.t t7 0) fun bo w=>
      Q0 j.1 true w (Q2 P T.e bo) fun bj w=>
      Q0 j.1 true w (Q3 P .geq T.e (.tmp 75) (.const (.int .i64 0)) bj (.int .i64 0)) fun br w=>
      pick P j.1 br (.bool false) w fun H w=>
      Q0 H true w (fieldAddr P T.t t7 0) fun b2 w=>
      Q0 H true w (Q2 P T.e b2) fun cx w=>
      Q0 H true w (fieldAddr P T.t t7 1) fun cf w=>
      Q0 H true w (Q2 P T.e cf) fun ch w=>
      Q0 H true w (Q3 P .lss T.e (.tmp 80) (.tmp 82) cx ch) fun ct w=>
      pick P H ct (.bool false) w fun N w=>
      Q0 N true w (fieldAddr P T.t t7 1) fun b9 w=>
      Q0 N true w (Q2 P T.e b9) fun cr w=>
      Q0 N true w (fun w J=>J ag w) fun c6 w=>
      Q0 N true w (Q3 P .leq T.e (.tmp 87) (.tmp 88) cr c6) fun cq w=>
      pick P N cq (.bool false) w fun aa w=>
      Q0 aa true w (fieldAddr P T.t t7 2) fun bk w=>
      Q0 aa true w (Q2 P T.e bk) fun ck w=>
      Q0 aa true w (Q3 P .geq T.e (.tmp 93) (.const (.int .i64 0)) ck (.int .i64 0)) fun ci w=>
      pick P aa ci (.bool false) w fun U w=>
      Q0 U true w (fieldAddr P T.t t7 2) fun bl w=>
      Q0 U true w (Q2 P T.e bl) fun bw w=>
      Q0 U true w (fun w J=>J ag w) fun cd w=>
      Q0 U true w (Q3 P .lss T.e (.tmp 98) (.tmp 99) bw cd) fun an w=>
      pick P U an (.bool false) w fun D w=>
      Q0 D true w (fieldAddr P T.t t7 3) fun aq w=>
      Q0 D true w (Q2 P T.c aq) fun a5 w=>
      Q0 D true w (Q1 P F.d [a5]) fun a9 w=>
      pick P D a9 (.bool false) w fun ba w=>
      Q3 P .add T.e (.tmp 65) (.const (.int .i64 1)) j.2 (.int .i64 1) w fun c7 w=>
      R (ba,c7) w) (
      Q0 j.1 true w (fun w J=>J ag w) fun ax w=>
      Q0 j.1 true w (Q3 P .gtr T.e (.tmp 109) (.const (.int .i64 0)) ax (.int .i64 0)) fun a7 w=>
      pick P j.1 a7 (.bool false) w fun g w=>
      Q0 g true w (fieldAddr P T.d (.pointer (some q)) 4) fun bb w=>
      Q0 g true w (Q2 P T.e bb) fun bc w=>
      Q0 g true w (fieldAddr P T.d (.pointer (some q)) 1) fun a6 w=>
      Q0 g true w (Q2 P T.h a6) fun ay w=>
      Q0 g true w (X3 P .len [T.h] T.e [false] [ay]) fun bd w=>
      Q0 g true w (Q3 P .gtr T.e (.tmp 114) (.tmp 117) bc bd) fun a8 w=>
      pick P g a8 (.bool false) w fun t w=>
      Q0 t true w (fieldAddr P T.d (.pointer (some q)) 5) fun av w=>
      Q0 t true w (Q2 P T.q av) fun aj w=>
      Q0 t true w (Q1 P F.b2 [aj]) fun a2 w=>
      Q0 t true w (Q3 P .eql T.y (.tmp 123) (.const (.int .i64 0)) a2 (.int .i64 0)) fun aw w=>
      pick P t aw (.bool false) w fun ak w=>
      K ak w))):=by
 have c4:=ah.sat
 have c0:decide ((m.code.length:Int)=0)=decide (m.code=[]):=by cases m.code<;>simp;omega
 have c1:decide ((m.catches.length:Int)=0)=decide (m.catches=[]):=by cases m.catches<;>simp;omega
 have c2:decide ((0:Int)<m.code.length)=decide (m.code≠[]):=by cases m.code<;>simp
 refine E3 (a:=Value.bool z) m.params.length (fun n x w'=> ∃M,Stp w1 σ1 w' M∧x=Value.bool (z&&(m.params.take n).all right)) ⟨σ1,Stp.refl c4,by simp⟩ fun n x w2 d hn O=>?_
 obtain ⟨σ2,k,rfl⟩:=O
 have o:=hq.up k
 have Y:=g1.up k
 have l:=k.sat
 (try simp only[↓M1,M1,Mb,reduceIte])
 refine ld l o rfl ?_
 refine Q8 Y ?_
 refine Z2 ?_
 refine Q7 (fun hc=>?_) (fun hc=>?_)
 ·have c:n<m.params.length:=by simpa using hc
  have r:(z&&(m.params.take (n+1)).all right)=((z&&(m.params.take n).all right)&&right m.params[n]):=by rw[Uj c,Bool.and_assoc]
  generalize (z&&(m.params.take n).all right)=f at r⊢
  cases f with
  | false=>(try simp only[↓M1,M1,Mb,reduceIte]);exact Z9 g1.max c ⟨σ2,k,by rw[r];rfl⟩
  | true=>
   (try simp only[↓M1,M1,Mb,reduceIte])
   refine ld l o rfl ?_
   (try simp only[↓M1,M1,Mb,reduceIte])
   refine Y3 Y c ?_
   obtain ⟨p1,p2⟩:=Y.elS c
   refine X7 l p1 rfl ?_
   refine Jz _ (by simp only[U0] at p2;omega) ?_
   (try simp only[↓M1,M1,Mb,reduceIte])
   exact Z9 g1.max c ⟨σ2,k,by rw[r];rfl⟩
 ·have c: ¬n<m.params.length:=by simpa using hc
  rw[Q6T c]
  have ap:=ah.trans k
  have af:=g2.up k
  have X:=g3.up k
  clear ah k hq g1 g2 g3 hn hc
  generalize (z&&m.params.all right)=f at h⊢
  refine ld l o rfl ?_
  cases ao:m.abs with
  | true=>
   simp only[ao,if_true] at h
   have hK:=h _ _ ap
   clear h
   (try simp only[↓M1,M1,Mb,reduceIte])
   cases f with
   | false=>(try simp only[↓M1,M1,Mb,reduceIte]);simpa using hK
   | true=>
    (try simp only[↓M1,M1,Mb,reduceIte])
    refine ld l o rfl ?_
    (try simp only[↓M1,M1,Mb,reduceIte])
    cases a3:decide (m.locals=0) with
    | false=>rw[a3] at hK;(try simp only[↓M1,M1,Mb,reduceIte]);simpa using hK
    | true=>
     rw[a3] at hK
     (try simp only[↓M1,M1,Mb,reduceIte])
     refine ld l o rfl ?_
     refine Q8 af ?_
     simp only[c0,↓M1,M1,Mb,reduceIte]
     cases a4:decide (m.code=[]) with
     | false=>rw[a4] at hK;(try simp only[↓M1,M1,Mb,reduceIte]);simpa using hK
     | true=>
      rw[a4] at hK
      (try simp only[↓M1,M1,Mb,reduceIte])
      refine ld l o rfl ?_
      refine Q8 X ?_
      simp only[c1,↓M1,M1,Mb,reduceIte]
      simpa using hK
  | false=>
   simp only[ao,Bool.false_eq_true,if_false] at h
   (try simp only[↓M1,M1,Mb,reduceIte])
   refine ld l o rfl ?_
   refine Q8 af ?_
   refine E3 (a:=Value.bool f) m.catches.length (fun n x w'=> ∃M,Stp w2 σ2 w' M∧x=Value.bool (f&&(m.catches.take n).all (G4 m.code.length))) ⟨σ2,Stp.refl l,by simp⟩ fun n x w4 d hn O=>?_
   obtain ⟨σ4,p,rfl⟩:=O
   have E:=o.up p
   have V:=X.up p
   have s:=p.sat
   (try simp only[↓M1,M1,Mb,reduceIte])
   refine ld s E rfl ?_
   refine Q8 V ?_
   refine Z2 ?_
   refine Q7 (fun hc=>?_) (fun hc=>?_)
   ·have c:n<m.catches.length:=by simpa using hc
    have r:(f&&(m.catches.take (n+1)).all (G4 m.code.length))=((f&&(m.catches.take n).all (G4 m.code.length))&&G4 m.code.length m.catches[n]):=by rw[Uj c,Bool.and_assoc]
    generalize (f&&(m.catches.take n).all (G4 m.code.length))=cj at r⊢
    (try simp only[↓M1,M1,Mb,reduceIte])
    refine ld s E rfl ?_
    refine Y3 V c ?_
    obtain ⟨p1,r1⟩:=V.elK c
    have al:m.catches[n].cls.length≤140737488355328:=by have:=r1.2.2.2.2;simp only[U0] at this;omega
    refine Y4 s p1 rfl ?_
    refine Y9 s (by rfl) rfl (Rep.one r1) fun q5 w5 σ5 am y=>?_
    have B:=am.sat
    have ab:=p.trans am
    cases cj with
    | false=>(try simp only[↓M1,M1,Mb,reduceIte]);exact Z9 X.max c ⟨σ5,ab,by rw[r];rfl⟩
    | true=>
     have A: ∀b,G4 m.code.length m.catches[n]=b→Bv m.catches.length (fun n x w'=> ∃M,Stp w2 σ2 w' M∧x=Value.bool (f&&(m.catches.take n).all (G4 m.code.length))) (Value.bool b, .int .i64 (IntKind.i64.wrap (n+1))) w5∧Nn m.catches.length (Value.bool b, .int .i64 (IntKind.i64.wrap (n+1)))<Nn m.catches.length (Value.bool true,I n):=fun b e=>Z9 X.max c ⟨σ5,ab,by rw[r,e];rfl⟩
     unfold G4 at A
     generalize m.catches[n]=x at y A al
     clear r p1 r1 E o V h
     (try simp only[↓M1,M1,Mb,reduceIte])
     refine ld B y rfl ?_
     (try simp only[↓M1,M1,Mb,reduceIte])
     cases d1:decide (0≤x.frm) with
     | false=>(try simp only[↓M1,M1,Mb,reduceIte]);exact A _ (by simp[d1])
     | true=>
     (try simp only[↓M1,M1,Mb,reduceIte])
     refine ld B y rfl ?_
     (try simp only[↓M1,M1,Mb,reduceIte])
     refine ld B y rfl ?_
     (try simp only[↓M1,M1,Mb,reduceIte])
     cases d2:decide (x.frm<x.to) with
     | false=>(try simp only[↓M1,M1,Mb,reduceIte]);exact A _ (by simp[d1,d2])
     | true=>
     (try simp only[↓M1,M1,Mb,reduceIte])
     refine ld B y rfl ?_
     (try simp only[↓M1,M1,Mb,reduceIte])
     cases d3:decide (x.to≤(m.code.length:Int)) with
     | false=>(try simp only[↓M1,M1,Mb,reduceIte]);exact A _ (by simp[d1,d2,d3])
     | true=>
     (try simp only[↓M1,M1,Mb,reduceIte])
     refine ld B y rfl ?_
     (try simp only[↓M1,M1,Mb,reduceIte])
     cases d4:decide (0≤x.at_) with
     | false=>(try simp only[↓M1,M1,Mb,reduceIte]);exact A _ (by simp[d1,d2,d3,d4])
     | true=>
     (try simp only[↓M1,M1,Mb,reduceIte])
     refine ld B y rfl ?_
     (try simp only[↓M1,M1,Mb,reduceIte])
     cases d5:decide (x.at_<(m.code.length:Int)) with
     | false=>(try simp only[↓M1,M1,Mb,reduceIte]);exact A _ (by simp[d1,d2,d3,d4,d5])
     | true=>
     (try simp only[↓M1,M1,Mb,reduceIte])
     refine ld B y rfl ?_
     refine Ya x.cls al ?_
     (try simp only[↓M1,M1,Mb,reduceIte])
     exact A _ (by simp[d1,d2,d3,d4,d5])
   ·have c: ¬n<m.catches.length:=by simpa using hc
    rw[Q6T c]
    have Z:=ap.trans p
    have b3:=af.up p
    have cz:=Y.up p
    have hh: ∀w' M,Stp w σ w' M→K (.bool ((f&&m.catches.all (G4 m.code.length))&&(decide (m.code≠[])&&decide ((m.params.length:Int)<m.locals)&&m.code.all (fun i=>decide (H3 i=0))))) w':=by
     intro w' M hk
     have:=h w' M hk
     refine Eq.subst (motive:=fun b=>K (.bool b) w') ?_ this
     cases f<;>cases m.catches.all (G4 m.code.length)<;>simp
    clear h p
    generalize (f&&m.catches.all (G4 m.code.length))=cw at hh⊢
    cases cw with
    | false=>(try simp only[↓M1,M1,Mb,reduceIte]);simpa using hh _ _ Z
    | true=>
     (try simp only[↓M1,M1,Mb,reduceIte])
     simp only[c2,↓M1,M1,Mb,reduceIte]
     cases az:decide (m.code≠[]) with
     | false=>rw[az] at hh;(try simp only[↓M1,M1,Mb,reduceIte]);simpa using hh _ _ Z
     | true=>
      rw[az] at hh
      (try simp only[↓M1,M1,Mb,reduceIte])
      refine ld s E rfl ?_
      (try simp only[↓M1,M1,Mb,reduceIte])
      refine ld s E rfl ?_
      refine Q8 cz ?_
      (try simp only[↓M1,M1,Mb,reduceIte])
      cases a1:decide ((m.params.length:Int)<m.locals) with
      | false=>rw[a1] at hh;(try simp only[↓M1,M1,Mb,reduceIte]);simpa using hh _ _ Z
      | true=>
       rw[a1] at hh
       (try simp only[↓M1,M1,Mb,reduceIte])
       refine ld s E rfl ?_
       refine X1h s b3 fun e w6 σ6 bm he=>?_
       simp only[he,↓M1,M1,Mb,reduceIte]
       simpa using hh _ _ (Z.trans bm)
set_option maxHeartbeats 2000000 in
theorem Q7w {m:Hm.Met} {cs:List Value} (n:X2 w σ) (D:E5 σ m cs) (h: ∀w' E,Stp w σ w' E→K (.bool (I2 m)) w'):Q1 P F.a5 [.agg cs.toArray] w K:=Fg (by
 unfold Lf
 obtain ⟨pv,L,J,rfl,C,y,z,B,A,H⟩:=D
 have t:m.name.length≤140737488355328:=by simp only[U0] at B;omega
 have o:m.result.length≤140737488355328:=by simp only[U0] at A;omega
 refine Z0 n fun q w1 σ1 a g=>?_
 have p:=C.up a
 have r:=y.up a
 have s:=z.up a
 have e:=a.sat
 obtain ⟨d,c⟩: ∃b,b=(D1 m.name&&(decide (m.result=[])||right m.result)):=⟨_,rfl⟩
 have l:I2 m=((d&&m.params.all right)&&if m.abs then decide (m.locals=0)&&decide (m.code=[])&&decide (m.catches=[])
  else decide (m.code≠[])&&decide ((m.params.length:Int)<m.locals)&&m.code.all (fun i=>decide (H3 i=0))&&m.catches.all (G4 m.code.length)):=by
  rw[c];unfold I2
  cases D1 m.name<;>cases m.params.all right<;>cases decide (m.result=[])<;>cases right m.result<;>rfl
 rw[l] at h
 clear l
 (repeat refine Hd.h ?_)
 refine ld e g rfl ?_
 refine Ip m.name t ?_
 cases f:D1 m.name with
 | false=>
  have k:d=false:=by rw[c,f];rfl
  (repeat refine Hd.h ?_)
  refine Eq.subst (motive:=fun b=>lp (α:=Value×Value) (Value.bool b, .int .i64 0) w1 _) k ?_
  exact Q0m n a g p r s h
 | true=>
  (repeat refine Hd.h ?_)
  refine ld e g rfl ?_
  (repeat refine Hd.h ?_)
  refine K6 ?_
  cases j:decide (m.result=[]) with
  | true=>
   have k:d=true:=by rw[c,f,j];rfl
   (repeat refine Hd.h ?_)
   refine Eq.subst (motive:=fun b=>lp (α:=Value×Value) (Value.bool b, .int .i64 0) w1 _) k ?_
   exact Q0m n a g p r s h
  | false=>
   (repeat refine Hd.h ?_)
   refine ld e g rfl ?_
   (repeat refine Hd.h ?_)
   refine Jz m.result o ?_
   have k:d=right m.result:=by rw[c,f,j];rfl
   (repeat refine Hd.h ?_)
   refine Eq.subst (motive:=fun b=>lp (α:=Value×Value) (Value.bool b, .int .i64 0) w1 _) k ?_
   exact Q0m n a g p r s h)
end Go.Proofs.YtjdiakhipmggjaaGreatDoor

namespace Go.Hm
open Go.Kd
def Lo (c:Cla) (i:Nat):Bool:=M6 (c.like.getD i [])&& !decide (c.like.getD i []=c.name)
def A0 (c:Cla) (i k:Nat):Bool:= !decide (c.like.getD k []=c.like.getD i [])
def Bc (c:Cla) (i:Nat):Fld:=c.fields.getD i Fld.zero
def Ht (c:Cla) (i:Nat):Hm.Met:=c.methods.getD i Hm.Met.zero
def Dn (c:Cla) (i:Nat):Bool:=D1 (Bc c i).name&&right (Bc c i).kind&& !c.iface
def Xn (c:Cla) (i k:Nat):Bool:= !decide ((Bc c k).name=(Bc c i).name)
def Q7K (c:Cla):Bool:=(!c.iface||(c.abs&&decide (c.super=J9)))&& !(c.abs&&c.fin)
def Xk (c:Cla) (i k:Nat):Bool:= !decide ((Ht c k).name=(Ht c i).name)
theorem Lg {p:Nat→Bool} {n:Nat}:(List.range (n+1)).all p=((List.range n).all p&&p n):=by rw[List.range_succ,List.all_append];simp
theorem S3 {α:Type} {xs:List α} {i:Nat} {d:α} (h:i<xs.length):xs.getD i d=xs[i]:=by rw[List.getD_eq_getElem?_getD,List.getElem?_eq_getElem h];rfl
end Go.Hm
namespace Go.Proofs.YtjdiakhipmggjaaGreatDoor
open Go.Emb Go.RowKit Go.Kd Go.Hm
variable {w : World} {K : Value → World → Prop} {σ : Q5}
def Mg (c:Cla) (i:Nat):Bool:=I2 (Ht c i)&&(!(Ht c i).abs||c.abs)&&(!c.iface||(Ht c i).abs)
set_option maxHeartbeats 2000000 in
theorem Q3P {c:Cla} {lv fv mv:Value} {w1:World} {σ1:Q5} {q:Addr} {ok:Bool} (ac:X2 w1 σ1) (hq:Z4 σ1 q [S c.name,S c.super,lv, .bool c.iface, .bool c.abs, .bool c.fin,fv,mv]) {i:Nat} {N m0:Nat} {M:Nat→Value→World→Prop} (g1:Sl 1 U9 σ1 lv c.like) (hi:i<c.like.length)
 (h: ∀w' σ',Stp w1 σ1 w' σ'→Bv N M (Value.bool (ok&&(List.range i).all (A0 c i)), .int .i64 (IntKind.i64.wrap (i+1))) w'∧Nn N (Value.bool (ok&&(List.range i).all (A0 c i)), .int .i64 (IntKind.i64.wrap (i+1)))<m0):
 lp (
  α:=Value×Value) (Value.bool ok,(.int .i64 0)) w1 fun g b d_ w=>
  Q3 P .lss T.e (.tmp 52) (.tmp 53) b.2 (I i) w fun ah w=>
  X1 ah (
   dr w fun e j=>
   Q6 e (fun n=> ∀w:World,j w→Q0 b.1 true w (fieldAddr P T.b (.pointer (some q)) 2) (dk e n w)) fun n=>
   Q6 e (fun v=> ∀w:World,j w→Q0 b.1 true w (fun w J=>J b.2 w) (dk e v w)) fun v=>
   Q6 e (fun A=> ∀w:World,j w→Q0 b.1 true w (fieldAddr P T.b (.pointer (some q)) 2) (dk e A w)) fun A=>
   Q6 e (fun o=> ∀w:World,j w→Q0 b.1 true w (fun w J=>J (I i) w) (dk e o w)) fun o=>
   Q6 e (fun C=> ∀s:Value,∀w:World,j w→n s w→Q0 b.1 true w (Q2 P T.h s) (dk e C w)) fun C=>
   Q6 e (fun m=> ∀u:Value,∀p:Value,∀w:World,j w→C u w→v p w→Q0 b.1 true w (indexAddr P T.h u p) (dk e m w)) fun m=>
   Q6 e (fun E=> ∀r:Value,∀w:World,j w→m r w→Q0 b.1 true w (Q2 P T.c r) (dk e E w)) fun E=>
   Q6 e (fun l=> ∀B:Value,∀w:World,j w→A B w→Q0 b.1 true w (Q2 P T.h B) (dk e l w)) fun l=>
   Q6 e (fun D=> ∀t:Value,∀y:Value,∀w:World,j w→l t w→o y w→Q0 b.1 true w (indexAddr P T.h t y) (dk e D w)) fun D=>
   Q6 e (fun L=> ∀z:Value,∀w:World,j w→D z w→Q0 b.1 true w (Q2 P T.c z) (dk e L w)) fun L=>
   ∀s:Value,∀p:Value,∀B:Value,∀y:Value,∀u:Value,∀r:Value,∀V:Value,∀t:Value,∀z:Value,∀R:Value,∀w:World,j w→n s w→v p w→A B w→o y w→C u w→m r w→E V w→l t w→D z w→L R w→
   Q0 b.1 true w (Q3 P .neq T.c (.tmp 63) (.tmp 68) V R) fun ad w=>
   pick P b.1 ad (.bool false) w fun ab w=>
   Q3 P .add T.e (.tmp 55) (.const (.int .i64 1)) b.2 (.int .i64 1) w fun Y w=>
   g (ab,Y) w) (
   Q3 P .add T.e (.tmp 31) (.const (.int .i64 1)) (I i) (.int .i64 1) w fun Q w=>
   (Bv N M (b.1,Q) w∧Nn N (b.1,Q)<m0)):=by
 have am:=g1.max
 refine E3 (a:=Value.bool ok) i (fun k x w'=> ∃σ',Stp w1 σ1 w' σ'∧x=Value.bool (ok&&(List.range k).all (A0 c i))) ⟨σ1,Stp.refl ac,by simp⟩ fun k x w2 d hk O=>?_
 obtain ⟨σ2,f,rfl⟩:=O
 have ap:=hq.up f
 have U:=g1.up f
 have ae:=f.sat
 refine Z2 ?_
 refine Q7 (fun X=>?_) (fun X=>?_)
 ·have Z:k<i:=by simpa using X
  have W:k<c.like.length:=by omega
  have H:(ok&&(List.range (k+1)).all (A0 c i))=((ok&&(List.range k).all (A0 c i))&&A0 c i k):=by rw[Lg,Bool.and_assoc]
  have hQ:A0 c i k= !decide (c.like[k]=c.like[i]):=by unfold A0;rw[S3 W,S3 hi]
  rw[hQ] at H
  obtain ⟨p1,_⟩:=U.elS W
  obtain ⟨p2,_⟩:=U.elS hi
  generalize (ok&&(List.range k).all (A0 c i))=ag at H⊢
  clear h hQ X
  cases ag
  all_goals
   refine U2 ae ?_
   (repeat refine J6 Qt ?_)
   (intros;(repeat (rename_i hx;subst hx));(try simp only[↓M2,M2,Mb,reduceIte]))
   rename_i w3 af
   exact Z9 (by omega) Z ⟨σ2,f.trans af.stp,by rw[H];rfl⟩
 ·have aa:k=i:=by
   have: ¬k<i:=by simpa using X
   omega
  subst aa
  (try simp only[↓M1,M1,Mb,reduceIte])
  exact h _ _ f
set_option maxHeartbeats 4000000 in
theorem X05 {c:Cla} {lv fv mv:Value} {w1:World} {σ1:Q5} {q:Addr} {ok:Bool} (hs1:X2 w1 σ1) (hq:Z4 σ1 q [S c.name,S c.super,lv, .bool c.iface, .bool c.abs, .bool c.fin,fv,mv]) {J:Value→World→Prop} (hn:c.name.length≤U0) (g1:Sl 1 U9 σ1 lv c.like)
 (h: ∀w' σ',Stp w1 σ1 w' σ'→J (.bool (ok&&(List.range c.like.length).all fun i=>Lo c i&&(List.range i).all (A0 c i))) w'):
 lp (α:=Value×Value) (Value.bool ok,(.int .i64 0)) w1 fun again4 x4 d_ w=>
 fieldAddr P T.b (.pointer (some q)) 2 w fun t27 w=>
 Q2 P T.h t27 w fun t28 w=>
 X3 P .len [T.h] T.e [false] [t28] w fun t29 w=>
 Q3 P .lss T.e (.tmp 26) (.tmp 29) x4.2 t29 w fun t30 w=>
 X1 t30 (
  dr w fun Tr Br=>
  Q6 Tr (fun φ35=> ∀w:World,Br w→Q0 x4.1 true w (fieldAddr P T.b (.pointer (some q)) 2) (dk Tr φ35 w)) fun φ35=>
  Q6 Tr (fun φ37=> ∀w:World,Br w→Q0 x4.1 true w (fun w J=>J x4.2 w) (dk Tr φ37 w)) fun φ37=>
  Q6 Tr (fun φ36=> ∀t35:Value,∀w:World,Br w→φ35 t35 w→Q0 x4.1 true w (Q2 P T.h t35) (dk Tr φ36 w)) fun φ36=>
  Q6 Tr (fun φ38=> ∀t36:Value,∀t37:Value,∀w:World,Br w→φ36 t36 w→φ37 t37 w→Q0 x4.1 true w (indexAddr P T.h t36 t37) (dk Tr φ38 w)) fun φ38=>
  Q6 Tr (fun φ39=> ∀t38:Value,∀w:World,Br w→φ38 t38 w→Q0 x4.1 true w (Q2 P T.c t38) (dk Tr φ39 w)) fun φ39=>
  Q6 Tr (fun φ40=> ∀t39:Value,∀w:World,Br w→φ39 t39 w→Q0 x4.1 true w (Q1 P F.d [t39]) (dk Tr φ40 w)) fun φ40=>
  Q6 Tr (fun φ41=> ∀t40:Value,∀w:World,Br w→φ40 t40 w→pick P x4.1 t40 (.bool false) w (dk Tr φ41 w)) fun φ41=>
  Q6 Tr (fun φ43=> ∀t41:Value,∀w:World,Br w→φ41 t41 w→Q0 t41 true w (fieldAddr P T.b (.pointer (some q)) 2) (dk Tr φ43 w)) fun φ43=>
  Q6 Tr (fun φ45=> ∀t41:Value,∀w:World,Br w→φ41 t41 w→Q0 t41 true w (fun w J=>J x4.2 w) (dk Tr φ45 w)) fun φ45=>
  Q6 Tr (fun φ48=> ∀t41:Value,∀w:World,Br w→φ41 t41 w→Q0 t41 true w (fieldAddr P T.b (.pointer (some q)) 0) (dk Tr φ48 w)) fun φ48=>
  Q6 Tr (fun φ44=> ∀t41:Value,∀t43:Value,∀w:World,Br w→φ41 t41 w→φ43 t43 w→Q0 t41 true w (Q2 P T.h t43) (dk Tr φ44 w)) fun φ44=>
  Q6 Tr (fun φ46=> ∀t41:Value,∀t44:Value,∀t45:Value,∀w:World,Br w→φ41 t41 w→φ44 t44 w→φ45 t45 w→Q0 t41 true w (indexAddr P T.h t44 t45) (dk Tr φ46 w)) fun φ46=>
  Q6 Tr (fun φ47=> ∀t41:Value,∀t46:Value,∀w:World,Br w→φ41 t41 w→φ46 t46 w→Q0 t41 true w (Q2 P T.c t46) (dk Tr φ47 w)) fun φ47=>
  Q6 Tr (fun φ49=> ∀t41:Value,∀t48:Value,∀w:World,Br w→φ41 t41 w→φ48 t48 w→Q0 t41 true w (Q2 P T.c t48) (dk Tr φ49 w)) fun φ49=>
  ∀t35:Value,∀t37:Value,∀t36:Value,∀t38:Value,∀t39:Value,∀t40:Value,∀t41:Value,∀t43:Value,∀t45:Value,∀t48:Value,∀t44:Value,∀t46:Value,∀t47:Value,∀t49:Value,∀w:World,Br w→φ35 t35 w→φ37 t37 w→φ36 t36 w→φ38 t38 w→φ39 t39 w→φ40 t40 w→φ41 t41 w→φ43 t43 w→φ45 t45 w→φ48 t48 w→φ44 t44 w→φ46 t46 w→φ47 t47 w→φ49 t49 w→
  Q0 t41 true w (Q3 P .neq T.c (.tmp 47) (.tmp 49) t47 t49) fun t50 w=>
  pick P t41 t50 (.bool false) w fun t51 w=>
  lp (α:=Value×Value) (t51,(.int .i64 0)) w fun again10 x10 d_ w=>
   Q3 P .lss T.e (.tmp 52) (.tmp 53) x10.2 x4.2 w fun t54 w=>
   X1 t54 (
    dr w fun Tr Br=>
    Q6 Tr (fun φ59=> ∀w:World,Br w→Q0 x10.1 true w (fieldAddr P T.b (.pointer (some q)) 2) (dk Tr φ59 w)) fun φ59=>
    Q6 Tr (fun φ61=> ∀w:World,Br w→Q0 x10.1 true w (fun w J=>J x10.2 w) (dk Tr φ61 w)) fun φ61=>
    Q6 Tr (fun φ64=> ∀w:World,Br w→Q0 x10.1 true w (fieldAddr P T.b (.pointer (some q)) 2) (dk Tr φ64 w)) fun φ64=>
    Q6 Tr (fun φ66=> ∀w:World,Br w→Q0 x10.1 true w (fun w J=>J x4.2 w) (dk Tr φ66 w)) fun φ66=>
    Q6 Tr (fun φ60=> ∀t59:Value,∀w:World,Br w→φ59 t59 w→Q0 x10.1 true w (Q2 P T.h t59) (dk Tr φ60 w)) fun φ60=>
    Q6 Tr (fun φ62=> ∀t60:Value,∀t61:Value,∀w:World,Br w→φ60 t60 w→φ61 t61 w→Q0 x10.1 true w (indexAddr P T.h t60 t61) (dk Tr φ62 w)) fun φ62=>
    Q6 Tr (fun φ63=> ∀t62:Value,∀w:World,Br w→φ62 t62 w→Q0 x10.1 true w (Q2 P T.c t62) (dk Tr φ63 w)) fun φ63=>
    Q6 Tr (fun φ65=> ∀t64:Value,∀w:World,Br w→φ64 t64 w→Q0 x10.1 true w (Q2 P T.h t64) (dk Tr φ65 w)) fun φ65=>
    Q6 Tr (fun φ67=> ∀t65:Value,∀t66:Value,∀w:World,Br w→φ65 t65 w→φ66 t66 w→Q0 x10.1 true w (indexAddr P T.h t65 t66) (dk Tr φ67 w)) fun φ67=>
    Q6 Tr (fun φ68=> ∀t67:Value,∀w:World,Br w→φ67 t67 w→Q0 x10.1 true w (Q2 P T.c t67) (dk Tr φ68 w)) fun φ68=>
    ∀t59:Value,∀t61:Value,∀t64:Value,∀t66:Value,∀t60:Value,∀t62:Value,∀t63:Value,∀t65:Value,∀t67:Value,∀t68:Value,∀w:World,Br w→φ59 t59 w→φ61 t61 w→φ64 t64 w→φ66 t66 w→φ60 t60 w→φ62 t62 w→φ63 t63 w→φ65 t65 w→φ67 t67 w→φ68 t68 w→
    Q0 x10.1 true w (Q3 P .neq T.c (.tmp 63) (.tmp 68) t63 t68) fun t69 w=>
    pick P x10.1 t69 (.bool false) w fun t70 w=>
    Q3 P .add T.e (.tmp 55) (.const (.int .i64 1)) x10.2 (.int .i64 1) w fun t56 w=>
    again10 (t70,t56) w) (
    Q3 P .add T.e (.tmp 31) (.const (.int .i64 1)) x4.2 (.int .i64 1) w fun t32 w=>
    again4 (x10.1,t32) w)) (
  J x4.1 w):=by
 have hmax:=g1.max
 refine E3 (a:=Value.bool ok) c.like.length (fun n x w'=> ∃σ',Stp w1 σ1 w' σ'∧x=Value.bool (ok&&(List.range n).all fun i=>Lo c i&&(List.range i).all (A0 c i))) ⟨σ1,Stp.refl hs1,by simp⟩ fun n x w2 d hn2 hinv=>?_
 obtain ⟨σ2,hk2,rfl⟩:=hinv
 have hq2:=hq.up hk2
 have g12:=g1.up hk2
 have hs2:=hk2.sat
 (repeat refine Hd.h ?_)
 refine ld hs2 hq2 rfl ?_
 refine Q8 g12 ?_
 refine Z2 ?_
 refine Q7 (fun hc=>?_) (fun hc=>?_)
 ·have hn':n<c.like.length:=by simpa using hc
  have hnx:(ok&&(List.range (n+1)).all fun i=>Lo c i&&(List.range i).all (A0 c i))=((ok&&(List.range n).all fun i=>Lo c i&&(List.range i).all (A0 c i))&&(Lo c n&&(List.range n).all (A0 c n))):=by rw[Lg,Bool.and_assoc]
  have hP:Lo c n=(M6 c.like[n]&& !decide (c.like[n]=c.name)):=by unfold Lo;rw[S3 hn']
  obtain ⟨p1,p2⟩:=g12.elS hn'
  have p2:c.like[n].length≤140737488355328:=by simp only[U0] at p2;omega
  generalize (ok&&(List.range n).all fun i=>Lo c i&&(List.range i).all (A0 c i))=acc at hnx⊢
  clear h hc
  cases hacc:acc with
  | false=>
   refine U2 hs2 ?_
   (repeat refine J6 Qt ?_)
   intros;(repeat (rename_i hx;subst hx))
   rename_i w3 hb3
   (repeat refine Hd.h ?_)
   refine Q3P hb3.sat hq2 g12 hn' fun w4 σ4 hk4=>?_
   exact Z9 hmax hn' ⟨σ4,hk2.trans (hb3.stp.trans hk4),by rw[hnx,hacc];rfl⟩
  | true=>
   cases hcl:M6 c.like[n] with
   | false=>
    refine U2 hs2 ?_
    have hrc: ∀{w':World} {K:Value→World→Prop},K (.bool false) w'→Q1 P F.d [S c.like[n]] w' K:=fun hK=>Ya _ p2 (by rw[hcl];exact hK)
    (repeat (apply J6;(· intros;(repeat (rename_i hx;subst hx));(repeat' (first | (with_reducible exact E1 rfl) | (with_reducible exact B2 (Stp.bel (by (repeat (first | exact Stp.refl (by (first | assumption | exact Stp.sat (by assumption) | exact Hst.sat (by assumption))) | assumption | refine Stp.trans ?_ (by first | assumption | exact Hst.stp (by assumption)))))) rfl) | (with_reducible intro _) | (simp only[↓M2,M2,Mb,reduceIte]) | (with_reducible refine hrc ?_) | (with_reducible show Q2 _ _ _ _ _;first | refine X7 aS aL aR ?_ | refine Y4 aS aL aR ?_ | refine ld aS aL aR ?_) | (with_reducible show indexAddr _ _ _ _ _ _;refine Y3 aL au ?_) | (with_reducible show X3 _ _ _ _ _ _ _ _;refine Q8 aL ?_) | (with_reducible show G1 _ _ _ _ _ _;refine J4 aR ?_) | (with_reducible show pick _ _ _ _ _ _;refine O5 ?_) | (apply K1;intro hh;(try simp only[hh,reduceIte,↓M2,M2,Mb,reduceIte]))));done)))
    intros;(repeat (rename_i hx;subst hx))
    rename_i w3 hb3
    (repeat refine Hd.h ?_)
    refine Q3P hb3.sat hq2 g12 hn' fun w4 σ4 hk4=>?_
    exact Z9 hmax hn' ⟨σ4,hk2.trans (hb3.stp.trans hk4),by rw[hnx,hacc,hP,hcl];rfl⟩
   | true=>
    refine U2 hs2 ?_
    have hrc: ∀{w':World} {K:Value→World→Prop},K (.bool true) w'→Q1 P F.d [S c.like[n]] w' K:=fun hK=>Ya _ p2 (by rw[hcl];exact hK)
    (repeat (apply J6;(· intros;(repeat (rename_i hx;subst hx));(repeat' (first | (with_reducible exact E1 rfl) | (with_reducible exact B2 (Stp.bel (by (repeat (first | exact Stp.refl (by (first | assumption | exact Stp.sat (by assumption) | exact Hst.sat (by assumption))) | assumption | refine Stp.trans ?_ (by first | assumption | exact Hst.stp (by assumption)))))) rfl) | (with_reducible intro _) | (simp only[↓M2,M2,Mb,reduceIte]) | (with_reducible refine hrc ?_) | (with_reducible show Q2 _ _ _ _ _;first | refine X7 aS aL aR ?_ | refine Y4 aS aL aR ?_ | refine ld aS aL aR ?_) | (with_reducible show indexAddr _ _ _ _ _ _;refine Y3 aL au ?_) | (with_reducible show X3 _ _ _ _ _ _ _ _;refine Q8 aL ?_) | (with_reducible show G1 _ _ _ _ _ _;refine J4 aR ?_) | (with_reducible show pick _ _ _ _ _ _;refine O5 ?_) | (apply K1;intro hh;(try simp only[hh,reduceIte,↓M2,M2,Mb,reduceIte]))));done)))
    intros;(repeat (rename_i hx;subst hx))
    rename_i w3 hb3
    (repeat refine Hd.h ?_)
    refine Vy ?_
    (repeat refine Hd.h ?_)
    refine Q3P hb3.sat hq2 g12 hn' fun w4 σ4 hk4=>?_
    exact Z9 hmax hn' ⟨σ4,hk2.trans (hb3.stp.trans hk4),by rw[hnx,hacc,hP,hcl];simp⟩
 ·have hn': ¬n<c.like.length:=by simpa using hc
  obtain rfl:n=c.like.length:=by omega
  exact h _ _ hk2
set_option maxHeartbeats 2000000 in
theorem Q2Y {c:Cla} {lv fv mv:Value} {w1:World} {σ1:Q5} {q:Addr} {ok:Bool} (ai:X2 w1 σ1) (hq:Z4 σ1 q [S c.name,S c.super,lv, .bool c.iface, .bool c.abs, .bool c.fin,fv,mv]) {i:Nat} {N m0:Nat} {Y:Nat→Value→World→Prop} (g2:Sl 3 R3 σ1 fv c.fields) (hi:i<c.fields.length)
 (h: ∀w' σ',Stp w1 σ1 w' σ'→Bv N Y (Value.bool (ok&&(List.range i).all (Xn c i)), .int .i64 (IntKind.i64.wrap (i+1))) w'∧Nn N (Value.bool (ok&&(List.range i).all (Xn c i)), .int .i64 (IntKind.i64.wrap (i+1)))<m0):
 lp (α:=Value×Value) (Value.bool ok,(.int .i64 0)) w1 fun L b d_ w=>
  Q3 P .lss T.e (.tmp 102) (.tmp 103) b.2 (I i) w fun Z w=>
  X1 Z (
   dr w fun e H=>
   Q6 e (fun r=> ∀w:World,H w→Q0 b.1 true w (fieldAddr P T.b (.pointer (some q)) 6) (dk e r w)) fun r=>
   Q6 e (fun D=> ∀w:World,H w→Q0 b.1 true w (fun w J=>J b.2 w) (dk e D w)) fun D=>
   Q6 e (fun g=> ∀w:World,H w→Q0 b.1 true w (fieldAddr P T.b (.pointer (some q)) 6) (dk e g w)) fun g=>
   Q6 e (fun z=> ∀w:World,H w→Q0 b.1 true w (fun w J=>J (I i) w) (dk e z w)) fun z=>
   Q6 e (fun u=> ∀A:Value,∀w:World,H w→r A w→Q0 b.1 true w (Q2 P T.k A) (dk e u w)) fun u=>
   Q6 e (fun t=> ∀m:Value,∀j:Value,∀w:World,H w→u m w→D j w→Q0 b.1 true w (indexAddr P T.k m j) (dk e t w)) fun t=>
   Q6 e (fun v=> ∀s:Value,∀w:World,H w→t s w→Q0 b.1 true w (fieldAddr P T.n s 0) (dk e v w)) fun v=>
   Q6 e (fun Q=> ∀y:Value,∀w:World,H w→v y w→Q0 b.1 true w (Q2 P T.c y) (dk e Q w)) fun Q=>
   Q6 e (fun C=> ∀l:Value,∀w:World,H w→g l w→Q0 b.1 true w (Q2 P T.k l) (dk e C w)) fun C=>
   Q6 e (fun f=> ∀B:Value,∀E:Value,∀w:World,H w→C B w→z E w→Q0 b.1 true w (indexAddr P T.k B E) (dk e f w)) fun f=>
   Q6 e (fun o=> ∀n:Value,∀w:World,H w→f n w→Q0 b.1 true w (fieldAddr P T.n n 0) (dk e o w)) fun o=>
   Q6 e (fun O=> ∀p:Value,∀w:World,H w→o p w→Q0 b.1 true w (Q2 P T.c p) (dk e O w)) fun O=>
   ∀A:Value,∀j:Value,∀l:Value,∀E:Value,∀m:Value,∀s:Value,∀y:Value,∀U:Value,∀B:Value,∀n:Value,∀p:Value,∀R:Value,∀w:World,H w→r A w→D j w→g l w→z E w→u m w→t s w→v y w→Q U w→C B w→f n w→o p w→O R w→
   Q0 b.1 true w (Q3 P .neq T.c (.tmp 114) (.tmp 120) U R) fun ac w=>
   pick P b.1 ac (.bool false) w fun W w=>
   Q3 P .add T.e (.tmp 105) (.const (.int .i64 1)) b.2 (.int .i64 1) w fun ab w=>
   L (W,ab) w) (
   Q3 P .add T.e (.tmp 76) (.const (.int .i64 1)) (I i) (.int .i64 1) w fun ad w=>
   (Bv N Y (b.1,ad) w∧Nn N (b.1,ad)<m0)):=by
 have ar:=g2.max
 refine E3 (a:=Value.bool ok) i (fun k x w'=> ∃σ',Stp w1 σ1 w' σ'∧x=Value.bool (ok&&(List.range k).all (Xn c i))) ⟨σ1,Stp.refl ai,by simp⟩ fun k x w2 d hk aa=>?_
 obtain ⟨σ2,M,rfl⟩:=aa
 have aw:=hq.up M
 have X:=g2.up M
 have aj:=M.sat
 refine Z2 ?_
 refine Q7 (fun hc=>?_) (fun hc=>?_)
 ·have ag:k<i:=by simpa using hc
  have ae:k<c.fields.length:=by omega
  have V:(ok&&(List.range (k+1)).all (Xn c i))=((ok&&(List.range k).all (Xn c i))&&Xn c i k):=by rw[Lg,Bool.and_assoc]
  have hQ:Xn c i k= !decide (c.fields[k].name=c.fields[i].name):=by unfold Xn Bc;rw[S3 ae,S3 hi]
  rw[hQ] at V
  obtain ⟨p1,_⟩:=X.elF ae
  obtain ⟨p2,_⟩:=X.elF hi
  generalize (ok&&(List.range k).all (Xn c i))=al at V⊢
  clear h hQ hc
  cases al
  all_goals
   refine U2 aj ?_
   (repeat refine J6 Qt ?_)
   (intros;(repeat (rename_i hx;subst hx));(try simp only[↓M2,M2,Mb,reduceIte]))
   rename_i w3 ak
   exact Z9 (by omega) ag ⟨σ2,M.trans ak.stp,by rw[V];rfl⟩
 ·have ah:k=i:=by
   have: ¬k<i:=by simpa using hc
   omega
  subst ah
  (try simp only[↓M1,M1,Mb,reduceIte])
  exact h _ _ M
set_option maxHeartbeats 4000000 in
theorem X19 {c:Cla} {lv fv mv:Value} {w1:World} {σ1:Q5} {q:Addr} {ok:Bool} (bc:X2 w1 σ1) (hq:Z4 σ1 q [S c.name,S c.super,lv, .bool c.iface, .bool c.abs, .bool c.fin,fv,mv]) {J:Value→World→Prop} (g2:Sl 3 R3 σ1 fv c.fields)
 (h: ∀w' σ',Stp w1 σ1 w' σ'→J (.bool (ok&&(List.range c.fields.length).all fun i=>Dn c i&&(List.range i).all (Xn c i))) w'):
 lp (
  α:=Value×Value) (Value.bool ok,(.int .i64 0)) w1 fun aa g d_ w=>
  fieldAddr P T.b (.pointer (some q)) 6 w fun ay w=>
  Q2 P T.k ay w fun a4 w=>
  X3 P .len [T.k] T.e [false] [a4] w fun a2 w=>
  Q3 P .lss T.e (.tmp 71) (.tmp 74) g.2 a2 w fun a0 w=>
  X1 a0 (
   Q0 g.1 true w (fieldAddr P T.b (.pointer (some q)) 6) fun ba w=>
   Q0 g.1 true w (Q2 P T.k ba) fun av w=>
   Q0 g.1 true w (fun w J=>J g.2 w) fun aw w=>
   Q0 g.1 true w (indexAddr P T.k av aw) fun a5 w=>
   Q0 g.1 true w (fieldAddr P T.n a5 0) fun ar w=>
   Q0 g.1 true w (Q2 P T.c ar) fun a6 w=>
   Q0 g.1 true w (Q1 P F.u [a6]) fun be w=>
   pick P g.1 be (.bool false) w fun p w=>
   Q0 p true w (fieldAddr P T.b (.pointer (some q)) 6) fun a3 w=>
   Q0 p true w (Q2 P T.k a3) fun bh w=>
   Q0 p true w (fun w J=>J g.2 w) fun a9 w=>
   Q0 p true w (indexAddr P T.k bh a9) fun a1 w=>
   Q0 p true w (fieldAddr P T.n a1 1) fun az w=>
   Q0 p true w (Q2 P T.c az) fun ax w=>
   Q0 p true w (Q1 P F.e [ax]) fun bd w=>
   pick P p bd (.bool false) w fun ae w=>
   Q0 ae true w (fieldAddr P T.b (.pointer (some q)) 3) fun bb w=>
   Q0 ae true w (Q2 P T.u bb) fun bi w=>
   Q0 ae true w (J7 P .not bi) fun an w=>
   pick P ae an (.bool false) w fun ak w=>
   lp (α:=Value×Value) (ak,(.int .i64 0)) w fun Z f d_ w=>
    Q3 P .lss T.e (.tmp 102) (.tmp 103) f.2 g.2 w fun al w=>
    X1 al (
     dr w fun k Y=>
     Q6 k (fun B=> ∀w:World,Y w→Q0 f.1 true w (fieldAddr P T.b (.pointer (some q)) 6) (dk k B w)) fun B=>
     Q6 k (fun V=> ∀w:World,Y w→Q0 f.1 true w (fun w J=>J f.2 w) (dk k V w)) fun V=>
     Q6 k (fun u=> ∀w:World,Y w→Q0 f.1 true w (fieldAddr P T.b (.pointer (some q)) 6) (dk k u w)) fun u=>
     Q6 k (fun N=> ∀w:World,Y w→Q0 f.1 true w (fun w J=>J g.2 w) (dk k N w)) fun N=>
     Q6 k (fun H=> ∀O:Value,∀w:World,Y w→B O w→Q0 f.1 true w (Q2 P T.k O) (dk k H w)) fun H=>
     Q6 k (fun D=> ∀z:Value,∀v:Value,∀w:World,Y w→H z w→V v w→Q0 f.1 true w (indexAddr P T.k z v) (dk k D w)) fun D=>
     Q6 k (fun L=> ∀C:Value,∀w:World,Y w→D C w→Q0 f.1 true w (fieldAddr P T.n C 0) (dk k L w)) fun L=>
     Q6 k (fun ad=> ∀M:Value,∀w:World,Y w→L M w→Q0 f.1 true w (Q2 P T.c M) (dk k ad w)) fun ad=>
     Q6 k (fun U=> ∀y:Value,∀w:World,Y w→u y w→Q0 f.1 true w (Q2 P T.k y) (dk k U w)) fun U=>
     Q6 k (fun t=> ∀Q:Value,∀W:Value,∀w:World,Y w→U Q w→N W w→Q0 f.1 true w (indexAddr P T.k Q W) (dk k t w)) fun t=>
     Q6 k (fun A=> ∀E:Value,∀w:World,Y w→t E w→Q0 f.1 true w (fieldAddr P T.n E 0) (dk k A w)) fun A=>
     Q6 k (fun ab=> ∀X:Value,∀w:World,Y w→A X w→Q0 f.1 true w (Q2 P T.c X) (dk k ab w)) fun ab=>
     ∀O:Value,∀v:Value,∀y:Value,∀W:Value,∀z:Value,∀C:Value,∀M:Value,∀ag:Value,∀Q:Value,∀E:Value,∀X:Value,∀af:Value,∀w:World,Y w→B O w→V v w→u y w→N W w→H z w→D C w→L M w→ad ag w→U Q w→t E w→A X w→ab af w→
     Q0 f.1 true w (Q3 P .neq T.c (.tmp 114) (.tmp 120) ag af) fun ap w=>
     pick P f.1 ap (.bool false) w fun aj w=>
     Q3 P .add T.e (.tmp 105) (.const (.int .i64 1)) f.2 (.int .i64 1) w fun ao w=>
     Z (aj,ao) w) (
     Q3 P .add T.e (.tmp 76) (.const (.int .i64 1)) g.2 (.int .i64 1) w fun bg w=>
     aa (f.1,bg) w)) (
   J g.1 w):=by
 have R:=g2.max
 refine E3 (a:=Value.bool ok) c.fields.length (fun n x w'=> ∃σ',Stp w1 σ1 w' σ'∧x=Value.bool (ok&&(List.range n).all fun i=>Dn c i&&(List.range i).all (Xn c i))) ⟨σ1,Stp.refl bc,by simp⟩ fun n x w2 d bs am=>?_
 obtain ⟨σ2,o,rfl⟩:=am
 have r:=hq.up o
 have m:=g2.up o
 have l:=o.sat
 (repeat refine Hd.h ?_)
 refine ld l r rfl ?_
 refine Q8 m ?_
 refine Z2 ?_
 refine Q7 (fun hc=>?_) (fun hc=>?_)
 ·have j:n<c.fields.length:=by simpa using hc
  have ac:(ok&&(List.range (n+1)).all fun i=>Dn c i&&(List.range i).all (Xn c i))=((ok&&(List.range n).all fun i=>Dn c i&&(List.range i).all (Xn c i))&&(Dn c n&&(List.range n).all (Xn c n))):=by rw[Lg,Bool.and_assoc]
  have hP:Dn c n=(D1 c.fields[n].name&&right c.fields[n].kind&& !c.iface):=by unfold Dn Bc;rw[S3 j]
  obtain ⟨p1,r1⟩:=m.elF j
  have b1:c.fields[n].name.length≤140737488355328:=by have:=r1.2.1;simp only[U0] at this;omega
  have b2:c.fields[n].kind.length≤140737488355328:=by have:=r1.2.2;simp only[U0] at this;omega
  generalize (ok&&(List.range n).all fun i=>Dn c i&&(List.range i).all (Xn c i))=ah at ac⊢
  clear h hc
  have step: ∀b,b=(ah&&Dn c n)→(ah&&(Dn c n&&(List.range n).all (Xn c n)))=(b&&(List.range n).all (Xn c n)):=fun b e=>by rw[e,Bool.and_assoc]
  cases ah with
  | false=>
   (repeat refine Hd.h ?_)
   refine Q2Y l r m j fun w4 σ4 s=>?_
   exact Z9 R j ⟨σ4,o.trans s,by rw[ac];rfl⟩
  | true=>
   (repeat refine Hd.h ?_)
   refine ld l r rfl ?_
   (repeat refine Hd.h ?_)
   refine Y3 m j ?_
   (repeat refine Hd.h ?_)
   refine ld l p1 rfl ?_
   (repeat refine Hd.h ?_)
   refine Ip _ b1 ?_
   cases d1:D1 c.fields[n].name with
   | false=>
    (repeat refine Hd.h ?_)
    refine Q2Y l r m j fun w4 σ4 s=>?_
    exact Z9 R j ⟨σ4,o.trans s,by rw[ac,step false (by rw[hP,d1];rfl)]⟩
   | true=>
    (repeat refine Hd.h ?_)
    refine ld l r rfl ?_
    (repeat refine Hd.h ?_)
    refine Y3 m j ?_
    (repeat refine Hd.h ?_)
    refine ld l p1 rfl ?_
    (repeat refine Hd.h ?_)
    refine Jz _ b2 ?_
    cases d2:right c.fields[n].kind with
    | false=>
     (repeat refine Hd.h ?_)
     refine Q2Y l r m j fun w4 σ4 s=>?_
     exact Z9 R j ⟨σ4,o.trans s,by rw[ac,step false (by rw[hP,d1,d2];rfl)]⟩
    | true=>
     (repeat refine Hd.h ?_)
     refine ld l r rfl ?_
     (repeat refine Hd.h ?_)
     refine Q2Y l r m j fun w4 σ4 s=>?_
     exact Z9 R j ⟨σ4,o.trans s,by rw[ac,step (!c.iface) (by rw[hP,d1,d2];rfl)]⟩
 ·have j: ¬n<c.fields.length:=by simpa using hc
  obtain rfl:n=c.fields.length:=by omega
  exact h _ _ o
set_option maxHeartbeats 2000000 in
theorem Sf {c:Cla} {lv fv mv:Value} {w1:World} {σ1:Q5} {q:Addr} {ok:Bool} (aa:X2 w1 σ1) (hq:Z4 σ1 q [S c.name,S c.super,lv, .bool c.iface, .bool c.abs, .bool c.fin,fv,mv]) {i:Nat} {q9:Addr} {pv cv hv:Value} {N m0:Nat} {M:Nat→Value→World→Prop} (g3:Sl 7 E5 σ1 mv c.methods) (hi:i<c.methods.length) (ae:Z4 σ1 q9 [S c.methods[i].name,pv,S c.methods[i].result, .bool c.methods[i].abs,I c.methods[i].locals,cv,hv])
 (h: ∀w' σ',Stp w1 σ1 w' σ'→Bv N M (Value.bool (ok&&(List.range i).all (Xk c i)), .int .i64 (IntKind.i64.wrap (i+1))) w'∧Nn N (Value.bool (ok&&(List.range i).all (Xk c i)), .int .i64 (IntKind.i64.wrap (i+1)))<m0):
 lp (α:=Value×Value) (Value.bool ok,(.int .i64 0)) w1 fun A b d_ w=>
  Q3 P .lss T.e (.tmp 158) (.tmp 159) b.2 (I i) w fun U w=>
  X1 U (
   dr w fun e B=>
   Q6 e (fun t=> ∀w:World,B w→Q0 b.1 true w (fieldAddr P T.b (.pointer (some q)) 7) (dk e t w)) fun t=>
   Q6 e (fun n=> ∀w:World,B w→Q0 b.1 true w (fun w J=>J b.2 w) (dk e n w)) fun n=>
   Q6 e (fun p=> ∀w:World,B w→Q0 b.1 true w (fieldAddr P T.d (.pointer (some q9)) 0) (dk e p w)) fun p=>
   Q6 e (fun u=> ∀o:Value,∀w:World,B w→t o w→Q0 b.1 true w (Q2 P T.j o) (dk e u w)) fun u=>
   Q6 e (fun l=> ∀r:Value,∀f:Value,∀w:World,B w→u r w→n f w→Q0 b.1 true w (indexAddr P T.j r f) (dk e l w)) fun l=>
   Q6 e (fun m=> ∀j:Value,∀w:World,B w→l j w→Q0 b.1 true w (fieldAddr P T.d j 0) (dk e m w)) fun m=>
   Q6 e (fun y=> ∀s:Value,∀w:World,B w→m s w→Q0 b.1 true w (Q2 P T.c s) (dk e y w)) fun y=>
   Q6 e (fun z=> ∀g:Value,∀w:World,B w→p g w→Q0 b.1 true w (Q2 P T.c g) (dk e z w)) fun z=>
   ∀o:Value,∀f:Value,∀g:Value,∀r:Value,∀j:Value,∀s:Value,∀D:Value,∀E:Value,∀w:World,B w→t o w→n f w→p g w→u r w→l j w→m s w→y D w→z E w→
   Q0 b.1 true w (Q3 P .neq T.c (.tmp 170) (.tmp 172) D E) fun L w=>
   pick P b.1 L (.bool false) w fun Q w=>
   Q3 P .add T.e (.tmp 161) (.const (.int .i64 1)) b.2 (.int .i64 1) w fun R w=>
   A (Q,R) w) (
   Q3 P .add T.e (.tmp 128) (.const (.int .i64 1)) (I i) (.int .i64 1) w fun C w=>
   (Bv N M (b.1,C) w∧Nn N (b.1,C)<m0)):=by
 have ak:=g3.max
 refine E3 (a:=Value.bool ok) i (fun k x w'=> ∃σ',Stp w1 σ1 w' σ'∧x=Value.bool (ok&&(List.range k).all (Xk c i))) ⟨σ1,Stp.refl aa,by simp⟩ fun k x w2 d hk O=>?_
 obtain ⟨σ2,v,rfl⟩:=O
 have aq:=hq.up v
 have aj:=ae.up v
 have Y:=g3.up v
 have ab:=v.sat
 refine Z2 ?_
 refine Q7 (fun W=>?_) (fun W=>?_)
 ·have X:k<i:=by simpa using W
  have V:k<c.methods.length:=by omega
  have H:(ok&&(List.range (k+1)).all (Xk c i))=((ok&&(List.range k).all (Xk c i))&&Xk c i k):=by rw[Lg,Bool.and_assoc]
  have hQ:Xk c i k= !decide (c.methods[k].name=c.methods[i].name):=by unfold Xk Ht;rw[S3 V,S3 hi]
  rw[hQ] at H
  obtain ⟨an,am,ap,p1,_⟩:=Y.elM V
  generalize (ok&&(List.range k).all (Xk c i))=ad at H⊢
  clear h hQ W
  cases ad
  all_goals
   refine U2 ab ?_
   (repeat refine J6 Qt ?_)
   (intros;(repeat (rename_i hx;subst hx));(try simp only[↓M2,M2,Mb,reduceIte]))
   rename_i w3 ac
   exact Z9 (by omega) X ⟨σ2,v.trans ac.stp,by rw[H];rfl⟩
 ·have Z:k=i:=by
   have: ¬k<i:=by simpa using W
   omega
  subst Z
  (try simp only[↓M1,M1,Mb,reduceIte])
  exact h _ _ v
set_option maxHeartbeats 4000000 in
theorem X25 {c:Cla} {lv fv mv:Value} {w1:World} {σ1:Q5} {q:Addr} {ok:Bool} (bv:X2 w1 σ1) (hq:Z4 σ1 q [S c.name,S c.super,lv, .bool c.iface, .bool c.abs, .bool c.fin,fv,mv]) {J:Value→World→Prop} (g3:Sl 7 E5 σ1 mv c.methods)
 (h: ∀w' σ',Stp w1 σ1 w' σ'→J (.bool (ok&&(List.range c.methods.length).all fun i=>Mg c i&&(List.range i).all (Xk c i))) w'):
 lp (α:=Value×Value) (Value.bool ok,(.int .i64 0)) w1 fun Z v d_ w=>
  fieldAddr P T.b (.pointer (some q)) 7 w fun ba w=>
  Q2 P T.j ba w fun ax w=>
  X3 P .len [T.j] T.e [false] [ax] w fun bf w=>
  Q3 P .lss T.e (.tmp 123) (.tmp 126) v.2 bf w fun be w=>
  X1 be (
   fieldAddr P T.b (.pointer (some q)) 7 w fun bj w=>
   Q2 P T.j bj w fun bp w=>
   indexAddr P T.j bp v.2 w fun a4 w=>
   Q2 P T.d a4 w fun aw w=>
   W0 P T.d w fun t9 w=>
   Y0 P T.d t9 aw w fun _u w=>
   Q0 v.1 true w (Q2 P T.d t9) fun a2 w=>
   Q0 v.1 true w (Q1 P F.a5 [a2]) fun bc w=>
   pick P v.1 bc (.bool false) w fun s w=>
   Q0 s true w (fieldAddr P T.d t9 3) fun bd w=>
   Q0 s true w (Q2 P T.u bd) fun az w=>
   Q0 s true w (J7 P .not az) fun a5 w=>
   Q0 s true w (fun w J=>J a5 w) fun ad w=>
   Q0 ad false w (fieldAddr P T.b (.pointer (some q)) 4) fun bg w=>
   Q0 ad false w (Q2 P T.u bg) fun aq w=>
   Q0 s true w (pick P ad (.bool true) aq) fun av w=>
   pick P s av (.bool false) w fun r w=>
   Q0 r true w (fieldAddr P T.b (.pointer (some q)) 3) fun bi w=>
   Q0 r true w (Q2 P T.u bi) fun bm w=>
   Q0 r true w (J7 P .not bm) fun bn w=>
   Q0 r true w (fun w J=>J bn w) fun Y w=>
   Q0 Y false w (fieldAddr P T.d t9 3) fun bb w=>
   Q0 Y false w (Q2 P T.u bb) fun bk w=>
   Q0 r true w (pick P Y (.bool true) bk) fun a7 w=>
   pick P r a7 (.bool false) w fun a6 w=>
   lp (α:=Value×Value) (a6,(.int .i64 0)) w fun ac k d_ w=>
    Q3 P .lss T.e (.tmp 158) (.tmp 159) k.2 v.2 w fun a9 w=>
    X1 a9 (
     dr w fun y Br=>
     Q6 y (fun E=> ∀w:World,Br w→Q0 k.1 true w (fieldAddr P T.b (.pointer (some q)) 7) (dk y E w)) fun E=>
     Q6 y (fun O=> ∀w:World,Br w→Q0 k.1 true w (fun w J=>J k.2 w) (dk y O w)) fun O=>
     Q6 y (fun C=> ∀w:World,Br w→Q0 k.1 true w (fieldAddr P T.d t9 0) (dk y C w)) fun C=>
     Q6 y (fun H=> ∀B:Value,∀w:World,Br w→E B w→Q0 k.1 true w (Q2 P T.j B) (dk y H w)) fun H=>
     Q6 y (fun M=> ∀D:Value,∀z:Value,∀w:World,Br w→H D w→O z w→Q0 k.1 true w (indexAddr P T.j D z) (dk y M w)) fun M=>
     Q6 y (fun N=> ∀A:Value,∀w:World,Br w→M A w→Q0 k.1 true w (fieldAddr P T.d A 0) (dk y N w)) fun N=>
     Q6 y (fun W=> ∀Q:Value,∀w:World,Br w→N Q w→Q0 k.1 true w (Q2 P T.c Q) (dk y W w)) fun W=>
     Q6 y (fun ab=> ∀L:Value,∀w:World,Br w→C L w→Q0 k.1 true w (Q2 P T.c L) (dk y ab w)) fun ab=>
     ∀B:Value,∀z:Value,∀L:Value,∀D:Value,∀A:Value,∀Q:Value,∀ah:Value,∀ai:Value,∀w:World,Br w→E B w→O z w→C L w→H D w→M A w→N Q w→W ah w→ab ai w→
     Q0 k.1 true w (Q3 P .neq T.c (.tmp 170) (.tmp 172) ah ai) fun ar w=>
     pick P k.1 ar (.bool false) w fun a0 w=>
     Q3 P .add T.e (.tmp 161) (.const (.int .i64 1)) k.2 (.int .i64 1) w fun a8 w=>
     ac (a0,a8) w) (
     Q3 P .add T.e (.tmp 128) (.const (.int .i64 1)) v.2 (.int .i64 1) w fun ay w=>
     Z (k.1,ay) w)) (
   J v.1 w):=by
 have o:=g3.max
 refine E3 (a:=Value.bool ok) c.methods.length (fun n x w'=> ∃σ',Stp w1 σ1 w' σ'∧x=Value.bool (ok&&(List.range n).all fun i=>Mg c i&&(List.range i).all (Xk c i))) ⟨σ1,Stp.refl bv,by simp⟩ fun n x w2 d b4 bh=>?_
 obtain ⟨σ2,V,rfl⟩:=bh
 have ao:=hq.up V
 have af:=g3.up V
 have ag:=V.sat
 (repeat refine Hd.h ?_)
 refine ld ag ao rfl ?_
 refine Q8 af ?_
 refine Z2 ?_
 refine Q7 (fun hc=>?_) (fun hc=>?_)
 ·have f:n<c.methods.length:=by simpa using hc
  have u:(ok&&(List.range (n+1)).all fun i=>Mg c i&&(List.range i).all (Xk c i))=((ok&&(List.range n).all fun i=>Mg c i&&(List.range i).all (Xk c i))&&(Mg c n&&(List.range n).all (Xk c n))):=by rw[Lg,Bool.and_assoc]
  have hP:Mg c n=(I2 c.methods[n]&&(!c.methods[n].abs||c.abs)&&(!c.iface||c.methods[n].abs)):=by unfold Mg Ht;rw[S3 f]
  obtain ⟨pv,cv,hv,p1,r1⟩:=af.elM f
  generalize (ok&&(List.range n).all fun i=>Mg c i&&(List.range i).all (Xk c i))=am at u⊢
  clear h hc
  have step: ∀b,b=(am&&Mg c n)→(am&&(Mg c n&&(List.range n).all (Xk c n)))=(b&&(List.range n).all (Xk c n)):=fun b e=>by rw[e,Bool.and_assoc]
  (repeat refine Hd.h ?_)
  refine ld ag ao rfl ?_
  refine Y3 af f ?_
  refine Y4 ag p1 rfl ?_
  refine Y9 ag (by rfl) rfl (Rep.one r1) fun q9 w3 σ3 aa ak=>?_
  have an:=aa.sat
  have bo:=ao.up aa
  have a3:=af.up aa
  have r3:=RMe_lift r1 ⟨aa.le⟩
  have aj:=V.trans aa
  cases am with
  | false=>
   (repeat refine Hd.h ?_)
   refine Sf an bo a3 f ak fun w4 U l=>?_
   exact Z9 o f ⟨U,aj.trans l,by rw[u];rfl⟩
  | true=>
   (repeat refine Hd.h ?_)
   refine Y4 an ak rfl ?_
   (repeat refine Hd.h ?_)
   refine Q7w an r3 fun w5 σ5 X=>?_
   have m:=X.sat
   have t:=bo.up X
   have g:=ak.up X
   have R:=a3.up X
   have p:=aj.trans X
   cases d1:I2 c.methods[n] with
   | false=>
    (repeat refine Hd.h ?_)
    refine Sf m t R f g fun w4 U l=>?_
    exact Z9 o f ⟨U,p.trans l,by rw[u,step false (by rw[hP,d1];rfl)]⟩
   | true=>
    (repeat refine Hd.h ?_)
    refine ld m g rfl ?_
    (repeat refine Hd.h ?_)
    have j: ∀b1:Bool,b1=(!c.methods[n].abs||c.abs)→Mg c n=(b1&&(!c.iface||c.methods[n].abs)):=fun b1 e=>by rw[hP,d1,e];rfl
    cases d2:c.methods[n].abs with
    | false=>
     rw[d2] at j g
     simp only[Bool.not_true,Bool.not_false]
     (repeat refine Hd.h ?_)
     refine ld m t rfl ?_
     (repeat refine Hd.h ?_)
     cases d4:c.iface with
     | false=>
      simp only[Bool.not_true,Bool.not_false]
      (repeat refine Hd.h ?_)
      refine Sf m t R f (by rw[d2];exact g) fun w4 U l=>?_
      exact Z9 o f ⟨U,p.trans l,by rw[u,step true (by rw[j true rfl,d4];rfl)]⟩
     | true=>
      simp only[Bool.not_true,Bool.not_false]
      (repeat refine Hd.h ?_)
      refine ld m g rfl ?_
      (repeat refine Hd.h ?_)
      refine Sf m t R f (by rw[d2];exact g) fun w4 U l=>?_
      exact Z9 o f ⟨U,p.trans l,by rw[u,step false (by rw[j true rfl,d4];rfl)]⟩
    | true=>
     rw[d2] at j g
     simp only[Bool.not_true,Bool.not_false]
     (repeat refine Hd.h ?_)
     refine ld m t rfl ?_
     cases d3:c.abs with
     | false=>
      (repeat refine Hd.h ?_)
      refine Sf m t R f (by rw[d2];exact g) fun w4 U l=>?_
      exact Z9 o f ⟨U,p.trans l,by rw[u,step false (by rw[j false (by rw[d3];rfl)];rfl)]⟩
     | true=>
      (repeat refine Hd.h ?_)
      refine ld m t rfl ?_
      (repeat refine Hd.h ?_)
      cases d4:c.iface with
      | false=>
       simp only[Bool.not_true,Bool.not_false]
       (repeat refine Hd.h ?_)
       refine Sf m t R f (by rw[d2];exact g) fun w4 U l=>?_
       exact Z9 o f ⟨U,p.trans l,by rw[u,step true (by rw[j true (by rw[d3];rfl),d4];rfl)]⟩
      | true=>
       simp only[Bool.not_true,Bool.not_false]
       (repeat refine Hd.h ?_)
       refine ld m g rfl ?_
       (repeat refine Hd.h ?_)
       refine Sf m t R f (by rw[d2];exact g) fun w4 U l=>?_
       exact Z9 o f ⟨U,p.trans l,by rw[u,step true (by rw[j true (by rw[d3];rfl),d4];rfl)]⟩
 ·have f: ¬n<c.methods.length:=by simpa using hc
  obtain rfl:n=c.methods.length:=by omega
  exact h _ _ V
theorem X20 {c:Cla} {M L mv:Value} {w1:World} {σ1:Q5} {q:Addr} {ok:Bool} (d:X2 w1 σ1) (g:Z4 σ1 q [S c.name,S c.super,M, .bool c.iface, .bool c.abs, .bool c.fin,L,mv]) (h:K (.bool (ok&&Q7K c)) w1):
 Q0 (Value.bool ok) true w1 (fieldAddr P T.b (.pointer (some q)) 3) fun k w=>
  Q0 (Value.bool ok) true w (Q2 P T.u k) fun r w=>
  Q0 (Value.bool ok) true w (J7 P .not r) fun j w=>
  Q0 (Value.bool ok) true w (fun w J=>J j w) fun b w=>
  Q0 b false w (fieldAddr P T.b (.pointer (some q)) 4) fun t w=>
  Q0 b false w (Q2 P T.u t) fun B w=>
  Q0 b false w (fun w J=>J B w) fun e w=>
  Q0 e true w (fieldAddr P T.b (.pointer (some q)) 1) fun v w=>
  Q0 e true w (Q2 P T.c v) fun n w=>
  Q0 e true w (Q3 P .eql T.c (.tmp 185) (.const (.string ⟨#[79,98,106,101,99,116]⟩)) n (.string ⟨#[79,98,106,101,99,116]⟩)) fun s w=>
  Q0 b false w (pick P e s (.bool false)) fun C w=>
  Q0 (Value.bool ok) true w (pick P b (.bool true) C) fun o w=>
  pick P (Value.bool ok) o (.bool false) w fun a w=>
  Q0 a true w (fieldAddr P T.b (.pointer (some q)) 4) fun m w=>
  Q0 a true w (Q2 P T.u m) fun p w=>
  Q0 a true w (fun w J=>J p w) fun f w=>
  Q0 f true w (fieldAddr P T.b (.pointer (some q)) 5) fun l w=>
  Q0 f true w (Q2 P T.u l) fun y w=>
  Q0 a true w (pick P f y (.bool false)) fun u w=>
  Q0 a true w (J7 P .not u) fun A w=>
  pick P a A (.bool false) w fun z w=>
  K z w:=by
 unfold Q7K at h
 have H:decide (c.super=J9)=decide (c.super=[79,98,106,101,99,116]):=rfl
 rw[H] at h
 cases ok with
 | false=>(try simp only[↓M1,M1,Mb,reduceIte]);simpa using h
 | true=>
  (try simp only[↓M1,M1,Mb,reduceIte])
  refine ld d g rfl ?_
  (try simp only[↓M1,M1,Mb,reduceIte])
  cases E:c.iface with
  | false=>
   rw[E] at h
   (try simp only[↓M1,M1,Mb,reduceIte])
   refine ld d g rfl ?_
   cases i:c.abs with
   | false=>rw[i] at h;(try simp only[↓M1,M1,Mb,reduceIte]);simpa using h
   | true=>
    rw[i] at h
    (try simp only[↓M1,M1,Mb,reduceIte])
    refine ld d g rfl ?_
    (try simp only[↓M1,M1,Mb,reduceIte])
    simpa using h
  | true=>
   rw[E] at h
   (try simp only[↓M1,M1,Mb,reduceIte])
   refine ld d g rfl ?_
   cases i:c.abs with
   | false=>rw[i] at h;(try simp only[↓M1,M1,Mb,reduceIte]);simpa using h
   | true=>
    rw[i] at h
    (try simp only[↓M1,M1,Mb,reduceIte])
    refine ld d g rfl ?_
    (try simp only[↓M1,M1,Mb,reduceIte])
    cases D:decide (c.super=[79,98,106,101,99,116]) with
    | false=>rw[D] at h;(try simp only[↓M1,M1,Mb,reduceIte]);simpa using h
    | true=>
     rw[D] at h
     (try simp only[↓M1,M1,Mb,reduceIte])
     refine ld d g rfl ?_
     simp only[i,↓M1,M1,Mb,reduceIte]
     refine ld d g rfl ?_
     (try simp only[↓M1,M1,Mb,reduceIte])
     simpa using h
end Go.Proofs.YtjdiakhipmggjaaGreatDoor

namespace Go.Proofs.YtjdiakhipmggjaaGreatDoor
open Go.Emb Go.RowKit Go.Kd Go.Hm
variable {w : World} {K : Value → World → Prop} {σ : Q5}
def Q5U (c:Cla):Bool:=((((M6 c.name&&M6 c.super&& !decide (c.name=c.super))&&(List.range c.like.length).all fun i=>Lo c i&&(List.range i).all (A0 c i))&&(List.range c.fields.length).all fun i=>Dn c i&&(List.range i).all (Xn c i))&&(List.range c.methods.length).all fun i=>Mg c i&&(List.range i).all (Xk c i))&&Q7K c
theorem Q9U {α:Type} {f:α→X0}: ∀(xs a:List α),C1 f a xs=true↔(xs.map f).Nodup∧ ∀x∈xs,∀y∈a,f y≠f x:=by
 intro xs
 induction xs with
 | nil=>intro a;simp[C1]
 | cons x r h=>
  intro a
  simp only[C1,Bool.and_eq_true,h,Bool.not_eq_true',List.map_cons,List.nodup_cons]
  rw[←Bool.not_eq_true,List.any_eq_true]
  simp only[decide_eq_true_eq,not_exists,not_and,List.mem_append,List.mem_cons,List.not_mem_nil,or_false,List.mem_map]
  constructor
  ·rintro ⟨d,g,c⟩
   refine ⟨⟨fun y hy e=>c y hy x (.inr rfl) e.symm,g⟩,fun y hy z b=>?_⟩
   rcases hy with rfl | hy
   ·exact d z b
   ·exact c y hy z (.inl b)
  ·rintro ⟨⟨d,g⟩,c⟩
   refine ⟨fun y hy=>c x (.inl rfl) y hy,g,fun y hy z b=>?_⟩
   rcases b with b | rfl
   ·exact c y (.inr hy) z b
   ·exact fun e=>d y hy e.symm
theorem Q0D {α:Type} {f:α→X0} {xs:List α} {p:α→Bool} {P:Nat→Bool} {Q:Nat→Nat→Bool} (e: ∀i (h:i<xs.length),P i=p xs[i]) (d: ∀i (h:i<xs.length) k (o:k<xs.length),Q i k= !decide (f xs[k]=f xs[i])):
 ((List.range xs.length).all fun i=>P i&&(List.range i).all (Q i))=true↔(∀x∈xs,p x=true)∧C1 f [] xs=true:=by
 rw[Q9U,List.all_eq_true]
 simp only[List.mem_range,Bool.and_eq_true,List.all_eq_true,List.not_mem_nil,false_implies,implies_true,and_true]
 rw[List.nodup_iff_pairwise_ne,List.pairwise_iff_getElem]
 simp only[List.length_map,List.getElem_map]
 constructor
 ·intro h
  refine ⟨fun x n=>?_,fun i j a c b=>?_⟩
  ·obtain ⟨i,a,rfl⟩:=List.getElem_of_mem n
   rw[←e i a];exact (h i a).1
  ·have:=(h j c).2 i b
   rw[d j c i a] at this
   simpa using this
 ·rintro ⟨m,g⟩ i a
  refine ⟨by rw[e i a];exact m _ (List.getElem_mem a),fun k l=>?_⟩
  rw[d i a k (by omega)]
  simpa using g k i (by omega) a l
theorem X08 (c:Cla):Q5U c=Ng c:=by
 have A:=Q0D (f:=id) (xs:=c.like) (p:=fun y=>M6 y&& !decide (y=c.name)) (P:=Lo c) (Q:=A0 c) (fun i h=>by unfold Lo;rw[S3 h]) (fun i h k n=>by unfold A0;rw[S3 h,S3 n];rfl)
 have g:=Q0D (f:=Fld.name) (xs:=c.fields) (p:=fun f=>D1 f.name&&right f.kind&& !c.iface) (P:=Dn c) (Q:=Xn c) (fun i h=>by unfold Dn Bc;rw[S3 h]) (fun i h k n=>by unfold Xn Bc;rw[S3 h,S3 n])
 have d:=Q0D (f:=Hm.Met.name) (xs:=c.methods) (p:=fun m=>I2 m&&(!m.abs||c.abs)&&(!c.iface||m.abs)) (P:=Mg c) (Q:=Xk c) (fun i h=>by unfold Mg Ht;rw[S3 h]) (fun i h k n=>by unfold Xk Ht;rw[S3 h,S3 n])
 rw[Bool.eq_iff_iff]
 unfold Q5U Ng Q7K
 simp only[Bool.and_eq_true,A,g,d]
 simp only[Bool.and_eq_true,Bool.not_eq_true',Bool.or_eq_true,Bool.and_eq_false_iff,Bool.or_eq_false_iff,decide_eq_true_eq,decide_eq_false_iff_not,List.all_eq_true,List.mem_cons,List.any_eq_false,Ep,Bool.not_eq_false']
 constructor
 ·rintro ⟨⟨⟨⟨⟨⟨l,o⟩,r⟩,a,s⟩,h6,t⟩,j,q⟩,b,u⟩
  refine ⟨⟨⟨⟨⟨⟨⟨⟨?_,?_⟩,s⟩,?_⟩,u,?_⟩,t⟩,q⟩,?_⟩,fun m d=>(j m d).1.1⟩
  ·rintro x (rfl | rfl | hx)
   ·exact l
   ·exact o
   ·exact (a x hx).1
  ·rintro x (rfl | hx)
   ·exact r
   ·exact fun e=>(a x hx).2 e.symm
  ·cases z:c.iface with
   | false=>exact .inl rfl
   | true=>
    rw[z] at b h6 j
    have b:=b.resolve_left (by decide)
    refine .inr ⟨⟨b,?_⟩,fun m d e=>?_⟩
    ·rw[List.eq_nil_iff_forall_not_mem]
     intro f g
     exact absurd (h6 f g).2 (by decide)
    ·have:=(j m d).2.resolve_left (by decide)
     rw[this] at e;cases e
  ·cases v:c.abs with
   | true=>exact .inr rfl
   | false=>
    rw[v] at j
    refine .inl fun m d e=>?_
    have:=(j m d).1.2.resolve_right (by decide)
    rw[this] at e;cases e
  ·exact fun f g=>(h6 f g).1
 ·rintro ⟨⟨⟨⟨⟨⟨⟨⟨l,o⟩,r⟩,a⟩,s,h6⟩,t⟩,j⟩,q⟩,b⟩
  refine ⟨⟨⟨⟨⟨⟨l _ (.inl rfl),l _ (.inr (.inl rfl))⟩,o _ (.inl rfl)⟩,fun x hx=>⟨l x (.inr (.inr hx)),fun e=>o x (.inr hx) e.symm⟩,r⟩,fun f g=>⟨q f g,?_⟩,t⟩,fun m d=>⟨⟨b m d,?_⟩,?_⟩,j⟩,?_,s⟩
  ·rcases a with a | ⟨⟨_,a⟩,_⟩
   ·exact a
   ·rw[a] at g;simp at g
  ·rcases h6 with h6 | h6
   ·left;exact eq_false_of_ne_true (h6 m d)
   ·exact .inr h6
  ·rcases a with a | ⟨_,a⟩
   ·exact .inl a
   ·right
    cases hx:m.abs with
    | true=>rfl
    | false=>exact absurd hx (a m d)
  ·rcases a with a | ⟨⟨a,_⟩,_⟩
   ·exact .inl a
   ·exact .inr a
set_option maxHeartbeats 4000000 in
theorem Q9K {c:Cla} {cs:List Value} (hs:X2 w σ) (hc:V0 σ c cs) (h: ∀w' σ',Stp w σ w' σ'→K (.bool (Q5U c)) w'):Q1 P F.bq [.agg cs.toArray] w K:=Pr (by
 unfold Mi
 obtain ⟨lv,fv,mv,rfl,f1,f2,f3,f4,f5⟩:=hc
 have dc:c.name.length≤140737488355328:=by simp only[U0] at f4;omega
 have c4:c.super.length≤140737488355328:=by simp only[U0] at f5;omega
 refine Z0 hs fun q w1 σ1 b9 hq=>?_
 have g1:=f1.up b9
 have g2:=f2.up b9
 have g3:=f3.up b9
 have b4:=b9.sat
 have ch: ∀ok:Bool,ok=(M6 c.name&&M6 c.super&& !decide (c.name=c.super))→_:=fun ok e=>
  X05 (w1:=w1) (σ1:=σ1) (ok:=ok) b4 hq (J:=fun v w=>lp (α:=Value×Value) (v,(.int .i64 0)) w fun bf o d_ w=>
   fieldAddr P T.b (.pointer (some q)) 6 w fun c3 w=>
   Q2 P T.k c3 w fun c7 w=>
   X3 P .len [T.k] T.e [false] [c7] w fun ct w=>
   Q3 P .lss T.e (.tmp 71) (.tmp 74) o.2 ct w fun cq w=>
   X1 cq (
    Q0 o.1 true w (fieldAddr P T.b (.pointer (some q)) 6) fun da w=>
    Q0 o.1 true w (Q2 P T.k da) fun c0 w=>
    Q0 o.1 true w (fun w J=>J o.2 w) fun c1 w=>
    Q0 o.1 true w (indexAddr P T.k c0 c1) fun c8 w=>
    Q0 o.1 true w (fieldAddr P T.n c8 0) fun cz w=>
    Q0 o.1 true w (Q2 P T.c cz) fun cu w=>
    Q0 o.1 true w (Q1 P F.u [cu]) fun cx w=>
    pick P o.1 cx (.bool false) w fun ai w=>
    Q0 ai true w (fieldAddr P T.b (.pointer (some q)) 6) fun c6 w=>
    Q0 ai true w (Q2 P T.k c6) fun dd w=>
    Q0 ai true w (fun w J=>J o.2 w) fun c9 w=>
    Q0 ai true w (indexAddr P T.k dd c9) fun cr w=>
    Q0 ai true w (fieldAddr P T.n cr 1) fun c5 w=>
    Q0 ai true w (Q2 P T.c c5) fun c2 w=>
    Q0 ai true w (Q1 P F.e [c2]) fun de w=>
    pick P ai de (.bool false) w fun cd w=>
    Q0 cd true w (fieldAddr P T.b (.pointer (some q)) 3) fun cw w=>
    Q0 cd true w (Q2 P T.u cw) fun cy w=>
    Q0 cd true w (J7 P .not cy) fun cl w=>
    pick P cd cl (.bool false) w fun cn w=>
    lp (α:=Value×Value) (cn,(.int .i64 0)) w fun bw l d_ w=>
     Q3 P .lss T.e (.tmp 102) (.tmp 103) l.2 o.2 w fun co w=>
     X1 co (
      dr w fun d n=>
      Q6 d (fun a4=> ∀w:World,n w→Q0 l.1 true w (fieldAddr P T.b (.pointer (some q)) 6) (dk d a4 w)) fun a4=>
      Q6 d (fun a9=> ∀w:World,n w→Q0 l.1 true w (fun w J=>J l.2 w) (dk d a9 w)) fun a9=>
      Q6 d (fun ap=> ∀w:World,n w→Q0 l.1 true w (fieldAddr P T.b (.pointer (some q)) 6) (dk d ap w)) fun ap=>
      Q6 d (fun ax=> ∀w:World,n w→Q0 l.1 true w (fun w J=>J o.2 w) (dk d ax w)) fun ax=>
      Q6 d (fun aw=> ∀ay:Value,∀w:World,n w→a4 ay w→Q0 l.1 true w (Q2 P T.k ay) (dk d aw w)) fun aw=>
      Q6 d (fun av=> ∀a2:Value,∀aq:Value,∀w:World,n w→aw a2 w→a9 aq w→Q0 l.1 true w (indexAddr P T.k a2 aq) (dk d av w)) fun av=>
      Q6 d (fun a6=> ∀a5:Value,∀w:World,n w→av a5 w→Q0 l.1 true w (fieldAddr P T.n a5 0) (dk d a6 w)) fun a6=>
      Q6 d (fun cb=> ∀a7:Value,∀w:World,n w→a6 a7 w→Q0 l.1 true w (Q2 P T.c a7) (dk d cb w)) fun cb=>
      Q6 d (fun a8=> ∀a1:Value,∀w:World,n w→ap a1 w→Q0 l.1 true w (Q2 P T.k a1) (dk d a8 w)) fun a8=>
      Q6 d (fun ao=> ∀az:Value,∀ba:Value,∀w:World,n w→a8 az w→ax ba w→Q0 l.1 true w (indexAddr P T.k az ba) (dk d ao w)) fun ao=>
      Q6 d (fun ar=> ∀a3:Value,∀w:World,n w→ao a3 w→Q0 l.1 true w (fieldAddr P T.n a3 0) (dk d ar w)) fun ar=>
      Q6 d (fun b6=> ∀a0:Value,∀w:World,n w→ar a0 w→Q0 l.1 true w (Q2 P T.c a0) (dk d b6 w)) fun b6=>
      ∀ay:Value,∀aq:Value,∀a1:Value,∀ba:Value,∀a2:Value,∀a5:Value,∀a7:Value,∀cg:Value,∀az:Value,∀a3:Value,∀a0:Value,∀ce:Value,∀w:World,n w→a4 ay w→a9 aq w→ap a1 w→ax ba w→aw a2 w→av a5 w→a6 a7 w→cb cg w→a8 az w→ao a3 w→ar a0 w→b6 ce w→
      Q0 l.1 true w (Q3 P .neq T.c (.tmp 114) (.tmp 120) cg ce) fun cm w=>
      pick P l.1 cm (.bool false) w fun cj w=>
      Q3 P .add T.e (.tmp 105) (.const (.int .i64 1)) l.2 (.int .i64 1) w fun cp w=>
      bw (cj,cp) w) (
      Q3 P .add T.e (.tmp 76) (.const (.int .i64 1)) o.2 (.int .i64 1) w fun db w=>
      bf (l.1,db) w)) (
    lp (α:=Value×Value) (o.1,(.int .i64 0)) w fun M f d_ w=>
     fieldAddr P T.b (.pointer (some q)) 7 w fun br w=>
     Q2 P T.j br w fun bg w=>
     X3 P .len [T.j] T.e [false] [bg] w fun b0 w=>
     Q3 P .lss T.e (.tmp 123) (.tmp 126) f.2 b0 w fun bz w=>
     X1 bz (
      fieldAddr P T.b (.pointer (some q)) 7 w fun b3 w=>
      Q2 P T.j b3 w fun cc w=>
      indexAddr P T.j cc f.2 w fun bl w=>
      Q2 P T.d bl w fun be w=>
      W0 P T.d w fun t9 w=>
      Y0 P T.d t9 be w fun _u w=>
      Q0 f.1 true w (Q2 P T.d t9) fun bk w=>
      Q0 f.1 true w (Q1 P F.a5 [bk]) fun bv w=>
      pick P f.1 bv (.bool false) w fun k w=>
      Q0 k true w (fieldAddr P T.d t9 3) fun bx w=>
      Q0 k true w (Q2 P T.u bx) fun bi w=>
      Q0 k true w (J7 P .not bi) fun bm w=>
      Q0 k true w (fun w J=>J bm w) fun Q w=>
      Q0 Q false w (fieldAddr P T.b (.pointer (some q)) 4) fun b1 w=>
      Q0 Q false w (Q2 P T.u b1) fun bb w=>
      Q0 k true w (pick P Q (.bool true) bb) fun bd w=>
      pick P k bd (.bool false) w fun j w=>
      Q0 j true w (fieldAddr P T.b (.pointer (some q)) 3) fun b2 w=>
      Q0 j true w (Q2 P T.u b2) fun b8 w=>
      Q0 j true w (J7 P .not b8) fun ca w=>
      Q0 j true w (fun w J=>J ca w) fun L w=>
      Q0 L false w (fieldAddr P T.d t9 3) fun bs w=>
      Q0 L false w (Q2 P T.u bs) fun b5 w=>
      Q0 j true w (pick P L (.bool true) b5) fun bo w=>
      pick P j bo (.bool false) w fun bn w=>
      lp (α:=Value×Value) (bn,(.int .i64 0)) w fun O b d_ w=>
       Q3 P .lss T.e (.tmp 158) (.tmp 159) b.2 f.2 w fun bq w=>
       X1 bq (
        dr w fun d n=>
        Q6 d (fun y=> ∀w:World,n w→Q0 b.1 true w (fieldAddr P T.b (.pointer (some q)) 7) (dk d y w)) fun y=>
        Q6 d (fun D=> ∀w:World,n w→Q0 b.1 true w (fun w J=>J b.2 w) (dk d D w)) fun D=>
        Q6 d (fun t=> ∀w:World,n w→Q0 b.1 true w (fieldAddr P T.d t9 0) (dk d t w)) fun t=>
        Q6 d (fun z=> ∀s:Value,∀w:World,n w→y s w→Q0 b.1 true w (Q2 P T.j s) (dk d z w)) fun z=>
        Q6 d (fun B=> ∀u:Value,∀p:Value,∀w:World,n w→z u w→D p w→Q0 b.1 true w (indexAddr P T.j u p) (dk d B w)) fun B=>
        Q6 d (fun C=> ∀r:Value,∀w:World,n w→B r w→Q0 b.1 true w (fieldAddr P T.d r 0) (dk d C w)) fun C=>
        Q6 d (fun H=> ∀E:Value,∀w:World,n w→C E w→Q0 b.1 true w (Q2 P T.c E) (dk d H w)) fun H=>
        Q6 d (fun N=> ∀A:Value,∀w:World,n w→t A w→Q0 b.1 true w (Q2 P T.c A) (dk d N w)) fun N=>
        ∀s:Value,∀p:Value,∀A:Value,∀u:Value,∀r:Value,∀E:Value,∀aa:Value,∀ab:Value,∀w:World,n w→y s w→D p w→t A w→z u w→B r w→C E w→H aa w→N ab w→
        Q0 b.1 true w (Q3 P .neq T.c (.tmp 170) (.tmp 172) aa ab) fun bc w=>
        pick P b.1 bc (.bool false) w fun bj w=>
        Q3 P .add T.e (.tmp 161) (.const (.int .i64 1)) b.2 (.int .i64 1) w fun bp w=>
        O (bj,bp) w) (
        Q3 P .add T.e (.tmp 128) (.const (.int .i64 1)) f.2 (.int .i64 1) w fun bh w=>
        M (b.1,bh) w)) (
      Q0 f.1 true w (fieldAddr P T.b (.pointer (some q)) 3) fun ad w=>
      Q0 f.1 true w (Q2 P T.u ad) fun V w=>
      Q0 f.1 true w (J7 P .not V) fun aj w=>
      Q0 f.1 true w (fun w J=>J aj w) fun g w=>
      Q0 g false w (fieldAddr P T.b (.pointer (some q)) 4) fun ak w=>
      Q0 g false w (Q2 P T.u ak) fun ac w=>
      Q0 g false w (fun w J=>J ac w) fun i w=>
      Q0 i true w (fieldAddr P T.b (.pointer (some q)) 1) fun am w=>
      Q0 i true w (Q2 P T.c am) fun R w=>
      Q0 i true w (Q3 P .eql T.c (.tmp 185) (.const (.string ⟨#[79,98,106,101,99,116]⟩)) R (.string ⟨#[79,98,106,101,99,116]⟩)) fun Y w=>
      Q0 g false w (pick P i Y (.bool false)) fun W w=>
      Q0 f.1 true w (pick P g (.bool true) W) fun af w=>
      pick P f.1 af (.bool false) w fun a w=>
      Q0 a true w (fieldAddr P T.b (.pointer (some q)) 4) fun X w=>
      Q0 a true w (Q2 P T.u X) fun U w=>
      Q0 a true w (fun w J=>J U w) fun m w=>
      Q0 m true w (fieldAddr P T.b (.pointer (some q)) 5) fun ae w=>
      Q0 m true w (Q2 P T.u ae) fun Z w=>
      Q0 a true w (pick P m Z (.bool false)) fun al w=>
      Q0 a true w (J7 P .not al) fun ah w=>
      pick P a ah (.bool false) w fun ag w=>
      K ag w))) f4 g1 fun w2 σ2 an=>
  X19 (J:=fun v w=>lp (α:=Value×Value) (v,(.int .i64 0)) w fun M f d_ w=>
   fieldAddr P T.b (.pointer (some q)) 7 w fun br w=>
   Q2 P T.j br w fun bg w=>
   X3 P .len [T.j] T.e [false] [bg] w fun b0 w=>
   Q3 P .lss T.e (.tmp 123) (.tmp 126) f.2 b0 w fun bz w=>
   X1 bz (
    fieldAddr P T.b (.pointer (some q)) 7 w fun b3 w=>
    Q2 P T.j b3 w fun cc w=>
    indexAddr P T.j cc f.2 w fun bl w=>
    Q2 P T.d bl w fun be w=>
    W0 P T.d w fun t9 w=>
    Y0 P T.d t9 be w fun _u w=>
    Q0 f.1 true w (Q2 P T.d t9) fun bk w=>
    Q0 f.1 true w (Q1 P F.a5 [bk]) fun bv w=>
    pick P f.1 bv (.bool false) w fun k w=>
    Q0 k true w (fieldAddr P T.d t9 3) fun bx w=>
    Q0 k true w (Q2 P T.u bx) fun bi w=>
    Q0 k true w (J7 P .not bi) fun bm w=>
    Q0 k true w (fun w J=>J bm w) fun Q w=>
    Q0 Q false w (fieldAddr P T.b (.pointer (some q)) 4) fun b1 w=>
    Q0 Q false w (Q2 P T.u b1) fun bb w=>
    Q0 k true w (pick P Q (.bool true) bb) fun bd w=>
    pick P k bd (.bool false) w fun j w=>
    Q0 j true w (fieldAddr P T.b (.pointer (some q)) 3) fun b2 w=>
    Q0 j true w (Q2 P T.u b2) fun b8 w=>
    Q0 j true w (J7 P .not b8) fun ca w=>
    Q0 j true w (fun w J=>J ca w) fun L w=>
    Q0 L false w (fieldAddr P T.d t9 3) fun bs w=>
    Q0 L false w (Q2 P T.u bs) fun b5 w=>
    Q0 j true w (pick P L (.bool true) b5) fun bo w=>
    pick P j bo (.bool false) w fun bn w=>
    lp (α:=Value×Value) (bn,(.int .i64 0)) w fun O b d_ w=>
     Q3 P .lss T.e (.tmp 158) (.tmp 159) b.2 f.2 w fun bq w=>
     X1 bq (
      dr w fun d n=>
      Q6 d (fun y=> ∀w:World,n w→Q0 b.1 true w (fieldAddr P T.b (.pointer (some q)) 7) (dk d y w)) fun y=>
      Q6 d (fun D=> ∀w:World,n w→Q0 b.1 true w (fun w J=>J b.2 w) (dk d D w)) fun D=>
      Q6 d (fun t=> ∀w:World,n w→Q0 b.1 true w (fieldAddr P T.d t9 0) (dk d t w)) fun t=>
      Q6 d (fun z=> ∀s:Value,∀w:World,n w→y s w→Q0 b.1 true w (Q2 P T.j s) (dk d z w)) fun z=>
      Q6 d (fun B=> ∀u:Value,∀p:Value,∀w:World,n w→z u w→D p w→Q0 b.1 true w (indexAddr P T.j u p) (dk d B w)) fun B=>
      Q6 d (fun C=> ∀r:Value,∀w:World,n w→B r w→Q0 b.1 true w (fieldAddr P T.d r 0) (dk d C w)) fun C=>
      Q6 d (fun H=> ∀E:Value,∀w:World,n w→C E w→Q0 b.1 true w (Q2 P T.c E) (dk d H w)) fun H=>
      Q6 d (fun N=> ∀A:Value,∀w:World,n w→t A w→Q0 b.1 true w (Q2 P T.c A) (dk d N w)) fun N=>
      ∀s:Value,∀p:Value,∀A:Value,∀u:Value,∀r:Value,∀E:Value,∀aa:Value,∀ab:Value,∀w:World,n w→y s w→D p w→t A w→z u w→B r w→C E w→H aa w→N ab w→
      Q0 b.1 true w (Q3 P .neq T.c (.tmp 170) (.tmp 172) aa ab) fun bc w=>
      pick P b.1 bc (.bool false) w fun bj w=>
      Q3 P .add T.e (.tmp 161) (.const (.int .i64 1)) b.2 (.int .i64 1) w fun bp w=>
      O (bj,bp) w) (
      Q3 P .add T.e (.tmp 128) (.const (.int .i64 1)) f.2 (.int .i64 1) w fun bh w=>
      M (b.1,bh) w)) (
    Q0 f.1 true w (fieldAddr P T.b (.pointer (some q)) 3) fun ad w=>
    Q0 f.1 true w (Q2 P T.u ad) fun V w=>
    Q0 f.1 true w (J7 P .not V) fun aj w=>
    Q0 f.1 true w (fun w J=>J aj w) fun g w=>
    Q0 g false w (fieldAddr P T.b (.pointer (some q)) 4) fun ak w=>
    Q0 g false w (Q2 P T.u ak) fun ac w=>
    Q0 g false w (fun w J=>J ac w) fun i w=>
    Q0 i true w (fieldAddr P T.b (.pointer (some q)) 1) fun am w=>
    Q0 i true w (Q2 P T.c am) fun R w=>
    Q0 i true w (Q3 P .eql T.c (.tmp 185) (.const (.string ⟨#[79,98,106,101,99,116]⟩)) R (.string ⟨#[79,98,106,101,99,116]⟩)) fun Y w=>
    Q0 g false w (pick P i Y (.bool false)) fun W w=>
    Q0 f.1 true w (pick P g (.bool true) W) fun af w=>
    pick P f.1 af (.bool false) w fun a w=>
    Q0 a true w (fieldAddr P T.b (.pointer (some q)) 4) fun X w=>
    Q0 a true w (Q2 P T.u X) fun U w=>
    Q0 a true w (fun w J=>J U w) fun m w=>
    Q0 m true w (fieldAddr P T.b (.pointer (some q)) 5) fun ae w=>
    Q0 m true w (Q2 P T.u ae) fun Z w=>
    Q0 a true w (pick P m Z (.bool false)) fun al w=>
    Q0 a true w (J7 P .not al) fun ah w=>
    pick P a ah (.bool false) w fun ag w=>
    K ag w)) an.sat (hq.up an) (g2.up an) fun w3 σ3 bu=>
  X25 (J:=fun v w=>Q0 v true w (fieldAddr P T.b (.pointer (some q)) 3) fun ad w=>
   Q0 v true w (Q2 P T.u ad) fun V w=>
   Q0 v true w (J7 P .not V) fun aj w=>
   Q0 v true w (fun w J=>J aj w) fun g w=>
   Q0 g false w (fieldAddr P T.b (.pointer (some q)) 4) fun ak w=>
   Q0 g false w (Q2 P T.u ak) fun ac w=>
   Q0 g false w (fun w J=>J ac w) fun i w=>
   Q0 i true w (fieldAddr P T.b (.pointer (some q)) 1) fun am w=>
   Q0 i true w (Q2 P T.c am) fun R w=>
   Q0 i true w (Q3 P .eql T.c (.tmp 185) (.const (.string ⟨#[79,98,106,101,99,116]⟩)) R (.string ⟨#[79,98,106,101,99,116]⟩)) fun Y w=>
   Q0 g false w (pick P i Y (.bool false)) fun W w=>
   Q0 v true w (pick P g (.bool true) W) fun af w=>
   pick P v af (.bool false) w fun a w=>
   Q0 a true w (fieldAddr P T.b (.pointer (some q)) 4) fun X w=>
   Q0 a true w (Q2 P T.u X) fun U w=>
   Q0 a true w (fun w J=>J U w) fun m w=>
   Q0 m true w (fieldAddr P T.b (.pointer (some q)) 5) fun ae w=>
   Q0 m true w (Q2 P T.u ae) fun Z w=>
   Q0 a true w (pick P m Z (.bool false)) fun al w=>
   Q0 a true w (J7 P .not al) fun ah w=>
   pick P a ah (.bool false) w fun ag w=>
   K ag w) bu.sat ((hq.up an).up bu) ((g3.up an).up bu) fun w4 σ4 ci=>
  X20 (K:=K) ci.sat (((hq.up an).up bu).up ci) (by rw[e];exact h _ _ (b9.trans (an.trans (bu.trans ci))))
 (repeat refine Hd.h ?_)
 refine ld b4 hq rfl ?_
 refine Ya c.name dc ?_
 cases d1:M6 c.name with
 | false=>(repeat refine Hd.h ?_);exact ch false (by rw[d1];rfl)
 | true=>
  (repeat refine Hd.h ?_)
  refine ld b4 hq rfl ?_
  (repeat refine Hd.h ?_)
  refine Ya c.super c4 ?_
  cases d2:M6 c.super with
  | false=>(repeat refine Hd.h ?_);exact ch false (by rw[d1,d2];rfl)
  | true=>
   (repeat refine Hd.h ?_)
   refine ld b4 hq rfl ?_
   (repeat refine Hd.h ?_)
   refine ld b4 hq rfl ?_
   (repeat refine Hd.h ?_)
   refine Vy ?_
   (repeat refine Hd.h ?_)
   exact ch _ (by rw[d1,d2];rfl))
theorem Q3y {c:Cla} {cs:List Value} (m:X2 w σ) (d:V0 σ c cs) (h: ∀w' t,Stp w σ w' t→K (I (D6 c)) w'):Q1 P F.bo [.agg cs.toArray] w K:=Iz (by
 unfold Mh
 have f:=Rep.one (R:=V0) d
 obtain ⟨s,n,mv,rfl,r,k,l,p,o⟩:=d
 have d:V0 σ c _:=⟨s,n,mv,rfl,r,k,l,p,o⟩
 refine Z0 m fun q w1 σ1 b i=>?_
 unfold D6 at h
 refine Y4 b.sat i rfl ?_
 refine X0s b.sat (RCl_lift d ⟨b.le⟩) fun v z a=>?_
 cases j:Zl c with
 | true=>simp only[j,if_true] at h;(try simp only[↓M1,M1,Mb,reduceIte]);exact h _ _ (b.trans a)
 | false=>
  simp only[j,Bool.false_eq_true,if_false] at h
  (try simp only[↓M1,M1,Mb,reduceIte])
  refine Y4 a.sat (i.up a) rfl ?_
  refine Q9K a.sat (RCl_lift d ⟨(b.trans a).le⟩) fun y u e=>?_
  rw[X08]
  cases g:Ng c with
  | true=>simp only[g,if_true] at h;(try simp only[↓M1,M1,Mb,reduceIte]);exact h _ _ (b.trans (a.trans e))
  | false=>simp only[g,Bool.false_eq_true,if_false] at h;(try simp only[↓M1,M1,Mb,reduceIte]);exact h _ _ (b.trans (a.trans e)))
end Go.Proofs.YtjdiakhipmggjaaGreatDoor

namespace Go.Hm
open Go.Kd
structure Alike (l m : List Cla) : Prop where
  lk : lk l = lk m
  len : l.length = m.length
  weigh : weigh l [] = weigh m []
section
variable {l m : List Cla} (h : Alike l m)
include h
end
theorem X1Q {l:List Cla} {frm:Nat}: ∀(f:Nat) (a:List Nat) (i:Nat),∀y∈T8 l frm f a i,y∈a∨frm≤y:=by
 intro f
 induction f with
 | zero=>intro a i y hy;exact .inl hy
 | succ f c=>
  intro a i y hy
  simp only[T8] at hy
  split at hy
  ·exact .inl hy
  ·split at hy
   ·exact .inl hy
   ·rename_i e _
    rcases List.mem_append.1 hy with hy | hy
    ·exact Wr (p:=fun y=>frm≤y) _ _ (fun b x _ z d=>c b _ z d) y hy
    ·simp at hy;omega
theorem X0j {a:List Cla} (f:T1 a): ∀j∈V7 a 8,8≤j∧j<a.length:=by
 intro j c
 unfold V7 at c
 have e:=Wr (p:=fun y=>8≤y) _ _ (fun b x _ z d=>X1Q _ b x z d) j c
 have g:=Wr (p:=fun y=>y<a.length) _ _ (fun b x i z d=>(Q56 f (by omega) _ b x (by
  have:=List.mem_of_mem_drop i
  simpa using this) z d).imp id (·.1)) j c
 exact ⟨e.resolve_left (by simp),g.resolve_left (by simp)⟩
end Go.Hm
namespace Go.Proofs.YtjdiakhipmggjaaGreatDoor
open Go.Emb Go.RowKit Go.Kd Go.Hm
end Go.Proofs.YtjdiakhipmggjaaGreatDoor
