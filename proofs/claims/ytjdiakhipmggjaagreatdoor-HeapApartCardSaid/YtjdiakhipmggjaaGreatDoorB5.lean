/- Parts of a proof about the given program: its functions as texts of their own, what each computes, plain laws of that. The conditions of each stand in its statement. -/
import Derived.Test.YtjdiakhipmggjaaGreatDoorB4
import Derived.Laws.OwnMore
import Derived.Laws.CopyRow
import Derived.Test.YtjdiakhipmggjaaGreatDoorB3
import Derived.Lib.TrimUEq
set_option linter.unnecessarySimpa false
set_option linter.defProp false
set_option linter.unusedSectionVars false
set_option linter.unusedVariables false
set_option linter.unusedSimpArgs false
namespace Go.Proofs.YtjdiakhipmggjaaGreatDoor
open Go.Emb Go.RowKit Go.Kd Go.Hm
variable {w w' : World} {K : Value → World → Prop} {σ σ' : Q6} {hp tv : Value} {room : Int} {cs : List Cel} {l : List Cla}
theorem Q92 (i:X3 w σ) (j:Glb σ) (hh:H9 σ hp tv room cs) (m:Tab σ tv l) (ok:Ok l) {v:Val} {k:X0} (p:v.s.length≤U1) (u:k.length≤U1) (h: ∀w' σ',Stp w σ w' σ'→K (.bool (B7 W6 l cs v k)) w'):Q1 P F.aB [hp, .agg [I v.sort,I v.n,S v.s,I v.ref].toArray,S k] w K:=Q0P (by
 unfold El
 refine Z1 i fun q w1 σ1 c o=>?_
 refine Y4 c.sat o rfl ?_
 refine X4a c.sat (j.lift ⟨c.le⟩) (hh.lift ⟨c.le⟩) p fun B y f=>?_
 have b:=c.trans f
 refine Zy ?_
 unfold B7 at h
 have d:=X2f hh v
 generalize P5 W6 cs v=r at*
 by_cases e:r=[]
 ·rw[decide_eq_true e] at h⊢
  (try simp only[↓M1,M1,Mb,reduceIte])
  exact h _ _ b
 ·rw[decide_eq_false e] at h⊢
  obtain ⟨a,C,rfl,t,z⟩:=hh
  (try simp only[↓M1,M1,Mb,reduceIte])
  refine ld b.sat (t.lift ⟨b.le⟩) rfl ?_
  refine X3w b.sat (m.lift ⟨b.le⟩) ok d u fun D A g=>?_
  (try simp only[↓M1,M1,Mb,reduceIte])
  exact h _ _ (b.trans g))
theorem Q9X (y:X3 w σ) (hh:H9 σ hp tv room cs) (z:Tab σ tv l) (ok:Ok l) {k:X0} {o:Value} {i:Nat} (D:k.length≤U1) (M:o.cells= #[o]∧o.oneCell'=true) (n:elem k=[]→i<(Y6 l k).length)
 (h: ∀w' σ',Stp w σ w' σ'→K (S (Xj l k i)) w'):Q1 P F.aC [hp, .agg [S k,o].toArray,I i] w K:=Q0c (by
 unfold Ep
 refine Z1 y fun q w1 σ1 c s=>?_
 (try simp only[↓M1,M1,Mb,reduceIte])
 refine X7 c.sat s rfl ?_
 refine Q61 k (Nat.le_trans D (by decide)) fun L p=>?_
 have d:=Stp.of_below c.sat p
 have b:=c.trans d
 refine Zy ?_
 unfold Xj at h
 by_cases e:elem k=[]
 ·simp only[if_pos e] at h
  rw[decide_eq_true e]
  (try simp only[↓M1,M1,Mb,reduceIte])
  obtain ⟨a,N,rfl,C,E⟩:=hh
  have r:=d.sat
  have t:=s.up d
  have B:=C.lift ⟨b.le⟩
  refine U2 r ?_
  (repeat refine J0 A8 ?_)
  (intros;(repeat (rename_i v;subst v));(try simp only[↓M2,M2,Mb,reduceIte]))
  rename_i O m
  have f:=b.trans m.stp
  refine Ia m.sat (z.lift ⟨f.le⟩) ok.acy ok.len ok.sm fun H Q J j g=>?_
  refine Y1 g (n e) ?_
  obtain ⟨u,_⟩:=g.elF (n e)
  (try simp only[↓M1,M1,Mb,reduceIte])
  refine ld j.sat u rfl ?_
  have A:(Y6 l k).getD i Fld.zero=(Y6 l k)[i]'(n e):=by rw[List.getD_eq_getElem?_getD,List.getElem?_eq_getElem (n e)];rfl
  rw[A] at h
  exact h _ _ (f.trans j)
 ·simp only[if_neg e] at h
  rw[decide_eq_false e]
  (try simp only[↓M1,M1,Mb,reduceIte])
  exact h _ _ b)
set_option maxHeartbeats 1000000 in
theorem Q4j {w1:World} {q:Addr} {c:Cel} {vv:Value} (hk1:Stp w σ w1 σ') (hg:Glb σ) (hh:H9 σ hp tv room cs) (ht:Tab σ tv l) (ok:Ok l) (hq:Z4 σ' q [S c.kind,vv]) (hv1:Sl 4 M7 σ' vv c.vals) (hkl:c.kind.length≤U1) (hfk: ∀i,(Xj l c.kind i).length≤U1) (good:GoodC W6 l cs c) (h: ∀w' σ',Stp w σ w' σ'→K (.bool true) w'):
 lp (α:=Value) (.int .i64 0) w1 fun again6 x6 d_ w=>
  Q3 P .lss T.e (.tmp 38) (.tmp 37) x6 (I c.vals.length) w fun t39 w=>
  X1 t39 (
   indexAddr P T.l vv x6 w fun t41 w=>
   Q2 P T.g t41 w fun t42 w=>
   W1 P T.g w fun v_v_6 w=>
   X9 P T.g v_v_6 t42 w fun _u w=>
   dr w fun Tr Br=>
   Q5 Tr (fun φ44=> ∀w,Br w→Q2 P T.g v_v_6 w (dk Tr φ44 w)) fun φ44=>
   Q5 Tr (fun φ46=> ∀w,Br w→Q2 P T.m (.pointer (some q)) w (dk Tr φ46 w)) fun φ46=>
   Q5 Tr (fun φ48=> ∀t46 w,Br w→φ46 t46 w→Q1 P F.aC [hp,t46,x6] w (dk Tr φ48 w)) fun φ48=>
   ∀t44 t46 t48 w,Br w→φ44 t44 w→φ46 t46 w→φ48 t48 w→
   Q1 P F.aB [hp,t44,t48] w fun t49 w=>
   J8 P .not t49 w fun t50 w=>
   X1 t50 (
    K (.bool false) w) (
    Q3 P .add T.e (.tmp 38) (.const (.int .i64 1)) x6 (.int .i64 1) w fun t51 w=>
    again6 t51 w)) (
   dr w fun Tr Br=>
   Q5 Tr (fun φ53=> ∀w,Br w→nilCheck P hp w (dk Tr φ53 w)) fun φ53=>
   Q5 Tr (fun φ54=> ∀t53 w,Br w→φ53 t53 w→fieldAddr P T.p t53 0 w (dk Tr φ54 w)) fun φ54=>
   Q5 Tr (fun φ56=> ∀w,Br w→fieldAddr P T.m (.pointer (some q)) 0 w (dk Tr φ56 w)) fun φ56=>
   Q5 Tr (fun φ55=> ∀t54 w,Br w→φ54 t54 w→Q2 P T.r t54 w (dk Tr φ55 w)) fun φ55=>
   Q5 Tr (fun φ57=> ∀t56 w,Br w→φ56 t56 w→Q2 P T.c t56 w (dk Tr φ57 w)) fun φ57=>
   ∀t53 t54 t56 t55 t57 w,Br w→φ53 t53 w→φ54 t54 w→φ56 t56 w→φ55 t55 w→φ57 t57 w→
   Q1 P F.s [t55,t57] w fun t58 w=>
   K t58 w):=by
 have hone:vv.cells= #[vv]∧vv.oneCell'=true:=by obtain ⟨a,c,rfl,_⟩:=hv1;exact ⟨rfl,rfl⟩
 refine U0 c.vals.length (fun n w'=> ∃σ2,Stp w σ w' σ2∧SLe σ' σ2) ⟨σ',hk1,SLe.refl _⟩ fun n w2 d hn hinv=>?_
 obtain ⟨σ2,hS2,le2⟩:=hinv
 have hv2:=hv1.lift le2
 have hq2:=hq.lift le2
 have hh2:=hh.lift ⟨hS2.le⟩
 have ht2:=ht.lift ⟨hS2.le⟩
 refine Z0 ?_
 refine Q7 (fun hc=>?_) (fun hc=>?_)
 ·have hn':n<c.vals.length:=by simpa using hc
  obtain ⟨p1,r1⟩:=Sl.elV hv2 hn'
  refine Y1 hv2 hn' ?_
  refine Y4 hS2.sat p1 rfl ?_
  refine Y9 hS2.sat (by rfl) rfl (Rep.one r1) fun q3 w3 σ3 hk3 hq3=>?_
  have hS3:=hS2.trans hk3
  have hs3:=hk3.sat
  have hq23:=hq2.up hk3
  have hh3:=hh2.lift ⟨hk3.le⟩
  have ht3:=ht2.lift ⟨hk3.le⟩
  have hif:elem c.kind=[]→n<(Y6 l c.kind).length:=fun e=>by
   rcases good.is with h | h
   ·exact absurd e h
   ·rw[←h.2];exact hn'
  refine U2 hs3 ?_
  (repeat (apply J0;(· intros;(repeat (rename_i hx;subst hx));(repeat' (first | (with_reducible exact O3 rfl) | (with_reducible exact R9 (Stp.bel (by (repeat (first | exact Stp.refl (by (first | assumption | exact Stp.sat (by assumption) | exact Hst.sat (by assumption))) | assumption | refine Stp.trans ?_ (by first | assumption | exact Hst.stp (by assumption)))))) rfl) | (with_reducible intro _) | (simp only[↓M2,M2,Mb,reduceIte]) | (with_reducible show Q2 _ _ _ _ _;first | refine X7 aS aL aR ?_ | refine Y4 aS aL aR ?_ | refine ld aS aL aR ?_) | (with_reducible show indexAddr _ _ _ _ _ _;refine Y1 aL au ?_) | (with_reducible show X2 _ _ _ _ _ _ _ _;refine Q8 aL ?_) | (with_reducible show F3 _ _ _ _ _ _;refine Z9 aR ?_) | (with_reducible show pick _ _ _ _ _ _;refine M0 ?_) | (with_reducible show Q1 _ _ _ _ _;first | refine Q9X au au au au au au au ?_) | (apply F8;intro hh;(try simp only[hh,reduceIte,↓M2,M2,Mb,reduceIte]))));done)))
  (intros;(repeat (rename_i hx;subst hx));(try simp only[↓M2,M2,Mb,reduceIte]))
  rename_i w4 hb4
  have hS4:=hS3.trans hb4.stp
  refine Q92 hb4.sat (hg.lift ⟨hS4.le⟩) (hh.lift ⟨hS4.le⟩) (ht.lift ⟨hS4.le⟩) ok r1.2.2.2.1 (hfk n) fun w5 σ5 hk5=>?_
  rw[good.fits n hn']
  (try simp only[↓M1,M1,Mb,reduceIte])
  exact Y5 hv1.max hn' ⟨σ5,hS4.trans hk5,le2.more ⟨(hk3.trans (hb4.stp.trans hk5)).le⟩⟩
 ·obtain ⟨a,lv,rfl,la,ls⟩:=hh2
  have hs2:=hS2.sat
  refine U2 hs2 ?_
  (repeat refine J0 A8 ?_)
  (intros;(repeat (rename_i hx;subst hx));(try simp only[↓M2,M2,Mb,reduceIte]))
  rename_i w3 hb3
  refine Q0L hb3.sat ht2 hkl fun w4 σ4 hk4=>?_
  rw[good.kd]
  exact h _ _ ((hS2.trans hb3.stp).trans hk4)
set_option maxHeartbeats 1000000 in
theorem X0X (hs:X3 w σ) (hg:Glb σ) (hh:H9 σ hp tv room cs) (ht:Tab σ tv l) (ok:Ok l) {c:Cel} {ds:List Value} (hc:E5 σ c ds) (hfk: ∀i,(Xj l c.kind i).length≤U1) (good:GoodC W6 l cs c) (h: ∀w' σ',Stp w σ w' σ'→K (.bool true) w'):Q1 P F.bC [hp, .agg ds.toArray] w K:=Au (by
 obtain ⟨vv,rfl,hvv,hkl⟩:=hc
 have hone:vv.cells= #[vv]∧vv.oneCell'=true:=by obtain ⟨a,c,rfl,_⟩:=hvv;exact ⟨rfl,rfl⟩
 have hh0:=hh
 obtain ⟨a,lv,rfl,la,ls⟩:=hh
 unfold Ow
 refine Z1 hs fun q w1 σ1 hk1 hq=>?_
 have hs1:=hk1.sat
 have la1:=la.lift ⟨hk1.le⟩
 have ht1:=ht.lift ⟨hk1.le⟩
 have hv1:=hvv.up hk1
 have hkl':c.kind.length≤140737488355328:=Nat.le_trans hkl (by decide)
 have acy:=ok.acy
 have olen:=ok.len
 have osm:=ok.sm
 refine U2 hs1 ?_
 (repeat (apply J0;(· intros;(repeat (rename_i hx;subst hx));(repeat' (first | (with_reducible exact O3 rfl) | (with_reducible exact R9 (Stp.bel (by (repeat (first | exact Stp.refl (by (first | assumption | exact Stp.sat (by assumption) | exact Hst.sat (by assumption))) | assumption | refine Stp.trans ?_ (by first | assumption | exact Hst.stp (by assumption)))))) rfl) | (with_reducible intro _) | (simp only[↓M2,M2,Mb,reduceIte]) | (with_reducible show Q2 _ _ _ _ _;first | refine X7 aS aL aR ?_ | refine Y4 aS aL aR ?_ | refine ld aS aL aR ?_) | (with_reducible show indexAddr _ _ _ _ _ _;refine Y1 aL au ?_) | (with_reducible show X2 _ _ _ _ _ _ _ _;refine Q8 aL ?_) | (with_reducible show F3 _ _ _ _ _ _;refine Z9 aR ?_) | (with_reducible show pick _ _ _ _ _ _;refine M0 ?_) | (with_reducible show Q1 _ _ _ _ _;first | refine Q61 _ au (L2 aS ?_)) | (apply F8;intro hh;(try simp only[hh,reduceIte,↓M2,M2,Mb,reduceIte]))));done)))
 by_cases e:elem c.kind=[]
 ·have hd:decide (elem c.kind=[])=true:=decide_eq_true e
  obtain ⟨hobj,hlen⟩:A4 l c.kind=true∧c.vals.length=(Y6 l c.kind).length:=by
   rcases good.is with h | h
   ·exact absurd e h
   ·exact h
  simp only[hd,reduceIte]
  (repeat (apply J0;(· intros;(repeat (rename_i hx;subst hx));(repeat' (first | (with_reducible exact O3 rfl) | (with_reducible exact R9 (Stp.bel (by (repeat (first | exact Stp.refl (by (first | assumption | exact Stp.sat (by assumption) | exact Hst.sat (by assumption))) | assumption | refine Stp.trans ?_ (by first | assumption | exact Hst.stp (by assumption)))))) rfl) | (with_reducible intro _) | (simp only[↓M2,M2,Mb,reduceIte]) | (with_reducible show Q2 _ _ _ _ _;first | refine X7 aS aL aR ?_ | refine Y4 aS aL aR ?_ | refine ld aS aL aR ?_) | (with_reducible show indexAddr _ _ _ _ _ _;refine Y1 aL au ?_) | (with_reducible show X2 _ _ _ _ _ _ _ _;refine Q8 aL ?_) | (with_reducible show F3 _ _ _ _ _ _;refine Z9 aR ?_) | (with_reducible show pick _ _ _ _ _ _;refine M0 ?_) | (with_reducible show Q1 _ _ _ _ _;first | refine Q45 au au ?_) | (apply F8;intro hh;(try simp only[hh,reduceIte,↓M2,M2,Mb,reduceIte]))));done)))
  simp only[hobj,Bool.not_true,reduceIte]
  (repeat refine J0 A8 ?_)
  refine Uu (w:=w1) (σ:=σ1) (Φ:=fun σ' v=>Sl 3 R7 σ' v (Y6 l c.kind)) (fun t20 t27 t29 w hb e1 e2 e3=>?_) ?_
  ·subst e1;subst e2;subst e3
   simp only[↓M2,M2,Mb,reduceIte]
   exact Ia hb.sat ht1 acy olen osm fun v' w' σ' hk hv'=>Hi hb hk hv'
  refine J0 (V:=I (Y6 l c.kind).length) (fun t20 t30 w hb e1 e2=>?_) ?_
  ·subst e1
   obtain ⟨σ',hk,hv'⟩:=e2
   simp only[↓M2,M2,Mb,reduceIte]
   exact Q8 hv' (O3 rfl)
  rintro t7 t8 t9 t10 t12 t13 t14 t16 t15 t17 t18 t19 t20 t21 t24 t25 t26 t28 t22 t23 t27 t29 t30 t31 w2 hb2 rfl rfl rfl rfl rfl rfl rfl rfl rfl rfl rfl rfl rfl rfl rfl rfl rfl rfl rfl rfl rfl rfl _ rfl
  rw[hlen]
  simp only[O7,E1,S2,W2,W7]
  refine Jf ?_
  rw[decide_eq_true (show ((Y6 l c.kind).length:Int)=(Y6 l c.kind).length from rfl)]
  simp only[Bool.not_true,W9,M5,M4]
  refine W0 ?_
  refine ld hb2.sat hq rfl ?_
  refine Q8 hv1 ?_
  exact Q4j (hk1.trans hb2.stp) hg hh0 ht ok hq hv1 hkl hfk good h
 ·have hd:decide (elem c.kind=[])=false:=decide_eq_false e
  simp only[hd,Bool.false_eq_true,reduceIte]
  (repeat refine J0 A8 ?_)
  (intros;(repeat (rename_i hx;subst hx)))
  rename_i w2 hb2
  simp only[O7,E1,S2,W2,W7,W9,M5,M4]
  refine W0 ?_
  refine ld hb2.sat hq rfl ?_
  refine Q8 hv1 ?_
  exact Q4j (hk1.trans hb2.stp) hg hh0 ht ok hq hv1 hkl hfk good h)
end Go.Proofs.YtjdiakhipmggjaaGreatDoor

namespace Go.Emb
open Go.RowKit Go.Hm
variable {P : Program} {w w0 w1 w' w'' : World} {K : Value → World → Prop} {σ σ0 σ1 σ' : Q6}
theorem Q4H (a:Array Value) (n i:Nat) (c:i<n) (f:0<a.size):((madeCells a (n*a.size)).toList.drop (i*a.size)).take a.size=a.toList:=by
 have d:i*a.size+a.size≤n*a.size:=by rw[←Nat.succ_mul];exact Nat.mul_le_mul_right _ c
 refine List.ext_getElem (by simp[madeCells];omega) fun j g e=>?_
 have b:j<a.size:=by simpa using e
 simp only[List.getElem_take,List.getElem_drop,madeCells,Array.toList_map,List.getElem_map,Array.toList_range,List.getElem_range,Array.getElem_toList]
 have:(i*a.size+j) % a.size=j:=by rw[Nat.add_comm,Nat.add_mul_mod_self_right];exact Nat.mod_eq_of_lt b
 rw[this]
 simp[b]
theorem Q9I {α:Type} {R:Q6→α→List Value→Prop} {t e:TypeId} {sz b n:Nat} {z:Value} [ts:TS P t e] [tz:TZ P e sz b z] (x0:α) (r:X3 w σ) (u:z.cells.size=sz) (d:0<sz) (B:R σ x0 z.cells.toList) (C:n*sz≤16777216) (D:b*n≤281474976710656)
 (h: ∀v w',Stp w σ w' σ→V5 w.heap.size e sz R σ w' v (List.replicate n x0)→(∀k,v.ownBlock=some k→w.heap.size≤k)→K v w'):Ls P t (I n) (I n) w K:=by
 obtain ⟨i,y,c,m,a⟩:=tz.info
 have q:(i.bytes:Int)*(n:Int)≤281474976710656:=by
  rw[m]
  have:((b*n:Nat):Int)≤281474976710656:=by omega
  rwa [Int.natCast_mul] at this
 have A:n≤16777216:=by
  have:n*1≤n*sz:=Nat.mul_le_mul_left _ d
  omega
 have g:=run_makeSlice (P:=P) w t e i z ts.h y a .i64 .i64 (n:Int) (n:Int) (by omega) (Int.le_refl _) (by rw[c];simp only[Int.toNat_natCast];omega) q (by omega)
 unfold Ls
 rw[Y0 g]
 simp only[Int.toNat_natCast,c]
 refine h _ _ (Stp.own r _) ⟨(madeCells z.cells (n*sz)).toList,⟨by simp[madeCells], .inr ⟨w.heap.size,n,madeCells z.cells (n*sz),?_,Nat.le_refl _,heap_alloc_new w _,?_,?_,?_,?_⟩⟩,?_,fun j x f=>?_⟩ ?_
 ·simp
 ·simp
 ·simp[maxLen];omega
 ·simp[madeCells]
 ·rw[List.take_of_length_le (by simp[madeCells])]
 ·intro k p;cases p;exact r.none (Nat.le_refl _)
 ·have s:j<n:=by have:=(List.getElem?_eq_some_iff.1 f).1;simpa using this
  have o:x=x0:=by
   rw[List.getElem?_replicate] at f
   rw[if_pos s] at f
   exact (Option.some.inj f).symm
  subst o
  subst u
  rw[Q4H z.cells n j s d]
  exact B
 ·intro k p;cases p;exact Nat.le_refl _
theorem Q4R (w:World) (p B A elem:TypeId) (sz g o n f:Nat) (a:Addr) (c:Nat) (b:Array Value) (t:TypeId) (cs:List Value)
 (y:P.underlying p=some (.slice elem)) (m:(P.info? elem).map (·.size)=some sz)
 (s:w.heap[g]? =some (.cells b t (0,0))) (q:cs.length=n*sz)
 (d: ∀j v,cs[j]? =some v→w.cell? (a.add j)=some v) (e:o+cs.length≤b.size) (z: ∀v∈cs,v.oneCell'=true):
 (Builtin.copy_ #[p,B] A #[.slice (some ⟨g,o,none⟩) n f, .slice (some a) n c]).run P w=
  .ok (goInt n) (w.setRow g (b.toList.take o++cs++b.toList.drop (o+cs.length)).toArray):=by
 have r:=run_loadCells_list (P:=P) w a cs d
 have k:=run_storeCells_at P g o t cs 0 b w s (by simpa using e) z
 cases h:P.info? elem with
 | none=>simp[h] at m
 | some i=>
  have u:i.size=sz:=by simpa [h] using m
  simp[Builtin.copy_,run_underlying y,Builtin.lenOf,Builtin.firstCells,sizeOf,typeInfo,h,u,←q,r,k]
theorem Q4F (w:World) (f g m elem:TypeId) (sz:Nat) (d a:Option Addr) (c b:Nat) (j:P.underlying f=some (.slice elem)) (k:(P.info? elem).map (·.size)=some sz):
 (Builtin.copy_ #[f,g] m #[.slice d 0 c, .slice a 0 b]).run P w= .ok (goInt 0) w:=by
 cases e:P.info? elem with
 | none=>simp[e] at k
 | some i=>
  have h: ∀(x:Addr),(loadCells x 0).run P w= .ok #[] w:=fun x=>by simpa using run_loadCells_list (P:=P) w x [] (by simp)
  cases d<;>cases a<;>simp[Builtin.copy_,run_underlying j,Builtin.lenOf,Builtin.firstCells,sizeOf,typeInfo,e,storeCells,h]
end Go.Emb
namespace Go.Proofs.YtjdiakhipmggjaaGreatDoor
open Go.Emb Go.RowKit Go.Kd Go.Hm
variable {w w' : World} {K : Value → World → Prop} {σ σ' : Q6} {hp tv : Value} {room : Int} {cs : List Cel} {l : List Cla}
theorem Q2G (ok:Ok l) {k:X0} (d:k.length≤U1) (i:Nat):(Xj l k i).length≤U1:=by
 unfold Xj
 split
 ·cases h:(Y6 l k)[i]? with
  | none=>rw[List.getD_eq_getElem?_getD,h];exact Nat.zero_le _
  | some f=>
   rw[List.getD_eq_getElem?_getD,h]
   have a:=List.mem_of_getElem? h
   unfold Y6 at a
   obtain ⟨c,b,a⟩:=List.mem_flatMap.1 a
   have:=((ok.nm c (Bk (by simpa using b))).2.1 f a).2
   exact Nat.le_trans this (by decide)
 ·unfold elem
  split
  ·unfold Kd.cutA;rw[List.length_take];omega
  ·exact Nat.zero_le _
theorem X1S (v:X3 w σ) (z:Glb σ) (hh:H9 σ hp tv room cs) (A:Tab σ tv l) (ok:Ok l) (f: ∀c∈cs,GoodC W6 l cs c) (h: ∀w' σ',Stp w σ w' σ'→K (.bool true) w'):Q1 P F.bx [hp] w K:=Tw (by
 unfold Of
 have j:=hh
 obtain ⟨a,H,rfl,C,t⟩:=hh
 refine U5 v rfl fun q w1 σ1 b r=>?_
 refine X7 b.sat r rfl ?_
 rw[L7,fa]
 refine ld b.sat (C.lift ⟨b.le⟩) rfl ?_
 rw[Qe]
 refine Cl (fun _=>false) b.sat (t.up b) (fun c ds y K B m s g D=>Z6 (first:=[]) (caps:=[.pointer (some q)]) (Fi ?_)) fun y k=>?_
 ·unfold Ln
  refine Z1 m fun L J u d p=>?_
  refine X7 d.sat (r.up d) rfl ?_
  refine Y4 d.sat p g ?_
  have e:SLe σ u:=SLe.more ⟨b.le⟩ ⟨d.le⟩
  refine X0X d.sat (z.lift e) (j.lift e) (A.lift e) ok (Q9n s ⟨d.le⟩) (fun i=>Q2G ok (by obtain ⟨_,_,_,h⟩:=s;exact h) i) (f c B) fun M E n=>?_
  refine Wh ?_
  exact D _ (d.trans n).bel
 ·have o:=b.trans (Stp.of_below b.sat k)
  have:cs.any (fun _=>false)=false:=by simp
  rw[this]
  refine Wh ?_
  exact h _ _ o)
theorem Q8M {B:Nat} {D:Nat→Prop} {m v:Value} {vals:List Val} {k:X0} {ty:TypeId} {cb:List Bool} {A:Value→Value→World→Prop} (hs:X3 w σ) (hB:B≤w.heap.size) (h:RowsIs B D σ w m cs) (Q:J7 B T.g 4 M7 σ w v vals) (hd: ∀j,v.ownBlock=some j→ ¬D j) (hk:k.length≤U1) (hl:cs.length≤10000000)
 (hh: ∀s d w' σ' D',Nxt (fun j=>m.ownBlock=some j) w σ w' σ'→(∀j,m.ownBlock=some j→D j)→RowsIs B D' σ' w' d (cs++[⟨k,vals⟩])→(∀j,D' j→D j∨v.ownBlock=some j∨w.heap.size≤j)→(∀j,D j→m.ownBlock≠some j→D' j)→A s d w'):
 buildSlice P T.f 1 [(0, .agg #[S k,v])] w (fun s w=>X2 P .append [T.f,T.f] ty cb [m,s] w (fun v' w=>A s v' w)):=by
 obtain ⟨vs,hq,o,ha,hD⟩:=h.ex
 obtain ⟨a,V,C,_⟩:=(id Q:J7 B T.g 4 M7 σ w v vals)
 have al:v.cells= #[v]:=by rw[C];rfl
 refine T1 (R:=Q3y) (sz:=2) hs [.agg #[S k,v]] [(k,v)] rfl rfl (by simp[Value.cells]) rfl ⟨(⟨rfl,hk,a,_,V,C⟩:Q3y σ (k,v) [S k,v]),trivial⟩ fun s w1 σ1 c Y=>?_
 refine Q8E c.sat (Nat.le_trans hB c.bel.size) (hq.up c) Y rfl (by rw[Yq o.1];simp;omega) (by rw[Yq o.1];simp;omega) fun d H J O L Z=>?_
 have g: ∀j,m.ownBlock=some j→D j:=fun j b=>(hD j).2 ⟨m,by simp,b⟩
 have U:Nxt (fun j=>m.ownBlock=some j) w σ H σ1:=
  ⟨(Kpt.of_below c.bel).trans (J.mono fun j _ b=>b.1),⟨c.le⟩,c.old,O⟩
 have E: ∀j,v.ownBlock=some j→m.ownBlock≠some j:=fun j b e=>hd j b (g j e)
 have f: ∀j,d.ownBlock=some j→m.ownBlock=some j∨w1.heap.size≤j:=fun j b=>by
  rcases Z with ⟨a',ab,e1,e2⟩ | ⟨_,hn⟩
  ·left;rw[e1];rw[e2] at b;cases a'<;>exact b
  ·exact .inr (hn j b)
 obtain ⟨t,X⟩:=List.pairwise_cons.1 ha
 have y: ∀i (p:i<vs.length) (r:i<cs.length),J7 B T.g 4 M7 σ1 H vs[i] cs[i].vals:=fun i p r=>(o.2 i p r).nx U fun j b e=>t _ (List.getElem_mem p) j e b
 have W:J7 B T.g 4 M7 σ1 H v vals:=Q.nx U fun j b e=>E j b e
 have N: ∀u∈vs,∀j,u.ownBlock=some j→j<w.heap.size:=fun u hu j b=>by
  obtain ⟨i,p,rfl⟩:=List.getElem_of_mem hu
  exact ((o.2 i p (by rw[←o.1];exact p)).mem b).2.1
 refine hh s d H σ1 (fun j=> ∃u∈d::(vs++[v]),u.ownBlock=some j) U g ⟨vs++[v],?_,⟨by simp[o.1],fun i p r=>?_⟩,?_,fun j=>Iff.rfl⟩ ?_ ?_
 ·have e:R8 (vs++[v]) (cs++[⟨k,vals⟩])=R8 vs cs++[(k,v)]:=by
   unfold R8
   rw[List.zipWith_append o.1];rfl
  rw[e];exact L
 ·by_cases n:i<vs.length
  ·have q:i<cs.length:=by rw[←o.1];exact n
   rw[List.getElem_append_left n,List.getElem_append_left q]
   exact y i n q
  ·have q: ¬i<cs.length:=by rw[←o.1];exact n
   have e1:i=vs.length:=by simp at p;omega
   rw[List.getElem_append_right (by omega),List.getElem_append_right (by omega)]
   simp only[List.getElem_singleton]
   exact W
 ·refine List.pairwise_cons.2 ⟨fun u hu j b e=>?_,List.pairwise_append.2 ⟨X,List.pairwise_singleton _ _,fun u hu u2 z j b e=>?_⟩⟩
  ·rcases List.mem_append.1 hu with hu | hu
   ·rcases f j b with h1 | h1
    ·exact t u hu j h1 e
    ·have:=N u hu j e;have:=c.bel.size;omega
   ·simp at hu;subst hu
    rcases f j b with h1 | h1
    ·exact E j e h1
    ·have:=(Q.mem e).2.1;have:=c.bel.size;omega
  ·simp at z;subst z
   exact hd j e ((hD j).2 ⟨u,by simp[hu],b⟩)
 ·rintro j ⟨u,hu,b⟩
  rcases List.mem_cons.1 hu with rfl | hu
  ·rcases f j b with h1 | h1
   ·exact .inl (g j h1)
   ·right;right;have:=c.bel.size;omega
  ·rcases List.mem_append.1 hu with hu | hu
   ·exact .inl ((hD j).2 ⟨u,by simp[hu],b⟩)
   ·simp at hu;subst hu;exact .inr (.inl b)
 ·intro j b M
  obtain ⟨u,hu,b⟩:=(hD j).1 b
  rcases List.mem_cons.1 hu with rfl | hu
  ·exact absurd b M
  ·exact ⟨u,by simp[hu],b⟩
end Go.Proofs.YtjdiakhipmggjaaGreatDoor

namespace Go.Proofs.YtjdiakhipmggjaaGreatDoor
open Go.Emb Go.RowKit Go.Kd Go.Hm
variable {w : World} {K : Value → World → Prop} {σ : Q6}
end Go.Proofs.YtjdiakhipmggjaaGreatDoor

namespace Go.Proofs.YtjdiakhipmggjaaGreatDoor
open Go.Emb Go.RowKit Go.Kd Go.Hm
variable {w : World} {K : Value → World → Prop} {σ : Q6} {l : List Cla} {v : Value}
theorem I8 {n:X0} (q:X3 w σ) (m:Sl 8 V0 σ v l) (h:K (I (L5 (Z2 l n))) w):Q1 P F.b [v,S n] w K:=Aq (by
 unfold Oj
 refine U0 l.length (fun k w'=>w'=w∧ ∀j (g:j<l.length),j<k→ ¬l[j].name=n) ⟨rfl,fun j _ h=>by omega⟩ fun k w1 d E r=>?_
 obtain ⟨rfl,f⟩:=r
 refine Q8 m ?_
 refine Z0 ?_
 refine Q7 (fun i=>?_) (fun i=>?_)
 ·have a:k<l.length:=by simpa using i
  refine M9 m a fun p cells o u t=>?_
  obtain ⟨B,A,mv,rfl,C,z,D,y,H⟩:=t
  rw[fa]
  refine ld q o rfl ?_
  refine P4 ?_
  refine Q7 (fun b=>?_) (fun b=>?_)
  ·have b:l[k].name=n:=by simpa using b
   have:Z2 l n=some k:=by
    unfold Z2
    rw[List.findIdx?_eq_some_iff_getElem]
    exact ⟨a,by simpa using b,fun j g=>by simpa using f j (by omega) g⟩
   rw[this] at h
   exact h
  ·have b: ¬l[k].name=n:=by simpa using b
   refine N3 ?_
   refine Y5 m.max a ⟨rfl,fun j g s=>?_⟩
   by_cases e:j=k
   ·subst e;exact b
   ·exact f j g (by omega)
 ·have a: ¬k<l.length:=by simpa using i
  have:Z2 l n=none:=by
   unfold Z2
   rw[List.findIdx?_eq_none_iff]
   intro c i
   obtain ⟨j,g,rfl⟩:=List.getElem_of_mem i
   simpa using f j g (by omega)
  rw[this] at h
  exact h)
end Go.Proofs.YtjdiakhipmggjaaGreatDoor

namespace Go.Proofs.YtjdiakhipmggjaaGreatDoor
open Go.Emb Go.RowKit Go.Kd Go.Hm
variable {w : World} {K : Value → World → Prop} {σ : Q6} {l : List Cla} {v : Value}
theorem Q5H {a:X0} (d:a.length≤U1) (h:K (S (base a).1) w):Q1 P F.aW [S a] w K:=Ae (by
 unfold Ob
 have c:=Q1D a
 have b:a.length≤140737488355328:=by simp only[U1] at d;omega
 rw[R2 X8]
 refine Ro a b ?_
 (try simp only[↓Mr,Mr,Mb,reduceIte])
 rw[F9 (n:=2*((base a).2:Int)) (by omega) (by omega),F9 (by omega) (by omega),T3 X8 (by omega) (by omega)]
 rw[show ((a.length:Int)-2*((base a).2:Int)).toNat=a.length-2*(base a).2 from by omega,Q4e]
 exact h)
theorem Ds {s:X0} (g:X3 w σ) (f:Sl 8 V0 σ v l) (b:s.length≤U1) (h:K (.bool (N1 l s)) w):Q1 P F.a0 [v,S s] w K:=Aw (by
 unfold De
 have c:s.length≤140737488355328:=by simp only[U1] at b;omega
 unfold N1 at h
 refine P4 ?_
 by_cases a:s=H7
 ·have:decide (s=[110,117,108,108])=true:=by rw[decide_eq_true_eq];exact a
  simp only[this,↓M1,M1,Mb,reduceIte]
  simp only[a,decide_true,Bool.true_or] at h
  exact h
 ·have:decide (s=[110,117,108,108])=false:=by rw[decide_eq_false_iff_not];exact a
  simp only[this,↓M1,M1,Mb,reduceIte]
  simp only[a,decide_false,Bool.false_or] at h
  refine Jt s c ?_
  cases e:right s with
  | false=>(try simp only[↓M1,M1,Mb,reduceIte]);simpa [e] using h
  | true=>
   (try simp only[↓M1,M1,Mb,reduceIte])
   refine Q5H b ?_
   (try simp only[↓M1,M1,Mb,reduceIte])
   refine Ek _ ?_
   simp only[e,Bool.true_and] at h
   cases d:plain (base s).1 with
   | true=>(try simp only[↓M1,M1,Mb,reduceIte]);simpa [d] using h
   | false=>
    (try simp only[↓M1,M1,Mb,reduceIte])
    refine Q5H b ?_
    (try simp only[↓M1,M1,Mb,reduceIte])
    refine I8 g f ?_
    refine P6 ?_
    rw[T8]
    (try simp only[↓M1,M1,Mb,reduceIte])
    simpa [d,Q0G] using h)
end Go.Proofs.YtjdiakhipmggjaaGreatDoor

namespace Go.Proofs.YtjdiakhipmggjaaGreatDoor
open Go.Emb Go.RowKit Go.Kd Go.Hm
variable {w : World} {K : Value → World → Prop} {σ : Q6} {l : List Cla} {v : Value}
theorem Q9u {s:X0} (d:X3 w σ) (c:Sl 8 V0 σ v l) (b:s.length≤U1) (h:K (.bool (O6 l s)) w):Q1 P F.br [v,S s] w K:=Km (by
 unfold Nx
 unfold O6 at h
 refine Zy ?_
 have e:decide (s=[110,117,108,108])=decide (s=H7):=rfl
 rw[e]
 cases a:decide (s=H7) with
 | true=>
  rw[a] at h
  (try simp only[↓M1,M1,Mb,reduceIte])
  exact h
 | false=>
  rw[a] at h
  (try simp only[↓M1,M1,Mb,reduceIte])
  refine Ds d c b ?_
  (try simp only[↓M1,M1,Mb,reduceIte])
  simpa using h)
end Go.Proofs.YtjdiakhipmggjaaGreatDoor

namespace Go.Proofs.YtjdiakhipmggjaaGreatDoor
open Go.Emb Go.RowKit Go.Kd Go.Hm
variable {w : World} {K : Value → World → Prop} {σ : Q6} {l : List Cla} {v : Value}
def Ry (c:Cla) (n:X0):Option Nat:=c.methods.findIdx? fun m=>decide (m.name=n)
theorem Q7H {c:Cla} {cs:List Value} {n:X0} (u:X3 w σ) (o:V0 σ c cs) (h: ∀w' B,Stp w σ w' B→K (I (L5 (Ry c n))) w'):Q1 P F.b1 [.agg cs.toArray,S n] w K:=Q0A (by
 unfold En
 obtain ⟨O,N,mv,rfl,U,J,r,E,X⟩:=o
 refine Z1 u fun q w0 σ0 a t=>?_
 have r:=r.up a
 refine U0 c.methods.length (fun k w'=>w'=w0∧ ∀j (i:j<c.methods.length),j<k→ ¬c.methods[j].name=n) ⟨rfl,fun j _ h=>by omega⟩ fun k w1 d V y=>?_
 obtain ⟨rfl,g⟩:=y
 rw[fa]
 refine ld a.sat t rfl ?_
 refine Q8 r ?_
 refine Z0 ?_
 refine Q7 (fun o=>?_) (fun o=>?_)
 ·have b:k<c.methods.length:=by simpa using o
  rw[fa]
  refine ld a.sat t rfl ?_
  refine M9 r b fun p cells s D A=>?_
  obtain ⟨pv,H,M,rfl,W,Q,R,Y,L⟩:=A
  rw[fa]
  refine ld a.sat s rfl ?_
  refine P4 ?_
  refine Q7 (fun f=>?_) (fun f=>?_)
  ·have f:c.methods[k].name=n:=by simpa using f
   have:Ry c n=some k:=by
    unfold Ry
    rw[List.findIdx?_eq_some_iff_getElem]
    exact ⟨b,by simpa using f,fun j i=>by simpa using g j (by omega) i⟩
   rw[this] at h
   exact h _ _ a
  ·have f: ¬c.methods[k].name=n:=by simpa using f
   refine N3 ?_
   refine Y5 r.max b ⟨rfl,fun j i z=>?_⟩
   by_cases e:j=k
   ·subst e;exact f
   ·exact g j i (by omega)
 ·have b: ¬k<c.methods.length:=by simpa using o
  have:Ry c n=none:=by
   unfold Ry
   rw[List.findIdx?_eq_none_iff]
   intro m C
   obtain ⟨j,i,rfl⟩:=List.getElem_of_mem C
   simpa using g j i (by omega)
  rw[this] at h
  exact h _ _ a)
end Go.Proofs.YtjdiakhipmggjaaGreatDoor

namespace Go.Proofs.YtjdiakhipmggjaaGreatDoor
open Go.Emb Go.RowKit Go.Kd Go.Hm
variable {w : World} {K : Value → World → Prop} {σ : Q6} {l : List Cla} {v : Value}
theorem Bb {n:X0} {d:Cla} (e:X3 w σ) (b:Sl 8 V0 σ v l) (c:lk l n=some d) (h: ∀i:Nat,l[i]? =some d→Z2 l n=some i→K (I i) w):Q1 P F.b [v,S n] w K:=by
 obtain ⟨_,_,i,a,f⟩:=V3 c
 refine I8 e b ?_
 rw[a];exact h i f a
theorem Q0w {n:X0} (f:X3 w σ) (d:Sl 8 V0 σ v l) (e:lk l n=none) (h:K (I (-1)) w):Q1 P F.b [v,S n] w K:=by
 refine I8 f d ?_
 cases b:Z2 l n with
 | none=>exact h
 | some i=>obtain ⟨c,a,_⟩:=Zl b;rw[e] at a;cases a
end Go.Proofs.YtjdiakhipmggjaaGreatDoor

namespace Go.Proofs.YtjdiakhipmggjaaGreatDoor
open Go.Emb Go.RowKit Go.Kd Go.Hm
variable {w : World} {K : Value → World → Prop} {σ : Q6} {l : List Cla} {v : Value}
theorem X0u:decide ((-1:Int)<0)=true:=by decide
theorem Q59 (i:Nat):decide ((i:Int)<0)=false:=by rw[decide_eq_false_iff_not];omega
theorem Q8B {c:Cla} {cs:List Value} (Y:X3 w σ) (W:Sl 8 V0 σ v l) (C:V0 σ c cs) (h: ∀w' σ',Stp w σ w' σ'→K (I (D0 l c)) w'):Q1 P F.bd [v, .agg cs.toArray] w K:=Fk (by
 unfold Lh
 obtain ⟨lv,fv,mv,rfl,z,f2,f3,f4,f5⟩:=C
 refine Z1 Y fun q w0 σ0 p N=>?_
 have z:=z.up p
 have b:=W.up p
 have a:=p.sat
 have s: ∀n:Nat,D0 l c=n→K (I n) w0:=fun n e=>by rw[←e];exact h _ _ p
 clear h
 (try simp only[↓M1,M1,Mb,reduceIte])
 refine ld a N rfl ?_
 have m:Qv l c.super=true→K (I (61:Nat)) w0:=fun e=>s 61 (by unfold D0;rw[if_pos e])
 cases J:lk l c.super with
 | none=>
  refine Q0w a b J ?_
  simp only[X0u,↓M1,M1,Mb,reduceIte]
  exact m (by unfold Qv;rw[J])
 | some d=>
  refine Bb a b J fun i hi hf=>?_
  obtain ⟨t,R⟩:=List.getElem?_eq_some_iff.1 hi
  simp only[Q59,↓M1,M1,Mb,reduceIte]
  refine Y1 b t ?_
  obtain ⟨ai,ac,V,Q,r1⟩:=b.elC t
  rw[R] at Q
  (try simp only[↓M1,M1,Mb,reduceIte])
  refine ld a Q rfl ?_
  have f:Qv l c.super=(d.iface||d.fin):=by unfold Qv;rw[J]
  cases B:d.iface with
  | true=>
   rw[B] at f
   (try simp only[↓M1,M1,Mb,reduceIte])
   exact m (by rw[f];rfl)
  | false=>
   rw[B] at f
   (try simp only[↓M1,M1,Mb,reduceIte])
   refine Y1 b t ?_
   (try simp only[↓M1,M1,Mb,reduceIte])
   refine ld a Q rfl ?_
   cases H:d.fin with
   | true=>
    rw[H] at f
    (try simp only[↓M1,M1,Mb,reduceIte])
    exact m (by rw[f];rfl)
   | false=>
    rw[H] at f
    have D:Qv l c.super=false:=f
    (try simp only[↓M1,M1,Mb,reduceIte])
    refine U0 c.like.length (fun k w'=>w'=w0∧(c.like.take k).any (R3 l)=false) ⟨rfl,rfl⟩ fun k w1 d1 hk M=>?_
    obtain ⟨hw,u⟩:=M
    subst hw
    (try simp only[↓M1,M1,Mb,reduceIte])
    refine ld a N rfl ?_
    refine Q8 z ?_
    refine Z0 ?_
    refine Q7 (fun C=>?_) (fun C=>?_)
    ·have g:k<c.like.length:=by simpa using C
     have r:R3 l c.like[k]=true→K (I (62:Nat)) w1:=fun e=>s 62 (by
      unfold D0;rw[D,S6 g e];rfl)
     have y:R3 l c.like[k]=false→(c.like.take (k+1)).any (R3 l)=false:=fun e=>by rw[L3 g,u,e];rfl
     (try simp only[↓M1,M1,Mb,reduceIte])
     refine ld a N rfl ?_
     refine Y1 z g ?_
     obtain ⟨p2,_⟩:=z.elS g
     refine X7 a p2 rfl ?_
     cases L:lk l c.like[k] with
     | none=>
      refine Q0w a b L ?_
      simp only[X0u,↓M1,M1,Mb,reduceIte]
      exact r (by unfold R3;rw[L])
     | some e=>
      refine Bb a b L fun j hj af=>?_
      obtain ⟨A,O⟩:=List.getElem?_eq_some_iff.1 hj
      simp only[Q59,↓M1,M1,Mb,reduceIte]
      refine Y1 b A ?_
      obtain ⟨X,ad,Z,U,r3⟩:=b.elC A
      rw[O] at U
      (try simp only[↓M1,M1,Mb,reduceIte])
      refine ld a U rfl ?_
      have o:R3 l c.like[k]= !e.iface:=by unfold R3;rw[L]
      cases E:e.iface with
      | true=>
       rw[E] at o
       (try simp only[↓M1,M1,Mb,reduceIte])
       exact Y5 z.max g ⟨rfl,y o⟩
      | false=>
       rw[E] at o
       (try simp only[↓M1,M1,Mb,reduceIte])
       exact r o
    ·have g: ¬k<c.like.length:=by simpa using C
     rw[E0 g] at u
     exact s 0 (by unfold D0;rw[D,u];rfl))
end Go.Proofs.YtjdiakhipmggjaaGreatDoor

namespace Go.Proofs.YtjdiakhipmggjaaGreatDoor
open Go.Emb Go.RowKit Go.Kd Go.Hm
variable {w : World} {K : Value → World → Prop} {σ : Q6} {l : List Cla} {v : Value}
theorem Q6R {n:X0} (h:lk l n=none):Y6 l n=[]:=by unfold Y6;rw[Ym h];rfl
theorem Q6W (a:Jd l) {n:X0} {c:Cla} (h:lk l n=some c):Y6 l n=Y6 l c.super++c.fields:=by
 unfold Y6
 rw[A7 a,h]
 simp
theorem Q2U (a: ∀c∈l,Qm c) (n:X0):(Y6 l n).length≤(l.length+1)*1000000:=by
 unfold Y6
 have b:=Vy (fun c:Cla=>c.fields) 1000000 (chain l n).reverse fun c d=>(a c (Bk (by simpa using d))).2.1
 have e:=Ct l n
 rw[List.length_reverse] at b
 exact Nat.le_trans b (Nat.mul_le_mul_right _ e)
theorem Q2g {n:X0} (a:lk l n=none) (d:X3 w σ) (e:Sl 8 V0 σ v l) (h: ∀c w' b,Stp w σ w' b→Sl 3 R7 b c (Y6 l n)→K c w'):Q1 P F.p [v,S n] w K:=Lt (by
 unfold Xz
 refine Q0w d e a ?_
 simp only[X0u,↓M1,M1,Mb,reduceIte]
 exact h _ _ _ (Stp.refl d) (by rw[Q6R a];exact Sl.nil))
theorem Q6q (o:Jd l) (hl:l.length≤1000) (f: ∀c∈l,Qm c): ∀(k:Nat) {n:X0} {w:World} {σ:Q6} {K:Value→World→Prop},(lk l n=none∨K6 l n<k)→X3 w σ→Sl 8 V0 σ v l→
 (∀m w' j,Stp w σ w' j→Sl 3 R7 j m (Y6 l n)→K m w')→Q1 P F.p [v,S n] w K:=by
 intro k
 induction k with
 | zero=>
  intro n w σ K hk g a h
  rcases hk with hk | hk
  ·exact Q2g hk g a h
  ·omega
 | succ k ih=>
  intro n w σ K hk g a h
  cases b:lk l n with
  | none=>exact Q2g b g a h
  | some c=>
   have hk:K6 l n<k+1:=by
    rcases hk with hk | hk
    ·rw[b] at hk;cases hk
    ·exact hk
   refine Lt ?_
   unfold Xz
   refine Bb g a b fun i Z hf=>?_
   obtain ⟨A,L⟩:=List.getElem?_eq_some_iff.1 Z
   simp only[Q59,↓M1,M1,Mb,reduceIte]
   obtain ⟨lv,fv,mv,p1,O⟩:=a.elC A
   rw[L] at p1 O
   obtain ⟨_,Y,_,_,_⟩:=O.parts
   have r:lk l c.super=none∨K6 l c.super<k:=by
    cases hu:lk l c.super with
    | none=>exact .inl rfl
    | some d=>
     have:=Xy o b (u:=c.super) (by simp[U3]) hu
     right;omega
   have ai:=Q2U f c.super
   have ae:=(f c (V3 b).2.1).2.1
   have N:(l.length+1)*1000000≤1001*1000000:=Nat.mul_le_mul_right _ (by omega)
   refine U2 g ?_
   (repeat refine J0 A8 ?_)
   refine Q3b (R:=R7) (by decide) ?_
   (repeat refine J0 A8 ?_)
   refine Uu (w:=w) (σ:=σ) (Φ:=fun j v=>Sl 3 R7 j v (Y6 l c.super)) (fun t w p e=>?_) ?_
   ·subst e;exact ih r p.sat a fun m w' j hk J=>Hi p hk J
   refine Q1i (w:=w) (σ:=σ) (R:=R7) (sz:=3) (e:=T.o) (Y6 l c.super) (fun z C w p s D=>?_) ?_
   ·obtain ⟨k1,a1,e1⟩:=s
    obtain ⟨σ2,k2,s2⟩:=D
    exact Q7d k1 a1 e1 k2.sat s2 (fun _ _ h=>h) rfl (by omega) (by omega) fun m w' hk o=>Q2Q p hk o
   (repeat refine J0 A8 ?_)
   rintro aj ag V aa z X C ac Q w2 U rfl rfl rfl rfl _ rfl _ ⟨E,B⟩ rfl
   refine Wk E B Y rfl (by omega) (by omega) fun m w3 W q H _=>?_
   obtain ⟨σ4,M,y,_⟩:=H.keep q
   exact h _ _ _ M (by rw[Q6W o b];exact y)
theorem Ir {n:X0} (i:X3 w σ) (e:Sl 8 V0 σ v l) (g:Jd l) (f:l.length≤1000) (a: ∀c∈l,Qm c) (h: ∀d w' b,Stp w σ w' b→Sl 3 R7 b d (Y6 l n)→K d w'):Q1 P F.p [v,S n] w K:=
 Q6q g f a _ (.inr (Nat.lt_succ_self _)) i e h
theorem X03 {n f:X0} (z:X3 w σ) (A:Sl 8 V0 σ v l) (B:Jd l) (y:l.length≤1000) (t: ∀c∈l,Qm c) (h: ∀w' H,Stp w σ w' H→K (I (L5 (Ju l n f))) w'):Q1 P F.bq [v,S n,S f] w K:=Ix (by
 unfold Nk
 refine Ir z A B y t fun N w1 σ1 r a=>?_
 have s: ∀o,Ju l n f=o→K (I (L5 o)) w1:=fun o e=>by rw[←e];exact h _ _ r
 unfold Ju at s
 generalize Y6 l n=p at a s
 refine U0 p.length (fun k w'=>w'=w1∧ ∀j (q:j<p.length),j<k→ ¬p[j].name=f) ⟨rfl,fun j _ h=>by omega⟩ fun k M d O C=>?_
 obtain ⟨L,i⟩:=C
 subst L
 refine Q8 a ?_
 refine Z0 ?_
 refine Q7 (fun u=>?_) (fun u=>?_)
 ·have b:k<p.length:=by simpa using u
  refine Y1 a b ?_
  obtain ⟨E,_⟩:=a.elF b
  (try simp only[↓M1,M1,Mb,reduceIte])
  refine ld r.sat E rfl ?_
  refine P4 ?_
  refine Q7 (fun g=>?_) (fun g=>?_)
  ·have g:p[k].name=f:=by simpa using g
   exact s (some k) (by
    rw[List.findIdx?_eq_some_iff_getElem]
    exact ⟨b,by simpa using g,fun j q=>by simpa using i j (by omega) q⟩)
  ·have g: ¬p[k].name=f:=by simpa using g
   (try simp only[↓M1,M1,Mb,reduceIte])
   refine Y5 a.max b ⟨rfl,fun j q D=>?_⟩
   by_cases e:j=k
   ·subst e;exact g
   ·exact i j q (by omega)
 ·have b: ¬k<p.length:=by simpa using u
  exact s none (by
   rw[List.findIdx?_eq_none_iff]
   intro m J
   obtain ⟨j,q,rfl⟩:=List.getElem_of_mem J
   simpa using i j q (by omega)))
end Go.Proofs.YtjdiakhipmggjaaGreatDoor

namespace Go.Emb
open Go.RowKit Go.Hm
variable {w w' : World} {σ σ' : Q6}
theorem Nxt.of_upd {b:Nat} (d:X3 w σ) (a:Upd w b w') (c:σ b=none):Nxt (fun j=>j=b) w σ w' σ:=
 ⟨Kpt.of_upd a rfl,SLe.refl _,fun _ _=>rfl,(Kpt.of_upd (D:=fun j=>j=b) a rfl).sat d fun k e=>e▸c⟩
theorem Nxt.chain {D E:Nat→Prop} {w1 d:World} {σ1 b:Q6} (h:Nxt D w σ w1 σ1) (k:Nxt E w1 σ1 d b) (f: ∀j,j<w.heap.size→E j→D j):Nxt D w σ d b:=
 ⟨⟨k.kp.os.trans h.kp.os,k.kp.tape.trans h.kp.tape,k.kp.output.trans h.kp.output,Nat.le_trans h.kp.size k.kp.size,fun j a c=>(k.kp.block j (Nat.lt_of_lt_of_le a h.kp.size) fun e=>c (f j a e)).trans (h.kp.block j a c)⟩,h.le.more k.le,fun j a=>(k.old j (Nat.lt_of_lt_of_le a h.kp.size)).trans (h.old j a),k.sat⟩
end Go.Emb
namespace Go.Proofs.YtjdiakhipmggjaaGreatDoor
open Go.Emb Go.RowKit Go.Kd Go.Hm
variable {w w' : World} {K : Value → World → Prop} {σ σ' : Q6} {hp tv : Value} {room : Int} {cs : List Cel} {l : List Cla}
theorem RowsIs.shape {B:Nat} {D:Nat→Prop} {b:Value} (h:RowsIs B D σ w b cs):b.cells= #[b]∧b.oneCell'=true:=by
 obtain ⟨vs,d,_⟩:=h.ex
 obtain ⟨a,c,rfl,_⟩:=d
 exact ⟨rfl,rfl⟩
theorem RowsIs.len {B:Nat} {D:Nat→Prop} {c:Value} (h:RowsIs B D σ w c cs): ∃a b,c= .slice a cs.length b:=by
 obtain ⟨vs,e,d,_⟩:=h.ex
 obtain ⟨a,b,rfl,_⟩:=e
 exact ⟨a,b,by rw[Yq d.1]⟩
theorem X14 {B:Nat} {D:Nat→Prop} {v:Value} {vals:List Val} {k:X0} (Z:X3 w σ) (hB:B≤w.heap.size) (h:HeapIs B D σ w hp tv room cs) (A:J7 B T.g 4 M7 σ w v vals) (H: ∀j,v.ownBlock=some j→ ¬D j) (hk:k.length≤U1) (hl:Y8 cs+(1+(vals.length:Int))≤1048576)
 (hh: ∀w' σ' D',Nxt D w σ w' σ'→HeapIs B D' σ' w' hp tv room (cs++[⟨k,vals⟩])→(∀j,D' j→D j∨v.ownBlock=some j∨w.heap.size≤j)→K (.tuple #[I cs.length,I 0]) w'):Q1 P F.b5 [hp,S k,v] w K:=Q1N (by
 obtain ⟨b,lv,E,rfl,L,u,hr,hE,hD⟩:=h.ex
 have af:=K4 cs
 have ad:=L8 cs
 have c:D b:=(hD b).2 (.inl rfl)
 have O: ∃a d,v= .slice a vals.length d:=by obtain ⟨a,d,e,_⟩:=A;exact ⟨a,d,e⟩
 have U:=u.lt
 unfold Hn
 rw[L7,fa]
 refine Yc u rfl ?_
 refine Q1G A ?_
 refine Xq ⟨by omega,by omega⟩ ?_
 refine Xq ⟨by omega,by omega⟩ ?_
 rw[L7,fa]
 refine Uf u (by simp) rfl rfl fun w1 t o=>?_
 have r:=Nxt.of_upd Z t u.1
 have z:=hr.nx r fun j hj e=>hE (e▸hj)
 have y:=A.nx r fun j hj e=>H j hj (e▸c)
 have J:=r.sat
 rw[L7,fa]
 refine Yc o rfl ?_
 refine V6 (cells:= #[S k,v]) (by obtain ⟨a,d,rfl⟩:=O;kernel_rfl) ?_
 refine Q8M J (by rw[t.size];exact hB) z y (fun j hj e=>H j hj ((hD j).2 (.inr e))) hk (by omega) fun s ag w2 Q N M i f q X=>?_
 have m: ∀j,lv.ownBlock=some j→j≠b:=fun j hj e=>hE (e▸i j hj)
 have p:=o.nx M fun e=>m b e rfl
 have g: ¬N b:=fun e=>by
  rcases q b e with e | e | e
  ·exact hE e
  ·exact H b e c
  ·rw[t.size] at e;omega
 rw[L7,fa]
 refine Uf p (by simp) f.shape.1 f.shape.2 fun W u3 n=>?_
 have V:=Nxt.of_upd M.sat u3 p.1
 have C:=f.nx V fun j hj e=>g (e▸hj)
 rw[L7,fa]
 refine Yc n rfl ?_
 obtain ⟨a2,R,rfl⟩:=f.len
 rw[Rk]
 refine Zi ⟨by simp only[List.length_append,List.length_cons,List.length_nil];omega,by simp only[List.length_append,List.length_cons,List.length_nil];omega⟩ ?_
 have e1:(((cs++[(⟨k,vals⟩:Cel)]).length:Nat):Int)-1=cs.length:=by simp
 rw[e1]
 have e2:Y8 (cs++[(⟨k,vals⟩:Cel)])=Y8 cs+(1+(vals.length:Int)):=by rw[T5];simp[Y8]
 have Y:Nxt D w σ W Q:=((r.mono fun j _ e=>e▸c).chain M fun j _ e=>(hD j).2 (.inr (i j e))).chain V fun j _ e=>e▸c
 refine hh W Q (fun j=>j=b∨N j) Y ⟨b,_,N,rfl,L,?_,C,g,fun j=>Iff.rfl⟩ fun j hj=>?_
 ·rw[e2];exact n
 ·rcases hj with rfl | hj
  ·exact .inl c
  ·rcases q j hj with e | e | e
   ·exact .inl ((hD j).2 (.inr e))
   ·exact .inr (.inl e)
   ·rw[t.size] at e;exact .inr (.inr e))
theorem HeapIs.tab {B:Nat} {D:Nat→Prop} (h:HeapIs B D σ w hp tv room cs): ∃b a E,hp= .pointer (some ⟨b,0,none⟩)∧Y2 σ w b [tv,I room,I (Y8 cs),a]∧RowsIs B E σ w a cs:=by
 obtain ⟨b,a,E,e,d,f,c,hE,hD⟩:=h.ex
 exact ⟨b,a,E,e,f,c⟩
theorem Q5a {B:Nat} {D:Nat→Prop} (b:X3 w σ) (h:HeapIs B D σ w hp tv room cs) (d:0≤W4 room cs) (i:room≤1048576) (f: ∀w',Stp w σ w' σ→K (I (W4 room cs)) w'):Q1 P F.af [hp] w K:=by
 obtain ⟨j,g,e,a,_⟩:=h.freeze b
 exact Q7A g a d i fun w' c=>f w' (Stp.of_below b c)
theorem Gx (k:X0) {σ:Q6}:M7 σ (L9 k) (Value.agg [I (L9 k).sort,I (L9 k).n,S (L9 k).s,I (L9 k).ref].toArray).cells.toList:=by
 refine ⟨rfl,?_⟩
 unfold L9
 split
 ·decide
 split
 ·decide
 split
 ·decide
 ·decide
theorem Q0a (a: ∀c∈l,Qm c) (b:l.length≤100000) (n:X0):(Y6 l n).length≤1000000000000:=by
 have h:=Q2U a n
 have:(l.length+1)*1000000≤100001*1000000:=Nat.mul_le_mul_right _ (by omega)
 omega
def atM (cs:List Cel) (e:Int):Int:=if e=0 then cs.length else 0
set_option maxHeartbeats 1000000 in
theorem Q6d {B:Nat} {D:Nat→Prop} {k:X0} (hs:X3 w σ) (hB:B≤w.heap.size) (h:HeapIs B D σ w hp tv room cs) (ht:Tab σ tv l) (ok:Ok l) (hk:k.length≤U1) (h0:0≤W4 room cs) (h1:room≤1048576)
 (hh: ∀w' σ' D',Nxt D w σ w' σ'→HeapIs B D' σ' w' hp tv room (Zr l room cs k).1→(∀j,D' j→D j∨w.heap.size≤j)→K (.tuple #[I (atM cs (Zr l room cs k).2),I (Zr l room cs k).2]) w'):Q1 P F.aI [hp,S k] w K:=Ki (by
 obtain ⟨b,lv,E,rfl,hm,hr⟩:=h.tab
 unfold Nj
 rw[L7,fa]
 refine Yc (i:=0) hm rfl ?_
 refine Q45 hs ht fun w1 σ1 g=>?_
 refine Wh ?_
 unfold Zr at hh
 have Y:=ht.lift ⟨g.le⟩
 cases ho:A4 l k with
 | false=>
  rw[ho] at hh
  simp only[if_pos] at hh
  refine J5 ?_
  exact hh w1 σ1 D (.of_stp g) (h.up g) fun j p=> .inl p
 | true=>
  rw[ho] at hh
  simp only[Bool.true_eq_false,if_false] at hh
  refine Z7 ?_
  rw[L7,fa]
  refine Yc (i:=0) (hm.up g) rfl ?_
  refine Ia g.sat Y ok.acy ok.len ok.sm fun fv w2 O L Q=>?_
  have y:=g.trans L
  have ac:=Q.max
  refine Q8 Q ?_
  have af:=Q0a ok.sm ok.len k
  refine Xq ⟨by omega,by omega⟩ ?_
  refine Q5a L.sat (h.up y) h0 h1 fun M z=>?_
  have r:=y.trans z
  have J:=Q.up z
  rw[Rj]
  by_cases N:W4 room cs<1+((Y6 l k).length:Int)
  ·rw[if_pos N] at hh
   have e:decide (1+((Y6 l k).length:Int)>W4 room cs)=true:=decide_eq_true N
   rw[e]
   refine J5 ?_
   exact hh M O D (.of_stp r) (h.up r) fun j p=> .inl p
  rw[if_neg N] at hh
  have e:decide (1+((Y6 l k).length:Int)>W4 room cs)=false:=decide_eq_false N
  rw[e]
  refine Z7 ?_
  refine Q8 J ?_
  have o:=r.bel.size
  refine E4 (Y6 l k).length (fun n x w'=> ∃σ',Stp M O w' σ'∧V5 M.heap.size T.g 4 M7 σ' w' x (((Y6 l k).take n).map fun f=>L9 f.kind)) ⟨O,Stp.refl z.sat,V5.nil⟩ fun n x w4 d hn H=>?_
  obtain ⟨σ4,c,t⟩:=H
  refine Z0 ?_
  refine Q7 (fun V=>?_) (fun V=>?_)
  ·have m:n<(Y6 l k).length:=by simpa using V
   have C:=J.up c
   refine Y1 C m ?_
   obtain ⟨p1,r1⟩:=C.elF m
   refine Y4 c.sat p1 rfl ?_
   refine Y9 c.sat (by rfl) rfl (Rep.one (R:=R7) r1) fun q w5 σ5 u aa=>?_
   rw[fa]
   refine ld u.sat aa rfl ?_
   refine Q9P u.sat fun w6 σ6 A=>?_
   have U:=(c.trans u).trans A
   have ab:=(t.up u).up A
   refine Jl (R:=M7) (x:=L9 (Y6 l k)[n].kind) U ab (Gx _) rfl rfl rfl (by rw[List.length_map,List.length_take];omega) (by rw[List.length_map,List.length_take];omega) fun s v' w7 Z ao ad X _=>?_
   refine N3 ?_
   refine J3 ac m ⟨Z,ad,?_⟩
   rw[List.take_add_one,List.getElem?_eq_getElem m,List.map_append]
   exact X
  ·have m: ¬n<(Y6 l k).length:=by simpa using V
   rw[List.take_of_length_le (by omega)] at t
   have a:=r.trans c
   have v: ∀j,x.ownBlock=some j→M.heap.size≤j:=fun j p=>(t.mem j p).1
   refine X14 c.sat (Nat.le_trans hB a.bel.size) (h.up a) ((J7.of_acc t).mono (Nat.le_trans hB o)) (fun j p hD=>by
    have:=(h.mem hD).2.1;have:=v j p;omega) hk (by rw[List.length_map];unfold W4 at*;omega) fun w7 Z D' N7 h7 W=>?_
   refine J6 (vs:=[_,_]) rfl ?_
   refine J6 (vs:=[_,_]) rfl ?_
   refine hh w7 Z D' ((Nxt.of_stp a).chain N7 fun j _ e=>e) h7 fun j p=>?_
   rcases W j p with e | e | e
   ·exact .inl e
   ·right;have:=v j e;omega
   ·right;have:=a.bel.size;omega)
end Go.Proofs.YtjdiakhipmggjaaGreatDoor

namespace Go.Proofs.YtjdiakhipmggjaaGreatDoor
open Go.Emb Go.RowKit Go.Kd Go.Hm
variable {w w' : World} {K : Value → World → Prop} {σ σ' : Q6} {hp tv : Value} {room : Int} {cs : List Cel} {l : List Cla}
def part (m n:Nat) (z:Val):List Val:=(List.range m).map fun i=>if i<n then z else Val.zero
theorem Q9l (m:Nat) (z:Val):part m 0 z=List.replicate m Val.zero:=by
 refine List.ext_getElem (by simp[part]) fun i a b=>by simp[part]
theorem X0h (m:Nat) (z:Val):part m m z=List.replicate m z:=by
 refine List.ext_getElem (by simp[part]) fun i a b=>?_
 have:i<m:=by simpa [part] using a
 simp[part,this]
theorem X0s {m n:Nat} (z:Val):(part m n z).set n z=part m (n+1) z:=by
 refine List.ext_getElem (by simp[part]) fun i a b=>?_
 simp only[part,List.getElem_set,List.getElem_map,List.getElem_range]
 by_cases e:n=i
 ·subst e;simp
 ·rw[if_neg e]
  by_cases h:i<n
  ·simp[h,Nat.lt_succ_of_lt h]
  ·have: ¬i<n+1:=by omega
   simp[h,this]
theorem Q53 {e:X0} (h:G2 l e=true):right e=true:=by
 simp only[G2,Bool.and_eq_true,Bool.not_eq_true',decide_eq_false_iff_not] at h
 have:=h.1.2
 simp only[N1,Bool.or_eq_true,Bool.and_eq_true,decide_eq_true_eq] at this
 rcases this with h1 | h1
 ·exact absurd h1 h.1.1
 ·exact h1.1
theorem X1y {e:X0} (h:right e=true):Xt e≤3:=by
 unfold Xt
 rw[if_pos h]
 simp only[right,Bool.and_eq_true,decide_eq_true_eq] at h
 exact h.1
set_option maxHeartbeats 1000000 in
theorem Q7l {B:Nat} {D:Nat→Prop} {e:X0} {n:Int} (hs:X3 w σ) (hB:B≤w.heap.size) (h:HeapIs B D σ w hp tv room cs) (ht:Tab σ tv l) (hk:e.length≤U1) (h0:0≤W4 room cs) (h1:room≤1048576)
 (hh: ∀w' σ' D',Nxt D w σ w' σ'→HeapIs B D' σ' w' hp tv room (Zu l room cs e n).1→(∀j,D' j→D j∨w.heap.size≤j)→K (.tuple #[I (atM cs (Zu l room cs e n).2),I (Zu l room cs e n).2]) w'):Q1 P F.aP [hp,S e,I n] w K:=Tq (by
 obtain ⟨b,lv,E,rfl,hm,hr⟩:=h.tab
 unfold Og
 refine X4e e (Nat.le_trans hk (by decide)) fun w1 Z=>?_
 have y:=Stp.of_below hs Z
 unfold Zu at hh
 have g: ∀{L C},Stp w σ L C→G2 l e=false→K (.tuple #[I 0,I 91]) L:=fun {L C} hS X=>by
  rw[X] at hh
  simp only[if_pos] at hh
  exact hh L C D (.of_stp hS) (h.up hS) fun j r=> .inl r
 cases A:(right e&&decide (Xt e≠3)) with
 | false=>
  have X:G2 l e=false:=by
   cases hx:G2 l e with
   | false=>rfl
   | true=>
    have hr:=Q53 hx
    simp only[G2,Bool.and_eq_true,decide_eq_true_eq] at hx
    rw[hr,Bool.true_and,decide_eq_false_iff_not] at A
    omega
  simp only[Bool.false_eq_true,if_false]
  (try simp only[↓M1,M1,Mb,reduceIte])
  simp only[show decide ((30:Int)=0)=false from by decide,Bool.not_false,↓M1,M1,Mb,reduceIte]
  exact g y X
 | true=>
  simp only[if_true]
  (try simp only[↓M1,M1,Mb,reduceIte])
  simp only[decide_true,Bool.not_true,↓M1,M1,Mb,reduceIte]
  refine Yc (i:=0) (hm.up y) rfl ?_
  refine Q0L y.sat ht hk fun L C Y=>?_
  have a:=y.trans Y
  simp only[Bool.and_eq_true,decide_eq_true_eq] at A
  have a0:=X1y A.1
  have k:G2 l e=(!decide (e=H7)&&N1 l e):=by
   unfold G2
   have:decide (Xt e≤2)=true:=decide_eq_true (by omega)
   rw[this,Bool.and_true]
  have en:decide (e=[110,117,108,108])=decide (e=H7):=rfl
  cases V:N1 l e with
  | false=>
   (try simp only[↓M1,M1,Mb,reduceIte])
   exact g a (by rw[k,V,Bool.and_false])
  | true=>
   (try simp only[↓M1,M1,Mb,reduceIte])
   by_cases c:e=H7
   ·have:decide (e=[110,117,108,108])=true:=decide_eq_true c
    rw[this]
    (try simp only[↓M1,M1,Mb,reduceIte])
    exact g a (by rw[k,decide_eq_true c];rfl)
   have:decide (e=[110,117,108,108])=false:=decide_eq_false c
   rw[this]
   (try simp only[↓M1,M1,Mb,reduceIte])
   have X:G2 l e=true:=by rw[k,V,decide_eq_false c];rfl
   rw[X] at hh
   simp only[Bool.true_eq_false,if_false] at hh
   by_cases o:n<0
   ·rw[if_pos o] at hh
    rw[decide_eq_true o]
    (try simp only[↓M1,M1,Mb,reduceIte])
    exact hh L C D (.of_stp a) (h.up a) fun j r=> .inl r
   rw[if_neg o] at hh
   rw[decide_eq_false o]
   (try simp only[↓M1,M1,Mb,reduceIte])
   refine Q5a Y.sat (h.up a) h0 h1 fun w3 O=>?_
   have s:=a.trans O
   refine P6 ?_
   by_cases U:W4 room cs≤n
   ·rw[if_pos U] at hh
    rw[decide_eq_true U]
    refine J5 ?_
    exact hh w3 C D (.of_stp s) (h.up s) fun j r=> .inl r
   rw[if_neg U] at hh
   rw[decide_eq_false U]
   refine Z7 ?_
   obtain ⟨m,rfl⟩:=Int.eq_ofNat_of_zero_le (Int.not_lt.1 o)
   have ae:(m:Int)<W4 room cs:=Int.not_le.1 U
   have aq:=L8 cs
   unfold W4 at ae h0
   have q:=s.bel.size
   have aj:=Gy A.1
   refine Q9I (sz:=4) (R:=M7) (x0:=Val.zero) O.sat rfl (by decide) ⟨rfl,by decide⟩ (by omega) (by omega) fun v w4 ag ah H=>?_
   have Q:=J7.of_acc ah
   refine Q1G Q ?_
   rw[List.length_replicate]
   refine U0 m (fun i w'=> ∃σ',Stp w3 C w' σ'∧J7 w3.heap.size T.g 4 M7 σ' w' v (part m i (L9 e))) ⟨C,ag,by rw[Q9l];exact Q⟩ fun i w5 d hi W=>?_
   obtain ⟨σ5,t,J⟩:=W
   refine Z0 ?_
   refine Q7 (fun hc=>?_) (fun hc=>?_)
   ·have z:i<m:=by simpa using hc
    refine Q9P t.sat fun w6 σ6 M=>?_
    have aa:=t.trans M
    refine Q1p (x:=L9 e) aa (J.up M) (by simpa [part] using z) rfl (Gx e) (Rep.one (R:=M7) (Gx (σ:=σ6) e)) fun p u w7 az af N=>?_
    refine N3 ?_
    rw[X0s] at N
    exact Y5 (by omega) z ⟨σ6,af.stp,N⟩
   ·have z:i=m:=by
     have: ¬i<m:=by simpa using hc
     omega
    subst z
    rw[X0h] at J
    have f:=s.trans t
    refine X14 t.sat (Nat.le_trans hB f.bel.size) (h.up f) (J.mono (Nat.le_trans hB q)) (fun j r hD=>by
     have:=(h.mem hD).2.1;have:=H j r;omega) (Nat.le_trans (show (e++[91,93]).length≤40 by simp only[List.length_append,List.length_cons,List.length_nil];omega) (by decide)) (by rw[List.length_replicate];omega) fun w7 σ7 D' N7 h7 ad=>?_
    refine J6 (vs:=[_,_]) rfl ?_
    refine J6 (vs:=[_,_]) rfl ?_
    rw[Int.toNat_natCast] at hh
    refine hh w7 σ7 D' ((Nxt.of_stp f).chain N7 fun j _ e=>e) h7 fun j r=>?_
    rcases ad j r with e | e | e
    ·exact .inl e
    ·right;have:=H j e;omega
    ·right;have:=f.bel.size;omega)
end Go.Proofs.YtjdiakhipmggjaaGreatDoor

namespace Go.Proofs.YtjdiakhipmggjaaGreatDoor
open Go.Emb Go.RowKit Go.Kd Go.Hm
variable {w : World} {K : Value → World → Prop} {σ : Q6} {v : Value}
def Q2M:List Cla:=[⟨J9,[],[],false,false,false,[],[]⟩,⟨L6,J9,[],false,false,false,[⟨Ql,O9,false⟩],[]⟩]
def gMk (n:X0):Cla:=⟨n,L6,[],false,false,true,[],[]⟩
theorem Q6G:G9=Q2M++U4.map gMk:=rfl
theorem Q8X (M:X3 w σ) (h: ∀D w' g,Stp w σ w' g→V5 w.heap.size T.b 8 V0 g w' D G9→K D w'):Q1 P F.bm [] w K:=Pi (by
 unfold Mh
 refine V6 (cells:= #[S J9,S [], .slice none 0 0, .bool false, .bool false, .bool false, .slice none 0 0, .slice none 0 0]) (by kernel_rfl) ?_
 refine V6 (cells:= #[S Ql,S O9, .bool false]) (by kernel_rfl) ?_
 refine T1 (R:=R7) (sz:=3) M [.agg #[S Ql,S O9, .bool false]] [⟨Ql,O9,false⟩] rfl rfl (by simp;rfl) rfl ⟨⟨rfl,by decide,by decide⟩,trivial⟩ fun v1 w1 σ1 m i=>?_
 have l:=i
 obtain ⟨J,b,rfl,_⟩:=l
 refine V6 (cells:= #[S L6,S J9, .slice none 0 0, .bool false, .bool false, .bool false, .slice J 1 b, .slice none 0 0]) (by kernel_rfl) ?_
 refine Zc (R:=V0) (sz:=8) m [.agg #[S J9,S [], .slice none 0 0, .bool false, .bool false, .bool false, .slice none 0 0, .slice none 0 0], .agg #[S L6,S J9, .slice none 0 0, .bool false, .bool false, .bool false, .slice J 1 b, .slice none 0 0]]
  Q2M rfl rfl (by simp;exact ⟨rfl,rfl⟩) rfl ⟨⟨_,_,_,rfl,Sl.nil,Sl.nil,Sl.nil,by decide,by decide⟩,⟨_,_,_,rfl,Sl.nil,i,Sl.nil,by decide,by decide⟩,trivial⟩ fun v2 Z q C _=>?_
 refine T1 (R:=U8) (sz:=1) q.sat (U4.map S) U4 rfl rfl (by decide) rfl ⟨⟨rfl,by decide⟩,⟨rfl,by decide⟩,⟨rfl,by decide⟩,⟨rfl,by decide⟩,⟨rfl,by decide⟩,⟨rfl,by decide⟩,trivial⟩ fun X w3 E r p=>?_
 have u:=(m.trans q).trans r
 have V:U4.length=6:=rfl
 refine E4 U4.length (fun n x w'=> ∃g,Stp w σ w' g∧SLe E g∧V5 w.heap.size T.b 8 V0 g w' x (Q2M++(U4.take n).map gMk)) ⟨E,u,SLe.refl _,C.up r⟩ fun n x Y d W o=>?_
 obtain ⟨L,f,e,c⟩:=o
 refine Q8 (p.lift e) ?_
 refine Z0 ?_
 refine Q7 (fun B=>?_) (fun B=>?_)
 ·have a:n<U4.length:=by simpa using B
  have j:=p.lift e
  refine Y1 j a ?_
  obtain ⟨Q,H⟩:=j.elS a
  refine X7 f.sat Q rfl ?_
  have N:(Q2M++(U4.take n).map gMk).length≤8:=by
   rw[List.length_append,List.length_map,List.length_take,show Q2M.length=2 from rfl];omega
  have k:(U4.take (n+1)).map gMk=(U4.take n).map gMk++[gMk U4[n]]:=by
   rw[List.take_add_one,List.getElem?_eq_getElem a,List.map_append];rfl
  generalize U4[n]=t at H k
  refine V6 (cells:= #[S t,S L6, .slice none 0 0, .bool false, .bool false, .bool true, .slice none 0 0, .slice none 0 0]) (by kernel_rfl) ?_
  have U:V0 L (gMk t) [S t,S L6, .slice none 0 0, .bool false, .bool false, .bool true, .slice none 0 0, .slice none 0 0]:=⟨_,_,_,rfl,Sl.nil,Sl.nil,Sl.nil,H,(by decide:L6.length≤U1)⟩
  refine Jl (x:=gMk t) f c U rfl rfl rfl (by omega) (by omega) fun s D w5 O z A y _=>?_
  refine N3 ?_
  refine J3 (by omega) a ⟨O,A,e.more z.le,?_⟩
  rw[k,←List.append_assoc];exact y
 ·have a: ¬n<U4.length:=by simpa using B
  rw[List.take_of_length_le (by omega),←Q6G] at c
  exact h _ _ _ f c)
end Go.Proofs.YtjdiakhipmggjaaGreatDoor

namespace Go.Proofs.YtjdiakhipmggjaaGreatDoor
open Go.Emb Go.RowKit Go.Kd Go.Hm
variable {w : World} {K : Value → World → Prop} {σ : Q6}
end Go.Proofs.YtjdiakhipmggjaaGreatDoor

namespace Go.Hm
open Go.Kd
def Edge (l:List Cla) (i j:Nat):Prop:= ∃c,l[i]? =some c∧ ∃u∈U3 c,Z2 l u=some j
inductive Thr (E : Nat → Nat → Prop) (n : Nat) : Nat → Nat → Prop
  | one {i j : Nat} : E i j → Thr E n i j
  | more {i m j : Nat} : E i m → m < n → Thr E n m j → Thr E n i j
theorem Thr.cut {E:Nat→Nat→Prop} {n i j:Nat} (h:Thr E (n+1) i j):Thr E n i j∨(Thr E n i n∧Thr E n n j):=by
 induction h with
 | one h=>exact .inl (.one h)
 | @more i m j d f _ c=>
  by_cases e:m<n
  ·rcases c with c | ⟨a,b⟩
   ·exact .inl (.more d e c)
   ·exact .inr ⟨.more d e a,b⟩
  ·obtain rfl:m=n:=by omega
   rcases c with c | ⟨a,b⟩
   ·exact .inr ⟨.one d,c⟩
   ·exact .inr ⟨.one d,b⟩
theorem Thr.join {E:Nat→Nat→Prop} {n i k j:Nat} (h:Thr E n i k) (a:k<n) (g:Thr E n k j):Thr E n i j:=by
 induction h with
 | one h=>exact .more h a g
 | more c d _ b=>exact .more c d (b a g)
theorem Q4x {l:List Cla} (f:T6 l) {i j:Nat} (d:i<l.length):Edge l i j↔j<l.length∧ ∃u∈U3 l[i],u=Y3 l j∧Z2 l u=some j:=by
 unfold Edge
 rw[List.getElem?_eq_getElem d]
 constructor
 ·rintro ⟨c,e,u,b,a⟩
  cases e
  exact ⟨(S3 a).1,u,b,(S3 a).2.symm,a⟩
 ·rintro ⟨_,u,b,_,a⟩
  exact ⟨_,rfl,u,b,a⟩
theorem X0Y {l:List Cla} (b:T6 l) {i:Nat} (a:i<l.length):lk l (Y3 l i)=some l[i]:=by
 have:=Yf b a
 rwa [List.getD_eq_getElem?_getD,List.getElem?_eq_getElem a] at this
theorem X0b {l:List Cla} (b:T6 l) {i j:Nat} (a:i<l.length) (h:Thr (Edge l) l.length i j):j<l.length∧Wn (lk l) (Y3 l i) (Y3 l j):=by
 induction h with
 | one h=>
  obtain ⟨f,u,d,e,g⟩:=(Q4x b a).1 h
  obtain ⟨c,o,_⟩:=Zl g
  refine ⟨f,_,X0Y b a,u,d,?_⟩
  subst e;exact .refl o
 | more f p _ k=>
  obtain ⟨n,m⟩:=k p
  obtain ⟨_,u,d,e,g⟩:=(Q4x b a).1 f
  refine ⟨n,_,X0Y b a,u,d,?_⟩
  subst e;exact m.reach
theorem Q9v {l:List Cla} (w:T6 l) {a b:X0} (h:Hm.Reach (lk l) a b): ∀i j,Z2 l a=some i→Z2 l b=some j→i=j∨Thr (Edge l) l.length i j:=by
 induction h with
 | refl _=>
  intro i j m f;rw[m] at f;cases f;exact .inl rfl
 | step q t s r=>
  rename_i a u b c
  intro i j m f
  obtain ⟨d,p⟩:=s.left
  obtain ⟨_,_,k,n,v⟩:=V3 p
  obtain ⟨y,e,g,_⟩:=Zl m
  rw[q] at e;cases e
  have o:Edge l i k:=⟨c,g,u,t,n⟩
  rcases r k j n f with rfl | hT
  ·exact .inr (.one o)
  ·exact .inr (.more o (S3 n).1 hT)
theorem X0W {l:List Cla} (a:T6 l) {i j:Nat} (g:i<l.length) (o:j<l.length) (h:Wn (lk l) (Y3 l i) (Y3 l j)):Thr (Edge l) l.length i j:=by
 obtain ⟨c,f,u,q,m⟩:=h
 rw[X0Y a g] at f;cases f
 obtain ⟨d,p⟩:=m.left
 obtain ⟨_,_,k,e,r⟩:=V3 p
 have n:Edge l i k:=⟨_,List.getElem?_eq_getElem g,u,q,e⟩
 have b:Z2 l (Y3 l j)=some j:=by
  have:=a.find (List.getElem?_eq_getElem o)
  unfold Y3
  rw[List.getD_eq_getElem?_getD,List.getElem?_eq_getElem o];exact this
 rcases Q9v a m k j e b with rfl | hT
 ·exact .one n
 ·exact .more n (S3 e).1 hT
theorem X2a {l:List Cla} (b:T6 l) {i j:Nat} (a:i<l.length) (c:j<l.length):Thr (Edge l) l.length i j↔Xg l (Y3 l i) (Y3 l j)=true:=by
 rw[Jp]
 exact ⟨fun h=>(X0b b a h).2,X0W b a c⟩
def I2 (l:List Cla):List (List Bool):=(List.range l.length).map fun i=>(List.range l.length).map fun j=>Xg l (Y3 l i) (Y3 l j)
def Ff (m:Nat→Nat→Bool) (i j:Nat) (b:Bool):Nat→Nat→Bool:=fun x y=>if x=i∧y=j then b else m x y
structure Clos (E : Nat → Nat → Prop) (n k i j : Nat) (m : Nat → Nat → Bool) : Prop where
  sound : ∀ a b, m a b = true → Thr E n a b
  full : ∀ a b, a < n → b < n → Thr E k a b → m a b = true
  done : ∀ a b, a < n → b < n → (a < i ∨ (a = i ∧ b < j)) → Thr E (k + 1) a b → m a b = true
theorem Clos.next {E:Nat→Nat→Prop} {n k i j:Nat} {m:Nat→Nat→Bool} (h:Clos E n k i j m) (r:k<n) (s:i<n) (t:j<n):Clos E n k i (j+1) (Ff m i j (m i j||(m i k&&m k j))):=by
 have f: ∀a b,m a b=true→Ff m i j (m i j||(m i k&&m k j)) a b=true:=by
  intro a b c
  unfold Ff
  split
  ·rename_i e;rw[←e.1,←e.2,c];rfl
  ·exact c
 refine ⟨fun a b c=>?_,fun a b p q l=>f a b (h.full a b p q l),fun a b p q o l=>?_⟩
 ·unfold Ff at c
  split at c
  ·rename_i e
   obtain ⟨rfl,rfl⟩:=e
   simp only[Bool.or_eq_true,Bool.and_eq_true] at c
   rcases c with d | ⟨d,g⟩
   ·exact h.sound _ _ d
   ·exact (h.sound _ _ d).join r (h.sound _ _ g)
  ·exact h.sound _ _ c
 ·by_cases e:a=i∧b=j
  ·obtain ⟨rfl,rfl⟩:=e
   unfold Ff
   rw[if_pos ⟨rfl,rfl⟩]
   rcases l.cut with d | ⟨d,g⟩
   ·rw[h.full _ _ s t d];rfl
   ·rw[h.full _ _ s r d,h.full _ _ r t g];simp
  ·refine f a b (h.done a b p q ?_ l)
   rcases o with d | ⟨d,g⟩
   ·exact .inl d
   ·right;refine ⟨d,?_⟩
    have:b≠j:=fun u=>e ⟨d,u⟩
    omega
theorem Clos.row {E:Nat→Nat→Prop} {n k i:Nat} {m:Nat→Nat→Bool} (h:Clos E n k i n m):Clos E n k (i+1) 0 m:=
 ⟨h.sound,h.full,fun a b e c d f=>h.done a b e c (by omega) f⟩
theorem Clos.round {E:Nat→Nat→Prop} {n k:Nat} {m:Nat→Nat→Bool} (h:Clos E n k n 0 m):Clos E n (k+1) 0 0 m:=
 ⟨h.sound,fun a b c d e=>h.done a b c d (.inl c) e,fun a b c d f e=>by omega⟩
theorem Clos.start {E:Nat→Nat→Prop} {n:Nat} {m:Nat→Nat→Bool} (h: ∀a b,a<n→(m a b=true↔E a b)) (i: ∀a b,n≤a→m a b=false):Clos E n 0 0 0 m:=by
 refine ⟨fun a b c=>?_,fun a b d g f=>?_,fun a b d g j f=>by omega⟩
 ·by_cases d:a<n
  ·exact .one ((h a b d).1 c)
  ·rw[i a b (by omega)] at c;cases c
 ·cases f with
  | one e=>exact (h a b d).2 e
  | more _ k _=>omega
theorem Clos.all {l:List Cla} (c:T6 l) {m:Nat→Nat→Bool} (h:Clos (Edge l) l.length l.length 0 0 m) {i j:Nat} (a:i<l.length) (b:j<l.length):m i j=Xg l (Y3 l i) (Y3 l j):=by
 rw[Bool.eq_iff_iff,←X2a c a b]
 exact ⟨h.sound i j,h.full i j a b⟩
end Go.Hm

namespace Go.Emb
open Go.RowKit Go.Hm
variable {P : Program} {w w0 w1 w' w'' : World} {K : Value → World → Prop} {σ σ0 σ1 σ' : Q6}
theorem X2J {t e:TypeId} {c n:Nat} {z:Value} [ts:TS P t e] [tz:TZ P e 1 c z] (j:X3 w σ) (k:z.cells= #[z]) (o:n≤1000000) (p:c*n≤281474976710656)
 (h: ∀b w',w.heap.size≤b→Stp w σ w' σ→Y2 σ w' b (List.replicate n z)→K (.slice (some ⟨b,0,none⟩) n n) w'):Ls P t (I n) (I n) w K:=by
 obtain ⟨i,l,d,f,a⟩:=tz.info
 have g:(i.bytes:Int)*(n:Int)≤281474976710656:=by
  rw[f]
  have:((c*n:Nat):Int)≤281474976710656:=by omega
  rwa [Int.natCast_mul] at this
 have m:=run_makeSlice (P:=P) w t e i z ts.h l a .i64 .i64 (n:Int) (n:Int) (by omega) (Int.le_refl _) (by rw[d];simp only[Int.toNat_natCast];omega) g (by omega)
 unfold Ls
 rw[Y0 m]
 simp only[Int.toNat_natCast,d,Nat.mul_one]
 refine h _ _ (Nat.le_refl _) (Stp.own j _) ⟨j.none (Nat.le_refl _),e,?_⟩
 rw[heap_alloc_new,k]
 have:madeCells #[z] n=(List.replicate n z).toArray:=by rw[←toList_madeCells_one,Array.toArray_toList]
 rw[this]
def Q5N (n:Nat) (_:Q6) (b:Nat) (cs:List Value):Prop:=cs=[.slice (some ⟨b,0,none⟩) n n]
instance (n:Nat):Rep (Q5N n):=⟨fun _ h=>h,fun h u hu=>by rw[h] at hu;simp at hu;subst hu;rfl⟩
def Q5M (σ:Q6) (xs:List Bool) (cs:List Value):Prop:= ∃v,cs=[v]∧Sl 1 Q3j σ v xs
instance:Rep Q5M:=⟨fun k h=>by obtain ⟨v,h1,h2⟩:=h;exact ⟨v,h1,h2.le k⟩,fun h u hu=>by
 obtain ⟨v,rfl,a,cap,rfl,_⟩:=h
 simp at hu;subst hu;rfl⟩
def bools (n:Nat) (f:Nat→Bool):List Value:=(List.range n).map fun j=> .bool (f j)
theorem Q0B {n:Nat} {f:Nat→Bool}:(bools n f).length=n:=by simp[bools]
theorem Q4y {n j:Nat} {f:Nat→Bool} (h:j<n):(bools n f)[j]? =some (.bool (f j)):=by simp[bools,h]
theorem Q4w {n j:Nat} {f:Nat→Bool} {b:Bool}:(bools n f).set j (.bool b)=bools n (fun x=>if x=j then b else f x):=by
 apply List.ext_getElem?
 intro k
 rw[List.getElem?_set]
 by_cases a:k<n
 ·by_cases e:j=k
  ·subst e;simp[bools,a]
  ·have c: ¬k=j:=fun h=>e h.symm
   simp[bools,a,e,c]
 ·simp[bools,a]
  intro e;omega
theorem Q71 {n:Nat}:List.replicate n (Value.bool false)=bools n fun _=>false:=by
 apply List.ext_getElem?
 intro k
 by_cases a:k<n<;>simp[bools,a]
def Qy (σ:Q6) (w:World) (a:List Nat) (n:Nat) (m:Nat→Nat→Bool):Prop:=a.Nodup∧ ∀i (h:i<a.length),Y2 σ w a[i] (bools n (m i))
theorem Qy.up {a:List Nat} {n:Nat} {m:Nat→Nat→Bool} (h:Qy σ w a n m) (k:Stp w σ w' σ'):Qy σ' w' a n m:=⟨h.1,fun i b=>(h.2 i b).up k⟩
theorem Qy.kp {a:List Nat} {n:Nat} {m:Nat→Nat→Bool} {D:Nat→Prop} (h:Qy σ w a n m) (k:Kpt D w w') (d: ∀b∈a,¬D b):Qy σ w' a n m:=⟨h.1,fun i c=>(h.2 i c).kp k (d _ (List.getElem_mem c))⟩
theorem Qy.lt {c:List Nat} {n:Nat} {m:Nat→Nat→Bool} (h:Qy σ w c n m) {b:Nat} (d:b∈c):b<w.heap.size∧σ b=none:=by
 obtain ⟨i,a,rfl⟩:=List.getElem_of_mem d
 exact ⟨(h.2 i a).lt,(h.2 i a).1⟩
theorem Qy.snoc {d:List Nat} {n b:Nat} {m:Nat→Nat→Bool} {f:Nat→Bool} (h:Qy σ w d n m) (k:b∉d) (p:Y2 σ w b (bools n f)):Qy σ w (d++[b]) n (fun x=>if x=d.length then f else m x):=by
 refine ⟨by rw[List.nodup_append];exact ⟨h.1,by simp,fun a o c j e=>by simp at j;subst j;subst e;exact k o⟩,fun i l=>?_⟩
 rw[List.length_append,List.length_singleton] at l
 by_cases g:i<d.length
 ·rw[List.getElem_append_left g]
  simp only[if_neg (show¬i=d.length by omega)]
  exact h.2 i g
 ·obtain rfl:i=d.length:=by omega
  simp only[List.getElem_concat_length,if_true]
  exact p
theorem Qy.congr {a:List Nat} {n:Nat} {m m':Nat→Nat→Bool} (h:Qy σ w a n m) (c: ∀i,i<a.length→m i=m' i):Qy σ w a n m':=⟨h.1,fun i b=>c i b▸h.2 i b⟩
theorem Qy.keep {a:List Nat} {n:Nat} {m:Nat→Nat→Bool} (U:0<n) (s:n≤1000000): ∀{σ:Q6},Qy σ w a n m→Stp w0 σ0 w σ→(∀b∈a,w0.heap.size≤b)→ ∃σ',Stp w0 σ0 w σ'∧SLe σ σ'∧ ∀i (h:i<a.length),Sl 1 Q3j σ' (.slice (some ⟨a[i],0,none⟩) n n) ((List.range n).map (m i)):=by
 intro σ h N C
 have key: ∀k,k≤a.length→ ∃σ',Stp w0 σ0 w σ'∧SLe σ σ'∧(∀i (h:i<a.length),i<k→Z4 σ' ⟨a[i],0,none⟩ (bools n (m i)))∧ ∀i (h:i<a.length),k≤i→σ' a[i]=none:=by
  intro k
  induction k with
  | zero=>intro _;exact ⟨σ,N,SLe.refl _,fun i _ h=>by omega,fun i c _=>(h.2 i c).1⟩
  | succ k E=>
   intro V
   obtain ⟨σ1,q,g,l,r⟩:=E (by omega)
   have d:k<a.length:=by omega
   have L:Y2 σ1 w a[k] (bools n (m k)):=⟨r k d (Nat.le_refl _),(h.2 k d).2⟩
   obtain ⟨y,O,D,t,Q⟩:=L.keep q (C _ (List.getElem_mem d))
   refine ⟨y,O,g.more ⟨t⟩,fun i c z=>?_,fun i c A=>?_⟩
   ·by_cases e:i=k
    ·subst e;exact D
    ·exact (l i c (by omega)).le t
   ·rw[Q]
    ·exact r i c (by omega)
    ·intro e
     have:=List.nodup_iff_pairwise_ne.1 h.1
     rw[List.pairwise_iff_getElem] at this
     exact this k i d c (by omega) e.symm
 obtain ⟨σ1,q,g,l,_⟩:=key a.length (Nat.le_refl _)
 refine ⟨σ1,q,g,fun i c=>⟨some ⟨a[i],0,none⟩,n,by simp,by simp,by simp only[maxLen];omega,fun e=>(by cases e),?_⟩⟩
 intro b H
 obtain rfl:=Option.some.inj H
 refine ⟨fun _=>rfl,fun j x f=>?_⟩
 have u:j<n:=by have:=(List.getElem?_eq_some_iff.1 f).1;simpa using this
 obtain ⟨R,arr,e,J,B,M⟩:=l i c c
 have p:x=m i j:=by simp[u] at f;exact f.symm
 refine ⟨[.bool x],⟨I6 rfl _,arr,e,J,by rw[S9];exact B,fun k v o=>?_⟩,rfl,rfl⟩
 obtain rfl:k=0:=by cases k with
  | zero=>rfl
  | succ k=>simp at o
 simp at o
 rw[Qg,←o,p]
 have:=M j _ (Q4y u)
 simpa using this
end Go.Emb

namespace Go.Emb
open Go.RowKit Go.Hm
variable {P : Program} {w w0 w1 w' w'' : World} {K : Value → World → Prop} {σ σ0 σ1 σ' : Q6}
theorem Q1E {t e:TypeId} {sz b:Nat} {z:Value} [ts:TS P t e] [tz:TZ P e sz b z] {a:Addr} {n c i:Nat} (f:i<n) (d:K (.pointer (some (a.add (i*sz)))) w):indexAddr P t (.slice (some a) n c) (I i) w K:=by
 rw[Eb (by omega) (by omega)]
 simpa using d
theorem Qy.nx {D:Nat→Prop} {a:List Nat} {n:Nat} {m:Nat→Nat→Bool} (h:Qy σ w a n m) (k:Nxt D w σ w' σ') (d: ∀b∈a,¬D b):Qy σ' w' a n m:=
 ⟨h.1,fun i c=>(h.2 i c).nx k (d _ (List.getElem_mem c))⟩
theorem Qy.set {a:List Nat} {n i j:Nat} {b:Bool} {m:Nat→Nat→Bool} (h:Qy σ w a n m) (d:i<a.length) (o:Upd w a[i] w') (g:Y2 σ w' a[i] ((bools n (m i)).set j (.bool b))):Qy σ w' a n (Ff m i j b):=by
 refine ⟨h.1,fun k c=>?_⟩
 by_cases e:k=i
 ·subst e
  rw[Q4w] at g
  have:Ff m k j b k=fun x=>if x=j then b else m k x:=by funext x;simp[Ff]
  rw[this];exact g
 ·have:Ff m i j b k=m k:=by funext x;simp[Ff,e]
  rw[this]
  refine (h.2 k c).upd o fun f=>e ?_
  rcases Nat.lt_trichotomy k i with hlt | hlt | hlt
  ·have:=List.nodup_iff_pairwise_ne.1 h.1
   rw[List.pairwise_iff_getElem] at this
   exact absurd f (this k i c d hlt)
  ·exact hlt
  ·have:=List.nodup_iff_pairwise_ne.1 h.1
   rw[List.pairwise_iff_getElem] at this
   exact absurd f.symm (this i k d c hlt)
end Go.Emb
namespace Go.Proofs.YtjdiakhipmggjaaGreatDoor
open Go.Emb Go.RowKit Go.Kd Go.Hm
variable {w : World} {K : Value → World → Prop} {σ : Q6} {l : List Cla} {v : Value}
def Mk (l:List Cla) (i j:Nat):Bool:=match l[i]? with
 | none=>false
 | some c=>(U3 c).any fun u=>decide (Z2 l u=some j)
theorem X00 (l:List Cla) (i j:Nat):Mk l i j=true↔Hm.Edge l i j:=by
 unfold Mk Hm.Edge
 cases h:l[i]? with
 | none=>simp
 | some c=>simp[List.any_eq_true]
theorem Q9c {l:List Cla} {i j:Nat} (h:l.length≤i):Mk l i j=false:=by
 unfold Mk
 rw[List.getElem?_eq_none h]
set_option maxHeartbeats 4000000 in
theorem Q13 (hs:X3 w σ) (hl:Sl 8 V0 σ v l) (ho:T6 l) (hpos:0<l.length) (hlen:l.length≤1000) (hsm: ∀c∈l,Qm c)
 (h: ∀v' w' σ',Stp w σ w' σ'→Sl 1 Q5M σ' v' (I2 l)→K v' w'):Q1 P F.aj [v] w K:=Kp (by
 unfold Md
 refine Eh (R:=Q5N l.length) (e:=T.a6) (Stp.refl hs) (by decide) fun x0 w1 hk1 ha1 _=>?_
 refine E4 l.length (fun n x w'=> ∃σ' bs,Stp w σ w' σ'∧V5 w.heap.size T.a6 1 (Q5N l.length) σ' w' x bs∧Qy σ' w' bs l.length (Mk l)∧bs.length=n∧ ∀b∈bs,w.heap.size≤b∧x.ownBlock≠some b) ⟨σ,[],hk1,ha1,⟨List.nodup_nil,by simp⟩,rfl,by simp⟩ fun n x w2 d hn hinv=>?_
 obtain ⟨σ2,bs,hS2,ha2,hM2,hbl,hb2⟩:=hinv
 refine Q8 (hl.up hS2) ?_
 refine Z0 ?_
 refine Q7 (fun hc=>?_) (fun hc=>?_)
 ·have hn':n<l.length:=by simpa using hc
  have hl2:=hl.up hS2
  refine Q8 hl2 ?_
  refine X2J hS2.sat rfl (by omega) (by omega) fun b w3 hb3 hk3 hm3=>?_
  rw[Q71] at hm3
  obtain ⟨lv,fv,mv,p1,r1⟩:=hl2.elC hn'
  obtain ⟨g1,_,_,g4,g5⟩:=r1.parts
  have hsmc:=hsm _ (List.getElem_mem hn')
  have hs3:=hk3.sat
  refine U2 hs3 ?_
  (repeat refine J0 A8 ?_)
  refine Q1i (w:=w3) (σ:=σ2) (R:=U8) (sz:=1) (e:=T.c) [l[n].super] (fun t w hb e=>?_) ?_
  ·subst e;exact Zc hb.stp [_] [l[n].super] rfl rfl (by simp;rfl) rfl ⟨⟨rfl,g5⟩,trivial⟩ fun v' w' hk ha _=>Q2Q hb hk ha
  (repeat refine J0 A8 ?_)
  rintro t24 t25 t30 t31 t26 t27 t32 w4 hb4 rfl rfl rfl rfl rfl ⟨f27,a27⟩ rfl
  refine Wk f27 a27 g1 rfl (by simp;have:=hsmc.1;omega) (by simp;have:=hsmc.1;omega) fun v5 w5 hn5 hS5 ha5 hat5=>?_
  obtain ⟨σ6,hS6,hv6,le6,_⟩:=ha5.keep hS5
  have hv6:Sl 1 U8 σ6 v5 (U3 l[n]):=hv6
  have hb3w:w.heap.size≤b:=Nat.le_trans hS2.bel.size hb3
  have hm6:=hm3.up hS6
  have ha6:=(ha2.up hk3).up hS6
  have hM6:=(hM2.up hk3).up hS6
  have hS26:=(hS2.trans hk3).trans hS6
  have hxb: ∀k,x.ownBlock=some k→k≠b:=fun k e=>by have:=(ha2.mem k e).2.1;omega
  have hbbs:b∉bs:=fun e=>by have:=(hM2.lt e).1;omega
  clear hm3 ha2 hM2 hS6 hS5 ha5 a27 f27 hn5 hat5
  refine U0 (U3 l[n]).length (fun k w'=>Stp w σ w' σ6∧V5 w.heap.size T.a6 1 (Q5N l.length) σ6 w' x bs∧Qy σ6 w' bs l.length (Mk l)∧Y2 σ6 w' b (bools l.length fun j=>((U3 l[n]).take k).any fun u=>decide (Z2 l u=some j)))
   ⟨hS26,ha6,hM6,hm6⟩ fun k w7 d7 hk hinv=>?_
  obtain ⟨hS7,ha7,hM7,hm7⟩:=hinv
  refine Q8 hv6 ?_
  refine Z0 ?_
  refine Q7 (fun hc=>?_) (fun hc=>?_)
  ·have hk':k<(U3 l[n]).length:=by simpa using hc
   refine U6 ?_
   refine Y1 hv6 hk' ?_
   obtain ⟨p2,p3⟩:=hv6.elS hk'
   refine X7 hS7.sat p2 rfl ?_
   refine I8 hS7.sat (hl.up hS7) ?_
   refine P6 ?_
   rw[T8]
   have hnx: ∀f:Nat→Bool,(∀j,f j=(((U3 l[n]).take k).any (fun u=>decide (Z2 l u=some j))||decide (Z2 l (U3 l[n])[k]=some j)))→f=fun j=>((U3 l[n]).take (k+1)).any fun u=>decide (Z2 l u=some j):=by
    intro f hf;funext j;rw[hf,L3 hk']
   cases hfc:Z2 l (U3 l[n])[k] with
   | none=>
    simp only[Option.isSome_none,↓M1,M1,Mb,reduceIte]
    intro d
    refine Y5 hv6.max hk' ⟨hS7,ha7,hM7,?_⟩
    rw[←hnx (fun j=>((U3 l[n]).take k).any fun u=>decide (Z2 l u=some j)) (fun j=>by rw[hfc];simp)]
    exact hm7
   | some j=>
    have hj:=(S3 hfc).1
    simp only[Option.isSome_some,L5,↓M1,M1,Mb,reduceIte]
    refine Q1E hj ?_
    rw[Nat.mul_one]
    refine Uf hm7 (by rw[Q0B];exact hj) (by rfl) (by rfl) fun w8 u8 hm8=>?_
    intro d
    rw[Q4w] at hm8
    refine Y5 hv6.max hk' ⟨u8.stp hS7 hb3w hm7.1,ha7.kp (D:=(· =b)) (.of_upd u8 rfl) hxb,hM7.kp (D:=(· =b)) (.of_upd u8 rfl) (fun c hc e=>hbbs (e▸hc)),?_⟩
    rw[←hnx (fun x=>if x=j then true else _) (fun i=>?_)]
    ·exact hm8
    ·rw[hfc]
     by_cases e:i=j
     ·subst e;simp
     ·have: ¬j=i:=fun e'=>e e'.symm
      simp[e,this]
  ·have hk': ¬k<(U3 l[n]).length:=by simpa using hc
   have hk0:k=(U3 l[n]).length:=by omega
   subst hk0
   rw[List.take_of_length_le (Nat.le_refl _)] at hm7
   have hef:(fun j=>(U3 l[n]).any fun u=>decide (Z2 l u=some j))=Mk l n:=by
    funext j;unfold Mk;rw[List.getElem?_eq_getElem hn']
   rw[hef] at hm7
   have hM8:=(hM7.snoc hbbs hm7).congr (m':=Mk l) (fun i _=>by
    by_cases e:i=bs.length
    ·rw[if_pos e,e,hbl]
    ·rw[if_neg e])
   refine Jl (R:=Q5N l.length) (x:=b) hS7 ha7 rfl rfl rfl rfl (by omega) (by omega) fun s v' w9 σ9 hnx hS9 ha9 hat=>?_
   have hdis: ∀c∈bs++[b],w.heap.size≤c∧x.ownBlock≠some c:=by
    intro c hc
    rcases List.mem_append.1 hc with hc | hc
    ·exact hb2 c hc
    ·simp at hc;subst hc;exact ⟨hb3w,fun e=>hxb _ e rfl⟩
   have hlt9: ∀c∈bs++[b],c<w7.heap.size:=fun c hc=>(hM8.lt hc).1
   refine N3 ?_
   refine J3 (by omega) hn' ⟨σ9,bs++[b],hS9,ha9,hM8.nx hnx (fun c hc=>(hdis c hc).2),by rw[List.length_append,hbl];rfl,fun c hc=>⟨(hdis c hc).1,fun e=>?_⟩⟩
   rcases hat with hat | hat
   ·exact (hdis c hc).2 (hat▸e)
   ·have:=hat c e;have:=hlt9 c hc;omega
 ·have hn0:n=l.length:=by
   have: ¬n<l.length:=by simpa using hc
   omega
  obtain ⟨σ8,hS8,hv8,le8,old8⟩:=ha2.keep hS2
  have hlb:bs.length=l.length:=by omega
  have hM8:Qy σ8 w2 bs l.length (Mk l):=⟨hM2.1,fun i hi=>⟨(old8 _ (fun e=>(hb2 _ (List.getElem_mem hi)).2 e.symm)).trans (hM2.2 i hi).1,(hM2.2 i hi).2⟩⟩
  have hpx: ∀i (hi:i<bs.length),Z4 σ8 (Vo 1 x i) [.slice (some ⟨bs[i],0,none⟩) l.length l.length]:=fun i hi=>by
   obtain ⟨cs,h1,_,h2⟩:=hv8.el hi
   have h2:cs=_:=h2
   subst h2;exact h1
  clear ha2 hM2 hS2 le8 old8
  refine U0 l.length (fun k w'=> ∃m,Stp w σ w' σ8∧Qy σ8 w' bs l.length m∧Clos (Hm.Edge l) l.length k 0 0 m) ⟨Mk l,hS8,hM8,Clos.start (fun a b _=>X00 l a b) (fun a b h=>Q9c h)⟩ fun k w3 d3 hk3 hinv=>?_
  obtain ⟨m3,hS3,hM3,hC3⟩:=hinv
  refine Q8 (hl.up hS3) ?_
  refine Z0 ?_
  refine Q7 (fun hc=>?_) (fun hc=>?_)
  ·have hk':k<l.length:=by simpa using hc
   refine U0 l.length (fun i w'=> ∃m,Stp w σ w' σ8∧Qy σ8 w' bs l.length m∧Clos (Hm.Edge l) l.length k i 0 m) ⟨m3,hS3,hM3,hC3⟩ fun i w4 d4 hi4 hinv=>?_
   obtain ⟨m4,hS4,hM4,hC4⟩:=hinv
   refine Q8 (hl.up hS4) ?_
   refine Z0 ?_
   refine Q7 (fun hc=>?_) (fun hc=>?_)
   ·have hi':i<l.length:=by simpa using hc
    refine U0 l.length (fun j w'=> ∃m,Stp w σ w' σ8∧Qy σ8 w' bs l.length m∧Clos (Hm.Edge l) l.length k i j m) ⟨m4,hS4,hM4,hC4⟩ fun j w5 d5 hj5 hinv=>?_
    obtain ⟨m5,hS5,hM5,hC5⟩:=hinv
    refine Q8 (hl.up hS5) ?_
    refine Z0 ?_
    refine Q7 (fun hc=>?_) (fun hc=>?_)
    ·have hj':j<l.length:=by simpa using hc
     have hi6:i<bs.length:=by omega
     have hk6:k<bs.length:=by omega
     have px_i:=hpx i hi6
     have px_k:=hpx k hk6
     have hrd: ∀{w':World} {K:Value→World→Prop} {a b:Nat} {ha:a<bs.length},Hst w5 σ8 w' σ8→b<l.length→K (.bool (m5 a b)) w'→Q2 P T.u (.pointer (some ((⟨bs[a],0,none⟩:Addr).add (b*1)))) w' K:=fun hst hb hK=>by
      rw[Nat.mul_one]
      exact Qf (((hM5.up hst.stp).2 _ _).cell (Q4y hb)) hK
     refine U2 hS5.sat ?_
     (repeat (apply J0;(· intros;(repeat (rename_i hx;subst hx));(repeat' (first | (with_reducible exact O3 rfl) | (with_reducible exact R9 (Stp.bel (by (repeat (first | exact Stp.refl (by (first | assumption | exact Stp.sat (by assumption) | exact Hst.sat (by assumption))) | assumption | refine Stp.trans ?_ (by first | assumption | exact Hst.stp (by assumption)))))) rfl) | (with_reducible intro _) | (simp only[↓M2,M2,Mb,reduceIte]) | (with_reducible refine Q1E au ?_) | (with_reducible refine hrd au au ?_) | (with_reducible show Q2 _ _ _ _ _;first | refine X7 aS aL aR ?_ | refine Y4 aS aL aR ?_ | refine ld aS aL aR ?_) | (with_reducible show indexAddr _ _ _ _ _ _;refine Y1 aL au ?_) | (with_reducible show X2 _ _ _ _ _ _ _ _;refine Q8 aL ?_) | (with_reducible show F3 _ _ _ _ _ _;refine Z9 aR ?_) | (with_reducible show pick _ _ _ _ _ _;refine M0 ?_) | (apply F8;intro hh;(try simp only[hh,reduceIte,↓M2,M2,Mb,reduceIte]))));done)))
     cases h1:m5 i j
     ·simp only[reduceIte]
      (repeat (apply J0;(· intros;(repeat (rename_i hx;subst hx));(repeat' (first | (with_reducible exact O3 rfl) | (with_reducible exact R9 (Stp.bel (by (repeat (first | exact Stp.refl (by (first | assumption | exact Stp.sat (by assumption) | exact Hst.sat (by assumption))) | assumption | refine Stp.trans ?_ (by first | assumption | exact Hst.stp (by assumption)))))) rfl) | (with_reducible intro _) | (simp only[↓M2,M2,Mb,reduceIte]) | (with_reducible refine Q1E au ?_) | (with_reducible refine hrd au au ?_) | (with_reducible show Q2 _ _ _ _ _;first | refine X7 aS aL aR ?_ | refine Y4 aS aL aR ?_ | refine ld aS aL aR ?_) | (with_reducible show indexAddr _ _ _ _ _ _;refine Y1 aL au ?_) | (with_reducible show X2 _ _ _ _ _ _ _ _;refine Q8 aL ?_) | (with_reducible show F3 _ _ _ _ _ _;refine Z9 aR ?_) | (with_reducible show pick _ _ _ _ _ _;refine M0 ?_) | (apply F8;intro hh;(try simp only[hh,reduceIte,↓M2,M2,Mb,reduceIte]))));done)))
      (intros;(repeat (rename_i hx;subst hx));(try simp only[↓M2,M2,Mb,reduceIte]))
      rename_i w6 hb6
      refine Q1E hj' ?_
      rw[Nat.mul_one]
      refine Eq.subst (motive:=fun V=>X9 P T.u (.pointer (some ((⟨bs[i],0,none⟩:Addr).add j))) V w6 _) (show Value.bool (m5 i j||(m5 i k&&m5 k j))=_ from by cases h2:m5 i k<;>simp[h1,h2]) ?_
      refine Uf ((hM5.up hb6.stp).2 i hi6) (by rw[Q0B];exact hj') (by rfl) (by rfl) fun w7 u7 hm7=>?_
      (try simp only[↓M1,M1,Mb,reduceIte])
      exact Y5 (by omega) hj' ⟨_,u7.stp (hS5.trans hb6.stp) (hb2 _ (List.getElem_mem hi6)).1 hm7.1,(hM5.up hb6.stp).set hi6 u7 hm7,hC5.next hk' hi' hj'⟩
     ·simp only[Bool.true_eq_false,reduceIte]
      (repeat (apply J0;(· intros;(repeat (rename_i hx;subst hx));(repeat' (first | (with_reducible exact O3 rfl) | (with_reducible exact R9 (Stp.bel (by (repeat (first | exact Stp.refl (by (first | assumption | exact Stp.sat (by assumption) | exact Hst.sat (by assumption))) | assumption | refine Stp.trans ?_ (by first | assumption | exact Hst.stp (by assumption)))))) rfl) | (with_reducible intro _) | (simp only[↓M2,M2,Mb,reduceIte]) | (with_reducible refine Q1E au ?_) | (with_reducible refine hrd au au ?_) | (with_reducible show Q2 _ _ _ _ _;first | refine X7 aS aL aR ?_ | refine Y4 aS aL aR ?_ | refine ld aS aL aR ?_) | (with_reducible show indexAddr _ _ _ _ _ _;refine Y1 aL au ?_) | (with_reducible show X2 _ _ _ _ _ _ _ _;refine Q8 aL ?_) | (with_reducible show F3 _ _ _ _ _ _;refine Z9 aR ?_) | (with_reducible show pick _ _ _ _ _ _;refine M0 ?_) | (apply F8;intro hh;(try simp only[hh,reduceIte,↓M2,M2,Mb,reduceIte]))));done)))
      (intros;(repeat (rename_i hx;subst hx));(try simp only[↓M2,M2,Mb,reduceIte]))
      rename_i w6 hb6
      refine Q1E hj' ?_
      rw[Nat.mul_one]
      refine Eq.subst (motive:=fun V=>X9 P T.u (.pointer (some ((⟨bs[i],0,none⟩:Addr).add j))) V w6 _) (show Value.bool (m5 i j||(m5 i k&&m5 k j))=_ from by simp[h1]) ?_
      refine Uf ((hM5.up hb6.stp).2 i hi6) (by rw[Q0B];exact hj') (by rfl) (by rfl) fun w7 u7 hm7=>?_
      (try simp only[↓M1,M1,Mb,reduceIte])
      exact Y5 (by omega) hj' ⟨_,u7.stp (hS5.trans hb6.stp) (hb2 _ (List.getElem_mem hi6)).1 hm7.1,(hM5.up hb6.stp).set hi6 u7 hm7,hC5.next hk' hi' hj'⟩
    ·have hj0:j=l.length:=by
      have: ¬j<l.length:=by simpa using hc
      omega
     subst hj0
     refine N3 ?_
     exact Y5 (by omega) hi' ⟨m5,hS5,hM5,hC5.row⟩
   ·have hi0:i=l.length:=by
     have: ¬i<l.length:=by simpa using hc
     omega
    subst hi0
    refine N3 ?_
    exact Y5 (by omega) hk' ⟨m4,hS4,hM4,hC4.round⟩
  ·have hk0:k=l.length:=by
    have: ¬k<l.length:=by simpa using hc
    omega
   subst hk0
   obtain ⟨σ9,hS9,le9,hrows⟩:=hM3.keep hpos (by omega) hS3 (fun b hb=>(hb2 b hb).1)
   refine h _ _ _ hS9 ((hv8.lift le9).conv (by simp[I2,hlb]) fun i hi hj cs hcs=>?_)
   have hcs:cs=_:=hcs
   subst hcs
   refine ⟨_,rfl,?_⟩
   have:=hrows i hi
   have he:(I2 l)[i]=(List.range l.length).map (m3 i):=by
    have hi':i<l.length:=by omega
    simp only[I2,List.getElem_map,List.getElem_range]
    apply List.map_congr_left
    intro j hj
    exact (Clos.all ho hC3 hi' (by simpa using hj)).symm
   rw[he];exact this)
end Go.Proofs.YtjdiakhipmggjaaGreatDoor

namespace Go.Emb
open Go.RowKit Go.Hm
end Go.Emb
namespace Go.Hm
end Go.Hm
namespace Go.Proofs.YtjdiakhipmggjaaGreatDoor
open Go.Emb Go.RowKit Go.Kd Go.Hm
variable {w : World} {K : Value → World → Prop} {σ : Q6} {l : List Cla}
end Go.Proofs.YtjdiakhipmggjaaGreatDoor

namespace Go.Emb
open Go.RowKit Go.Hm
variable {w w0 w1 w' w'' : World} {σ σ0 σ1 σ2 σ' : Q6}
theorem Stp.weak (h:Stp w σ1 w' σ2) (a: ∀b o,σ b=some o→σ1 b=some o):Stp w σ w' σ:=
 ⟨h.bel,fun b o e=>h.sat b o (h.le b o (a b o e)),fun _ _ e=>e,fun _ _=>rfl⟩
end Go.Emb
namespace Go.Proofs.YtjdiakhipmggjaaGreatDoor
open Go.Emb Go.RowKit Go.Kd Go.Hm
variable {w : World} {K : Value → World → Prop} {σ : Q6}
end Go.Proofs.YtjdiakhipmggjaaGreatDoor

namespace Go.Emb
open Go.RowKit Go.Hm
variable {w w' : World} {σ σ' : Q6}
theorem J7.raise {α:Type} {R:Q6→α→List Value→Prop} {B B' sz:Nat} {e:TypeId} {v:Value} {xs:List α} (h:J7 B' e sz R σ w v xs) (m: ∀k,v.ownBlock=some k→B≤k):J7 B e sz R σ w v xs:=by
 obtain ⟨a,i,rfl,r,n,d,o⟩:=h
 refine ⟨a,i,rfl,r,n,fun b c=>⟨(d b c).1,m _ (by subst c;rfl),(d b c).2.2⟩,fun p=>?_⟩
 obtain ⟨g,j,f,rfl,s,q⟩:=o p
 exact ⟨g,j,f,rfl,m g rfl,q⟩
end Go.Emb
namespace Go.Proofs.YtjdiakhipmggjaaGreatDoor
open Go.Emb Go.RowKit Go.Kd Go.Hm
variable {w w' : World} {K : Value → World → Prop} {σ σ' : Q6} {hp tv : Value} {room : Int} {cs : List Cel} {l : List Cla}
theorem RowsIs.rows {B:Nat} {D:Nat→Prop} {m:Value} (h:RowsIs B D σ w m cs) (z:X3 w σ): ∃vs σ',vs.length=cs.length∧X3 w σ'∧SLe σ σ'∧Sl 2 Q3y σ' m (R8 vs cs)∧(∀i (h:i<vs.length) (v:i<cs.length),J7 B T.g 4 M7 σ w vs[i] cs[i].vals∧ ∀k,vs[i].ownBlock=some k→D k)∧(∀k,¬D k→σ' k=σ k)∧
 ∀i (h:i<vs.length) (v:i<cs.length) vals' f,Kpt (fun k=>vs[i].ownBlock=some k) w f→J7 B T.g 4 M7 σ f vs[i] vals'→RowsIs B D σ f m (cs.set i ⟨cs[i].kind,vals'⟩):=by
 obtain ⟨vs,t,n,u,hD⟩:=h.ex
 obtain ⟨o,r⟩:=List.pairwise_cons.1 u
 obtain ⟨σ',C,A,E,o1⟩:=t.freeze z
 refine ⟨vs,σ',n.1,C,A,E,fun i b d=>⟨n.2 i b d,fun k c=>(hD k).2 ⟨vs[i],by simp[List.getElem_mem b],c⟩⟩,fun k c=>o1 k fun e=>c ((hD k).2 ⟨m,by simp,e.symm⟩),fun i b d vals' f c y=>⟨vs,?_,⟨by simpa using n.1,fun j s q=>?_⟩,u,hD⟩⟩
 ·have e:R8 vs (cs.set i ⟨cs[i].kind,vals'⟩)=R8 vs cs:=by
   refine List.ext_getElem (by simp[R8]) fun j J H=>?_
   simp only[R8,List.getElem_zipWith,List.getElem_set]
   split
   ·rename_i e;subst e;rfl
   ·rfl
  rw[e]
  exact t.kp c fun k a g=>o _ (List.getElem_mem b) k a g
 ·have p:j<cs.length:=by simpa using q
  simp only[List.getElem_set]
  by_cases e:i=j
  ·subst e;simp only[if_pos];exact y
  ·simp only[if_neg e]
   refine (n.2 j s p).kp c fun k a g=>?_
   have hp:=List.pairwise_iff_getElem.1 r
   rcases Nat.lt_or_gt_of_ne e with hlt | hlt
   ·exact hp i j b s hlt k g a
   ·exact hp j i s b hlt k a g
theorem Q9V {i:Nat} (a:i<cs.length) {vals':List Val} (h:vals'.length=cs[i].vals.length):Y8 (cs.set i ⟨cs[i].kind,vals'⟩)=Y8 cs:=by
 unfold Y8
 rw[List.map_set]
 simp only[h]
 have b:1+(cs[i].vals.length:Int)=(cs.map (fun c=>1+(c.vals.length:Int)))[i]'(by simpa using a):=by simp
 rw[b,List.set_getElem_self]
set_option maxHeartbeats 1000000 in
theorem X19 {B:Nat} {D:Nat→Prop} {r i:Int} {v:Val} (hs:X3 w σ) (hg:Glb σ) (h:HeapIs B D σ w hp tv room cs) (ht:Tab σ tv l) (ok:Ok l) (good: ∀c∈cs,GoodC W6 l cs c) (hv:M7 σ v [I v.sort,I v.n,S v.s,I v.ref])
 (hh: ∀w' σ',Nxt D w σ w' σ'→HeapIs B D σ' w' hp tv room (H5 W6 l cs r i v).1→K (I (H5 W6 l cs r i v).2) w'):Q1 P F.b3 [hp,I r,I i, .agg [I v.sort,I v.n,S v.s,I v.ref].toArray] w K:=Q1K (by
 unfold Hu
 refine Z1 hs fun q w1 σ1 hk1 hq=>?_
 have h1:=h.up hk1
 have hs1:=hk1.sat
 obtain ⟨σf,sf,lef,hsl,_⟩:=h1.freeze hs1
 refine Q7k sf hsl ?_
 unfold H5 at hh
 refine Jf ?_
 by_cases h0:E2 cs r i=0
 case neg=>
  have e:decide (E2 cs r i=0)=false:=decide_eq_false h0
  rw[if_pos h0] at hh
  rw[e]
  refine J5 ?_
  exact hh _ _ (.of_stp hk1) h1
 have e:decide (E2 cs r i=0)=true:=decide_eq_true h0
 rw[if_neg (fun hn=>hn h0)] at hh
 rw[e]
 refine Z7 ?_
 obtain ⟨j,m,rfl,rfl,hj,hm⟩:=Lk h0
 rw[L4 hj,Int.toNat_natCast] at hh
 have hsl0:=hsl
 obtain ⟨a,lv,rfl,la,ls⟩:=hsl
 obtain ⟨vv,p1,p2,p3⟩:=Sl.elO ls hj
 have hqf:=hq.lift lef
 have lesf:SLe σ σf:=SLe.more ⟨hk1.le⟩ lef
 have htf:=ht.lift lesf
 have hone:vv.cells= #[vv]∧vv.oneCell'=true:=by obtain ⟨a,c,rfl,_⟩:=p2;exact ⟨rfl,rfl⟩
 have hgc:=good cs[j] (List.getElem_mem hj)
 have hif:elem cs[j].kind=[]→m<(Y6 l cs[j].kind).length:=fun e=>by
  rcases hgc.is with h | h
  ·exact absurd e h
  ·rw[←h.2];exact hm
 refine U2 sf ?_
 (repeat (apply J0;(· intros;(repeat (rename_i hx;subst hx));(repeat' (first | (with_reducible exact O3 rfl) | (with_reducible exact R9 (Stp.bel (by (repeat (first | exact Stp.refl (by (first | assumption | exact Stp.sat (by assumption) | exact Hst.sat (by assumption))) | assumption | refine Stp.trans ?_ (by first | assumption | exact Hst.stp (by assumption)))))) rfl) | (with_reducible intro _) | (simp only[↓M2,M2,Mb,reduceIte]) | (with_reducible show Q2 _ _ _ _ _;first | refine X7 aS aL aR ?_ | refine Y4 aS aL aR ?_ | refine ld aS aL aR ?_) | (with_reducible show indexAddr _ _ _ _ _ _;refine Y1 aL au ?_) | (with_reducible show X2 _ _ _ _ _ _ _ _;refine Q8 aL ?_) | (with_reducible show F3 _ _ _ _ _ _;refine Z9 aR ?_) | (with_reducible show pick _ _ _ _ _ _;refine M0 ?_) | (with_reducible show Q1 _ _ _ _ _;first | refine Q9X au au au au au au au ?_) | (apply F8;intro hh;(try simp only[hh,reduceIte,↓M2,M2,Mb,reduceIte]))));done)))
 (intros;(repeat (rename_i hx;subst hx)))
 rename_i w2 hb2
 refine Q92 hb2.sat (hg.lift lesf) hsl0 htf ok hv.2.2.2.1 (Q2G ok p3 m) fun w3 σ3 hk3=>?_
 have hk13:=(hb2.stp.trans hk3).weak lef.le
 have h3:=h1.up hk13
 have hS3:=hk1.trans hk13
 have hs3:=hk13.sat
 refine Wh ?_
 cases hf:B7 W6 l cs v (Xj l cs[j].kind m) with
 | false=>
  rw[hf] at hh
  simp only[Bool.false_eq_true,if_false] at hh
  refine J5 ?_
  exact hh _ _ (.of_stp hS3) h3
 | true=>
  rw[hf] at hh
  simp only[if_true] at hh
  refine Z7 ?_
  obtain ⟨b,lv',E,hpe,hbB,hm3,hr3,hE,hD⟩:=h3.ex
  obtain ⟨vs,σg,hvl,sg,leg,slg,hrow,hog,hset⟩:=hr3.rows hs3
  obtain ⟨σh,sh,leh,lih,_⟩:=(show Y2 σg w3 b _ from ⟨(hog b hE).trans hm3.1,hm3.2⟩).freeze sg
  cases hpe
  have slh:=slg.lift leh
  have hqh:=(hq.up hk13).lift (leg.more leh)
  have hjv:j<vs.length:=by rw[hvl];exact hj
  have hjo:j<(R8 vs cs).length:=by rw[Yq hvl];exact hj
  obtain ⟨cs5,p5,_,r5⟩:=slh.el hjo
  have eo:(R8 vs cs)[j]=(cs[j].kind,vs[j]):=by simp[R8]
  rw[eo] at r5
  obtain ⟨rfl,_⟩:=r5
  refine U2 sh ?_
  (repeat refine J0 A8 ?_)
  (intros;(repeat (rename_i hx;subst hx)))
  rename_i w4 hb4
  have hk34:=Stp.of_below hs3 hb4.stp.bel
  have N34:Nxt (fun _=>False) w3 σ1 w4 σ1:= .of_stp hk34
  obtain ⟨hrj,hrD⟩:=hrow j hjv hj
  have hrj4:=hrj.up hk34
  have hv1:M7 σ1 v [I v.sort,I v.n,S v.s,I v.ref]:=hv
  refine Q1p (w0:=Hy w4) (σ0:=fun _=>none) (x:=v) (A6 hk34.sat) (hrj4.mono (Nat.zero_le B)) hm rfl hv1 (Rep.one hv1) fun p u w5 hkp hb5 hq5=>?_
  have hkp5:Kpt (fun k=>vs[j].ownBlock=some k) w3 w5:=(Kpt.of_below hk34.bel).trans hkp
  have hr5:=hset j hjv hj _ w5 hkp5 (hq5.raise fun k hk=>(hrj.mem hk).1)
  have N35:Nxt (fun k=>vs[j].ownBlock=some k) w3 σ1 w5 σ1:=⟨hkp5,SLe.refl _,fun _ _=>rfl,hb5.sat⟩
  have hm5:=hm3.nx N35 fun e=>hE (hrD b e)
  have hsv:F0 cs j m v=cs.set j ⟨cs[j].kind,cs[j].vals.set m v⟩:=by unfold F0;rw[L4 hj,Int.toNat_natCast,Int.toNat_natCast]
  rw[hsv] at hh
  have htk:=Q9V hj (vals':=cs[j].vals.set m v) (by simp)
  refine hh w5 σ1 ((Nxt.of_stp hS3).chain N35 fun k _ e=>(hD k).2 (.inr (hrD k e))) ⟨b,lv',E,rfl,hbB,?_,hr5,hE,hD⟩
  rw[htk];exact hm5)
end Go.Proofs.YtjdiakhipmggjaaGreatDoor

namespace Go.Emb
open Go.RowKit Go.Hm
variable {P : Program} {w w' : World} {K : Value → World → Prop} {σ σ' : Q6}
theorem X3z {c:List TypeId} {t:TypeId} {cs:List Bool} {k:IntKind} {a b:Int} (h:K (.int k (max a b)) w):X2 P .max c t cs [.int k a, .int k b] w K:=by
 have d:(builtin .max c.toArray t cs.toArray #[.int k a, .int k b]).run P w= .ok (.value (.int k (max a b))) w:=by
  have:=run_max_int2 (P:=P) (w:=w) c.toArray t k k a b
  have e:(if b>a then b else a)=max a b:=by split<;>omega
  rw[e] at this
  simp[builtin,this]
 unfold X2
 rw[T4];unfold P2
 rw[d];exact h
theorem X40 {c:List TypeId} {t:TypeId} {cs:List Bool} {k:IntKind} {a b:Int} (h:K (.int k (min a b)) w):X2 P .min c t cs [.int k a, .int k b] w K:=by
 have d:(builtin .min c.toArray t cs.toArray #[.int k a, .int k b]).run P w= .ok (.value (.int k (min a b))) w:=by
  have:=run_min_int2 (P:=P) (w:=w) c.toArray t k k a b
  have e:(if b<a then b else a)=min a b:=by split<;>omega
  rw[e] at this
  simp[builtin,this]
 unfold X2
 rw[T4];unfold P2
 rw[d];exact h
theorem X3u {α:Type} {R:Q6→α→List Value→Prop} {B sz:Nat} {e:TypeId} {v:Value} {xs ys:List α} {t:TypeId} {d:Nat} {z:Value} [ts:TS P t e] [tz:TZ P e sz d z] (h:J7 B e sz R σ w v (xs++ys))
 (m: ∀f,J7 B e sz R σ w f xs→f.ownBlock=v.ownBlock→K f w):R6 P t v none (some (I xs.length)) none w K:=by
 have i:=h
 obtain ⟨a,b,rfl,j,o,k,p⟩:=i
 rw[List.length_append] at j
 have c:J7 B e sz R σ w (.slice a xs.length b) xs:=h.pre rfl
 generalize (xs++ys).length=N at*
 have hh: ∀w:World,(Instr.sliceBounds true N b none (some (I xs.length)) none).run P w= .ok (0,xs.length,b) w:=by
  intro w
  have q:(xs.length:Int)≤b:=by omega
  have g:xs.length≤b:=by omega
  simp[Instr.sliceBounds,Instr.sliceBound,asIntOf,g]
  try (intros;omega)
 unfold R6
 have:(Instr.sliceAt t (.slice a N b) none (some (I xs.length)) none).run P w= .ok (.slice (if b=0 then a else a.map (·.add (0*sz))) (xs.length-0) (b-0)) w:=by
  simp[Instr.sliceAt,run_underlying ts.h,Instr.slice,hh,W5 tz]
 rw[Y0 this]
 have n:(if b=0 then a else a.map (·.add (0*sz)))=a:=by
  split
  ·rfl
  ·cases a<;>simp[add_zero]
 rw[n,Nat.sub_zero,Nat.sub_zero]
 exact m _ c (by cases a<;>rfl)
end Go.Emb
namespace Go.Proofs.YtjdiakhipmggjaaGreatDoor
open Go.Emb Go.RowKit Go.Kd Go.Hm
variable {w w' : World} {K : Value → World → Prop} {σ σ' : Q6} {hp tv : Value} {room : Int} {cs : List Cel} {l : List Cla}
theorem X3b {v:Val} {ds:List Value} {n:Int} {q:Addr} (f:X3 w σ) (c:M7 σ v ds) (d:Z4 σ q [I n]) (h: ∀w',Below w.heap.size w w'→K (.bool (G0 n v)) w'):Q1 P F.bF [.agg ds.toArray, .pointer (some q)] w K:=Q02 (by
 obtain ⟨rfl,_⟩:=c
 unfold Om
 refine Z1 f fun g w1 σ1 a b=>?_
 unfold G0 at h
 refine W0 ?_
 refine ld a.sat b rfl ?_
 refine P1 ?_
 by_cases e:v.sort=4
 ·rw[decide_eq_true e] at h⊢
  (try simp only[↓M1,M1,Mb,reduceIte])
  refine ld a.sat b rfl ?_
  refine X7 a.sat (d.up a) rfl ?_
  (try simp only[↓M1,M1,Mb,reduceIte])
  exact h _ a.bel
 ·rw[decide_eq_false e] at h⊢
  (try simp only[↓M1,M1,Mb,reduceIte])
  exact h _ a.bel)
theorem Q9Y {vs:List Value} {c:Cel} (h:vs.length=cs.length+1): ∃v,R8 vs (cs++[c])=R8 (vs.take cs.length) cs++[(c.kind,v)]:=by
 refine ⟨vs[cs.length],?_⟩
 have e:vs=vs.take cs.length++[vs[cs.length]]:=by
  rw[List.take_append_getElem (by omega)]
  rw[List.take_of_length_le (by omega)]
 conv=>lhs;rw[e]
 unfold R8
 rw[List.zipWith_append (by simp;omega)]
 rfl
theorem X3s {B n:Nat} {D:Nat→Prop} {m:Value} {c:Cel} (u:n=cs.length) (h:RowsIs B D σ w m (cs++[c])) (A: ∀a D',RowsIs B D' σ w a cs→(∀j,D' j→D j)→K a w):R6 P T.f m none (some (I n)) none w K:=by
 subst u
 obtain ⟨vs,q,r,y,hD⟩:=h.ex
 have b:vs.length=cs.length+1:=by rw[r.1];simp
 obtain ⟨C,t⟩:=Q9Y (c:=c) b
 rw[t] at q
 have z:cs.length=(R8 (vs.take cs.length) cs).length:=by rw[Yq (by simp[b])]
 rw[z]
 refine X3u q fun a g s=>?_
 refine A a (fun k=> ∃v∈a::vs.take cs.length,v.ownBlock=some k) ⟨vs.take cs.length,g,⟨by simp[b],fun i E o=>?_⟩,?_,fun k=>Iff.rfl⟩ ?_
 ·have e:i<vs.length:=by omega
  have:=r.2 i e (by simp;omega)
  rw[List.getElem_append_left o] at this
  simpa using this
 ·obtain ⟨f,p⟩:=List.pairwise_cons.1 y
  exact List.pairwise_cons.2 ⟨fun v hv k d=>f v (List.mem_of_mem_take hv) k (s▸d),p.sublist (List.take_sublist _ _)⟩
 ·rintro k ⟨v,hv,d⟩
  rcases List.mem_cons.1 hv with rfl | hv
  ·exact (hD k).2 ⟨m,by simp,s▸d⟩
  ·exact (hD k).2 ⟨v,by simp[List.mem_of_mem_take hv],d⟩
set_option maxHeartbeats 2000000 in
theorem X3I {B:Nat} {D:Nat→Prop} {n:Int} (hs:X3 w σ) (h:HeapIs B D σ w hp tv room cs) (hl:Y8 cs≤1048576) (hn:Yy n)
 (hh: ∀w' σ' D',Nxt D w σ w' σ'→HeapIs B D' σ' w' hp tv room (Py cs n)→(∀j,D' j→D j)→K (.tuple #[]) w'):Q1 P F.c4 [hp,I n] w K:=Q1M (by
 have hcl:=K4 cs
 unfold Hq
 refine Q68 hs fun b0 w1 hb0 hk1 hm1=>?_
 have hm1:Y2 σ w1 b0 [I n]:=hm1
 refine Q8v hm1 rfl ?_
 refine X3z ?_
 refine st0 hm1 (by simp) rfl rfl fun w2 u2 hm2=>?_
 have hm2:Y2 σ w2 b0 [I (max n 0)]:=hm2
 unfold Py at hh
 obtain ⟨m,hmE⟩:=Int.eq_ofNat_of_zero_le (show 0≤max n 0 by omega)
 rw[hmE] at hm2 hh
 have hmx:(m:Int)≤9223372036854775807:=by have:=hn.2;omega
 have hk2:Stp w σ w2 σ:=u2.stp hk1 hb0 hm1.1
 obtain ⟨σ2,hS2,hq2,le2,_⟩:=hm2.keep hk2 hb0
 have h2:=h.up hS2
 have hs2:=hS2.sat
 obtain ⟨σf,sf,lef,hsl,_⟩:=h2.freeze hs2
 rw[Int.toNat_natCast] at hh
 obtain ⟨a,lv,rfl,la,ls⟩:=hsl
 have hqf:=hq2.le lef.le
 refine U2 sf ?_
 (repeat (apply J0;(· intros;(repeat (rename_i hx;subst hx));(repeat' (first | (with_reducible exact O3 rfl) | (with_reducible exact R9 (Stp.bel (by (repeat (first | exact Stp.refl (by (first | assumption | exact Stp.sat (by assumption) | exact Hst.sat (by assumption))) | assumption | refine Stp.trans ?_ (by first | assumption | exact Hst.stp (by assumption)))))) rfl) | (with_reducible intro _) | (simp only[↓M2,M2,Mb,reduceIte]) | (with_reducible refine X40 ?_) | (with_reducible show Q2 _ _ _ _ _;first | refine X7 aS aL aR ?_ | refine Y4 aS aL aR ?_ | refine ld aS aL aR ?_) | (with_reducible show indexAddr _ _ _ _ _ _;refine Y1 aL au ?_) | (with_reducible show X2 _ _ _ _ _ _ _ _;refine Q8 aL ?_) | (with_reducible show F3 _ _ _ _ _ _;refine Z9 aR ?_) | (with_reducible show pick _ _ _ _ _ _;refine M0 ?_) | (apply F8;intro hh;(try simp only[hh,reduceIte,↓M2,M2,Mb,reduceIte]))));done)))
 (intros;(repeat (rename_i hx;subst hx)))
 rename_i w3 hb3
 have hmin:min (m:Int) (cs.length:Int)=((min m cs.length:Nat):Int):=by omega
 rw[hmin]
 refine Ee ls none (some (I (min m cs.length:Nat))) 0 (min m cs.length) (.inl ⟨rfl,rfl⟩) (.inr rfl) (Nat.zero_le _) (Nat.min_le_right _ _) fun v3 hv3=>?_
 rw[List.drop_zero,Nat.sub_zero,List.take_eq_take_min.symm] at hv3
 refine Q8 hv3 ?_
 have hk23: ∀{w' σ'},Stp w3 σf w' σ'→Stp w2 σ2 w' σ2:=fun hk=>(hb3.stp.trans hk).weak lef.le
 refine U0 (cs.take m).length (fun i w'=> ∃σ',Stp w3 σf w' σ'∧((cs.take m).take i).any (fun c=>c.vals.any (G0 m))=false) ⟨σf,Stp.refl hb3.sat,rfl⟩ fun i w4 d hi hinv=>?_
 obtain ⟨σ4,hk4,hno⟩:=hinv
 refine Z0 ?_
 refine Q7 (fun hc=>?_) (fun hc=>?_)
 ·have hi':i<(cs.take m).length:=by simpa using hc
  have hv4:=hv3.up hk4
  obtain ⟨vv,p1,p2,p3⟩:=Sl.elO hv4 hi'
  refine Y1 hv4 hi' ?_
  refine Y4 hk4.sat p1 rfl ?_
  refine Y9 hk4.sat (by rfl) rfl (Rep.one (R:=E5) ⟨vv,rfl,p2,p3⟩) fun q5 w5 σ5 hk5 hq5=>?_
  rw[fa]
  refine ld hk5.sat hq5 rfl ?_
  rw[Qe]
  have hq5f:=hqf.lift (SLe.more ⟨hk4.le⟩ ⟨hk5.le⟩)
  refine Sz (G0 m) hk5.sat (p2.up hk5) (fun v ds w6 K hv hs6 hr hlen hK=>Z6 (first:=[]) (caps:=[.pointer (some ⟨b0,0,none⟩)]) (X3b hs6 hr hq5f hK)) fun w6 hb6=>?_
  have hk6:=(hk4.trans hk5).trans (Stp.of_below hk5.sat hb6)
  have hnx:=L3 (p:=fun c:Cel=>c.vals.any (G0 m)) hi'
  cases hany:(cs.take m)[i].vals.any (G0 m) with
  | true=>
   refine J5 ?_
   rw[if_pos (S6 hi' hany)] at hh
   have hS:=hS2.trans (hk23 hk6)
   exact hh _ _ D (.of_stp hS) (h.up hS) fun j hj=>hj
  | false=>
   refine Z7 ?_
   refine N3 ?_
   refine Y5 hv3.max hi' ⟨σ5,hk6,?_⟩
   rw[hnx,hno,hany];rfl
 have hi': ¬i<(cs.take m).length:=by simpa using hc
 rw[E0 hi'] at hno
 rw[if_neg (by rw[hno];simp)] at hh
 have hS4:=hS2.trans (hk23 hk4)
 have h4:=h.up hS4
 refine Ky (fun k (_:Unit) w'=> ∃D',Nxt D w σ w' σ2∧HeapIs B D' σ2 w' (.pointer (some a)) tv room (cs.take k)∧(∀j,D' j→D j)∧k≤cs.length∧(m≤k∨k=cs.length)) cs.length ⟨D, .of_stp hS4,by rw[List.take_length];exact h4,fun j hj=>hj,Nat.le_refl _, .inr rfl⟩ ?_
 rintro again k x d w5 ⟨D5,N5,h5,hD5,hkl,hmk⟩ hag
 have hs5:=N5.sat
 have htk:Y8 (cs.take k)≤1048576:=by
  have e:Y8 cs=Y8 (cs.take k)+Y8 (cs.drop k):=by rw[←T5,List.take_append_drop]
  have:=L8 (cs.drop k)
  omega
 obtain ⟨σg,sg,leg,hslg,_⟩:=h5.freeze hs5
 obtain ⟨ag,lvg,hpe,lag,lsg⟩:=hslg
 cases hpe
 have hqg:=(show Z4 σ2 ⟨b0,0,none⟩ [I (m:Int)] from hq2).lift leg
 have hlk:(cs.take k).length=k:=by rw[List.length_take];omega
 refine U2 sg ?_
 (repeat refine J0 A8 ?_)
 (intros;(repeat (rename_i hx;subst hx)))
 rename_i w6 hb6
 have hk56:Stp w5 σ2 w6 σ2:=hb6.stp.weak leg.le
 have h6:=h5.up hk56
 have N6:=N5.chain (Nxt.of_stp (D:=fun _=>False) hk56) fun j _ e=>e.elim
 rw[hlk]
 refine Q1x ?_
 by_cases hgt:m<k
 case neg=>
  rw[decide_eq_false (show¬(m:Int)<(k:Int) by omega)]
  refine Z7 ?_
  have e:cs.take m=cs.take k:=by
   rcases hmk with e | e
   ·rw[show m=k by omega]
   ·rw[e,List.take_length,List.take_of_length_le (by omega)]
  rw[e] at hh
  exact hh w6 σ2 D5 N6 h6 hD5
 rw[decide_eq_true (show (m:Int)<(k:Int) by omega)]
 refine J5 ?_
 obtain ⟨k1,rfl⟩: ∃k1,k=k1+1:=⟨k-1,by omega⟩
 have hk1l:k1<cs.length:=by omega
 have esnoc:cs.take (k1+1)=cs.take k1++[cs[k1]]:=by rw[List.take_append_getElem hk1l]
 have hk1t:(cs.take k1).length=k1:=by rw[List.length_take];omega
 obtain ⟨σh,sh,leh,hslh,_⟩:=h6.freeze hk56.sat
 obtain ⟨b,lv6,E6,hpb,hbB,hm6,hr6,hE6,hDe6⟩:=h6.ex
 cases hpb
 obtain ⟨ah,lvh,hpe,lah,lsh⟩:=hslh
 cases hpe
 rw[L7,fa]
 refine Yc hm6 rfl ?_
 obtain ⟨al,capl,hle⟩:=hr6.len
 rw[hlk] at hle
 subst hle
 rw[Rk]
 refine Zi ⟨by omega,by omega⟩ ?_
 have ek:((k1+1:Nat):Int)-1=(k1:Int):=by omega
 rw[ek]
 have hkk:k1<(cs.take (k1+1)).length:=by omega
 obtain ⟨vvk,pk,pk2,_⟩:=Sl.elO lsh hkk
 have evk:((cs.take (k1+1))[k1]'hkk).vals=cs[k1].vals:=by simp
 rw[evk] at pk2
 refine U2 sh ?_
 (repeat refine J0 A8 ?_)
 (intros;(repeat (rename_i hx;subst hx)))
 rename_i w7 hb7
 have hk67:Stp w6 σ2 w7 σ2:=hb7.stp.weak leh.le
 have htn:=L8 (cs.take k1)
 have etk:Y8 (cs.take (k1+1))=Y8 (cs.take k1)+(1+(cs[k1].vals.length:Int)):=by
  rw[esnoc,T5];simp[Y8]
 rw[F9 (by omega) (by omega)]
 refine Zi ⟨by omega,by omega⟩ ?_
 have eu:Y8 (cs.take (k1+1))-(1+(cs[k1].vals.length:Int))=Y8 (cs.take k1):=by omega
 rw[eu]
 have hm7:=hm6.up hk67
 have hr7:=hr6.up hk67
 rw[L7,fa]
 refine Uf hm7 (by simp) rfl rfl fun w8 u8 hm8=>?_
 have N78:=Nxt.of_upd hk67.sat u8 hm7.1
 have hr8:=hr7.nx N78 fun j hj e=>hE6 (e▸hj)
 rw[L7,fa]
 refine Yc hm8 rfl ?_
 rw[esnoc] at hr8
 refine X3s hk1t.symm hr8 fun lv9 E9 hr9 hE9=>?_
 rw[L7,fa]
 refine Uf hm8 (by simp) hr9.shape.1 hr9.shape.2 fun w9 u9 hm9=>?_
 have N89:=Nxt.of_upd N78.sat u9 hm8.1
 have hE9b: ¬E9 b:=fun e=>hE6 (hE9 b e)
 have hr9':=hr9.nx N89 fun j hj e=>hE9b (e▸hj)
 have hDb:D5 b:=(hDe6 b).2 (.inl rfl)
 have N9:Nxt D w σ w9 σ2:=((N6.chain (Nxt.of_stp (D:=fun _=>False) hk67) fun j _ e=>e.elim).chain N78 fun j _ e=>e▸hD5 b hDb).chain N89 fun j _ e=>e▸hD5 b hDb
 refine hag k1 _ _ (Nat.lt_succ_self _) ⟨fun j=>j=b∨E9 j,N9,⟨b,lv9,E9,rfl,hbB,hm9,hr9',hE9b,fun j=>Iff.rfl⟩,fun j hj=>?_,by omega, .inl (by omega)⟩
 rcases hj with rfl | hj
 ·exact hD5 _ hDb
 ·exact hD5 j ((hDe6 j).2 (.inr (hE9 j hj))))
end Go.Proofs.YtjdiakhipmggjaaGreatDoor

namespace Go.Emb
open Go.RowKit Go.Hm
variable {P : Program} {w w' w0 : World} {K : Value → World → Prop} {σ σ' σ0 : Q6}
theorem Q5C {a:List TypeId} {t:TypeId} {b:List Bool} {xs:List Value} {v:Value} (h:(Builtin.copy_ a.toArray t xs.toArray).run P w= .ok v w') (d:K v w'):X2 P .copy a t b xs w K:=by
 have c:(builtin .copy a.toArray t b.toArray xs.toArray).run P w= .ok (.value v) w':=by simp[builtin,h]
 unfold X2
 rw[T4];unfold P2
 rw[c];exact d
theorem X3e {α:Type} {R:Q6→α→List Value→Prop} {sz:Nat} {e:TypeId} {v u:Value} {xs ys:List α} {t H E:TypeId} {cb:List Bool} {L:Nat} {z:Value} [hr:Rep R] [ts:TS P t e] [tz:TZ P e sz L z] (J:Stp w0 σ0 w σ) (ha:J7 w0.heap.size e sz R σ w v xs) (hu:Sl sz R σ u ys) (A:ys.length=xs.length)
 (h: ∀w',Kpt (fun k=>v.ownBlock=some k) w w'→Stp w0 σ0 w' σ→J7 w0.heap.size e sz R σ w' v ys→K (I ys.length) w'):X2 P .copy [t,H] E cb [v,u] w K:=by
 obtain ⟨i,hi,M,ah,C⟩:=tz.info
 have d:(P.info? e).map (·.size)=some sz:=by rw[hi];simp[M]
 obtain ⟨a,f,rfl,c1,Y,o,O⟩:=ha
 have D:=hu
 obtain ⟨Z,p,rfl,k1,k2,k3,k4⟩:=hu
 by_cases h0:ys.length=0
 ·have s:ys=[]:=List.eq_nil_of_length_eq_zero h0
  subst s
  have hx:xs=[]:=List.eq_nil_of_length_eq_zero (by rw[←A];rfl)
  subst hx
  refine Q5C (Q4F w t H E e sz a Z f p ts.h d) ?_
  exact h w Kpt.refl J ⟨a,f,rfl,c1,Y,o,O⟩
 ·obtain ⟨a2,X,n,he,n1,n2,n3,n4,n5⟩:=D.cells J.sat
  injection he with e1 _ e3
  subst e1;subst e3
  cases Z with
  | none=>have:=k3 rfl;omega
  | some W=>
   obtain ⟨g,c,m,rfl,U,V,Q,q4,q5⟩:=O (by omega)
   have ao:ys.length*sz≤f*sz:=Nat.mul_le_mul_right _ (by omega)
   have r:=Q4R (P:=P) w t H E e sz g c ys.length f W p m e n ts.h d Q n2 (fun j v hv=>n3 W rfl j v hv) (by rw[n2];omega) n4
   obtain ⟨q,N⟩:=Yi (cs:=(m.toList.take c++n++m.toList.drop (c+n.length)).toArray) Q
   rw[←A]
   refine Q5C r ?_
   have av:=Array.length_toList (xs:=m)
   refine h _ (Kpt.of_upd q rfl) (q.stp J U V) ⟨_,f,(by rw[A]),by rw[A];exact c1,Y,fun b B=>⟨(o b B).1,(o b B).2.1,by rw[q.size];exact (o b B).2.2.1,(o b B).2.2.2⟩,fun _=>⟨g,c,_,rfl,U,V,N,?_,fun j y s=>?_⟩⟩
   ·simp;omega
   ·have hj:j<ys.length:=(List.getElem?_eq_some_iff.1 s).1
    have ap:j*sz+sz≤ys.length*sz:=by rw[←Nat.succ_mul];exact Nat.mul_le_mul_right _ hj
    have:=n5 j y s
    rw[List.toList_toArray,List.append_assoc,List.drop_append,List.drop_eq_nil_of_le (by rw[List.length_take];omega),List.nil_append,List.length_take,show c+j*sz-min c m.toList.length=j*sz by omega,List.drop_append_of_le_length (by omega),List.take_append_of_le_length (by rw[List.length_drop];omega)]
    exact this
theorem Nxt.stp' {D:Nat→Prop} (N:Nxt D w σ w' σ') (a:Stp w0 σ0 w σ) (f: ∀k,D k→w0.heap.size≤k):Stp w0 σ0 w' σ':=
 ⟨⟨N.kp.os.trans a.bel.os,N.kp.tape.trans a.bel.tape,N.kp.output.trans a.bel.output,Nat.le_trans a.bel.size N.kp.size,fun k d=>(N.kp.block k (Nat.lt_of_lt_of_le d a.bel.size) fun h=>absurd (f k h) (by omega)).trans (a.bel.block k d)⟩,N.sat,fun b o e=>N.le.le b o (a.le b o e),fun b c=>(N.old b (Nat.lt_of_lt_of_le c a.bel.size)).trans (a.old b c)⟩
end Go.Emb
namespace Go.Proofs.YtjdiakhipmggjaaGreatDoor
open Go.Emb Go.RowKit Go.Kd Go.Hm
variable {w w' : World} {K : Value → World → Prop} {σ σ' : Q6} {hp tv : Value} {room : Int} {cs : List Cel} {l : List Cla}
theorem RowsIs.nil {B:Nat}:RowsIs B (fun _=>False) σ w (.slice none 0 0) []:=
 ⟨[],J7.of_acc V5.nil,⟨rfl,fun i h=>absurd h (Nat.not_lt_zero i)⟩,List.pairwise_singleton _ _,fun k=>by simp[Value.ownBlock]⟩
set_option maxHeartbeats 1000000 in
theorem Q7E (hs:X3 w σ) (hh:H9 σ hp tv room cs) (hl:Y8 cs≤1048576)
 (h: ∀v w' σ' D,Stp w σ w' σ'→RowsIs w.heap.size D σ' w' v cs→K v w'):Q1 P F.ab [hp] w K:=Tu (by
 obtain ⟨a,lv,rfl,la,X⟩:=hh
 have aj:=K4 cs
 unfold Ou
 rw[L7,fa]
 refine ld hs la rfl ?_
 refine Q8 X ?_
 refine E4 cs.length (fun n x w'=> ∃σ' D,Stp w σ w' σ'∧RowsIs w.heap.size D σ' w' x (cs.take n)) ⟨σ,_,Stp.refl hs,RowsIs.nil⟩ fun n x w1 d hn y=>?_
 obtain ⟨σ1,D1,f,H⟩:=y
 refine Z0 ?_
 refine Q7 (fun O=>?_) (fun O=>?_)
 ·have b:n<cs.length:=by simpa using O
  have r:=X.up f
  obtain ⟨vv,p1,p2,Y⟩:=Sl.elO r b
  have ak:(cs[n].vals.length:Int)≤1048576:=by
   have e:Y8 cs=Y8 (cs.take n)+Y8 (cs.drop n):=by rw[←T5,List.take_append_drop]
   have e2:Y8 (cs.drop n)=(1+(cs[n].vals.length:Int))+Y8 (cs.drop (n+1)):=by
    rw[List.drop_eq_getElem_cons b];simp only[Y8,List.map_cons,List.sum_cons]
   have h3:=L8 (cs.take n)
   have J:=L8 (cs.drop (n+1))
   omega
  refine Y1 r b ?_
  refine Y4 f.sat p1 rfl ?_
  refine Y9 f.sat (by rfl) rfl (Rep.one (R:=E5) ⟨vv,rfl,p2,Y⟩) fun q w2 W c o=>?_
  have u:=f.trans c
  have A:=p2.up c
  rw[fa]
  refine ld c.sat o rfl ?_
  refine Q8 A ?_
  refine Q9I (sz:=4) (R:=M7) (x0:=Val.zero) c.sat rfl (by decide) ⟨rfl,by decide⟩ (by omega) (by omega) fun M w3 g U B=>?_
  have L:=u.trans g
  rw[fa]
  refine ld g.sat (o.up g) rfl ?_
  have Q:=(J7.of_acc U).mono (B':=w.heap.size) u.bel.size
  refine X3e L Q (A.up g) (by simp) fun w4 N m p=>?_
  have h3:=(H.up c).up g
  have C: ∀j,M.ownBlock=some j→ ¬D1 j:=fun j E hD=>by
   have:=((H.up c).mem hD).2.1;have:=B j E;omega
  have N4:Nxt (fun k=>M.ownBlock=some k) w3 W w4 W:=⟨N,SLe.refl _,fun _ _=>rfl,m.sat⟩
  have J:=h3.nx N4 fun j E e=>C j e E
  rw[fa]
  refine ld (i:=0) m.sat o rfl ?_
  have z:=p
  obtain ⟨a3,Z,V,_⟩:=z
  refine V6 (cells:= #[S cs[n].kind,M]) (by rw[V];kernel_rfl) ?_
  refine Q8M m.sat m.bel.size J p C Y (by rw[List.length_take];omega) fun s al w5 σ5 D5 N5 t h5 _ _=>?_
  refine N3 ?_
  refine J3 (by omega) b ⟨σ5,D5,N5.stp' m fun j E=>(J.mem (t j E)).1,?_⟩
  rw[List.take_add_one,List.getElem?_eq_getElem b]
  exact h5
 ·have b: ¬n<cs.length:=by simpa using O
  rw[List.take_of_length_le (by omega)] at H
  exact h _ _ _ _ f H)
end Go.Proofs.YtjdiakhipmggjaaGreatDoor

namespace Go.Proofs.YtjdiakhipmggjaaGreatDoor
open Go.Emb Go.RowKit Go.Kd Go.Hm
variable {w : World} {K : Value → World → Prop} {σ : Q6} {l : List Cla} {v : Value}
theorem Q4p {c:Cla} {n:X0} (h:Ry c n=none):B9 c n=none:=by
 unfold B9 Ry at*
 rw[List.findIdx?_eq_none_iff] at h
 rw[List.find?_eq_none]
 intro m a
 have:=h m a
 simpa using this
theorem Q7I {c:Cla} {n:X0} {i:Nat} (h:Ry c n=some i): ∃a:i<c.methods.length,B9 c n=some c.methods[i]:=by
 unfold B9 Ry at*
 obtain ⟨a,d,e⟩:=List.findIdx?_eq_some_iff_getElem.1 h
 refine ⟨a,List.find?_eq_some_iff_getElem.2 ⟨d,i,a,rfl,fun j b=>?_⟩⟩
 have:=e j b
 simpa using this
theorem Q16 {n:X0} (h:lk l n=none):Z2 l n=none:=by
 cases b:Z2 l n with
 | none=>rfl
 | some i=>obtain ⟨c,a,_⟩:=Zl b;rw[h] at a;cases a
set_option maxHeartbeats 1000000 in
theorem Q91 {n:X0} (ok:Ok l): ∀(k:Nat) {c:Cla} {cs:List Value} {w:World} {σ:Q6} {K:Value→World→Prop},K6 l c.name<k→lk l c.name=some c→X3 w σ→Sl 8 V0 σ v l→V0 σ c cs→
 (∀pv cv hv w' Z,Stp w σ w' Z→E8 Z (o2 (V4 l c n)) [S (o2 (V4 l c n)).name,pv,S (o2 (V4 l c n)).result, .bool (o2 (V4 l c n)).abs,I (o2 (V4 l c n)).locals,cv,hv]→
  K (.tuple #[S (o1 (V4 l c n)), .agg [S (o2 (V4 l c n)).name,pv,S (o2 (V4 l c n)).result, .bool (o2 (V4 l c n)).abs,I (o2 (V4 l c n)).locals,cv,hv].toArray, .bool (V4 l c n).isSome]) w')→
 Q1 P F.aM [v, .agg cs.toArray,S n] w K:=by
 intro k
 induction k with
 | zero=>
  intro c cs w σ K hk
  omega
 | succ k ih=>
  intro c cs w σ K hk hc hs hv hr h
  refine Kh ?_
  obtain ⟨lv,fv,mv,rfl,g1,g2,g3,g4,g5⟩:=hr
  have D:=Q4g ok.acy hc n
  generalize hf:(fun u=>match lk l u with | none=>none | some d=>match B9 d n with | some m=>some (u,m) | none=>V4 l d n)=f at D
  unfold Nu
  refine Z1 hs fun a w1 σ1 H a3=>?_
  refine M8 H.sat fun b w2 σ2 hb Y a0=>?_
  have X:w.heap.size≤b:=N0 hb H
  have a1:=a3.up Y
  have g1:=(g1.up H).up Y
  refine U0 c.like.length (fun i w'=> ∃Z,Stp w σ w' Z∧SLe σ2 Z∧Y2 Z w' b [S [], .slice none 0 0,S [], .bool false,I 0, .slice none 0 0, .slice none 0 0]∧(c.like.take i).findSome? f=none) ⟨σ2,H.trans Y,SLe.refl _,a0,rfl⟩ fun i w3 d hi ah=>?_
  obtain ⟨σ3,e,W,aj,A⟩:=ah
  have V:=hv.up e
  have Q:=a1.lift W
  have C:=g1.lift W
  (try simp only[↓M1,M1,Mb,reduceIte])
  refine ld e.sat Q rfl ?_
  refine Q8 C ?_
  refine Z0 ?_
  refine Q7 (fun hh=>?_) (fun hh=>?_)
  ·have g:i<c.like.length:=by simpa using hh
   (try simp only[↓M1,M1,Mb,reduceIte])
   refine ld e.sat Q rfl ?_
   refine Y1 C g ?_
   obtain ⟨p0,_⟩:=C.elS g
   refine X7 e.sat p0 rfl ?_
   obtain ⟨d,hd⟩:=ok.full c (V3 hc).2.1 _ (List.getElem_mem g)
   obtain ⟨N,bl,_⟩:=V3 hd
   have p:f c.like[i]=match B9 d n with | some m=>some (c.like[i],m) | none=>V4 l d n:=by rw[←hf];simp only[hd]
   refine Bb e.sat V hd fun j hj b0=>?_
   obtain ⟨ad,ar⟩:=List.getElem?_eq_some_iff.1 hj
   refine Y1 V ad ?_
   obtain ⟨bu,br,bk,p1,r1⟩:=V.elC ad
   rw[ar] at p1 r1
   refine Y4 e.sat p1 rfl ?_
   refine Y9 e.sat (by rfl) rfl (Rep.one r1) fun q w4 σ4 o R=>?_
   refine Y4 o.sat R rfl ?_
   refine Q7H o.sat (RCl_lift r1 ⟨o.le⟩) fun w5 σ5 t=>?_
   refine P6 ?_
   rw[T8]
   have B:=(e.trans o).trans t
   have E:=(aj.step o).step t
   have a6:=R.up t
   have r5:=RCl_lift r1 ⟨(o.trans t).le⟩
   have U:=t.sat
   have a7:SLe σ2 σ5:=W.more ⟨(o.trans t).le⟩
   clear R p1 r1 p0 Q C o t
   cases ho:Ry d n with
   | some i2=>
    obtain ⟨ao,a5⟩:=Q7I ho
    rw[a5] at p
    simp only[Option.isSome_some,L5,↓M1,M1,Mb,reduceIte]
    obtain ⟨_,_,a9,_,_⟩:=r5.parts
    obtain ⟨pv,cv,bx,p2,r2⟩:=a9.elM ao
    refine U2 U ?_
    (repeat refine J0 A8 ?_)
    (intros;(repeat (rename_i hx;subst hx));(try simp only[↓M2,M2,Mb,reduceIte]))
    rename_i w6 ab
    refine F6 (E.step ab.stp) (B.trans ab.stp) X rfl rfl (Rep.one r2) fun w8 aq ax=>?_
    refine V1 ax rfl ?_
    have O:=D.trans (Xm g A p)
    rw[O] at h
    rw[N]
    exact h _ _ _ w8 σ5 aq.stp r2
   | none=>
    rw[Q4p ho] at p
    simp only[Option.isSome_none,↓M1,M1,Mb,reduceIte]
    refine Y4 U a6 rfl ?_
    have bs:=Xy ok.acy hc (by simp[U3,List.getElem_mem g]:c.like[i]∈U3 c) hd
    refine ih (by rw[N];omega) (by rw[N];exact hd) U (hv.up B) r5 fun pv cv bo w8 σ8 z L=>?_
    refine J6 (vs:=[_,_,_]) rfl ?_
    refine J6 (vs:=[_,_,_]) rfl ?_
    refine J6 (vs:=[_,_,_]) rfl ?_
    refine Y9 z.sat (by rfl) rfl (Rep.one L) fun q w9 σ9 y ba=>?_
    have ai:=(B.trans z).trans y
    have ae:=(E.step z).step y
    have M:=RMe_lift L ⟨y.le⟩
    have a8:SLe σ2 σ9:=a7.more ⟨(z.trans y).le⟩
    have ay:=y.sat
    cases O:V4 l d n with
    | some r=>
     obtain ⟨s,m⟩:=r
     rw[O] at p M ba
     clear L z y
     simp only[O,Option.isSome_some,↓M1,M1,Mb,reduceIte]
     refine U2 ay ?_
     (repeat refine J0 A8 ?_)
     (intros;(repeat (rename_i hx;subst hx));(try simp only[↓M2,M2,Mb,reduceIte]))
     rename_i bv J
     refine F6 (ae.step J.stp) (ai.trans J.stp) X rfl rfl (Rep.one M) fun a4 aa ak=>?_
     refine V1 ak rfl ?_
     have a2:=D.trans (Xm g A p)
     rw[a2] at h
     exact h _ _ _ a4 σ9 aa.stp M
    | none=>
     rw[O] at p
     simp only[Option.isSome_none,↓M1,M1,Mb,reduceIte]
     refine Y5 (by have:=g1.max;omega) g ⟨σ9,ai,a8,ae,?_⟩
     rw[Xn g A];exact p
  ·have g: ¬i<c.like.length:=by simpa using hh
   rw[List.take_of_length_le (by omega)] at A
   refine Fv ?_
   refine F6 aj e X rfl rfl (Rep.one (Qx (σ:=σ3))) fun w5 B E=>?_
   refine V1 E rfl ?_
   have O:=D.trans A
   rw[O] at h
   exact h _ _ _ w5 σ3 B.stp Qx
set_option maxHeartbeats 1000000 in
theorem Q8C {k n:X0} (hs:X3 w σ) (hv:Sl 8 V0 σ v l) (ok:Ok l)
 (h: ∀pv cv hv w' O,Stp w σ w' O→E8 O (o2 (V2 l k n)) [S (o2 (V2 l k n)).name,pv,S (o2 (V2 l k n)).result, .bool (o2 (V2 l k n)).abs,I (o2 (V2 l k n)).locals,cv,hv]→
  K (.tuple #[S (o1 (V2 l k n)), .agg [S (o2 (V2 l k n)).name,pv,S (o2 (V2 l k n)).result, .bool (o2 (V2 l k n)).abs,I (o2 (V2 l k n)).locals,cv,hv].toArray, .bool (V2 l k n).isSome]) w'):
 Q1 P F.be [v,S k,S n] w K:=Gu (by
 unfold Ld
 refine M8 hs fun b w1 σ1 hb ab a5=>?_
 refine I8 ab.sat (hv.up ab) ?_
 unfold V2 at h
 generalize hF:(fun c:Cla=>(B9 c n).map (c.name,·))=F1 at h
 have ag: ∀c,F1 c=(B9 c n).map (c.name,·):=fun c=>by rw[←hF]
 refine Ky (fun m x w'=> ∃s E O,m=(chain l s).length∧x=I (L5 (Z2 l s))∧chain l k=E++chain l s∧Stp w σ w' O∧Y2 O w' b [S [], .slice none 0 0,S [], .bool false,I 0, .slice none 0 0, .slice none 0 0]∧E.findSome? F1=none)
  (chain l k).length ⟨k,[],σ1,rfl,rfl,rfl,ab,a5,rfl⟩ ?_
 rintro Z m x d w2 ⟨s,E,σ2,rfl,rfl,a,H,an,f⟩ B
 have D:=hv.up H
 have Q:=H.sat
 refine P6 ?_
 rw[T8]
 cases A:lk l s with
 | some c=>
  obtain ⟨aj,a0,i,ac,R⟩:=V3 A
  obtain ⟨t,Y⟩:=List.getElem?_eq_some_iff.1 R
  simp only[ac,Option.isSome_some,L5,↓M1,M1,Mb,reduceIte]
  refine Y1 D t ?_
  obtain ⟨lv,fv,mv,y,L⟩:=D.elC t
  rw[Y] at y L
  refine Y4 Q y rfl ?_
  refine Q7H Q L fun w3 σ3 j=>?_
  refine P6 ?_
  rw[T8]
  have o:=H.trans j
  have g:=D.up j
  have z:=an.step j
  have u:=j.sat
  replace y:=y.up j
  replace L:=RCl_lift L ⟨j.le⟩
  have p:chain l s=c::chain l c.super:=by rw[A7 ok.acy s,A]
  cases W:Ry c n with
  | some i2=>
   obtain ⟨ar,az⟩:=Q7I W
   simp only[Option.isSome_some,L5,↓M1,M1,Mb,reduceIte]
   obtain ⟨_,_,a1,_,_⟩:=L.parts
   obtain ⟨pv,cv,bi,p2,r2⟩:=a1.elM ar
   clear j
   refine U2 u ?_
   (repeat refine J0 A8 ?_)
   (intros;(repeat (rename_i hx;subst hx));(try simp only[↓M2,M2,Mb,reduceIte]))
   rename_i w4 am
   refine F6 (z.step am.stp) (o.trans am.stp) hb rfl rfl (Rep.one r2) fun w8 aw ay=>?_
   refine V1 ay rfl ?_
   have J:(chain l k).findSome? F1=some (c.name,c.methods[i2]):=by
    rw[a,List.findSome?_append,f,p,List.findSome?_cons,ag,az];rfl
   rw[J] at h
   exact h _ _ _ w8 σ3 aw.stp r2
  | none=>
   simp only[Option.isSome_none,↓M1,M1,Mb,reduceIte]
   refine Y1 g t ?_
   (try simp only[↓M1,M1,Mb,reduceIte])
   refine ld u y rfl ?_
   refine I8 u g ?_
   refine B (chain l c.super).length _ _ (by rw[p,List.length_cons];omega) ⟨c.super,E++[c],σ3,rfl,rfl,by rw[a,p];simp,o,z,?_⟩
   rw[List.findSome?_append,f]
   simp[ag,Q4p W]
 | none=>
  rw[Q16 A]
  simp only[Option.isSome_none,↓M1,M1,Mb,reduceIte]
  have ae:(chain l k).findSome? F1=none:=by rw[a,Ym A,List.append_nil];exact f
  rw[ae] at h
  clear B f a
  refine I8 Q D ?_
  refine Ky (fun m x w'=> ∃s E O,m=(chain l s).length∧x=I (L5 (Z2 l s))∧chain l k=E++chain l s∧Stp w σ w' O∧Y2 O w' b [S [], .slice none 0 0,S [], .bool false,I 0, .slice none 0 0, .slice none 0 0]∧E.findSome? (fun c=>V4 l c n)=none)
   (chain l k).length ⟨k,[],σ2,rfl,rfl,rfl,H,an,rfl⟩ ?_
  rintro Z m x d w3 ⟨s,E,σ3,rfl,rfl,a,o,z,f⟩ B
  have g:=hv.up o
  have u:=o.sat
  refine P6 ?_
  rw[T8]
  cases A:lk l s with
  | some c=>
   obtain ⟨aj,a0,i,ac,R⟩:=V3 A
   obtain ⟨t,Y⟩:=List.getElem?_eq_some_iff.1 R
   simp only[ac,Option.isSome_some,L5,↓M1,M1,Mb,reduceIte]
   refine Y1 g t ?_
   obtain ⟨lv,fv,mv,y,L⟩:=g.elC t
   rw[Y] at y L
   refine Y4 u y rfl ?_
   have p:chain l s=c::chain l c.super:=by rw[A7 ok.acy s,A]
   refine Q91 ok _ (Nat.lt_succ_self _) (by rw[aj];exact A) u g L fun pv cv bf w8 σ8 V U=>?_
   refine J6 (vs:=[_,_,_]) rfl ?_
   refine J6 (vs:=[_,_,_]) rfl ?_
   refine J6 (vs:=[_,_,_]) rfl ?_
   refine Y9 V.sat (by rfl) rfl (Rep.one U) fun q w9 σ9 C a2=>?_
   have e:=V.trans C
   have al:=o.trans e
   have ai:=z.step e
   have X:=RMe_lift U ⟨C.le⟩
   have aa:=C.sat
   have ah:=g.up e
   replace y:=y.up e
   cases W:V4 l c n with
   | some r=>
    obtain ⟨s,m⟩:=r
    rw[W] at X a2
    clear U V C e
    simp only[W,Option.isSome_some,↓M1,M1,Mb,reduceIte]
    refine U2 aa ?_
    (repeat refine J0 A8 ?_)
    (intros;(repeat (rename_i hx;subst hx));(try simp only[↓M2,M2,Mb,reduceIte]))
    rename_i bd N
    refine F6 (ai.step N.stp) (al.trans N.stp) hb rfl rfl (Rep.one X) fun ax ak ao=>?_
    refine V1 ao rfl ?_
    have J:(chain l k).findSome? (fun c=>V4 l c n)=some (s,m):=by
     rw[a,List.findSome?_append,f,p,List.findSome?_cons,W];rfl
    unfold V4 at J
    rw[J] at h
    exact h _ _ _ ax σ9 ak.stp X
   | none=>
    simp only[Option.isSome_none,↓M1,M1,Mb,reduceIte]
    refine Y1 ah t ?_
    (try simp only[↓M1,M1,Mb,reduceIte])
    refine ld aa y rfl ?_
    refine I8 aa ah ?_
    refine B (chain l c.super).length _ _ (by rw[p,List.length_cons];omega) ⟨c.super,E++[c],σ9,rfl,rfl,by rw[a,p];simp,al,ai,?_⟩
    rw[List.findSome?_append,f]
    simp[W]
  | none=>
   rw[Q16 A]
   simp only[Option.isSome_none,↓M1,M1,Mb,reduceIte]
   have M:(chain l k).findSome? (fun c=>V4 l c n)=none:=by rw[a,Ym A,List.append_nil];exact f
   refine Fv ?_
   refine F6 z o hb rfl rfl (Rep.one (Qx (σ:=σ3))) fun w7 a6 a3=>?_
   refine V1 a3 rfl ?_
   unfold V4 at M
   rw[M] at h
   exact h _ _ _ w7 σ3 a6.stp Qx)
end Go.Proofs.YtjdiakhipmggjaaGreatDoor

namespace Go.Hm
open Go.Kd
theorem Q2i: ∀(xs:List X0) (x:X0),xs≠[]→H8 (xs++[x])=H8 xs++[44]++x
 | [],_,h=>absurd rfl h
 | [a],x,_=>by simp[H8]
 | a::b::r,x,_=>by
  have:=Q2i (b::r) x (by simp)
  simp only[List.cons_append] at this⊢
  simp only[H8,this]
  simp
theorem Q24 {xs:List X0} {n:Nat} (h:n<xs.length):H8 (xs.take (n+1))=H8 (xs.take n)++(if 0<n then [44] else [])++xs[n]:=by
 rw[List.take_add_one,List.getElem?_eq_getElem h]
 simp only[Option.toList_some]
 cases n with
 | zero=>simp[H8]
 | succ n=>
  rw[Q2i _ _ (by intro e;have:=congrArg List.length e;simp only[List.length_take,List.length_nil] at this;omega)]
  simp
end Go.Hm
namespace Go.Proofs.YtjdiakhipmggjaaGreatDoor
open Go.Emb Go.RowKit Go.Kd Go.Hm
variable {w : World} {K : Value → World → Prop} {σ : Q6} {l : List Cla} {v : Value}
theorem Q5x {m:Hm.Met} {cs:List Value} (y:X3 w σ) (D:E8 σ m cs) (k:SmM m) (o:NmM m) (h: ∀w' C,Stp w σ w' C→K (S (Qu m)) w'):Q1 P F.aV [.agg cs.toArray] w K:=Am (by
 obtain ⟨pv,H,N,rfl,f,O,R,U,J,Q⟩:=D
 unfold Ot
 refine Z1 y fun q w1 σ1 g j=>?_
 have f:=f.up g
 have A: ∀n,(H8 (m.params.take n)).length≤101000000:=fun n=>by
  have:=Rd (m.params.take n) fun x t=>o.2 x (List.mem_of_mem_take t)
  have z:(m.params.take n).length≤1000000:=by rw[List.length_take];have:=k.1;omega
  have M:(m.params.take n).length*101≤1000000*101:=Nat.mul_le_mul_right _ z
  omega
 have c:=g.sat
 refine E4 m.params.length (fun n a w'=>w'=w1∧a=S ([40]++H8 (m.params.take n))) ⟨rfl,by simp[H8]⟩ fun n a L d B i=>?_
 obtain ⟨E,rfl⟩:=i
 subst E
 have s:=A n
 (try simp only[↓M1,M1,Mb,reduceIte])
 refine ld c j rfl ?_
 refine Q8 f ?_
 refine Z0 ?_
 refine Q7 (fun r=>?_) (fun r=>?_)
 ·have b:n<m.params.length:=by simpa using r
  have t:=o.2 _ (List.getElem_mem b)
  refine U6 ?_
  obtain ⟨u,_⟩:=f.elS b
  refine Q7 (fun p=>?_) (fun p=>?_)
  ·have e:0<n:=by have:=of_decide_eq_true p;omega
   refine Re (by simp only[List.length_append,List.length_cons,List.length_nil];omega) ?_
   intro d
   (try simp only[↓M1,M1,Mb,reduceIte])
   refine ld c j rfl ?_
   refine Y1 f b ?_
   refine X7 c u rfl ?_
   refine Re (by simp only[List.length_append,List.length_cons,List.length_nil];omega) ?_
   (try simp only[↓M1,M1,Mb,reduceIte])
   refine J3 f.max b ⟨rfl,?_⟩
   rw[Q24 b,if_pos e];simp
  ·have e: ¬0<n:=by have:=of_decide_eq_false p;omega
   intro d
   (try simp only[↓M1,M1,Mb,reduceIte])
   refine ld c j rfl ?_
   refine Y1 f b ?_
   refine X7 c u rfl ?_
   refine Re (by simp only[List.length_append,List.length_cons,List.length_nil];omega) ?_
   (try simp only[↓M1,M1,Mb,reduceIte])
   refine J3 f.max b ⟨rfl,?_⟩
   rw[Q24 b,if_neg e];simp
 ·have b: ¬n<m.params.length:=by simpa using r
  rw[List.take_of_length_le (by omega)] at s⊢
  refine Re (by simp only[List.length_append,List.length_cons,List.length_nil];omega) ?_
  (try simp only[↓M1,M1,Mb,reduceIte])
  refine ld c j rfl ?_
  refine Re (by simp only[List.length_append,List.length_cons,List.length_nil];have:=o.1;omega) ?_
  exact h _ _ g)
end Go.Proofs.YtjdiakhipmggjaaGreatDoor

namespace Go.Emb
open Go.RowKit Go.Hm
structure FinT (B : Nat) (F : Option Obj → Prop) (w w' : World) : Prop where
  os : w'.os = w.os
  tape : w'.tape = w.tape
  output : w'.output = w.output
  size : w.heap.size ≤ w'.heap.size
  old : ∀ k, k < w.heap.size → k < B → w'.heap[k]? = w.heap[k]?
  new : ∀ k, k < w.heap.size → w'.heap[k]? = w.heap[k]? ∨ F (w'.heap[k]?)
section
variable {P : Program} {B : Nat} {F : Option Obj → Prop} {w w' w0 : World} {σ : Q6} {v V : Value} {K : Value → World → Prop}
theorem FinT.of_below (h:Below w.heap.size w w'):FinT B F w w':=⟨h.os,h.tape,h.output,h.size,fun k a _=>h.block k a,fun k a=> .inl (h.block k a)⟩
theorem FinT.of_upd {b:Nat} (h:Upd w b w') (c:B≤b) (hF:F (w'.heap[b]?)):FinT B F w w':=
 ⟨h.os,h.tape,h.output,by rw[h.size];exact Nat.le_refl _,fun k a hB=>h.block k (by omega),fun k a=>by
  by_cases e:k=b
  ·subst e;exact .inr hF
  ·exact .inl (h.block k e)⟩
theorem FinT.hst (h:FinT w0.heap.size F w w') (c:X3 w0 σ) (a:Hst w0 σ w σ):Hst w0 σ w' σ:=
 ⟨Stp.of_below c ⟨h.os.trans a.stp.bel.os,h.tape.trans a.stp.bel.tape,h.output.trans a.stp.bel.output,Nat.le_trans a.stp.bel.size h.size,fun k b=>(h.old k (Nat.lt_of_lt_of_le b a.stp.bel.size) b).trans (a.stp.bel.block k b)⟩⟩
theorem X2Y {A:(World→World→Prop)→(World→Prop)→Prop} (F:Option Obj→Prop) (a:X3 w σ) (h:A (FinT w.heap.size F) (fun w'=>Hst w σ w' σ)):dr w A:=
 Is _ _ ⟨Stp.of_below a (Below.refl _ _).drew⟩ (fun _ _ b c=>c.hst a b) h
theorem Q54 (h:V=v):dk (FinT B F) (fun v _=>V=v) w v w:=⟨.of_below (Below.refl _ _),h⟩
theorem X1X (a:Below w.heap.size w w') (h:V=v):dk (FinT B F) (fun v _=>V=v) w v w':=⟨.of_below a,h⟩
def X3n (B n:Nat) (F:Option Obj→Prop) (v:Value) (w:World):Prop:= ∃g,v= .pointer (some ⟨g,0,none⟩)∧B≤g∧((∃cs:List Value,∃e,cs.length=n∧w.heap[g]? =some (.cells cs.toArray e (0,0)))∨F (w.heap[g]?))
def X2H (B:Nat) (F:Option Obj→Prop) (v:Value) (w:World):Prop:= ∃g,v= .pointer (some ⟨g,0,none⟩)∧B≤g∧F (w.heap[g]?)
theorem Kk {w:World} {g:Nat} {o:Obj} (h:w.heap[g]? =some o):g<w.heap.size:=(Array.getElem?_eq_some_iff.1 h).1
theorem Q83 {n:Nat} (hF: ¬F none):Ss (FinT B F) (X3n B n F):=by
 rintro v w w' ⟨g,rfl,hB,c⟩ d
 have a:g<w.heap.size:=by
  rcases c with ⟨cs,e,_,h⟩ | h
  ·exact Kk h
  ·cases b:w.heap[g]? with
   | none=>rw[b] at h;exact absurd h hF
   | some o=>exact Kk b
 rcases d.new g a with h | h
 ·exact ⟨g,rfl,hB,by rw[h];exact c⟩
 ·exact ⟨g,rfl,hB, .inr h⟩
theorem Q8J (hF: ¬F none):Ss (FinT B F) (X2H B F):=by
 rintro v w w' ⟨g,rfl,hB,b⟩ d
 have a:g<w.heap.size:=by
  cases c:w.heap[g]? with
  | none=>rw[c] at b;exact absurd b hF
  | some o=>exact Kk c
 rcases d.new g a with h | h
 ·exact ⟨g,rfl,hB,by rw[h];exact b⟩
 ·exact ⟨g,rfl,hB,h⟩
end
end Go.Emb
namespace Go.Hm
open Go.Kd
theorem Q6D {a b:List Hm.Met} (h: ∀m,m∈a↔m∈b):Mj a=Mj b:=by
 rw[Bool.eq_iff_iff]
 simp only[Mj,List.any_eq_true]
 constructor
 ·rintro ⟨x,d,y,c,e⟩;exact ⟨x,(h x).1 d,y,(h y).1 c,e⟩
 ·rintro ⟨x,d,y,c,e⟩;exact ⟨x,(h x).2 d,y,(h y).2 c,e⟩
theorem X0y {α:Type} {a b:List α} {p:α→Bool} (h: ∀m,m∈a↔m∈b):a.any p=b.any p:=by
 rw[Bool.eq_iff_iff]
 simp only[List.any_eq_true]
 constructor
 ·rintro ⟨x,c,y⟩;exact ⟨x,(h x).1 c,y⟩
 ·rintro ⟨x,c,y⟩;exact ⟨x,(h x).2 c,y⟩
def Zb (m:Hm.Met):List X0:=m.params++if m.result=[] then [] else [m.result]
def Uh (c:Cla):List X0:=c.fields.map (·.kind)++c.methods.flatMap Zb
theorem Q9L {l:List Cla} {c:Cla}:(Uh c).any (fun s=> !O6 l s)=B5 l c:=by
 unfold Uh B5 Zb
 rw[List.any_append,List.any_map,List.any_flatMap]
 congr 1
 congr 1
 funext m
 rw[List.any_append]
 by_cases e:m.result=[]
 ·simp[e]
 ·simp[e,Bool.or_comm]
def upB (l:List Cla) (i k:Nat):Bool:=decide (k=i)||Xg l (Y3 l i) (Y3 l k)
def Xf (l:List Cla) (i n:Nat):List Hm.Met:=(List.range n).flatMap fun k=>if upB l i k then (l.getD k Cla.zero).methods else []
theorem Q8D {l:List Cla} {i n:Nat}:Xf l i (n+1)=Xf l i n++if upB l i n then (l.getD n Cla.zero).methods else []:=by
 unfold Xf
 rw[List.range_succ,List.flatMap_append]
 simp
theorem Q4C {l:List Cla} (r:T6 l) {i:Nat} (n:i<l.length) (m:Hm.Met):m∈Xf l i l.length↔m∈Lb l (Y3 l i):=by
 unfold Xf Lb
 simp only[List.mem_flatMap,List.mem_range]
 have a: ∀k,k<l.length→lk l (Y3 l k)=some (l.getD k Cla.zero):=fun k g=>Yf r g
 constructor
 ·rintro ⟨k,g,d⟩
  split at d
  ·rename_i hu
   refine ⟨Y3 l k,?_,by rw[a k g];exact d⟩
   rw[Uq,Q0Q]
   simp only[upB,Bool.or_eq_true,decide_eq_true_eq,Jp] at hu
   rcases hu with rfl | hu
   ·exact .inl ⟨rfl,_,a _ g⟩
   ·exact .inr hu
  ·simp at d
 ·rintro ⟨u,hu,d⟩
  rw[Uq] at hu
  obtain ⟨c,q⟩:=hu.right
  obtain ⟨s,p,j,A,b⟩:=V3 q
  obtain ⟨h,z⟩:=List.getElem?_eq_some_iff.1 b
  have f:Y3 l j=u:=by
   unfold Y3;rw[List.getD_eq_getElem?_getD,b];exact s
  refine ⟨j,h,?_⟩
  rw[q] at d
  have:upB l i j=true:=by
   simp only[upB,Bool.or_eq_true,decide_eq_true_eq,Jp]
   rw[Q0Q] at hu
   rcases hu with ⟨e,_⟩ | hu
   ·left
    have y:=a i n
    rw[e,←f] at y
    have o:=T6.find r (i:=i) (c:=l[i]) (List.getElem?_eq_getElem n)
    have t:l[i].name=Y3 l i:=by unfold Y3;rw[List.getD_eq_getElem?_getD,List.getElem?_eq_getElem n];rfl
    rw[t,e,A] at o
    simpa using o
   ·right;rw[f];exact hu
  rw[if_pos this,List.getD_eq_getElem?_getD,b]
  exact d
theorem Q9w {l:List Cla} {i n:Nat} {m:Hm.Met} (h:m∈Xf l i n) (d:n≤l.length): ∃c∈l,m∈c.methods:=by
 unfold Xf at h
 simp only[List.mem_flatMap,List.mem_range] at h
 obtain ⟨k,e,a⟩:=h
 split at a
 ·have b:k<l.length:=by omega
  rw[List.getD_eq_getElem?_getD,List.getElem?_eq_getElem b] at a
  exact ⟨l[k],List.getElem_mem _,a⟩
 ·simp at a
def T9 (a:List Hm.Met) (x y:Nat):Bool:=decide ((a.getD x Hm.Met.zero).name=(a.getD y Hm.Met.zero).name)&& !decide (Qu (a.getD x Hm.Met.zero)=Qu (a.getD y Hm.Met.zero))
theorem Bh {α:Type} {l:List α} {d:α} {n:Nat} (h:n<l.length):l.getD n d=l[n]:=by rw[List.getD_eq_getElem?_getD,List.getElem?_eq_getElem h];rfl
theorem Q9q {a:List Hm.Met} {x y:Nat} (c:x<a.length) (b:y<a.length) (h:T9 a x y=true):Mj a=true:=by
 unfold Mj
 rw[List.any_eq_true]
 refine ⟨a[x],List.getElem_mem _,?_⟩
 rw[List.any_eq_true]
 refine ⟨a[y],List.getElem_mem _,?_⟩
 unfold T9 at h
 rwa [Bh c,Bh b] at h
theorem X0I {d:List Hm.Met} (h: ∀x y,x<d.length→y<x→T9 d x y=false):Mj d=false:=by
 unfold Mj
 rw[List.any_eq_false]
 intro a k
 rw[List.any_eq_true]
 rintro ⟨b,j,f⟩
 obtain ⟨x,i,rfl⟩:=List.getElem_of_mem k
 obtain ⟨y,g,rfl⟩:=List.getElem_of_mem j
 have e:T9 d y x=T9 d x y:=by
  unfold T9
  congr 1
  ·rw[Bool.eq_iff_iff];simp[eq_comm]
  ·congr 1;rw[Bool.eq_iff_iff];simp[eq_comm]
 have c:T9 d x y=true:=by unfold T9;rw[Bh i,Bh g];exact f
 rcases Nat.lt_trichotomy x y with hlt | heq | hlt
 ·rw[←e,h y x g hlt] at c;cases c
 ·subst heq;simp[T9] at c
 ·rw[h x y i hlt] at c;cases c
end Go.Hm
namespace Go.Proofs.YtjdiakhipmggjaaGreatDoor
open Go.Emb Go.RowKit Go.Kd Go.Hm
variable {w : World} {K : Value → World → Prop} {σ : Q6} {l : List Cla} {v : Value}
theorem Kn {c:Cla} (h:Zp c=false):c.fields.length≤32∧c.methods.length≤32∧ ∀m∈c.methods,m.params.length≤32:=by
 simp only[Zp,Bool.or_eq_false_iff,decide_eq_false_iff_not,List.any_eq_false] at h
 obtain ⟨⟨⟨a,e⟩,f⟩,d⟩:=h
 refine ⟨by omega,by omega,fun m b=>?_⟩
 have:=a m b
 simp only[Wi,Bool.or_eq_true,decide_eq_true_eq,not_or] at this
 omega
set_option maxHeartbeats 8000000 in
theorem Q6r {i:Nat} (hs:X3 w σ) (hv:Sl 8 V0 σ v l) (ok:Ok l) (own:T6 l) (hlen:l.length≤1000) (hmn: ∀c∈l,Zp c=false) (hi:i<l.length)
 (h: ∀w' σ',Stp w σ w' σ'→K (I (V8 l l[i])) w'):Q1 P F.b8 [v,I i] w K:=Bt (by
 unfold Vn
 obtain ⟨lv,fv,mv,p0,r0⟩:=hv.elC hi
 refine Y1 hv hi ?_
 refine Y4 hs p0 rfl ?_
 refine Y9 hs (by rfl) rfl (Rep.one r0) fun q w1 σ1 hk1 hq1=>?_
 have r1:=RCl_lift r0 ⟨hk1.le⟩
 obtain ⟨_,gf,gm,g4,_⟩:=r1.parts
 have hv1:=hv.up hk1
 have hnm:=ok.nm _ (List.getElem_mem hi)
 have hcm:=hmn _ (List.getElem_mem hi)
 have hname:Y3 l i=l[i].name:=Po hi
 generalize hcE:l[i]=c at*
 obtain ⟨mf,mm,mp⟩:=Kn hcm
 have e64:Yk l c=true→V8 l c=64:=fun e=>by unfold V8;simp[e]
 have e65:Yk l c=false→B5 l c=true→V8 l c=65:=fun e e2=>by unfold V8;simp[e,e2]
 have e66:Yk l c=false→B5 l c=false→Zm l c=true→V8 l c=66:=fun e e2 e3=>by unfold V8;simp[e,e2,e3]
 have e67:Yk l c=false→B5 l c=false→Zm l c=false→Dl l c=true→V8 l c=67:=fun e e2 e3 e4=>by unfold V8;simp[e,e2,e3,e4]
 have e0:Yk l c=false→B5 l c=false→Zm l c=false→Dl l c=false→V8 l c=0:=fun e e2 e3 e4=>by unfold V8;simp[e,e2,e3,e4]
 generalize V8 l c=R at*
 clear p0 r0 r1 hcm
 refine U0 c.fields.length (fun n w'=> ∃σ',Stp w σ w' σ'∧SLe σ1 σ'∧(c.fields.take n).any (fun f=>(Ju l c.super f.name).isSome)=false) ⟨σ1,hk1,SLe.refl _,rfl⟩ fun n w2 d hn hinv=>?_
 obtain ⟨σ2,hS2,le2,hno⟩:=hinv
 have hq2:=hq1.lift le2
 have gf2:=gf.lift le2
 (try simp only[↓M1,M1,Mb,reduceIte])
 refine ld hS2.sat hq2 rfl ?_
 refine Q8 gf2 ?_
 refine Z0 ?_
 refine Q7 (fun hc=>?_) (fun hc=>?_)
 ·have hn':n<c.fields.length:=by simpa using hc
  obtain ⟨pf,_⟩:=gf2.elF hn'
  have hs2:=hS2.sat
  refine U2 hs2 ?_
  (repeat refine J0 A8 ?_)
  (intros;(repeat (rename_i hx;subst hx));(try simp only[↓M2,M2,Mb,reduceIte]))
  rename_i w3 hb3
  refine X03 hb3.sat (hv.up (hS2.trans hb3.stp)) ok.acy hlen ok.sm fun w4 σ4 hk4=>?_
  refine P6 ?_
  rw[T8]
  have hnx:=L3 (p:=fun f:Fld=>(Ju l c.super f.name).isSome) hn'
  cases hp:(Ju l c.super c.fields[n].name).isSome with
  | true=>
   (try simp only[↓M1,M1,Mb,reduceIte])
   rw[hp,Bool.or_true] at hnx
   have:R=64:=e64 (S6 hn' hp)
   subst this
   exact h _ _ ((hS2.trans hb3.stp).trans hk4)
  | false=>
   (try simp only[↓M1,M1,Mb,reduceIte])
   exact Y5 gf.max hn' ⟨σ4,(hS2.trans hb3.stp).trans hk4,le2.more ⟨(hb3.stp.trans hk4).le⟩,by rw[hnx,hno,hp];rfl⟩
 have hA:Yk l c=false:=by
  have hn': ¬n<c.fields.length:=by simpa using hc
  rw[E0 hn'] at hno;exact hno
 clear hno hc hn e64
 refine Eh (R:=U8) (e:=T.c) hS2 (by decide) fun x3 w3 hk3 ha3 _=>?_
 have hS3:=hS2.trans hk3
 refine E4 c.fields.length (fun n x w'=> ∃σ',Stp w σ w' σ'∧SLe σ1 σ'∧V5 w.heap.size T.c 1 U8 σ' w' x ((c.fields.take n).map (·.kind))) ⟨σ2,hS3,le2,ha3⟩ fun n x w4 d hn hinv=>?_
 obtain ⟨σ4,hS4,le4,ha4⟩:=hinv
 have hq4:=hq1.lift le4
 have gf4:=gf.lift le4
 (try simp only[↓M1,M1,Mb,reduceIte])
 refine ld hS4.sat hq4 rfl ?_
 refine Q8 gf4 ?_
 refine Z0 ?_
 refine Q7 (fun hc=>?_) (fun hc=>?_)
 ·have hn':n<c.fields.length:=by simpa using hc
  obtain ⟨pf,rf⟩:=gf4.elF hn'
  have hkl:=(hnm.2.1 _ (List.getElem_mem hn')).2
  (try simp only[↓M1,M1,Mb,reduceIte])
  refine ld hS4.sat hq4 rfl ?_
  refine Y1 gf4 hn' ?_
  (try simp only[↓M1,M1,Mb,reduceIte])
  refine ld hS4.sat pf rfl ?_
  refine Jl (R:=U8) (x:=c.fields[n].kind) hS4 ha4 ⟨rfl,Nat.le_trans hkl (by decide)⟩ rfl rfl rfl (by rw[List.length_map,List.length_take];omega) (by rw[List.length_map,List.length_take];omega) fun s v' w5 σ5 hnx hS5 ha5 _=>?_
  (try simp only[↓M1,M1,Mb,reduceIte])
  refine J3 gf.max hn' ⟨σ5,hS5,le4.more hnx.le,?_⟩
  rw[List.take_add_one,List.getElem?_eq_getElem hn',List.map_append]
  exact ha5
 rw[List.take_of_length_le (by
  have: ¬n<c.fields.length:=by simpa using hc
  omega)] at ha4
 clear hc hn hk3 ha3 hS3 hS2 le2 hq2 gf2 hq4 gf4
 have hkl: ∀n,(c.fields.map (·.kind)++(c.methods.take n).flatMap Zb).length≤2000:=fun n=>by
  have h1:=Vy Zb 33 (c.methods.take n) fun m hm=>by
   have:=mp m (List.mem_of_mem_take hm)
   unfold Zb
   split<;>simp<;>omega
  have h2:(c.methods.take n).length≤32:=by rw[List.length_take];omega
  have h3:(c.methods.take n).length*33≤32*33:=Nat.mul_le_mul_right _ h2
  rw[List.length_append,List.length_map];omega
 refine E4 c.methods.length (fun n x w'=> ∃σ',Stp w σ w' σ'∧SLe σ1 σ'∧V5 w.heap.size T.c 1 U8 σ' w' x (c.fields.map (·.kind)++(c.methods.take n).flatMap Zb)) ⟨σ4,hS4,le4,by simpa using ha4⟩ fun n x w5 d hn hinv=>?_
 clear ha4 hS4 le4
 obtain ⟨σ5,hS5,le5,ha5⟩:=hinv
 have hq5:=hq1.lift le5
 have gm5:=gm.lift le5
 have hkn:=hkl n
 (try simp only[↓M1,M1,Mb,reduceIte])
 refine ld hS5.sat hq5 rfl ?_
 refine Q8 gm5 ?_
 refine Z0 ?_
 refine Q7 (fun hc=>?_) (fun hc=>?_)
 ·have hn':n<c.methods.length:=by simpa using hc
  obtain ⟨pv,cv,hv',pm,rm⟩:=gm5.elM hn'
  obtain ⟨gp,_,_,_,gr,_⟩:=rm.parts
  have hpn:=mp _ (List.getElem_mem hn')
  have hrl:=(hnm.2.2 _ (List.getElem_mem hn')).1
  have hnx:(c.methods.take (n+1)).flatMap Zb=(c.methods.take n).flatMap Zb++Zb c.methods[n]:=by
   rw[List.take_add_one,List.getElem?_eq_getElem hn',List.flatMap_append];simp
  refine U6 ?_
  (try simp only[↓M1,M1,Mb,reduceIte])
  refine ld hS5.sat hq5 rfl ?_
  refine Y1 gm5 hn' ?_
  (try simp only[↓M1,M1,Mb,reduceIte])
  refine ld hS5.sat pm rfl ?_
  refine Wk hS5 ha5 gp rfl (by omega) (by omega) fun v6 w6 hn6 hS6 ha6 _=>?_
  (try simp only[↓M1,M1,Mb,reduceIte])
  refine ld hS6.sat hq5 rfl ?_
  refine Y1 gm5 hn' ?_
  (try simp only[↓M1,M1,Mb,reduceIte])
  refine ld hS6.sat pm rfl ?_
  refine Zy ?_
  by_cases he:c.methods[n].result=[]
  ·simp only[he,decide_true,Bool.not_true,↓M1,M1,Mb,reduceIte]
   intro d
   refine J3 gm.max hn' ⟨σ5,hS6,le5,?_⟩
   rw[hnx]
   unfold Zb
   rw[if_pos he,List.append_nil,←List.append_assoc]
   exact ha6
  ·simp only[he,decide_false,Bool.not_false,↓M1,M1,Mb,reduceIte]
   refine ld hS6.sat hq5 rfl ?_
   refine Y1 gm5 hn' ?_
   (try simp only[↓M1,M1,Mb,reduceIte])
   refine ld hS6.sat pm rfl ?_
   refine Jl (R:=U8) (x:=c.methods[n].result) hS6 ha6 ⟨rfl,Nat.le_trans hrl (by decide)⟩ rfl rfl rfl (by rw[List.length_append];omega) (by rw[List.length_append];omega) fun s v' w7 σ7 hn7 hS7 ha7 _=>?_
   intro d
   (try simp only[↓M1,M1,Mb,reduceIte])
   refine J3 gm.max hn' ⟨σ7,hS7,le5.more hn7.le,?_⟩
   rw[hnx]
   unfold Zb at ha7⊢
   rw[if_neg he]
   simpa only[List.append_assoc] using ha7
 rw[List.take_of_length_le (by
  have: ¬n<c.methods.length:=by simpa using hc
  omega)] at ha5
 have hkn:=hkl c.methods.length
 rw[List.take_of_length_le (Nat.le_refl _)] at hkn
 have hkE:B5 l c=(Uh c).any (fun s=> !O6 l s):=Q9L.symm
 have hkb: ∀s∈Uh c,s.length≤U1:=fun s hs=>by
  unfold Uh at hs
  rcases List.mem_append.1 hs with hs | hs
  ·obtain ⟨f,hf,rfl⟩:=List.mem_map.1 hs
   exact Nat.le_trans (hnm.2.1 f hf).2 (by decide)
  ·obtain ⟨m,hm,hs⟩:=List.mem_flatMap.1 hs
   unfold Zb at hs
   rcases List.mem_append.1 hs with hs | hs
   ·exact Nat.le_trans ((hnm.2.2 m hm).2 s hs) (by decide)
   ·split at hs
    ·simp at hs
    ·simp at hs;subst hs;exact Nat.le_trans (hnm.2.2 m hm).1 (by decide)
 obtain ⟨σ6,hS6,hv6,lee6,_⟩:=ha5.keep hS5
 have le6:=le5.more ⟨lee6⟩
 clear ha5 hq5 gm5 hc hn
 change Sl 1 U8 σ6 x (Uh c) at hv6
 refine U0 (Uh c).length (fun n w'=>Stp w σ w' σ6∧((Uh c).take n).any (fun s=> !O6 l s)=false) ⟨hS6,rfl⟩ fun n w7 d hn hinv=>?_
 obtain ⟨hS7,hno⟩:=hinv
 refine Q8 hv6 ?_
 refine Z0 ?_
 refine Q7 (fun hc=>?_) (fun hc=>?_)
 ·have hn':n<(Uh c).length:=by simpa using hc
  refine Y1 hv6 hn' ?_
  obtain ⟨pk,_⟩:=hv6.elS hn'
  refine X7 hS7.sat pk rfl ?_
  refine Q9u hS7.sat (hv.up hS7) (hkb _ (List.getElem_mem hn')) ?_
  have hnx:=L3 (p:=fun s=> !O6 l s) hn'
  cases hp:O6 l (Uh c)[n] with
  | false=>
   (try simp only[↓M1,M1,Mb,reduceIte])
   have:R=65:=e65 hA (by rw[hkE];exact S6 hn' (by simp[hp]))
   subst this
   exact h _ _ hS7
  | true=>
   (try simp only[↓M1,M1,Mb,reduceIte])
   exact Y5 hv6.max hn' ⟨hS7,by rw[hnx,hno,hp];rfl⟩
 have hB:B5 l c=false:=by
  have hn': ¬n<(Uh c).length:=by simpa using hc
  rw[E0 hn'] at hno;rw[hkE];exact hno
 clear hno hc hn e65 hkE hkb hkn hkl hS5 le5 lee6 hv6
 refine Q13 hS7.sat (hv.up hS7) own (by omega) hlen ok.sm fun vb w8 σ8 hk8 hb8=>?_
 have hS8:=hS7.trans hk8
 refine Eh (R:=E8) (e:=T.d) hS8 (by decide) fun x9 w9 hk9 ha9 _=>?_
 have hml: ∀n,n≤l.length→(Xf l i n).length≤32000:=fun n hn=>by
  unfold Xf
  have h1:=Vy (fun k=>if upB l i k then (l.getD k Cla.zero).methods else []) 32 (List.range n) fun k hk=>by
   have hk':k<l.length:=by have:=List.mem_range.1 hk;omega
   split
   ·rw[Bh hk'];exact (Kn (hmn _ (List.getElem_mem _))).2.1
   ·simp
  rw[List.length_range] at h1
  have h3:n*32≤1000*32:=Nat.mul_le_mul_right _ (by omega)
  omega
 have hbl:(I2 l).length=l.length:=by simp[I2]
 refine E4 l.length (fun n x w'=> ∃σ',Stp w σ w' σ'∧SLe σ1 σ'∧SLe σ8 σ'∧V5 w.heap.size T.d 7 E8 σ' w' x (Xf l i n)) ⟨σ8,hS8.trans hk9,le6.more ⟨hk8.le⟩,SLe.refl _,ha9⟩ fun n x w10 d hn hinv=>?_
 clear ha9 hk9 hS7 hS8 le6 hS6 hk8
 obtain ⟨σ10,hS10,le10,leb,ha10⟩:=hinv
 have hv10:=hv.up hS10
 refine Q8 hv10 ?_
 refine Z0 ?_
 refine Q7 (fun hc=>?_) (fun hc=>?_)
 ·have hn':n<l.length:=by simpa using hc
  have hmn1:=hml n hn
  have hsuc:=Q8D (l:=l) (i:=i) (n:=n)
  rw[Bh hn'] at hsuc
  obtain ⟨lv2,fv2,mv2,p2,r2⟩:=hv10.elC hn'
  obtain ⟨_,_,g3,_,_⟩:=r2.parts
  have hmn2:=(Kn (hmn _ (List.getElem_mem hn'))).2.1
  refine Ur (fun z w'=>Stp w σ w' σ10∧V5 w.heap.size T.d 7 E8 σ10 w' z (Xf l i (n+1))) ?_ (fun z d w' hz=>?_)
  ·refine P1 ?_
   have happ: ∀{J:Value→World→Prop},upB l i n=true→(∀z w',Stp w σ w' σ10→V5 w.heap.size T.d 7 E8 σ10 w' z (Xf l i (n+1))→J z w')→
    X2 P .append [T.j,T.j] T.j [false,false] [x,mv2] w10 J:=fun hu hJ=>
    Wk hS10 ha10 g3 rfl (by omega) (by omega) fun v' w' _ hS' ha' _=>hJ v' w' hS' (by rw[hsuc,if_pos hu];exact ha')
   by_cases e:n=i
   ·have e1:decide ((n:Int)=(i:Int))=true:=by simp[e]
    rw[e1]
    (try simp only[↓M1,M1,Mb,reduceIte])
    refine Y1 hv10 hn' ?_
    (try simp only[↓M1,M1,Mb,reduceIte])
    refine ld hS10.sat p2 rfl ?_
    exact happ (by simp[upB,e]) fun z w' h1 h2=>⟨h1,h2⟩
   ·have e1:decide ((n:Int)=(i:Int))=false:=by rw[decide_eq_false_iff_not];omega
    rw[e1]
    obtain ⟨cs1,pb,_,rv,rfl,rb⟩:=(hb8.lift leb).el (i:=i) (by rw[hbl];exact hi)
    have hrow:(I2 l)[i]'(by rw[hbl];exact hi)=(List.range l.length).map fun j=>Xg l (Y3 l i) (Y3 l j):=by simp[I2]
    rw[hrow] at rb
    obtain ⟨cs2,pb2,_,hcs2⟩:=rb.el (i:=n) (by simpa using hn')
    have hcs2:cs2=_:=hcs2
    subst hcs2
    simp only[List.getElem_map,List.getElem_range] at pb2
    (try simp only[↓M1,M1,Mb,reduceIte])
    refine Y1 (hb8.lift leb) (by rw[hbl];exact hi) ?_
    refine X7 hS10.sat pb rfl ?_
    refine Y1 rb (by simpa using hn') ?_
    refine X7 hS10.sat pb2 rfl ?_
    (try simp only[↓M1,M1,Mb,reduceIte])
    cases ho:Xg l (Y3 l i) (Y3 l n) with
    | true=>
     (try simp only[↓M1,M1,Mb,reduceIte])
     refine Y1 hv10 hn' ?_
     (try simp only[↓M1,M1,Mb,reduceIte])
     refine ld hS10.sat p2 rfl ?_
     exact happ (by simp[upB,ho]) fun z w' h1 h2=>⟨h1,h2⟩
    | false=>
     (try simp only[↓M1,M1,Mb,reduceIte])
     refine ⟨hS10,?_⟩
     have:upB l i n=false:=by simp[upB,ho,e]
     rw[hsuc,this]
     simpa using ha10
  ·obtain ⟨hS',ha'⟩:=hz
   (try simp only[↓M1,M1,Mb,reduceIte])
   exact J3 (by omega) hn' ⟨σ10,hS',le10,leb,ha'⟩
 have hn0:n=l.length:=by
  have: ¬n<l.length:=by simpa using hc
  omega
 subst hn0
 obtain ⟨σ11,hS11,hv11,lee11,_⟩:=ha10.keep hS10
 have le11:=le10.more ⟨lee11⟩
 have hml2:=hml _ (Nat.le_refl l.length)
 have hov:Zm l c=Mj (Xf l i l.length):=by
  unfold Zm
  refine (Q6D fun m=>?_).symm
  rw[Q4C own hi,hname]
 have hlk:Dl l c=(!c.abs&&(Xf l i l.length).any fun m=>Ze l c.name m.name):=by
  unfold Dl
  congr 1
  refine (X0y fun m=>?_).symm
  rw[Q4C own hi,hname]
 have hsn: ∀m∈Xf l i l.length,SmM m∧NmM m:=fun m hm=>by
  obtain ⟨c2,hc2,hm2⟩:=Q9w hm (Nat.le_refl _)
  exact ⟨(ok.sm c2 hc2).2.2.2 m hm2,(ok.nm c2 hc2).2.2 m hm2⟩
 generalize Xf l i l.length=ms at hov hlk hsn hml2 hv11
 clear ha10 lee11 hS10 le10 leb hv10 hml hc hb8 hbl
 refine U0 ms.length (fun n w'=> ∃σ',Stp w σ w' σ'∧SLe σ11 σ'∧ ∀a b,a<n→b<a→T9 ms a b=false) ⟨σ11,hS11,SLe.refl _,fun a b h=>by omega⟩ fun n w12 d hn hinv=>?_
 obtain ⟨σ12,hS12,le12,hno⟩:=hinv
 have hv12:=hv11.lift le12
 refine Q8 hv12 ?_
 refine Z0 ?_
 refine Q7 (fun hc=>?_) (fun hc=>?_)
 ·have hn':n<ms.length:=by simpa using hc
  refine U0 n (fun m w'=> ∃σ',Stp w σ w' σ'∧SLe σ11 σ'∧ ∀b,b<m→T9 ms n b=false) ⟨σ12,hS12,le12,fun b h=>by omega⟩ fun m w13 d hm hinv=>?_
  obtain ⟨σ13,hS13,le13,hno2⟩:=hinv
  have hv13:=hv11.lift le13
  refine Z0 ?_
  refine Q7 (fun hc=>?_) (fun hc=>?_)
  ·have hm':m<n:=by simpa using hc
   have hm2:m<ms.length:=by omega
   obtain ⟨pv1,cv1,hv1',pn,rn⟩:=hv13.elM hn'
   obtain ⟨pv2,cv2,hv2',pm,rm⟩:=hv13.elM hm2
   obtain ⟨sn1,sn2⟩:=hsn _ (List.getElem_mem hn')
   obtain ⟨sm1,sm2⟩:=hsn _ (List.getElem_mem hm2)
   have hat:T9 ms n m=(decide (ms[n].name=ms[m].name)&& !decide (Qu ms[n]=Qu ms[m])):=by
    unfold T9;rw[Bh hn',Bh hm2]
   have hs13:=hS13.sat
   have hnx:T9 ms n m=false→ ∀b,b<m+1→T9 ms n b=false:=fun e b hb=>by
    by_cases e2:b=m
    ·subst e2;exact e
    ·exact hno2 b (by omega)
   refine U2 hs13 ?_
   (repeat refine J0 A8 ?_)
   by_cases he:ms[n].name=ms[m].name
   ·have hd:decide (ms[n].name=ms[m].name)=true:=by simp[he]
    simp only[hd,reduceIte]
    (repeat (apply J0;(· intros;(repeat (rename_i hx;subst hx));(repeat' (first | (with_reducible exact O3 rfl) | (with_reducible exact R9 (Stp.bel (by (repeat (first | exact Stp.refl (by (first | assumption | exact Stp.sat (by assumption) | exact Hst.sat (by assumption))) | assumption | refine Stp.trans ?_ (by first | assumption | exact Hst.stp (by assumption)))))) rfl) | (with_reducible intro _) | (simp only[↓M2,M2,Mb,reduceIte]) | (with_reducible show Q2 _ _ _ _ _;first | refine X7 aS aL aR ?_ | refine Y4 aS aL aR ?_ | refine ld aS aL aR ?_) | (with_reducible show indexAddr _ _ _ _ _ _;refine Y1 aL au ?_) | (with_reducible show X2 _ _ _ _ _ _ _ _;refine Q8 aL ?_) | (with_reducible show F3 _ _ _ _ _ _;refine Z9 aR ?_) | (with_reducible show pick _ _ _ _ _ _;refine M0 ?_) | (with_reducible show Q1 _ _ _ _ _;first | refine Q5x au au au au ?_) | (apply F8;intro hh;(try simp only[hh,reduceIte,↓M2,M2,Mb,reduceIte]))));done)))
    (intros;(repeat (rename_i hx;subst hx));(try simp only[↓M2,M2,Mb,reduceIte]))
    rename_i w14 hb14
    refine Q5x hb14.sat rm sm1 sm2 fun w15 σ15 hk15=>?_
    refine Zy ?_
    (try simp only[↓M1,M1,Mb,reduceIte])
    have hS15:=(hS13.trans hb14.stp).trans hk15
    by_cases hsg:Qu ms[n]=Qu ms[m]
    ·simp only[hsg,decide_true,Bool.not_true,↓M1,M1,Mb,reduceIte]
     refine Y5 (by omega) hm' ⟨σ15,hS15,le13.more ⟨(hb14.stp.trans hk15).le⟩,hnx ?_⟩
     rw[hat,hsg];simp
    ·simp only[hsg,decide_false,Bool.not_false,↓M1,M1,Mb,reduceIte]
     have:R=66:=e66 hA hB (by rw[hov];exact Q9q hn' hm2 (by rw[hat];simp[he,hsg]))
     subst this
     exact h _ _ hS15
   ·have hd:decide (ms[n].name=ms[m].name)=false:=by simp[he]
    simp only[hd,Bool.false_eq_true,reduceIte]
    (repeat refine J0 A8 ?_)
    (intros;(repeat (rename_i hx;subst hx));(try simp only[↓M2,M2,Mb,reduceIte]))
    rename_i w14 hb14
    (try simp only[↓M1,M1,Mb,reduceIte])
    refine Y5 (by omega) hm' ⟨σ13,hS13.trans hb14.stp,le13,hnx ?_⟩
    rw[hat];simp[he]
  ·have hm0:m=n:=by
    have: ¬m<n:=by simpa using hc
    omega
   subst hm0
   (try simp only[↓M1,M1,Mb,reduceIte])
   refine Y5 hv11.max hn' ⟨σ13,hS13,le13,fun a b ha hb=>?_⟩
   by_cases e:a=m
   ·subst e;exact hno2 b hb
   ·exact hno a b (by omega) hb
 have hC:Zm l c=false:=by
  rw[hov]
  have: ¬n<ms.length:=by simpa using hc
  exact X0I fun x y hx hy=>hno x y (by omega) hy
 clear hno hc hn hv12 hov e66
 refine U0 ms.length (fun n w'=> ∃σ',Stp w σ w' σ'∧SLe σ11 σ'∧(c.abs=true→n=0)∧(ms.take n).any (fun m=>Ze l c.name m.name)=false) ⟨σ12,hS12,le12,fun _=>rfl,rfl⟩ fun n w13 d hn hinv=>?_
 clear hS12 le12
 obtain ⟨σ13,hS13,le13,hab,hno⟩:=hinv
 have hv13:=hv11.lift le13
 have hq13:=hq1.lift (le11.more le13)
 refine Q8 hv13 ?_
 refine Z0 ?_
 by_cases hn':n<ms.length
 ·have e1:decide ((n:Int)<(ms.length:Int))=true:=by simpa using hn'
  rw[e1]
  (try simp only[↓M1,M1,Mb,reduceIte])
  refine ld hS13.sat hq13 rfl ?_
  refine Wh ?_
  (try simp only[↓M1,M1,Mb,reduceIte])
  cases hca:c.abs with
  | true=>
   (try simp only[↓M1,M1,Mb,reduceIte])
   have:R=0:=e0 hA hB hC (by rw[hlk,hca];rfl)
   subst this
   exact h _ _ hS13
  | false=>
   (try simp only[↓M1,M1,Mb,reduceIte])
   obtain ⟨pvn,cvn,hvn,pn,rn⟩:=hv13.elM hn'
   have hs13:=hS13.sat
   have hnx:=L3 (p:=fun m:Hm.Met=>Ze l c.name m.name) hn'
   have hla:Ze l c.name ms[n].name=(!(V2 l c.name ms[n].name).isSome||(o2 (V2 l c.name ms[n].name)).abs):=by
    unfold Ze
    cases V2 l c.name ms[n].name<;>rfl
   generalize hF:(fun o:Option Obj=> ∃cs:List Value,∃e,o=some (.cells cs.toArray e (0,0))∧cs.length=7∧cs[3]? =some (.bool (o2 (V2 l c.name ms[n].name)).abs))=F
   have hFn: ¬F none:=by rw[←hF];rintro ⟨_,_,h,_⟩;cases h
   refine X2Y F hs13 ?_
   (repeat (apply J0;(· intros;(repeat (rename_i hx;subst hx));(repeat' (first | (with_reducible exact Q54 rfl) | (with_reducible exact X1X (Stp.bel (by (repeat (first | exact Stp.refl (by (first | assumption | exact Stp.sat (by assumption) | exact Hst.sat (by assumption))) | assumption | refine Stp.trans ?_ (by first | assumption | exact Hst.stp (by assumption)))))) rfl) | (with_reducible intro _) | (simp only[↓M2,M2,Mb,reduceIte]) | (with_reducible show Q2 _ _ _ _ _;first | refine X7 aS aL aR ?_ | refine Y4 aS aL aR ?_ | refine ld aS aL aR ?_) | (with_reducible show indexAddr _ _ _ _ _ _;refine Y1 aL au ?_) | (with_reducible show X2 _ _ _ _ _ _ _ _;refine Q8 aL ?_) | (with_reducible show F3 _ _ _ _ _ _;refine Z9 aR ?_) | (with_reducible show pick _ _ _ _ _ _;refine M0 ?_)));done)))
   refine H0 (fun v _=> ∃s,∃ds:List Value,v= .tuple #[s, .agg ds.toArray, .bool (V2 l c.name ms[n].name).isSome]∧ds.length=7∧ds[3]? =some (.bool (o2 (V2 l c.name ms[n].name)).abs)∧ ∀u∈ds,u.oneCell'=true) (fun _ _ _ h _=>h) (fun t180 t185 w hb e1 e2=>?_) ?_
   ·subst e1;subst e2
    refine Q8C hb.sat (hv.up (hS13.trans hb.stp)) ok fun pv cv hv w' σ' hk hr=>⟨.of_below hk.bel,_,_,rfl,rfl,rfl,Rep.one hr⟩
   refine H0 (fun _ _=>True) (fun _ _ _ _ _=>trivial) (fun t186 w hb e=>?_) ?_
   ·obtain ⟨s,ds,rfl,_⟩:=e
    exact J6 (vs:=[_,_,_]) rfl ⟨.of_below (Below.refl _ _),trivial⟩
   refine H0 (fun v _=> ∃ds:List Value,v= .agg ds.toArray∧ds.length=7∧ds[3]? =some (.bool (o2 (V2 l c.name ms[n].name)).abs)∧ ∀u∈ds,u.oneCell'=true) (fun _ _ _ h _=>h) (fun t186 w hb e=>?_) ?_
   ·obtain ⟨s,ds,rfl,h7⟩:=e
    exact J6 (vs:=[_,_,_]) rfl ⟨.of_below (Below.refl _ _),ds,rfl,h7⟩
   refine J0 (V:= .bool (V2 l c.name ms[n].name).isSome) (fun t186 w hb e=>?_) ?_
   ·obtain ⟨s,ds,rfl,h7⟩:=e
    exact J6 (vs:=[_,_,_]) rfl (Q54 rfl)
   refine H0 (X3n w13.heap.size 7 F) (Q83 hFn) (fun w hb=>?_) ?_
   ·exact Px hb.sat fun b w' hb2 hk hm=>⟨.of_below hk.bel,b,rfl,Nat.le_trans hb.stp.bel.size hb2, .inl ⟨_,hm.2.choose,rfl,hm.2.choose_spec⟩⟩
   refine Q3Y (fun xs _ w=>X2H w13.heap.size F (xs.headD undef) w) (fun xs _ w w' h hT=>Q8J hFn _ w w' h hT) (fun t18 t188 w hb e1 e2=>?_) ?_
   ·obtain ⟨g,rfl,hg,hd⟩:=e1
    obtain ⟨ds,rfl,h7,h3,h1⟩:=e2
    obtain ⟨cs,e,hl7,hh⟩: ∃cs:List Value,∃e,cs.length=7∧w.heap[g]? =some (.cells cs.toArray e (0,0)):=by
     rcases hd with h | h
     ·exact h
     ·rw[←hF] at h
      obtain ⟨cs,e,h4,h5,_⟩:=h
      exact ⟨cs,e,h5,h4⟩
    refine Mn (σ:=fun _=>none) (cs:=cs) (ds:=ds) ⟨rfl,e,hh⟩ hl7 h7 (by rw[List.all_toArray];exact List.all_eq_true.2 h1) fun w' hu hm=>?_
    have hFg:F (w'.heap[g]?):=by
     obtain ⟨_,e',hm'⟩:=hm
     rw[hm',←hF]
     exact ⟨ds,e',rfl,h7,h3⟩
    exact ⟨FinT.of_upd hu hg hFg,g,rfl,hg,hFg⟩
   rintro t179 t183 t184 t180 t185 t186 t187 t188 t189 t18 u15 w14 hb14 rfl rfl rfl rfl rfl _ _ _ rfl _ ⟨g,e,hg,hd⟩
   have e:t18=_:=e
   subst e
   rw[←hF] at hd
   obtain ⟨cs,ty,hh,hl7,h3⟩:=hd
   have hS14:=hS13.trans hb14.stp
   refine Wh ?_
   cases hsm:(V2 l c.name ms[n].name).isSome with
   | false=>
    (try simp only[↓M1,M1,Mb,reduceIte])
    have:R=67:=e67 hA hB hC (by rw[hlk,hca];exact S6 hn' (by rw[hla,hsm];rfl))
    subst this
    exact h _ _ hS14
   | true=>
    (try simp only[↓M1,M1,Mb,reduceIte])
    refine Yc (σ:=fun _=>none) ⟨rfl,ty,hh⟩ h3 ?_
    (try simp only[↓M1,M1,Mb,reduceIte])
    cases hma:(o2 (V2 l c.name ms[n].name)).abs with
    | true=>
     (try simp only[↓M1,M1,Mb,reduceIte])
     have:R=67:=e67 hA hB hC (by rw[hlk,hca];exact S6 hn' (by rw[hla,hma,Bool.or_true]))
     subst this
     exact h _ _ hS14
    | false=>
     (try simp only[↓M1,M1,Mb,reduceIte])
     refine Y5 hv11.max hn' ⟨σ13,hS14,le13,fun e=>False.elim (by simpa using e),?_⟩
     rw[hnx,hno,hla,hsm,hma];rfl
 ·have e1:decide ((n:Int)<(ms.length:Int))=false:=by simpa using hn'
  rw[e1]
  (try simp only[↓M1,M1,Mb,reduceIte])
  rw[E0 hn'] at hno
  have:R=0:=e0 hA hB hC (by rw[hlk,hno,Bool.and_false])
  subst this
  exact h _ _ hS13)
end Go.Proofs.YtjdiakhipmggjaaGreatDoor

namespace Go.Proofs.YtjdiakhipmggjaaGreatDoor
open Go.Emb Go.RowKit Go.Kd Go.Hm
variable {w : World} {K : Value → World → Prop} {σ : Q6} {l : List Cla} {v : Value}
theorem X1F {w0:World} {σ0:Q6} {frm:Nat} (ha:Jd l) (ho:T6 l) (hl:l.length≤1000) (am: ∀c∈l,Qm c) (hf:0<frm) (ax: ∀i (H:i<l.length),frm≤i→ ∀u∈U3 l[i],∃j,Z2 l u=some j): ∀(k:Nat) {i:Nat} {b:List Nat} {x:Value} {w:World} {σ:Q6} {K:Value→World→Prop},i<l.length→K6 l (Y3 l i)<k→Few l b→Stp w0 σ0 w σ→Sl 8 V0 σ v l→V5 w0.heap.size T.e 1 Ww σ w x (ints b)→
 (∀x' w' O,Stp w0 σ0 w' O→SLe σ O→V5 w0.heap.size T.e 1 Ww O w' x' (ints (Xl l frm b i))→K x' w')→Q1 P F.b0 [v,x,I frm,I i] w K:=by
 intro k
 induction k with
 | zero=>intro i b x w σ K H hk;omega
 | succ k ih=>
  intro i b x w σ K H hk D hS hv Y h
  refine Q0d ?_
  unfold Ev
  rw[Q7j ha ho hf b H] at h
  refine Z0 ?_
  refine Q7 (fun U=>?_) (fun U=>?_)
  ·have U:i<frm:=by have:=of_decide_eq_true U;omega
   rw[if_pos U] at h
   exact h _ _ _ hS (SLe.refl _) Y
  have U: ¬i<frm:=by have:=of_decide_eq_false U;omega
  rw[if_neg U] at h
  have a8:=D.len
  refine U0 b.length (fun n w'=>w'=w∧ ∀m (hm:m<b.length),m<n→b[m]≠i) ⟨rfl,fun m _ h=>by omega⟩ fun n w2 d hn p=>?_
  obtain ⟨hw,Q⟩:=p
  subst hw
  refine Q8H Y ?_
  rw[show (ints b).length=b.length from by simp]
  refine Z0 ?_
  refine Q7 (fun C=>?_) (fun C=>?_)
  ·have f:n<b.length:=by simpa using C
   refine Q66 (J7.of_acc Y) (n:=n) (by simpa using f) fun a cs az bg hr=>?_
   obtain ⟨rfl,_⟩:=hr
   refine Qf (by have:=az 0 _ rfl;rwa [add_zero] at this) ?_
   simp only[List.getElem_map]
   refine P1 ?_
   by_cases e:b[n]=i
   ·have:decide ((b[n]:Int)=i)=true:=by simp[e]
    rw[this]
    refine J5 ?_
    rw[if_pos (e▸List.getElem_mem f)] at h
    exact h _ _ _ hS (SLe.refl _) Y
   ·have:decide ((b[n]:Int)=i)=false:=by rw[decide_eq_false_iff_not];omega
    rw[this]
    refine Z7 ?_
    refine N3 ?_
    refine Y5 (by omega) f ⟨rfl,fun m hm bx=>?_⟩
    by_cases e2:m=n
    ·subst e2;exact e
    ·exact Q m hm (by omega)
  ·have f: ¬n<b.length:=by simpa using C
   have B:i∉b:=fun a0=>by
    obtain ⟨m,hm,e⟩:=List.getElem_of_mem a0
    exact Q m hm (by omega) e
   rw[if_neg B] at h
   have ah:l.getD i Cla.zero=l[i]:=by rw[List.getD_eq_getElem?_getD,List.getElem?_eq_getElem H];rfl
   rw[ah] at h
   have an:=ax i H (by omega)
   obtain ⟨lv,fv,mv,p1,r1⟩:=hv.elC H
   obtain ⟨g1,_,_,_,g5⟩:=r1.parts
   have E:=am _ (List.getElem_mem H)
   clear Q B C hn
   refine U2 hS.sat ?_
   (repeat refine J0 A8 ?_)
   refine Q1i (w:=w2) (σ:=σ) (R:=U8) (sz:=1) (e:=T.c) [l[i].super] (fun t w hb e=>?_) ?_
   ·subst e;exact Zc hb.stp [_] [l[i].super] rfl rfl (by simp;rfl) rfl ⟨⟨rfl,g5⟩,trivial⟩ fun v' w' hk ha _=>Q2Q hb hk ha
   (repeat refine J0 A8 ?_)
   rintro bm bk bb bc bi bp bv w4 ay rfl rfl rfl rfl rfl ⟨V,aa⟩ rfl
   refine Wk V aa g1 rfl (by simp;have:=E.1;omega) (by simp;have:=E.1;omega) fun v5 w5 aw Z W af=>?_
   obtain ⟨σ6,q,M,br,_⟩:=W.keep Z
   have M:Sl 1 U8 σ6 v5 (U3 l[i]):=M
   have ap:=Y.up q
   have ad:=hv.up q
   have ag:=hS.trans q
   have ab:SLe σ σ6:=⟨q.le⟩
   clear aw af W aa V ay Z
   refine E4 (U3 l[i]).length (fun n x w'=> ∃O o,Stp w0 σ0 w' O∧SLe σ6 O∧V5 w0.heap.size T.e 1 Ww O w' x (ints o)∧Few l o∧o=((U3 l[i]).take n).foldl (fun b n=>Xl l frm b ((Z2 l n).getD 0)) b) ⟨σ6,b,ag,SLe.refl _,ap,D,rfl⟩ fun n x7 w7 d hn p=>?_
   obtain ⟨σ7,a3,z,y,ac,g,N⟩:=p
   have r:=M.lift y
   refine Q8 r ?_
   refine Z0 ?_
   refine Q7 (fun C=>?_) (fun C=>?_)
   ·have f:n<(U3 l[i]).length:=by simpa using C
    refine Y1 r f ?_
    obtain ⟨p7,_⟩:=r.elS f
    refine X7 z.sat p7 rfl ?_
    have A:=ad.lift y
    refine I8 z.sat A ?_
    obtain ⟨j,hj⟩:=an _ (List.getElem_mem f)
    have bh:=Q1B ha ho H (by rw[ah];exact List.getElem_mem f) hj
    have X:=(S3 hj).1
    simp only[hj,L5]
    refine ih X (by omega) g z A ac fun x8 w8 σ8 J av L=>?_
    refine N3 ?_
    refine J3 r.max f ⟨σ8,_,J,y.more av,L,Pk ha ho hf _ _ _ X g,?_⟩
    rw[List.take_add_one,List.getElem?_eq_getElem f,List.foldl_append,←N]
    simp[hj]
   ·have f: ¬n<(U3 l[i]).length:=by simpa using C
    rw[List.take_of_length_le (by omega)] at N
    have bl:=g.len
    refine Jl (R:=Ww) (x:=(i:Int)) z ac ⟨rfl,by omega,by omega⟩ rfl rfl rfl (by simp;omega) (by simp;omega) fun s x8 w8 σ8 ar J L _=>?_
    refine h _ _ _ J ((ab.more y).more ar.le) ?_
    rw[←N]
    simpa [ints] using L
end Go.Proofs.YtjdiakhipmggjaaGreatDoor

namespace Go.Hm
open Go.Kd
def C1 (n i b:Nat):Bool:=decide (i<n)&&decide (128≤b)&&decide (b<192)
def Jc (n a b c d:Nat):Nat:=
 if a<128 then 1
 else if (decide (194≤a)&&decide (a<224)&&C1 n 1 b)=true then 2
 else if (decide (224≤a)&&decide (a<240)&&C1 n 1 b&&C1 n 2 c)=true then
  (if 2048≤a % 16*4096+b % 64*64+c % 64∧(a % 16*4096+b % 64*64+c % 64<55296∨57343<a % 16*4096+b % 64*64+c % 64) then 3 else 0)
 else if (decide (240≤a)&&decide (a<245)&&C1 n 1 b&&C1 n 2 c&&C1 n 3 d)=true then
  (if 65536≤a % 8*262144+b % 64*4096+c % 64*64+d % 64∧a % 8*262144+b % 64*4096+c % 64*64+d % 64≤1114111 then 4 else 0)
 else 0
theorem X07 (n a b c d:Nat) (r:a<256) (s:b<256) (p:c<256) (q:d<256):
 Jc n a b c d=if (Lib.decodeN n a b c d).1=65533∧(Lib.decodeN n a b c d).2=1 then 0 else (Lib.decodeN n a b c d).2:=by
 have key: ∀v k:Nat,Lib.decodeN n a b c d=(v,k)→ ¬k=1→Jc n a b c d=k→Jc n a b c d=if (Lib.decodeN n a b c d).1=65533∧(Lib.decodeN n a b c d).2=1 then 0 else (Lib.decodeN n a b c d).2:=by
  intro v k h o m
  rw[h,m,if_neg (fun e=>o e.2)]
 have f:Lib.decodeN n a b c d=(65533,1)→Jc n a b c d=0→Jc n a b c d=if (Lib.decodeN n a b c d).1=65533∧(Lib.decodeN n a b c d).2=1 then 0 else (Lib.decodeN n a b c d).2:=by
  intro h m
  rw[h,m];simp
 by_cases c0:a<128
 ·have h:Lib.decodeN n a b c d=(a,1):=by unfold Lib.decodeN;rw[if_pos c0]
  rw[h,if_neg (by simp only;omega)]
  unfold Jc;rw[if_pos c0]
 by_cases i:a / 32=6∧(1<n∧b / 64=2)
 ·by_cases g:a % 32*64+b % 64≥128
  ·refine key _ 2 (by unfold Lib.decodeN;rw[if_neg c0,if_pos i,if_pos g]) (by decide) ?_
   unfold Jc C1
   simp only[Bool.and_eq_true,decide_eq_true_eq]
   rw[if_neg c0,if_pos (by omega)]
  ·refine f (by unfold Lib.decodeN;rw[if_neg c0,if_pos i,if_neg g]) ?_
   unfold Jc C1
   simp only[Bool.and_eq_true,decide_eq_true_eq]
   rw[if_neg c0,if_neg (by omega),if_neg (by omega),if_neg (by omega)]
 by_cases j:a / 16=14∧(1<n∧b / 64=2)∧(2<n∧c / 64=2)
 ·by_cases g:2048≤a % 16*4096+b % 64*64+c % 64∧(a % 16*4096+b % 64*64+c % 64<55296∨57343<a % 16*4096+b % 64*64+c % 64)
  ·refine key _ 3 (by unfold Lib.decodeN;rw[if_neg c0,if_neg i,if_pos j,if_pos (by omega)]) (by decide) ?_
   unfold Jc C1
   simp only[Bool.and_eq_true,decide_eq_true_eq]
   rw[if_neg c0,if_neg (by omega),if_pos (by omega),if_pos g]
  ·refine f (by unfold Lib.decodeN;rw[if_neg c0,if_neg i,if_pos j,if_neg (by omega)]) ?_
   unfold Jc C1
   simp only[Bool.and_eq_true,decide_eq_true_eq]
   rw[if_neg c0,if_neg (by omega),if_pos (by omega),if_neg g]
 by_cases l:a / 8=30∧(1<n∧b / 64=2)∧(2<n∧c / 64=2)∧(3<n∧d / 64=2)
 ·by_cases g:65536≤a % 8*262144+b % 64*4096+c % 64*64+d % 64∧a % 8*262144+b % 64*4096+c % 64*64+d % 64≤1114111
  ·refine key _ 4 (by unfold Lib.decodeN;rw[if_neg c0,if_neg i,if_neg j,if_pos l,if_pos (by omega)]) (by decide) ?_
   unfold Jc C1
   simp only[Bool.and_eq_true,decide_eq_true_eq]
   rw[if_neg c0,if_neg (by omega),if_neg (by omega),if_pos (by omega),if_pos g]
  ·refine f (by unfold Lib.decodeN;rw[if_neg c0,if_neg i,if_neg j,if_pos l,if_neg (by omega)]) ?_
   unfold Jc C1
   simp only[Bool.and_eq_true,decide_eq_true_eq]
   rw[if_neg c0,if_neg (by omega),if_neg (by omega)]
   by_cases t:a<245
   ·rw[if_pos (by omega),if_neg g]
   ·rw[if_neg (by omega)]
 ·refine f (by unfold Lib.decodeN;rw[if_neg c0,if_neg i,if_neg j,if_neg l]) ?_
  unfold Jc C1
  simp only[Bool.and_eq_true,decide_eq_true_eq]
  rw[if_neg c0,if_neg (by omega),if_neg (by omega),if_neg (by omega)]
def X5 (l:X0) (i:Nat):Nat:=(l.getD i 0).toNat
theorem Ye (l:X0) (i:Nat):X5 l i<256:=(l.getD i 0).toNat_lt
def Zz (l:X0):Nat:=Jc l.length (X5 l 0) (X5 l 1) (X5 l 2) (X5 l 3)
theorem Q5w (l:X0):Zz l=if (Lib.decodeL l).1=65533∧(Lib.decodeL l).2=1 then 0 else (Lib.decodeL l).2:=by
 rw[Lib.decodeL_N]
 exact X07 _ _ _ _ _ (Ye l 0) (Ye l 1) (Ye l 2) (Ye l 3)
theorem Q9r {l:X0} (a:l≠[]) (h:Zz l≠0):1≤Zz l∧Zz l≤l.length:=by
 have b:=Lib.decodeL_le l a
 have c:=Lib.decodeL_width l
 rw[Q5w] at h⊢
 split at h
 ·exact absurd rfl h
 ·rw[if_neg (by assumption)];omega
theorem Q84 {f:Nat} {l:X0} (a:l≠[]):Lib.validGoD (f+1) l=if Zz l=0 then false else Lib.validGoD f (l.drop (Zz l)):=by
 have b:=Lib.decodeL_width l
 simp only[Lib.validGoD,if_neg a]
 rw[Q5w]
 split
 ·rw[if_pos rfl]
 ·rw[if_neg (by omega)]
end Go.Hm
namespace Go.Emb
open Go.RowKit
theorem Q57 {P:Program} {w:World} {K:Value→World→Prop} {k:IntKind} {t:TypeId} {b d:Operand} {a c:Int} (f:0<c∧0≤a) (h:K (.int k (a % c)) w):Q3 P .rem t b d (.int k a) (.int k c) w K:=by
 have e:Q3 P .rem t b d (.int k a) (.int k c) w K=K (.int k (a.tmod c)) w:=Y0 (by simp[eqGuard,Go.binOp,Op.intDiv];intro e;omega)
 rw[e,Int.tmod_eq_emod_of_nonneg f.2];exact h
end Go.Emb
namespace Go.Proofs.YtjdiakhipmggjaaGreatDoor
open Go.Emb Go.RowKit Go.Kd Go.Hm
variable {w : World} {K : Value → World → Prop} {σ : Q6}
theorem Nt {a:X0} {i:Nat} (b:i<a.length) (h:K (.int .u8 (X5 a i)) w):C2 P T.c (S a) (I i) w K:=by
 rw[Xw X8 (by omega) (by simpa using b)]
 have:(a[(i:Int).toNat]'(by simpa using b)).toNat=X5 a i:=by
  unfold X5
  rw[List.getD_eq_getElem?_getD,List.getElem?_eq_getElem b];rfl
 rw[this];exact h
theorem Q3T {n:Int} (a:0≤n∧n<256) (h:K (I n) w):conv P T.a3 T.e (.int .u8 n) w K:=by
 rw[Iz Q3R Q1s,F9 (by omega) (by omega)];exact h
theorem Lu {a:X0} {i:Nat} (h:K (.bool (C1 a.length i (X5 a i))) w):Q1 P F.r [S a,I i] w K:=Ta (by
 unfold Mz
 unfold C1 at h
 simp only[↓M1,M1,Mb,reduceIte]
 by_cases b:i<a.length
 ·have d:decide ((i:Int)<a.length)=true:=by rw[decide_eq_true_eq];omega
  have c:decide (i<a.length)=true:=by simpa using b
  rw[c] at h
  simp only[d,↓M1,M1,Mb,reduceIte]
  refine Nt b ?_
  (try simp only[↓M1,M1,Mb,reduceIte])
  have g:decide ((128:Int)≤(X5 a i:Int))=decide (128≤X5 a i):=by rw[Bool.eq_iff_iff,decide_eq_true_eq,decide_eq_true_eq];omega
  have f:decide ((X5 a i:Int)<192)=decide (X5 a i<192):=by rw[Bool.eq_iff_iff,decide_eq_true_eq,decide_eq_true_eq];omega
  rw[g]
  cases e:decide (128≤X5 a i) with
  | true=>
   rw[e] at h
   simp only[↓M1,M1,Mb,reduceIte]
   refine Nt b ?_
   simp only[f,↓M1,M1,Mb,reduceIte]
   simpa using h
  | false=>
   rw[e] at h
   simp only[↓M1,M1,Mb,reduceIte]
   simpa using h
 ·have d:decide ((i:Int)<a.length)=false:=by rw[decide_eq_false_iff_not];omega
  have c:decide (i<a.length)=false:=by simpa using b
  rw[c] at h
  simp only[d,↓M1,M1,Mb,reduceIte]
  simpa using h)
def Un (a:X0):Nat:=X5 a 0 % 16*4096+X5 a 1 % 64*64+X5 a 2 % 64
def Ce (a:X0):Nat:=X5 a 0 % 8*262144+X5 a 1 % 64*4096+X5 a 2 % 64*64+X5 a 3 % 64
theorem Q94 (a:X0):Zz a=if X5 a 0<128 then 1
 else if (decide (194≤X5 a 0)&&decide (X5 a 0<224)&&C1 a.length 1 (X5 a 1))=true then 2
 else if (decide (224≤X5 a 0)&&decide (X5 a 0<240)&&C1 a.length 1 (X5 a 1)&&C1 a.length 2 (X5 a 2))=true then
  (if 2048≤Un a∧(Un a<55296∨57343<Un a) then 3 else 0)
 else if (decide (240≤X5 a 0)&&decide (X5 a 0<245)&&C1 a.length 1 (X5 a 1)&&C1 a.length 2 (X5 a 2)&&C1 a.length 3 (X5 a 3))=true then
  (if 65536≤Ce a∧Ce a≤1114111 then 4 else 0)
 else 0:=rfl
set_option maxHeartbeats 2000000 in
theorem X0p {a:X0} (hne:a≠[]) (hs:X3 w σ) (h: ∀w',Below w.heap.size w w'→K (I (Zz a)) w'):Q1 P F.bG [S a] w K:=Al (by
 unfold Oe
 have hl:0<a.length:=List.length_pos_iff.2 hne
 have b0:=Ye a 0
 have b1:=Ye a 1
 have b2:=Ye a 2
 have b3:=Ye a 3
 refine Nt (i:=0) hl ?_
 refine Q3T (by omega) ?_
 refine Ur (fun _ w'=>Below w.heap.size w w'∧Zz a=0) ?_ (fun _ d w' hx=>by
  have:=h w' hx.1
  rw[hx.2] at this
  exact this)
 have hK: ∀n w',Below w.heap.size w w'→Zz a=n→K (I n) w':=fun n w' hb e=>by rw[←e];exact h w' hb
 clear h
 have hcm:=Q94 a
 simp only[↓M1,M1,Mb,reduceIte]
 refine Q7 (fun h1=>?_) (fun h1=>?_)
 ·have:X5 a 0<128:=by have:=of_decide_eq_true h1;omega
  exact hK 1 _ (Below.refl _ _) (by rw[hcm,if_pos this])
 have c0: ¬X5 a 0<128:=by have:=of_decide_eq_false h1;omega
 rw[if_neg c0] at hcm
 by_cases c1:X5 a 0<194
 ·have i1:decide ((194:Int)≤X5 a 0)=false:=by rw[decide_eq_false_iff_not];omega
  have n1:decide (194≤X5 a 0)=false:=by rw[decide_eq_false_iff_not];omega
  have i2:decide ((X5 a 0:Int)<224)=true:=by rw[decide_eq_true_eq];omega
  have n2:decide (X5 a 0<224)=true:=by rw[decide_eq_true_eq];omega
  have i3:decide ((224:Int)≤X5 a 0)=false:=by rw[decide_eq_false_iff_not];omega
  have n3:decide (224≤X5 a 0)=false:=by rw[decide_eq_false_iff_not];omega
  have i4:decide ((X5 a 0:Int)<240)=true:=by rw[decide_eq_true_eq];omega
  have n4:decide (X5 a 0<240)=true:=by rw[decide_eq_true_eq];omega
  have i5:decide ((240:Int)≤X5 a 0)=false:=by rw[decide_eq_false_iff_not];omega
  have n5:decide (240≤X5 a 0)=false:=by rw[decide_eq_false_iff_not];omega
  have i6:decide ((X5 a 0:Int)<245)=true:=by rw[decide_eq_true_eq];omega
  have n6:decide (X5 a 0<245)=true:=by rw[decide_eq_true_eq];omega
  simp only[i1,i2,i3,i4,i5,i6,↓M1,M1,Mb,reduceIte]
  exact ⟨Below.refl _ _,by rw[hcm];simp only[n1,n2,n3,n4,n5,n6,Bool.and_true,Bool.true_and,Bool.false_and,Bool.and_false,Bool.false_eq_true,if_true,if_false,reduceIte]⟩
 by_cases c2:X5 a 0<224
 ·have i1:decide ((194:Int)≤X5 a 0)=true:=by rw[decide_eq_true_eq];omega
  have n1:decide (194≤X5 a 0)=true:=by rw[decide_eq_true_eq];omega
  have i2:decide ((X5 a 0:Int)<224)=true:=by rw[decide_eq_true_eq];omega
  have n2:decide (X5 a 0<224)=true:=by rw[decide_eq_true_eq];omega
  have i3:decide ((224:Int)≤X5 a 0)=false:=by rw[decide_eq_false_iff_not];omega
  have n3:decide (224≤X5 a 0)=false:=by rw[decide_eq_false_iff_not];omega
  have i4:decide ((X5 a 0:Int)<240)=true:=by rw[decide_eq_true_eq];omega
  have n4:decide (X5 a 0<240)=true:=by rw[decide_eq_true_eq];omega
  have i5:decide ((240:Int)≤X5 a 0)=false:=by rw[decide_eq_false_iff_not];omega
  have n5:decide (240≤X5 a 0)=false:=by rw[decide_eq_false_iff_not];omega
  have i6:decide ((X5 a 0:Int)<245)=true:=by rw[decide_eq_true_eq];omega
  have n6:decide (X5 a 0<245)=true:=by rw[decide_eq_true_eq];omega
  simp only[i1,i2,i3,i4,i5,i6,↓M1,M1,Mb,reduceIte]
  refine Lu (i:=1) ?_
  cases A1:C1 a.length 1 (X5 a 1) with
  | true=>simp only[↓M1,M1,Mb,reduceIte];exact hK 2 _ (Below.refl _ _) (by rw[hcm];simp only[A1,n1,n2,n3,n4,n5,n6,Bool.and_true,Bool.true_and,Bool.false_and,Bool.and_false,Bool.false_eq_true,if_true,if_false,reduceIte])
  | false=>simp only[↓M1,M1,Mb,reduceIte];exact ⟨Below.refl _ _,by rw[hcm];simp only[A1,n1,n2,n3,n4,n5,n6,Bool.and_true,Bool.true_and,Bool.false_and,Bool.and_false,Bool.false_eq_true,if_true,if_false,reduceIte]⟩
 by_cases c3:X5 a 0<240
 ·have i1:decide ((194:Int)≤X5 a 0)=true:=by rw[decide_eq_true_eq];omega
  have n1:decide (194≤X5 a 0)=true:=by rw[decide_eq_true_eq];omega
  have i2:decide ((X5 a 0:Int)<224)=false:=by rw[decide_eq_false_iff_not];omega
  have n2:decide (X5 a 0<224)=false:=by rw[decide_eq_false_iff_not];omega
  have i3:decide ((224:Int)≤X5 a 0)=true:=by rw[decide_eq_true_eq];omega
  have n3:decide (224≤X5 a 0)=true:=by rw[decide_eq_true_eq];omega
  have i4:decide ((X5 a 0:Int)<240)=true:=by rw[decide_eq_true_eq];omega
  have n4:decide (X5 a 0<240)=true:=by rw[decide_eq_true_eq];omega
  have i5:decide ((240:Int)≤X5 a 0)=false:=by rw[decide_eq_false_iff_not];omega
  have n5:decide (240≤X5 a 0)=false:=by rw[decide_eq_false_iff_not];omega
  have i6:decide ((X5 a 0:Int)<245)=true:=by rw[decide_eq_true_eq];omega
  have n6:decide (X5 a 0<245)=true:=by rw[decide_eq_true_eq];omega
  simp only[i1,i2,i3,i4,i5,i6,↓M1,M1,Mb,reduceIte]
  refine Lu (i:=1) ?_
  cases A1:C1 a.length 1 (X5 a 1) with
  | false=>simp only[↓M1,M1,Mb,reduceIte];exact ⟨Below.refl _ _,by rw[hcm];simp only[A1,n1,n2,n3,n4,n5,n6,Bool.and_true,Bool.true_and,Bool.false_and,Bool.and_false,Bool.false_eq_true,if_true,if_false,reduceIte]⟩
  | true=>
  simp only[↓M1,M1,Mb,reduceIte]
  refine Lu (i:=2) ?_
  cases A2:C1 a.length 2 (X5 a 2) with
  | false=>simp only[↓M1,M1,Mb,reduceIte];exact ⟨Below.refl _ _,by rw[hcm];simp only[A1,A2,n1,n2,n3,n4,n5,n6,Bool.and_true,Bool.true_and,Bool.false_and,Bool.and_false,Bool.false_eq_true,if_true,if_false,reduceIte]⟩
  | true=>
  simp only[↓M1,M1,Mb,reduceIte]
  simp only[A1,A2,n1,n2,n3,n4,n5,n6,Bool.and_true,Bool.true_and,Bool.false_and,Bool.and_false,Bool.false_eq_true,if_true,if_false,reduceIte] at hcm
  have hl1:1<a.length:=by unfold C1 at A1;simp only[Bool.and_eq_true,decide_eq_true_eq] at A1;exact A1.1.1
  have hl2:2<a.length:=by unfold C1 at A2;simp only[Bool.and_eq_true,decide_eq_true_eq] at A2;exact A2.1.1
  have hw:IntKind.i64.wrap (IntKind.i64.wrap (IntKind.i64.wrap ((X5 a 0:Int) % 16*4096)+IntKind.i64.wrap ((X5 a 1:Int) % 64*64))+(X5 a 2:Int) % 64)=((Un a:Nat):Int):=by
   rw[F9 (n:=(X5 a 0:Int) % 16*4096) (by omega) (by omega),F9 (n:=(X5 a 1:Int) % 64*64) (by omega) (by omega),F9 (n:=_+(X5 a 1:Int) % 64*64) (by omega) (by omega),F9 (by omega) (by omega)]
   unfold Un;omega
  refine U2 hs ?_
  have hx1: ∀{w':World} {K:Value→World→Prop},K (.int .u8 (X5 a 1)) w'→C2 P T.c (S a) (.int .i64 1) w' K:=fun hK=>Nt (i:=1) hl1 hK
  have hx2: ∀{w':World} {K:Value→World→Prop},K (.int .u8 (X5 a 2)) w'→C2 P T.c (S a) (.int .i64 2) w' K:=fun hK=>Nt (i:=2) hl2 hK
  (repeat (apply J0;(· intros;(repeat (rename_i hx;subst hx));(repeat' (first | (with_reducible exact O3 rfl) | (with_reducible exact R9 (Stp.bel (by (repeat (first | exact Stp.refl (by (first | assumption | exact Stp.sat (by assumption) | exact Hst.sat (by assumption))) | assumption | refine Stp.trans ?_ (by first | assumption | exact Hst.stp (by assumption)))))) rfl) | (with_reducible intro _) | (simp only[↓M2,M2,Mb,reduceIte]) | (with_reducible refine Q57 au ?_) | (with_reducible refine Q3T au ?_) | (with_reducible refine hx1 ?_) | (with_reducible refine hx2 ?_) | (with_reducible show Q2 _ _ _ _ _;first | refine X7 aS aL aR ?_ | refine Y4 aS aL aR ?_ | refine ld aS aL aR ?_) | (with_reducible show indexAddr _ _ _ _ _ _;refine Y1 aL au ?_) | (with_reducible show X2 _ _ _ _ _ _ _ _;refine Q8 aL ?_) | (with_reducible show F3 _ _ _ _ _ _;refine Z9 aR ?_) | (with_reducible show pick _ _ _ _ _ _;refine M0 ?_) | (apply F8;intro hh;(try simp only[hh,reduceIte,↓M2,M2,Mb,reduceIte]))));done)))
  (intros;(repeat (rename_i hx;subst hx));(try simp only[↓M2,M2,Mb,reduceIte]))
  rename_i w2 hb2
  simp only[hw]
  have hb:=hb2.stp.bel
  by_cases e1:2048≤Un a
  ·by_cases e2:Un a<55296
   ·simp only[(show decide ((2048:Int)≤(Un a:Int))=true by rw[decide_eq_true_eq];omega),(show decide ((Un a:Int)<55296)=true by rw[decide_eq_true_eq];omega),↓M1,M1,Mb,reduceIte]
    exact hK 3 _ hb (by rw[hcm,if_pos ⟨e1, .inl e2⟩])
   ·by_cases e3:57343<Un a
    ·simp only[(show decide ((2048:Int)≤(Un a:Int))=true by rw[decide_eq_true_eq];omega),(show decide ((Un a:Int)<55296)=false by rw[decide_eq_false_iff_not];omega),(show decide ((57343:Int)<(Un a:Int))=true by rw[decide_eq_true_eq];omega),↓M1,M1,Mb,reduceIte]
     exact hK 3 _ hb (by rw[hcm,if_pos ⟨e1, .inr e3⟩])
    ·simp only[(show decide ((2048:Int)≤(Un a:Int))=true by rw[decide_eq_true_eq];omega),(show decide ((Un a:Int)<55296)=false by rw[decide_eq_false_iff_not];omega),(show decide ((57343:Int)<(Un a:Int))=false by rw[decide_eq_false_iff_not];omega),↓M1,M1,Mb,reduceIte]
     exact ⟨hb,by rw[hcm,if_neg (by omega)]⟩
  ·simp only[(show decide ((2048:Int)≤(Un a:Int))=false by rw[decide_eq_false_iff_not];omega),↓M1,M1,Mb,reduceIte]
   exact ⟨hb,by rw[hcm,if_neg (by omega)]⟩
 by_cases c4:X5 a 0<245
 ·have i1:decide ((194:Int)≤X5 a 0)=true:=by rw[decide_eq_true_eq];omega
  have n1:decide (194≤X5 a 0)=true:=by rw[decide_eq_true_eq];omega
  have i2:decide ((X5 a 0:Int)<224)=false:=by rw[decide_eq_false_iff_not];omega
  have n2:decide (X5 a 0<224)=false:=by rw[decide_eq_false_iff_not];omega
  have i3:decide ((224:Int)≤X5 a 0)=true:=by rw[decide_eq_true_eq];omega
  have n3:decide (224≤X5 a 0)=true:=by rw[decide_eq_true_eq];omega
  have i4:decide ((X5 a 0:Int)<240)=false:=by rw[decide_eq_false_iff_not];omega
  have n4:decide (X5 a 0<240)=false:=by rw[decide_eq_false_iff_not];omega
  have i5:decide ((240:Int)≤X5 a 0)=true:=by rw[decide_eq_true_eq];omega
  have n5:decide (240≤X5 a 0)=true:=by rw[decide_eq_true_eq];omega
  have i6:decide ((X5 a 0:Int)<245)=true:=by rw[decide_eq_true_eq];omega
  have n6:decide (X5 a 0<245)=true:=by rw[decide_eq_true_eq];omega
  simp only[i1,i2,i3,i4,i5,i6,↓M1,M1,Mb,reduceIte]
  refine Lu (i:=1) ?_
  cases A1:C1 a.length 1 (X5 a 1) with
  | false=>simp only[↓M1,M1,Mb,reduceIte];exact ⟨Below.refl _ _,by rw[hcm];simp only[A1,n1,n2,n3,n4,n5,n6,Bool.and_true,Bool.true_and,Bool.false_and,Bool.and_false,Bool.false_eq_true,if_true,if_false,reduceIte]⟩
  | true=>
  simp only[↓M1,M1,Mb,reduceIte]
  refine Lu (i:=2) ?_
  cases A2:C1 a.length 2 (X5 a 2) with
  | false=>simp only[↓M1,M1,Mb,reduceIte];exact ⟨Below.refl _ _,by rw[hcm];simp only[A1,A2,n1,n2,n3,n4,n5,n6,Bool.and_true,Bool.true_and,Bool.false_and,Bool.and_false,Bool.false_eq_true,if_true,if_false,reduceIte]⟩
  | true=>
  simp only[↓M1,M1,Mb,reduceIte]
  refine Lu (i:=3) ?_
  cases A3:C1 a.length 3 (X5 a 3) with
  | false=>simp only[↓M1,M1,Mb,reduceIte];exact ⟨Below.refl _ _,by rw[hcm];simp only[A1,A2,A3,n1,n2,n3,n4,n5,n6,Bool.and_true,Bool.true_and,Bool.false_and,Bool.and_false,Bool.false_eq_true,if_true,if_false,reduceIte]⟩
  | true=>
  simp only[↓M1,M1,Mb,reduceIte]
  simp only[A1,A2,A3,n1,n2,n3,n4,n5,n6,Bool.and_true,Bool.true_and,Bool.false_and,Bool.and_false,Bool.false_eq_true,if_true,if_false,reduceIte] at hcm
  have hl1:1<a.length:=by unfold C1 at A1;simp only[Bool.and_eq_true,decide_eq_true_eq] at A1;exact A1.1.1
  have hl2:2<a.length:=by unfold C1 at A2;simp only[Bool.and_eq_true,decide_eq_true_eq] at A2;exact A2.1.1
  have hl3:3<a.length:=by unfold C1 at A3;simp only[Bool.and_eq_true,decide_eq_true_eq] at A3;exact A3.1.1
  have hw:IntKind.i64.wrap (IntKind.i64.wrap (IntKind.i64.wrap (IntKind.i64.wrap ((X5 a 0:Int) % 8*262144)+IntKind.i64.wrap ((X5 a 1:Int) % 64*4096))+IntKind.i64.wrap ((X5 a 2:Int) % 64*64))+(X5 a 3:Int) % 64)=((Ce a:Nat):Int):=by
   rw[F9 (n:=(X5 a 0:Int) % 8*262144) (by omega) (by omega),F9 (n:=(X5 a 1:Int) % 64*4096) (by omega) (by omega),F9 (n:=(X5 a 2:Int) % 64*64) (by omega) (by omega),F9 (n:=_+(X5 a 1:Int) % 64*4096) (by omega) (by omega),F9 (n:=_+(X5 a 2:Int) % 64*64) (by omega) (by omega),F9 (by omega) (by omega)]
   unfold Ce;omega
  refine U2 hs ?_
  have hx1: ∀{w':World} {K:Value→World→Prop},K (.int .u8 (X5 a 1)) w'→C2 P T.c (S a) (.int .i64 1) w' K:=fun hK=>Nt (i:=1) hl1 hK
  have hx2: ∀{w':World} {K:Value→World→Prop},K (.int .u8 (X5 a 2)) w'→C2 P T.c (S a) (.int .i64 2) w' K:=fun hK=>Nt (i:=2) hl2 hK
  have hx3: ∀{w':World} {K:Value→World→Prop},K (.int .u8 (X5 a 3)) w'→C2 P T.c (S a) (.int .i64 3) w' K:=fun hK=>Nt (i:=3) hl3 hK
  (repeat (apply J0;(· intros;(repeat (rename_i hx;subst hx));(repeat' (first | (with_reducible exact O3 rfl) | (with_reducible exact R9 (Stp.bel (by (repeat (first | exact Stp.refl (by (first | assumption | exact Stp.sat (by assumption) | exact Hst.sat (by assumption))) | assumption | refine Stp.trans ?_ (by first | assumption | exact Hst.stp (by assumption)))))) rfl) | (with_reducible intro _) | (simp only[↓M2,M2,Mb,reduceIte]) | (with_reducible refine Q57 au ?_) | (with_reducible refine Q3T au ?_) | (with_reducible refine hx1 ?_) | (with_reducible refine hx2 ?_) | (with_reducible refine hx3 ?_) | (with_reducible show Q2 _ _ _ _ _;first | refine X7 aS aL aR ?_ | refine Y4 aS aL aR ?_ | refine ld aS aL aR ?_) | (with_reducible show indexAddr _ _ _ _ _ _;refine Y1 aL au ?_) | (with_reducible show X2 _ _ _ _ _ _ _ _;refine Q8 aL ?_) | (with_reducible show F3 _ _ _ _ _ _;refine Z9 aR ?_) | (with_reducible show pick _ _ _ _ _ _;refine M0 ?_) | (apply F8;intro hh;(try simp only[hh,reduceIte,↓M2,M2,Mb,reduceIte]))));done)))
  (intros;(repeat (rename_i hx;subst hx));(try simp only[↓M2,M2,Mb,reduceIte]))
  rename_i w2 hb2
  simp only[hw]
  have hb:=hb2.stp.bel
  by_cases e1:65536≤Ce a
  ·by_cases e2:Ce a≤1114111
   ·simp only[(show decide ((65536:Int)≤(Ce a:Int))=true by rw[decide_eq_true_eq];omega),(show decide ((Ce a:Int)≤1114111)=true by rw[decide_eq_true_eq];omega),↓M1,M1,Mb,reduceIte]
    exact hK 4 _ hb (by rw[hcm,if_pos ⟨e1,e2⟩])
   ·simp only[(show decide ((65536:Int)≤(Ce a:Int))=true by rw[decide_eq_true_eq];omega),(show decide ((Ce a:Int)≤1114111)=false by rw[decide_eq_false_iff_not];omega),↓M1,M1,Mb,reduceIte]
    exact ⟨hb,by rw[hcm,if_neg (by omega)]⟩
  ·simp only[(show decide ((65536:Int)≤(Ce a:Int))=false by rw[decide_eq_false_iff_not];omega),↓M1,M1,Mb,reduceIte]
   exact ⟨hb,by rw[hcm,if_neg (by omega)]⟩
 have i1:decide ((194:Int)≤X5 a 0)=true:=by rw[decide_eq_true_eq];omega
 have n1:decide (194≤X5 a 0)=true:=by rw[decide_eq_true_eq];omega
 have i2:decide ((X5 a 0:Int)<224)=false:=by rw[decide_eq_false_iff_not];omega
 have n2:decide (X5 a 0<224)=false:=by rw[decide_eq_false_iff_not];omega
 have i3:decide ((224:Int)≤X5 a 0)=true:=by rw[decide_eq_true_eq];omega
 have n3:decide (224≤X5 a 0)=true:=by rw[decide_eq_true_eq];omega
 have i4:decide ((X5 a 0:Int)<240)=false:=by rw[decide_eq_false_iff_not];omega
 have n4:decide (X5 a 0<240)=false:=by rw[decide_eq_false_iff_not];omega
 have i5:decide ((240:Int)≤X5 a 0)=true:=by rw[decide_eq_true_eq];omega
 have n5:decide (240≤X5 a 0)=true:=by rw[decide_eq_true_eq];omega
 have i6:decide ((X5 a 0:Int)<245)=false:=by rw[decide_eq_false_iff_not];omega
 have n6:decide (X5 a 0<245)=false:=by rw[decide_eq_false_iff_not];omega
 simp only[i1,i2,i3,i4,i5,i6,↓M1,M1,Mb,reduceIte]
 exact ⟨Below.refl _ _,by rw[hcm];simp only[n1,n2,n3,n4,n5,n6,Bool.and_true,Bool.true_and,Bool.false_and,Bool.and_false,Bool.false_eq_true,if_true,if_false,reduceIte]⟩)
theorem Q4i {s:X0} (u:s.length≤U1) (p:X3 w σ) (h: ∀w',Below w.heap.size w w'→K (.bool (Lib.validD s)) w'):Q1 P F.aJ [S s] w K:=Il (by
 unfold Mx
 refine Ky (fun f x w'=> ∃r,x=S r∧r.length≤f∧r.length≤U1∧Below w.heap.size w w'∧Lib.validD s=Lib.validGoD f r) s.length ⟨s,rfl,Nat.le_refl _,u,Below.refl _ _,rfl⟩ ?_
 rintro m f x d w1 ⟨r,rfl,q,t,b,i⟩ j
 refine Zy ?_
 by_cases a:r=[]
 ·have e:decide (r=[])=true:=by simpa using a
  simp only[e,↓M1,M1,Mb,reduceIte]
  subst a
  have:Lib.validGoD f []=true:=by cases f<;>simp[Lib.validGoD]
  rw[i,this] at h
  exact h _ b
 ·have e:decide (r=[])=false:=by simpa using a
  simp only[e,↓M1,M1,Mb,reduceIte]
  have o:0<r.length:=List.length_pos_iff.2 a
  obtain ⟨f,rfl⟩: ∃g,f=g+1:=⟨f-1,by omega⟩
  rw[Q84 a] at i
  refine X0p a (p.below b) fun v l=>?_
  have c:=b.trans (l.mono b.size)
  refine P1 ?_
  by_cases n:Zz r=0
  ·have k:decide ((Zz r:Int)=0)=true:=by rw[decide_eq_true_eq];omega
   simp only[k,↓M1,M1,Mb,reduceIte]
   rw[i,if_pos n] at h
   exact h _ c
  ·have k:decide ((Zz r:Int)=0)=false:=by rw[decide_eq_false_iff_not];omega
   simp only[k,↓M1,M1,Mb,reduceIte]
   obtain ⟨z,y⟩:=Q9r a n
   rw[Ut X8 (by omega) (by omega)]
   rw[if_neg n] at i
   refine j f _ _ (by omega) ⟨r.drop (Zz r),by simp,by rw[List.length_drop];omega,by rw[List.length_drop];omega,c,i⟩)
end Go.Proofs.YtjdiakhipmggjaaGreatDoor

namespace Go.Proofs.YtjdiakhipmggjaaGreatDoor
open Go.Emb Go.RowKit Go.Kd Go.Hm
variable {w : World} {K : Value → World → Prop} {σ : Q6}
theorem Q6i {σ:Q6}: ∀(xs:List X0),(∀x∈xs,x.length≤U1)→Q0v U8 σ (xs.map S) xs
 | [],_=>trivial
 | x::r,h=>⟨⟨rfl,h x (by simp)⟩,Q6i r fun y a=>h y (by simp[a])⟩
def Uy:List X0:=Um.map (·.name)
set_option maxRecDepth 100000 in
theorem X1x (d:X3 w σ) (h: ∀v w' a,Stp w σ w' a→Sl 1 U8 a v Uy→K v w'):Q1 P F.bV [] w K:=Q0s (by
 unfold Eu
 exact T1 (R:=U8) (sz:=1) d (Uy.map S) Uy rfl rfl (by intro v b;obtain ⟨x,_,rfl⟩:=List.mem_map.1 b;rfl) rfl (Q6i _ (by decide)) fun v w' a c b=>h v w' a c b)
theorem Q8d {a:X0} (t:X3 w σ) (h: ∀w' A,Stp w σ w' A→K (I (L5 (Qn a))) w'):Q1 P F.bf [S a] w K:=Gj (by
 unfold Lq
 refine X1x t fun v w1 σ1 n l=>?_
 have s:Qn a=Uy.findIdx? fun x=>decide (x=a):=by
  unfold Qn Uy
  rw[List.findIdx?_map];rfl
 have q: ∀o,Qn a=o→K (I (L5 o)) w1:=fun o e=>by rw[←e];exact h _ _ n
 rw[s] at q
 have p:Uy.length=42:=rfl
 generalize Uy=c at l q p
 refine U0 c.length (fun k w'=>w'=w1∧ ∀j (i:j<c.length),j<k→ ¬c[j]=a) ⟨rfl,fun j _ h=>by omega⟩ fun k D d E u=>?_
 obtain ⟨C,g⟩:=u
 subst C
 refine Q8 l ?_
 refine Z0 ?_
 refine Q7 (fun r=>?_) (fun r=>?_)
 ·have b:k<c.length:=by simpa using r
  refine Y1 l b ?_
  obtain ⟨z,_⟩:=l.elS b
  refine X7 n.sat z rfl ?_
  refine P4 ?_
  refine Q7 (fun f=>?_) (fun f=>?_)
  ·have f:c[k]=a:=by simpa using f
   exact q (some k) (by
    rw[List.findIdx?_eq_some_iff_getElem]
    exact ⟨b,by simpa using f,fun j i=>by simpa using g j (by omega) i⟩)
  ·have f: ¬c[k]=a:=by simpa using f
   (try simp only[↓M1,M1,Mb,reduceIte])
   refine Y5 l.max b ⟨rfl,fun j i y=>?_⟩
   by_cases e:j=k
   ·subst e;exact f
   ·exact g j i (by omega)
 ·have b: ¬k<c.length:=by simpa using r
  exact q none (by
   rw[List.findIdx?_eq_none_iff]
   intro m B
   obtain ⟨j,i,rfl⟩:=List.getElem_of_mem B
   simpa using g j i (by omega)))
theorem X1N {o:Option Nat}:decide (L5 o<0)= !o.isSome:=by
 cases o with
 | none=>rfl
 | some i=>
  have: ¬(i:Int)<0:=by omega
  exact decide_eq_false this
def Nr (a:X0):Bool:=decide (a=[105,110,116])||decide (a=[108,111,97,100])||decide (a=[115,116,111,114,101])||decide (a=[106,117,109,112])||decide (a=[98,114,97,110,99,104])
def Wg (a:X0):Bool:=decide (a=[119,111,114,100])||decide (a=[110,101,119])||decide (a=[103,101,116])||decide (a=[112,117,116])||decide (a=[99,97,108,108])||decide (a=[97,114,114,97,121])||decide (a=[105,115])||decide (a=[99,97,115,116])
theorem X0C (a:X0):takes a=(Nr a,Wg a,(Qn a).isSome):=by
 unfold takes
 cases g:Qn a with
 | none=>
  have c:=List.findIdx?_eq_none_iff.1 g
  have f: ∀x∈Uy,¬x=a:=by
   intro x d
   obtain ⟨o,q,rfl⟩:=List.mem_map.1 d
   have:=c o q
   simpa using this
  have b: ∀x∈Uy,decide (a=x)=false:=fun x d=>by rw[decide_eq_false_iff_not];exact fun e=>f x d e.symm
  have r:Nr a=false:=by
   unfold Nr
   rw[b _ (by decide),b _ (by decide),b _ (by decide),b _ (by decide),b _ (by decide)];rfl
  have n:Wg a=false:=by
   unfold Wg
   rw[b _ (by decide),b _ (by decide),b _ (by decide),b _ (by decide),b _ (by decide),b _ (by decide),b _ (by decide),b _ (by decide)];rfl
  simp[r,n]
 | some i=>
  obtain ⟨h,j,_⟩:=List.findIdx?_eq_some_iff_getElem.1 g
  have m:Um[i].name=a:=by simpa using j
  have l:Um.getD i ⟨[],false,false⟩=Um[i]:=by rw[List.getD_eq_getElem?_getD,List.getElem?_eq_getElem h];rfl
  have c: ∀o∈Um,o.number=Nr o.name∧o.text=Wg o.name:=by decide
  obtain ⟨p,k⟩:=c _ (List.getElem_mem h)
  simp only[l,Option.isSome_some]
  rw[p,k,m]
def Ey (a:X0):Int:=if Nr a then 1 else if Wg a then 2 else if (Qn a).isSome then 0 else-1
theorem Q9E {a:X0} (f:X3 w σ) (h: ∀w' l,Stp w σ w' l→K (I (Ey a)) w'):Q1 P F.bu [S a] w K:=Pq (by
 unfold Ms
 refine Ur (fun x w'=>w'=w∧x= .bool (Nr a)) ?_ (fun x d w' e=>?_)
 ·unfold Nr
  simp only[↓M1,M1,Mb,reduceIte]
  repeat' (refine Q7 (fun hh=>?_) (fun hh=>?_))
  all_goals (refine ⟨by trivial,?_⟩;congr 1;simp_all)
 ·obtain ⟨rfl,rfl⟩:=e
  cases c:Nr a with
  | true=>
   (try simp only[↓M1,M1,Mb,reduceIte])
   have:=h _ _ (Stp.refl f)
   unfold Ey at this
   simpa [c] using this
  | false=>
   (try simp only[↓M1,M1,Mb,reduceIte])
   refine Ur (fun x b=>b=w'∧x= .bool (Wg a)) ?_ (fun x d b e=>?_)
   ·unfold Wg
    simp only[↓M1,M1,Mb,reduceIte]
    repeat' (refine Q7 (fun hh=>?_) (fun hh=>?_))
    all_goals (refine ⟨by trivial,?_⟩;congr 1;simp_all)
   ·obtain ⟨rfl,rfl⟩:=e
    cases k:Wg a with
    | true=>
     (try simp only[↓M1,M1,Mb,reduceIte])
     have:=h _ _ (Stp.refl f)
     unfold Ey at this
     simpa [c,k] using this
    | false=>
     (try simp only[↓M1,M1,Mb,reduceIte])
     refine Q8d f fun w1 σ1 g=>?_
     have:=h _ _ g
     unfold Ey at this
     simp only[c,k,Bool.false_eq_true,if_false] at this
     simp only[X1N,↓M1,M1,Mb,reduceIte]
     cases j:Qn a with
     | none=>rw[j] at this;simp only[Option.isSome_none,↓M1,M1,Mb,reduceIte];simpa using this
     | some i=>rw[j] at this;simp only[Option.isSome_some,↓M1,M1,Mb,reduceIte];simpa using this)
theorem Q6h (a:X0):decide (Ey a<0)= !(takes a).2.2∧decide (Ey a=1)=(takes a).1∧decide (Ey a=2)=(takes a).2.1:=by
 rw[X0C]
 have d:Nr a=true→Wg a=false∧(Qn a).isSome=true:=by
  intro h
  unfold Nr at h
  simp only[Bool.or_eq_true,decide_eq_true_eq] at h
  rcases h with (((h | h) | h) | h) | h<;>(subst h;decide)
 have e:Wg a=true→(Qn a).isSome=true:=by
  intro h
  unfold Wg at h
  simp only[Bool.or_eq_true,decide_eq_true_eq] at h
  rcases h with ((((((h | h) | h) | h) | h) | h) | h) | h<;>(subst h;decide)
 unfold Ey
 cases f:Nr a with
 | true=>obtain ⟨c,b⟩:=d f;rw[c,b];decide
 | false=>
  cases g:Wg a with
  | true=>rw[e g];decide
  | false=>cases (Qn a).isSome<;>decide
theorem X4d (s:X0) (c:UInt8):decide (0≤Lib.indexByte s c)=s.any fun b=>decide (b=c):=by
 induction s with
 | nil=>rfl
 | cons b r f=>
  simp only[Lib.indexByte,List.any_cons,←f]
  by_cases e:b=c
  ·simp[e]
  ·have a:(b==c)=false:=by simpa using e
   have g:=Lib.indexByte_ge r c
   simp only[a,e,decide_false,Bool.false_or,Bool.false_eq_true,if_false]
   by_cases d:Lib.indexByte r c= -1
   ·simp[d]
   ·have:(Lib.indexByte r c== -1)=false:=by simpa using d
    simp only[this,Bool.false_eq_true,if_false]
    rw[Bool.eq_iff_iff,decide_eq_true_eq,decide_eq_true_eq];omega
def JB (w:World) (σ:Q6) (b:Bool) (x:Value) (w':World):Prop:= ∃a,Stp w σ w' a∧x= .bool b
theorem JB.mk {w w':World} {σ a:Q6} {b:Bool} (h:Stp w σ w' a):JB w σ b (.bool b) w':=⟨a,h,rfl⟩
theorem JB.of {w w':World} {σ a:Q6} {b c:Bool} (h:Stp w σ w' a) (e:c=b):JB w σ b (.bool c) w':=⟨a,h,by rw[e]⟩
theorem X3f {s:X0} {n:Nat} (h:n<s.length):decide ((X5 s n:Int)=10)=decide (s[n]=10):=by
 unfold X5
 rw[List.getD_eq_getElem?_getD,List.getElem?_eq_getElem h,Bool.eq_iff_iff,decide_eq_true_eq,decide_eq_true_eq]
 simp only[Option.getD_some]
 rw[←UInt8.toNat_inj]
 constructor
 ·intro e;have:s[n].toNat=10:=by omega
  rw[this];rfl
 ·intro e;rw[e];rfl
theorem Uv {α:Type} {xs:List α} {p:α→Bool} {n:Nat} (h:n<xs.length):(xs.take (n+1)).all p=((xs.take n).all p&&p xs[n]):=by
 rw[List.take_add_one,List.getElem?_eq_getElem h,List.all_append];simp
set_option maxHeartbeats 2000000 in
theorem Q7N {i:Ins} {cs:List Value} (hs:X3 w σ) (hi:Qt σ i cs) (h: ∀w' m,Stp w σ w' m→K (I (H4 i)) w'):Q1 P F.bt [.agg cs.toArray] w K:=Ik (by
 obtain ⟨rfl,h1,h2,h3⟩:=hi
 unfold Nn
 refine Z1 hs fun q w1 σ1 V hq=>?_
 have R:=V.sat
 (try simp only[↓M1,M1,Mb,reduceIte])
 refine ld R hq rfl ?_
 refine Q9E R fun Y σ2 W=>?_
 obtain ⟨t1,O,H⟩:=Q6h i.op
 have f:=V.trans W
 have g:=hq.up W
 have e:=f.sat
 have t:i.s.length≤140737488355328:=by simp only[U1] at h3;omega
 simp only[t1,↓M1,M1,Mb,reduceIte]
 unfold H4 at h
 cases e1:(takes i.op).2.2 with
 | false=>
  simp only[e1,Bool.not_false,if_true] at h
  (try simp only[↓M1,M1,Mb,reduceIte])
  exact h _ _ f
 | true=>
 simp only[e1,Bool.not_true,Bool.false_eq_true,if_false] at h
 simp only[O,H,↓M1,M1,Mb,reduceIte]
 have k: ∀(b:Bool) (w':World) (m:Q6),Stp w σ w' m→b=(!((!(takes i.op).1&&decide (i.n≠0))||(!(takes i.op).2.1&&decide (i.s≠[]))||((takes i.op).2.1&& !txt i.op i.s)))→
  X1 (.bool (!b)) (K (.int .i64 41) w') (K (.int .i64 0) w'):=by
  intro b w' m u B
  subst B
  rw[Bool.not_not]
  cases B:((!(takes i.op).1&&decide (i.n≠0))||(!(takes i.op).2.1&&decide (i.s≠[]))||((takes i.op).2.1&& !txt i.op i.s)) with
  | true=>simp only[B,if_true] at h;(try simp only[↓M1,M1,Mb,reduceIte]);exact h _ _ u
  | false=>simp only[B,Bool.false_eq_true,if_false] at h;(try simp only[↓M1,M1,Mb,reduceIte]);exact h _ _ u
 clear h
 have ag:(takes i.op).2.1=true→(takes i.op).1=false:=by
  intro Q
  rw[←O,decide_eq_false_iff_not]
  rw[←H,decide_eq_true_eq] at Q
  omega
 cases A:(takes i.op).2.1 with
 | false=>
  rw[A] at k H
  cases v:(takes i.op).1 with
  | true=>
   rw[v] at k O
   (try simp only[↓M1,M1,Mb,reduceIte])
   simp only[H,↓M1,M1,Mb,reduceIte]
   refine ld e g rfl ?_
   (try simp only[↓M1,M1,Mb,reduceIte])
   refine U6 ?_
   intro d
   simp only[↓M1,M1,Mb,reduceIte]
   exact k _ _ _ f (by simp)
  | false=>
   rw[v] at k O
   (try simp only[↓M1,M1,Mb,reduceIte])
   refine ld e g rfl ?_
   (try simp only[↓M1,M1,Mb,reduceIte])
   by_cases M:i.n=0
   ·have d0:decide (i.n=0)=true:=by simpa using M
    simp only[d0,H,↓M1,M1,Mb,reduceIte]
    refine ld e g rfl ?_
    (try simp only[↓M1,M1,Mb,reduceIte])
    refine U6 ?_
    intro d
    simp only[↓M1,M1,Mb,reduceIte]
    exact k _ _ _ f (by simp[M])
   ·have d0:decide (i.n=0)=false:=by simpa using M
    simp only[d0,↓M1,M1,Mb,reduceIte]
    refine U6 ?_
    intro d
    have E:=k false _ _ f (by simp[M])
    (try simp only[↓M1,M1,Mb,reduceIte] at E⊢)
    exact E
 | true=>
  have v:=ag A
  rw[A,v] at k
  rw[A] at H
  rw[v] at O⊢
  (try simp only[↓M1,M1,Mb,reduceIte])
  refine ld e g rfl ?_
  (try simp only[↓M1,M1,Mb,reduceIte])
  have o: ∀(b c:Bool) (w':World) (m:Q6),decide (i.n=0)=b→Stp w σ w' m→c=(b&&txt i.op i.s)→X1 (.bool (!c)) (K (.int .i64 41) w') (K (.int .i64 0) w'):=by
   intro b c w' m B u p
   refine k c w' m u ?_
   rw[p,←B]
   by_cases M:i.n=0<;>simp[M]
  clear k
  cases B:decide (i.n=0) with
  | false=>
   have y:=fun w' m u=>o false false w' m B u rfl
   clear o
   simp only[H,↓M1,M1,Mb,reduceIte]
   refine Ur (JB w σ false) ?_ (fun x d w' Q=>?_)
   ·refine ld e g rfl ?_
    (try simp only[↓M1,M1,Mb,reduceIte])
    refine Q7 (fun hh=>?_) (fun hh=>?_)
    ·refine E4 (a:=Value.bool false) i.s.length (fun n x w'=>w'=Y∧x=Value.bool false) ⟨rfl,rfl⟩ fun n x w3 d hn l=>?_
     obtain ⟨C,rfl⟩:=l
     subst C
     (try simp only[↓M1,M1,Mb,reduceIte])
     refine ld e g rfl ?_
     (try simp only[↓M1,M1,Mb,reduceIte])
     refine Q7 (fun p=>?_) (fun p=>?_)
     ·have j:n<i.s.length:=by simpa using p
      (try simp only[↓M1,M1,Mb,reduceIte])
      exact J3 (by omega) j ⟨rfl,rfl⟩
     ·exact .mk f
    refine Q7 (fun hh=>?_) (fun hh=>?_)
    ·exact .mk f
    refine Ur (fun x w'=>w'=Y∧ ∃b:Bool,x=Value.bool b) ?_ (fun z d w' hz=>?_)
    ·refine Q7 (fun hh=>?_) (fun hh=>?_)
     ·exact ⟨rfl,_,rfl⟩
     ·exact ⟨rfl,_,rfl⟩
    obtain ⟨C,b,rfl⟩:=hz
    subst C
    refine Q7 (fun hh=>?_) (fun hh=>?_)
    ·exact .mk f
    refine Q7 (fun hh=>?_) (fun hh=>?_)
    ·exact .mk f
    refine ld e g rfl ?_
    refine Q4l i.s t fun w4 r=>?_
    by_cases N:(Qz i.s).2.2=true
    ·simp only[N,if_true,↓M1,M1,Mb,reduceIte]
     exact .mk (f.trans (Stp.of_below e r))
    ·simp only[N,if_false,↓M1,M1,Mb,reduceIte]
     exact .mk (f.trans (Stp.of_below e r))
   ·obtain ⟨m,u,rfl⟩:=Q
    have E:=y w' m u
    (try simp only[↓M1,M1,Mb,reduceIte] at E⊢)
    exact E
  | true=>
   have y:=fun c w' m u p=>o true c w' m B u p
   clear o
   simp only[H,↓M1,M1,Mb,reduceIte]
   refine Ur (JB w σ (txt i.op i.s)) ?_ (fun x d w' Q=>?_)
   ·refine ld e g rfl ?_
    (try simp only[↓M1,M1,Mb,reduceIte])
    unfold txt
    by_cases o1:i.op=[119,111,114,100]
    ·simp only[if_pos o1,decide_eq_true o1,↓M1,M1,Mb,reduceIte]
     refine ld e g rfl ?_
     (try simp only[↓M1,M1,Mb,reduceIte])
     have ad:decide ((i.s.length:Int)≤64)=decide (i.s.length≤64):=by rw[Bool.eq_iff_iff,decide_eq_true_eq,decide_eq_true_eq];omega
     rw[ad,X4d,List.not_any_eq_all_not]
     cases ap:decide (i.s.length≤64) with
     | false=>
      (try simp only[↓M1,M1,Mb,reduceIte])
      refine E4 (a:=Value.bool false) i.s.length (fun n x w'=>w'=Y∧x=Value.bool false) ⟨rfl,rfl⟩ fun n x w3 d hn l=>?_
      obtain ⟨C,rfl⟩:=l
      subst C
      (try simp only[↓M1,M1,Mb,reduceIte])
      refine ld e g rfl ?_
      (try simp only[↓M1,M1,Mb,reduceIte])
      refine Q7 (fun p=>?_) (fun p=>?_)
      ·have j:n<i.s.length:=by simpa using p
       (try simp only[↓M1,M1,Mb,reduceIte])
       exact J3 (by omega) j ⟨rfl,rfl⟩
      ·exact .of f (by simp)
     | true=>
      (try simp only[↓M1,M1,Mb,reduceIte])
      refine ld e g rfl ?_
      refine Q4i h3 e fun w4 r=>?_
      have J:=Stp.of_below e r
      have X:=g.up J
      have U:=J.sat
      have D:=f.trans J
      (try simp only[↓M1,M1,Mb,reduceIte])
      refine E4 (a:=Value.bool (Lib.validD i.s)) i.s.length (fun n x w'=>w'=w4∧x=Value.bool (Lib.validD i.s&&(i.s.take n).all fun c=> !decide (c=10))) ⟨rfl,by simp⟩ fun n x w3 d hn l=>?_
      obtain ⟨C,rfl⟩:=l
      subst C
      (try simp only[↓M1,M1,Mb,reduceIte])
      refine ld U X rfl ?_
      (try simp only[↓M1,M1,Mb,reduceIte])
      refine Q7 (fun p=>?_) (fun p=>?_)
      ·have j:n<i.s.length:=by simpa using p
       have L:(Lib.validD i.s&&(i.s.take (n+1)).all fun c=> !decide (c=10))=((Lib.validD i.s&&(i.s.take n).all fun c=> !decide (c=10))&& !decide (i.s[n]=10)):=by rw[Uv j,Bool.and_assoc]
       generalize aj:(Lib.validD i.s&&(i.s.take n).all fun c=> !decide (c=10))=ae at L⊢
       cases ae with
       | false=>(try simp only[↓M1,M1,Mb,reduceIte]);exact J3 (by omega) j ⟨rfl,by rw[L];rfl⟩
       | true=>
        (try simp only[↓M1,M1,Mb,reduceIte])
        refine ld U X rfl ?_
        refine Nt j ?_
        simp only[X3f j,↓M1,M1,Mb,reduceIte]
        exact J3 (by omega) j ⟨rfl,by rw[L];rfl⟩
      ·have j: ¬n<i.s.length:=by simpa using p
       rw[List.take_of_length_le (by omega)]
       exact .of D (by simp)
    ·simp only[if_neg o1,decide_eq_false o1,↓M1,M1,Mb,reduceIte]
     by_cases o2:i.op=[110,101,119]
     ·simp only[if_pos o2,decide_eq_true o2,↓M1,M1,Mb,reduceIte]
      refine ld e g rfl ?_
      refine Yd i.s t ?_
      (try simp only[↓M1,M1,Mb,reduceIte])
      exact .mk f
     ·simp only[if_neg o2,decide_eq_false o2,↓M1,M1,Mb,reduceIte]
      refine Ur (fun x w'=>w'=Y∧x=Value.bool (decide (i.op=[105,115]∨i.op=[99,97,115,116]))) ?_ (fun z d w' hz=>?_)
      ·refine Q7 (fun hh=>?_) (fun hh=>?_)
       ·exact ⟨rfl,by simp_all⟩
       ·exact ⟨rfl,by simp_all⟩
      obtain ⟨C,rfl⟩:=hz
      subst C
      by_cases Z:i.op=[105,115]∨i.op=[99,97,115,116]
      ·simp only[if_pos Z,decide_eq_true Z,↓M1,M1,Mb,reduceIte]
       refine ld e g rfl ?_
       refine Jt i.s t ?_
       cases hr:right i.s with
       | false=>(try simp only[↓M1,M1,Mb,reduceIte]);exact .mk f
       | true=>
        (try simp only[↓M1,M1,Mb,reduceIte])
        refine ld e g rfl ?_
        refine Ek i.s ?_
        (try simp only[↓M1,M1,Mb,reduceIte])
        exact .mk f
      ·simp only[if_neg Z,decide_eq_false Z,↓M1,M1,Mb,reduceIte]
       by_cases o4:i.op=[97,114,114,97,121]
       ·simp only[if_pos o4,decide_eq_true o4,↓M1,M1,Mb,reduceIte]
        refine ld e g rfl ?_
        refine Jt i.s t ?_
        cases hr:right i.s with
        | false=>(try simp only[↓M1,M1,Mb,reduceIte]);exact .mk f
        | true=>
         (try simp only[↓M1,M1,Mb,reduceIte])
         refine ld e g rfl ?_
         refine Ro i.s t ?_
         (try simp only[↓M1,M1,Mb,reduceIte])
         have e3:decide (((base i.s).2:Int)<3)=decide (Xt i.s<3):=by
          unfold Xt;rw[if_pos hr,Bool.eq_iff_iff,decide_eq_true_eq,decide_eq_true_eq];omega
         rw[e3]
         exact .mk f
       ·simp only[if_neg o4,decide_eq_false o4,↓M1,M1,Mb,reduceIte]
        refine ld e g rfl ?_
        refine Q4l i.s t fun w4 r=>?_
        have D:=f.trans (Stp.of_below e r)
        by_cases N:(Qz i.s).2.2=true
        ·simp only[N,if_true,↓M1,M1,Mb,reduceIte]
         exact .mk D
        ·have:Zn i.s=false:=by unfold Zn;rw[eq_false_of_ne_true N];rfl
         simp only[N,if_false,↓M1,M1,Mb,reduceIte]
         exact .of D this.symm
   ·obtain ⟨m,u,rfl⟩:=Q
    have E:=y _ w' m u rfl
    simp only[Bool.true_and] at E
    (try simp only[↓M1,M1,Mb,reduceIte])
    exact E)
end Go.Proofs.YtjdiakhipmggjaaGreatDoor

namespace Go.Emb
theorem X2d {w:World} {K:Value→World→Prop} {v:Value} (h:K v w):Q0 (.bool true) true w (fun w J=>J v w) K:=by rw[W2];exact h
theorem X27 {w:World} {K:Value→World→Prop} {v:Value} (h:K v w):Q0 (.bool false) false w (fun w J=>J v w) K:=by rw[W7];exact h
theorem X2G {w:World} {K:Value→World→Prop} {b:Bool} {run:World→(Value→World→Prop)→Prop} (h:K undef w):Q0 undef b w run K:=by rw[O7];exact h
class Hd (p : Prop) (q : outParam Prop) : Prop where
  h : q → p
section
variable {P : Program} {w : World} {K : Value → World → Prop} {run : World → (Value → World → Prop) → Prop} {v u : Value} {b : Bool}
instance:Hd (J8 P .not (.bool b) w K) (K (.bool (!b)) w):=⟨Wh⟩
instance:Hd (Q0 undef b w run K) (K undef w):=⟨X2G⟩
instance {t:TypeId} {k off:Nat} {ft:TypeId} {sz by_:Nat} {z:Value} {a:Addr} [tf:TF P t k off ft] [tz:TZ P ft sz by_ z] [nz:NZ sz]:Hd (fieldAddr P t (.pointer (some a)) k w K) (K (.pointer (some (a.add off))) w):=⟨W0⟩
instance:Hd (pick P (.bool false) v u w K) (K u w):=⟨X26⟩
instance:Hd (pick P (.bool true) v u w K) (K v w):=⟨X2c⟩
instance:Hd (Q0 (.bool false) false w run K) (run w K):=⟨X3k⟩
instance:Hd (Q0 (.bool true) true w run K) (run w K):=⟨X33⟩
instance:Hd (Q0 (.bool false) true w run K) (K undef w):=⟨X2j⟩
instance:Hd (Q0 (.bool true) false w run K) (K undef w):=⟨X1v⟩
instance:Hd (Q0 (.bool false) false w (fun w J=>J v w) K) (K v w):=⟨X27⟩
instance:Hd (Q0 (.bool true) true w (fun w J=>J v w) K) (K v w):=⟨X2d⟩
end
end Go.Emb
namespace Go.Proofs.YtjdiakhipmggjaaGreatDoor
open Go.Emb Go.RowKit Go.Kd Go.Hm
variable {w : World} {K : Value → World → Prop} {σ : Q6}
theorem X1B {xs:List Ins} {v:Value} (r:X3 w σ) (o:Sl 3 Qt σ v xs) (h: ∀e w' m,Stp w σ w' m→decide (e=0)=xs.all (fun i=>decide (H4 i=0))→K (I e) w'):Q1 P F.b2 [v] w K:=Q0O (by
 unfold Es
 refine U0 xs.length (fun n w'=> ∃m,Stp w σ w' m∧(xs.take n).all (fun i=>decide (H4 i=0))=true) ⟨σ,Stp.refl r,rfl⟩ fun n w1 d y j=>?_
 obtain ⟨σ1,a,f⟩:=j
 have g:=o.up a
 refine Q8 g ?_
 refine Z0 ?_
 refine Q7 (fun l=>?_) (fun l=>?_)
 ·have c:n<xs.length:=by simpa using l
  refine Y1 g c ?_
  obtain ⟨t,s⟩:=g.elI c
  refine Y4 a.sat t rfl ?_
  refine Q7N a.sat s fun z p k=>?_
  refine Jf ?_
  by_cases e:H4 xs[n]=0
  ·have:decide (H4 xs[n]=0)=true:=by simpa using e
   simp only[this,↓M1,M1,Mb,reduceIte]
   exact Y5 o.max c ⟨p,a.trans k,by rw[Uv c,f];simpa using e⟩
  ·have:decide (H4 xs[n]=0)=false:=by simpa using e
   simp only[this,↓M1,M1,Mb,reduceIte]
   refine h _ _ _ (a.trans k) ?_
   rw[this]
   symm
   rw[←Bool.not_eq_true,List.all_eq_true]
   intro q
   have:=q _ (List.getElem_mem c)
   simp at this
   exact e this
 ·have c: ¬n<xs.length:=by simpa using l
  rw[List.take_of_length_le (by omega)] at f
  exact h 0 _ _ a (by rw[f];rfl))
theorem X04 {c:Cla} {cs:List Value} (hs:X3 w σ) (hc:V0 σ c cs) (h: ∀w' σ',Stp w σ w' σ'→K (.bool (Zp c)) w'):Q1 P F.bJ [.agg cs.toArray] w K:=Tn (by
 unfold Oz
 obtain ⟨lv,fv,mv,rfl,f1,f2,f3,f4,f5⟩:=hc
 refine Z1 hs fun q w1 σ1 hk1 hq=>?_
 have f1:=f1.up hk1
 have f2:=f2.up hk1
 have f3:=f3.up hk1
 refine U0 c.methods.length (fun n w'=> ∃σ',Stp w1 σ1 w' σ'∧(c.methods.take n).any Wi=false) ⟨σ1,Stp.refl hk1.sat,rfl⟩ fun n w2 d hn hinv=>?_
 obtain ⟨σ2,hk2,hno⟩:=hinv
 have hq2:=hq.up hk2
 have f32:=f3.up hk2
 have f12:=f1.up hk2
 have f22:=f2.up hk2
 have hs2:=hk2.sat
 (try simp only[↓M1,M1,Mb,reduceIte])
 refine ld hs2 hq2 rfl ?_
 refine Q8 f32 ?_
 refine Z0 ?_
 refine Q7 (fun hc=>?_) (fun hc=>?_)
 ·have hn':n<c.methods.length:=by simpa using hc
  (try simp only[↓M1,M1,Mb,reduceIte])
  refine ld hs2 hq2 rfl ?_
  refine Y1 f32 hn' ?_
  obtain ⟨pv,cv,hv,p1,r1⟩:=f32.elM hn'
  refine Y4 hs2 p1 rfl ?_
  refine Y9 hs2 (by rfl) rfl (Rep.one r1) fun q3 w3 σ3 hk3 hq3=>?_
  obtain ⟨g1,g2,g3,_,_,_⟩:=(RMe_lift r1 ⟨hk3.le⟩).parts
  have hS3:=hk1.trans (hk2.trans hk3)
  have hyes:Wi c.methods[n]=true→K (.bool true) w3:=fun e=>by
   have:=h _ _ hS3
   have hm:Zp c=true:=by unfold Zp;rw[S6 hn' e];rfl
   rwa [hm] at this
  have hk23:=hk2.trans hk3
  clear h hk2 hk3 hS3
  have hmax:=f3.max
  (repeat' (first | (with_reducible intro _) | (with_reducible refine U6 ?_) | (simp only[↓M2,M2,Mb,reduceIte]) | (with_reducible first | refine ld aS aL aR ?_ | refine X7 aS aL aR ?_ | refine Y4 aS aL aR ?_ | refine Q8 aL ?_ | refine Z9 aR ?_ | refine Z1 aS ?_ | refine N2 aS aL ?_ | refine U5 aS aR ?_ | refine Y9 aS aR aR (Rep.one (by assumption)) ?_ | refine U7 aS aR aR aR ?_ | (refine Z8 (fun hh=>?_) (fun hh=>?_)<;>(try simp only[hh,Bool.not_true,Bool.not_false,↓M2,M2,Mb,reduceIte])) | (refine Q7 (fun hh=>?_) (fun hh=>?_)<;>(try simp only[hh,Bool.not_true,Bool.not_false,↓M2,M2,Mb,reduceIte])))))
  all_goals clear hq hq2 f1 f2 f3 f32 f12 f22 hs hs2 p1 r1 g1 g2 g3 hk1 f4 f5 hq3
  all_goals first
   | (refine hyes ?_;clear hyes hk23;unfold Wi;simp only[Bool.not_false,Bool.not_true,Bool.or_eq_true,decide_eq_true_eq,decide_eq_false_iff_not] at*;omega)
   | (
    have hnx:(c.methods.take (n+1)).any Wi=false:=by
     rw[L3 hn',hno,Bool.false_or];clear hyes hk23;unfold Wi;simp only[Bool.or_eq_false_iff,decide_eq_false_iff_not] at*;omega
    exact Y5 hmax hn' ⟨_,hk23,hnx⟩)
 ·have hn': ¬n<c.methods.length:=by simpa using hc
  rw[E0 hn'] at hno
  have hS2:=hk1.trans hk2
  have hm:Zp c=(decide (32<c.like.length)||decide (32<c.fields.length)||decide (32<c.methods.length)):=by unfold Zp;rw[hno];simp
  rw[hm] at h
  have hK:=h _ _ hS2
  clear h hk2
  (try simp only[↓M1,M1,Mb,reduceIte])
  refine ld hs2 hq2 rfl ?_
  refine Q8 f12 ?_
  have d32: ∀k:Nat,decide ((32:Int)<(k:Int))=decide (32<k):=fun k=>by rw[Bool.eq_iff_iff,decide_eq_true_eq,decide_eq_true_eq];omega
  simp only[d32,↓M1,M1,Mb,reduceIte]
  cases e1:decide (32<c.like.length) with
  | true=>rw[e1] at hK;(try simp only[↓M1,M1,Mb,reduceIte]);simpa using hK
  | false=>
   rw[e1] at hK
   (try simp only[↓M1,M1,Mb,reduceIte])
   refine ld hs2 hq2 rfl ?_
   refine Q8 f22 ?_
   simp only[d32,↓M1,M1,Mb,reduceIte]
   cases e2:decide (32<c.fields.length) with
   | true=>rw[e2] at hK;(try simp only[↓M1,M1,Mb,reduceIte]);simpa using hK
   | false=>
    rw[e2] at hK
    (try simp only[↓M1,M1,Mb,reduceIte])
    refine ld hs2 hq2 rfl ?_
    refine Q8 f32 ?_
    simp only[d32,↓M1,M1,Mb,reduceIte]
    simpa using hK)
theorem Q7h {α:Type} {xs:List α} {p:α→Bool} {n:Nat} (h: ¬n<xs.length):(xs.take n).all p=xs.all p:=by rw[List.take_of_length_le (by omega)]
set_option maxHeartbeats 4000000 in
theorem Q0n {m:Hm.Met} {pv cv hv:Value} {w1:World} {σ1:Q6} {q:Addr} {p:Bool} (hs:X3 w σ) (ag:Stp w σ w1 σ1) (hq:Z4 σ1 q [S m.name,pv,S m.result, .bool m.abs,I m.locals,cv,hv]) (g1:Sl 1 U8 σ1 pv m.params) (g2:Sl 3 Qt σ1 cv m.code) (g3:Sl 4 Jk σ1 hv m.catches)
 (h: ∀w' O,Stp w σ w' O→K (.bool ((p&&m.params.all right)&&if m.abs then decide (m.locals=0)&&decide (m.code=[])&&decide (m.catches=[])
  else decide (m.code≠[])&&decide ((m.params.length:Int)<m.locals)&&m.code.all (fun i=>decide (H4 i=0))&&m.catches.all (I3 m.code.length))) w'):
 lp (α:=Value×Value) (Value.bool p,(.int .i64 0)) w1 fun Z B d_ w=>
  fieldAddr P T.d (.pointer (some q)) 1 w fun c7 w=>
  Q2 P T.h c7 w fun bv w=>
  X2 P .len [T.h] T.e [false] [bv] w fun cw w=>
  Q3 P .lss T.e (.tmp 21) (.tmp 24) B.2 cw w fun c8 w=>
  X1 c8 (
   Q0 B.1 true w (fieldAddr P T.d (.pointer (some q)) 1) fun bs w=>
   Q0 B.1 true w (Q2 P T.h bs) fun cx w=>
   Q0 B.1 true w (fun w J=>J B.2 w) fun b8 w=>
   Q0 B.1 true w (indexAddr P T.h cx b8) fun b6 w=>
   Q0 B.1 true w (Q2 P T.c b6) fun c4 w=>
   Q0 B.1 true w (Q1 P F.e [c4]) fun b3 w=>
   pick P B.1 b3 (.bool false) w fun bo w=>
   Q3 P .add T.e (.tmp 26) (.const (.int .i64 1)) B.2 (.int .i64 1) w fun bq w=>
   Z (bo,bq) w) (
   fieldAddr P T.d (.pointer (some q)) 3 w fun bm w=>
   Q2 P T.u bm w fun bp w=>
   X1 bp (
    Q0 B.1 true w (fieldAddr P T.d (.pointer (some q)) 4) fun bj w=>
    Q0 B.1 true w (Q2 P T.e bj) fun bu w=>
    Q0 B.1 true w (Q3 P .eql T.e (.tmp 42) (.const (.int .i64 0)) bu (.int .i64 0)) fun c9 w=>
    pick P B.1 c9 (.bool false) w fun M w=>
    Q0 M true w (fieldAddr P T.d (.pointer (some q)) 5) fun cy w=>
    Q0 M true w (Q2 P T.q cy) fun dc w=>
    Q0 M true w (X2 P .len [T.q] T.e [false] [dc]) fun c6 w=>
    Q0 M true w (Q3 P .eql T.e (.tmp 48) (.const (.int .i64 0)) c6 (.int .i64 0)) fun ci w=>
    pick P M ci (.bool false) w fun N w=>
    Q0 N true w (fieldAddr P T.d (.pointer (some q)) 6) fun cp w=>
    Q0 N true w (Q2 P T.s cp) fun cc w=>
    Q0 N true w (X2 P .len [T.s] T.e [false] [cc]) fun b9 w=>
    Q0 N true w (Q3 P .eql T.e (.tmp 54) (.const (.int .i64 0)) b9 (.int .i64 0)) fun bn w=>
    pick P N bn (.bool false) w fun c5 w=>
    K c5 w) (
    fieldAddr P T.d (.pointer (some q)) 5 w fun bk w=>
    Q2 P T.q bk w fun cn w=>
    X2 P .len [T.q] T.e [false] [cn] w fun af w=>
    lp (α:=Value×Value) (B.1,(.int .i64 0)) w fun Q j d_ w=>
     fieldAddr P T.d (.pointer (some q)) 6 w fun cf w=>
     Q2 P T.s cf w fun cb w=>
     X2 P .len [T.s] T.e [false] [cb] w fun ck w=>
     Q3 P .lss T.e (.tmp 60) (.tmp 63) j.2 ck w fun dd w=>
     X1 dd (
      fieldAddr P T.d (.pointer (some q)) 6 w fun bx w=>
      Q2 P T.s bx w fun cr w=>
      indexAddr P T.s cr j.2 w fun cj w=>
      Q2 P T.t cj w fun bl w=>
      W1 P T.t w fun t7 w=>
      X9 P T.t t7 bl w fun _u w=>
      Q0 j.1 true w (fieldAddr P T.t t7 0) fun ca w=>
      Q0 j.1 true w (Q2 P T.e ca) fun b0 w=>
      Q0 j.1 true w (Q3 P .geq T.e (.tmp 75) (.const (.int .i64 0)) b0 (.int .i64 0)) fun b2 w=>
      pick P j.1 b2 (.bool false) w fun H w=>
      Q0 H true w (fieldAddr P T.t t7 0) fun b4 w=>
      Q0 H true w (Q2 P T.e b4) fun cm w=>
      Q0 H true w (fieldAddr P T.t t7 1) fun cl w=>
      Q0 H true w (Q2 P T.e cl) fun bz w=>
      Q0 H true w (Q3 P .lss T.e (.tmp 80) (.tmp 82) cm bz) fun ct w=>
      pick P H ct (.bool false) w fun R w=>
      Q0 R true w (fieldAddr P T.t t7 1) fun c3 w=>
      Q0 R true w (Q2 P T.e c3) fun co w=>
      Q0 R true w (fun w J=>J af w) fun b5 w=>
      Q0 R true w (Q3 P .leq T.e (.tmp 87) (.tmp 88) co b5) fun cd w=>
      pick P R cd (.bool false) w fun aa w=>
      Q0 aa true w (fieldAddr P T.t t7 2) fun b7 w=>
      Q0 aa true w (Q2 P T.e b7) fun db w=>
      Q0 aa true w (Q3 P .geq T.e (.tmp 93) (.const (.int .i64 0)) db (.int .i64 0)) fun ch w=>
      pick P aa ch (.bool false) w fun L w=>
      Q0 L true w (fieldAddr P T.t t7 2) fun b1 w=>
      Q0 L true w (Q2 P T.e b1) fun bw w=>
      Q0 L true w (fun w J=>J af w) fun cu w=>
      Q0 L true w (Q3 P .lss T.e (.tmp 98) (.tmp 99) bw cu) fun az w=>
      pick P L az (.bool false) w fun D w=>
      Q0 D true w (fieldAddr P T.t t7 3) fun ao w=>
      Q0 D true w (Q2 P T.c ao) fun am w=>
      Q0 D true w (Q1 P F.d [am]) fun al w=>
      pick P D al (.bool false) w fun a0 w=>
      Q3 P .add T.e (.tmp 65) (.const (.int .i64 1)) j.2 (.int .i64 1) w fun cs w=>
      Q (a0,cs) w) (
      Q0 j.1 true w (fun w J=>J af w) fun aw w=>
      Q0 j.1 true w (Q3 P .gtr T.e (.tmp 109) (.const (.int .i64 0)) aw (.int .i64 0)) fun bd w=>
      pick P j.1 bd (.bool false) w fun g w=>
      Q0 g true w (fieldAddr P T.d (.pointer (some q)) 4) fun ar w=>
      Q0 g true w (Q2 P T.e ar) fun ba w=>
      Q0 g true w (fieldAddr P T.d (.pointer (some q)) 1) fun a7 w=>
      Q0 g true w (Q2 P T.h a7) fun ay w=>
      Q0 g true w (X2 P .len [T.h] T.e [false] [ay]) fun a2 w=>
      Q0 g true w (Q3 P .gtr T.e (.tmp 114) (.tmp 117) ba a2) fun a6 w=>
      pick P g a6 (.bool false) w fun A w=>
      Q0 A true w (fieldAddr P T.d (.pointer (some q)) 5) fun a8 w=>
      Q0 A true w (Q2 P T.q a8) fun an w=>
      Q0 A true w (Q1 P F.b2 [an]) fun a9 w=>
      Q0 A true w (Q3 P .eql T.y (.tmp 123) (.const (.int .i64 0)) a9 (.int .i64 0)) fun bb w=>
      pick P A bb (.bool false) w fun a3 w=>
      K a3 w))):=by
 have cg:=ag.sat
 have c0:decide ((m.code.length:Int)=0)=decide (m.code=[]):=by cases m.code<;>simp;omega
 have c1:decide ((m.catches.length:Int)=0)=decide (m.catches=[]):=by cases m.catches<;>simp;omega
 have c2:decide ((0:Int)<m.code.length)=decide (m.code≠[]):=by cases m.code<;>simp
 refine E4 (a:=Value.bool p) m.params.length (fun n x w'=> ∃O,Stp w1 σ1 w' O∧x=Value.bool (p&&(m.params.take n).all right)) ⟨σ1,Stp.refl cg,by simp⟩ fun n x w2 d hn U=>?_
 obtain ⟨σ2,o,rfl⟩:=U
 have l:=hq.up o
 have X:=g1.up o
 have k:=o.sat
 (try simp only[↓M1,M1,Mb,reduceIte])
 refine ld k l rfl ?_
 refine Q8 X ?_
 refine Z0 ?_
 refine Q7 (fun hc=>?_) (fun hc=>?_)
 ·have c:n<m.params.length:=by simpa using hc
  have y:(p&&(m.params.take (n+1)).all right)=((p&&(m.params.take n).all right)&&right m.params[n]):=by rw[Uv c,Bool.and_assoc]
  generalize (p&&(m.params.take n).all right)=f at y⊢
  cases f with
  | false=>(try simp only[↓M1,M1,Mb,reduceIte]);exact J3 g1.max c ⟨σ2,o,by rw[y];rfl⟩
  | true=>
   (try simp only[↓M1,M1,Mb,reduceIte])
   refine ld k l rfl ?_
   (try simp only[↓M1,M1,Mb,reduceIte])
   refine Y1 X c ?_
   obtain ⟨p1,p2⟩:=X.elS c
   refine X7 k p1 rfl ?_
   refine Jt _ (by simp only[U1] at p2;omega) ?_
   (try simp only[↓M1,M1,Mb,reduceIte])
   exact J3 g1.max c ⟨σ2,o,by rw[y];rfl⟩
 ·have c: ¬n<m.params.length:=by simpa using hc
  rw[Q7h c]
  have aq:=ag.trans o
  have ah:=g2.up o
  have Y:=g3.up o
  clear ag o hq g1 g2 g3 hn hc
  generalize (p&&m.params.all right)=f at h⊢
  refine ld k l rfl ?_
  cases ak:m.abs with
  | true=>
   simp only[ak,if_true] at h
   have hK:=h _ _ aq
   clear h
   (try simp only[↓M1,M1,Mb,reduceIte])
   cases f with
   | false=>(try simp only[↓M1,M1,Mb,reduceIte]);simpa using hK
   | true=>
    (try simp only[↓M1,M1,Mb,reduceIte])
    refine ld k l rfl ?_
    (try simp only[↓M1,M1,Mb,reduceIte])
    cases ap:decide (m.locals=0) with
    | false=>rw[ap] at hK;(try simp only[↓M1,M1,Mb,reduceIte]);simpa using hK
    | true=>
     rw[ap] at hK
     (try simp only[↓M1,M1,Mb,reduceIte])
     refine ld k l rfl ?_
     refine Q8 ah ?_
     simp only[c0,↓M1,M1,Mb,reduceIte]
     cases a5:decide (m.code=[]) with
     | false=>rw[a5] at hK;(try simp only[↓M1,M1,Mb,reduceIte]);simpa using hK
     | true=>
      rw[a5] at hK
      (try simp only[↓M1,M1,Mb,reduceIte])
      refine ld k l rfl ?_
      refine Q8 Y ?_
      simp only[c1,↓M1,M1,Mb,reduceIte]
      simpa using hK
  | false=>
   simp only[ak,Bool.false_eq_true,if_false] at h
   (try simp only[↓M1,M1,Mb,reduceIte])
   refine ld k l rfl ?_
   refine Q8 ah ?_
   refine E4 (a:=Value.bool f) m.catches.length (fun n x w'=> ∃O,Stp w2 σ2 w' O∧x=Value.bool (f&&(m.catches.take n).all (I3 m.code.length))) ⟨σ2,Stp.refl k,by simp⟩ fun n x w4 d hn U=>?_
   obtain ⟨σ4,s,rfl⟩:=U
   have E:=l.up s
   have V:=Y.up s
   have r:=s.sat
   (try simp only[↓M1,M1,Mb,reduceIte])
   refine ld r E rfl ?_
   refine Q8 V ?_
   refine Z0 ?_
   refine Q7 (fun hc=>?_) (fun hc=>?_)
   ·have c:n<m.catches.length:=by simpa using hc
    have y:(f&&(m.catches.take (n+1)).all (I3 m.code.length))=((f&&(m.catches.take n).all (I3 m.code.length))&&I3 m.code.length m.catches[n]):=by rw[Uv c,Bool.and_assoc]
    generalize (f&&(m.catches.take n).all (I3 m.code.length))=da at y⊢
    (try simp only[↓M1,M1,Mb,reduceIte])
    refine ld r E rfl ?_
    refine Y1 V c ?_
    obtain ⟨p1,r1⟩:=V.elK c
    have av:m.catches[n].cls.length≤140737488355328:=by have:=r1.2.2.2.2;simp only[U1] at this;omega
    refine Y4 r p1 rfl ?_
    refine Y9 r (by rfl) rfl (Rep.one r1) fun q5 w5 σ5 bc z=>?_
    have C:=bc.sat
    have ac:=s.trans bc
    cases da with
    | false=>(try simp only[↓M1,M1,Mb,reduceIte]);exact J3 Y.max c ⟨σ5,ac,by rw[y];rfl⟩
    | true=>
     have t: ∀b,I3 m.code.length m.catches[n]=b→Fe m.catches.length (fun n x w'=> ∃O,Stp w2 σ2 w' O∧x=Value.bool (f&&(m.catches.take n).all (I3 m.code.length))) (Value.bool b, .int .i64 (IntKind.i64.wrap (n+1))) w5∧Lx m.catches.length (Value.bool b, .int .i64 (IntKind.i64.wrap (n+1)))<Lx m.catches.length (Value.bool true,I n):=fun b e=>J3 Y.max c ⟨σ5,ac,by rw[y,e];rfl⟩
     unfold I3 at t
     generalize m.catches[n]=x at z t av
     clear y p1 r1 E l V h
     (try simp only[↓M1,M1,Mb,reduceIte])
     refine ld C z rfl ?_
     (try simp only[↓M1,M1,Mb,reduceIte])
     cases d1:decide (0≤x.frm) with
     | false=>(try simp only[↓M1,M1,Mb,reduceIte]);exact t _ (by simp[d1])
     | true=>
     (try simp only[↓M1,M1,Mb,reduceIte])
     refine ld C z rfl ?_
     (try simp only[↓M1,M1,Mb,reduceIte])
     refine ld C z rfl ?_
     (try simp only[↓M1,M1,Mb,reduceIte])
     cases d2:decide (x.frm<x.to) with
     | false=>(try simp only[↓M1,M1,Mb,reduceIte]);exact t _ (by simp[d1,d2])
     | true=>
     (try simp only[↓M1,M1,Mb,reduceIte])
     refine ld C z rfl ?_
     (try simp only[↓M1,M1,Mb,reduceIte])
     cases d3:decide (x.to≤(m.code.length:Int)) with
     | false=>(try simp only[↓M1,M1,Mb,reduceIte]);exact t _ (by simp[d1,d2,d3])
     | true=>
     (try simp only[↓M1,M1,Mb,reduceIte])
     refine ld C z rfl ?_
     (try simp only[↓M1,M1,Mb,reduceIte])
     cases d4:decide (0≤x.at_) with
     | false=>(try simp only[↓M1,M1,Mb,reduceIte]);exact t _ (by simp[d1,d2,d3,d4])
     | true=>
     (try simp only[↓M1,M1,Mb,reduceIte])
     refine ld C z rfl ?_
     (try simp only[↓M1,M1,Mb,reduceIte])
     cases d5:decide (x.at_<(m.code.length:Int)) with
     | false=>(try simp only[↓M1,M1,Mb,reduceIte]);exact t _ (by simp[d1,d2,d3,d4,d5])
     | true=>
     (try simp only[↓M1,M1,Mb,reduceIte])
     refine ld C z rfl ?_
     refine Yd x.cls av ?_
     (try simp only[↓M1,M1,Mb,reduceIte])
     exact t _ (by simp[d1,d2,d3,d4,d5])
   ·have c: ¬n<m.catches.length:=by simpa using hc
    rw[Q7h c]
    have W:=aq.trans s
    have cz:=ah.up s
    have bh:=X.up s
    have hh: ∀w' O,Stp w σ w' O→K (.bool ((f&&m.catches.all (I3 m.code.length))&&(decide (m.code≠[])&&decide ((m.params.length:Int)<m.locals)&&m.code.all (fun i=>decide (H4 i=0))))) w':=by
     intro w' O hk
     have:=h w' O hk
     refine Eq.subst (motive:=fun b=>K (.bool b) w') ?_ this
     cases f<;>cases m.catches.all (I3 m.code.length)<;>simp
    clear h s
    generalize (f&&m.catches.all (I3 m.code.length))=br at hh⊢
    cases br with
    | false=>(try simp only[↓M1,M1,Mb,reduceIte]);simpa using hh _ _ W
    | true=>
     (try simp only[↓M1,M1,Mb,reduceIte])
     simp only[c2,↓M1,M1,Mb,reduceIte]
     cases a4:decide (m.code≠[]) with
     | false=>rw[a4] at hh;(try simp only[↓M1,M1,Mb,reduceIte]);simpa using hh _ _ W
     | true=>
      rw[a4] at hh
      (try simp only[↓M1,M1,Mb,reduceIte])
      refine ld r E rfl ?_
      (try simp only[↓M1,M1,Mb,reduceIte])
      refine ld r E rfl ?_
      refine Q8 bh ?_
      (try simp only[↓M1,M1,Mb,reduceIte])
      cases a1:decide ((m.params.length:Int)<m.locals) with
      | false=>rw[a1] at hh;(try simp only[↓M1,M1,Mb,reduceIte]);simpa using hh _ _ W
      | true=>
       rw[a1] at hh
       (try simp only[↓M1,M1,Mb,reduceIte])
       refine ld r E rfl ?_
       refine X1B r cz fun e w6 σ6 bi he=>?_
       simp only[he,↓M1,M1,Mb,reduceIte]
       simpa using hh _ _ (W.trans bi)
set_option maxHeartbeats 2000000 in
theorem Q8j {m:Hm.Met} {cs:List Value} (n:X3 w σ) (B:E8 σ m cs) (h: ∀w' A,Stp w σ w' A→K (.bool (I5 m)) w'):Q1 P F.a4 [.agg cs.toArray] w K:=Fz (by
 unfold Wx
 obtain ⟨pv,H,L,rfl,C,z,D,y,E,J⟩:=B
 have s:m.name.length≤140737488355328:=by simp only[U1] at y;omega
 have o:m.result.length≤140737488355328:=by simp only[U1] at E;omega
 refine Z1 n fun q w1 σ1 a g=>?_
 have t:=C.up a
 have p:=z.up a
 have r:=D.up a
 have f:=a.sat
 obtain ⟨d,c⟩: ∃b,b=(D6 m.name&&(decide (m.result=[])||right m.result)):=⟨_,rfl⟩
 have l:I5 m=((d&&m.params.all right)&&if m.abs then decide (m.locals=0)&&decide (m.code=[])&&decide (m.catches=[])
  else decide (m.code≠[])&&decide ((m.params.length:Int)<m.locals)&&m.code.all (fun i=>decide (H4 i=0))&&m.catches.all (I3 m.code.length)):=by
  rw[c];unfold I5
  cases D6 m.name<;>cases m.params.all right<;>cases decide (m.result=[])<;>cases right m.result<;>rfl
 rw[l] at h
 clear l
 (repeat refine Hd.h ?_)
 refine ld f g rfl ?_
 refine Ic m.name s ?_
 cases e:D6 m.name with
 | false=>
  have k:d=false:=by rw[c,e];rfl
  (repeat refine Hd.h ?_)
  refine Eq.subst (motive:=fun b=>lp (α:=Value×Value) (Value.bool b, .int .i64 0) w1 _) k ?_
  exact Q0n n a g t p r h
 | true=>
  (repeat refine Hd.h ?_)
  refine ld f g rfl ?_
  (repeat refine Hd.h ?_)
  refine P4 ?_
  cases j:decide (m.result=[]) with
  | true=>
   have k:d=true:=by rw[c,e,j];rfl
   (repeat refine Hd.h ?_)
   refine Eq.subst (motive:=fun b=>lp (α:=Value×Value) (Value.bool b, .int .i64 0) w1 _) k ?_
   exact Q0n n a g t p r h
  | false=>
   (repeat refine Hd.h ?_)
   refine ld f g rfl ?_
   (repeat refine Hd.h ?_)
   refine Jt m.result o ?_
   have k:d=right m.result:=by rw[c,e,j];rfl
   (repeat refine Hd.h ?_)
   refine Eq.subst (motive:=fun b=>lp (α:=Value×Value) (Value.bool b, .int .i64 0) w1 _) k ?_
   exact Q0n n a g t p r h)
end Go.Proofs.YtjdiakhipmggjaaGreatDoor

namespace Go.Hm
open Go.Kd
def Ng (c:Cla) (i:Nat):Bool:=M6 (c.like.getD i [])&& !decide (c.like.getD i []=c.name)
def Qb (c:Cla) (i k:Nat):Bool:= !decide (c.like.getD k []=c.like.getD i [])
def Bf (c:Cla) (i:Nat):Fld:=c.fields.getD i Fld.zero
def Rh (c:Cla) (i:Nat):Hm.Met:=c.methods.getD i Hm.Met.zero
def Du (c:Cla) (i:Nat):Bool:=D6 (Bf c i).name&&right (Bf c i).kind&& !c.iface
def Xp (c:Cla) (i k:Nat):Bool:= !decide ((Bf c k).name=(Bf c i).name)
def Q7Z (c:Cla):Bool:=(!c.iface||(c.abs&&decide (c.super=J9)))&& !(c.abs&&c.fin)
def Xr (c:Cla) (i k:Nat):Bool:= !decide ((Rh c k).name=(Rh c i).name)
theorem Lg {p:Nat→Bool} {n:Nat}:(List.range (n+1)).all p=((List.range n).all p&&p n):=by rw[List.range_succ,List.all_append];simp
theorem C0 {α:Type} {xs:List α} {i:Nat} {d:α} (h:i<xs.length):xs.getD i d=xs[i]:=by rw[List.getD_eq_getElem?_getD,List.getElem?_eq_getElem h];rfl
end Go.Hm
namespace Go.Proofs.YtjdiakhipmggjaaGreatDoor
open Go.Emb Go.RowKit Go.Kd Go.Hm
variable {w : World} {K : Value → World → Prop} {σ : Q6}
def Mo (c:Cla) (i:Nat):Bool:=I5 (Rh c i)&&(!(Rh c i).abs||c.abs)&&(!c.iface||(Rh c i).abs)
set_option maxHeartbeats 2000000 in
theorem Q40 {c:Cla} {lv fv mv:Value} {w1:World} {σ1:Q6} {q:Addr} {ok:Bool} (af:X3 w1 σ1) (hq:Z4 σ1 q [S c.name,S c.super,lv, .bool c.iface, .bool c.abs, .bool c.fin,fv,mv]) {i:Nat} {N m0:Nat} {U:Nat→Value→World→Prop} (g1:Sl 1 U8 σ1 lv c.like) (hi:i<c.like.length)
 (h: ∀w' σ',Stp w1 σ1 w' σ'→Fe N U (Value.bool (ok&&(List.range i).all (Qb c i)), .int .i64 (IntKind.i64.wrap (i+1))) w'∧Lx N (Value.bool (ok&&(List.range i).all (Qb c i)), .int .i64 (IntKind.i64.wrap (i+1)))<m0):
 lp (
  α:=Value×Value) (Value.bool ok,(.int .i64 0)) w1 fun f b d_ w=>
  Q3 P .lss T.e (.tmp 52) (.tmp 53) b.2 (I i) w fun ac w=>
  X1 ac (
   dr w fun e g=>
   Q5 e (fun r=> ∀w:World,g w→Q0 b.1 true w (fieldAddr P T.b (.pointer (some q)) 2) (dk e r w)) fun r=>
   Q5 e (fun v=> ∀w:World,g w→Q0 b.1 true w (fun w J=>J b.2 w) (dk e v w)) fun v=>
   Q5 e (fun z=> ∀w:World,g w→Q0 b.1 true w (fieldAddr P T.b (.pointer (some q)) 2) (dk e z w)) fun z=>
   Q5 e (fun n=> ∀w:World,g w→Q0 b.1 true w (fun w J=>J (I i) w) (dk e n w)) fun n=>
   Q5 e (fun y=> ∀o:Value,∀w:World,g w→r o w→Q0 b.1 true w (Q2 P T.h o) (dk e y w)) fun y=>
   Q5 e (fun m=> ∀B:Value,∀A:Value,∀w:World,g w→y B w→v A w→Q0 b.1 true w (indexAddr P T.h B A) (dk e m w)) fun m=>
   Q5 e (fun H=> ∀u:Value,∀w:World,g w→m u w→Q0 b.1 true w (Q2 P T.c u) (dk e H w)) fun H=>
   Q5 e (fun l=> ∀C:Value,∀w:World,g w→z C w→Q0 b.1 true w (Q2 P T.h C) (dk e l w)) fun l=>
   Q5 e (fun D=> ∀t:Value,∀s:Value,∀w:World,g w→l t w→n s w→Q0 b.1 true w (indexAddr P T.h t s) (dk e D w)) fun D=>
   Q5 e (fun L=> ∀p:Value,∀w:World,g w→D p w→Q0 b.1 true w (Q2 P T.c p) (dk e L w)) fun L=>
   ∀o:Value,∀A:Value,∀C:Value,∀s:Value,∀B:Value,∀u:Value,∀W:Value,∀t:Value,∀p:Value,∀O:Value,∀w:World,g w→r o w→v A w→z C w→n s w→y B w→m u w→H W w→l t w→D p w→L O w→
   Q0 b.1 true w (Q3 P .neq T.c (.tmp 63) (.tmp 68) W O) fun ad w=>
   pick P b.1 ad (.bool false) w fun ag w=>
   Q3 P .add T.e (.tmp 55) (.const (.int .i64 1)) b.2 (.int .i64 1) w fun ae w=>
   f (ag,ae) w) (
   Q3 P .add T.e (.tmp 31) (.const (.int .i64 1)) (I i) (.int .i64 1) w fun R w=>
   (Fe N U (b.1,R) w∧Lx N (b.1,R)<m0)):=by
 have aj:=g1.max
 refine E4 (a:=Value.bool ok) i (fun k x w'=> ∃σ',Stp w1 σ1 w' σ'∧x=Value.bool (ok&&(List.range k).all (Qb c i))) ⟨σ1,Stp.refl af,by simp⟩ fun k x w2 d hk M=>?_
 obtain ⟨σ2,j,rfl⟩:=M
 have aw:=hq.up j
 have V:=g1.up j
 have Y:=j.sat
 refine Z0 ?_
 refine Q7 (fun X=>?_) (fun X=>?_)
 ·have ab:k<i:=by simpa using X
  have Q:k<c.like.length:=by omega
  have E:(ok&&(List.range (k+1)).all (Qb c i))=((ok&&(List.range k).all (Qb c i))&&Qb c i k):=by rw[Lg,Bool.and_assoc]
  have hQ:Qb c i k= !decide (c.like[k]=c.like[i]):=by unfold Qb;rw[C0 Q,C0 hi]
  rw[hQ] at E
  obtain ⟨p1,_⟩:=V.elS Q
  obtain ⟨p2,_⟩:=V.elS hi
  generalize (ok&&(List.range k).all (Qb c i))=Z at E⊢
  clear h hQ X
  cases Z
  all_goals
   refine U2 Y ?_
   (repeat refine J0 A8 ?_)
   (intros;(repeat (rename_i hx;subst hx));(try simp only[↓M2,M2,Mb,reduceIte]))
   rename_i w3 aa
   exact J3 (by omega) ab ⟨σ2,j.trans aa.stp,by rw[E];rfl⟩
 ·have ai:k=i:=by
   have: ¬k<i:=by simpa using X
   omega
  subst ai
  (try simp only[↓M1,M1,Mb,reduceIte])
  exact h _ _ j
set_option maxHeartbeats 4000000 in
theorem X0P {c:Cla} {lv fv mv:Value} {w1:World} {σ1:Q6} {q:Addr} {ok:Bool} (hs1:X3 w1 σ1) (hq:Z4 σ1 q [S c.name,S c.super,lv, .bool c.iface, .bool c.abs, .bool c.fin,fv,mv]) {J:Value→World→Prop} (hn:c.name.length≤U1) (g1:Sl 1 U8 σ1 lv c.like)
 (h: ∀w' σ',Stp w1 σ1 w' σ'→J (.bool (ok&&(List.range c.like.length).all fun i=>Ng c i&&(List.range i).all (Qb c i))) w'):
 lp (α:=Value×Value) (Value.bool ok,(.int .i64 0)) w1 fun again4 x4 d_ w=>
 fieldAddr P T.b (.pointer (some q)) 2 w fun t27 w=>
 Q2 P T.h t27 w fun t28 w=>
 X2 P .len [T.h] T.e [false] [t28] w fun t29 w=>
 Q3 P .lss T.e (.tmp 26) (.tmp 29) x4.2 t29 w fun t30 w=>
 X1 t30 (
  dr w fun Tr Br=>
  Q5 Tr (fun φ35=> ∀w:World,Br w→Q0 x4.1 true w (fieldAddr P T.b (.pointer (some q)) 2) (dk Tr φ35 w)) fun φ35=>
  Q5 Tr (fun φ37=> ∀w:World,Br w→Q0 x4.1 true w (fun w J=>J x4.2 w) (dk Tr φ37 w)) fun φ37=>
  Q5 Tr (fun φ36=> ∀t35:Value,∀w:World,Br w→φ35 t35 w→Q0 x4.1 true w (Q2 P T.h t35) (dk Tr φ36 w)) fun φ36=>
  Q5 Tr (fun φ38=> ∀t36:Value,∀t37:Value,∀w:World,Br w→φ36 t36 w→φ37 t37 w→Q0 x4.1 true w (indexAddr P T.h t36 t37) (dk Tr φ38 w)) fun φ38=>
  Q5 Tr (fun φ39=> ∀t38:Value,∀w:World,Br w→φ38 t38 w→Q0 x4.1 true w (Q2 P T.c t38) (dk Tr φ39 w)) fun φ39=>
  Q5 Tr (fun φ40=> ∀t39:Value,∀w:World,Br w→φ39 t39 w→Q0 x4.1 true w (Q1 P F.d [t39]) (dk Tr φ40 w)) fun φ40=>
  Q5 Tr (fun φ41=> ∀t40:Value,∀w:World,Br w→φ40 t40 w→pick P x4.1 t40 (.bool false) w (dk Tr φ41 w)) fun φ41=>
  Q5 Tr (fun φ43=> ∀t41:Value,∀w:World,Br w→φ41 t41 w→Q0 t41 true w (fieldAddr P T.b (.pointer (some q)) 2) (dk Tr φ43 w)) fun φ43=>
  Q5 Tr (fun φ45=> ∀t41:Value,∀w:World,Br w→φ41 t41 w→Q0 t41 true w (fun w J=>J x4.2 w) (dk Tr φ45 w)) fun φ45=>
  Q5 Tr (fun φ48=> ∀t41:Value,∀w:World,Br w→φ41 t41 w→Q0 t41 true w (fieldAddr P T.b (.pointer (some q)) 0) (dk Tr φ48 w)) fun φ48=>
  Q5 Tr (fun φ44=> ∀t41:Value,∀t43:Value,∀w:World,Br w→φ41 t41 w→φ43 t43 w→Q0 t41 true w (Q2 P T.h t43) (dk Tr φ44 w)) fun φ44=>
  Q5 Tr (fun φ46=> ∀t41:Value,∀t44:Value,∀t45:Value,∀w:World,Br w→φ41 t41 w→φ44 t44 w→φ45 t45 w→Q0 t41 true w (indexAddr P T.h t44 t45) (dk Tr φ46 w)) fun φ46=>
  Q5 Tr (fun φ47=> ∀t41:Value,∀t46:Value,∀w:World,Br w→φ41 t41 w→φ46 t46 w→Q0 t41 true w (Q2 P T.c t46) (dk Tr φ47 w)) fun φ47=>
  Q5 Tr (fun φ49=> ∀t41:Value,∀t48:Value,∀w:World,Br w→φ41 t41 w→φ48 t48 w→Q0 t41 true w (Q2 P T.c t48) (dk Tr φ49 w)) fun φ49=>
  ∀t35:Value,∀t37:Value,∀t36:Value,∀t38:Value,∀t39:Value,∀t40:Value,∀t41:Value,∀t43:Value,∀t45:Value,∀t48:Value,∀t44:Value,∀t46:Value,∀t47:Value,∀t49:Value,∀w:World,Br w→φ35 t35 w→φ37 t37 w→φ36 t36 w→φ38 t38 w→φ39 t39 w→φ40 t40 w→φ41 t41 w→φ43 t43 w→φ45 t45 w→φ48 t48 w→φ44 t44 w→φ46 t46 w→φ47 t47 w→φ49 t49 w→
  Q0 t41 true w (Q3 P .neq T.c (.tmp 47) (.tmp 49) t47 t49) fun t50 w=>
  pick P t41 t50 (.bool false) w fun t51 w=>
  lp (α:=Value×Value) (t51,(.int .i64 0)) w fun again10 x10 d_ w=>
   Q3 P .lss T.e (.tmp 52) (.tmp 53) x10.2 x4.2 w fun t54 w=>
   X1 t54 (
    dr w fun Tr Br=>
    Q5 Tr (fun φ59=> ∀w:World,Br w→Q0 x10.1 true w (fieldAddr P T.b (.pointer (some q)) 2) (dk Tr φ59 w)) fun φ59=>
    Q5 Tr (fun φ61=> ∀w:World,Br w→Q0 x10.1 true w (fun w J=>J x10.2 w) (dk Tr φ61 w)) fun φ61=>
    Q5 Tr (fun φ64=> ∀w:World,Br w→Q0 x10.1 true w (fieldAddr P T.b (.pointer (some q)) 2) (dk Tr φ64 w)) fun φ64=>
    Q5 Tr (fun φ66=> ∀w:World,Br w→Q0 x10.1 true w (fun w J=>J x4.2 w) (dk Tr φ66 w)) fun φ66=>
    Q5 Tr (fun φ60=> ∀t59:Value,∀w:World,Br w→φ59 t59 w→Q0 x10.1 true w (Q2 P T.h t59) (dk Tr φ60 w)) fun φ60=>
    Q5 Tr (fun φ62=> ∀t60:Value,∀t61:Value,∀w:World,Br w→φ60 t60 w→φ61 t61 w→Q0 x10.1 true w (indexAddr P T.h t60 t61) (dk Tr φ62 w)) fun φ62=>
    Q5 Tr (fun φ63=> ∀t62:Value,∀w:World,Br w→φ62 t62 w→Q0 x10.1 true w (Q2 P T.c t62) (dk Tr φ63 w)) fun φ63=>
    Q5 Tr (fun φ65=> ∀t64:Value,∀w:World,Br w→φ64 t64 w→Q0 x10.1 true w (Q2 P T.h t64) (dk Tr φ65 w)) fun φ65=>
    Q5 Tr (fun φ67=> ∀t65:Value,∀t66:Value,∀w:World,Br w→φ65 t65 w→φ66 t66 w→Q0 x10.1 true w (indexAddr P T.h t65 t66) (dk Tr φ67 w)) fun φ67=>
    Q5 Tr (fun φ68=> ∀t67:Value,∀w:World,Br w→φ67 t67 w→Q0 x10.1 true w (Q2 P T.c t67) (dk Tr φ68 w)) fun φ68=>
    ∀t59:Value,∀t61:Value,∀t64:Value,∀t66:Value,∀t60:Value,∀t62:Value,∀t63:Value,∀t65:Value,∀t67:Value,∀t68:Value,∀w:World,Br w→φ59 t59 w→φ61 t61 w→φ64 t64 w→φ66 t66 w→φ60 t60 w→φ62 t62 w→φ63 t63 w→φ65 t65 w→φ67 t67 w→φ68 t68 w→
    Q0 x10.1 true w (Q3 P .neq T.c (.tmp 63) (.tmp 68) t63 t68) fun t69 w=>
    pick P x10.1 t69 (.bool false) w fun t70 w=>
    Q3 P .add T.e (.tmp 55) (.const (.int .i64 1)) x10.2 (.int .i64 1) w fun t56 w=>
    again10 (t70,t56) w) (
    Q3 P .add T.e (.tmp 31) (.const (.int .i64 1)) x4.2 (.int .i64 1) w fun t32 w=>
    again4 (x10.1,t32) w)) (
  J x4.1 w):=by
 have hmax:=g1.max
 refine E4 (a:=Value.bool ok) c.like.length (fun n x w'=> ∃σ',Stp w1 σ1 w' σ'∧x=Value.bool (ok&&(List.range n).all fun i=>Ng c i&&(List.range i).all (Qb c i))) ⟨σ1,Stp.refl hs1,by simp⟩ fun n x w2 d hn2 hinv=>?_
 obtain ⟨σ2,hk2,rfl⟩:=hinv
 have hq2:=hq.up hk2
 have g12:=g1.up hk2
 have hs2:=hk2.sat
 (repeat refine Hd.h ?_)
 refine ld hs2 hq2 rfl ?_
 refine Q8 g12 ?_
 refine Z0 ?_
 refine Q7 (fun hc=>?_) (fun hc=>?_)
 ·have hn':n<c.like.length:=by simpa using hc
  have hnx:(ok&&(List.range (n+1)).all fun i=>Ng c i&&(List.range i).all (Qb c i))=((ok&&(List.range n).all fun i=>Ng c i&&(List.range i).all (Qb c i))&&(Ng c n&&(List.range n).all (Qb c n))):=by rw[Lg,Bool.and_assoc]
  have hP:Ng c n=(M6 c.like[n]&& !decide (c.like[n]=c.name)):=by unfold Ng;rw[C0 hn']
  obtain ⟨p1,p2⟩:=g12.elS hn'
  have p2:c.like[n].length≤140737488355328:=by simp only[U1] at p2;omega
  generalize (ok&&(List.range n).all fun i=>Ng c i&&(List.range i).all (Qb c i))=acc at hnx⊢
  clear h hc
  cases hacc:acc with
  | false=>
   refine U2 hs2 ?_
   (repeat refine J0 A8 ?_)
   intros;(repeat (rename_i hx;subst hx))
   rename_i w3 hb3
   (repeat refine Hd.h ?_)
   refine Q40 hb3.sat hq2 g12 hn' fun w4 σ4 hk4=>?_
   exact J3 hmax hn' ⟨σ4,hk2.trans (hb3.stp.trans hk4),by rw[hnx,hacc];rfl⟩
  | true=>
   cases hcl:M6 c.like[n] with
   | false=>
    refine U2 hs2 ?_
    have hrc: ∀{w':World} {K:Value→World→Prop},K (.bool false) w'→Q1 P F.d [S c.like[n]] w' K:=fun hK=>Yd _ p2 (by rw[hcl];exact hK)
    (repeat (apply J0;(· intros;(repeat (rename_i hx;subst hx));(repeat' (first | (with_reducible exact O3 rfl) | (with_reducible exact R9 (Stp.bel (by (repeat (first | exact Stp.refl (by (first | assumption | exact Stp.sat (by assumption) | exact Hst.sat (by assumption))) | assumption | refine Stp.trans ?_ (by first | assumption | exact Hst.stp (by assumption)))))) rfl) | (with_reducible intro _) | (simp only[↓M2,M2,Mb,reduceIte]) | (with_reducible refine hrc ?_) | (with_reducible show Q2 _ _ _ _ _;first | refine X7 aS aL aR ?_ | refine Y4 aS aL aR ?_ | refine ld aS aL aR ?_) | (with_reducible show indexAddr _ _ _ _ _ _;refine Y1 aL au ?_) | (with_reducible show X2 _ _ _ _ _ _ _ _;refine Q8 aL ?_) | (with_reducible show F3 _ _ _ _ _ _;refine Z9 aR ?_) | (with_reducible show pick _ _ _ _ _ _;refine M0 ?_) | (apply F8;intro hh;(try simp only[hh,reduceIte,↓M2,M2,Mb,reduceIte]))));done)))
    intros;(repeat (rename_i hx;subst hx))
    rename_i w3 hb3
    (repeat refine Hd.h ?_)
    refine Q40 hb3.sat hq2 g12 hn' fun w4 σ4 hk4=>?_
    exact J3 hmax hn' ⟨σ4,hk2.trans (hb3.stp.trans hk4),by rw[hnx,hacc,hP,hcl];rfl⟩
   | true=>
    refine U2 hs2 ?_
    have hrc: ∀{w':World} {K:Value→World→Prop},K (.bool true) w'→Q1 P F.d [S c.like[n]] w' K:=fun hK=>Yd _ p2 (by rw[hcl];exact hK)
    (repeat (apply J0;(· intros;(repeat (rename_i hx;subst hx));(repeat' (first | (with_reducible exact O3 rfl) | (with_reducible exact R9 (Stp.bel (by (repeat (first | exact Stp.refl (by (first | assumption | exact Stp.sat (by assumption) | exact Hst.sat (by assumption))) | assumption | refine Stp.trans ?_ (by first | assumption | exact Hst.stp (by assumption)))))) rfl) | (with_reducible intro _) | (simp only[↓M2,M2,Mb,reduceIte]) | (with_reducible refine hrc ?_) | (with_reducible show Q2 _ _ _ _ _;first | refine X7 aS aL aR ?_ | refine Y4 aS aL aR ?_ | refine ld aS aL aR ?_) | (with_reducible show indexAddr _ _ _ _ _ _;refine Y1 aL au ?_) | (with_reducible show X2 _ _ _ _ _ _ _ _;refine Q8 aL ?_) | (with_reducible show F3 _ _ _ _ _ _;refine Z9 aR ?_) | (with_reducible show pick _ _ _ _ _ _;refine M0 ?_) | (apply F8;intro hh;(try simp only[hh,reduceIte,↓M2,M2,Mb,reduceIte]))));done)))
    intros;(repeat (rename_i hx;subst hx))
    rename_i w3 hb3
    (repeat refine Hd.h ?_)
    refine Zy ?_
    (repeat refine Hd.h ?_)
    refine Q40 hb3.sat hq2 g12 hn' fun w4 σ4 hk4=>?_
    exact J3 hmax hn' ⟨σ4,hk2.trans (hb3.stp.trans hk4),by rw[hnx,hacc,hP,hcl];simp⟩
 ·have hn': ¬n<c.like.length:=by simpa using hc
  obtain rfl:n=c.like.length:=by omega
  exact h _ _ hk2
set_option maxHeartbeats 2000000 in
theorem Q3k {c:Cla} {lv fv mv:Value} {w1:World} {σ1:Q6} {q:Addr} {ok:Bool} (ak:X3 w1 σ1) (hq:Z4 σ1 q [S c.name,S c.super,lv, .bool c.iface, .bool c.abs, .bool c.fin,fv,mv]) {i:Nat} {N m0:Nat} {ab:Nat→Value→World→Prop} (g2:Sl 3 R7 σ1 fv c.fields) (hi:i<c.fields.length)
 (h: ∀w' σ',Stp w1 σ1 w' σ'→Fe N ab (Value.bool (ok&&(List.range i).all (Xp c i)), .int .i64 (IntKind.i64.wrap (i+1))) w'∧Lx N (Value.bool (ok&&(List.range i).all (Xp c i)), .int .i64 (IntKind.i64.wrap (i+1)))<m0):
 lp (α:=Value×Value) (Value.bool ok,(.int .i64 0)) w1 fun M b d_ w=>
  Q3 P .lss T.e (.tmp 102) (.tmp 103) b.2 (I i) w fun X w=>
  X1 X (
   dr w fun e H=>
   Q5 e (fun o=> ∀w:World,H w→Q0 b.1 true w (fieldAddr P T.b (.pointer (some q)) 6) (dk e o w)) fun o=>
   Q5 e (fun j=> ∀w:World,H w→Q0 b.1 true w (fun w J=>J b.2 w) (dk e j w)) fun j=>
   Q5 e (fun y=> ∀w:World,H w→Q0 b.1 true w (fieldAddr P T.b (.pointer (some q)) 6) (dk e y w)) fun y=>
   Q5 e (fun l=> ∀w:World,H w→Q0 b.1 true w (fun w J=>J (I i) w) (dk e l w)) fun l=>
   Q5 e (fun u=> ∀C:Value,∀w:World,H w→o C w→Q0 b.1 true w (Q2 P T.k C) (dk e u w)) fun u=>
   Q5 e (fun p=> ∀E:Value,∀r:Value,∀w:World,H w→u E w→j r w→Q0 b.1 true w (indexAddr P T.k E r) (dk e p w)) fun p=>
   Q5 e (fun A=> ∀g:Value,∀w:World,H w→p g w→Q0 b.1 true w (fieldAddr P T.o g 0) (dk e A w)) fun A=>
   Q5 e (fun Q=> ∀v:Value,∀w:World,H w→A v w→Q0 b.1 true w (Q2 P T.c v) (dk e Q w)) fun Q=>
   Q5 e (fun n=> ∀s:Value,∀w:World,H w→y s w→Q0 b.1 true w (Q2 P T.k s) (dk e n w)) fun n=>
   Q5 e (fun B=> ∀D:Value,∀f:Value,∀w:World,H w→n D w→l f w→Q0 b.1 true w (indexAddr P T.k D f) (dk e B w)) fun B=>
   Q5 e (fun t=> ∀m:Value,∀w:World,H w→B m w→Q0 b.1 true w (fieldAddr P T.o m 0) (dk e t w)) fun t=>
   Q5 e (fun L=> ∀z:Value,∀w:World,H w→t z w→Q0 b.1 true w (Q2 P T.c z) (dk e L w)) fun L=>
   ∀C:Value,∀r:Value,∀s:Value,∀f:Value,∀E:Value,∀g:Value,∀v:Value,∀U:Value,∀D:Value,∀m:Value,∀z:Value,∀R:Value,∀w:World,H w→o C w→j r w→y s w→l f w→u E w→p g w→A v w→Q U w→n D w→B m w→t z w→L R w→
   Q0 b.1 true w (Q3 P .neq T.c (.tmp 114) (.tmp 120) U R) fun aa w=>
   pick P b.1 aa (.bool false) w fun Y w=>
   Q3 P .add T.e (.tmp 105) (.const (.int .i64 1)) b.2 (.int .i64 1) w fun ae w=>
   M (Y,ae) w) (
   Q3 P .add T.e (.tmp 76) (.const (.int .i64 1)) (I i) (.int .i64 1) w fun ac w=>
   (Fe N ab (b.1,ac) w∧Lx N (b.1,ac)<m0)):=by
 have an:=g2.max
 refine E4 (a:=Value.bool ok) i (fun k x w'=> ∃σ',Stp w1 σ1 w' σ'∧x=Value.bool (ok&&(List.range k).all (Xp c i))) ⟨σ1,Stp.refl ak,by simp⟩ fun k x w2 d hk W=>?_
 obtain ⟨σ2,O,rfl⟩:=W
 have a0:=hq.up O
 have ad:=g2.up O
 have ag:=O.sat
 refine Z0 ?_
 refine Q7 (fun hc=>?_) (fun hc=>?_)
 ·have aj:k<i:=by simpa using hc
  have Z:k<c.fields.length:=by omega
  have V:(ok&&(List.range (k+1)).all (Xp c i))=((ok&&(List.range k).all (Xp c i))&&Xp c i k):=by rw[Lg,Bool.and_assoc]
  have hQ:Xp c i k= !decide (c.fields[k].name=c.fields[i].name):=by unfold Xp Bf;rw[C0 Z,C0 hi]
  rw[hQ] at V
  obtain ⟨p1,_⟩:=ad.elF Z
  obtain ⟨p2,_⟩:=ad.elF hi
  generalize (ok&&(List.range k).all (Xp c i))=ah at V⊢
  clear h hQ hc
  cases ah
  all_goals
   refine U2 ag ?_
   (repeat refine J0 A8 ?_)
   (intros;(repeat (rename_i hx;subst hx));(try simp only[↓M2,M2,Mb,reduceIte]))
   rename_i w3 ai
   exact J3 (by omega) aj ⟨σ2,O.trans ai.stp,by rw[V];rfl⟩
 ·have am:k=i:=by
   have: ¬k<i:=by simpa using hc
   omega
  subst am
  (try simp only[↓M1,M1,Mb,reduceIte])
  exact h _ _ O
set_option maxHeartbeats 4000000 in
theorem X2e {c:Cla} {lv fv mv:Value} {w1:World} {σ1:Q6} {q:Addr} {ok:Bool} (bb:X3 w1 σ1) (hq:Z4 σ1 q [S c.name,S c.super,lv, .bool c.iface, .bool c.abs, .bool c.fin,fv,mv]) {J:Value→World→Prop} (g2:Sl 3 R7 σ1 fv c.fields)
 (h: ∀w' σ',Stp w1 σ1 w' σ'→J (.bool (ok&&(List.range c.fields.length).all fun i=>Du c i&&(List.range i).all (Xp c i))) w'):
 lp (
  α:=Value×Value) (Value.bool ok,(.int .i64 0)) w1 fun ac g d_ w=>
  fieldAddr P T.b (.pointer (some q)) 6 w fun ax w=>
  Q2 P T.k ax w fun av w=>
  X2 P .len [T.k] T.e [false] [av] w fun a6 w=>
  Q3 P .lss T.e (.tmp 71) (.tmp 74) g.2 a6 w fun a1 w=>
  X1 a1 (
   Q0 g.1 true w (fieldAddr P T.b (.pointer (some q)) 6) fun ar w=>
   Q0 g.1 true w (Q2 P T.k ar) fun bj w=>
   Q0 g.1 true w (fun w J=>J g.2 w) fun a0 w=>
   Q0 g.1 true w (indexAddr P T.k bj a0) fun a3 w=>
   Q0 g.1 true w (fieldAddr P T.o a3 0) fun aw w=>
   Q0 g.1 true w (Q2 P T.c aw) fun bc w=>
   Q0 g.1 true w (Q1 P F.u [bc]) fun a8 w=>
   pick P g.1 a8 (.bool false) w fun m w=>
   Q0 m true w (fieldAddr P T.b (.pointer (some q)) 6) fun ba w=>
   Q0 m true w (Q2 P T.k ba) fun a9 w=>
   Q0 m true w (fun w J=>J g.2 w) fun ay w=>
   Q0 m true w (indexAddr P T.k a9 ay) fun a2 w=>
   Q0 m true w (fieldAddr P T.o a2 1) fun bh w=>
   Q0 m true w (Q2 P T.c bh) fun be w=>
   Q0 m true w (Q1 P F.e [be]) fun a5 w=>
   pick P m a5 (.bool false) w fun ae w=>
   Q0 ae true w (fieldAddr P T.b (.pointer (some q)) 3) fun az w=>
   Q0 ae true w (Q2 P T.u az) fun a4 w=>
   Q0 ae true w (J8 P .not a4) fun ao w=>
   pick P ae ao (.bool false) w fun ak w=>
   lp (α:=Value×Value) (ak,(.int .i64 0)) w fun ab f d_ w=>
    Q3 P .lss T.e (.tmp 102) (.tmp 103) f.2 g.2 w fun al w=>
    X1 al (
     dr w fun k Y=>
     Q5 k (fun C=> ∀w:World,Y w→Q0 f.1 true w (fieldAddr P T.b (.pointer (some q)) 6) (dk k C w)) fun C=>
     Q5 k (fun y=> ∀w:World,Y w→Q0 f.1 true w (fun w J=>J f.2 w) (dk k y w)) fun y=>
     Q5 k (fun Q=> ∀w:World,Y w→Q0 f.1 true w (fieldAddr P T.b (.pointer (some q)) 6) (dk k Q w)) fun Q=>
     Q5 k (fun z=> ∀w:World,Y w→Q0 f.1 true w (fun w J=>J g.2 w) (dk k z w)) fun z=>
     Q5 k (fun N=> ∀W:Value,∀w:World,Y w→C W w→Q0 f.1 true w (Q2 P T.k W) (dk k N w)) fun N=>
     Q5 k (fun D=> ∀L:Value,∀E:Value,∀w:World,Y w→N L w→y E w→Q0 f.1 true w (indexAddr P T.k L E) (dk k D w)) fun D=>
     Q5 k (fun U=> ∀v:Value,∀w:World,Y w→D v w→Q0 f.1 true w (fieldAddr P T.o v 0) (dk k U w)) fun U=>
     Q5 k (fun ad=> ∀O:Value,∀w:World,Y w→U O w→Q0 f.1 true w (Q2 P T.c O) (dk k ad w)) fun ad=>
     Q5 k (fun B=> ∀H:Value,∀w:World,Y w→Q H w→Q0 f.1 true w (Q2 P T.k H) (dk k B w)) fun B=>
     Q5 k (fun V=> ∀X:Value,∀u:Value,∀w:World,Y w→B X w→z u w→Q0 f.1 true w (indexAddr P T.k X u) (dk k V w)) fun V=>
     Q5 k (fun M=> ∀A:Value,∀w:World,Y w→V A w→Q0 f.1 true w (fieldAddr P T.o A 0) (dk k M w)) fun M=>
     Q5 k (fun Z=> ∀R:Value,∀w:World,Y w→M R w→Q0 f.1 true w (Q2 P T.c R) (dk k Z w)) fun Z=>
     ∀W:Value,∀E:Value,∀H:Value,∀u:Value,∀L:Value,∀v:Value,∀O:Value,∀ag:Value,∀X:Value,∀A:Value,∀R:Value,∀af:Value,∀w:World,Y w→C W w→y E w→Q H w→z u w→N L w→D v w→U O w→ad ag w→B X w→V A w→M R w→Z af w→
     Q0 f.1 true w (Q3 P .neq T.c (.tmp 114) (.tmp 120) ag af) fun an w=>
     pick P f.1 an (.bool false) w fun am w=>
     Q3 P .add T.e (.tmp 105) (.const (.int .i64 1)) f.2 (.int .i64 1) w fun ap w=>
     ab (am,ap) w) (
     Q3 P .add T.e (.tmp 76) (.const (.int .i64 1)) g.2 (.int .i64 1) w fun bf w=>
     ac (f.1,bf) w)) (
   J g.1 w):=by
 have t:=g2.max
 refine E4 (a:=Value.bool ok) c.fields.length (fun n x w'=> ∃σ',Stp w1 σ1 w' σ'∧x=Value.bool (ok&&(List.range n).all fun i=>Du c i&&(List.range i).all (Xp c i))) ⟨σ1,Stp.refl bb,by simp⟩ fun n x w2 d bu aj=>?_
 obtain ⟨σ2,p,rfl⟩:=aj
 have o:=hq.up p
 have r:=g2.up p
 have l:=p.sat
 (repeat refine Hd.h ?_)
 refine ld l o rfl ?_
 refine Q8 r ?_
 refine Z0 ?_
 refine Q7 (fun hc=>?_) (fun hc=>?_)
 ·have j:n<c.fields.length:=by simpa using hc
  have aa:(ok&&(List.range (n+1)).all fun i=>Du c i&&(List.range i).all (Xp c i))=((ok&&(List.range n).all fun i=>Du c i&&(List.range i).all (Xp c i))&&(Du c n&&(List.range n).all (Xp c n))):=by rw[Lg,Bool.and_assoc]
  have hP:Du c n=(D6 c.fields[n].name&&right c.fields[n].kind&& !c.iface):=by unfold Du Bf;rw[C0 j]
  obtain ⟨p1,r1⟩:=r.elF j
  have b1:c.fields[n].name.length≤140737488355328:=by have:=r1.2.1;simp only[U1] at this;omega
  have b2:c.fields[n].kind.length≤140737488355328:=by have:=r1.2.2;simp only[U1] at this;omega
  generalize (ok&&(List.range n).all fun i=>Du c i&&(List.range i).all (Xp c i))=ai at aa⊢
  clear h hc
  have step: ∀b,b=(ai&&Du c n)→(ai&&(Du c n&&(List.range n).all (Xp c n)))=(b&&(List.range n).all (Xp c n)):=fun b e=>by rw[e,Bool.and_assoc]
  cases ai with
  | false=>
   (repeat refine Hd.h ?_)
   refine Q3k l o r j fun w4 σ4 s=>?_
   exact J3 t j ⟨σ4,p.trans s,by rw[aa];rfl⟩
  | true=>
   (repeat refine Hd.h ?_)
   refine ld l o rfl ?_
   (repeat refine Hd.h ?_)
   refine Y1 r j ?_
   (repeat refine Hd.h ?_)
   refine ld l p1 rfl ?_
   (repeat refine Hd.h ?_)
   refine Ic _ b1 ?_
   cases d1:D6 c.fields[n].name with
   | false=>
    (repeat refine Hd.h ?_)
    refine Q3k l o r j fun w4 σ4 s=>?_
    exact J3 t j ⟨σ4,p.trans s,by rw[aa,step false (by rw[hP,d1];rfl)]⟩
   | true=>
    (repeat refine Hd.h ?_)
    refine ld l o rfl ?_
    (repeat refine Hd.h ?_)
    refine Y1 r j ?_
    (repeat refine Hd.h ?_)
    refine ld l p1 rfl ?_
    (repeat refine Hd.h ?_)
    refine Jt _ b2 ?_
    cases d2:right c.fields[n].kind with
    | false=>
     (repeat refine Hd.h ?_)
     refine Q3k l o r j fun w4 σ4 s=>?_
     exact J3 t j ⟨σ4,p.trans s,by rw[aa,step false (by rw[hP,d1,d2];rfl)]⟩
    | true=>
     (repeat refine Hd.h ?_)
     refine ld l o rfl ?_
     (repeat refine Hd.h ?_)
     refine Q3k l o r j fun w4 σ4 s=>?_
     exact J3 t j ⟨σ4,p.trans s,by rw[aa,step (!c.iface) (by rw[hP,d1,d2];rfl)]⟩
 ·have j: ¬n<c.fields.length:=by simpa using hc
  obtain rfl:n=c.fields.length:=by omega
  exact h _ _ p
set_option maxHeartbeats 2000000 in
theorem Rp {c:Cla} {lv fv mv:Value} {w1:World} {σ1:Q6} {q:Addr} {ok:Bool} (ad:X3 w1 σ1) (hq:Z4 σ1 q [S c.name,S c.super,lv, .bool c.iface, .bool c.abs, .bool c.fin,fv,mv]) {i:Nat} {q9:Addr} {pv cv hv:Value} {N m0:Nat} {U:Nat→Value→World→Prop} (g3:Sl 7 E8 σ1 mv c.methods) (hi:i<c.methods.length) (ac:Z4 σ1 q9 [S c.methods[i].name,pv,S c.methods[i].result, .bool c.methods[i].abs,I c.methods[i].locals,cv,hv])
 (h: ∀w' σ',Stp w1 σ1 w' σ'→Fe N U (Value.bool (ok&&(List.range i).all (Xr c i)), .int .i64 (IntKind.i64.wrap (i+1))) w'∧Lx N (Value.bool (ok&&(List.range i).all (Xr c i)), .int .i64 (IntKind.i64.wrap (i+1)))<m0):
 lp (α:=Value×Value) (Value.bool ok,(.int .i64 0)) w1 fun z b d_ w=>
  Q3 P .lss T.e (.tmp 158) (.tmp 159) b.2 (I i) w fun V w=>
  X1 V (
   dr w fun e B=>
   Q5 e (fun l=> ∀w:World,B w→Q0 b.1 true w (fieldAddr P T.b (.pointer (some q)) 7) (dk e l w)) fun l=>
   Q5 e (fun g=> ∀w:World,B w→Q0 b.1 true w (fun w J=>J b.2 w) (dk e g w)) fun g=>
   Q5 e (fun s=> ∀w:World,B w→Q0 b.1 true w (fieldAddr P T.d (.pointer (some q9)) 0) (dk e s w)) fun s=>
   Q5 e (fun m=> ∀t:Value,∀w:World,B w→l t w→Q0 b.1 true w (Q2 P T.j t) (dk e m w)) fun m=>
   Q5 e (fun o=> ∀f:Value,∀u:Value,∀w:World,B w→m f w→g u w→Q0 b.1 true w (indexAddr P T.j f u) (dk e o w)) fun o=>
   Q5 e (fun r=> ∀n:Value,∀w:World,B w→o n w→Q0 b.1 true w (fieldAddr P T.d n 0) (dk e r w)) fun r=>
   Q5 e (fun A=> ∀p:Value,∀w:World,B w→r p w→Q0 b.1 true w (Q2 P T.c p) (dk e A w)) fun A=>
   Q5 e (fun y=> ∀j:Value,∀w:World,B w→s j w→Q0 b.1 true w (Q2 P T.c j) (dk e y w)) fun y=>
   ∀t:Value,∀u:Value,∀j:Value,∀f:Value,∀n:Value,∀p:Value,∀C:Value,∀D:Value,∀w:World,B w→l t w→g u w→s j w→m f w→o n w→r p w→A C w→y D w→
   Q0 b.1 true w (Q3 P .neq T.c (.tmp 170) (.tmp 172) C D) fun R w=>
   pick P b.1 R (.bool false) w fun Q w=>
   Q3 P .add T.e (.tmp 161) (.const (.int .i64 1)) b.2 (.int .i64 1) w fun M w=>
   z (Q,M) w) (
   Q3 P .add T.e (.tmp 128) (.const (.int .i64 1)) (I i) (.int .i64 1) w fun E w=>
   (Fe N U (b.1,E) w∧Lx N (b.1,E)<m0)):=by
 have ag:=g3.max
 refine E4 (a:=Value.bool ok) i (fun k x w'=> ∃σ',Stp w1 σ1 w' σ'∧x=Value.bool (ok&&(List.range k).all (Xr c i))) ⟨σ1,Stp.refl ad,by simp⟩ fun k x w2 d hk L=>?_
 obtain ⟨σ2,v,rfl⟩:=L
 have aw:=hq.up v
 have ah:=ac.up v
 have ab:=g3.up v
 have X:=v.sat
 refine Z0 ?_
 refine Q7 (fun W=>?_) (fun W=>?_)
 ·have aa:k<i:=by simpa using W
  have O:k<c.methods.length:=by omega
  have H:(ok&&(List.range (k+1)).all (Xr c i))=((ok&&(List.range k).all (Xr c i))&&Xr c i k):=by rw[Lg,Bool.and_assoc]
  have hQ:Xr c i k= !decide (c.methods[k].name=c.methods[i].name):=by unfold Xr Rh;rw[C0 O,C0 hi]
  rw[hQ] at H
  obtain ⟨a0,av,an,p1,_⟩:=ab.elM O
  generalize (ok&&(List.range k).all (Xr c i))=Y at H⊢
  clear h hQ W
  cases Y
  all_goals
   refine U2 X ?_
   (repeat refine J0 A8 ?_)
   (intros;(repeat (rename_i hx;subst hx));(try simp only[↓M2,M2,Mb,reduceIte]))
   rename_i w3 Z
   exact J3 (by omega) aa ⟨σ2,v.trans Z.stp,by rw[H];rfl⟩
 ·have af:k=i:=by
   have: ¬k<i:=by simpa using W
   omega
  subst af
  (try simp only[↓M1,M1,Mb,reduceIte])
  exact h _ _ v
set_option maxHeartbeats 4000000 in
theorem X2t {c:Cla} {lv fv mv:Value} {w1:World} {σ1:Q6} {q:Addr} {ok:Bool} (br:X3 w1 σ1) (hq:Z4 σ1 q [S c.name,S c.super,lv, .bool c.iface, .bool c.abs, .bool c.fin,fv,mv]) {J:Value→World→Prop} (g3:Sl 7 E8 σ1 mv c.methods)
 (h: ∀w' σ',Stp w1 σ1 w' σ'→J (.bool (ok&&(List.range c.methods.length).all fun i=>Mo c i&&(List.range i).all (Xr c i))) w'):
 lp (α:=Value×Value) (Value.bool ok,(.int .i64 0)) w1 fun aa u d_ w=>
  fieldAddr P T.b (.pointer (some q)) 7 w fun bl w=>
  Q2 P T.j bl w fun bb w=>
  X2 P .len [T.j] T.e [false] [bb] w fun aq w=>
  Q3 P .lss T.e (.tmp 123) (.tmp 126) u.2 aq w fun aw w=>
  X1 aw (
   fieldAddr P T.b (.pointer (some q)) 7 w fun a0 w=>
   Q2 P T.j a0 w fun be w=>
   indexAddr P T.j be u.2 w fun bf w=>
   Q2 P T.d bf w fun bi w=>
   W1 P T.d w fun t9 w=>
   X9 P T.d t9 bi w fun _u w=>
   Q0 u.1 true w (Q2 P T.d t9) fun bn w=>
   Q0 u.1 true w (Q1 P F.a4 [bn]) fun ay w=>
   pick P u.1 ay (.bool false) w fun p w=>
   Q0 p true w (fieldAddr P T.d t9 3) fun ar w=>
   Q0 p true w (Q2 P T.u ar) fun a3 w=>
   Q0 p true w (J8 P .not a3) fun bg w=>
   Q0 p true w (fun w J=>J bg w) fun ab w=>
   Q0 ab false w (fieldAddr P T.b (.pointer (some q)) 4) fun bj w=>
   Q0 ab false w (Q2 P T.u bj) fun a7 w=>
   Q0 p true w (pick P ab (.bool true) a7) fun a2 w=>
   pick P p a2 (.bool false) w fun r w=>
   Q0 r true w (fieldAddr P T.b (.pointer (some q)) 3) fun a5 w=>
   Q0 r true w (Q2 P T.u a5) fun bd w=>
   Q0 r true w (J8 P .not bd) fun ba w=>
   Q0 r true w (fun w J=>J ba w) fun V w=>
   Q0 V false w (fieldAddr P T.d t9 3) fun a9 w=>
   Q0 V false w (Q2 P T.u a9) fun az w=>
   Q0 r true w (pick P V (.bool true) az) fun bh w=>
   pick P r bh (.bool false) w fun a8 w=>
   lp (α:=Value×Value) (a8,(.int .i64 0)) w fun Y k d_ w=>
    Q3 P .lss T.e (.tmp 158) (.tmp 159) k.2 u.2 w fun bo w=>
    X1 bo (
     dr w fun y Br=>
     Q5 y (fun B=> ∀w:World,Br w→Q0 k.1 true w (fieldAddr P T.b (.pointer (some q)) 7) (dk y B w)) fun B=>
     Q5 y (fun O=> ∀w:World,Br w→Q0 k.1 true w (fun w J=>J k.2 w) (dk y O w)) fun O=>
     Q5 y (fun L=> ∀w:World,Br w→Q0 k.1 true w (fieldAddr P T.d t9 0) (dk y L w)) fun L=>
     Q5 y (fun C=> ∀M:Value,∀w:World,Br w→B M w→Q0 k.1 true w (Q2 P T.j M) (dk y C w)) fun C=>
     Q5 y (fun E=> ∀z:Value,∀N:Value,∀w:World,Br w→C z w→O N w→Q0 k.1 true w (indexAddr P T.j z N) (dk y E w)) fun E=>
     Q5 y (fun Q=> ∀D:Value,∀w:World,Br w→E D w→Q0 k.1 true w (fieldAddr P T.d D 0) (dk y Q w)) fun Q=>
     Q5 y (fun Z=> ∀H:Value,∀w:World,Br w→Q H w→Q0 k.1 true w (Q2 P T.c H) (dk y Z w)) fun Z=>
     Q5 y (fun X=> ∀A:Value,∀w:World,Br w→L A w→Q0 k.1 true w (Q2 P T.c A) (dk y X w)) fun X=>
     ∀M:Value,∀N:Value,∀A:Value,∀z:Value,∀D:Value,∀H:Value,∀ah:Value,∀aj:Value,∀w:World,Br w→B M w→O N w→L A w→C z w→E D w→Q H w→Z ah w→X aj w→
     Q0 k.1 true w (Q3 P .neq T.c (.tmp 170) (.tmp 172) ah aj) fun bk w=>
     pick P k.1 bk (.bool false) w fun a1 w=>
     Q3 P .add T.e (.tmp 161) (.const (.int .i64 1)) k.2 (.int .i64 1) w fun ax w=>
     Y (a1,ax) w) (
     Q3 P .add T.e (.tmp 128) (.const (.int .i64 1)) u.2 (.int .i64 1) w fun a6 w=>
     aa (k.1,a6) w)) (
   J u.1 w):=by
 have o:=g3.max
 refine E4 (a:=Value.bool ok) c.methods.length (fun n x w'=> ∃σ',Stp w1 σ1 w' σ'∧x=Value.bool (ok&&(List.range n).all fun i=>Mo c i&&(List.range i).all (Xr c i))) ⟨σ1,Stp.refl br,by simp⟩ fun n x w2 d b8 bc=>?_
 obtain ⟨σ2,ac,rfl⟩:=bc
 have an:=hq.up ac
 have ag:=g3.up ac
 have ae:=ac.sat
 (repeat refine Hd.h ?_)
 refine ld ae an rfl ?_
 refine Q8 ag ?_
 refine Z0 ?_
 refine Q7 (fun hc=>?_) (fun hc=>?_)
 ·have f:n<c.methods.length:=by simpa using hc
  have v:(ok&&(List.range (n+1)).all fun i=>Mo c i&&(List.range i).all (Xr c i))=((ok&&(List.range n).all fun i=>Mo c i&&(List.range i).all (Xr c i))&&(Mo c n&&(List.range n).all (Xr c n))):=by rw[Lg,Bool.and_assoc]
  have hP:Mo c n=(I5 c.methods[n]&&(!c.methods[n].abs||c.abs)&&(!c.iface||c.methods[n].abs)):=by unfold Mo Rh;rw[C0 f]
  obtain ⟨pv,cv,hv,p1,r1⟩:=ag.elM f
  generalize (ok&&(List.range n).all fun i=>Mo c i&&(List.range i).all (Xr c i))=am at v⊢
  clear h hc
  have step: ∀b,b=(am&&Mo c n)→(am&&(Mo c n&&(List.range n).all (Xr c n)))=(b&&(List.range n).all (Xr c n)):=fun b e=>by rw[e,Bool.and_assoc]
  (repeat refine Hd.h ?_)
  refine ld ae an rfl ?_
  refine Y1 ag f ?_
  refine Y4 ae p1 rfl ?_
  refine Y9 ae (by rfl) rfl (Rep.one r1) fun q9 w3 σ3 W ao=>?_
  have ak:=W.sat
  have bp:=an.up W
  have bm:=ag.up W
  have r3:=RMe_lift r1 ⟨W.le⟩
  have ai:=ac.trans W
  cases am with
  | false=>
   (repeat refine Hd.h ?_)
   refine Rp ak bp bm f ao fun w4 R l=>?_
   exact J3 o f ⟨R,ai.trans l,by rw[v];rfl⟩
  | true=>
   (repeat refine Hd.h ?_)
   refine Y4 ak ao rfl ?_
   (repeat refine Hd.h ?_)
   refine Q8j ak r3 fun w5 σ5 ad=>?_
   have m:=ad.sat
   have t:=bp.up ad
   have g:=ao.up ad
   have U:=bm.up ad
   have s:=ai.trans ad
   cases d1:I5 c.methods[n] with
   | false=>
    (repeat refine Hd.h ?_)
    refine Rp m t U f g fun w4 R l=>?_
    exact J3 o f ⟨R,s.trans l,by rw[v,step false (by rw[hP,d1];rfl)]⟩
   | true=>
    (repeat refine Hd.h ?_)
    refine ld m g rfl ?_
    (repeat refine Hd.h ?_)
    have j: ∀b1:Bool,b1=(!c.methods[n].abs||c.abs)→Mo c n=(b1&&(!c.iface||c.methods[n].abs)):=fun b1 e=>by rw[hP,d1,e];rfl
    cases d2:c.methods[n].abs with
    | false=>
     rw[d2] at j g
     simp only[Bool.not_true,Bool.not_false]
     (repeat refine Hd.h ?_)
     refine ld m t rfl ?_
     (repeat refine Hd.h ?_)
     cases d4:c.iface with
     | false=>
      simp only[Bool.not_true,Bool.not_false]
      (repeat refine Hd.h ?_)
      refine Rp m t U f (by rw[d2];exact g) fun w4 R l=>?_
      exact J3 o f ⟨R,s.trans l,by rw[v,step true (by rw[j true rfl,d4];rfl)]⟩
     | true=>
      simp only[Bool.not_true,Bool.not_false]
      (repeat refine Hd.h ?_)
      refine ld m g rfl ?_
      (repeat refine Hd.h ?_)
      refine Rp m t U f (by rw[d2];exact g) fun w4 R l=>?_
      exact J3 o f ⟨R,s.trans l,by rw[v,step false (by rw[j true rfl,d4];rfl)]⟩
    | true=>
     rw[d2] at j g
     simp only[Bool.not_true,Bool.not_false]
     (repeat refine Hd.h ?_)
     refine ld m t rfl ?_
     cases d3:c.abs with
     | false=>
      (repeat refine Hd.h ?_)
      refine Rp m t U f (by rw[d2];exact g) fun w4 R l=>?_
      exact J3 o f ⟨R,s.trans l,by rw[v,step false (by rw[j false (by rw[d3];rfl)];rfl)]⟩
     | true=>
      (repeat refine Hd.h ?_)
      refine ld m t rfl ?_
      (repeat refine Hd.h ?_)
      cases d4:c.iface with
      | false=>
       simp only[Bool.not_true,Bool.not_false]
       (repeat refine Hd.h ?_)
       refine Rp m t U f (by rw[d2];exact g) fun w4 R l=>?_
       exact J3 o f ⟨R,s.trans l,by rw[v,step true (by rw[j true (by rw[d3];rfl),d4];rfl)]⟩
      | true=>
       simp only[Bool.not_true,Bool.not_false]
       (repeat refine Hd.h ?_)
       refine ld m g rfl ?_
       (repeat refine Hd.h ?_)
       refine Rp m t U f (by rw[d2];exact g) fun w4 R l=>?_
       exact J3 o f ⟨R,s.trans l,by rw[v,step true (by rw[j true (by rw[d3];rfl),d4];rfl)]⟩
 ·have f: ¬n<c.methods.length:=by simpa using hc
  obtain rfl:n=c.methods.length:=by omega
  exact h _ _ ac
theorem X22 {c:Cla} {M L mv:Value} {w1:World} {σ1:Q6} {q:Addr} {ok:Bool} (d:X3 w1 σ1) (g:Z4 σ1 q [S c.name,S c.super,M, .bool c.iface, .bool c.abs, .bool c.fin,L,mv]) (h:K (.bool (ok&&Q7Z c)) w1):
 Q0 (Value.bool ok) true w1 (fieldAddr P T.b (.pointer (some q)) 3) fun j w=>
  Q0 (Value.bool ok) true w (Q2 P T.u j) fun v w=>
  Q0 (Value.bool ok) true w (J8 P .not v) fun z w=>
  Q0 (Value.bool ok) true w (fun w J=>J z w) fun b w=>
  Q0 b false w (fieldAddr P T.b (.pointer (some q)) 4) fun m w=>
  Q0 b false w (Q2 P T.u m) fun r w=>
  Q0 b false w (fun w J=>J r w) fun e w=>
  Q0 e true w (fieldAddr P T.b (.pointer (some q)) 1) fun o w=>
  Q0 e true w (Q2 P T.c o) fun k w=>
  Q0 e true w (Q3 P .eql T.c (.tmp 185) (.const (.string ⟨#[79,98,106,101,99,116]⟩)) k (.string ⟨#[79,98,106,101,99,116]⟩)) fun n w=>
  Q0 b false w (pick P e n (.bool false)) fun B w=>
  Q0 (Value.bool ok) true w (pick P b (.bool true) B) fun A w=>
  pick P (Value.bool ok) A (.bool false) w fun a w=>
  Q0 a true w (fieldAddr P T.b (.pointer (some q)) 4) fun u w=>
  Q0 a true w (Q2 P T.u u) fun l w=>
  Q0 a true w (fun w J=>J l w) fun f w=>
  Q0 f true w (fieldAddr P T.b (.pointer (some q)) 5) fun p w=>
  Q0 f true w (Q2 P T.u p) fun t w=>
  Q0 a true w (pick P f t (.bool false)) fun C w=>
  Q0 a true w (J8 P .not C) fun y w=>
  pick P a y (.bool false) w fun s w=>
  K s w:=by
 unfold Q7Z at h
 have H:decide (c.super=J9)=decide (c.super=[79,98,106,101,99,116]):=rfl
 rw[H] at h
 cases ok with
 | false=>(try simp only[↓M1,M1,Mb,reduceIte]);simpa using h
 | true=>
  (try simp only[↓M1,M1,Mb,reduceIte])
  refine ld d g rfl ?_
  (try simp only[↓M1,M1,Mb,reduceIte])
  cases D:c.iface with
  | false=>
   rw[D] at h
   (try simp only[↓M1,M1,Mb,reduceIte])
   refine ld d g rfl ?_
   cases i:c.abs with
   | false=>rw[i] at h;(try simp only[↓M1,M1,Mb,reduceIte]);simpa using h
   | true=>
    rw[i] at h
    (try simp only[↓M1,M1,Mb,reduceIte])
    refine ld d g rfl ?_
    (try simp only[↓M1,M1,Mb,reduceIte])
    simpa using h
  | true=>
   rw[D] at h
   (try simp only[↓M1,M1,Mb,reduceIte])
   refine ld d g rfl ?_
   cases i:c.abs with
   | false=>rw[i] at h;(try simp only[↓M1,M1,Mb,reduceIte]);simpa using h
   | true=>
    rw[i] at h
    (try simp only[↓M1,M1,Mb,reduceIte])
    refine ld d g rfl ?_
    (try simp only[↓M1,M1,Mb,reduceIte])
    cases E:decide (c.super=[79,98,106,101,99,116]) with
    | false=>rw[E] at h;(try simp only[↓M1,M1,Mb,reduceIte]);simpa using h
    | true=>
     rw[E] at h
     (try simp only[↓M1,M1,Mb,reduceIte])
     refine ld d g rfl ?_
     simp only[i,↓M1,M1,Mb,reduceIte]
     refine ld d g rfl ?_
     (try simp only[↓M1,M1,Mb,reduceIte])
     simpa using h
end Go.Proofs.YtjdiakhipmggjaaGreatDoor

namespace Go.Proofs.YtjdiakhipmggjaaGreatDoor
open Go.Emb Go.RowKit Go.Kd Go.Hm
variable {w : World} {K : Value → World → Prop} {σ : Q6}
def Q5g (c:Cla):Bool:=((((M6 c.name&&M6 c.super&& !decide (c.name=c.super))&&(List.range c.like.length).all fun i=>Ng c i&&(List.range i).all (Qb c i))&&(List.range c.fields.length).all fun i=>Du c i&&(List.range i).all (Xp c i))&&(List.range c.methods.length).all fun i=>Mo c i&&(List.range i).all (Xr c i))&&Q7Z c
theorem X0f {α:Type} {f:α→X0}: ∀(xs a:List α),C6 f a xs=true↔(xs.map f).Nodup∧ ∀x∈xs,∀y∈a,f y≠f x:=by
 intro xs
 induction xs with
 | nil=>intro a;simp[C6]
 | cons x r h=>
  intro a
  simp only[C6,Bool.and_eq_true,h,Bool.not_eq_true',List.map_cons,List.nodup_cons]
  rw[←Bool.not_eq_true,List.any_eq_true]
  simp only[decide_eq_true_eq,not_exists,not_and,List.mem_append,List.mem_cons,List.not_mem_nil,or_false,List.mem_map]
  constructor
  ·rintro ⟨d,g,c⟩
   refine ⟨⟨fun y hy e=>c y hy x (.inr rfl) e.symm,g⟩,fun y hy z b=>?_⟩
   rcases hy with rfl | hy
   ·exact d z b
   ·exact c y hy z (.inl b)
  ·rintro ⟨⟨d,g⟩,c⟩
   refine ⟨fun y hy=>c x (.inl rfl) y hy,g,fun y hy z b=>?_⟩
   rcases b with b | rfl
   ·exact c y (.inr hy) z b
   ·exact fun e=>d y hy e.symm
theorem Q17 {α:Type} {f:α→X0} {xs:List α} {p:α→Bool} {P:Nat→Bool} {Q:Nat→Nat→Bool} (c: ∀i (h:i<xs.length),P i=p xs[i]) (d: ∀i (h:i<xs.length) k (o:k<xs.length),Q i k= !decide (f xs[k]=f xs[i])):
 ((List.range xs.length).all fun i=>P i&&(List.range i).all (Q i))=true↔(∀x∈xs,p x=true)∧C6 f [] xs=true:=by
 rw[X0f,List.all_eq_true]
 simp only[List.mem_range,Bool.and_eq_true,List.all_eq_true,List.not_mem_nil,false_implies,implies_true,and_true]
 rw[List.nodup_iff_pairwise_ne,List.pairwise_iff_getElem]
 simp only[List.length_map,List.getElem_map]
 constructor
 ·intro h
  refine ⟨fun x g=>?_,fun i j a e b=>?_⟩
  ·obtain ⟨i,a,rfl⟩:=List.getElem_of_mem g
   rw[←c i a];exact (h i a).1
  ·have:=(h j e).2 i b
   rw[d j e i a] at this
   simpa using this
 ·rintro ⟨m,l⟩ i a
  refine ⟨by rw[c i a];exact m _ (List.getElem_mem a),fun k n=>?_⟩
  rw[d i a k (by omega)]
  simpa using l k i (by omega) a n
theorem X0g (c:Cla):Q5g c=Nw c:=by
 have v:=Q17 (f:=id) (xs:=c.like) (p:=fun y=>M6 y&& !decide (y=c.name)) (P:=Ng c) (Q:=Qb c) (fun i h=>by unfold Ng;rw[C0 h]) (fun i h k l=>by unfold Qb;rw[C0 h,C0 l];rfl)
 have g:=Q17 (f:=Fld.name) (xs:=c.fields) (p:=fun f=>D6 f.name&&right f.kind&& !c.iface) (P:=Du c) (Q:=Xp c) (fun i h=>by unfold Du Bf;rw[C0 h]) (fun i h k l=>by unfold Xp Bf;rw[C0 h,C0 l])
 have d:=Q17 (f:=Hm.Met.name) (xs:=c.methods) (p:=fun m=>I5 m&&(!m.abs||c.abs)&&(!c.iface||m.abs)) (P:=Mo c) (Q:=Xr c) (fun i h=>by unfold Mo Rh;rw[C0 h]) (fun i h k l=>by unfold Xr Rh;rw[C0 h,C0 l])
 rw[Bool.eq_iff_iff]
 unfold Q5g Nw Q7Z
 simp only[Bool.and_eq_true,v,g,d]
 simp only[Bool.and_eq_true,Bool.not_eq_true',Bool.or_eq_true,Bool.and_eq_false_iff,Bool.or_eq_false_iff,decide_eq_true_eq,decide_eq_false_iff_not,List.all_eq_true,List.mem_cons,List.any_eq_false,Dy,Bool.not_eq_false']
 constructor
 ·rintro ⟨⟨⟨⟨⟨⟨n,o⟩,s⟩,a,r⟩,h6,t⟩,j,u⟩,b,q⟩
  refine ⟨⟨⟨⟨⟨⟨⟨⟨?_,?_⟩,r⟩,?_⟩,q,?_⟩,t⟩,u⟩,?_⟩,fun m d=>(j m d).1.1⟩
  ·rintro x (rfl | rfl | hx)
   ·exact n
   ·exact o
   ·exact (a x hx).1
  ·rintro x (rfl | hx)
   ·exact s
   ·exact fun e=>(a x hx).2 e.symm
  ·cases A:c.iface with
   | false=>exact .inl rfl
   | true=>
    rw[A] at b h6 j
    have b:=b.resolve_left (by decide)
    refine .inr ⟨⟨b,?_⟩,fun m d e=>?_⟩
    ·rw[List.eq_nil_iff_forall_not_mem]
     intro f g
     exact absurd (h6 f g).2 (by decide)
    ·have:=(j m d).2.resolve_left (by decide)
     rw[this] at e;cases e
  ·cases z:c.abs with
   | true=>exact .inr rfl
   | false=>
    rw[z] at j
    refine .inl fun m d e=>?_
    have:=(j m d).1.2.resolve_right (by decide)
    rw[this] at e;cases e
  ·exact fun f g=>(h6 f g).1
 ·rintro ⟨⟨⟨⟨⟨⟨⟨⟨n,o⟩,s⟩,a⟩,r,h6⟩,t⟩,j⟩,u⟩,b⟩
  refine ⟨⟨⟨⟨⟨⟨n _ (.inl rfl),n _ (.inr (.inl rfl))⟩,o _ (.inl rfl)⟩,fun x hx=>⟨n x (.inr (.inr hx)),fun e=>o x (.inr hx) e.symm⟩,s⟩,fun f g=>⟨u f g,?_⟩,t⟩,fun m d=>⟨⟨b m d,?_⟩,?_⟩,j⟩,?_,r⟩
  ·rcases a with a | ⟨⟨_,a⟩,_⟩
   ·exact a
   ·rw[a] at g;simp at g
  ·rcases h6 with h6 | h6
   ·left;exact eq_false_of_ne_true (h6 m d)
   ·exact .inr h6
  ·rcases a with a | ⟨_,a⟩
   ·exact .inl a
   ·right
    cases hx:m.abs with
    | true=>rfl
    | false=>exact absurd hx (a m d)
  ·rcases a with a | ⟨⟨a,_⟩,_⟩
   ·exact .inl a
   ·exact .inr a
set_option maxHeartbeats 4000000 in
theorem Q98 {c:Cla} {cs:List Value} (hs:X3 w σ) (hc:V0 σ c cs) (h: ∀w' σ',Stp w σ w' σ'→K (.bool (Q5g c)) w'):Q1 P F.bp [.agg cs.toArray] w K:=Iw (by
 unfold Mg
 obtain ⟨lv,fv,mv,rfl,f1,f2,f3,f4,f5⟩:=hc
 have cw:c.name.length≤140737488355328:=by simp only[U1] at f4;omega
 have c7:c.super.length≤140737488355328:=by simp only[U1] at f5;omega
 refine Z1 hs fun q w1 σ1 b7 hq=>?_
 have g1:=f1.up b7
 have g2:=f2.up b7
 have g3:=f3.up b7
 have bp:=b7.sat
 have ci: ∀ok:Bool,ok=(M6 c.name&&M6 c.super&& !decide (c.name=c.super))→_:=fun ok e=>
  X0P (w1:=w1) (σ1:=σ1) (ok:=ok) bp hq (J:=fun v w=>lp (α:=Value×Value) (v,(.int .i64 0)) w fun b9 o d_ w=>
   fieldAddr P T.b (.pointer (some q)) 6 w fun c6 w=>
   Q2 P T.k c6 w fun cq w=>
   X2 P .len [T.k] T.e [false] [cq] w fun cz w=>
   Q3 P .lss T.e (.tmp 71) (.tmp 74) o.2 cz w fun cv w=>
   X1 cv (
    Q0 o.1 true w (fieldAddr P T.b (.pointer (some q)) 6) fun c4 w=>
    Q0 o.1 true w (Q2 P T.k c4) fun c3 w=>
    Q0 o.1 true w (fun w J=>J o.2 w) fun cu w=>
    Q0 o.1 true w (indexAddr P T.k c3 cu) fun c8 w=>
    Q0 o.1 true w (fieldAddr P T.o c8 0) fun c5 w=>
    Q0 o.1 true w (Q2 P T.c c5) fun dc w=>
    Q0 o.1 true w (Q1 P F.u [dc]) fun da w=>
    pick P o.1 da (.bool false) w fun af w=>
    Q0 af true w (fieldAddr P T.b (.pointer (some q)) 6) fun c1 w=>
    Q0 af true w (Q2 P T.k c1) fun db w=>
    Q0 af true w (fun w J=>J o.2 w) fun cr w=>
    Q0 af true w (indexAddr P T.k db cr) fun cx w=>
    Q0 af true w (fieldAddr P T.o cx 1) fun de w=>
    Q0 af true w (Q2 P T.c de) fun c2 w=>
    Q0 af true w (Q1 P F.e [c2]) fun cy w=>
    pick P af cy (.bool false) w fun cd w=>
    Q0 cd true w (fieldAddr P T.b (.pointer (some q)) 3) fun ct w=>
    Q0 cd true w (Q2 P T.u ct) fun c9 w=>
    Q0 cd true w (J8 P .not c9) fun cn w=>
    pick P cd cn (.bool false) w fun cj w=>
    lp (α:=Value×Value) (cj,(.int .i64 0)) w fun bz l d_ w=>
     Q3 P .lss T.e (.tmp 102) (.tmp 103) l.2 o.2 w fun ck w=>
     X1 ck (
      dr w fun d n=>
      Q5 d (fun a4=> ∀w:World,n w→Q0 l.1 true w (fieldAddr P T.b (.pointer (some q)) 6) (dk d a4 w)) fun a4=>
      Q5 d (fun a1=> ∀w:World,n w→Q0 l.1 true w (fun w J=>J l.2 w) (dk d a1 w)) fun a1=>
      Q5 d (fun a7=> ∀w:World,n w→Q0 l.1 true w (fieldAddr P T.b (.pointer (some q)) 6) (dk d a7 w)) fun a7=>
      Q5 d (fun ap=> ∀w:World,n w→Q0 l.1 true w (fun w J=>J o.2 w) (dk d ap w)) fun ap=>
      Q5 d (fun av=> ∀ay:Value,∀w:World,n w→a4 ay w→Q0 l.1 true w (Q2 P T.k ay) (dk d av w)) fun av=>
      Q5 d (fun a5=> ∀ba:Value,∀aq:Value,∀w:World,n w→av ba w→a1 aq w→Q0 l.1 true w (indexAddr P T.k ba aq) (dk d a5 w)) fun a5=>
      Q5 d (fun ax=> ∀ao:Value,∀w:World,n w→a5 ao w→Q0 l.1 true w (fieldAddr P T.o ao 0) (dk d ax w)) fun ax=>
      Q5 d (fun cc=> ∀aw:Value,∀w:World,n w→ax aw w→Q0 l.1 true w (Q2 P T.c aw) (dk d cc w)) fun cc=>
      Q5 d (fun a3=> ∀a6:Value,∀w:World,n w→a7 a6 w→Q0 l.1 true w (Q2 P T.k a6) (dk d a3 w)) fun a3=>
      Q5 d (fun a9=> ∀az:Value,∀a0:Value,∀w:World,n w→a3 az w→ap a0 w→Q0 l.1 true w (indexAddr P T.k az a0) (dk d a9 w)) fun a9=>
      Q5 d (fun ar=> ∀a2:Value,∀w:World,n w→a9 a2 w→Q0 l.1 true w (fieldAddr P T.o a2 0) (dk d ar w)) fun ar=>
      Q5 d (fun bd=> ∀a8:Value,∀w:World,n w→ar a8 w→Q0 l.1 true w (Q2 P T.c a8) (dk d bd w)) fun bd=>
      ∀ay:Value,∀aq:Value,∀a6:Value,∀a0:Value,∀ba:Value,∀ao:Value,∀aw:Value,∀cg:Value,∀az:Value,∀a2:Value,∀a8:Value,∀cf:Value,∀w:World,n w→a4 ay w→a1 aq w→a7 a6 w→ap a0 w→av ba w→a5 ao w→ax aw w→cc cg w→a3 az w→a9 a2 w→ar a8 w→bd cf w→
      Q0 l.1 true w (Q3 P .neq T.c (.tmp 114) (.tmp 120) cg cf) fun cp w=>
      pick P l.1 cp (.bool false) w fun cl w=>
      Q3 P .add T.e (.tmp 105) (.const (.int .i64 1)) l.2 (.int .i64 1) w fun co w=>
      bz (cl,co) w) (
      Q3 P .add T.e (.tmp 76) (.const (.int .i64 1)) o.2 (.int .i64 1) w fun dd w=>
      b9 (l.1,dd) w)) (
    lp (α:=Value×Value) (o.1,(.int .i64 0)) w fun O f d_ w=>
     fieldAddr P T.b (.pointer (some q)) 7 w fun b8 w=>
     Q2 P T.j b8 w fun bw w=>
     X2 P .len [T.j] T.e [false] [bw] w fun bb w=>
     Q3 P .lss T.e (.tmp 123) (.tmp 126) f.2 bb w fun bf w=>
     X1 bf (
      fieldAddr P T.b (.pointer (some q)) 7 w fun bk w=>
      Q2 P T.j bk w fun b0 w=>
      indexAddr P T.j b0 f.2 w fun b1 w=>
      Q2 P T.d b1 w fun b4 w=>
      W1 P T.d w fun t9 w=>
      X9 P T.d t9 b4 w fun _u w=>
      Q0 f.1 true w (Q2 P T.d t9) fun ca w=>
      Q0 f.1 true w (Q1 P F.a4 [ca]) fun bh w=>
      pick P f.1 bh (.bool false) w fun j w=>
      Q0 j true w (fieldAddr P T.d t9 3) fun bc w=>
      Q0 j true w (Q2 P T.u bc) fun bn w=>
      Q0 j true w (J8 P .not bn) fun b2 w=>
      Q0 j true w (fun w J=>J b2 w) fun Q w=>
      Q0 Q false w (fieldAddr P T.b (.pointer (some q)) 4) fun b5 w=>
      Q0 Q false w (Q2 P T.u b5) fun br w=>
      Q0 j true w (pick P Q (.bool true) br) fun bm w=>
      pick P j bm (.bool false) w fun k w=>
      Q0 k true w (fieldAddr P T.b (.pointer (some q)) 3) fun bo w=>
      Q0 k true w (Q2 P T.u bo) fun bx w=>
      Q0 k true w (J8 P .not bx) fun bv w=>
      Q0 k true w (fun w J=>J bv w) fun H w=>
      Q0 H false w (fieldAddr P T.d t9 3) fun bu w=>
      Q0 H false w (Q2 P T.u bu) fun bj w=>
      Q0 k true w (pick P H (.bool true) bj) fun b3 w=>
      pick P k b3 (.bool false) w fun bs w=>
      lp (α:=Value×Value) (bs,(.int .i64 0)) w fun M b d_ w=>
       Q3 P .lss T.e (.tmp 158) (.tmp 159) b.2 f.2 w fun cb w=>
       X1 cb (
        dr w fun d n=>
        Q5 d (fun s=> ∀w:World,n w→Q0 b.1 true w (fieldAddr P T.b (.pointer (some q)) 7) (dk d s w)) fun s=>
        Q5 d (fun D=> ∀w:World,n w→Q0 b.1 true w (fun w J=>J b.2 w) (dk d D w)) fun D=>
        Q5 d (fun A=> ∀w:World,n w→Q0 b.1 true w (fieldAddr P T.d t9 0) (dk d A w)) fun A=>
        Q5 d (fun t=> ∀B:Value,∀w:World,n w→s B w→Q0 b.1 true w (Q2 P T.j B) (dk d t w)) fun t=>
        Q5 d (fun y=> ∀p:Value,∀C:Value,∀w:World,n w→t p w→D C w→Q0 b.1 true w (indexAddr P T.j p C) (dk d y w)) fun y=>
        Q5 d (fun E=> ∀u:Value,∀w:World,n w→y u w→Q0 b.1 true w (fieldAddr P T.d u 0) (dk d E w)) fun E=>
        Q5 d (fun N=> ∀z:Value,∀w:World,n w→E z w→Q0 b.1 true w (Q2 P T.c z) (dk d N w)) fun N=>
        Q5 d (fun L=> ∀r:Value,∀w:World,n w→A r w→Q0 b.1 true w (Q2 P T.c r) (dk d L w)) fun L=>
        ∀B:Value,∀C:Value,∀r:Value,∀p:Value,∀u:Value,∀z:Value,∀ag:Value,∀ai:Value,∀w:World,n w→s B w→D C w→A r w→t p w→y u w→E z w→N ag w→L ai w→
        Q0 b.1 true w (Q3 P .neq T.c (.tmp 170) (.tmp 172) ag ai) fun b6 w=>
        pick P b.1 b6 (.bool false) w fun bl w=>
        Q3 P .add T.e (.tmp 161) (.const (.int .i64 1)) b.2 (.int .i64 1) w fun bg w=>
        M (bl,bg) w) (
        Q3 P .add T.e (.tmp 128) (.const (.int .i64 1)) f.2 (.int .i64 1) w fun bq w=>
        O (b.1,bq) w)) (
      Q0 f.1 true w (fieldAddr P T.b (.pointer (some q)) 3) fun Y w=>
      Q0 f.1 true w (Q2 P T.u Y) fun V w=>
      Q0 f.1 true w (J8 P .not V) fun W w=>
      Q0 f.1 true w (fun w J=>J W w) fun g w=>
      Q0 g false w (fieldAddr P T.b (.pointer (some q)) 4) fun aa w=>
      Q0 g false w (Q2 P T.u aa) fun U w=>
      Q0 g false w (fun w J=>J U w) fun i w=>
      Q0 i true w (fieldAddr P T.b (.pointer (some q)) 1) fun ab w=>
      Q0 i true w (Q2 P T.c ab) fun R w=>
      Q0 i true w (Q3 P .eql T.c (.tmp 185) (.const (.string ⟨#[79,98,106,101,99,116]⟩)) R (.string ⟨#[79,98,106,101,99,116]⟩)) fun ah w=>
      Q0 g false w (pick P i ah (.bool false)) fun X w=>
      Q0 f.1 true w (pick P g (.bool true) X) fun am w=>
      pick P f.1 am (.bool false) w fun a w=>
      Q0 a true w (fieldAddr P T.b (.pointer (some q)) 4) fun ak w=>
      Q0 a true w (Q2 P T.u ak) fun Z w=>
      Q0 a true w (fun w J=>J Z w) fun m w=>
      Q0 m true w (fieldAddr P T.b (.pointer (some q)) 5) fun ae w=>
      Q0 m true w (Q2 P T.u ae) fun aj w=>
      Q0 a true w (pick P m aj (.bool false)) fun ad w=>
      Q0 a true w (J8 P .not ad) fun al w=>
      pick P a al (.bool false) w fun ac w=>
      K ac w))) f4 g1 fun w2 σ2 an=>
  X2e (J:=fun v w=>lp (α:=Value×Value) (v,(.int .i64 0)) w fun O f d_ w=>
   fieldAddr P T.b (.pointer (some q)) 7 w fun b8 w=>
   Q2 P T.j b8 w fun bw w=>
   X2 P .len [T.j] T.e [false] [bw] w fun bb w=>
   Q3 P .lss T.e (.tmp 123) (.tmp 126) f.2 bb w fun bf w=>
   X1 bf (
    fieldAddr P T.b (.pointer (some q)) 7 w fun bk w=>
    Q2 P T.j bk w fun b0 w=>
    indexAddr P T.j b0 f.2 w fun b1 w=>
    Q2 P T.d b1 w fun b4 w=>
    W1 P T.d w fun t9 w=>
    X9 P T.d t9 b4 w fun _u w=>
    Q0 f.1 true w (Q2 P T.d t9) fun ca w=>
    Q0 f.1 true w (Q1 P F.a4 [ca]) fun bh w=>
    pick P f.1 bh (.bool false) w fun j w=>
    Q0 j true w (fieldAddr P T.d t9 3) fun bc w=>
    Q0 j true w (Q2 P T.u bc) fun bn w=>
    Q0 j true w (J8 P .not bn) fun b2 w=>
    Q0 j true w (fun w J=>J b2 w) fun Q w=>
    Q0 Q false w (fieldAddr P T.b (.pointer (some q)) 4) fun b5 w=>
    Q0 Q false w (Q2 P T.u b5) fun br w=>
    Q0 j true w (pick P Q (.bool true) br) fun bm w=>
    pick P j bm (.bool false) w fun k w=>
    Q0 k true w (fieldAddr P T.b (.pointer (some q)) 3) fun bo w=>
    Q0 k true w (Q2 P T.u bo) fun bx w=>
    Q0 k true w (J8 P .not bx) fun bv w=>
    Q0 k true w (fun w J=>J bv w) fun H w=>
    Q0 H false w (fieldAddr P T.d t9 3) fun bu w=>
    Q0 H false w (Q2 P T.u bu) fun bj w=>
    Q0 k true w (pick P H (.bool true) bj) fun b3 w=>
    pick P k b3 (.bool false) w fun bs w=>
    lp (α:=Value×Value) (bs,(.int .i64 0)) w fun M b d_ w=>
     Q3 P .lss T.e (.tmp 158) (.tmp 159) b.2 f.2 w fun cb w=>
     X1 cb (
      dr w fun d n=>
      Q5 d (fun s=> ∀w:World,n w→Q0 b.1 true w (fieldAddr P T.b (.pointer (some q)) 7) (dk d s w)) fun s=>
      Q5 d (fun D=> ∀w:World,n w→Q0 b.1 true w (fun w J=>J b.2 w) (dk d D w)) fun D=>
      Q5 d (fun A=> ∀w:World,n w→Q0 b.1 true w (fieldAddr P T.d t9 0) (dk d A w)) fun A=>
      Q5 d (fun t=> ∀B:Value,∀w:World,n w→s B w→Q0 b.1 true w (Q2 P T.j B) (dk d t w)) fun t=>
      Q5 d (fun y=> ∀p:Value,∀C:Value,∀w:World,n w→t p w→D C w→Q0 b.1 true w (indexAddr P T.j p C) (dk d y w)) fun y=>
      Q5 d (fun E=> ∀u:Value,∀w:World,n w→y u w→Q0 b.1 true w (fieldAddr P T.d u 0) (dk d E w)) fun E=>
      Q5 d (fun N=> ∀z:Value,∀w:World,n w→E z w→Q0 b.1 true w (Q2 P T.c z) (dk d N w)) fun N=>
      Q5 d (fun L=> ∀r:Value,∀w:World,n w→A r w→Q0 b.1 true w (Q2 P T.c r) (dk d L w)) fun L=>
      ∀B:Value,∀C:Value,∀r:Value,∀p:Value,∀u:Value,∀z:Value,∀ag:Value,∀ai:Value,∀w:World,n w→s B w→D C w→A r w→t p w→y u w→E z w→N ag w→L ai w→
      Q0 b.1 true w (Q3 P .neq T.c (.tmp 170) (.tmp 172) ag ai) fun b6 w=>
      pick P b.1 b6 (.bool false) w fun bl w=>
      Q3 P .add T.e (.tmp 161) (.const (.int .i64 1)) b.2 (.int .i64 1) w fun bg w=>
      M (bl,bg) w) (
      Q3 P .add T.e (.tmp 128) (.const (.int .i64 1)) f.2 (.int .i64 1) w fun bq w=>
      O (b.1,bq) w)) (
    Q0 f.1 true w (fieldAddr P T.b (.pointer (some q)) 3) fun Y w=>
    Q0 f.1 true w (Q2 P T.u Y) fun V w=>
    Q0 f.1 true w (J8 P .not V) fun W w=>
    Q0 f.1 true w (fun w J=>J W w) fun g w=>
    Q0 g false w (fieldAddr P T.b (.pointer (some q)) 4) fun aa w=>
    Q0 g false w (Q2 P T.u aa) fun U w=>
    Q0 g false w (fun w J=>J U w) fun i w=>
    Q0 i true w (fieldAddr P T.b (.pointer (some q)) 1) fun ab w=>
    Q0 i true w (Q2 P T.c ab) fun R w=>
    Q0 i true w (Q3 P .eql T.c (.tmp 185) (.const (.string ⟨#[79,98,106,101,99,116]⟩)) R (.string ⟨#[79,98,106,101,99,116]⟩)) fun ah w=>
    Q0 g false w (pick P i ah (.bool false)) fun X w=>
    Q0 f.1 true w (pick P g (.bool true) X) fun am w=>
    pick P f.1 am (.bool false) w fun a w=>
    Q0 a true w (fieldAddr P T.b (.pointer (some q)) 4) fun ak w=>
    Q0 a true w (Q2 P T.u ak) fun Z w=>
    Q0 a true w (fun w J=>J Z w) fun m w=>
    Q0 m true w (fieldAddr P T.b (.pointer (some q)) 5) fun ae w=>
    Q0 m true w (Q2 P T.u ae) fun aj w=>
    Q0 a true w (pick P m aj (.bool false)) fun ad w=>
    Q0 a true w (J8 P .not ad) fun al w=>
    pick P a al (.bool false) w fun ac w=>
    K ac w)) an.sat (hq.up an) (g2.up an) fun w3 σ3 bi=>
  X2t (J:=fun v w=>Q0 v true w (fieldAddr P T.b (.pointer (some q)) 3) fun Y w=>
   Q0 v true w (Q2 P T.u Y) fun V w=>
   Q0 v true w (J8 P .not V) fun W w=>
   Q0 v true w (fun w J=>J W w) fun g w=>
   Q0 g false w (fieldAddr P T.b (.pointer (some q)) 4) fun aa w=>
   Q0 g false w (Q2 P T.u aa) fun U w=>
   Q0 g false w (fun w J=>J U w) fun i w=>
   Q0 i true w (fieldAddr P T.b (.pointer (some q)) 1) fun ab w=>
   Q0 i true w (Q2 P T.c ab) fun R w=>
   Q0 i true w (Q3 P .eql T.c (.tmp 185) (.const (.string ⟨#[79,98,106,101,99,116]⟩)) R (.string ⟨#[79,98,106,101,99,116]⟩)) fun ah w=>
   Q0 g false w (pick P i ah (.bool false)) fun X w=>
   Q0 v true w (pick P g (.bool true) X) fun am w=>
   pick P v am (.bool false) w fun a w=>
   Q0 a true w (fieldAddr P T.b (.pointer (some q)) 4) fun ak w=>
   Q0 a true w (Q2 P T.u ak) fun Z w=>
   Q0 a true w (fun w J=>J Z w) fun m w=>
   Q0 m true w (fieldAddr P T.b (.pointer (some q)) 5) fun ae w=>
   Q0 m true w (Q2 P T.u ae) fun aj w=>
   Q0 a true w (pick P m aj (.bool false)) fun ad w=>
   Q0 a true w (J8 P .not ad) fun al w=>
   pick P a al (.bool false) w fun ac w=>
   K ac w) bi.sat ((hq.up an).up bi) ((g3.up an).up bi) fun w4 σ4 ch=>
  X22 (K:=K) ch.sat (((hq.up an).up bi).up ch) (by rw[e];exact h _ _ (b7.trans (an.trans (bi.trans ch))))
 (repeat refine Hd.h ?_)
 refine ld bp hq rfl ?_
 refine Yd c.name cw ?_
 cases d1:M6 c.name with
 | false=>(repeat refine Hd.h ?_);exact ci false (by rw[d1];rfl)
 | true=>
  (repeat refine Hd.h ?_)
  refine ld bp hq rfl ?_
  (repeat refine Hd.h ?_)
  refine Yd c.super c7 ?_
  cases d2:M6 c.super with
  | false=>(repeat refine Hd.h ?_);exact ci false (by rw[d1,d2];rfl)
  | true=>
   (repeat refine Hd.h ?_)
   refine ld bp hq rfl ?_
   (repeat refine Hd.h ?_)
   refine ld bp hq rfl ?_
   (repeat refine Hd.h ?_)
   refine Zy ?_
   (repeat refine Hd.h ?_)
   exact ci _ (by rw[d1,d2];rfl))
theorem Q3G {c:Cla} {cs:List Value} (m:X3 w σ) (d:V0 σ c cs) (h: ∀w' p,Stp w σ w' p→K (I (D2 c)) w'):Q1 P F.bn [.agg cs.toArray] w K:=Pa (by
 unfold Nq
 have i:=Rep.one (R:=V0) d
 obtain ⟨o,n,mv,rfl,r,l,s,k,t⟩:=d
 have d:V0 σ c _:=⟨o,n,mv,rfl,r,l,s,k,t⟩
 refine Z1 m fun q w1 σ1 a f=>?_
 unfold D2 at h
 refine Y4 a.sat f rfl ?_
 refine X04 a.sat (RCl_lift d ⟨a.le⟩) fun y u b=>?_
 cases j:Zp c with
 | true=>simp only[j,if_true] at h;(try simp only[↓M1,M1,Mb,reduceIte]);exact h _ _ (a.trans b)
 | false=>
  simp only[j,Bool.false_eq_true,if_false] at h
  (try simp only[↓M1,M1,Mb,reduceIte])
  refine Y4 b.sat (f.up b) rfl ?_
  refine Q98 b.sat (RCl_lift d ⟨(a.trans b).le⟩) fun z v e=>?_
  rw[X0g]
  cases g:Nw c with
  | true=>simp only[g,if_true] at h;(try simp only[↓M1,M1,Mb,reduceIte]);exact h _ _ (a.trans (b.trans e))
  | false=>simp only[g,Bool.false_eq_true,if_false] at h;(try simp only[↓M1,M1,Mb,reduceIte]);exact h _ _ (a.trans (b.trans e)))
end Go.Proofs.YtjdiakhipmggjaaGreatDoor
