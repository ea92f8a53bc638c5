/- Parts of a proof about the given program: its functions as texts of their own, what each computes, plain laws of that. The conditions of each stand in its statement. -/
import Derived.Test.YtjdiakhipmggjaaGreatDoorB4
import Derived.Laws.OwnMore
import Derived.Laws.CopyRow
import Derived.Test.YtjdiakhipmggjaaGreatDoorB3
import Derived.Lib.TrimUEq
set_option linter.unnecessarySimpa false
set_option linter.defProp false
set_option linter.unusedSectionVars false
set_option linter.unusedVariables false
set_option linter.unusedSimpArgs false
namespace Go.Proofs.YtjdiakhipmggjaaGreatDoor
open Go.Emb Go.RowKit Go.Kd Go.Hm
variable {w w' : World} {K : Value → World → Prop} {σ σ' : Q6} {hp tv : Value} {room : Int} {cs : List Cel} {l : List Cla}
theorem Q9A (j:X3 w σ) (m:Glb σ) (hh:S6 σ hp tv room cs) (r:Tab σ tv l) (ok:Ok l) {v:Val} {k:X0} (t:v.s.length≤U1) (o:k.length≤U1) (h: ∀w' σ',Stp w σ w' σ'→K (.bool (F5 W3 l cs v k)) w'):Q1 P F.aC [hp, .agg [I v.sort,I v.n,S v.s,I v.ref].toArray,S k] w K:=Q0B (by
 unfold Ef
 refine Z0 j fun q w1 σ1 c p=>?_
 refine Y2 c.sat p rfl ?_
 refine X4f c.sat (m.lift ⟨c.le⟩) (hh.lift ⟨c.le⟩) t fun y C f=>?_
 have b:=c.trans f
 refine Zz ?_
 unfold F5 at h
 have d:=X1T hh v
 generalize P6 W3 cs v=i at*
 by_cases e:i=[]
 ·rw[decide_eq_true e] at h⊢
  (try simp only[↓M1,M1,Mb,reduceIte])
  exact h _ _ b
 ·rw[decide_eq_false e] at h⊢
  obtain ⟨a,A,rfl,u,B⟩:=hh
  (try simp only[↓M1,M1,Mb,reduceIte])
  refine ld b.sat (u.lift ⟨b.le⟩) rfl ?_
  refine X3X b.sat (r.lift ⟨b.le⟩) ok d o fun z D g=>?_
  (try simp only[↓M1,M1,Mb,reduceIte])
  exact h _ _ (b.trans g))
theorem Q9Q (v:X3 w σ) (hh:S6 σ hp tv room cs) (A:Tab σ tv l) (ok:Ok l) {k:X0} {o:Value} {i:Nat} (y:k.length≤U1) (M:o.cells= #[o]∧o.oneCell'=true) (n:elem k=[]→i<(Y6 l k).length)
 (h: ∀w' σ',Stp w σ w' σ'→K (S (Xk l k i)) w'):Q1 P F.aD [hp, .agg [S k,o].toArray,I i] w K:=Q0u (by
 unfold Et
 refine Z0 v fun q w1 σ1 b s=>?_
 (try simp only[↓M1,M1,Mb,reduceIte])
 refine X7 b.sat s rfl ?_
 refine Q6g k (Nat.le_trans y (by decide)) fun H r=>?_
 have c:=Stp.of_below b.sat r
 have d:=b.trans c
 refine Zz ?_
 unfold Xk at h
 by_cases e:elem k=[]
 ·simp only[if_pos e] at h
  rw[decide_eq_true e]
  (try simp only[↓M1,M1,Mb,reduceIte])
  obtain ⟨a,N,rfl,D,O⟩:=hh
  have p:=c.sat
  have B:=s.up c
  have t:=D.lift ⟨d.le⟩
  refine J9 p ?_
  (repeat refine J3 Qe ?_)
  (intros;(repeat (rename_i z;subst z));(try simp only[↓M2,M2,Mb,reduceIte]))
  rename_i J g
  have j:=d.trans g.stp
  refine Ps g.sat (A.lift ⟨j.le⟩) ok.acy ok.len ok.sm fun Q E L m f=>?_
  refine Y1 f (n e) ?_
  obtain ⟨u,_⟩:=f.elF (n e)
  (try simp only[↓M1,M1,Mb,reduceIte])
  refine ld m.sat u rfl ?_
  have C:(Y6 l k).getD i Fld.zero=(Y6 l k)[i]'(n e):=by rw[List.getD_eq_getElem?_getD,List.getElem?_eq_getElem (n e)];rfl
  rw[C] at h
  exact h _ _ (j.trans m)
 ·simp only[if_neg e] at h
  rw[decide_eq_false e]
  (try simp only[↓M1,M1,Mb,reduceIte])
  exact h _ _ d)
set_option maxHeartbeats 1000000 in
theorem Q4o {w1:World} {q:Addr} {c:Cel} {vv:Value} (hk1:Stp w σ w1 σ') (hg:Glb σ) (hh:S6 σ hp tv room cs) (ht:Tab σ tv l) (ok:Ok l) (hq:Z4 σ' q [S c.kind,vv]) (hv1:Sl 4 N0 σ' vv c.vals) (hkl:c.kind.length≤U1) (hfk: ∀i,(Xk l c.kind i).length≤U1) (good:GoodC W3 l cs c) (h: ∀w' σ',Stp w σ w' σ'→K (.bool true) w'):
 lp (α:=Value) (.int .i64 0) w1 fun again6 x6 d_ w=>
  Q3 P .lss T.d (.tmp 38) (.tmp 37) x6 (I c.vals.length) w fun t39 w=>
  X1 t39 (
   indexAddr P T.m vv x6 w fun t41 w=>
   Q2 P T.g t41 w fun t42 w=>
   W0 P T.g w fun v_v_6 w=>
   Y0 P T.g v_v_6 t42 w fun _u w=>
   dr w fun Tr Br=>
   Q4 Tr (fun φ44=> ∀w,Br w→Q2 P T.g v_v_6 w (dk Tr φ44 w)) fun φ44=>
   Q4 Tr (fun φ46=> ∀w,Br w→Q2 P T.n (.pointer (some q)) w (dk Tr φ46 w)) fun φ46=>
   Q4 Tr (fun φ48=> ∀t46 w,Br w→φ46 t46 w→Q1 P F.aD [hp,t46,x6] w (dk Tr φ48 w)) fun φ48=>
   ∀t44 t46 t48 w,Br w→φ44 t44 w→φ46 t46 w→φ48 t48 w→
   Q1 P F.aC [hp,t44,t48] w fun t49 w=>
   J8 P .not t49 w fun t50 w=>
   X1 t50 (
    K (.bool false) w) (
    Q3 P .add T.d (.tmp 38) (.const (.int .i64 1)) x6 (.int .i64 1) w fun t51 w=>
    again6 t51 w)) (
   dr w fun Tr Br=>
   Q4 Tr (fun φ53=> ∀w,Br w→nilCheck P hp w (dk Tr φ53 w)) fun φ53=>
   Q4 Tr (fun φ54=> ∀t53 w,Br w→φ53 t53 w→fieldAddr P T.p t53 0 w (dk Tr φ54 w)) fun φ54=>
   Q4 Tr (fun φ56=> ∀w,Br w→fieldAddr P T.n (.pointer (some q)) 0 w (dk Tr φ56 w)) fun φ56=>
   Q4 Tr (fun φ55=> ∀t54 w,Br w→φ54 t54 w→Q2 P T.r t54 w (dk Tr φ55 w)) fun φ55=>
   Q4 Tr (fun φ57=> ∀t56 w,Br w→φ56 t56 w→Q2 P T.c t56 w (dk Tr φ57 w)) fun φ57=>
   ∀t53 t54 t56 t55 t57 w,Br w→φ53 t53 w→φ54 t54 w→φ56 t56 w→φ55 t55 w→φ57 t57 w→
   Q1 P F.s [t55,t57] w fun t58 w=>
   K t58 w):=by
 have hone:vv.cells= #[vv]∧vv.oneCell'=true:=by obtain ⟨a,c,rfl,_⟩:=hv1;exact ⟨rfl,rfl⟩
 refine U2 c.vals.length (fun n w'=> ∃σ2,Stp w σ w' σ2∧SLe σ' σ2) ⟨σ',hk1,SLe.refl _⟩ fun n w2 d hn hinv=>?_
 obtain ⟨σ2,hS2,le2⟩:=hinv
 have hv2:=hv1.lift le2
 have hq2:=hq.lift le2
 have hh2:=hh.lift ⟨hS2.le⟩
 have ht2:=ht.lift ⟨hS2.le⟩
 refine Z1 ?_
 refine Q7 (fun hc=>?_) (fun hc=>?_)
 ·have hn':n<c.vals.length:=by simpa using hc
  obtain ⟨p1,r1⟩:=Sl.elV hv2 hn'
  refine Y1 hv2 hn' ?_
  refine Y2 hS2.sat p1 rfl ?_
  refine Y7 hS2.sat (by rfl) rfl (Rep.one r1) fun q3 w3 σ3 hk3 hq3=>?_
  have hS3:=hS2.trans hk3
  have hs3:=hk3.sat
  have hq23:=hq2.up hk3
  have hh3:=hh2.lift ⟨hk3.le⟩
  have ht3:=ht2.lift ⟨hk3.le⟩
  have hif:elem c.kind=[]→n<(Y6 l c.kind).length:=fun e=>by
   rcases good.is with h | h
   ·exact absurd e h
   ·rw[←h.2];exact hn'
  refine J9 hs3 ?_
  (repeat (apply J3;(· intros;(repeat (rename_i hx;subst hx));(repeat' (first | (with_reducible exact M5 rfl) | (with_reducible exact R8 (Stp.bel (by (repeat (first | exact Stp.refl (by (first | assumption | exact Stp.sat (by assumption) | exact Hst.sat (by assumption))) | assumption | refine Stp.trans ?_ (by first | assumption | exact Hst.stp (by assumption)))))) rfl) | (with_reducible intro _) | (simp only[↓M2,M2,Mb,reduceIte]) | (with_reducible show Q2 _ _ _ _ _;first | refine X7 aS aL aR ?_ | refine Y2 aS aL aR ?_ | refine ld aS aL aR ?_) | (with_reducible show indexAddr _ _ _ _ _ _;refine Y1 aL au ?_) | (with_reducible show X2 _ _ _ _ _ _ _ _;refine Q8 aL ?_) | (with_reducible show F2 _ _ _ _ _ _;refine Z9 aR ?_) | (with_reducible show pick _ _ _ _ _ _;refine L8 ?_) | (with_reducible show Q1 _ _ _ _ _;first | refine Q9Q au au au au au au au ?_) | (apply F4;intro hh;(try simp only[hh,reduceIte,↓M2,M2,Mb,reduceIte]))));done)))
  (intros;(repeat (rename_i hx;subst hx));(try simp only[↓M2,M2,Mb,reduceIte]))
  rename_i w4 hb4
  have hS4:=hS3.trans hb4.stp
  refine Q9A hb4.sat (hg.lift ⟨hS4.le⟩) (hh.lift ⟨hS4.le⟩) (ht.lift ⟨hS4.le⟩) ok r1.2.2.2.1 (hfk n) fun w5 σ5 hk5=>?_
  rw[good.fits n hn']
  (try simp only[↓M1,M1,Mb,reduceIte])
  exact Y5 hv1.max hn' ⟨σ5,hS4.trans hk5,le2.more ⟨(hk3.trans (hb4.stp.trans hk5)).le⟩⟩
 ·obtain ⟨a,lv,rfl,la,ls⟩:=hh2
  have hs2:=hS2.sat
  refine J9 hs2 ?_
  (repeat refine J3 Qe ?_)
  (intros;(repeat (rename_i hx;subst hx));(try simp only[↓M2,M2,Mb,reduceIte]))
  rename_i w3 hb3
  refine Q1d hb3.sat ht2 hkl fun w4 σ4 hk4=>?_
  rw[good.kd]
  exact h _ _ ((hS2.trans hb3.stp).trans hk4)
set_option maxHeartbeats 1000000 in
theorem X12 (hs:X3 w σ) (hg:Glb σ) (hh:S6 σ hp tv room cs) (ht:Tab σ tv l) (ok:Ok l) {c:Cel} {ds:List Value} (hc:H4 σ c ds) (hfk: ∀i,(Xk l c.kind i).length≤U1) (good:GoodC W3 l cs c) (h: ∀w' σ',Stp w σ w' σ'→K (.bool true) w'):Q1 P F.bD [hp, .agg ds.toArray] w K:=Tq (by
 obtain ⟨vv,rfl,hvv,hkl⟩:=hc
 have hone:vv.cells= #[vv]∧vv.oneCell'=true:=by obtain ⟨a,c,rfl,_⟩:=hvv;exact ⟨rfl,rfl⟩
 have hh0:=hh
 obtain ⟨a,lv,rfl,la,ls⟩:=hh
 unfold Og
 refine Z0 hs fun q w1 σ1 hk1 hq=>?_
 have hs1:=hk1.sat
 have la1:=la.lift ⟨hk1.le⟩
 have ht1:=ht.lift ⟨hk1.le⟩
 have hv1:=hvv.up hk1
 have hkl':c.kind.length≤140737488355328:=Nat.le_trans hkl (by decide)
 have acy:=ok.acy
 have olen:=ok.len
 have osm:=ok.sm
 refine J9 hs1 ?_
 (repeat (apply J3;(· intros;(repeat (rename_i hx;subst hx));(repeat' (first | (with_reducible exact M5 rfl) | (with_reducible exact R8 (Stp.bel (by (repeat (first | exact Stp.refl (by (first | assumption | exact Stp.sat (by assumption) | exact Hst.sat (by assumption))) | assumption | refine Stp.trans ?_ (by first | assumption | exact Hst.stp (by assumption)))))) rfl) | (with_reducible intro _) | (simp only[↓M2,M2,Mb,reduceIte]) | (with_reducible show Q2 _ _ _ _ _;first | refine X7 aS aL aR ?_ | refine Y2 aS aL aR ?_ | refine ld aS aL aR ?_) | (with_reducible show indexAddr _ _ _ _ _ _;refine Y1 aL au ?_) | (with_reducible show X2 _ _ _ _ _ _ _ _;refine Q8 aL ?_) | (with_reducible show F2 _ _ _ _ _ _;refine Z9 aR ?_) | (with_reducible show pick _ _ _ _ _ _;refine L8 ?_) | (with_reducible show Q1 _ _ _ _ _;first | refine Q6g _ au (L1 aS ?_)) | (apply F4;intro hh;(try simp only[hh,reduceIte,↓M2,M2,Mb,reduceIte]))));done)))
 by_cases e:elem c.kind=[]
 ·have hd:decide (elem c.kind=[])=true:=decide_eq_true e
  obtain ⟨hobj,hlen⟩:Qb l c.kind=true∧c.vals.length=(Y6 l c.kind).length:=by
   rcases good.is with h | h
   ·exact absurd e h
   ·exact h
  simp only[hd,reduceIte]
  (repeat (apply J3;(· intros;(repeat (rename_i hx;subst hx));(repeat' (first | (with_reducible exact M5 rfl) | (with_reducible exact R8 (Stp.bel (by (repeat (first | exact Stp.refl (by (first | assumption | exact Stp.sat (by assumption) | exact Hst.sat (by assumption))) | assumption | refine Stp.trans ?_ (by first | assumption | exact Hst.stp (by assumption)))))) rfl) | (with_reducible intro _) | (simp only[↓M2,M2,Mb,reduceIte]) | (with_reducible show Q2 _ _ _ _ _;first | refine X7 aS aL aR ?_ | refine Y2 aS aL aR ?_ | refine ld aS aL aR ?_) | (with_reducible show indexAddr _ _ _ _ _ _;refine Y1 aL au ?_) | (with_reducible show X2 _ _ _ _ _ _ _ _;refine Q8 aL ?_) | (with_reducible show F2 _ _ _ _ _ _;refine Z9 aR ?_) | (with_reducible show pick _ _ _ _ _ _;refine L8 ?_) | (with_reducible show Q1 _ _ _ _ _;first | refine Q4D au au ?_) | (apply F4;intro hh;(try simp only[hh,reduceIte,↓M2,M2,Mb,reduceIte]))));done)))
  simp only[hobj,Bool.not_true,reduceIte]
  (repeat refine J3 Qe ?_)
  refine Wi (w:=w1) (σ:=σ1) (Φ:=fun σ' v=>Sl 3 S2 σ' v (Y6 l c.kind)) (fun t20 t27 t29 w hb e1 e2 e3=>?_) ?_
  ·subst e1;subst e2;subst e3
   simp only[↓M2,M2,Mb,reduceIte]
   exact Ps hb.sat ht1 acy olen osm fun v' w' σ' hk hv'=>Cc hb hk hv'
  refine J3 (V:=I (Y6 l c.kind).length) (fun t20 t30 w hb e1 e2=>?_) ?_
  ·subst e1
   obtain ⟨σ',hk,hv'⟩:=e2
   simp only[↓M2,M2,Mb,reduceIte]
   exact Q8 hv' (M5 rfl)
  rintro t7 t8 t9 t10 t12 t13 t14 t16 t15 t17 t18 t19 t20 t21 t24 t25 t26 t28 t22 t23 t27 t29 t30 t31 w2 hb2 rfl rfl rfl rfl rfl rfl rfl rfl rfl rfl rfl rfl rfl rfl rfl rfl rfl rfl rfl rfl rfl rfl _ rfl
  rw[hlen]
  simp only[D0,E4,S4,W5,W7]
  refine Zb ?_
  rw[decide_eq_true (show ((Y6 l c.kind).length:Int)=(Y6 l c.kind).length from rfl)]
  simp only[Bool.not_true,W9,M8,M7]
  refine V7 ?_
  refine ld hb2.sat hq rfl ?_
  refine Q8 hv1 ?_
  exact Q4o (hk1.trans hb2.stp) hg hh0 ht ok hq hv1 hkl hfk good h
 ·have hd:decide (elem c.kind=[])=false:=decide_eq_false e
  simp only[hd,Bool.false_eq_true,reduceIte]
  (repeat refine J3 Qe ?_)
  (intros;(repeat (rename_i hx;subst hx)))
  rename_i w2 hb2
  simp only[D0,E4,S4,W5,W7,W9,M8,M7]
  refine V7 ?_
  refine ld hb2.sat hq rfl ?_
  refine Q8 hv1 ?_
  exact Q4o (hk1.trans hb2.stp) hg hh0 ht ok hq hv1 hkl hfk good h)
end Go.Proofs.YtjdiakhipmggjaaGreatDoor

namespace Go.Emb
open Go.RowKit Go.Hm
variable {P : Program} {w w0 w1 w' w'' : World} {K : Value → World → Prop} {σ σ0 σ1 σ' : Q6}
theorem Q4V (a:Array Value) (n i:Nat) (c:i<n) (g:0<a.size):((madeCells a (n*a.size)).toList.drop (i*a.size)).take a.size=a.toList:=by
 have d:i*a.size+a.size≤n*a.size:=by rw[←Nat.succ_mul];exact Nat.mul_le_mul_right _ c
 refine List.ext_getElem (by simp[madeCells];omega) fun j f e=>?_
 have b:j<a.size:=by simpa using e
 simp only[List.getElem_take,List.getElem_drop,madeCells,Array.toList_map,List.getElem_map,Array.toList_range,List.getElem_range,Array.getElem_toList]
 have:(i*a.size+j) % a.size=j:=by rw[Nat.add_comm,Nat.add_mul_mod_self_right];exact Nat.mod_eq_of_lt b
 rw[this]
 simp[b]
theorem Q8W {α:Type} {R:Q6→α→List Value→Prop} {t e:TypeId} {sz a n:Nat} {z:Value} [ts:TS P t e] [tz:TZ P e sz a z] (x0:α) (s:X3 w σ) (y:z.cells.size=sz) (d:0<sz) (u:R σ x0 z.cells.toList) (C:n*sz≤16777216) (D:a*n≤281474976710656)
 (h: ∀v w',Stp w σ w' σ→V6 w.heap.size e sz R σ w' v (List.replicate n x0)→(∀k,v.ownBlock=some k→w.heap.size≤k)→K v w'):Li P t (I n) (I n) w K:=by
 obtain ⟨i,B,c,q,b⟩:=tz.info
 have p:(i.bytes:Int)*(n:Int)≤281474976710656:=by
  rw[q]
  have:((a*n:Nat):Int)≤281474976710656:=by omega
  rwa [Int.natCast_mul] at this
 have A:n≤16777216:=by
  have:n*1≤n*sz:=Nat.mul_le_mul_left _ d
  omega
 have o:=run_makeSlice (P:=P) w t e i z ts.h B b .i64 .i64 (n:Int) (n:Int) (by omega) (Int.le_refl _) (by rw[c];simp only[Int.toNat_natCast];omega) p (by omega)
 unfold Li
 rw[X9 o]
 simp only[Int.toNat_natCast,c]
 refine h _ _ (Stp.own s _) ⟨(madeCells z.cells (n*sz)).toList,⟨by simp[madeCells], .inr ⟨w.heap.size,n,madeCells z.cells (n*sz),?_,Nat.le_refl _,heap_alloc_new w _,?_,?_,?_,?_⟩⟩,?_,fun j x f=>?_⟩ ?_
 ·simp
 ·simp
 ·simp[maxLen];omega
 ·simp[madeCells]
 ·rw[List.take_of_length_le (by simp[madeCells])]
 ·intro k m;cases m;exact s.none (Nat.le_refl _)
 ·have r:j<n:=by have:=(List.getElem?_eq_some_iff.1 f).1;simpa using this
  have g:x=x0:=by
   rw[List.getElem?_replicate] at f
   rw[if_pos r] at f
   exact (Option.some.inj f).symm
  subst g
  subst y
  rw[Q4V z.cells n j r d]
  exact u
 ·intro k m;cases m;exact Nat.le_refl _
theorem Q4X (w:World) (p A s elem:TypeId) (sz g o n d:Nat) (a:Addr) (c:Nat) (b:Array Value) (t:TypeId) (cs:List Value)
 (r:P.underlying p=some (.slice elem)) (m:(P.info? elem).map (·.size)=some sz)
 (z:w.heap[g]? =some (.cells b t (0,0))) (q:cs.length=n*sz)
 (f: ∀j v,cs[j]? =some v→w.cell? (a.add j)=some v) (e:o+cs.length≤b.size) (y: ∀v∈cs,v.oneCell'=true):
 (Builtin.copy_ #[p,A] s #[.slice (some ⟨g,o,none⟩) n d, .slice (some a) n c]).run P w=
  .ok (goInt n) (w.setRow g (b.toList.take o++cs++b.toList.drop (o+cs.length)).toArray):=by
 have u:=run_loadCells_list (P:=P) w a cs f
 have k:=run_storeCells_at P g o t cs 0 b w z (by simpa using e) y
 cases h:P.info? elem with
 | none=>simp[h] at m
 | some i=>
  have B:i.size=sz:=by simpa [h] using m
  simp[Builtin.copy_,run_underlying r,Builtin.lenOf,Builtin.firstCells,sizeOf,typeInfo,h,B,←q,u,k]
theorem Q4W (w:World) (f j m elem:TypeId) (sz:Nat) (d a:Option Addr) (c b:Nat) (k:P.underlying f=some (.slice elem)) (h:(P.info? elem).map (·.size)=some sz):
 (Builtin.copy_ #[f,j] m #[.slice d 0 c, .slice a 0 b]).run P w= .ok (goInt 0) w:=by
 cases e:P.info? elem with
 | none=>simp[e] at h
 | some i=>
  have g: ∀(x:Addr),(loadCells x 0).run P w= .ok #[] w:=fun x=>by simpa using run_loadCells_list (P:=P) w x [] (by simp)
  cases d<;>cases a<;>simp[Builtin.copy_,run_underlying k,Builtin.lenOf,Builtin.firstCells,sizeOf,typeInfo,e,storeCells,g]
end Go.Emb
namespace Go.Proofs.YtjdiakhipmggjaaGreatDoor
open Go.Emb Go.RowKit Go.Kd Go.Hm
variable {w w' : World} {K : Value → World → Prop} {σ σ' : Q6} {hp tv : Value} {room : Int} {cs : List Cel} {l : List Cla}
theorem Q2F (ok:Ok l) {k:X0} (d:k.length≤U1) (i:Nat):(Xk l k i).length≤U1:=by
 unfold Xk
 split
 ·cases h:(Y6 l k)[i]? with
  | none=>rw[List.getD_eq_getElem?_getD,h];exact Nat.zero_le _
  | some f=>
   rw[List.getD_eq_getElem?_getD,h]
   have a:=List.mem_of_getElem? h
   unfold Y6 at a
   obtain ⟨c,b,a⟩:=List.mem_flatMap.1 a
   have:=((ok.nm c (Bc (by simpa using b))).2.1 f a).2
   exact Nat.le_trans this (by decide)
 ·unfold elem
  split
  ·unfold Kd.cutA;rw[List.length_take];omega
  ·exact Nat.zero_le _
theorem X2s (v:X3 w σ) (y:Glb σ) (hh:S6 σ hp tv room cs) (z:Tab σ tv l) (ok:Ok l) (f: ∀c∈cs,GoodC W3 l cs c) (h: ∀w' σ',Stp w σ w' σ'→K (.bool true) w'):Q1 P F.bz [hp] w K:=Av (by
 unfold Ox
 have m:=hh
 obtain ⟨a,M,rfl,B,C⟩:=hh
 refine U5 v rfl fun q w1 σ1 b s=>?_
 refine X7 b.sat s rfl ?_
 rw[L9,fa]
 refine ld b.sat (B.lift ⟨b.le⟩) rfl ?_
 rw[Qh]
 refine Cm (fun _=>false) b.sat (C.up b) (fun c ds t K u k r g A=>Z7 (first:=[]) (caps:=[.pointer (some q)]) (Gc ?_)) fun t n=>?_
 ·unfold Lc
  refine Z0 k fun E J D d j=>?_
  refine X7 d.sat (s.up d) rfl ?_
  refine Y2 d.sat j g ?_
  have e:SLe σ D:=SLe.more ⟨b.le⟩ ⟨d.le⟩
  refine X12 d.sat (y.lift e) (m.lift e) (z.lift e) ok (Q98 r ⟨d.le⟩) (fun i=>Q2F ok (by obtain ⟨_,_,_,h⟩:=r;exact h) i) (f c u) fun H L o=>?_
  refine Wn ?_
  exact A _ (d.trans o).bel
 ·have p:=b.trans (Stp.of_below b.sat n)
  have:cs.any (fun _=>false)=false:=by simp
  rw[this]
  refine Wn ?_
  exact h _ _ p)
theorem Q9u {B:Nat} {D:Nat→Prop} {m v:Value} {vals:List Val} {k:X0} {ty:TypeId} {cb:List Bool} {A:Value→Value→World→Prop} (hs:X3 w σ) (hB:B≤w.heap.size) (h:RowsIs B D σ w m cs) (N:J7 B T.g 4 N0 σ w v vals) (hd: ∀j,v.ownBlock=some j→ ¬D j) (hk:k.length≤U1) (hl:cs.length≤10000000)
 (hh: ∀s d w' σ' D',Nxt (fun j=>m.ownBlock=some j) w σ w' σ'→(∀j,m.ownBlock=some j→D j)→RowsIs B D' σ' w' d (cs++[⟨k,vals⟩])→(∀j,D' j→D j∨v.ownBlock=some j∨w.heap.size≤j)→(∀j,D j→m.ownBlock≠some j→D' j)→A s d w'):
 buildSlice P T.f 1 [(0, .agg #[S k,v])] w (fun s w=>X2 P .append [T.f,T.f] ty cb [m,s] w (fun v' w=>A s v' w)):=by
 obtain ⟨vs,hq,n,ha,hD⟩:=h.ex
 obtain ⟨a,Q,y,_⟩:=(id N:J7 B T.g 4 N0 σ w v vals)
 have ai:v.cells= #[v]:=by rw[y];rfl
 refine T4 (R:=Q3S) (sz:=2) hs [.agg #[S k,v]] [(k,v)] rfl rfl (by simp[Value.cells]) rfl ⟨(⟨rfl,hk,a,_,Q,y⟩:Q3S σ (k,v) [S k,v]),trivial⟩ fun s w1 σ1 c V=>?_
 refine Q8D c.sat (Nat.le_trans hB c.bel.size) (hq.up c) V rfl (by rw[Wq n.1];simp;omega) (by rw[Wq n.1];simp;omega) fun d H Y L W M=>?_
 have g: ∀j,m.ownBlock=some j→D j:=fun j b=>(hD j).2 ⟨m,by simp,b⟩
 have O:Nxt (fun j=>m.ownBlock=some j) w σ H σ1:=
  ⟨(Kpt.of_below c.bel).trans (Y.mono fun j _ b=>b.1),⟨c.le⟩,c.old,L⟩
 have z: ∀j,v.ownBlock=some j→m.ownBlock≠some j:=fun j b e=>hd j b (g j e)
 have f: ∀j,d.ownBlock=some j→m.ownBlock=some j∨w1.heap.size≤j:=fun j b=>by
  rcases M with ⟨a',ac,e1,e2⟩ | ⟨_,hn⟩
  ·left;rw[e1];rw[e2] at b;cases a'<;>exact b
  ·exact .inr (hn j b)
 obtain ⟨C,Z⟩:=List.pairwise_cons.1 ha
 have E: ∀i (p:i<vs.length) (r:i<cs.length),J7 B T.g 4 N0 σ1 H vs[i] cs[i].vals:=fun i p r=>(n.2 i p r).nx O fun j b e=>C _ (List.getElem_mem p) j e b
 have J:J7 B T.g 4 N0 σ1 H v vals:=N.nx O fun j b e=>z j b e
 have U: ∀u∈vs,∀j,u.ownBlock=some j→j<w.heap.size:=fun u hu j b=>by
  obtain ⟨i,p,rfl⟩:=List.getElem_of_mem hu
  exact ((n.2 i p (by rw[←n.1];exact p)).mem b).2.1
 refine hh s d H σ1 (fun j=> ∃u∈d::(vs++[v]),u.ownBlock=some j) O g ⟨vs++[v],?_,⟨by simp[n.1],fun i p r=>?_⟩,?_,fun j=>Iff.rfl⟩ ?_ ?_
 ·have e:T7 (vs++[v]) (cs++[⟨k,vals⟩])=T7 vs cs++[(k,v)]:=by
   unfold T7
   rw[List.zipWith_append n.1];rfl
  rw[e];exact W
 ·by_cases o:i<vs.length
  ·have q:i<cs.length:=by rw[←n.1];exact o
   rw[List.getElem_append_left o,List.getElem_append_left q]
   exact E i o q
  ·have q: ¬i<cs.length:=by rw[←n.1];exact o
   have e1:i=vs.length:=by simp at p;omega
   rw[List.getElem_append_right (by omega),List.getElem_append_right (by omega)]
   simp only[List.getElem_singleton]
   exact J
 ·refine List.pairwise_cons.2 ⟨fun u hu j b e=>?_,List.pairwise_append.2 ⟨Z,List.pairwise_singleton _ _,fun u hu u2 t j b e=>?_⟩⟩
  ·rcases List.mem_append.1 hu with hu | hu
   ·rcases f j b with h1 | h1
    ·exact C u hu j h1 e
    ·have:=U u hu j e;have:=c.bel.size;omega
   ·simp at hu;subst hu
    rcases f j b with h1 | h1
    ·exact z j e h1
    ·have:=(N.mem e).2.1;have:=c.bel.size;omega
  ·simp at t;subst t
   exact hd j e ((hD j).2 ⟨u,by simp[hu],b⟩)
 ·rintro j ⟨u,hu,b⟩
  rcases List.mem_cons.1 hu with rfl | hu
  ·rcases f j b with h1 | h1
   ·exact .inl (g j h1)
   ·right;right;have:=c.bel.size;omega
  ·rcases List.mem_append.1 hu with hu | hu
   ·exact .inl ((hD j).2 ⟨u,by simp[hu],b⟩)
   ·simp at hu;subst hu;exact .inr (.inl b)
 ·intro j b X
  obtain ⟨u,hu,b⟩:=(hD j).1 b
  rcases List.mem_cons.1 hu with rfl | hu
  ·exact absurd b X
  ·exact ⟨u,by simp[hu],b⟩
end Go.Proofs.YtjdiakhipmggjaaGreatDoor

namespace Go.Proofs.YtjdiakhipmggjaaGreatDoor
open Go.Emb Go.RowKit Go.Kd Go.Hm
variable {w : World} {K : Value → World → Prop} {σ : Q6}
end Go.Proofs.YtjdiakhipmggjaaGreatDoor

namespace Go.Proofs.YtjdiakhipmggjaaGreatDoor
open Go.Emb Go.RowKit Go.Kd Go.Hm
variable {w : World} {K : Value → World → Prop} {σ : Q6} {l : List Cla} {v : Value}
theorem K0 {n:X0} (r:X3 w σ) (o:Sl 8 V0 σ v l) (h:K (I (L6 (Z2 l n))) w):Q1 P F.b [v,S n] w K:=Ac (by
 unfold De
 refine U2 l.length (fun k w'=>w'=w∧ ∀j (g:j<l.length),j<k→ ¬l[j].name=n) ⟨rfl,fun j _ h=>by omega⟩ fun k w1 d A t=>?_
 obtain ⟨rfl,b⟩:=t
 refine Q8 o ?_
 refine Z1 ?_
 refine Q7 (fun i=>?_) (fun i=>?_)
 ·have a:k<l.length:=by simpa using i
  refine N3 o a fun p cells m u q=>?_
  obtain ⟨B,C,mv,rfl,H,E,D,z,y⟩:=q
  rw[fa]
  refine ld r m rfl ?_
  refine P7 ?_
  refine Q7 (fun f=>?_) (fun f=>?_)
  ·have f:l[k].name=n:=by simpa using f
   have:Z2 l n=some k:=by
    unfold Z2
    rw[List.findIdx?_eq_some_iff_getElem]
    exact ⟨a,by simpa using f,fun j g=>by simpa using b j (by omega) g⟩
   rw[this] at h
   exact h
  ·have f: ¬l[k].name=n:=by simpa using f
   refine O5 ?_
   refine Y5 o.max a ⟨rfl,fun j g s=>?_⟩
   by_cases e:j=k
   ·subst e;exact f
   ·exact b j g (by omega)
 ·have a: ¬k<l.length:=by simpa using i
  have:Z2 l n=none:=by
   unfold Z2
   rw[List.findIdx?_eq_none_iff]
   intro c i
   obtain ⟨j,g,rfl⟩:=List.getElem_of_mem i
   simpa using b j g (by omega)
  rw[this] at h
  exact h)
end Go.Proofs.YtjdiakhipmggjaaGreatDoor

namespace Go.Proofs.YtjdiakhipmggjaaGreatDoor
open Go.Emb Go.RowKit Go.Kd Go.Hm
variable {w : World} {K : Value → World → Prop} {σ : Q6} {l : List Cla} {v : Value}
theorem Q5o {a:X0} (d:a.length≤U1) (h:K (S (base a).1) w):Q1 P F.aX [S a] w K:=Aa (by
 unfold Dm
 have c:=Q1J a
 have b:a.length≤140737488355328:=by simp only[U1] at d;omega
 rw[R9 X8]
 refine Ce a b ?_
 (try simp only[↓Mr,Mr,Mb,reduceIte])
 rw[G8 (n:=2*((base a).2:Int)) (by omega) (by omega),G8 (by omega) (by omega),T3 X8 (by omega) (by omega)]
 rw[show ((a.length:Int)-2*((base a).2:Int)).toNat=a.length-2*(base a).2 from by omega,Q4r]
 exact h)
theorem Dw {s:X0} (g:X3 w σ) (f:Sl 8 V0 σ v l) (c:s.length≤U1) (h:K (.bool (O3 l s)) w):Q1 P F.a1 [v,S s] w K:=Ap (by
 unfold Dj
 have b:s.length≤140737488355328:=by simp only[U1] at c;omega
 unfold O3 at h
 refine P7 ?_
 by_cases a:s=R0
 ·have:decide (s=[110,117,108,108])=true:=by rw[decide_eq_true_eq];exact a
  simp only[this,↓M1,M1,Mb,reduceIte]
  simp only[a,decide_true,Bool.true_or] at h
  exact h
 ·have:decide (s=[110,117,108,108])=false:=by rw[decide_eq_false_iff_not];exact a
  simp only[this,↓M1,M1,Mb,reduceIte]
  simp only[a,decide_false,Bool.false_or] at h
  refine Jw s b ?_
  cases d:right s with
  | false=>(try simp only[↓M1,M1,Mb,reduceIte]);simpa [d] using h
  | true=>
   (try simp only[↓M1,M1,Mb,reduceIte])
   refine Q5o c ?_
   (try simp only[↓M1,M1,Mb,reduceIte])
   refine Eh _ ?_
   simp only[d,Bool.true_and] at h
   cases e:plain (base s).1 with
   | true=>(try simp only[↓M1,M1,Mb,reduceIte]);simpa [e] using h
   | false=>
    (try simp only[↓M1,M1,Mb,reduceIte])
    refine Q5o c ?_
    (try simp only[↓M1,M1,Mb,reduceIte])
    refine K0 g f ?_
    refine P4 ?_
    rw[A5]
    (try simp only[↓M1,M1,Mb,reduceIte])
    simpa [e,Q11] using h)
end Go.Proofs.YtjdiakhipmggjaaGreatDoor

namespace Go.Proofs.YtjdiakhipmggjaaGreatDoor
open Go.Emb Go.RowKit Go.Kd Go.Hm
variable {w : World} {K : Value → World → Prop} {σ : Q6} {l : List Cla} {v : Value}
theorem Q9W {s:X0} (d:X3 w σ) (b:Sl 8 V0 σ v l) (c:s.length≤U1) (h:K (.bool (O8 l s)) w):Q1 P F.bs [v,S s] w K:=Im (by
 unfold Nx
 unfold O8 at h
 refine Zz ?_
 have e:decide (s=[110,117,108,108])=decide (s=R0):=rfl
 rw[e]
 cases a:decide (s=R0) with
 | true=>
  rw[a] at h
  (try simp only[↓M1,M1,Mb,reduceIte])
  exact h
 | false=>
  rw[a] at h
  (try simp only[↓M1,M1,Mb,reduceIte])
  refine Dw d b c ?_
  (try simp only[↓M1,M1,Mb,reduceIte])
  simpa using h)
end Go.Proofs.YtjdiakhipmggjaaGreatDoor

namespace Go.Proofs.YtjdiakhipmggjaaGreatDoor
open Go.Emb Go.RowKit Go.Kd Go.Hm
variable {w : World} {K : Value → World → Prop} {σ : Q6} {l : List Cla} {v : Value}
def Ca (c:Cla) (n:X0):Option Nat:=c.methods.findIdx? fun m=>decide (m.name=n)
theorem Q7g {c:Cla} {cs:List Value} {n:X0} (y:X3 w σ) (o:V0 σ c cs) (h: ∀w' C,Stp w σ w' C→K (I (L6 (Ca c n))) w'):Q1 P F.b2 [.agg cs.toArray,S n] w K:=Q1e (by
 unfold Hf
 obtain ⟨R,V,mv,rfl,Y,W,r,L,J⟩:=o
 refine Z0 y fun q w0 σ0 a t=>?_
 have r:=r.up a
 refine U2 c.methods.length (fun k w'=>w'=w0∧ ∀j (i:j<c.methods.length),j<k→ ¬c.methods[j].name=n) ⟨rfl,fun j _ h=>by omega⟩ fun k w1 d O B=>?_
 obtain ⟨rfl,f⟩:=B
 rw[fa]
 refine ld a.sat t rfl ?_
 refine Q8 r ?_
 refine Z1 ?_
 refine Q7 (fun o=>?_) (fun o=>?_)
 ·have b:k<c.methods.length:=by simpa using o
  rw[fa]
  refine ld a.sat t rfl ?_
  refine N3 r b fun p cells s D u=>?_
  obtain ⟨pv,X,M,rfl,Q,H,U,N,E⟩:=u
  rw[fa]
  refine ld a.sat s rfl ?_
  refine P7 ?_
  refine Q7 (fun g=>?_) (fun g=>?_)
  ·have g:c.methods[k].name=n:=by simpa using g
   have:Ca c n=some k:=by
    unfold Ca
    rw[List.findIdx?_eq_some_iff_getElem]
    exact ⟨b,by simpa using g,fun j i=>by simpa using f j (by omega) i⟩
   rw[this] at h
   exact h _ _ a
  ·have g: ¬c.methods[k].name=n:=by simpa using g
   refine O5 ?_
   refine Y5 r.max b ⟨rfl,fun j i z=>?_⟩
   by_cases e:j=k
   ·subst e;exact g
   ·exact f j i (by omega)
 ·have b: ¬k<c.methods.length:=by simpa using o
  have:Ca c n=none:=by
   unfold Ca
   rw[List.findIdx?_eq_none_iff]
   intro m A
   obtain ⟨j,i,rfl⟩:=List.getElem_of_mem A
   simpa using f j i (by omega)
  rw[this] at h
  exact h _ _ a)
end Go.Proofs.YtjdiakhipmggjaaGreatDoor

namespace Go.Proofs.YtjdiakhipmggjaaGreatDoor
open Go.Emb Go.RowKit Go.Kd Go.Hm
variable {w : World} {K : Value → World → Prop} {σ : Q6} {l : List Cla} {v : Value}
theorem Bi {n:X0} {d:Cla} (c:X3 w σ) (b:Sl 8 V0 σ v l) (f:lk l n=some d) (h: ∀i:Nat,l[i]? =some d→Z2 l n=some i→K (I i) w):Q1 P F.b [v,S n] w K:=by
 obtain ⟨_,_,i,a,e⟩:=V3 f
 refine K0 c b ?_
 rw[a];exact h i e a
theorem Q0V {n:X0} (d:X3 w σ) (b:Sl 8 V0 σ v l) (f:lk l n=none) (h:K (I (-1)) w):Q1 P F.b [v,S n] w K:=by
 refine K0 d b ?_
 cases e:Z2 l n with
 | none=>exact h
 | some i=>obtain ⟨c,a,_⟩:=Zr e;rw[f] at a;cases a
end Go.Proofs.YtjdiakhipmggjaaGreatDoor

namespace Go.Proofs.YtjdiakhipmggjaaGreatDoor
open Go.Emb Go.RowKit Go.Kd Go.Hm
variable {w : World} {K : Value → World → Prop} {σ : Q6} {l : List Cla} {v : Value}
theorem X0M:decide ((-1:Int)<0)=true:=by decide
theorem Q60 (i:Nat):decide ((i:Int)<0)=false:=by rw[decide_eq_false_iff_not];omega
theorem Q8M {c:Cla} {cs:List Value} (hs:X3 w σ) (Z:Sl 8 V0 σ v l) (B:V0 σ c cs) (h: ∀w' σ',Stp w σ w' σ'→K (I (D9 l c)) w'):Q1 P F.be [v, .agg cs.toArray] w K:=Fv (by
 unfold Ls
 obtain ⟨lv,fv,mv,rfl,z,f2,f3,f4,f5⟩:=B
 refine Z0 hs fun q w0 σ0 o O=>?_
 have z:=z.up o
 have b:=Z.up o
 have a:=o.sat
 have y: ∀n:Nat,D9 l c=n→K (I n) w0:=fun n e=>by rw[←e];exact h _ _ o
 clear h
 (try simp only[↓M1,M1,Mb,reduceIte])
 refine ld a O rfl ?_
 have m:Xa l c.super=true→K (I (61:Nat)) w0:=fun e=>y 61 (by unfold D9;rw[if_pos e])
 cases L:lk l c.super with
 | none=>
  refine Q0V a b L ?_
  simp only[X0M,↓M1,M1,Mb,reduceIte]
  exact m (by unfold Xa;rw[L])
 | some d=>
  refine Bi a b L fun i hi hf=>?_
  obtain ⟨t,R⟩:=List.getElem?_eq_some_iff.1 hi
  simp only[Q60,↓M1,M1,Mb,reduceIte]
  refine Y1 b t ?_
  obtain ⟨ai,Y,ab,Q,r1⟩:=b.elC t
  rw[R] at Q
  (try simp only[↓M1,M1,Mb,reduceIte])
  refine ld a Q rfl ?_
  have f:Xa l c.super=(d.iface||d.fin):=by unfold Xa;rw[L]
  cases A:d.iface with
  | true=>
   rw[A] at f
   (try simp only[↓M1,M1,Mb,reduceIte])
   exact m (by rw[f];rfl)
  | false=>
   rw[A] at f
   (try simp only[↓M1,M1,Mb,reduceIte])
   refine Y1 b t ?_
   (try simp only[↓M1,M1,Mb,reduceIte])
   refine ld a Q rfl ?_
   cases E:d.fin with
   | true=>
    rw[E] at f
    (try simp only[↓M1,M1,Mb,reduceIte])
    exact m (by rw[f];rfl)
   | false=>
    rw[E] at f
    have C:Xa l c.super=false:=f
    (try simp only[↓M1,M1,Mb,reduceIte])
    refine U2 c.like.length (fun k w'=>w'=w0∧(c.like.take k).any (R7 l)=false) ⟨rfl,rfl⟩ fun k w1 d1 hk M=>?_
    obtain ⟨X,s⟩:=M
    subst X
    (try simp only[↓M1,M1,Mb,reduceIte])
    refine ld a O rfl ?_
    refine Q8 z ?_
    refine Z1 ?_
    refine Q7 (fun B=>?_) (fun B=>?_)
    ·have g:k<c.like.length:=by simpa using B
     have r:R7 l c.like[k]=true→K (I (62:Nat)) w1:=fun e=>y 62 (by
      unfold D9;rw[C,S9 g e];rfl)
     have u:R7 l c.like[k]=false→(c.like.take (k+1)).any (R7 l)=false:=fun e=>by rw[L2 g,s,e];rfl
     (try simp only[↓M1,M1,Mb,reduceIte])
     refine ld a O rfl ?_
     refine Y1 z g ?_
     obtain ⟨W,_⟩:=z.elS g
     refine X7 a W rfl ?_
     cases J:lk l c.like[k] with
     | none=>
      refine Q0V a b J ?_
      simp only[X0M,↓M1,M1,Mb,reduceIte]
      exact r (by unfold R7;rw[J])
     | some e=>
      refine Bi a b J fun j hj af=>?_
      obtain ⟨D,N⟩:=List.getElem?_eq_some_iff.1 hj
      simp only[Q60,↓M1,M1,Mb,reduceIte]
      refine Y1 b D ?_
      obtain ⟨V,ae,ah,U,r3⟩:=b.elC D
      rw[N] at U
      (try simp only[↓M1,M1,Mb,reduceIte])
      refine ld a U rfl ?_
      have p:R7 l c.like[k]= !e.iface:=by unfold R7;rw[J]
      cases H:e.iface with
      | true=>
       rw[H] at p
       (try simp only[↓M1,M1,Mb,reduceIte])
       exact Y5 z.max g ⟨rfl,u p⟩
      | false=>
       rw[H] at p
       (try simp only[↓M1,M1,Mb,reduceIte])
       exact r p
    ·have g: ¬k<c.like.length:=by simpa using B
     rw[E5 g] at s
     exact y 0 (by unfold D9;rw[C,s];rfl))
end Go.Proofs.YtjdiakhipmggjaaGreatDoor

namespace Go.Proofs.YtjdiakhipmggjaaGreatDoor
open Go.Emb Go.RowKit Go.Kd Go.Hm
variable {w : World} {K : Value → World → Prop} {σ : Q6} {l : List Cla} {v : Value}
theorem Q6w {n:X0} (h:lk l n=none):Y6 l n=[]:=by unfold Y6;rw[Yq h];rfl
theorem Q6T (a:Ji l) {n:X0} {c:Cla} (h:lk l n=some c):Y6 l n=Y6 l c.super++c.fields:=by
 unfold Y6
 rw[A8 a,h]
 simp
theorem Q3n (a: ∀c∈l,Qo c) (n:X0):(Y6 l n).length≤(l.length+1)*1000000:=by
 unfold Y6
 have b:=Vu (fun c:Cla=>c.fields) 1000000 (chain l n).reverse fun c d=>(a c (Bc (by simpa using d))).2.1
 have e:=Bb l n
 rw[List.length_reverse] at b
 exact Nat.le_trans b (Nat.mul_le_mul_right _ e)
theorem Q2c {n:X0} (c:lk l n=none) (a:X3 w σ) (e:Sl 8 V0 σ v l) (h: ∀b w' d,Stp w σ w' d→Sl 3 S2 d b (Y6 l n)→K b w'):Q1 P F.p [v,S n] w K:=Lh (by
 unfold Xq
 refine Q0V a e c ?_
 simp only[X0M,↓M1,M1,Mb,reduceIte]
 exact h _ _ _ (Stp.refl a) (by rw[Q6w c];exact Sl.nil))
theorem Q6B (o:Ji l) (hl:l.length≤1000) (g: ∀c∈l,Qo c): ∀(k:Nat) {n:X0} {w:World} {σ:Q6} {K:Value→World→Prop},(lk l n=none∨P1 l n<k)→X3 w σ→Sl 8 V0 σ v l→
 (∀j w' m,Stp w σ w' m→Sl 3 S2 m j (Y6 l n)→K j w')→Q1 P F.p [v,S n] w K:=by
 intro k
 induction k with
 | zero=>
  intro n w σ K hk f a h
  rcases hk with hk | hk
  ·exact Q2c hk f a h
  ·omega
 | succ k ih=>
  intro n w σ K hk f a h
  cases b:lk l n with
  | none=>exact Q2c b f a h
  | some c=>
   have hk:P1 l n<k+1:=by
    rcases hk with hk | hk
    ·rw[b] at hk;cases hk
    ·exact hk
   refine Lh ?_
   unfold Xq
   refine Bi f a b fun i hi hf=>?_
   obtain ⟨s,L⟩:=List.getElem?_eq_some_iff.1 hi
   simp only[Q60,↓M1,M1,Mb,reduceIte]
   obtain ⟨lv,fv,mv,p1,O⟩:=a.elC s
   rw[L] at p1 O
   obtain ⟨_,U,_,_,_⟩:=O.parts
   have M:lk l c.super=none∨P1 l c.super<k:=by
    cases Y:lk l c.super with
    | none=>exact .inl rfl
    | some d=>
     have:=Xw o b (u:=c.super) (by simp[U3]) Y
     right;omega
   have X:=Q3n g c.super
   have aa:=(g c (V3 b).2.1).2.1
   have N:(l.length+1)*1000000≤1001*1000000:=Nat.mul_le_mul_right _ (by omega)
   refine J9 f ?_
   (repeat refine J3 Qe ?_)
   refine Q2Q (R:=S2) (by decide) ?_
   (repeat refine J3 Qe ?_)
   refine Wi (w:=w) (σ:=σ) (Φ:=fun m v=>Sl 3 S2 m v (Y6 l c.super)) (fun t w p e=>?_) ?_
   ·subst e;exact ih M p.sat a fun j w' m hk E=>Cc p hk E
   refine Q1A (w:=w) (σ:=σ) (R:=S2) (sz:=3) (e:=T.o) (Y6 l c.super) (fun J A w p D y=>?_) ?_
   ·obtain ⟨W,a1,e1⟩:=D
    obtain ⟨σ2,k2,s2⟩:=y
    exact Q7A W a1 e1 k2.sat s2 (fun _ _ h=>h) rfl (by omega) (by omega) fun j w' hk o=>Q3i p hk o
   (repeat refine J3 Qe ?_)
   rintro Z V am al J ae A aj ab w2 ag rfl rfl rfl rfl _ rfl _ ⟨q,H⟩ rfl
   refine Wl q H U rfl (by omega) (by omega) fun j w3 Q C r _=>?_
   obtain ⟨σ4,B,z,_⟩:=r.keep C
   exact h _ _ _ B (by rw[Q6T o b];exact z)
theorem Px {n:X0} (g:X3 w σ) (f:Sl 8 V0 σ v l) (i:Ji l) (e:l.length≤1000) (a: ∀c∈l,Qo c) (h: ∀b w' d,Stp w σ w' d→Sl 3 S2 d b (Y6 l n)→K b w'):Q1 P F.p [v,S n] w K:=
 Q6B i e a _ (.inr (Nat.lt_succ_self _)) g f h
theorem Q9n {n f:X0} (B:X3 w σ) (A:Sl 8 V0 σ v l) (L:Ji l) (z:l.length≤1000) (u: ∀c∈l,Qo c) (h: ∀w' J,Stp w σ w' J→K (I (L6 (Jx l n f))) w'):Q1 P F.br [v,S n,S f] w K:=Kb (by
 unfold Nj
 refine Px B A L z u fun O w1 σ1 r a=>?_
 have s: ∀o,Jx l n f=o→K (I (L6 o)) w1:=fun o e=>by rw[←e];exact h _ _ r
 unfold Jx at s
 generalize Y6 l n=i at a s
 refine U2 i.length (fun k w'=>w'=w1∧ ∀j (q:j<i.length),j<k→ ¬i[j].name=f) ⟨rfl,fun j _ h=>by omega⟩ fun k M d N E=>?_
 obtain ⟨y,g⟩:=E
 subst y
 refine Q8 a ?_
 refine Z1 ?_
 refine Q7 (fun t=>?_) (fun t=>?_)
 ·have b:k<i.length:=by simpa using t
  refine Y1 a b ?_
  obtain ⟨H,_⟩:=a.elF b
  (try simp only[↓M1,M1,Mb,reduceIte])
  refine ld r.sat H rfl ?_
  refine P7 ?_
  refine Q7 (fun p=>?_) (fun p=>?_)
  ·have p:i[k].name=f:=by simpa using p
   exact s (some k) (by
    rw[List.findIdx?_eq_some_iff_getElem]
    exact ⟨b,by simpa using p,fun j q=>by simpa using g j (by omega) q⟩)
  ·have p: ¬i[k].name=f:=by simpa using p
   (try simp only[↓M1,M1,Mb,reduceIte])
   refine Y5 a.max b ⟨rfl,fun j q C=>?_⟩
   by_cases e:j=k
   ·subst e;exact p
   ·exact g j q (by omega)
 ·have b: ¬k<i.length:=by simpa using t
  exact s none (by
   rw[List.findIdx?_eq_none_iff]
   intro m D
   obtain ⟨j,q,rfl⟩:=List.getElem_of_mem D
   simpa using g j q (by omega)))
end Go.Proofs.YtjdiakhipmggjaaGreatDoor

namespace Go.Emb
open Go.RowKit Go.Hm
variable {w w' : World} {σ σ' : Q6}
theorem Nxt.of_upd {b:Nat} (d:X3 w σ) (a:Upd w b w') (c:σ b=none):Nxt (fun j=>j=b) w σ w' σ:=
 ⟨Kpt.of_upd a rfl,SLe.refl _,fun _ _=>rfl,(Kpt.of_upd (D:=fun j=>j=b) a rfl).sat d fun k e=>e▸c⟩
theorem Nxt.chain {D E:Nat→Prop} {w1 b:World} {σ1 c:Q6} (h:Nxt D w σ w1 σ1) (k:Nxt E w1 σ1 b c) (f: ∀j,j<w.heap.size→E j→D j):Nxt D w σ b c:=
 ⟨⟨k.kp.os.trans h.kp.os,k.kp.tape.trans h.kp.tape,k.kp.output.trans h.kp.output,Nat.le_trans h.kp.size k.kp.size,fun j a d=>(k.kp.block j (Nat.lt_of_lt_of_le a h.kp.size) fun e=>d (f j a e)).trans (h.kp.block j a d)⟩,h.le.more k.le,fun j a=>(k.old j (Nat.lt_of_lt_of_le a h.kp.size)).trans (h.old j a),k.sat⟩
end Go.Emb
namespace Go.Proofs.YtjdiakhipmggjaaGreatDoor
open Go.Emb Go.RowKit Go.Kd Go.Hm
variable {w w' : World} {K : Value → World → Prop} {σ σ' : Q6} {hp tv : Value} {room : Int} {cs : List Cel} {l : List Cla}
theorem RowsIs.shape {B:Nat} {D:Nat→Prop} {b:Value} (h:RowsIs B D σ w b cs):b.cells= #[b]∧b.oneCell'=true:=by
 obtain ⟨vs,d,_⟩:=h.ex
 obtain ⟨a,c,rfl,_⟩:=d
 exact ⟨rfl,rfl⟩
theorem RowsIs.len {B:Nat} {D:Nat→Prop} {c:Value} (h:RowsIs B D σ w c cs): ∃a b,c= .slice a cs.length b:=by
 obtain ⟨vs,e,d,_⟩:=h.ex
 obtain ⟨a,b,rfl,_⟩:=e
 exact ⟨a,b,by rw[Wq d.1]⟩
theorem X1n {B:Nat} {D:Nat→Prop} {v:Value} {vals:List Val} {k:X0} (hs:X3 w σ) (hB:B≤w.heap.size) (h:HeapIs B D σ w hp tv room cs) (C:J7 B T.g 4 N0 σ w v vals) (M: ∀j,v.ownBlock=some j→ ¬D j) (hk:k.length≤U1) (hl:Y9 cs+(1+(vals.length:Int))≤1048576)
 (hh: ∀w' σ' D',Nxt D w σ w' σ'→HeapIs B D' σ' w' hp tv room (cs++[⟨k,vals⟩])→(∀j,D' j→D j∨v.ownBlock=some j∨w.heap.size≤j)→K (.tuple #[I cs.length,I 0]) w'):Q1 P F.b6 [hp,S k,v] w K:=Q1Q (by
 obtain ⟨b,lv,E,rfl,A,t,X,hE,hD⟩:=h.ex
 have Z:=T6 cs
 have ag:=M0 cs
 have c:D b:=(hD b).2 (.inl rfl)
 have J: ∃a d,v= .slice a vals.length d:=by obtain ⟨a,d,e,_⟩:=C;exact ⟨a,d,e⟩
 have V:=t.lt
 unfold Hw
 rw[L9,fa]
 refine Yj t rfl ?_
 refine Q1x C ?_
 refine Xz ⟨by omega,by omega⟩ ?_
 refine Xz ⟨by omega,by omega⟩ ?_
 rw[L9,fa]
 refine Jy t (by simp) rfl rfl fun w1 u o=>?_
 have r:=Nxt.of_upd hs u t.1
 have N:=X.nx r fun j hj e=>hE (e▸hj)
 have H:=C.nx r fun j hj e=>M j hj (e▸c)
 have O:=r.sat
 rw[L9,fa]
 refine Yj o rfl ?_
 refine W1 (cells:= #[S k,v]) (by obtain ⟨a,d,rfl⟩:=J;kernel_rfl) ?_
 refine Q9u O (by rw[u.size];exact hB) N H (fun j hj e=>M j hj ((hD j).2 (.inr e))) hk (by omega) fun s ah w2 W y L g f q ai=>?_
 have m: ∀j,lv.ownBlock=some j→j≠b:=fun j hj e=>hE (e▸g j hj)
 have n:=o.nx L fun e=>m b e rfl
 have i: ¬y b:=fun e=>by
  rcases q b e with e | e | e
  ·exact hE e
  ·exact M b e c
  ·rw[u.size] at e;omega
 rw[L9,fa]
 refine Jy n (by simp) f.shape.1 f.shape.2 fun U Y p=>?_
 have R:=Nxt.of_upd L.sat Y n.1
 have z:=f.nx R fun j hj e=>i (e▸hj)
 rw[L9,fa]
 refine Yj p rfl ?_
 obtain ⟨a2,Q,rfl⟩:=f.len
 rw[Q1y]
 refine Zm ⟨by simp only[List.length_append,List.length_cons,List.length_nil];omega,by simp only[List.length_append,List.length_cons,List.length_nil];omega⟩ ?_
 have e1:(((cs++[(⟨k,vals⟩:Cel)]).length:Nat):Int)-1=cs.length:=by simp
 rw[e1]
 have e2:Y9 (cs++[(⟨k,vals⟩:Cel)])=Y9 cs+(1+(vals.length:Int)):=by rw[T5];simp[Y9]
 have NN:Nxt D w σ U W:=((r.mono fun j _ e=>e▸c).chain L fun j _ e=>(hD j).2 (.inr (g j e))).chain R fun j _ e=>e▸c
 refine hh U W (fun j=>j=b∨y j) NN ⟨b,_,y,rfl,A,?_,z,i,fun j=>Iff.rfl⟩ fun j hj=>?_
 ·rw[e2];exact p
 ·rcases hj with rfl | hj
  ·exact .inl c
  ·rcases q j hj with e | e | e
   ·exact .inl ((hD j).2 (.inr e))
   ·exact .inr (.inl e)
   ·rw[u.size] at e;exact .inr (.inr e))
theorem HeapIs.tab {B:Nat} {D:Nat→Prop} (h:HeapIs B D σ w hp tv room cs): ∃b a E,hp= .pointer (some ⟨b,0,none⟩)∧Y3 σ w b [tv,I room,I (Y9 cs),a]∧RowsIs B E σ w a cs:=by
 obtain ⟨b,a,E,e,d,f,c,hE,hD⟩:=h.ex
 exact ⟨b,a,E,e,f,c⟩
theorem Q5M {B:Nat} {D:Nat→Prop} (b:X3 w σ) (h:HeapIs B D σ w hp tv room cs) (i:0≤V8 room cs) (c:room≤1048576) (d: ∀w',Stp w σ w' σ→K (I (V8 room cs)) w'):Q1 P F.v [hp] w K:=by
 obtain ⟨j,e,g,a,_⟩:=h.freeze b
 exact Q1N e a i c fun w' f=>d w' (Stp.of_below b f)
theorem Gt (k:X0) {σ:Q6}:N0 σ (M3 k) (Value.agg [I (M3 k).sort,I (M3 k).n,S (M3 k).s,I (M3 k).ref].toArray).cells.toList:=by
 refine ⟨rfl,?_⟩
 unfold M3
 split
 ·decide
 split
 ·decide
 split
 ·decide
 ·decide
theorem Q0U (a: ∀c∈l,Qo c) (b:l.length≤100000) (n:X0):(Y6 l n).length≤1000000000000:=by
 have h:=Q3n a n
 have:(l.length+1)*1000000≤100001*1000000:=Nat.mul_le_mul_right _ (by omega)
 omega
def atM (cs:List Cel) (e:Int):Int:=if e=0 then cs.length else 0
set_option maxHeartbeats 1000000 in
theorem Q5x {B:Nat} {D:Nat→Prop} {k:X0} (hs:X3 w σ) (hB:B≤w.heap.size) (h:HeapIs B D σ w hp tv room cs) (ht:Tab σ tv l) (ok:Ok l) (hk:k.length≤U1) (h0:0≤V8 room cs) (h1:room≤1048576)
 (hh: ∀w' σ' D',Nxt D w σ w' σ'→HeapIs B D' σ' w' hp tv room (Zw l room cs k).1→(∀j,D' j→D j∨w.heap.size≤j)→K (.tuple #[I (atM cs (Zw l room cs k).2),I (Zw l room cs k).2]) w'):Q1 P F.aJ [hp,S k] w K:=Ix (by
 obtain ⟨b,lv,E,rfl,hm,hr⟩:=h.tab
 unfold Mf
 rw[L9,fa]
 refine Yj (i:=0) hm rfl ?_
 refine Q4D hs ht fun w1 σ1 c=>?_
 refine Wn ?_
 unfold Zw at hh
 have aa:=ht.lift ⟨c.le⟩
 cases ho:Qb l k with
 | false=>
  rw[ho] at hh
  simp only[if_pos] at hh
  refine J6 ?_
  exact hh w1 σ1 D (.of_stp c) (h.up c) fun j r=> .inl r
 | true=>
  rw[ho] at hh
  simp only[Bool.true_eq_false,if_false] at hh
  refine Z6 ?_
  rw[L9,fa]
  refine Yj (i:=0) (hm.up c) rfl ?_
  refine Ps c.sat aa ok.acy ok.len ok.sm fun fv w2 X C W=>?_
  have y:=c.trans C
  have Q:=W.max
  refine Q8 W ?_
  have ah:=Q0U ok.sm ok.len k
  refine Xz ⟨by omega,by omega⟩ ?_
  refine Q5M C.sat (h.up y) h0 h1 fun N z=>?_
  have u:=y.trans z
  have J:=W.up z
  rw[Rp]
  by_cases M:V8 room cs<1+((Y6 l k).length:Int)
  ·rw[if_pos M] at hh
   have e:decide (1+((Y6 l k).length:Int)>V8 room cs)=true:=decide_eq_true M
   rw[e]
   refine J6 ?_
   exact hh N X D (.of_stp u) (h.up u) fun j r=> .inl r
  rw[if_neg M] at hh
  have e:decide (1+((Y6 l k).length:Int)>V8 room cs)=false:=decide_eq_false M
  rw[e]
  refine Z6 ?_
  refine Q8 J ?_
  have p:=u.bel.size
  refine E7 (Y6 l k).length (fun n x w'=> ∃σ',Stp N X w' σ'∧V6 N.heap.size T.g 4 N0 σ' w' x (((Y6 l k).take n).map fun f=>M3 f.kind)) ⟨X,Stp.refl z.sat,V6.nil⟩ fun n x w4 d hn H=>?_
  obtain ⟨σ4,g,o⟩:=H
  refine Z1 ?_
  refine Q7 (fun V=>?_) (fun V=>?_)
  ·have m:n<(Y6 l k).length:=by simpa using V
   have A:=J.up g
   refine Y1 A m ?_
   obtain ⟨p1,r1⟩:=A.elF m
   refine Y2 g.sat p1 rfl ?_
   refine Y7 g.sat (by rfl) rfl (Rep.one (R:=S2) r1) fun q w5 σ5 t Z=>?_
   rw[fa]
   refine ld t.sat Z rfl ?_
   refine Q9j t.sat fun w6 σ6 L=>?_
   have Y:=(g.trans t).trans L
   have ad:=(o.up t).up L
   refine Un (R:=N0) (x:=M3 (Y6 l k)[n].kind) Y ad (Gt _) rfl rfl rfl (by rw[List.length_map,List.length_take];omega) (by rw[List.length_map,List.length_take];omega) fun s v' w7 σ7 ak U ab _=>?_
   refine O5 ?_
   refine J4 Q m ⟨σ7,U,?_⟩
   rw[List.take_add_one,List.getElem?_eq_getElem m,List.map_append]
   exact ab
  ·have m: ¬n<(Y6 l k).length:=by simpa using V
   rw[List.take_of_length_le (by omega)] at o
   have a:=u.trans g
   have v: ∀j,x.ownBlock=some j→N.heap.size≤j:=fun j r=>(o.mem j r).1
   refine X1n g.sat (Nat.le_trans hB a.bel.size) (h.up a) ((J7.of_acc o).mono (Nat.le_trans hB p)) (fun j r hD=>by
    have:=(h.mem hD).2.1;have:=v j r;omega) hk (by rw[List.length_map];unfold V8 at*;omega) fun w7 σ7 D' N7 h7 O=>?_
   refine J0 (vs:=[_,_]) rfl ?_
   refine J0 (vs:=[_,_]) rfl ?_
   refine hh w7 σ7 D' ((Nxt.of_stp a).chain N7 fun j _ e=>e) h7 fun j r=>?_
   rcases O j r with e | e | e
   ·exact .inl e
   ·right;have:=v j e;omega
   ·right;have:=a.bel.size;omega)
end Go.Proofs.YtjdiakhipmggjaaGreatDoor

namespace Go.Proofs.YtjdiakhipmggjaaGreatDoor
open Go.Emb Go.RowKit Go.Kd Go.Hm
variable {w w' : World} {K : Value → World → Prop} {σ σ' : Q6} {hp tv : Value} {room : Int} {cs : List Cel} {l : List Cla}
def part (m n:Nat) (z:Val):List Val:=(List.range m).map fun i=>if i<n then z else Val.zero
theorem Q8Y (m:Nat) (z:Val):part m 0 z=List.replicate m Val.zero:=by
 refine List.ext_getElem (by simp[part]) fun i a b=>by simp[part]
theorem X0f (m:Nat) (z:Val):part m m z=List.replicate m z:=by
 refine List.ext_getElem (by simp[part]) fun i a b=>?_
 have:i<m:=by simpa [part] using a
 simp[part,this]
theorem X0J {m n:Nat} (z:Val):(part m n z).set n z=part m (n+1) z:=by
 refine List.ext_getElem (by simp[part]) fun i a b=>?_
 simp only[part,List.getElem_set,List.getElem_map,List.getElem_range]
 by_cases e:n=i
 ·subst e;simp
 ·rw[if_neg e]
  by_cases h:i<n
  ·simp[h,Nat.lt_succ_of_lt h]
  ·have: ¬i<n+1:=by omega
   simp[h,this]
theorem Q5L {e:X0} (h:G9 l e=true):right e=true:=by
 simp only[G9,Bool.and_eq_true,Bool.not_eq_true',decide_eq_false_iff_not] at h
 have:=h.1.2
 simp only[O3,Bool.or_eq_true,Bool.and_eq_true,decide_eq_true_eq] at this
 rcases this with h1 | h1
 ·exact absurd h1 h.1.1
 ·exact h1.1
theorem X2l {e:X0} (h:right e=true):Yb e≤3:=by
 unfold Yb
 rw[if_pos h]
 simp only[right,Bool.and_eq_true,decide_eq_true_eq] at h
 exact h.1
set_option maxHeartbeats 1000000 in
theorem Q7r {B:Nat} {D:Nat→Prop} {e:X0} {n:Int} (hs:X3 w σ) (hB:B≤w.heap.size) (h:HeapIs B D σ w hp tv room cs) (ht:Tab σ tv l) (hk:e.length≤U1) (h0:0≤V8 room cs) (h1:room≤1048576)
 (hh: ∀w' σ' D',Nxt D w σ w' σ'→HeapIs B D' σ' w' hp tv room (Zx l room cs e n).1→(∀j,D' j→D j∨w.heap.size≤j)→K (.tuple #[I (atM cs (Zx l room cs e n).2),I (Zx l room cs e n).2]) w'):Q1 P F.aQ [hp,S e,I n] w K:=Aq (by
 obtain ⟨b,lv,E,rfl,hm,hr⟩:=h.tab
 unfold Oy
 refine X4j e (Nat.le_trans hk (by decide)) fun w1 ab=>?_
 have q:=Stp.of_below hs ab
 unfold Zx at hh
 have k: ∀{L C},Stp w σ L C→G9 l e=false→K (.tuple #[I 0,I 91]) L:=fun {L C} hS O=>by
  rw[O] at hh
  simp only[if_pos] at hh
  exact hh L C D (.of_stp hS) (h.up hS) fun j t=> .inl t
 cases y:(right e&&decide (Yb e≠3)) with
 | false=>
  have O:G9 l e=false:=by
   cases hx:G9 l e with
   | false=>rfl
   | true=>
    have hr:=Q5L hx
    simp only[G9,Bool.and_eq_true,decide_eq_true_eq] at hx
    rw[hr,Bool.true_and,decide_eq_false_iff_not] at y
    omega
  simp only[Bool.false_eq_true,if_false]
  (try simp only[↓M1,M1,Mb,reduceIte])
  simp only[show decide ((30:Int)=0)=false from by decide,Bool.not_false,↓M1,M1,Mb,reduceIte]
  exact k q O
 | true=>
  simp only[if_true]
  (try simp only[↓M1,M1,Mb,reduceIte])
  simp only[decide_true,Bool.not_true,↓M1,M1,Mb,reduceIte]
  refine Yj (i:=0) (hm.up q) rfl ?_
  refine Q1d q.sat ht hk fun L C V=>?_
  have a:=q.trans V
  simp only[Bool.and_eq_true,decide_eq_true_eq] at y
  have ax:=X2l y.1
  have o:G9 l e=(!decide (e=R0)&&O3 l e):=by
   unfold G9
   have:decide (Yb e≤2)=true:=decide_eq_true (by omega)
   rw[this,Bool.and_true]
  have en:decide (e=[110,117,108,108])=decide (e=R0):=rfl
  cases U:O3 l e with
  | false=>
   (try simp only[↓M1,M1,Mb,reduceIte])
   exact k a (by rw[o,U,Bool.and_false])
  | true=>
   (try simp only[↓M1,M1,Mb,reduceIte])
   by_cases c:e=R0
   ·have:decide (e=[110,117,108,108])=true:=decide_eq_true c
    rw[this]
    (try simp only[↓M1,M1,Mb,reduceIte])
    exact k a (by rw[o,decide_eq_true c];rfl)
   have:decide (e=[110,117,108,108])=false:=decide_eq_false c
   rw[this]
   (try simp only[↓M1,M1,Mb,reduceIte])
   have O:G9 l e=true:=by rw[o,U,decide_eq_false c];rfl
   rw[O] at hh
   simp only[Bool.true_eq_false,if_false] at hh
   by_cases g:n<0
   ·rw[if_pos g] at hh
    rw[decide_eq_true g]
    (try simp only[↓M1,M1,Mb,reduceIte])
    exact hh L C D (.of_stp a) (h.up a) fun j t=> .inl t
   rw[if_neg g] at hh
   rw[decide_eq_false g]
   (try simp only[↓M1,M1,Mb,reduceIte])
   refine Q5M V.sat (h.up a) h0 h1 fun w3 Q=>?_
   have z:=a.trans Q
   refine P4 ?_
   by_cases M:V8 room cs≤n
   ·rw[if_pos M] at hh
    rw[decide_eq_true M]
    refine J6 ?_
    exact hh w3 C D (.of_stp z) (h.up z) fun j t=> .inl t
   rw[if_neg M] at hh
   rw[decide_eq_false M]
   refine Z6 ?_
   obtain ⟨m,rfl⟩:=Int.eq_ofNat_of_zero_le (Int.not_lt.1 g)
   have Z:(m:Int)<V8 room cs:=Int.not_le.1 M
   have a2:=M0 cs
   unfold V8 at Z h0
   have r:=z.bel.size
   have an:=Gl y.1
   refine Q8W (sz:=4) (R:=N0) (x0:=Val.zero) Q.sat rfl (by decide) ⟨rfl,by decide⟩ (by omega) (by omega) fun v w4 ah aa H=>?_
   have N:=J7.of_acc aa
   refine Q1x N ?_
   rw[List.length_replicate]
   refine U2 m (fun i w'=> ∃σ',Stp w3 C w' σ'∧J7 w3.heap.size T.g 4 N0 σ' w' v (part m i (M3 e))) ⟨C,ah,by rw[Q8Y];exact N⟩ fun i w5 d hi W=>?_
   obtain ⟨σ5,s,J⟩:=W
   refine Z1 ?_
   refine Q7 (fun hc=>?_) (fun hc=>?_)
   ·have A:i<m:=by simpa using hc
    refine Q9j s.sat fun w6 σ6 X=>?_
    have af:=s.trans X
    refine Q1n (x:=M3 e) af (J.up X) (by simpa [part] using A) rfl (Gt e) (Rep.one (R:=N0) (Gt (σ:=σ6) e)) fun p u w7 av ag Y=>?_
    refine O5 ?_
    rw[X0J] at Y
    exact Y5 (by omega) A ⟨σ6,ag.stp,Y⟩
   ·have A:i=m:=by
     have: ¬i<m:=by simpa using hc
     omega
    subst A
    rw[X0f] at J
    have f:=z.trans s
    refine X1n s.sat (Nat.le_trans hB f.bel.size) (h.up f) (J.mono (Nat.le_trans hB r)) (fun j t hD=>by
     have:=(h.mem hD).2.1;have:=H j t;omega) (Nat.le_trans (show (e++[91,93]).length≤40 by simp only[List.length_append,List.length_cons,List.length_nil];omega) (by decide)) (by rw[List.length_replicate];omega) fun w7 σ7 D' N7 h7 ac=>?_
    refine J0 (vs:=[_,_]) rfl ?_
    refine J0 (vs:=[_,_]) rfl ?_
    rw[Int.toNat_natCast] at hh
    refine hh w7 σ7 D' ((Nxt.of_stp f).chain N7 fun j _ e=>e) h7 fun j t=>?_
    rcases ac j t with e | e | e
    ·exact .inl e
    ·right;have:=H j e;omega
    ·right;have:=f.bel.size;omega)
end Go.Proofs.YtjdiakhipmggjaaGreatDoor

namespace Go.Proofs.YtjdiakhipmggjaaGreatDoor
open Go.Emb Go.RowKit Go.Kd Go.Hm
variable {w : World} {K : Value → World → Prop} {σ : Q6} {v : Value}
def Q3m:List Cla:=[⟨U0,[],[],false,false,false,[],[]⟩,⟨L5,U0,[],false,false,false,[⟨Qm,D7,false⟩],[]⟩]
def gMk (n:X0):Cla:=⟨n,L5,[],false,false,true,[],[]⟩
theorem Q6F:I3=Q3m++U4.map gMk:=rfl
theorem Q9P (O:X3 w σ) (h: ∀z w' g,Stp w σ w' g→V6 w.heap.size T.b 8 V0 g w' z I3→K z w'):Q1 P F.bn [] w K:=Kn (by
 unfold Nt
 refine W1 (cells:= #[S U0,S [], .slice none 0 0, .bool false, .bool false, .bool false, .slice none 0 0, .slice none 0 0]) (by kernel_rfl) ?_
 refine W1 (cells:= #[S Qm,S D7, .bool false]) (by kernel_rfl) ?_
 refine T4 (R:=S2) (sz:=3) O [.agg #[S Qm,S D7, .bool false]] [⟨Qm,D7,false⟩] rfl rfl (by simp;rfl) rfl ⟨⟨rfl,by decide,by decide⟩,trivial⟩ fun v1 w1 σ1 i j=>?_
 have o:=j
 obtain ⟨H,b,rfl,_⟩:=o
 refine W1 (cells:= #[S L5,S U0, .slice none 0 0, .bool false, .bool false, .bool false, .slice H 1 b, .slice none 0 0]) (by kernel_rfl) ?_
 refine Zf (R:=V0) (sz:=8) i [.agg #[S U0,S [], .slice none 0 0, .bool false, .bool false, .bool false, .slice none 0 0, .slice none 0 0], .agg #[S L5,S U0, .slice none 0 0, .bool false, .bool false, .bool false, .slice H 1 b, .slice none 0 0]]
  Q3m rfl rfl (by simp;exact ⟨rfl,rfl⟩) rfl ⟨⟨_,_,_,rfl,Sl.nil,Sl.nil,Sl.nil,by decide,by decide⟩,⟨_,_,_,rfl,Sl.nil,j,Sl.nil,by decide,by decide⟩,trivial⟩ fun v2 Z k D _=>?_
 refine T4 (R:=U8) (sz:=1) k.sat (U4.map S) U4 rfl rfl (by decide) rfl ⟨⟨rfl,by decide⟩,⟨rfl,by decide⟩,⟨rfl,by decide⟩,⟨rfl,by decide⟩,⟨rfl,by decide⟩,⟨rfl,by decide⟩,trivial⟩ fun Y w3 J r l=>?_
 have C:=(i.trans k).trans r
 have M:U4.length=6:=rfl
 refine E7 U4.length (fun n x w'=> ∃g,Stp w σ w' g∧SLe J g∧V6 w.heap.size T.b 8 V0 g w' x (Q3m++(U4.take n).map gMk)) ⟨J,C,SLe.refl _,D.up r⟩ fun n x X d W p=>?_
 obtain ⟨N,f,e,c⟩:=p
 refine Q8 (l.lift e) ?_
 refine Z1 ?_
 refine Q7 (fun y=>?_) (fun y=>?_)
 ·have a:n<U4.length:=by simpa using y
  have m:=l.lift e
  refine Y1 m a ?_
  obtain ⟨U,E⟩:=m.elS a
  refine X7 f.sat U rfl ?_
  have Q:(Q3m++(U4.take n).map gMk).length≤8:=by
   rw[List.length_append,List.length_map,List.length_take,show Q3m.length=2 from rfl];omega
  have q:(U4.take (n+1)).map gMk=(U4.take n).map gMk++[gMk U4[n]]:=by
   rw[List.take_add_one,List.getElem?_eq_getElem a,List.map_append];rfl
  generalize U4[n]=t at E q
  refine W1 (cells:= #[S t,S L5, .slice none 0 0, .bool false, .bool false, .bool true, .slice none 0 0, .slice none 0 0]) (by kernel_rfl) ?_
  have L:V0 N (gMk t) [S t,S L5, .slice none 0 0, .bool false, .bool false, .bool true, .slice none 0 0, .slice none 0 0]:=⟨_,_,_,rfl,Sl.nil,Sl.nil,Sl.nil,E,(by decide:L5.length≤U1)⟩
  refine Un (x:=gMk t) f c L rfl rfl rfl (by omega) (by omega) fun s z w5 V B A u _=>?_
  refine O5 ?_
  refine J4 (by omega) a ⟨V,A,e.more B.le,?_⟩
  rw[q,←List.append_assoc];exact u
 ·have a: ¬n<U4.length:=by simpa using y
  rw[List.take_of_length_le (by omega),←Q6F] at c
  exact h _ _ _ f c)
end Go.Proofs.YtjdiakhipmggjaaGreatDoor

namespace Go.Proofs.YtjdiakhipmggjaaGreatDoor
open Go.Emb Go.RowKit Go.Kd Go.Hm
variable {w : World} {K : Value → World → Prop} {σ : Q6}
end Go.Proofs.YtjdiakhipmggjaaGreatDoor

namespace Go.Hm
open Go.Kd
def Edge (l:List Cla) (i j:Nat):Prop:= ∃c,l[i]? =some c∧ ∃u∈U3 c,Z2 l u=some j
inductive Thr (E : Nat → Nat → Prop) (n : Nat) : Nat → Nat → Prop
  | one {i j : Nat} : E i j → Thr E n i j
  | more {i m j : Nat} : E i m → m < n → Thr E n m j → Thr E n i j
theorem Thr.cut {E:Nat→Nat→Prop} {n i j:Nat} (h:Thr E (n+1) i j):Thr E n i j∨(Thr E n i n∧Thr E n n j):=by
 induction h with
 | one h=>exact .inl (.one h)
 | @more i m j d f _ c=>
  by_cases e:m<n
  ·rcases c with c | ⟨a,b⟩
   ·exact .inl (.more d e c)
   ·exact .inr ⟨.more d e a,b⟩
  ·obtain rfl:m=n:=by omega
   rcases c with c | ⟨a,b⟩
   ·exact .inr ⟨.one d,c⟩
   ·exact .inr ⟨.one d,b⟩
theorem Thr.join {E:Nat→Nat→Prop} {n i k j:Nat} (h:Thr E n i k) (a:k<n) (g:Thr E n k j):Thr E n i j:=by
 induction h with
 | one h=>exact .more h a g
 | more b d _ c=>exact .more b d (c a g)
theorem Q4k {l:List Cla} (f:A4 l) {i j:Nat} (d:i<l.length):Edge l i j↔j<l.length∧ ∃u∈U3 l[i],u=Y4 l j∧Z2 l u=some j:=by
 unfold Edge
 rw[List.getElem?_eq_getElem d]
 constructor
 ·rintro ⟨c,e,u,b,a⟩
  cases e
  exact ⟨(S8 a).1,u,b,(S8 a).2.symm,a⟩
 ·rintro ⟨_,u,b,_,a⟩
  exact ⟨_,rfl,u,b,a⟩
theorem X0e {l:List Cla} (b:A4 l) {i:Nat} (a:i<l.length):lk l (Y4 l i)=some l[i]:=by
 have:=Yh b a
 rwa [List.getD_eq_getElem?_getD,List.getElem?_eq_getElem a] at this
theorem X0n {l:List Cla} (b:A4 l) {i j:Nat} (a:i<l.length) (h:Thr (Edge l) l.length i j):j<l.length∧Wr (lk l) (Y4 l i) (Y4 l j):=by
 induction h with
 | one h=>
  obtain ⟨d,u,e,f,g⟩:=(Q4k b a).1 h
  obtain ⟨c,k,_⟩:=Zr g
  refine ⟨d,_,X0e b a,u,e,?_⟩
  subst f;exact .refl k
 | more d o _ m=>
  obtain ⟨p,n⟩:=m o
  obtain ⟨_,u,e,f,g⟩:=(Q4k b a).1 d
  refine ⟨p,_,X0e b a,u,e,?_⟩
  subst f;exact n.reach
theorem Q9g {l:List Cla} (y:A4 l) {a b:X0} (h:Hm.Reach (lk l) a b): ∀i j,Z2 l a=some i→Z2 l b=some j→i=j∨Thr (Edge l) l.length i j:=by
 induction h with
 | refl _=>
  intro i j g f;rw[g] at f;cases f;exact .inl rfl
 | step r q p t=>
  rename_i a u b c
  intro i j g f
  obtain ⟨d,v⟩:=p.left
  obtain ⟨_,_,k,n,s⟩:=V3 v
  obtain ⟨w,e,m,_⟩:=Zr g
  rw[r] at e;cases e
  have o:Edge l i k:=⟨c,m,u,q,n⟩
  rcases t k j n f with rfl | hT
  ·exact .inr (.one o)
  ·exact .inr (.more o (S8 n).1 hT)
theorem X0K {l:List Cla} (e:A4 l) {i j:Nat} (n:i<l.length) (g:j<l.length) (h:Wr (lk l) (Y4 l i) (Y4 l j)):Thr (Edge l) l.length i j:=by
 obtain ⟨c,m,u,p,f⟩:=h
 rw[X0e e n] at m;cases m
 obtain ⟨d,r⟩:=f.left
 obtain ⟨_,_,k,a,q⟩:=V3 r
 have o:Edge l i k:=⟨_,List.getElem?_eq_getElem n,u,p,a⟩
 have b:Z2 l (Y4 l j)=some j:=by
  have:=e.find (List.getElem?_eq_getElem g)
  unfold Y4
  rw[List.getD_eq_getElem?_getD,List.getElem?_eq_getElem g];exact this
 rcases Q9g e f k j a b with rfl | hT
 ·exact .one o
 ·exact .more o (S8 a).1 hT
theorem X2o {l:List Cla} (b:A4 l) {i j:Nat} (a:i<l.length) (c:j<l.length):Thr (Edge l) l.length i j↔Xn l (Y4 l i) (Y4 l j)=true:=by
 rw[Uq]
 exact ⟨fun h=>(X0n b a h).2,X0K b a c⟩
def I8 (l:List Cla):List (List Bool):=(List.range l.length).map fun i=>(List.range l.length).map fun j=>Xn l (Y4 l i) (Y4 l j)
def Fi (m:Nat→Nat→Bool) (i j:Nat) (b:Bool):Nat→Nat→Bool:=fun x y=>if x=i∧y=j then b else m x y
structure Clos (E : Nat → Nat → Prop) (n k i j : Nat) (m : Nat → Nat → Bool) : Prop where
  sound : ∀ a b, m a b = true → Thr E n a b
  full : ∀ a b, a < n → b < n → Thr E k a b → m a b = true
  done : ∀ a b, a < n → b < n → (a < i ∨ (a = i ∧ b < j)) → Thr E (k + 1) a b → m a b = true
theorem Clos.next {E:Nat→Nat→Prop} {n k i j:Nat} {m:Nat→Nat→Bool} (h:Clos E n k i j m) (o:k<n) (t:i<n) (s:j<n):Clos E n k i (j+1) (Fi m i j (m i j||(m i k&&m k j))):=by
 have f: ∀a b,m a b=true→Fi m i j (m i j||(m i k&&m k j)) a b=true:=by
  intro a b c
  unfold Fi
  split
  ·rename_i e;rw[←e.1,←e.2,c];rfl
  ·exact c
 refine ⟨fun a b c=>?_,fun a b r p l=>f a b (h.full a b r p l),fun a b r p q l=>?_⟩
 ·unfold Fi at c
  split at c
  ·rename_i e
   obtain ⟨rfl,rfl⟩:=e
   simp only[Bool.or_eq_true,Bool.and_eq_true] at c
   rcases c with d | ⟨d,g⟩
   ·exact h.sound _ _ d
   ·exact (h.sound _ _ d).join o (h.sound _ _ g)
  ·exact h.sound _ _ c
 ·by_cases e:a=i∧b=j
  ·obtain ⟨rfl,rfl⟩:=e
   unfold Fi
   rw[if_pos ⟨rfl,rfl⟩]
   rcases l.cut with d | ⟨d,g⟩
   ·rw[h.full _ _ t s d];rfl
   ·rw[h.full _ _ t o d,h.full _ _ o s g];simp
  ·refine f a b (h.done a b r p ?_ l)
   rcases q with d | ⟨d,g⟩
   ·exact .inl d
   ·right;refine ⟨d,?_⟩
    have:b≠j:=fun u=>e ⟨d,u⟩
    omega
theorem Clos.row {E:Nat→Nat→Prop} {n k i:Nat} {m:Nat→Nat→Bool} (h:Clos E n k i n m):Clos E n k (i+1) 0 m:=
 ⟨h.sound,h.full,fun a b e c f d=>h.done a b e c (by omega) d⟩
theorem Clos.round {E:Nat→Nat→Prop} {n k:Nat} {m:Nat→Nat→Bool} (h:Clos E n k n 0 m):Clos E n (k+1) 0 0 m:=
 ⟨h.sound,fun a b c d e=>h.done a b c d (.inl c) e,fun a b c d f e=>by omega⟩
theorem Clos.start {E:Nat→Nat→Prop} {n:Nat} {m:Nat→Nat→Bool} (h: ∀a b,a<n→(m a b=true↔E a b)) (j: ∀a b,n≤a→m a b=false):Clos E n 0 0 0 m:=by
 refine ⟨fun a b c=>?_,fun a b d g f=>?_,fun a b d g i f=>by omega⟩
 ·by_cases d:a<n
  ·exact .one ((h a b d).1 c)
  ·rw[j a b (by omega)] at c;cases c
 ·cases f with
  | one e=>exact (h a b d).2 e
  | more _ k _=>omega
theorem Clos.all {l:List Cla} (c:A4 l) {m:Nat→Nat→Bool} (h:Clos (Edge l) l.length l.length 0 0 m) {i j:Nat} (b:i<l.length) (a:j<l.length):m i j=Xn l (Y4 l i) (Y4 l j):=by
 rw[Bool.eq_iff_iff,←X2o c b a]
 exact ⟨h.sound i j,h.full i j b a⟩
end Go.Hm

namespace Go.Emb
open Go.RowKit Go.Hm
variable {P : Program} {w w0 w1 w' w'' : World} {K : Value → World → Prop} {σ σ0 σ1 σ' : Q6}
theorem X36 {t e:TypeId} {a n:Nat} {z:Value} [ts:TS P t e] [tz:TZ P e 1 a z] (j:X3 w σ) (l:z.cells= #[z]) (o:n≤1000000) (p:a*n≤281474976710656)
 (h: ∀b w',w.heap.size≤b→Stp w σ w' σ→Y3 σ w' b (List.replicate n z)→K (.slice (some ⟨b,0,none⟩) n n) w'):Li P t (I n) (I n) w K:=by
 obtain ⟨i,m,d,g,c⟩:=tz.info
 have f:(i.bytes:Int)*(n:Int)≤281474976710656:=by
  rw[g]
  have:((a*n:Nat):Int)≤281474976710656:=by omega
  rwa [Int.natCast_mul] at this
 have k:=run_makeSlice (P:=P) w t e i z ts.h m c .i64 .i64 (n:Int) (n:Int) (by omega) (Int.le_refl _) (by rw[d];simp only[Int.toNat_natCast];omega) f (by omega)
 unfold Li
 rw[X9 k]
 simp only[Int.toNat_natCast,d,Nat.mul_one]
 refine h _ _ (Nat.le_refl _) (Stp.own j _) ⟨j.none (Nat.le_refl _),e,?_⟩
 rw[heap_alloc_new,l]
 have:madeCells #[z] n=(List.replicate n z).toArray:=by rw[←toList_madeCells_one,Array.toArray_toList]
 rw[this]
def Q5C (n:Nat) (_:Q6) (b:Nat) (cs:List Value):Prop:=cs=[.slice (some ⟨b,0,none⟩) n n]
instance (n:Nat):Rep (Q5C n):=⟨fun _ h=>h,fun h u hu=>by rw[h] at hu;simp at hu;subst hu;rfl⟩
def Q68 (σ:Q6) (xs:List Bool) (cs:List Value):Prop:= ∃v,cs=[v]∧Sl 1 Q3a σ v xs
instance:Rep Q68:=⟨fun k h=>by obtain ⟨v,h1,h2⟩:=h;exact ⟨v,h1,h2.le k⟩,fun h u hu=>by
 obtain ⟨v,rfl,a,cap,rfl,_⟩:=h
 simp at hu;subst hu;rfl⟩
def bools (n:Nat) (f:Nat→Bool):List Value:=(List.range n).map fun j=> .bool (f j)
theorem Q0h {n:Nat} {f:Nat→Bool}:(bools n f).length=n:=by simp[bools]
theorem Q4i {n j:Nat} {f:Nat→Bool} (h:j<n):(bools n f)[j]? =some (.bool (f j)):=by simp[bools,h]
theorem Q4u {n j:Nat} {f:Nat→Bool} {b:Bool}:(bools n f).set j (.bool b)=bools n (fun x=>if x=j then b else f x):=by
 apply List.ext_getElem?
 intro k
 rw[List.getElem?_set]
 by_cases a:k<n
 ·by_cases e:j=k
  ·subst e;simp[bools,a]
  ·have c: ¬k=j:=fun h=>e h.symm
   simp[bools,a,e,c]
 ·simp[bools,a]
  intro e;omega
theorem Q6u {n:Nat}:List.replicate n (Value.bool false)=bools n fun _=>false:=by
 apply List.ext_getElem?
 intro k
 by_cases a:k<n<;>simp[bools,a]
def Xe (σ:Q6) (w:World) (a:List Nat) (n:Nat) (m:Nat→Nat→Bool):Prop:=a.Nodup∧ ∀i (h:i<a.length),Y3 σ w a[i] (bools n (m i))
theorem Xe.up {a:List Nat} {n:Nat} {m:Nat→Nat→Bool} (h:Xe σ w a n m) (k:Stp w σ w' σ'):Xe σ' w' a n m:=⟨h.1,fun i b=>(h.2 i b).up k⟩
theorem Xe.kp {a:List Nat} {n:Nat} {m:Nat→Nat→Bool} {D:Nat→Prop} (h:Xe σ w a n m) (k:Kpt D w w') (d: ∀b∈a,¬D b):Xe σ w' a n m:=⟨h.1,fun i c=>(h.2 i c).kp k (d _ (List.getElem_mem c))⟩
theorem Xe.lt {a:List Nat} {n:Nat} {m:Nat→Nat→Bool} (h:Xe σ w a n m) {b:Nat} (d:b∈a):b<w.heap.size∧σ b=none:=by
 obtain ⟨i,c,rfl⟩:=List.getElem_of_mem d
 exact ⟨(h.2 i c).lt,(h.2 i c).1⟩
theorem Xe.snoc {d:List Nat} {n b:Nat} {m:Nat→Nat→Bool} {f:Nat→Bool} (h:Xe σ w d n m) (l:b∉d) (o:Y3 σ w b (bools n f)):Xe σ w (d++[b]) n (fun x=>if x=d.length then f else m x):=by
 refine ⟨by rw[List.nodup_append];exact ⟨h.1,by simp,fun a p c j e=>by simp at j;subst j;subst e;exact l p⟩,fun i k=>?_⟩
 rw[List.length_append,List.length_singleton] at k
 by_cases g:i<d.length
 ·rw[List.getElem_append_left g]
  simp only[if_neg (show¬i=d.length by omega)]
  exact h.2 i g
 ·obtain rfl:i=d.length:=by omega
  simp only[List.getElem_concat_length,if_true]
  exact o
theorem Xe.congr {a:List Nat} {n:Nat} {m m':Nat→Nat→Bool} (h:Xe σ w a n m) (c: ∀i,i<a.length→m i=m' i):Xe σ w a n m':=⟨h.1,fun i b=>c i b▸h.2 i b⟩
theorem Xe.keep {a:List Nat} {n:Nat} {m:Nat→Nat→Bool} (R:0<n) (s:n≤1000000): ∀{σ:Q6},Xe σ w a n m→Stp w0 σ0 w σ→(∀b∈a,w0.heap.size≤b)→ ∃σ',Stp w0 σ0 w σ'∧SLe σ σ'∧ ∀i (h:i<a.length),Sl 1 Q3a σ' (.slice (some ⟨a[i],0,none⟩) n n) ((List.range n).map (m i)):=by
 intro σ h y J
 have key: ∀k,k≤a.length→ ∃σ',Stp w0 σ0 w σ'∧SLe σ σ'∧(∀i (h:i<a.length),i<k→Z4 σ' ⟨a[i],0,none⟩ (bools n (m i)))∧ ∀i (h:i<a.length),k≤i→σ' a[i]=none:=by
  intro k
  induction k with
  | zero=>intro _;exact ⟨σ,y,SLe.refl _,fun i _ h=>by omega,fun i d _=>(h.2 i d).1⟩
  | succ k D=>
   intro V
   obtain ⟨σ1,f,p,l,t⟩:=D (by omega)
   have c:k<a.length:=by omega
   have C:Y3 σ1 w a[k] (bools n (m k)):=⟨t k c (Nat.le_refl _),(h.2 k c).2⟩
   obtain ⟨M,E,z,u,B⟩:=C.keep f (J _ (List.getElem_mem c))
   refine ⟨M,E,p.more ⟨u⟩,fun i d L=>?_,fun i d H=>?_⟩
   ·by_cases e:i=k
    ·subst e;exact z
    ·exact (l i d (by omega)).le u
   ·rw[B]
    ·exact t i d (by omega)
    ·intro e
     have:=List.nodup_iff_pairwise_ne.1 h.1
     rw[List.pairwise_iff_getElem] at this
     exact this k i c d (by omega) e.symm
 obtain ⟨σ1,f,p,l,_⟩:=key a.length (Nat.le_refl _)
 refine ⟨σ1,f,p,fun i d=>⟨some ⟨a[i],0,none⟩,n,by simp,by simp,by simp only[maxLen];omega,fun e=>(by cases e),?_⟩⟩
 intro b O
 obtain rfl:=Option.some.inj O
 refine ⟨fun _=>rfl,fun j x o=>?_⟩
 have r:j<n:=by have:=(List.getElem?_eq_some_iff.1 o).1;simpa using this
 obtain ⟨U,arr,e,N,Q,A⟩:=l i d d
 have q:x=m i j:=by simp[r] at o;exact o.symm
 refine ⟨[.bool x],⟨K3 rfl _,arr,e,N,by rw[C1];exact Q,fun k v g=>?_⟩,rfl,rfl⟩
 obtain rfl:k=0:=by cases k with
  | zero=>rfl
  | succ k=>simp at g
 simp at g
 rw[Qg,←g,q]
 have:=A j _ (Q4i r)
 simpa using this
end Go.Emb

namespace Go.Emb
open Go.RowKit Go.Hm
variable {P : Program} {w w0 w1 w' w'' : World} {K : Value → World → Prop} {σ σ0 σ1 σ' : Q6}
theorem Q1t {t e:TypeId} {sz c:Nat} {z:Value} [ts:TS P t e] [tz:TZ P e sz c z] {a:Addr} {n b i:Nat} (f:i<n) (d:K (.pointer (some (a.add (i*sz)))) w):indexAddr P t (.slice (some a) n b) (I i) w K:=by
 rw[Cj (by omega) (by omega)]
 simpa using d
theorem Xe.nx {D:Nat→Prop} {a:List Nat} {n:Nat} {m:Nat→Nat→Bool} (h:Xe σ w a n m) (k:Nxt D w σ w' σ') (d: ∀b∈a,¬D b):Xe σ' w' a n m:=
 ⟨h.1,fun i c=>(h.2 i c).nx k (d _ (List.getElem_mem c))⟩
theorem Xe.set {a:List Nat} {n i j:Nat} {b:Bool} {m:Nat→Nat→Bool} (h:Xe σ w a n m) (f:i<a.length) (o:Upd w a[i] w') (g:Y3 σ w' a[i] ((bools n (m i)).set j (.bool b))):Xe σ w' a n (Fi m i j b):=by
 refine ⟨h.1,fun k c=>?_⟩
 by_cases e:k=i
 ·subst e
  rw[Q4u] at g
  have:Fi m k j b k=fun x=>if x=j then b else m k x:=by funext x;simp[Fi]
  rw[this];exact g
 ·have:Fi m i j b k=m k:=by funext x;simp[Fi,e]
  rw[this]
  refine (h.2 k c).upd o fun d=>e ?_
  rcases Nat.lt_trichotomy k i with hlt | hlt | hlt
  ·have:=List.nodup_iff_pairwise_ne.1 h.1
   rw[List.pairwise_iff_getElem] at this
   exact absurd d (this k i c f hlt)
  ·exact hlt
  ·have:=List.nodup_iff_pairwise_ne.1 h.1
   rw[List.pairwise_iff_getElem] at this
   exact absurd d.symm (this i k f c hlt)
end Go.Emb
namespace Go.Proofs.YtjdiakhipmggjaaGreatDoor
open Go.Emb Go.RowKit Go.Kd Go.Hm
variable {w : World} {K : Value → World → Prop} {σ : Q6} {l : List Cla} {v : Value}
def Nr (l:List Cla) (i j:Nat):Bool:=match l[i]? with
 | none=>false
 | some c=>(U3 c).any fun u=>decide (Z2 l u=some j)
theorem Q9M (l:List Cla) (i j:Nat):Nr l i j=true↔Hm.Edge l i j:=by
 unfold Nr Hm.Edge
 cases h:l[i]? with
 | none=>simp
 | some c=>simp[List.any_eq_true]
theorem Q91 {l:List Cla} {i j:Nat} (h:l.length≤i):Nr l i j=false:=by
 unfold Nr
 rw[List.getElem?_eq_none h]
set_option maxHeartbeats 4000000 in
theorem Q0K (hs:X3 w σ) (hl:Sl 8 V0 σ v l) (ho:A4 l) (hpos:0<l.length) (hlen:l.length≤1000) (hsm: ∀c∈l,Qo c)
 (h: ∀v' w' σ',Stp w σ w' σ'→Sl 1 Q68 σ' v' (I8 l)→K v' w'):Q1 P F.al [v] w K:=Kk (by
 unfold Nz
 refine Hb (R:=Q5C l.length) (e:=T.a6) (Stp.refl hs) (by decide) fun x0 w1 hk1 ha1 _=>?_
 refine E7 l.length (fun n x w'=> ∃σ' bs,Stp w σ w' σ'∧V6 w.heap.size T.a6 1 (Q5C l.length) σ' w' x bs∧Xe σ' w' bs l.length (Nr l)∧bs.length=n∧ ∀b∈bs,w.heap.size≤b∧x.ownBlock≠some b) ⟨σ,[],hk1,ha1,⟨List.nodup_nil,by simp⟩,rfl,by simp⟩ fun n x w2 d hn hinv=>?_
 obtain ⟨σ2,bs,hS2,ha2,hM2,hbl,hb2⟩:=hinv
 refine Q8 (hl.up hS2) ?_
 refine Z1 ?_
 refine Q7 (fun hc=>?_) (fun hc=>?_)
 ·have hn':n<l.length:=by simpa using hc
  have hl2:=hl.up hS2
  refine Q8 hl2 ?_
  refine X36 hS2.sat rfl (by omega) (by omega) fun b w3 hb3 hk3 hm3=>?_
  rw[Q6u] at hm3
  obtain ⟨lv,fv,mv,p1,r1⟩:=hl2.elC hn'
  obtain ⟨g1,_,_,g4,g5⟩:=r1.parts
  have hsmc:=hsm _ (List.getElem_mem hn')
  have hs3:=hk3.sat
  refine J9 hs3 ?_
  (repeat refine J3 Qe ?_)
  refine Q1A (w:=w3) (σ:=σ2) (R:=U8) (sz:=1) (e:=T.c) [l[n].super] (fun t w hb e=>?_) ?_
  ·subst e;exact Zf hb.stp [_] [l[n].super] rfl rfl (by simp;rfl) rfl ⟨⟨rfl,g5⟩,trivial⟩ fun v' w' hk ha _=>Q3i hb hk ha
  (repeat refine J3 Qe ?_)
  rintro t24 t25 t30 t31 t26 t27 t32 w4 hb4 rfl rfl rfl rfl rfl ⟨f27,a27⟩ rfl
  refine Wl f27 a27 g1 rfl (by simp;have:=hsmc.1;omega) (by simp;have:=hsmc.1;omega) fun v5 w5 hn5 hS5 ha5 hat5=>?_
  obtain ⟨σ6,hS6,hv6,le6,_⟩:=ha5.keep hS5
  have hv6:Sl 1 U8 σ6 v5 (U3 l[n]):=hv6
  have hb3w:w.heap.size≤b:=Nat.le_trans hS2.bel.size hb3
  have hm6:=hm3.up hS6
  have ha6:=(ha2.up hk3).up hS6
  have hM6:=(hM2.up hk3).up hS6
  have hS26:=(hS2.trans hk3).trans hS6
  have hxb: ∀k,x.ownBlock=some k→k≠b:=fun k e=>by have:=(ha2.mem k e).2.1;omega
  have hbbs:b∉bs:=fun e=>by have:=(hM2.lt e).1;omega
  clear hm3 ha2 hM2 hS6 hS5 ha5 a27 f27 hn5 hat5
  refine U2 (U3 l[n]).length (fun k w'=>Stp w σ w' σ6∧V6 w.heap.size T.a6 1 (Q5C l.length) σ6 w' x bs∧Xe σ6 w' bs l.length (Nr l)∧Y3 σ6 w' b (bools l.length fun j=>((U3 l[n]).take k).any fun u=>decide (Z2 l u=some j)))
   ⟨hS26,ha6,hM6,hm6⟩ fun k w7 d7 hk hinv=>?_
  obtain ⟨hS7,ha7,hM7,hm7⟩:=hinv
  refine Q8 hv6 ?_
  refine Z1 ?_
  refine Q7 (fun hc=>?_) (fun hc=>?_)
  ·have hk':k<(U3 l[n]).length:=by simpa using hc
   refine U6 ?_
   refine Y1 hv6 hk' ?_
   obtain ⟨p2,p3⟩:=hv6.elS hk'
   refine X7 hS7.sat p2 rfl ?_
   refine K0 hS7.sat (hl.up hS7) ?_
   refine P4 ?_
   rw[A5]
   have hnx: ∀f:Nat→Bool,(∀j,f j=(((U3 l[n]).take k).any (fun u=>decide (Z2 l u=some j))||decide (Z2 l (U3 l[n])[k]=some j)))→f=fun j=>((U3 l[n]).take (k+1)).any fun u=>decide (Z2 l u=some j):=by
    intro f hf;funext j;rw[hf,L2 hk']
   cases hfc:Z2 l (U3 l[n])[k] with
   | none=>
    simp only[Option.isSome_none,↓M1,M1,Mb,reduceIte]
    intro d
    refine Y5 hv6.max hk' ⟨hS7,ha7,hM7,?_⟩
    rw[←hnx (fun j=>((U3 l[n]).take k).any fun u=>decide (Z2 l u=some j)) (fun j=>by rw[hfc];simp)]
    exact hm7
   | some j=>
    have hj:=(S8 hfc).1
    simp only[Option.isSome_some,L6,↓M1,M1,Mb,reduceIte]
    refine Q1t hj ?_
    rw[Nat.mul_one]
    refine Jy hm7 (by rw[Q0h];exact hj) (by rfl) (by rfl) fun w8 u8 hm8=>?_
    intro d
    rw[Q4u] at hm8
    refine Y5 hv6.max hk' ⟨u8.stp hS7 hb3w hm7.1,ha7.kp (D:=(· =b)) (.of_upd u8 rfl) hxb,hM7.kp (D:=(· =b)) (.of_upd u8 rfl) (fun c hc e=>hbbs (e▸hc)),?_⟩
    rw[←hnx (fun x=>if x=j then true else _) (fun i=>?_)]
    ·exact hm8
    ·rw[hfc]
     by_cases e:i=j
     ·subst e;simp
     ·have: ¬j=i:=fun e'=>e e'.symm
      simp[e,this]
  ·have hk': ¬k<(U3 l[n]).length:=by simpa using hc
   have hk0:k=(U3 l[n]).length:=by omega
   subst hk0
   rw[List.take_of_length_le (Nat.le_refl _)] at hm7
   have hef:(fun j=>(U3 l[n]).any fun u=>decide (Z2 l u=some j))=Nr l n:=by
    funext j;unfold Nr;rw[List.getElem?_eq_getElem hn']
   rw[hef] at hm7
   have hM8:=(hM7.snoc hbbs hm7).congr (m':=Nr l) (fun i _=>by
    by_cases e:i=bs.length
    ·rw[if_pos e,e,hbl]
    ·rw[if_neg e])
   refine Un (R:=Q5C l.length) (x:=b) hS7 ha7 rfl rfl rfl rfl (by omega) (by omega) fun s v' w9 σ9 hnx hS9 ha9 hat=>?_
   have hdis: ∀c∈bs++[b],w.heap.size≤c∧x.ownBlock≠some c:=by
    intro c hc
    rcases List.mem_append.1 hc with hc | hc
    ·exact hb2 c hc
    ·simp at hc;subst hc;exact ⟨hb3w,fun e=>hxb _ e rfl⟩
   have hlt9: ∀c∈bs++[b],c<w7.heap.size:=fun c hc=>(hM8.lt hc).1
   refine O5 ?_
   refine J4 (by omega) hn' ⟨σ9,bs++[b],hS9,ha9,hM8.nx hnx (fun c hc=>(hdis c hc).2),by rw[List.length_append,hbl];rfl,fun c hc=>⟨(hdis c hc).1,fun e=>?_⟩⟩
   rcases hat with hat | hat
   ·exact (hdis c hc).2 (hat▸e)
   ·have:=hat c e;have:=hlt9 c hc;omega
 ·have hn0:n=l.length:=by
   have: ¬n<l.length:=by simpa using hc
   omega
  obtain ⟨σ8,hS8,hv8,le8,old8⟩:=ha2.keep hS2
  have hlb:bs.length=l.length:=by omega
  have hM8:Xe σ8 w2 bs l.length (Nr l):=⟨hM2.1,fun i hi=>⟨(old8 _ (fun e=>(hb2 _ (List.getElem_mem hi)).2 e.symm)).trans (hM2.2 i hi).1,(hM2.2 i hi).2⟩⟩
  have hpx: ∀i (hi:i<bs.length),Z4 σ8 (Vw 1 x i) [.slice (some ⟨bs[i],0,none⟩) l.length l.length]:=fun i hi=>by
   obtain ⟨cs,h1,_,h2⟩:=hv8.el hi
   have h2:cs=_:=h2
   subst h2;exact h1
  clear ha2 hM2 hS2 le8 old8
  refine U2 l.length (fun k w'=> ∃m,Stp w σ w' σ8∧Xe σ8 w' bs l.length m∧Clos (Hm.Edge l) l.length k 0 0 m) ⟨Nr l,hS8,hM8,Clos.start (fun a b _=>Q9M l a b) (fun a b h=>Q91 h)⟩ fun k w3 d3 hk3 hinv=>?_
  obtain ⟨m3,hS3,hM3,hC3⟩:=hinv
  refine Q8 (hl.up hS3) ?_
  refine Z1 ?_
  refine Q7 (fun hc=>?_) (fun hc=>?_)
  ·have hk':k<l.length:=by simpa using hc
   refine U2 l.length (fun i w'=> ∃m,Stp w σ w' σ8∧Xe σ8 w' bs l.length m∧Clos (Hm.Edge l) l.length k i 0 m) ⟨m3,hS3,hM3,hC3⟩ fun i w4 d4 hi4 hinv=>?_
   obtain ⟨m4,hS4,hM4,hC4⟩:=hinv
   refine Q8 (hl.up hS4) ?_
   refine Z1 ?_
   refine Q7 (fun hc=>?_) (fun hc=>?_)
   ·have hi':i<l.length:=by simpa using hc
    refine U2 l.length (fun j w'=> ∃m,Stp w σ w' σ8∧Xe σ8 w' bs l.length m∧Clos (Hm.Edge l) l.length k i j m) ⟨m4,hS4,hM4,hC4⟩ fun j w5 d5 hj5 hinv=>?_
    obtain ⟨m5,hS5,hM5,hC5⟩:=hinv
    refine Q8 (hl.up hS5) ?_
    refine Z1 ?_
    refine Q7 (fun hc=>?_) (fun hc=>?_)
    ·have hj':j<l.length:=by simpa using hc
     have hi6:i<bs.length:=by omega
     have hk6:k<bs.length:=by omega
     have px_i:=hpx i hi6
     have px_k:=hpx k hk6
     have hrd: ∀{w':World} {K:Value→World→Prop} {a b:Nat} {ha:a<bs.length},Hst w5 σ8 w' σ8→b<l.length→K (.bool (m5 a b)) w'→Q2 P T.u (.pointer (some ((⟨bs[a],0,none⟩:Addr).add (b*1)))) w' K:=fun hst hb hK=>by
      rw[Nat.mul_one]
      exact Qi (((hM5.up hst.stp).2 _ _).cell (Q4i hb)) hK
     refine J9 hS5.sat ?_
     (repeat (apply J3;(· intros;(repeat (rename_i hx;subst hx));(repeat' (first | (with_reducible exact M5 rfl) | (with_reducible exact R8 (Stp.bel (by (repeat (first | exact Stp.refl (by (first | assumption | exact Stp.sat (by assumption) | exact Hst.sat (by assumption))) | assumption | refine Stp.trans ?_ (by first | assumption | exact Hst.stp (by assumption)))))) rfl) | (with_reducible intro _) | (simp only[↓M2,M2,Mb,reduceIte]) | (with_reducible refine Q1t au ?_) | (with_reducible refine hrd au au ?_) | (with_reducible show Q2 _ _ _ _ _;first | refine X7 aS aL aR ?_ | refine Y2 aS aL aR ?_ | refine ld aS aL aR ?_) | (with_reducible show indexAddr _ _ _ _ _ _;refine Y1 aL au ?_) | (with_reducible show X2 _ _ _ _ _ _ _ _;refine Q8 aL ?_) | (with_reducible show F2 _ _ _ _ _ _;refine Z9 aR ?_) | (with_reducible show pick _ _ _ _ _ _;refine L8 ?_) | (apply F4;intro hh;(try simp only[hh,reduceIte,↓M2,M2,Mb,reduceIte]))));done)))
     cases h1:m5 i j
     ·simp only[reduceIte]
      (repeat (apply J3;(· intros;(repeat (rename_i hx;subst hx));(repeat' (first | (with_reducible exact M5 rfl) | (with_reducible exact R8 (Stp.bel (by (repeat (first | exact Stp.refl (by (first | assumption | exact Stp.sat (by assumption) | exact Hst.sat (by assumption))) | assumption | refine Stp.trans ?_ (by first | assumption | exact Hst.stp (by assumption)))))) rfl) | (with_reducible intro _) | (simp only[↓M2,M2,Mb,reduceIte]) | (with_reducible refine Q1t au ?_) | (with_reducible refine hrd au au ?_) | (with_reducible show Q2 _ _ _ _ _;first | refine X7 aS aL aR ?_ | refine Y2 aS aL aR ?_ | refine ld aS aL aR ?_) | (with_reducible show indexAddr _ _ _ _ _ _;refine Y1 aL au ?_) | (with_reducible show X2 _ _ _ _ _ _ _ _;refine Q8 aL ?_) | (with_reducible show F2 _ _ _ _ _ _;refine Z9 aR ?_) | (with_reducible show pick _ _ _ _ _ _;refine L8 ?_) | (apply F4;intro hh;(try simp only[hh,reduceIte,↓M2,M2,Mb,reduceIte]))));done)))
      (intros;(repeat (rename_i hx;subst hx));(try simp only[↓M2,M2,Mb,reduceIte]))
      rename_i w6 hb6
      refine Q1t hj' ?_
      rw[Nat.mul_one]
      refine Eq.subst (motive:=fun V=>Y0 P T.u (.pointer (some ((⟨bs[i],0,none⟩:Addr).add j))) V w6 _) (show Value.bool (m5 i j||(m5 i k&&m5 k j))=_ from by cases h2:m5 i k<;>simp[h1,h2]) ?_
      refine Jy ((hM5.up hb6.stp).2 i hi6) (by rw[Q0h];exact hj') (by rfl) (by rfl) fun w7 u7 hm7=>?_
      (try simp only[↓M1,M1,Mb,reduceIte])
      exact Y5 (by omega) hj' ⟨_,u7.stp (hS5.trans hb6.stp) (hb2 _ (List.getElem_mem hi6)).1 hm7.1,(hM5.up hb6.stp).set hi6 u7 hm7,hC5.next hk' hi' hj'⟩
     ·simp only[Bool.true_eq_false,reduceIte]
      (repeat (apply J3;(· intros;(repeat (rename_i hx;subst hx));(repeat' (first | (with_reducible exact M5 rfl) | (with_reducible exact R8 (Stp.bel (by (repeat (first | exact Stp.refl (by (first | assumption | exact Stp.sat (by assumption) | exact Hst.sat (by assumption))) | assumption | refine Stp.trans ?_ (by first | assumption | exact Hst.stp (by assumption)))))) rfl) | (with_reducible intro _) | (simp only[↓M2,M2,Mb,reduceIte]) | (with_reducible refine Q1t au ?_) | (with_reducible refine hrd au au ?_) | (with_reducible show Q2 _ _ _ _ _;first | refine X7 aS aL aR ?_ | refine Y2 aS aL aR ?_ | refine ld aS aL aR ?_) | (with_reducible show indexAddr _ _ _ _ _ _;refine Y1 aL au ?_) | (with_reducible show X2 _ _ _ _ _ _ _ _;refine Q8 aL ?_) | (with_reducible show F2 _ _ _ _ _ _;refine Z9 aR ?_) | (with_reducible show pick _ _ _ _ _ _;refine L8 ?_) | (apply F4;intro hh;(try simp only[hh,reduceIte,↓M2,M2,Mb,reduceIte]))));done)))
      (intros;(repeat (rename_i hx;subst hx));(try simp only[↓M2,M2,Mb,reduceIte]))
      rename_i w6 hb6
      refine Q1t hj' ?_
      rw[Nat.mul_one]
      refine Eq.subst (motive:=fun V=>Y0 P T.u (.pointer (some ((⟨bs[i],0,none⟩:Addr).add j))) V w6 _) (show Value.bool (m5 i j||(m5 i k&&m5 k j))=_ from by simp[h1]) ?_
      refine Jy ((hM5.up hb6.stp).2 i hi6) (by rw[Q0h];exact hj') (by rfl) (by rfl) fun w7 u7 hm7=>?_
      (try simp only[↓M1,M1,Mb,reduceIte])
      exact Y5 (by omega) hj' ⟨_,u7.stp (hS5.trans hb6.stp) (hb2 _ (List.getElem_mem hi6)).1 hm7.1,(hM5.up hb6.stp).set hi6 u7 hm7,hC5.next hk' hi' hj'⟩
    ·have hj0:j=l.length:=by
      have: ¬j<l.length:=by simpa using hc
      omega
     subst hj0
     refine O5 ?_
     exact Y5 (by omega) hi' ⟨m5,hS5,hM5,hC5.row⟩
   ·have hi0:i=l.length:=by
     have: ¬i<l.length:=by simpa using hc
     omega
    subst hi0
    refine O5 ?_
    exact Y5 (by omega) hk' ⟨m4,hS4,hM4,hC4.round⟩
  ·have hk0:k=l.length:=by
    have: ¬k<l.length:=by simpa using hc
    omega
   subst hk0
   obtain ⟨σ9,hS9,le9,hrows⟩:=hM3.keep hpos (by omega) hS3 (fun b hb=>(hb2 b hb).1)
   refine h _ _ _ hS9 ((hv8.lift le9).conv (by simp[I8,hlb]) fun i hi hj cs hcs=>?_)
   have hcs:cs=_:=hcs
   subst hcs
   refine ⟨_,rfl,?_⟩
   have:=hrows i hi
   have he:(I8 l)[i]=(List.range l.length).map (m3 i):=by
    have hi':i<l.length:=by omega
    simp only[I8,List.getElem_map,List.getElem_range]
    apply List.map_congr_left
    intro j hj
    exact (Clos.all ho hC3 hi' (by simpa using hj)).symm
   rw[he];exact this)
end Go.Proofs.YtjdiakhipmggjaaGreatDoor

namespace Go.Emb
open Go.RowKit Go.Hm
end Go.Emb
namespace Go.Hm
end Go.Hm
namespace Go.Proofs.YtjdiakhipmggjaaGreatDoor
open Go.Emb Go.RowKit Go.Kd Go.Hm
variable {w : World} {K : Value → World → Prop} {σ : Q6} {l : List Cla}
end Go.Proofs.YtjdiakhipmggjaaGreatDoor

namespace Go.Emb
open Go.RowKit Go.Hm
variable {w w0 w1 w' w'' : World} {σ σ0 σ1 σ2 σ' : Q6}
theorem Stp.weak (h:Stp w σ1 w' σ2) (a: ∀b o,σ b=some o→σ1 b=some o):Stp w σ w' σ:=
 ⟨h.bel,fun b o e=>h.sat b o (h.le b o (a b o e)),fun _ _ e=>e,fun _ _=>rfl⟩
end Go.Emb
namespace Go.Proofs.YtjdiakhipmggjaaGreatDoor
open Go.Emb Go.RowKit Go.Kd Go.Hm
variable {w : World} {K : Value → World → Prop} {σ : Q6}
end Go.Proofs.YtjdiakhipmggjaaGreatDoor

namespace Go.Emb
open Go.RowKit Go.Hm
variable {w w' : World} {σ σ' : Q6}
theorem J7.raise {α:Type} {R:Q6→α→List Value→Prop} {B B' sz:Nat} {e:TypeId} {v:Value} {xs:List α} (h:J7 B' e sz R σ w v xs) (m: ∀k,v.ownBlock=some k→B≤k):J7 B e sz R σ w v xs:=by
 obtain ⟨a,i,rfl,n,r,d,o⟩:=h
 refine ⟨a,i,rfl,n,r,fun b c=>⟨(d b c).1,m _ (by subst c;rfl),(d b c).2.2⟩,fun p=>?_⟩
 obtain ⟨g,j,f,rfl,s,q⟩:=o p
 exact ⟨g,j,f,rfl,m g rfl,q⟩
end Go.Emb
namespace Go.Proofs.YtjdiakhipmggjaaGreatDoor
open Go.Emb Go.RowKit Go.Kd Go.Hm
variable {w w' : World} {K : Value → World → Prop} {σ σ' : Q6} {hp tv : Value} {room : Int} {cs : List Cel} {l : List Cla}
theorem RowsIs.rows {B:Nat} {D:Nat→Prop} {m:Value} (h:RowsIs B D σ w m cs) (z:X3 w σ): ∃vs σ',vs.length=cs.length∧X3 w σ'∧SLe σ σ'∧Sl 2 Q3S σ' m (T7 vs cs)∧(∀i (h:i<vs.length) (y:i<cs.length),J7 B T.g 4 N0 σ w vs[i] cs[i].vals∧ ∀k,vs[i].ownBlock=some k→D k)∧(∀k,¬D k→σ' k=σ k)∧
 ∀i (h:i<vs.length) (y:i<cs.length) vals' g,Kpt (fun k=>vs[i].ownBlock=some k) w g→J7 B T.g 4 N0 σ g vs[i] vals'→RowsIs B D σ g m (cs.set i ⟨cs[i].kind,vals'⟩):=by
 obtain ⟨vs,t,f,u,hD⟩:=h.ex
 obtain ⟨q,r⟩:=List.pairwise_cons.1 u
 obtain ⟨σ',A,C,E,o1⟩:=t.freeze z
 refine ⟨vs,σ',f.1,A,C,E,fun i c d=>⟨f.2 i c d,fun k b=>(hD k).2 ⟨vs[i],by simp[List.getElem_mem c],b⟩⟩,fun k b=>o1 k fun e=>b ((hD k).2 ⟨m,by simp,e.symm⟩),fun i c d vals' g b v=>⟨vs,?_,⟨by simpa using f.1,fun j o s=>?_⟩,u,hD⟩⟩
 ·have e:T7 vs (cs.set i ⟨cs[i].kind,vals'⟩)=T7 vs cs:=by
   refine List.ext_getElem (by simp[T7]) fun j H J=>?_
   simp only[T7,List.getElem_zipWith,List.getElem_set]
   split
   ·rename_i e;subst e;rfl
   ·rfl
  rw[e]
  exact t.kp b fun k a n=>q _ (List.getElem_mem c) k a n
 ·have p:j<cs.length:=by simpa using s
  simp only[List.getElem_set]
  by_cases e:i=j
  ·subst e;simp only[if_pos];exact v
  ·simp only[if_neg e]
   refine (f.2 j o p).kp b fun k a n=>?_
   have hp:=List.pairwise_iff_getElem.1 r
   rcases Nat.lt_or_gt_of_ne e with hlt | hlt
   ·exact hp i j c o hlt k n a
   ·exact hp j i o c hlt k a n
theorem Q4g {i:Nat} (a:i<cs.length) {vals':List Val} (h:vals'.length=cs[i].vals.length):Y9 (cs.set i ⟨cs[i].kind,vals'⟩)=Y9 cs:=by
 unfold Y9
 rw[List.map_set]
 simp only[h]
 have b:1+(cs[i].vals.length:Int)=(cs.map (fun c=>1+(c.vals.length:Int)))[i]'(by simpa using a):=by simp
 rw[b,List.set_getElem_self]
set_option maxHeartbeats 1000000 in
theorem Q8H {B:Nat} {D:Nat→Prop} {r i:Int} {v:Val} (hs:X3 w σ) (hg:Glb σ) (h:HeapIs B D σ w hp tv room cs) (ht:Tab σ tv l) (ok:Ok l) (good: ∀c∈cs,GoodC W3 l cs c) (hv:N0 σ v [I v.sort,I v.n,S v.s,I v.ref])
 (hh: ∀w' σ',Nxt D w σ w' σ'→HeapIs B D σ' w' hp tv room (L7 W3 l cs r i v).1→K (I (L7 W3 l cs r i v).2) w'):Q1 P F.aG [hp,I r,I i, .agg [I v.sort,I v.n,S v.s,I v.ref].toArray] w K:=Q1P (by
 unfold Hq
 refine Z0 hs fun q w1 σ1 hk1 hq=>?_
 have h1:=h.up hk1
 have hs1:=hk1.sat
 obtain ⟨σf,sf,lef,hsl,_⟩:=h1.freeze hs1
 refine Q7d sf hsl ?_
 unfold L7 at hh
 refine Zb ?_
 by_cases h0:M4 cs r i=0
 case neg=>
  have e:decide (M4 cs r i=0)=false:=decide_eq_false h0
  rw[if_pos h0] at hh
  rw[e]
  refine J6 ?_
  exact hh _ _ (.of_stp hk1) h1
 have e:decide (M4 cs r i=0)=true:=decide_eq_true h0
 rw[if_neg (fun hn=>hn h0)] at hh
 rw[e]
 refine Z6 ?_
 obtain ⟨j,m,rfl,rfl,hj,hm⟩:=Uj h0
 rw[W4 hj,Int.toNat_natCast] at hh
 have hsl0:=hsl
 obtain ⟨a,lv,rfl,la,ls⟩:=hsl
 obtain ⟨vv,p1,p2,p3⟩:=Sl.elO ls hj
 have hqf:=hq.lift lef
 have lesf:SLe σ σf:=SLe.more ⟨hk1.le⟩ lef
 have htf:=ht.lift lesf
 have hone:vv.cells= #[vv]∧vv.oneCell'=true:=by obtain ⟨a,c,rfl,_⟩:=p2;exact ⟨rfl,rfl⟩
 have hgc:=good cs[j] (List.getElem_mem hj)
 have hif:elem cs[j].kind=[]→m<(Y6 l cs[j].kind).length:=fun e=>by
  rcases hgc.is with h | h
  ·exact absurd e h
  ·rw[←h.2];exact hm
 refine J9 sf ?_
 (repeat (apply J3;(· intros;(repeat (rename_i hx;subst hx));(repeat' (first | (with_reducible exact M5 rfl) | (with_reducible exact R8 (Stp.bel (by (repeat (first | exact Stp.refl (by (first | assumption | exact Stp.sat (by assumption) | exact Hst.sat (by assumption))) | assumption | refine Stp.trans ?_ (by first | assumption | exact Hst.stp (by assumption)))))) rfl) | (with_reducible intro _) | (simp only[↓M2,M2,Mb,reduceIte]) | (with_reducible show Q2 _ _ _ _ _;first | refine X7 aS aL aR ?_ | refine Y2 aS aL aR ?_ | refine ld aS aL aR ?_) | (with_reducible show indexAddr _ _ _ _ _ _;refine Y1 aL au ?_) | (with_reducible show X2 _ _ _ _ _ _ _ _;refine Q8 aL ?_) | (with_reducible show F2 _ _ _ _ _ _;refine Z9 aR ?_) | (with_reducible show pick _ _ _ _ _ _;refine L8 ?_) | (with_reducible show Q1 _ _ _ _ _;first | refine Q9Q au au au au au au au ?_) | (apply F4;intro hh;(try simp only[hh,reduceIte,↓M2,M2,Mb,reduceIte]))));done)))
 (intros;(repeat (rename_i hx;subst hx)))
 rename_i w2 hb2
 refine Q9A hb2.sat (hg.lift lesf) hsl0 htf ok hv.2.2.2.1 (Q2F ok p3 m) fun w3 σ3 hk3=>?_
 have hk13:=(hb2.stp.trans hk3).weak lef.le
 have h3:=h1.up hk13
 have hS3:=hk1.trans hk13
 have hs3:=hk13.sat
 refine Wn ?_
 cases hf:F5 W3 l cs v (Xk l cs[j].kind m) with
 | false=>
  rw[hf] at hh
  simp only[Bool.false_eq_true,if_false] at hh
  refine J6 ?_
  exact hh _ _ (.of_stp hS3) h3
 | true=>
  rw[hf] at hh
  simp only[if_true] at hh
  refine Z6 ?_
  obtain ⟨b,lv',E,hpe,hbB,hm3,hr3,hE,hD⟩:=h3.ex
  obtain ⟨vs,σg,hvl,sg,leg,slg,hrow,hog,hset⟩:=hr3.rows hs3
  obtain ⟨σh,sh,leh,lih,_⟩:=(show Y3 σg w3 b _ from ⟨(hog b hE).trans hm3.1,hm3.2⟩).freeze sg
  cases hpe
  have slh:=slg.lift leh
  have hqh:=(hq.up hk13).lift (leg.more leh)
  have hjv:j<vs.length:=by rw[hvl];exact hj
  have hjo:j<(T7 vs cs).length:=by rw[Wq hvl];exact hj
  obtain ⟨cs5,p5,_,r5⟩:=slh.el hjo
  have eo:(T7 vs cs)[j]=(cs[j].kind,vs[j]):=by simp[T7]
  rw[eo] at r5
  obtain ⟨rfl,_⟩:=r5
  refine J9 sh ?_
  (repeat refine J3 Qe ?_)
  (intros;(repeat (rename_i hx;subst hx)))
  rename_i w4 hb4
  have hk34:=Stp.of_below hs3 hb4.stp.bel
  have N34:Nxt (fun _=>False) w3 σ1 w4 σ1:= .of_stp hk34
  obtain ⟨hrj,hrD⟩:=hrow j hjv hj
  have hrj4:=hrj.up hk34
  have hv1:N0 σ1 v [I v.sort,I v.n,S v.s,I v.ref]:=hv
  refine Q1n (w0:=Bl w4) (σ0:=fun _=>none) (x:=v) (Xb hk34.sat) (hrj4.mono (Nat.zero_le B)) hm rfl hv1 (Rep.one hv1) fun p u w5 hkp hb5 hq5=>?_
  have hkp5:Kpt (fun k=>vs[j].ownBlock=some k) w3 w5:=(Kpt.of_below hk34.bel).trans hkp
  have hr5:=hset j hjv hj _ w5 hkp5 (hq5.raise fun k hk=>(hrj.mem hk).1)
  have N35:Nxt (fun k=>vs[j].ownBlock=some k) w3 σ1 w5 σ1:=⟨hkp5,SLe.refl _,fun _ _=>rfl,hb5.sat⟩
  have hm5:=hm3.nx N35 fun e=>hE (hrD b e)
  have hsv:B8 cs j m v=cs.set j ⟨cs[j].kind,cs[j].vals.set m v⟩:=by unfold B8;rw[W4 hj,Int.toNat_natCast,Int.toNat_natCast]
  rw[hsv] at hh
  have htk:=Q4g hj (vals':=cs[j].vals.set m v) (by simp)
  refine hh w5 σ1 ((Nxt.of_stp hS3).chain N35 fun k _ e=>(hD k).2 (.inr (hrD k e))) ⟨b,lv',E,rfl,hbB,?_,hr5,hE,hD⟩
  rw[htk];exact hm5)
end Go.Proofs.YtjdiakhipmggjaaGreatDoor

namespace Go.Emb
open Go.RowKit Go.Hm
variable {P : Program} {w w' : World} {K : Value → World → Prop} {σ σ' : Q6}
theorem X40 {c:List TypeId} {t:TypeId} {cs:List Bool} {k:IntKind} {a b:Int} (h:K (.int k (max a b)) w):X2 P .max c t cs [.int k a, .int k b] w K:=by
 have d:(builtin .max c.toArray t cs.toArray #[.int k a, .int k b]).run P w= .ok (.value (.int k (max a b))) w:=by
  have:=run_max_int2 (P:=P) (w:=w) c.toArray t k k a b
  have e:(if b>a then b else a)=max a b:=by split<;>omega
  rw[e] at this
  simp[builtin,this]
 unfold X2
 rw[T9];unfold P5
 rw[d];exact h
theorem X1s {c:List TypeId} {t:TypeId} {cs:List Bool} {k:IntKind} {a b:Int} (h:K (.int k (min a b)) w):X2 P .min c t cs [.int k a, .int k b] w K:=by
 have d:(builtin .min c.toArray t cs.toArray #[.int k a, .int k b]).run P w= .ok (.value (.int k (min a b))) w:=by
  have:=run_min_int2 (P:=P) (w:=w) c.toArray t k k a b
  have e:(if b<a then b else a)=min a b:=by split<;>omega
  rw[e] at this
  simp[builtin,this]
 unfold X2
 rw[T9];unfold P5
 rw[d];exact h
theorem X3Q {α:Type} {R:Q6→α→List Value→Prop} {B sz:Nat} {e:TypeId} {v:Value} {xs ys:List α} {t:TypeId} {d:Nat} {z:Value} [ts:TS P t e] [tz:TZ P e sz d z] (h:J7 B e sz R σ w v (xs++ys))
 (k: ∀f,J7 B e sz R σ w f xs→f.ownBlock=v.ownBlock→K f w):S1 P t v none (some (I xs.length)) none w K:=by
 have j:=h
 obtain ⟨a,b,rfl,i,p,g,o⟩:=j
 rw[List.length_append] at i
 have c:J7 B e sz R σ w (.slice a xs.length b) xs:=h.pre rfl
 generalize (xs++ys).length=N at*
 have hh: ∀w:World,(Instr.sliceBounds true N b none (some (I xs.length)) none).run P w= .ok (0,xs.length,b) w:=by
  intro w
  have q:(xs.length:Int)≤b:=by omega
  have n:xs.length≤b:=by omega
  simp[Instr.sliceBounds,Instr.sliceBound,asIntOf,n]
  try (intros;omega)
 unfold S1
 have:(Instr.sliceAt t (.slice a N b) none (some (I xs.length)) none).run P w= .ok (.slice (if b=0 then a else a.map (·.add (0*sz))) (xs.length-0) (b-0)) w:=by
  simp[Instr.sliceAt,run_underlying ts.h,Instr.slice,hh,L4 tz]
 rw[X9 this]
 have m:(if b=0 then a else a.map (·.add (0*sz)))=a:=by
  split
  ·rfl
  ·cases a<;>simp[add_zero]
 rw[m,Nat.sub_zero,Nat.sub_zero]
 exact k _ c (by cases a<;>rfl)
end Go.Emb
namespace Go.Proofs.YtjdiakhipmggjaaGreatDoor
open Go.Emb Go.RowKit Go.Kd Go.Hm
variable {w w' : World} {K : Value → World → Prop} {σ σ' : Q6} {hp tv : Value} {room : Int} {cs : List Cel} {l : List Cla}
theorem X2S {v:Val} {ds:List Value} {n:Int} {q:Addr} (d:X3 w σ) (c:N0 σ v ds) (f:Z4 σ q [I n]) (h: ∀w',Below w.heap.size w w'→K (.bool (I0 n v)) w'):Q1 P F.bG [.agg ds.toArray, .pointer (some q)] w K:=An (by
 obtain ⟨rfl,_⟩:=c
 unfold On
 refine Z0 d fun g w1 σ1 a b=>?_
 unfold I0 at h
 refine V7 ?_
 refine ld a.sat b rfl ?_
 refine I2 ?_
 by_cases e:v.sort=4
 ·rw[decide_eq_true e] at h⊢
  (try simp only[↓M1,M1,Mb,reduceIte])
  refine ld a.sat b rfl ?_
  refine X7 a.sat (f.up a) rfl ?_
  (try simp only[↓M1,M1,Mb,reduceIte])
  exact h _ a.bel
 ·rw[decide_eq_false e] at h⊢
  (try simp only[↓M1,M1,Mb,reduceIte])
  exact h _ a.bel)
theorem Q9y {vs:List Value} {c:Cel} (h:vs.length=cs.length+1): ∃v,T7 vs (cs++[c])=T7 (vs.take cs.length) cs++[(c.kind,v)]:=by
 refine ⟨vs[cs.length],?_⟩
 have e:vs=vs.take cs.length++[vs[cs.length]]:=by
  rw[List.take_append_getElem (by omega)]
  rw[List.take_of_length_le (by omega)]
 conv=>lhs;rw[e]
 unfold T7
 rw[List.zipWith_append (by simp;omega)]
 rfl
theorem X3M {B n:Nat} {D:Nat→Prop} {e:Value} {c:Cel} (t:n=cs.length) (h:RowsIs B D σ w e (cs++[c])) (y: ∀a D',RowsIs B D' σ w a cs→(∀j,D' j→D j)→K a w):S1 P T.f e none (some (I n)) none w K:=by
 subst t
 obtain ⟨vs,r,q,A,hD⟩:=h.ex
 have b:vs.length=cs.length+1:=by rw[q.1];simp
 obtain ⟨C,z⟩:=Q9y (c:=c) b
 rw[z] at r
 have u:cs.length=(T7 (vs.take cs.length) cs).length:=by rw[Wq (by simp[b])]
 rw[u]
 refine X3Q r fun a f s=>?_
 refine y a (fun k=> ∃v∈a::vs.take cs.length,v.ownBlock=some k) ⟨vs.take cs.length,f,⟨by simp[b],fun i E p=>?_⟩,?_,fun k=>Iff.rfl⟩ ?_
 ·have m:i<vs.length:=by omega
  have:=q.2 i m (by simp;omega)
  rw[List.getElem_append_left p] at this
  simpa using this
 ·obtain ⟨g,o⟩:=List.pairwise_cons.1 A
  exact List.pairwise_cons.2 ⟨fun v hv k d=>g v (List.mem_of_mem_take hv) k (s▸d),o.sublist (List.take_sublist _ _)⟩
 ·rintro k ⟨v,hv,d⟩
  rcases List.mem_cons.1 hv with rfl | hv
  ·exact (hD k).2 ⟨e,by simp,s▸d⟩
  ·exact (hD k).2 ⟨v,by simp[List.mem_of_mem_take hv],d⟩
set_option maxHeartbeats 2000000 in
theorem X3K {B:Nat} {D:Nat→Prop} {n:Int} (hs:X3 w σ) (h:HeapIs B D σ w hp tv room cs) (hl:Y9 cs≤1048576) (hn:Yw n)
 (hh: ∀w' σ' D',Nxt D w σ w' σ'→HeapIs B D' σ' w' hp tv room (Kl cs n)→(∀j,D' j→D j)→K (.tuple #[]) w'):Q1 P F.c4 [hp,I n] w K:=Q20 (by
 have hcl:=T6 cs
 unfold Hv
 refine Q5i hs fun b0 w1 hb0 hk1 hm1=>?_
 have hm1:Y3 σ w1 b0 [I n]:=hm1
 refine Q8F hm1 rfl ?_
 refine X40 ?_
 refine st0 hm1 (by simp) rfl rfl fun w2 u2 hm2=>?_
 have hm2:Y3 σ w2 b0 [I (max n 0)]:=hm2
 unfold Kl at hh
 obtain ⟨m,hmE⟩:=Int.eq_ofNat_of_zero_le (show 0≤max n 0 by omega)
 rw[hmE] at hm2 hh
 have hmx:(m:Int)≤9223372036854775807:=by have:=hn.2;omega
 have hk2:Stp w σ w2 σ:=u2.stp hk1 hb0 hm1.1
 obtain ⟨σ2,hS2,hq2,le2,_⟩:=hm2.keep hk2 hb0
 have h2:=h.up hS2
 have hs2:=hS2.sat
 obtain ⟨σf,sf,lef,hsl,_⟩:=h2.freeze hs2
 rw[Int.toNat_natCast] at hh
 obtain ⟨a,lv,rfl,la,ls⟩:=hsl
 have hqf:=hq2.le lef.le
 refine J9 sf ?_
 (repeat (apply J3;(· intros;(repeat (rename_i hx;subst hx));(repeat' (first | (with_reducible exact M5 rfl) | (with_reducible exact R8 (Stp.bel (by (repeat (first | exact Stp.refl (by (first | assumption | exact Stp.sat (by assumption) | exact Hst.sat (by assumption))) | assumption | refine Stp.trans ?_ (by first | assumption | exact Hst.stp (by assumption)))))) rfl) | (with_reducible intro _) | (simp only[↓M2,M2,Mb,reduceIte]) | (with_reducible refine X1s ?_) | (with_reducible show Q2 _ _ _ _ _;first | refine X7 aS aL aR ?_ | refine Y2 aS aL aR ?_ | refine ld aS aL aR ?_) | (with_reducible show indexAddr _ _ _ _ _ _;refine Y1 aL au ?_) | (with_reducible show X2 _ _ _ _ _ _ _ _;refine Q8 aL ?_) | (with_reducible show F2 _ _ _ _ _ _;refine Z9 aR ?_) | (with_reducible show pick _ _ _ _ _ _;refine L8 ?_) | (apply F4;intro hh;(try simp only[hh,reduceIte,↓M2,M2,Mb,reduceIte]))));done)))
 (intros;(repeat (rename_i hx;subst hx)))
 rename_i w3 hb3
 have hmin:min (m:Int) (cs.length:Int)=((min m cs.length:Nat):Int):=by omega
 rw[hmin]
 refine Ex ls none (some (I (min m cs.length:Nat))) 0 (min m cs.length) (.inl ⟨rfl,rfl⟩) (.inr rfl) (Nat.zero_le _) (Nat.min_le_right _ _) fun v3 hv3=>?_
 rw[List.drop_zero,Nat.sub_zero,List.take_eq_take_min.symm] at hv3
 refine Q8 hv3 ?_
 have hk23: ∀{w' σ'},Stp w3 σf w' σ'→Stp w2 σ2 w' σ2:=fun hk=>(hb3.stp.trans hk).weak lef.le
 refine U2 (cs.take m).length (fun i w'=> ∃σ',Stp w3 σf w' σ'∧((cs.take m).take i).any (fun c=>c.vals.any (I0 m))=false) ⟨σf,Stp.refl hb3.sat,rfl⟩ fun i w4 d hi hinv=>?_
 obtain ⟨σ4,hk4,hno⟩:=hinv
 refine Z1 ?_
 refine Q7 (fun hc=>?_) (fun hc=>?_)
 ·have hi':i<(cs.take m).length:=by simpa using hc
  have hv4:=hv3.up hk4
  obtain ⟨vv,p1,p2,p3⟩:=Sl.elO hv4 hi'
  refine Y1 hv4 hi' ?_
  refine Y2 hk4.sat p1 rfl ?_
  refine Y7 hk4.sat (by rfl) rfl (Rep.one (R:=H4) ⟨vv,rfl,p2,p3⟩) fun q5 w5 σ5 hk5 hq5=>?_
  rw[fa]
  refine ld hk5.sat hq5 rfl ?_
  rw[Qh]
  have hq5f:=hqf.lift (SLe.more ⟨hk4.le⟩ ⟨hk5.le⟩)
  refine Ch (I0 m) hk5.sat (p2.up hk5) (fun v ds w6 K hv hs6 hr hlen hK=>Z7 (first:=[]) (caps:=[.pointer (some ⟨b0,0,none⟩)]) (X2S hs6 hr hq5f hK)) fun w6 hb6=>?_
  have hk6:=(hk4.trans hk5).trans (Stp.of_below hk5.sat hb6)
  have hnx:=L2 (p:=fun c:Cel=>c.vals.any (I0 m)) hi'
  cases hany:(cs.take m)[i].vals.any (I0 m) with
  | true=>
   refine J6 ?_
   rw[if_pos (S9 hi' hany)] at hh
   have hS:=hS2.trans (hk23 hk6)
   exact hh _ _ D (.of_stp hS) (h.up hS) fun j hj=>hj
  | false=>
   refine Z6 ?_
   refine O5 ?_
   refine Y5 hv3.max hi' ⟨σ5,hk6,?_⟩
   rw[hnx,hno,hany];rfl
 have hi': ¬i<(cs.take m).length:=by simpa using hc
 rw[E5 hi'] at hno
 rw[if_neg (by rw[hno];simp)] at hh
 have hS4:=hS2.trans (hk23 hk4)
 have h4:=h.up hS4
 refine Kv (fun k (_:Unit) w'=> ∃D',Nxt D w σ w' σ2∧HeapIs B D' σ2 w' (.pointer (some a)) tv room (cs.take k)∧(∀j,D' j→D j)∧k≤cs.length∧(m≤k∨k=cs.length)) cs.length ⟨D, .of_stp hS4,by rw[List.take_length];exact h4,fun j hj=>hj,Nat.le_refl _, .inr rfl⟩ ?_
 rintro again k x d w5 ⟨D5,N5,h5,hD5,hkl,hmk⟩ hag
 have hs5:=N5.sat
 have htk:Y9 (cs.take k)≤1048576:=by
  have e:Y9 cs=Y9 (cs.take k)+Y9 (cs.drop k):=by rw[←T5,List.take_append_drop]
  have:=M0 (cs.drop k)
  omega
 obtain ⟨σg,sg,leg,hslg,_⟩:=h5.freeze hs5
 obtain ⟨ag,lvg,hpe,lag,lsg⟩:=hslg
 cases hpe
 have hqg:=(show Z4 σ2 ⟨b0,0,none⟩ [I (m:Int)] from hq2).lift leg
 have hlk:(cs.take k).length=k:=by rw[List.length_take];omega
 refine J9 sg ?_
 (repeat refine J3 Qe ?_)
 (intros;(repeat (rename_i hx;subst hx)))
 rename_i w6 hb6
 have hk56:Stp w5 σ2 w6 σ2:=hb6.stp.weak leg.le
 have h6:=h5.up hk56
 have N6:=N5.chain (Nxt.of_stp (D:=fun _=>False) hk56) fun j _ e=>e.elim
 rw[hlk]
 refine Q1C ?_
 by_cases hgt:m<k
 case neg=>
  rw[decide_eq_false (show¬(m:Int)<(k:Int) by omega)]
  refine Z6 ?_
  have e:cs.take m=cs.take k:=by
   rcases hmk with e | e
   ·rw[show m=k by omega]
   ·rw[e,List.take_length,List.take_of_length_le (by omega)]
  rw[e] at hh
  exact hh w6 σ2 D5 N6 h6 hD5
 rw[decide_eq_true (show (m:Int)<(k:Int) by omega)]
 refine J6 ?_
 obtain ⟨k1,rfl⟩: ∃k1,k=k1+1:=⟨k-1,by omega⟩
 have hk1l:k1<cs.length:=by omega
 have esnoc:cs.take (k1+1)=cs.take k1++[cs[k1]]:=by rw[List.take_append_getElem hk1l]
 have hk1t:(cs.take k1).length=k1:=by rw[List.length_take];omega
 obtain ⟨σh,sh,leh,hslh,_⟩:=h6.freeze hk56.sat
 obtain ⟨b,lv6,E6,hpb,hbB,hm6,hr6,hE6,hDe6⟩:=h6.ex
 cases hpb
 obtain ⟨ah,lvh,hpe,lah,lsh⟩:=hslh
 cases hpe
 rw[L9,fa]
 refine Yj hm6 rfl ?_
 obtain ⟨al,capl,hle⟩:=hr6.len
 rw[hlk] at hle
 subst hle
 rw[Q1y]
 refine Zm ⟨by omega,by omega⟩ ?_
 have ek:((k1+1:Nat):Int)-1=(k1:Int):=by omega
 rw[ek]
 have hkk:k1<(cs.take (k1+1)).length:=by omega
 obtain ⟨vvk,pk,pk2,_⟩:=Sl.elO lsh hkk
 have evk:((cs.take (k1+1))[k1]'hkk).vals=cs[k1].vals:=by simp
 rw[evk] at pk2
 refine J9 sh ?_
 (repeat refine J3 Qe ?_)
 (intros;(repeat (rename_i hx;subst hx)))
 rename_i w7 hb7
 have hk67:Stp w6 σ2 w7 σ2:=hb7.stp.weak leh.le
 have htn:=M0 (cs.take k1)
 have etk:Y9 (cs.take (k1+1))=Y9 (cs.take k1)+(1+(cs[k1].vals.length:Int)):=by
  rw[esnoc,T5];simp[Y9]
 rw[G8 (by omega) (by omega)]
 refine Zm ⟨by omega,by omega⟩ ?_
 have eu:Y9 (cs.take (k1+1))-(1+(cs[k1].vals.length:Int))=Y9 (cs.take k1):=by omega
 rw[eu]
 have hm7:=hm6.up hk67
 have hr7:=hr6.up hk67
 rw[L9,fa]
 refine Jy hm7 (by simp) rfl rfl fun w8 u8 hm8=>?_
 have N78:=Nxt.of_upd hk67.sat u8 hm7.1
 have hr8:=hr7.nx N78 fun j hj e=>hE6 (e▸hj)
 rw[L9,fa]
 refine Yj hm8 rfl ?_
 rw[esnoc] at hr8
 refine X3M hk1t.symm hr8 fun lv9 E9 hr9 hE9=>?_
 rw[L9,fa]
 refine Jy hm8 (by simp) hr9.shape.1 hr9.shape.2 fun w9 u9 hm9=>?_
 have N89:=Nxt.of_upd N78.sat u9 hm8.1
 have hE9b: ¬E9 b:=fun e=>hE6 (hE9 b e)
 have hr9':=hr9.nx N89 fun j hj e=>hE9b (e▸hj)
 have hDb:D5 b:=(hDe6 b).2 (.inl rfl)
 have N9:Nxt D w σ w9 σ2:=((N6.chain (Nxt.of_stp (D:=fun _=>False) hk67) fun j _ e=>e.elim).chain N78 fun j _ e=>e▸hD5 b hDb).chain N89 fun j _ e=>e▸hD5 b hDb
 refine hag k1 _ _ (Nat.lt_succ_self _) ⟨fun j=>j=b∨E9 j,N9,⟨b,lv9,E9,rfl,hbB,hm9,hr9',hE9b,fun j=>Iff.rfl⟩,fun j hj=>?_,by omega, .inl (by omega)⟩
 rcases hj with rfl | hj
 ·exact hD5 _ hDb
 ·exact hD5 j ((hDe6 j).2 (.inr (hE9 j hj))))
end Go.Proofs.YtjdiakhipmggjaaGreatDoor

namespace Go.Emb
open Go.RowKit Go.Hm
variable {P : Program} {w w' w0 : World} {K : Value → World → Prop} {σ σ' σ0 : Q6}
theorem Q5H {a:List TypeId} {t:TypeId} {b:List Bool} {xs:List Value} {v:Value} (h:(Builtin.copy_ a.toArray t xs.toArray).run P w= .ok v w') (d:K v w'):X2 P .copy a t b xs w K:=by
 have c:(builtin .copy a.toArray t b.toArray xs.toArray).run P w= .ok (.value v) w':=by simp[builtin,h]
 unfold X2
 rw[T9];unfold P5
 rw[c];exact d
theorem X2H {α:Type} {R:Q6→α→List Value→Prop} {sz:Nat} {e:TypeId} {v u:Value} {xs ys:List α} {t H E:TypeId} {cb:List Bool} {C:Nat} {z:Value} [hr:Rep R] [ts:TS P t e] [tz:TZ P e sz C z] (L:Stp w0 σ0 w σ) (ha:J7 w0.heap.size e sz R σ w v xs) (X:Sl sz R σ u ys) (s:ys.length=xs.length)
 (h: ∀w',Kpt (fun k=>v.ownBlock=some k) w w'→Stp w0 σ0 w' σ→J7 w0.heap.size e sz R σ w' v ys→K (I ys.length) w'):X2 P .copy [t,H] E cb [v,u] w K:=by
 obtain ⟨i,hi,M,ax,N⟩:=tz.info
 have d:(P.info? e).map (·.size)=some sz:=by rw[hi];simp[M]
 obtain ⟨a,o,rfl,c1,W,n,Z⟩:=ha
 have D:=X
 obtain ⟨U,p,rfl,k1,k2,k3,k4⟩:=X
 by_cases h0:ys.length=0
 ·have A:ys=[]:=List.eq_nil_of_length_eq_zero h0
  subst A
  have hx:xs=[]:=List.eq_nil_of_length_eq_zero (by rw[←s];rfl)
  subst hx
  refine Q5H (Q4W w t H E e sz a U o p ts.h d) ?_
  exact h w Kpt.refl L ⟨a,o,rfl,c1,W,n,Z⟩
 ·obtain ⟨a2,O,f,he,n1,Y,n3,n4,n5⟩:=D.cells L.sat
  injection he with e1 _ e3
  subst e1;subst e3
  cases U with
  | none=>have:=k3 rfl;omega
  | some Q=>
   obtain ⟨g,c,m,rfl,q1,V,q3,q4,q5⟩:=Z (by omega)
   have ai:ys.length*sz≤o*sz:=Nat.mul_le_mul_right _ (by omega)
   have r:=Q4X (P:=P) w t H E e sz g c ys.length o Q p m e f ts.h d q3 Y (fun j v hv=>n3 Q rfl j v hv) (by rw[Y];omega) n4
   obtain ⟨q,J⟩:=Va (cs:=(m.toList.take c++f++m.toList.drop (c+f.length)).toArray) q3
   rw[←s]
   refine Q5H r ?_
   have ae:=Array.length_toList (xs:=m)
   refine h _ (Kpt.of_upd q rfl) (q.stp L q1 V) ⟨_,o,(by rw[s]),by rw[s];exact c1,W,fun b B=>⟨(n b B).1,(n b B).2.1,by rw[q.size];exact (n b B).2.2.1,(n b B).2.2.2⟩,fun _=>⟨g,c,_,rfl,q1,V,J,?_,fun j y A=>?_⟩⟩
   ·simp;omega
   ·have hj:j<ys.length:=(List.getElem?_eq_some_iff.1 A).1
    have ag:j*sz+sz≤ys.length*sz:=by rw[←Nat.succ_mul];exact Nat.mul_le_mul_right _ hj
    have:=n5 j y A
    rw[List.toList_toArray,List.append_assoc,List.drop_append,List.drop_eq_nil_of_le (by rw[List.length_take];omega),List.nil_append,List.length_take,show c+j*sz-min c m.toList.length=j*sz by omega,List.drop_append_of_le_length (by omega),List.take_append_of_le_length (by rw[List.length_drop];omega)]
    exact this
theorem Nxt.stp' {D:Nat→Prop} (N:Nxt D w σ w' σ') (a:Stp w0 σ0 w σ) (f: ∀k,D k→w0.heap.size≤k):Stp w0 σ0 w' σ':=
 ⟨⟨N.kp.os.trans a.bel.os,N.kp.tape.trans a.bel.tape,N.kp.output.trans a.bel.output,Nat.le_trans a.bel.size N.kp.size,fun k d=>(N.kp.block k (Nat.lt_of_lt_of_le d a.bel.size) fun h=>absurd (f k h) (by omega)).trans (a.bel.block k d)⟩,N.sat,fun b o e=>N.le.le b o (a.le b o e),fun b c=>(N.old b (Nat.lt_of_lt_of_le c a.bel.size)).trans (a.old b c)⟩
end Go.Emb
namespace Go.Proofs.YtjdiakhipmggjaaGreatDoor
open Go.Emb Go.RowKit Go.Kd Go.Hm
variable {w w' : World} {K : Value → World → Prop} {σ σ' : Q6} {hp tv : Value} {room : Int} {cs : List Cel} {l : List Cla}
theorem RowsIs.nil {B:Nat}:RowsIs B (fun _=>False) σ w (.slice none 0 0) []:=
 ⟨[],J7.of_acc V6.nil,⟨rfl,fun i h=>absurd h (Nat.not_lt_zero i)⟩,List.pairwise_singleton _ _,fun k=>by simp[Value.ownBlock]⟩
set_option maxHeartbeats 1000000 in
theorem Q7G (Y:X3 w σ) (hh:S6 σ hp tv room cs) (hl:Y9 cs≤1048576)
 (h: ∀v w' σ' D,Stp w σ w' σ'→RowsIs w.heap.size D σ' w' v cs→K v w'):Q1 P F.ac [hp] w K:=Tu (by
 obtain ⟨a,lv,rfl,la,ls⟩:=hh
 have af:=T6 cs
 unfold Dk
 rw[L9,fa]
 refine ld Y la rfl ?_
 refine Q8 ls ?_
 refine E7 cs.length (fun n x w'=> ∃σ' D,Stp w σ w' σ'∧RowsIs w.heap.size D σ' w' x (cs.take n)) ⟨σ,_,Stp.refl Y,RowsIs.nil⟩ fun n x w1 d hn B=>?_
 obtain ⟨σ1,D1,m,H⟩:=B
 refine Z1 ?_
 refine Q7 (fun M=>?_) (fun M=>?_)
 ·have c:n<cs.length:=by simpa using M
  have u:=ls.up m
  obtain ⟨vv,p1,W,Z⟩:=Sl.elO u c
  have al:(cs[n].vals.length:Int)≤1048576:=by
   have e:Y9 cs=Y9 (cs.take n)+Y9 (cs.drop n):=by rw[←T5,List.take_append_drop]
   have e2:Y9 (cs.drop n)=(1+(cs[n].vals.length:Int))+Y9 (cs.drop (n+1)):=by
    rw[List.drop_eq_getElem_cons c];simp only[Y9,List.map_cons,List.sum_cons]
   have X:=M0 (cs.take n)
   have Q:=M0 (cs.drop (n+1))
   omega
  refine Y1 u c ?_
  refine Y2 m.sat p1 rfl ?_
  refine Y7 m.sat (by rfl) rfl (Rep.one (R:=H4) ⟨vv,rfl,W,Z⟩) fun q w2 σ2 b o=>?_
  have E:=m.trans b
  have p:=W.up b
  rw[fa]
  refine ld b.sat o rfl ?_
  refine Q8 p ?_
  refine Q8W (sz:=4) (R:=N0) (x0:=Val.zero) b.sat rfl (by decide) ⟨rfl,by decide⟩ (by omega) (by omega) fun J w3 g L C=>?_
  have U:=E.trans g
  rw[fa]
  refine ld g.sat (o.up g) rfl ?_
  have N:=(J7.of_acc L).mono (B':=w.heap.size) E.bel.size
  refine X2H U N (p.up g) (by simp) fun w4 V f y=>?_
  have X:=(H.up b).up g
  have A: ∀j,J.ownBlock=some j→ ¬D1 j:=fun j t hD=>by
   have:=((H.up b).mem hD).2.1;have:=C j t;omega
  have N4:Nxt (fun k=>J.ownBlock=some k) w3 σ2 w4 σ2:=⟨V,SLe.refl _,fun _ _=>rfl,f.sat⟩
  have Q:=X.nx N4 fun j t e=>A j e t
  rw[fa]
  refine ld (i:=0) f.sat o rfl ?_
  have r:=y
  obtain ⟨a3,aa,O,_⟩:=r
  refine W1 (cells:= #[S cs[n].kind,J]) (by rw[O];kernel_rfl) ?_
  refine Q9u f.sat f.bel.size Q y A Z (by rw[List.length_take];omega) fun s ap w5 σ5 D5 N5 z h5 _ _=>?_
  refine O5 ?_
  refine J4 (by omega) c ⟨σ5,D5,N5.stp' f fun j t=>(Q.mem (z j t)).1,?_⟩
  rw[List.take_add_one,List.getElem?_eq_getElem c]
  exact h5
 ·have c: ¬n<cs.length:=by simpa using M
  rw[List.take_of_length_le (by omega)] at H
  exact h _ _ _ _ m H)
end Go.Proofs.YtjdiakhipmggjaaGreatDoor

namespace Go.Proofs.YtjdiakhipmggjaaGreatDoor
open Go.Emb Go.RowKit Go.Kd Go.Hm
variable {w : World} {K : Value → World → Prop} {σ : Q6} {l : List Cla} {v : Value}
theorem Q4t {c:Cla} {n:X0} (h:Ca c n=none):F7 c n=none:=by
 unfold F7 Ca at*
 rw[List.findIdx?_eq_none_iff] at h
 rw[List.find?_eq_none]
 intro m a
 have:=h m a
 simpa using this
theorem Q7x {c:Cla} {n:X0} {i:Nat} (h:Ca c n=some i): ∃a:i<c.methods.length,F7 c n=some c.methods[i]:=by
 unfold F7 Ca at*
 obtain ⟨a,e,d⟩:=List.findIdx?_eq_some_iff_getElem.1 h
 refine ⟨a,List.find?_eq_some_iff_getElem.2 ⟨e,i,a,rfl,fun j b=>?_⟩⟩
 have:=d j b
 simpa using this
theorem Q0P {n:X0} (h:lk l n=none):Z2 l n=none:=by
 cases b:Z2 l n with
 | none=>rfl
 | some i=>obtain ⟨c,a,_⟩:=Zr b;rw[h] at a;cases a
set_option maxHeartbeats 1000000 in
theorem Q9q {n:X0} (ok:Ok l): ∀(k:Nat) {c:Cla} {cs:List Value} {w:World} {σ:Q6} {K:Value→World→Prop},P1 l c.name<k→lk l c.name=some c→X3 w σ→Sl 8 V0 σ v l→V0 σ c cs→
 (∀pv cv hv w' Z,Stp w σ w' Z→H0 Z (o2 (V4 l c n)) [S (o2 (V4 l c n)).name,pv,S (o2 (V4 l c n)).result, .bool (o2 (V4 l c n)).abs,I (o2 (V4 l c n)).locals,cv,hv]→
  K (.tuple #[S (o1 (V4 l c n)), .agg [S (o2 (V4 l c n)).name,pv,S (o2 (V4 l c n)).result, .bool (o2 (V4 l c n)).abs,I (o2 (V4 l c n)).locals,cv,hv].toArray, .bool (V4 l c n).isSome]) w')→
 Q1 P F.aN [v, .agg cs.toArray,S n] w K:=by
 intro k
 induction k with
 | zero=>
  intro c cs w σ K hk
  omega
 | succ k ih=>
  intro c cs w σ K hk hc hs hv hr h
  refine Kr ?_
  obtain ⟨lv,fv,mv,rfl,g1,g2,g3,g4,g5⟩:=hr
  have E:=Q4b ok.acy hc n
  generalize hf:(fun u=>match lk l u with | none=>none | some d=>match F7 d n with | some m=>some (u,m) | none=>V4 l d n)=f at E
  unfold Nf
  refine Z0 hs fun a w1 σ1 C av=>?_
  refine N1 C.sat fun b w2 σ2 hb U ap=>?_
  have X:w.heap.size≤b:=N2 hb C
  have a5:=av.up U
  have g1:=(g1.up C).up U
  refine U2 c.like.length (fun i w'=> ∃Z,Stp w σ w' Z∧SLe σ2 Z∧Y3 Z w' b [S [], .slice none 0 0,S [], .bool false,I 0, .slice none 0 0, .slice none 0 0]∧(c.like.take i).findSome? f=none) ⟨σ2,C.trans U,SLe.refl _,ap,rfl⟩ fun i w3 d hi ad=>?_
  obtain ⟨σ3,e,R,aj,B⟩:=ad
  have Q:=hv.up e
  have O:=a5.lift R
  have D:=g1.lift R
  (try simp only[↓M1,M1,Mb,reduceIte])
  refine ld e.sat O rfl ?_
  refine Q8 D ?_
  refine Z1 ?_
  refine Q7 (fun hh=>?_) (fun hh=>?_)
  ·have g:i<c.like.length:=by simpa using hh
   (try simp only[↓M1,M1,Mb,reduceIte])
   refine ld e.sat O rfl ?_
   refine Y1 D g ?_
   obtain ⟨p0,_⟩:=D.elS g
   refine X7 e.sat p0 rfl ?_
   obtain ⟨d,hd⟩:=ok.full c (V3 hc).2.1 _ (List.getElem_mem g)
   obtain ⟨M,bl,_⟩:=V3 hd
   have p:f c.like[i]=match F7 d n with | some m=>some (c.like[i],m) | none=>V4 l d n:=by rw[←hf];simp only[hd]
   refine Bi e.sat Q hd fun j hj br=>?_
   obtain ⟨ah,a7⟩:=List.getElem?_eq_some_iff.1 hj
   refine Y1 Q ah ?_
   obtain ⟨b0,bv,bo,p1,r1⟩:=Q.elC ah
   rw[a7] at p1 r1
   refine Y2 e.sat p1 rfl ?_
   refine Y7 e.sat (by rfl) rfl (Rep.one r1) fun q w4 σ4 o N=>?_
   refine Y2 o.sat N rfl ?_
   refine Q7g o.sat (RCl_lift r1 ⟨o.le⟩) fun w5 σ5 t=>?_
   refine P4 ?_
   rw[A5]
   have A:=(e.trans o).trans t
   have H:=(aj.step o).step t
   have a6:=N.up t
   have r5:=RCl_lift r1 ⟨(o.trans t).le⟩
   have Y:=t.sat
   have a9:SLe σ2 σ5:=R.more ⟨(o.trans t).le⟩
   clear N p1 r1 p0 O D o t
   cases ho:Ca d n with
   | some i2=>
    obtain ⟨aw,ay⟩:=Q7x ho
    rw[ay] at p
    simp only[Option.isSome_some,L6,↓M1,M1,Mb,reduceIte]
    obtain ⟨_,_,a3,_,_⟩:=r5.parts
    obtain ⟨pv,cv,bm,p2,r2⟩:=a3.elM aw
    refine J9 Y ?_
    (repeat refine J3 Qe ?_)
    (intros;(repeat (rename_i hx;subst hx));(try simp only[↓M2,M2,Mb,reduceIte]))
    rename_i w6 ak
    refine G1 (H.step ak.stp) (A.trans ak.stp) X rfl rfl (Rep.one r2) fun w8 ax ba=>?_
    refine V1 ba rfl ?_
    have L:=E.trans (Xp g B p)
    rw[L] at h
    rw[M]
    exact h _ _ _ w8 σ5 ax.stp r2
   | none=>
    rw[Q4t ho] at p
    simp only[Option.isSome_none,↓M1,M1,Mb,reduceIte]
    refine Y2 Y a6 rfl ?_
    have bz:=Xw ok.acy hc (by simp[U3,List.getElem_mem g]:c.like[i]∈U3 c) hd
    refine ih (by rw[M];omega) (by rw[M];exact hd) Y (hv.up A) r5 fun pv cv bp w8 σ8 z W=>?_
    refine J0 (vs:=[_,_,_]) rfl ?_
    refine J0 (vs:=[_,_,_]) rfl ?_
    refine J0 (vs:=[_,_,_]) rfl ?_
    refine Y7 z.sat (by rfl) rfl (Rep.one W) fun q w9 σ9 y ao=>?_
    have ac:=(A.trans z).trans y
    have ag:=(H.step z).step y
    have V:=RMe_lift W ⟨y.le⟩
    have aq:SLe σ2 σ9:=a9.more ⟨(z.trans y).le⟩
    have ar:=y.sat
    cases L:V4 l d n with
    | some r=>
     obtain ⟨s,m⟩:=r
     rw[L] at p V ao
     clear W z y
     simp only[L,Option.isSome_some,↓M1,M1,Mb,reduceIte]
     refine J9 ar ?_
     (repeat refine J3 Qe ?_)
     (intros;(repeat (rename_i hx;subst hx));(try simp only[↓M2,M2,Mb,reduceIte]))
     rename_i bj J
     refine G1 (ag.step J.stp) (ac.trans J.stp) X rfl rfl (Rep.one V) fun a4 aa af=>?_
     refine V1 af rfl ?_
     have a2:=E.trans (Xp g B p)
     rw[a2] at h
     exact h _ _ _ a4 σ9 aa.stp V
    | none=>
     rw[L] at p
     simp only[Option.isSome_none,↓M1,M1,Mb,reduceIte]
     refine Y5 (by have:=g1.max;omega) g ⟨σ9,ac,aq,ag,?_⟩
     rw[Xv g B];exact p
  ·have g: ¬i<c.like.length:=by simpa using hh
   rw[List.take_of_length_le (by omega)] at B
   refine Gg ?_
   refine G1 aj e X rfl rfl (Rep.one (Qy (σ:=σ3))) fun w5 A H=>?_
   refine V1 H rfl ?_
   have L:=E.trans B
   rw[L] at h
   exact h _ _ _ w5 σ3 A.stp Qy
set_option maxHeartbeats 1000000 in
theorem Q7S {k n:X0} (hs:X3 w σ) (hv:Sl 8 V0 σ v l) (ok:Ok l)
 (h: ∀pv cv hv w' O,Stp w σ w' O→H0 O (o2 (V2 l k n)) [S (o2 (V2 l k n)).name,pv,S (o2 (V2 l k n)).result, .bool (o2 (V2 l k n)).abs,I (o2 (V2 l k n)).locals,cv,hv]→
  K (.tuple #[S (o1 (V2 l k n)), .agg [S (o2 (V2 l k n)).name,pv,S (o2 (V2 l k n)).result, .bool (o2 (V2 l k n)).abs,I (o2 (V2 l k n)).locals,cv,hv].toArray, .bool (V2 l k n).isSome]) w'):
 Q1 P F.bf [v,S k,S n] w K:=Gx (by
 unfold Lg
 refine N1 hs fun b w1 σ1 hb U a3=>?_
 refine K0 U.sat (hv.up U) ?_
 unfold V2 at h
 generalize hF:(fun c:Cla=>(F7 c n).map (c.name,·))=F1 at h
 have aj: ∀c,F1 c=(F7 c n).map (c.name,·):=fun c=>by rw[←hF]
 refine Kv (fun m x w'=> ∃s H O,m=(chain l s).length∧x=I (L6 (Z2 l s))∧chain l k=H++chain l s∧Stp w σ w' O∧Y3 O w' b [S [], .slice none 0 0,S [], .bool false,I 0, .slice none 0 0, .slice none 0 0]∧H.findSome? F1=none)
  (chain l k).length ⟨k,[],σ1,rfl,rfl,rfl,U,a3,rfl⟩ ?_
 rintro X m x d w2 ⟨s,H,σ2,rfl,rfl,a,E,af,f⟩ D
 have C:=hv.up E
 have Z:=E.sat
 refine P4 ?_
 rw[A5]
 cases A:lk l s with
 | some c=>
  obtain ⟨ah,a0,i,Q,V⟩:=V3 A
  obtain ⟨o,ac⟩:=List.getElem?_eq_some_iff.1 V
  simp only[Q,Option.isSome_some,L6,↓M1,M1,Mb,reduceIte]
  refine Y1 C o ?_
  obtain ⟨lv,fv,mv,y,M⟩:=C.elC o
  rw[ac] at y M
  refine Y2 Z y rfl ?_
  refine Q7g Z M fun w3 σ3 t=>?_
  refine P4 ?_
  rw[A5]
  have j:=E.trans t
  have p:=C.up t
  have z:=af.step t
  have u:=t.sat
  replace y:=y.up t
  replace M:=RCl_lift M ⟨t.le⟩
  have g:chain l s=c::chain l c.super:=by rw[A8 ok.acy s,A]
  cases ho:Ca c n with
  | some i2=>
   obtain ⟨aw,az⟩:=Q7x ho
   simp only[Option.isSome_some,L6,↓M1,M1,Mb,reduceIte]
   obtain ⟨_,_,ar,_,_⟩:=M.parts
   obtain ⟨pv,cv,bg,p2,r2⟩:=ar.elM aw
   clear t
   refine J9 u ?_
   (repeat refine J3 Qe ?_)
   (intros;(repeat (rename_i hx;subst hx));(try simp only[↓M2,M2,Mb,reduceIte]))
   rename_i w4 ao
   refine G1 (z.step ao.stp) (j.trans ao.stp) hb rfl rfl (Rep.one r2) fun w8 ay a6=>?_
   refine V1 a6 rfl ?_
   have B:(chain l k).findSome? F1=some (c.name,c.methods[i2]):=by
    rw[a,List.findSome?_append,f,g,List.findSome?_cons,aj,az];rfl
   rw[B] at h
   exact h _ _ _ w8 σ3 ay.stp r2
  | none=>
   simp only[Option.isSome_none,↓M1,M1,Mb,reduceIte]
   refine Y1 p o ?_
   (try simp only[↓M1,M1,Mb,reduceIte])
   refine ld u y rfl ?_
   refine K0 u p ?_
   refine D (chain l c.super).length _ _ (by rw[g,List.length_cons];omega) ⟨c.super,H++[c],σ3,rfl,rfl,by rw[a,g];simp,j,z,?_⟩
   rw[List.findSome?_append,f]
   simp[aj,Q4t ho]
 | none=>
  rw[Q0P A]
  simp only[Option.isSome_none,↓M1,M1,Mb,reduceIte]
  have ae:(chain l k).findSome? F1=none:=by rw[a,Yq A,List.append_nil];exact f
  rw[ae] at h
  clear D f a
  refine K0 Z C ?_
  refine Kv (fun m x w'=> ∃s H O,m=(chain l s).length∧x=I (L6 (Z2 l s))∧chain l k=H++chain l s∧Stp w σ w' O∧Y3 O w' b [S [], .slice none 0 0,S [], .bool false,I 0, .slice none 0 0, .slice none 0 0]∧H.findSome? (fun c=>V4 l c n)=none)
   (chain l k).length ⟨k,[],σ2,rfl,rfl,rfl,E,af,rfl⟩ ?_
  rintro X m x d w3 ⟨s,H,σ3,rfl,rfl,a,j,z,f⟩ D
  have p:=hv.up j
  have u:=j.sat
  refine P4 ?_
  rw[A5]
  cases A:lk l s with
  | some c=>
   obtain ⟨ah,a0,i,Q,V⟩:=V3 A
   obtain ⟨o,ac⟩:=List.getElem?_eq_some_iff.1 V
   simp only[Q,Option.isSome_some,L6,↓M1,M1,Mb,reduceIte]
   refine Y1 p o ?_
   obtain ⟨lv,fv,mv,y,M⟩:=p.elC o
   rw[ac] at y M
   refine Y2 u y rfl ?_
   have g:chain l s=c::chain l c.super:=by rw[A8 ok.acy s,A]
   refine Q9q ok _ (Nat.lt_succ_self _) (by rw[ah];exact A) u p M fun pv cv bf w8 σ8 R aa=>?_
   refine J0 (vs:=[_,_,_]) rfl ?_
   refine J0 (vs:=[_,_,_]) rfl ?_
   refine J0 (vs:=[_,_,_]) rfl ?_
   refine Y7 R.sat (by rfl) rfl (Rep.one aa) fun q w9 σ9 J av=>?_
   have e:=R.trans J
   have ag:=j.trans e
   have ak:=z.step e
   have Y:=RMe_lift aa ⟨J.le⟩
   have W:=J.sat
   have am:=p.up e
   replace y:=y.up e
   cases ho:V4 l c n with
   | some r=>
    obtain ⟨s,m⟩:=r
    rw[ho] at Y av
    clear aa R J e
    simp only[ho,Option.isSome_some,↓M1,M1,Mb,reduceIte]
    refine J9 W ?_
    (repeat refine J3 Qe ?_)
    (intros;(repeat (rename_i hx;subst hx));(try simp only[↓M2,M2,Mb,reduceIte]))
    rename_i bj N
    refine G1 (ak.step N.stp) (ag.trans N.stp) hb rfl rfl (Rep.one Y) fun ax an ai=>?_
    refine V1 ai rfl ?_
    have B:(chain l k).findSome? (fun c=>V4 l c n)=some (s,m):=by
     rw[a,List.findSome?_append,f,g,List.findSome?_cons,ho];rfl
    unfold V4 at B
    rw[B] at h
    exact h _ _ _ ax σ9 an.stp Y
   | none=>
    simp only[Option.isSome_none,↓M1,M1,Mb,reduceIte]
    refine Y1 am o ?_
    (try simp only[↓M1,M1,Mb,reduceIte])
    refine ld W y rfl ?_
    refine K0 W am ?_
    refine D (chain l c.super).length _ _ (by rw[g,List.length_cons];omega) ⟨c.super,H++[c],σ9,rfl,rfl,by rw[a,g];simp,ag,ak,?_⟩
    rw[List.findSome?_append,f]
    simp[ho]
  | none=>
   rw[Q0P A]
   simp only[Option.isSome_none,↓M1,M1,Mb,reduceIte]
   have L:(chain l k).findSome? (fun c=>V4 l c n)=none:=by rw[a,Yq A,List.append_nil];exact f
   refine Gg ?_
   refine G1 z j hb rfl rfl (Rep.one (Qy (σ:=σ3))) fun w7 a1 a5=>?_
   refine V1 a5 rfl ?_
   unfold V4 at L
   rw[L] at h
   exact h _ _ _ w7 σ3 a1.stp Qy)
end Go.Proofs.YtjdiakhipmggjaaGreatDoor

namespace Go.Hm
open Go.Kd
theorem Q2s: ∀(xs:List X0) (x:X0),xs≠[]→H9 (xs++[x])=H9 xs++[44]++x
 | [],_,h=>absurd rfl h
 | [a],x,_=>by simp[H9]
 | a::b::r,x,_=>by
  have:=Q2s (b::r) x (by simp)
  simp only[List.cons_append] at this⊢
  simp only[H9,this]
  simp
theorem Q2j {xs:List X0} {n:Nat} (h:n<xs.length):H9 (xs.take (n+1))=H9 (xs.take n)++(if 0<n then [44] else [])++xs[n]:=by
 rw[List.take_add_one,List.getElem?_eq_getElem h]
 simp only[Option.toList_some]
 cases n with
 | zero=>simp[H9]
 | succ n=>
  rw[Q2s _ _ (by intro e;have:=congrArg List.length e;simp only[List.length_take,List.length_nil] at this;omega)]
  simp
end Go.Hm
namespace Go.Proofs.YtjdiakhipmggjaaGreatDoor
open Go.Emb Go.RowKit Go.Kd Go.Hm
variable {w : World} {K : Value → World → Prop} {σ : Q6} {l : List Cla} {v : Value}
theorem Q5s {m:Hm.Met} {cs:List Value} (z:X3 w σ) (B:H0 σ m cs) (r:SmM m) (k:NmM m) (h: ∀w' E,Stp w σ w' E→K (S (Qz m)) w'):Q1 P F.aW [.agg cs.toArray] w K:=Q04 (by
 obtain ⟨pv,U,O,rfl,f,J,R,N,H,L⟩:=B
 unfold Da
 refine Z0 z fun q w1 σ1 g j=>?_
 have f:=f.up g
 have D: ∀n,(H9 (m.params.take n)).length≤101000000:=fun n=>by
  have:=Ra (m.params.take n) fun x t=>k.2 x (List.mem_of_mem_take t)
  have A:(m.params.take n).length≤1000000:=by rw[List.length_take];have:=r.1;omega
  have Q:(m.params.take n).length*101≤1000000*101:=Nat.mul_le_mul_right _ A
  omega
 have c:=g.sat
 refine E7 m.params.length (fun n a w'=>w'=w1∧a=S ([40]++H9 (m.params.take n))) ⟨rfl,by simp[H9]⟩ fun n a M d C i=>?_
 obtain ⟨y,rfl⟩:=i
 subst y
 have s:=D n
 (try simp only[↓M1,M1,Mb,reduceIte])
 refine ld c j rfl ?_
 refine Q8 f ?_
 refine Z1 ?_
 refine Q7 (fun o=>?_) (fun o=>?_)
 ·have b:n<m.params.length:=by simpa using o
  have t:=k.2 _ (List.getElem_mem b)
  refine U6 ?_
  obtain ⟨u,_⟩:=f.elS b
  refine Q7 (fun p=>?_) (fun p=>?_)
  ·have e:0<n:=by have:=of_decide_eq_true p;omega
   refine Rc (by simp only[List.length_append,List.length_cons,List.length_nil];omega) ?_
   intro d
   (try simp only[↓M1,M1,Mb,reduceIte])
   refine ld c j rfl ?_
   refine Y1 f b ?_
   refine X7 c u rfl ?_
   refine Rc (by simp only[List.length_append,List.length_cons,List.length_nil];omega) ?_
   (try simp only[↓M1,M1,Mb,reduceIte])
   refine J4 f.max b ⟨rfl,?_⟩
   rw[Q2j b,if_pos e];simp
  ·have e: ¬0<n:=by have:=of_decide_eq_false p;omega
   intro d
   (try simp only[↓M1,M1,Mb,reduceIte])
   refine ld c j rfl ?_
   refine Y1 f b ?_
   refine X7 c u rfl ?_
   refine Rc (by simp only[List.length_append,List.length_cons,List.length_nil];omega) ?_
   (try simp only[↓M1,M1,Mb,reduceIte])
   refine J4 f.max b ⟨rfl,?_⟩
   rw[Q2j b,if_neg e];simp
 ·have b: ¬n<m.params.length:=by simpa using o
  rw[List.take_of_length_le (by omega)] at s⊢
  refine Rc (by simp only[List.length_append,List.length_cons,List.length_nil];omega) ?_
  (try simp only[↓M1,M1,Mb,reduceIte])
  refine ld c j rfl ?_
  refine Rc (by simp only[List.length_append,List.length_cons,List.length_nil];have:=k.1;omega) ?_
  exact h _ _ g)
end Go.Proofs.YtjdiakhipmggjaaGreatDoor

namespace Go.Emb
open Go.RowKit Go.Hm
structure FinT (B : Nat) (F : Option Obj → Prop) (w w' : World) : Prop where
  os : w'.os = w.os
  tape : w'.tape = w.tape
  output : w'.output = w.output
  size : w.heap.size ≤ w'.heap.size
  old : ∀ k, k < w.heap.size → k < B → w'.heap[k]? = w.heap[k]?
  new : ∀ k, k < w.heap.size → w'.heap[k]? = w.heap[k]? ∨ F (w'.heap[k]?)
section
variable {P : Program} {B : Nat} {F : Option Obj → Prop} {w w' w0 : World} {σ : Q6} {v V : Value} {K : Value → World → Prop}
theorem FinT.of_below (h:Below w.heap.size w w'):FinT B F w w':=⟨h.os,h.tape,h.output,h.size,fun k a _=>h.block k a,fun k a=> .inl (h.block k a)⟩
theorem FinT.of_upd {b:Nat} (h:Upd w b w') (c:B≤b) (hF:F (w'.heap[b]?)):FinT B F w w':=
 ⟨h.os,h.tape,h.output,by rw[h.size];exact Nat.le_refl _,fun k a hB=>h.block k (by omega),fun k a=>by
  by_cases e:k=b
  ·subst e;exact .inr hF
  ·exact .inl (h.block k e)⟩
theorem FinT.hst (h:FinT w0.heap.size F w w') (c:X3 w0 σ) (a:Hst w0 σ w σ):Hst w0 σ w' σ:=
 ⟨Stp.of_below c ⟨h.os.trans a.stp.bel.os,h.tape.trans a.stp.bel.tape,h.output.trans a.stp.bel.output,Nat.le_trans a.stp.bel.size h.size,fun k b=>(h.old k (Nat.lt_of_lt_of_le b a.stp.bel.size) b).trans (a.stp.bel.block k b)⟩⟩
theorem X3g {A:(World→World→Prop)→(World→Prop)→Prop} (F:Option Obj→Prop) (a:X3 w σ) (h:A (FinT w.heap.size F) (fun w'=>Hst w σ w' σ)):dr w A:=
 Pv _ _ ⟨Stp.of_below a (Below.refl _ _).drew⟩ (fun _ _ b c=>c.hst a b) h
theorem Q5j (h:V=v):dk (FinT B F) (fun v _=>V=v) w v w:=⟨.of_below (Below.refl _ _),h⟩
theorem X1P (a:Below w.heap.size w w') (h:V=v):dk (FinT B F) (fun v _=>V=v) w v w':=⟨.of_below a,h⟩
def X3k (B n:Nat) (F:Option Obj→Prop) (v:Value) (w:World):Prop:= ∃g,v= .pointer (some ⟨g,0,none⟩)∧B≤g∧((∃cs:List Value,∃e,cs.length=n∧w.heap[g]? =some (.cells cs.toArray e (0,0)))∨F (w.heap[g]?))
def X2D (B:Nat) (F:Option Obj→Prop) (v:Value) (w:World):Prop:= ∃g,v= .pointer (some ⟨g,0,none⟩)∧B≤g∧F (w.heap[g]?)
theorem Iu {w:World} {g:Nat} {o:Obj} (h:w.heap[g]? =some o):g<w.heap.size:=(Array.getElem?_eq_some_iff.1 h).1
theorem Q8b {n:Nat} (hF: ¬F none):Sj (FinT B F) (X3k B n F):=by
 rintro v w w' ⟨g,rfl,hB,c⟩ d
 have a:g<w.heap.size:=by
  rcases c with ⟨cs,e,_,h⟩ | h
  ·exact Iu h
  ·cases b:w.heap[g]? with
   | none=>rw[b] at h;exact absurd h hF
   | some o=>exact Iu b
 rcases d.new g a with h | h
 ·exact ⟨g,rfl,hB,by rw[h];exact c⟩
 ·exact ⟨g,rfl,hB, .inr h⟩
theorem Q8x (hF: ¬F none):Sj (FinT B F) (X2D B F):=by
 rintro v w w' ⟨g,rfl,hB,a⟩ d
 have b:g<w.heap.size:=by
  cases c:w.heap[g]? with
  | none=>rw[c] at a;exact absurd a hF
  | some o=>exact Iu c
 rcases d.new g b with h | h
 ·exact ⟨g,rfl,hB,by rw[h];exact a⟩
 ·exact ⟨g,rfl,hB,h⟩
end
end Go.Emb
namespace Go.Hm
open Go.Kd
theorem Q70 {a b:List Hm.Met} (h: ∀m,m∈a↔m∈b):Nq a=Nq b:=by
 rw[Bool.eq_iff_iff]
 simp only[Nq,List.any_eq_true]
 constructor
 ·rintro ⟨x,c,y,e,d⟩;exact ⟨x,(h x).1 c,y,(h y).1 e,d⟩
 ·rintro ⟨x,c,y,e,d⟩;exact ⟨x,(h x).2 c,y,(h y).2 e,d⟩
theorem X0T {α:Type} {a b:List α} {p:α→Bool} (h: ∀m,m∈a↔m∈b):a.any p=b.any p:=by
 rw[Bool.eq_iff_iff]
 simp only[List.any_eq_true]
 constructor
 ·rintro ⟨x,c,y⟩;exact ⟨x,(h x).1 c,y⟩
 ·rintro ⟨x,c,y⟩;exact ⟨x,(h x).2 c,y⟩
def Zd (m:Hm.Met):List X0:=m.params++if m.result=[] then [] else [m.result]
def Ul (c:Cla):List X0:=c.fields.map (·.kind)++c.methods.flatMap Zd
theorem Q9r {l:List Cla} {c:Cla}:(Ul c).any (fun s=> !O8 l s)=F3 l c:=by
 unfold Ul F3 Zd
 rw[List.any_append,List.any_map,List.any_flatMap]
 congr 1
 congr 1
 funext m
 rw[List.any_append]
 by_cases e:m.result=[]
 ·simp[e]
 ·simp[e,Bool.or_comm]
def upB (l:List Cla) (i k:Nat):Bool:=decide (k=i)||Xn l (Y4 l i) (Y4 l k)
def Xj (l:List Cla) (i n:Nat):List Hm.Met:=(List.range n).flatMap fun k=>if upB l i k then (l.getD k Cla.zero).methods else []
theorem Q8n {l:List Cla} {i n:Nat}:Xj l i (n+1)=Xj l i n++if upB l i n then (l.getD n Cla.zero).methods else []:=by
 unfold Xj
 rw[List.range_succ,List.flatMap_append]
 simp
theorem Q47 {l:List Cla} (r:A4 l) {i:Nat} (h:i<l.length) (m:Hm.Met):m∈Xj l i l.length↔m∈Lr l (Y4 l i):=by
 unfold Xj Lr
 simp only[List.mem_flatMap,List.mem_range]
 have a: ∀k,k<l.length→lk l (Y4 l k)=some (l.getD k Cla.zero):=fun k g=>Yh r g
 constructor
 ·rintro ⟨k,g,d⟩
  split at d
  ·rename_i hu
   refine ⟨Y4 l k,?_,by rw[a k g];exact d⟩
   rw[Uz,Q0C]
   simp only[upB,Bool.or_eq_true,decide_eq_true_eq,Uq] at hu
   rcases hu with rfl | hu
   ·exact .inl ⟨rfl,_,a _ g⟩
   ·exact .inr hu
  ·simp at d
 ·rintro ⟨u,hu,d⟩
  rw[Uz] at hu
  obtain ⟨c,p⟩:=hu.right
  obtain ⟨s,o,j,y,b⟩:=V3 p
  obtain ⟨n,A⟩:=List.getElem?_eq_some_iff.1 b
  have f:Y4 l j=u:=by
   unfold Y4;rw[List.getD_eq_getElem?_getD,b];exact s
  refine ⟨j,n,?_⟩
  rw[p] at d
  have:upB l i j=true:=by
   simp only[upB,Bool.or_eq_true,decide_eq_true_eq,Uq]
   rw[Q0C] at hu
   rcases hu with ⟨e,_⟩ | hu
   ·left
    have t:=a i h
    rw[e,←f] at t
    have q:=A4.find r (i:=i) (c:=l[i]) (List.getElem?_eq_getElem h)
    have z:l[i].name=Y4 l i:=by unfold Y4;rw[List.getD_eq_getElem?_getD,List.getElem?_eq_getElem h];rfl
    rw[z,e,y] at q
    simpa using q
   ·right;rw[f];exact hu
  rw[if_pos this,List.getD_eq_getElem?_getD,b]
  exact d
theorem Q9m {l:List Cla} {i n:Nat} {m:Hm.Met} (h:m∈Xj l i n) (e:n≤l.length): ∃c∈l,m∈c.methods:=by
 unfold Xj at h
 simp only[List.mem_flatMap,List.mem_range] at h
 obtain ⟨k,d,a⟩:=h
 split at a
 ·have b:k<l.length:=by omega
  rw[List.getD_eq_getElem?_getD,List.getElem?_eq_getElem b] at a
  exact ⟨l[k],List.getElem_mem _,a⟩
 ·simp at a
def A9 (a:List Hm.Met) (x y:Nat):Bool:=decide ((a.getD x Hm.Met.zero).name=(a.getD y Hm.Met.zero).name)&& !decide (Qz (a.getD x Hm.Met.zero)=Qz (a.getD y Hm.Met.zero))
theorem Bd {α:Type} {l:List α} {d:α} {n:Nat} (h:n<l.length):l.getD n d=l[n]:=by rw[List.getD_eq_getElem?_getD,List.getElem?_eq_getElem h];rfl
theorem Q9E {a:List Hm.Met} {x y:Nat} (b:x<a.length) (c:y<a.length) (h:A9 a x y=true):Nq a=true:=by
 unfold Nq
 rw[List.any_eq_true]
 refine ⟨a[x],List.getElem_mem _,?_⟩
 rw[List.any_eq_true]
 refine ⟨a[y],List.getElem_mem _,?_⟩
 unfold A9 at h
 rwa [Bd b,Bd c] at h
theorem X17 {d:List Hm.Met} (h: ∀x y,x<d.length→y<x→A9 d x y=false):Nq d=false:=by
 unfold Nq
 rw[List.any_eq_false]
 intro a k
 rw[List.any_eq_true]
 rintro ⟨b,j,f⟩
 obtain ⟨x,g,rfl⟩:=List.getElem_of_mem k
 obtain ⟨y,i,rfl⟩:=List.getElem_of_mem j
 have e:A9 d y x=A9 d x y:=by
  unfold A9
  congr 1
  ·rw[Bool.eq_iff_iff];simp[eq_comm]
  ·congr 1;rw[Bool.eq_iff_iff];simp[eq_comm]
 have c:A9 d x y=true:=by unfold A9;rw[Bd g,Bd i];exact f
 rcases Nat.lt_trichotomy x y with hlt | heq | hlt
 ·rw[←e,h y x i hlt] at c;cases c
 ·subst heq;simp[A9] at c
 ·rw[h x y g hlt] at c;cases c
end Go.Hm
namespace Go.Proofs.YtjdiakhipmggjaaGreatDoor
open Go.Emb Go.RowKit Go.Kd Go.Hm
variable {w : World} {K : Value → World → Prop} {σ : Q6} {l : List Cla} {v : Value}
theorem Kg {c:Cla} (h:Zy c=false):c.fields.length≤32∧c.methods.length≤32∧ ∀m∈c.methods,m.params.length≤32:=by
 simp only[Zy,Bool.or_eq_false_iff,decide_eq_false_iff_not,List.any_eq_false] at h
 obtain ⟨⟨⟨a,f⟩,d⟩,e⟩:=h
 refine ⟨by omega,by omega,fun m b=>?_⟩
 have:=a m b
 simp only[Wo,Bool.or_eq_true,decide_eq_true_eq,not_or] at this
 omega
set_option maxHeartbeats 8000000 in
theorem Q6C {i:Nat} (hs:X3 w σ) (hv:Sl 8 V0 σ v l) (ok:Ok l) (own:A4 l) (hlen:l.length≤1000) (hmn: ∀c∈l,Zy c=false) (hi:i<l.length)
 (h: ∀w' σ',Stp w σ w' σ'→K (I (V9 l l[i])) w'):Q1 P F.b9 [v,I i] w K:=Bw (by
 unfold Vq
 obtain ⟨lv,fv,mv,p0,r0⟩:=hv.elC hi
 refine Y1 hv hi ?_
 refine Y2 hs p0 rfl ?_
 refine Y7 hs (by rfl) rfl (Rep.one r0) fun q w1 σ1 hk1 hq1=>?_
 have r1:=RCl_lift r0 ⟨hk1.le⟩
 obtain ⟨_,gf,gm,g4,_⟩:=r1.parts
 have hv1:=hv.up hk1
 have hnm:=ok.nm _ (List.getElem_mem hi)
 have hcm:=hmn _ (List.getElem_mem hi)
 have hname:Y4 l i=l[i].name:=Pi hi
 generalize hcE:l[i]=c at*
 obtain ⟨mf,mm,mp⟩:=Kg hcm
 have e64:Yl l c=true→V9 l c=64:=fun e=>by unfold V9;simp[e]
 have e65:Yl l c=false→F3 l c=true→V9 l c=65:=fun e e2=>by unfold V9;simp[e,e2]
 have e66:Yl l c=false→F3 l c=false→Zk l c=true→V9 l c=66:=fun e e2 e3=>by unfold V9;simp[e,e2,e3]
 have e67:Yl l c=false→F3 l c=false→Zk l c=false→Dz l c=true→V9 l c=67:=fun e e2 e3 e4=>by unfold V9;simp[e,e2,e3,e4]
 have e0:Yl l c=false→F3 l c=false→Zk l c=false→Dz l c=false→V9 l c=0:=fun e e2 e3 e4=>by unfold V9;simp[e,e2,e3,e4]
 generalize V9 l c=R at*
 clear p0 r0 r1 hcm
 refine U2 c.fields.length (fun n w'=> ∃σ',Stp w σ w' σ'∧SLe σ1 σ'∧(c.fields.take n).any (fun f=>(Jx l c.super f.name).isSome)=false) ⟨σ1,hk1,SLe.refl _,rfl⟩ fun n w2 d hn hinv=>?_
 obtain ⟨σ2,hS2,le2,hno⟩:=hinv
 have hq2:=hq1.lift le2
 have gf2:=gf.lift le2
 (try simp only[↓M1,M1,Mb,reduceIte])
 refine ld hS2.sat hq2 rfl ?_
 refine Q8 gf2 ?_
 refine Z1 ?_
 refine Q7 (fun hc=>?_) (fun hc=>?_)
 ·have hn':n<c.fields.length:=by simpa using hc
  obtain ⟨pf,_⟩:=gf2.elF hn'
  have hs2:=hS2.sat
  refine J9 hs2 ?_
  (repeat refine J3 Qe ?_)
  (intros;(repeat (rename_i hx;subst hx));(try simp only[↓M2,M2,Mb,reduceIte]))
  rename_i w3 hb3
  refine Q9n hb3.sat (hv.up (hS2.trans hb3.stp)) ok.acy hlen ok.sm fun w4 σ4 hk4=>?_
  refine P4 ?_
  rw[A5]
  have hnx:=L2 (p:=fun f:Fld=>(Jx l c.super f.name).isSome) hn'
  cases hp:(Jx l c.super c.fields[n].name).isSome with
  | true=>
   (try simp only[↓M1,M1,Mb,reduceIte])
   rw[hp,Bool.or_true] at hnx
   have:R=64:=e64 (S9 hn' hp)
   subst this
   exact h _ _ ((hS2.trans hb3.stp).trans hk4)
  | false=>
   (try simp only[↓M1,M1,Mb,reduceIte])
   exact Y5 gf.max hn' ⟨σ4,(hS2.trans hb3.stp).trans hk4,le2.more ⟨(hb3.stp.trans hk4).le⟩,by rw[hnx,hno,hp];rfl⟩
 have hA:Yl l c=false:=by
  have hn': ¬n<c.fields.length:=by simpa using hc
  rw[E5 hn'] at hno;exact hno
 clear hno hc hn e64
 refine Hb (R:=U8) (e:=T.c) hS2 (by decide) fun x3 w3 hk3 ha3 _=>?_
 have hS3:=hS2.trans hk3
 refine E7 c.fields.length (fun n x w'=> ∃σ',Stp w σ w' σ'∧SLe σ1 σ'∧V6 w.heap.size T.c 1 U8 σ' w' x ((c.fields.take n).map (·.kind))) ⟨σ2,hS3,le2,ha3⟩ fun n x w4 d hn hinv=>?_
 obtain ⟨σ4,hS4,le4,ha4⟩:=hinv
 have hq4:=hq1.lift le4
 have gf4:=gf.lift le4
 (try simp only[↓M1,M1,Mb,reduceIte])
 refine ld hS4.sat hq4 rfl ?_
 refine Q8 gf4 ?_
 refine Z1 ?_
 refine Q7 (fun hc=>?_) (fun hc=>?_)
 ·have hn':n<c.fields.length:=by simpa using hc
  obtain ⟨pf,rf⟩:=gf4.elF hn'
  have hkl:=(hnm.2.1 _ (List.getElem_mem hn')).2
  (try simp only[↓M1,M1,Mb,reduceIte])
  refine ld hS4.sat hq4 rfl ?_
  refine Y1 gf4 hn' ?_
  (try simp only[↓M1,M1,Mb,reduceIte])
  refine ld hS4.sat pf rfl ?_
  refine Un (R:=U8) (x:=c.fields[n].kind) hS4 ha4 ⟨rfl,Nat.le_trans hkl (by decide)⟩ rfl rfl rfl (by rw[List.length_map,List.length_take];omega) (by rw[List.length_map,List.length_take];omega) fun s v' w5 σ5 hnx hS5 ha5 _=>?_
  (try simp only[↓M1,M1,Mb,reduceIte])
  refine J4 gf.max hn' ⟨σ5,hS5,le4.more hnx.le,?_⟩
  rw[List.take_add_one,List.getElem?_eq_getElem hn',List.map_append]
  exact ha5
 rw[List.take_of_length_le (by
  have: ¬n<c.fields.length:=by simpa using hc
  omega)] at ha4
 clear hc hn hk3 ha3 hS3 hS2 le2 hq2 gf2 hq4 gf4
 have hkl: ∀n,(c.fields.map (·.kind)++(c.methods.take n).flatMap Zd).length≤2000:=fun n=>by
  have h1:=Vu Zd 33 (c.methods.take n) fun m hm=>by
   have:=mp m (List.mem_of_mem_take hm)
   unfold Zd
   split<;>simp<;>omega
  have h2:(c.methods.take n).length≤32:=by rw[List.length_take];omega
  have h3:(c.methods.take n).length*33≤32*33:=Nat.mul_le_mul_right _ h2
  rw[List.length_append,List.length_map];omega
 refine E7 c.methods.length (fun n x w'=> ∃σ',Stp w σ w' σ'∧SLe σ1 σ'∧V6 w.heap.size T.c 1 U8 σ' w' x (c.fields.map (·.kind)++(c.methods.take n).flatMap Zd)) ⟨σ4,hS4,le4,by simpa using ha4⟩ fun n x w5 d hn hinv=>?_
 clear ha4 hS4 le4
 obtain ⟨σ5,hS5,le5,ha5⟩:=hinv
 have hq5:=hq1.lift le5
 have gm5:=gm.lift le5
 have hkn:=hkl n
 (try simp only[↓M1,M1,Mb,reduceIte])
 refine ld hS5.sat hq5 rfl ?_
 refine Q8 gm5 ?_
 refine Z1 ?_
 refine Q7 (fun hc=>?_) (fun hc=>?_)
 ·have hn':n<c.methods.length:=by simpa using hc
  obtain ⟨pv,cv,hv',pm,rm⟩:=gm5.elM hn'
  obtain ⟨gp,_,_,_,gr,_⟩:=rm.parts
  have hpn:=mp _ (List.getElem_mem hn')
  have hrl:=(hnm.2.2 _ (List.getElem_mem hn')).1
  have hnx:(c.methods.take (n+1)).flatMap Zd=(c.methods.take n).flatMap Zd++Zd c.methods[n]:=by
   rw[List.take_add_one,List.getElem?_eq_getElem hn',List.flatMap_append];simp
  refine U6 ?_
  (try simp only[↓M1,M1,Mb,reduceIte])
  refine ld hS5.sat hq5 rfl ?_
  refine Y1 gm5 hn' ?_
  (try simp only[↓M1,M1,Mb,reduceIte])
  refine ld hS5.sat pm rfl ?_
  refine Wl hS5 ha5 gp rfl (by omega) (by omega) fun v6 w6 hn6 hS6 ha6 _=>?_
  (try simp only[↓M1,M1,Mb,reduceIte])
  refine ld hS6.sat hq5 rfl ?_
  refine Y1 gm5 hn' ?_
  (try simp only[↓M1,M1,Mb,reduceIte])
  refine ld hS6.sat pm rfl ?_
  refine Zz ?_
  by_cases he:c.methods[n].result=[]
  ·simp only[he,decide_true,Bool.not_true,↓M1,M1,Mb,reduceIte]
   intro d
   refine J4 gm.max hn' ⟨σ5,hS6,le5,?_⟩
   rw[hnx]
   unfold Zd
   rw[if_pos he,List.append_nil,←List.append_assoc]
   exact ha6
  ·simp only[he,decide_false,Bool.not_false,↓M1,M1,Mb,reduceIte]
   refine ld hS6.sat hq5 rfl ?_
   refine Y1 gm5 hn' ?_
   (try simp only[↓M1,M1,Mb,reduceIte])
   refine ld hS6.sat pm rfl ?_
   refine Un (R:=U8) (x:=c.methods[n].result) hS6 ha6 ⟨rfl,Nat.le_trans hrl (by decide)⟩ rfl rfl rfl (by rw[List.length_append];omega) (by rw[List.length_append];omega) fun s v' w7 σ7 hn7 hS7 ha7 _=>?_
   intro d
   (try simp only[↓M1,M1,Mb,reduceIte])
   refine J4 gm.max hn' ⟨σ7,hS7,le5.more hn7.le,?_⟩
   rw[hnx]
   unfold Zd at ha7⊢
   rw[if_neg he]
   simpa only[List.append_assoc] using ha7
 rw[List.take_of_length_le (by
  have: ¬n<c.methods.length:=by simpa using hc
  omega)] at ha5
 have hkn:=hkl c.methods.length
 rw[List.take_of_length_le (Nat.le_refl _)] at hkn
 have hkE:F3 l c=(Ul c).any (fun s=> !O8 l s):=Q9r.symm
 have hkb: ∀s∈Ul c,s.length≤U1:=fun s hs=>by
  unfold Ul at hs
  rcases List.mem_append.1 hs with hs | hs
  ·obtain ⟨f,hf,rfl⟩:=List.mem_map.1 hs
   exact Nat.le_trans (hnm.2.1 f hf).2 (by decide)
  ·obtain ⟨m,hm,hs⟩:=List.mem_flatMap.1 hs
   unfold Zd at hs
   rcases List.mem_append.1 hs with hs | hs
   ·exact Nat.le_trans ((hnm.2.2 m hm).2 s hs) (by decide)
   ·split at hs
    ·simp at hs
    ·simp at hs;subst hs;exact Nat.le_trans (hnm.2.2 m hm).1 (by decide)
 obtain ⟨σ6,hS6,hv6,lee6,_⟩:=ha5.keep hS5
 have le6:=le5.more ⟨lee6⟩
 clear ha5 hq5 gm5 hc hn
 change Sl 1 U8 σ6 x (Ul c) at hv6
 refine U2 (Ul c).length (fun n w'=>Stp w σ w' σ6∧((Ul c).take n).any (fun s=> !O8 l s)=false) ⟨hS6,rfl⟩ fun n w7 d hn hinv=>?_
 obtain ⟨hS7,hno⟩:=hinv
 refine Q8 hv6 ?_
 refine Z1 ?_
 refine Q7 (fun hc=>?_) (fun hc=>?_)
 ·have hn':n<(Ul c).length:=by simpa using hc
  refine Y1 hv6 hn' ?_
  obtain ⟨pk,_⟩:=hv6.elS hn'
  refine X7 hS7.sat pk rfl ?_
  refine Q9W hS7.sat (hv.up hS7) (hkb _ (List.getElem_mem hn')) ?_
  have hnx:=L2 (p:=fun s=> !O8 l s) hn'
  cases hp:O8 l (Ul c)[n] with
  | false=>
   (try simp only[↓M1,M1,Mb,reduceIte])
   have:R=65:=e65 hA (by rw[hkE];exact S9 hn' (by simp[hp]))
   subst this
   exact h _ _ hS7
  | true=>
   (try simp only[↓M1,M1,Mb,reduceIte])
   exact Y5 hv6.max hn' ⟨hS7,by rw[hnx,hno,hp];rfl⟩
 have hB:F3 l c=false:=by
  have hn': ¬n<(Ul c).length:=by simpa using hc
  rw[E5 hn'] at hno;rw[hkE];exact hno
 clear hno hc hn e65 hkE hkb hkn hkl hS5 le5 lee6 hv6
 refine Q0K hS7.sat (hv.up hS7) own (by omega) hlen ok.sm fun vb w8 σ8 hk8 hb8=>?_
 have hS8:=hS7.trans hk8
 refine Hb (R:=H0) (e:=T.e) hS8 (by decide) fun x9 w9 hk9 ha9 _=>?_
 have hml: ∀n,n≤l.length→(Xj l i n).length≤32000:=fun n hn=>by
  unfold Xj
  have h1:=Vu (fun k=>if upB l i k then (l.getD k Cla.zero).methods else []) 32 (List.range n) fun k hk=>by
   have hk':k<l.length:=by have:=List.mem_range.1 hk;omega
   split
   ·rw[Bd hk'];exact (Kg (hmn _ (List.getElem_mem _))).2.1
   ·simp
  rw[List.length_range] at h1
  have h3:n*32≤1000*32:=Nat.mul_le_mul_right _ (by omega)
  omega
 have hbl:(I8 l).length=l.length:=by simp[I8]
 refine E7 l.length (fun n x w'=> ∃σ',Stp w σ w' σ'∧SLe σ1 σ'∧SLe σ8 σ'∧V6 w.heap.size T.e 7 H0 σ' w' x (Xj l i n)) ⟨σ8,hS8.trans hk9,le6.more ⟨hk8.le⟩,SLe.refl _,ha9⟩ fun n x w10 d hn hinv=>?_
 clear ha9 hk9 hS7 hS8 le6 hS6 hk8
 obtain ⟨σ10,hS10,le10,leb,ha10⟩:=hinv
 have hv10:=hv.up hS10
 refine Q8 hv10 ?_
 refine Z1 ?_
 refine Q7 (fun hc=>?_) (fun hc=>?_)
 ·have hn':n<l.length:=by simpa using hc
  have hmn1:=hml n hn
  have hsuc:=Q8n (l:=l) (i:=i) (n:=n)
  rw[Bd hn'] at hsuc
  obtain ⟨lv2,fv2,mv2,p2,r2⟩:=hv10.elC hn'
  obtain ⟨_,_,g3,_,_⟩:=r2.parts
  have hmn2:=(Kg (hmn _ (List.getElem_mem hn'))).2.1
  refine Jc (fun z w'=>Stp w σ w' σ10∧V6 w.heap.size T.e 7 H0 σ10 w' z (Xj l i (n+1))) ?_ (fun z d w' hz=>?_)
  ·refine I2 ?_
   have happ: ∀{J:Value→World→Prop},upB l i n=true→(∀z w',Stp w σ w' σ10→V6 w.heap.size T.e 7 H0 σ10 w' z (Xj l i (n+1))→J z w')→
    X2 P .append [T.j,T.j] T.j [false,false] [x,mv2] w10 J:=fun hu hJ=>
    Wl hS10 ha10 g3 rfl (by omega) (by omega) fun v' w' _ hS' ha' _=>hJ v' w' hS' (by rw[hsuc,if_pos hu];exact ha')
   by_cases e:n=i
   ·have e1:decide ((n:Int)=(i:Int))=true:=by simp[e]
    rw[e1]
    (try simp only[↓M1,M1,Mb,reduceIte])
    refine Y1 hv10 hn' ?_
    (try simp only[↓M1,M1,Mb,reduceIte])
    refine ld hS10.sat p2 rfl ?_
    exact happ (by simp[upB,e]) fun z w' h1 h2=>⟨h1,h2⟩
   ·have e1:decide ((n:Int)=(i:Int))=false:=by rw[decide_eq_false_iff_not];omega
    rw[e1]
    obtain ⟨cs1,pb,_,rv,rfl,rb⟩:=(hb8.lift leb).el (i:=i) (by rw[hbl];exact hi)
    have hrow:(I8 l)[i]'(by rw[hbl];exact hi)=(List.range l.length).map fun j=>Xn l (Y4 l i) (Y4 l j):=by simp[I8]
    rw[hrow] at rb
    obtain ⟨cs2,pb2,_,hcs2⟩:=rb.el (i:=n) (by simpa using hn')
    have hcs2:cs2=_:=hcs2
    subst hcs2
    simp only[List.getElem_map,List.getElem_range] at pb2
    (try simp only[↓M1,M1,Mb,reduceIte])
    refine Y1 (hb8.lift leb) (by rw[hbl];exact hi) ?_
    refine X7 hS10.sat pb rfl ?_
    refine Y1 rb (by simpa using hn') ?_
    refine X7 hS10.sat pb2 rfl ?_
    (try simp only[↓M1,M1,Mb,reduceIte])
    cases ho:Xn l (Y4 l i) (Y4 l n) with
    | true=>
     (try simp only[↓M1,M1,Mb,reduceIte])
     refine Y1 hv10 hn' ?_
     (try simp only[↓M1,M1,Mb,reduceIte])
     refine ld hS10.sat p2 rfl ?_
     exact happ (by simp[upB,ho]) fun z w' h1 h2=>⟨h1,h2⟩
    | false=>
     (try simp only[↓M1,M1,Mb,reduceIte])
     refine ⟨hS10,?_⟩
     have:upB l i n=false:=by simp[upB,ho,e]
     rw[hsuc,this]
     simpa using ha10
  ·obtain ⟨hS',ha'⟩:=hz
   (try simp only[↓M1,M1,Mb,reduceIte])
   exact J4 (by omega) hn' ⟨σ10,hS',le10,leb,ha'⟩
 have hn0:n=l.length:=by
  have: ¬n<l.length:=by simpa using hc
  omega
 subst hn0
 obtain ⟨σ11,hS11,hv11,lee11,_⟩:=ha10.keep hS10
 have le11:=le10.more ⟨lee11⟩
 have hml2:=hml _ (Nat.le_refl l.length)
 have hov:Zk l c=Nq (Xj l i l.length):=by
  unfold Zk
  refine (Q70 fun m=>?_).symm
  rw[Q47 own hi,hname]
 have hlk:Dz l c=(!c.abs&&(Xj l i l.length).any fun m=>Ze l c.name m.name):=by
  unfold Dz
  congr 1
  refine (X0T fun m=>?_).symm
  rw[Q47 own hi,hname]
 have hsn: ∀m∈Xj l i l.length,SmM m∧NmM m:=fun m hm=>by
  obtain ⟨c2,hc2,hm2⟩:=Q9m hm (Nat.le_refl _)
  exact ⟨(ok.sm c2 hc2).2.2.2 m hm2,(ok.nm c2 hc2).2.2 m hm2⟩
 generalize Xj l i l.length=ms at hov hlk hsn hml2 hv11
 clear ha10 lee11 hS10 le10 leb hv10 hml hc hb8 hbl
 refine U2 ms.length (fun n w'=> ∃σ',Stp w σ w' σ'∧SLe σ11 σ'∧ ∀a b,a<n→b<a→A9 ms a b=false) ⟨σ11,hS11,SLe.refl _,fun a b h=>by omega⟩ fun n w12 d hn hinv=>?_
 obtain ⟨σ12,hS12,le12,hno⟩:=hinv
 have hv12:=hv11.lift le12
 refine Q8 hv12 ?_
 refine Z1 ?_
 refine Q7 (fun hc=>?_) (fun hc=>?_)
 ·have hn':n<ms.length:=by simpa using hc
  refine U2 n (fun m w'=> ∃σ',Stp w σ w' σ'∧SLe σ11 σ'∧ ∀b,b<m→A9 ms n b=false) ⟨σ12,hS12,le12,fun b h=>by omega⟩ fun m w13 d hm hinv=>?_
  obtain ⟨σ13,hS13,le13,hno2⟩:=hinv
  have hv13:=hv11.lift le13
  refine Z1 ?_
  refine Q7 (fun hc=>?_) (fun hc=>?_)
  ·have hm':m<n:=by simpa using hc
   have hm2:m<ms.length:=by omega
   obtain ⟨pv1,cv1,hv1',pn,rn⟩:=hv13.elM hn'
   obtain ⟨pv2,cv2,hv2',pm,rm⟩:=hv13.elM hm2
   obtain ⟨sn1,sn2⟩:=hsn _ (List.getElem_mem hn')
   obtain ⟨sm1,sm2⟩:=hsn _ (List.getElem_mem hm2)
   have hat:A9 ms n m=(decide (ms[n].name=ms[m].name)&& !decide (Qz ms[n]=Qz ms[m])):=by
    unfold A9;rw[Bd hn',Bd hm2]
   have hs13:=hS13.sat
   have hnx:A9 ms n m=false→ ∀b,b<m+1→A9 ms n b=false:=fun e b hb=>by
    by_cases e2:b=m
    ·subst e2;exact e
    ·exact hno2 b (by omega)
   refine J9 hs13 ?_
   (repeat refine J3 Qe ?_)
   by_cases he:ms[n].name=ms[m].name
   ·have hd:decide (ms[n].name=ms[m].name)=true:=by simp[he]
    simp only[hd,reduceIte]
    (repeat (apply J3;(· intros;(repeat (rename_i hx;subst hx));(repeat' (first | (with_reducible exact M5 rfl) | (with_reducible exact R8 (Stp.bel (by (repeat (first | exact Stp.refl (by (first | assumption | exact Stp.sat (by assumption) | exact Hst.sat (by assumption))) | assumption | refine Stp.trans ?_ (by first | assumption | exact Hst.stp (by assumption)))))) rfl) | (with_reducible intro _) | (simp only[↓M2,M2,Mb,reduceIte]) | (with_reducible show Q2 _ _ _ _ _;first | refine X7 aS aL aR ?_ | refine Y2 aS aL aR ?_ | refine ld aS aL aR ?_) | (with_reducible show indexAddr _ _ _ _ _ _;refine Y1 aL au ?_) | (with_reducible show X2 _ _ _ _ _ _ _ _;refine Q8 aL ?_) | (with_reducible show F2 _ _ _ _ _ _;refine Z9 aR ?_) | (with_reducible show pick _ _ _ _ _ _;refine L8 ?_) | (with_reducible show Q1 _ _ _ _ _;first | refine Q5s au au au au ?_) | (apply F4;intro hh;(try simp only[hh,reduceIte,↓M2,M2,Mb,reduceIte]))));done)))
    (intros;(repeat (rename_i hx;subst hx));(try simp only[↓M2,M2,Mb,reduceIte]))
    rename_i w14 hb14
    refine Q5s hb14.sat rm sm1 sm2 fun w15 σ15 hk15=>?_
    refine Zz ?_
    (try simp only[↓M1,M1,Mb,reduceIte])
    have hS15:=(hS13.trans hb14.stp).trans hk15
    by_cases hsg:Qz ms[n]=Qz ms[m]
    ·simp only[hsg,decide_true,Bool.not_true,↓M1,M1,Mb,reduceIte]
     refine Y5 (by omega) hm' ⟨σ15,hS15,le13.more ⟨(hb14.stp.trans hk15).le⟩,hnx ?_⟩
     rw[hat,hsg];simp
    ·simp only[hsg,decide_false,Bool.not_false,↓M1,M1,Mb,reduceIte]
     have:R=66:=e66 hA hB (by rw[hov];exact Q9E hn' hm2 (by rw[hat];simp[he,hsg]))
     subst this
     exact h _ _ hS15
   ·have hd:decide (ms[n].name=ms[m].name)=false:=by simp[he]
    simp only[hd,Bool.false_eq_true,reduceIte]
    (repeat refine J3 Qe ?_)
    (intros;(repeat (rename_i hx;subst hx));(try simp only[↓M2,M2,Mb,reduceIte]))
    rename_i w14 hb14
    (try simp only[↓M1,M1,Mb,reduceIte])
    refine Y5 (by omega) hm' ⟨σ13,hS13.trans hb14.stp,le13,hnx ?_⟩
    rw[hat];simp[he]
  ·have hm0:m=n:=by
    have: ¬m<n:=by simpa using hc
    omega
   subst hm0
   (try simp only[↓M1,M1,Mb,reduceIte])
   refine Y5 hv11.max hn' ⟨σ13,hS13,le13,fun a b ha hb=>?_⟩
   by_cases e:a=m
   ·subst e;exact hno2 b hb
   ·exact hno a b (by omega) hb
 have hC:Zk l c=false:=by
  rw[hov]
  have: ¬n<ms.length:=by simpa using hc
  exact X17 fun x y hx hy=>hno x y (by omega) hy
 clear hno hc hn hv12 hov e66
 refine U2 ms.length (fun n w'=> ∃σ',Stp w σ w' σ'∧SLe σ11 σ'∧(c.abs=true→n=0)∧(ms.take n).any (fun m=>Ze l c.name m.name)=false) ⟨σ12,hS12,le12,fun _=>rfl,rfl⟩ fun n w13 d hn hinv=>?_
 clear hS12 le12
 obtain ⟨σ13,hS13,le13,hab,hno⟩:=hinv
 have hv13:=hv11.lift le13
 have hq13:=hq1.lift (le11.more le13)
 refine Q8 hv13 ?_
 refine Z1 ?_
 by_cases hn':n<ms.length
 ·have e1:decide ((n:Int)<(ms.length:Int))=true:=by simpa using hn'
  rw[e1]
  (try simp only[↓M1,M1,Mb,reduceIte])
  refine ld hS13.sat hq13 rfl ?_
  refine Wn ?_
  (try simp only[↓M1,M1,Mb,reduceIte])
  cases hca:c.abs with
  | true=>
   (try simp only[↓M1,M1,Mb,reduceIte])
   have:R=0:=e0 hA hB hC (by rw[hlk,hca];rfl)
   subst this
   exact h _ _ hS13
  | false=>
   (try simp only[↓M1,M1,Mb,reduceIte])
   obtain ⟨pvn,cvn,hvn,pn,rn⟩:=hv13.elM hn'
   have hs13:=hS13.sat
   have hnx:=L2 (p:=fun m:Hm.Met=>Ze l c.name m.name) hn'
   have hla:Ze l c.name ms[n].name=(!(V2 l c.name ms[n].name).isSome||(o2 (V2 l c.name ms[n].name)).abs):=by
    unfold Ze
    cases V2 l c.name ms[n].name<;>rfl
   generalize hF:(fun o:Option Obj=> ∃cs:List Value,∃e,o=some (.cells cs.toArray e (0,0))∧cs.length=7∧cs[3]? =some (.bool (o2 (V2 l c.name ms[n].name)).abs))=F
   have hFn: ¬F none:=by rw[←hF];rintro ⟨_,_,h,_⟩;cases h
   refine X3g F hs13 ?_
   (repeat (apply J3;(· intros;(repeat (rename_i hx;subst hx));(repeat' (first | (with_reducible exact Q5j rfl) | (with_reducible exact X1P (Stp.bel (by (repeat (first | exact Stp.refl (by (first | assumption | exact Stp.sat (by assumption) | exact Hst.sat (by assumption))) | assumption | refine Stp.trans ?_ (by first | assumption | exact Hst.stp (by assumption)))))) rfl) | (with_reducible intro _) | (simp only[↓M2,M2,Mb,reduceIte]) | (with_reducible show Q2 _ _ _ _ _;first | refine X7 aS aL aR ?_ | refine Y2 aS aL aR ?_ | refine ld aS aL aR ?_) | (with_reducible show indexAddr _ _ _ _ _ _;refine Y1 aL au ?_) | (with_reducible show X2 _ _ _ _ _ _ _ _;refine Q8 aL ?_) | (with_reducible show F2 _ _ _ _ _ _;refine Z9 aR ?_) | (with_reducible show pick _ _ _ _ _ _;refine L8 ?_)));done)))
   refine H2 (fun v _=> ∃s,∃ds:List Value,v= .tuple #[s, .agg ds.toArray, .bool (V2 l c.name ms[n].name).isSome]∧ds.length=7∧ds[3]? =some (.bool (o2 (V2 l c.name ms[n].name)).abs)∧ ∀u∈ds,u.oneCell'=true) (fun _ _ _ h _=>h) (fun t180 t185 w hb e1 e2=>?_) ?_
   ·subst e1;subst e2
    refine Q7S hb.sat (hv.up (hS13.trans hb.stp)) ok fun pv cv hv w' σ' hk hr=>⟨.of_below hk.bel,_,_,rfl,rfl,rfl,Rep.one hr⟩
   refine H2 (fun _ _=>True) (fun _ _ _ _ _=>trivial) (fun t186 w hb e=>?_) ?_
   ·obtain ⟨s,ds,rfl,_⟩:=e
    exact J0 (vs:=[_,_,_]) rfl ⟨.of_below (Below.refl _ _),trivial⟩
   refine H2 (fun v _=> ∃ds:List Value,v= .agg ds.toArray∧ds.length=7∧ds[3]? =some (.bool (o2 (V2 l c.name ms[n].name)).abs)∧ ∀u∈ds,u.oneCell'=true) (fun _ _ _ h _=>h) (fun t186 w hb e=>?_) ?_
   ·obtain ⟨s,ds,rfl,h7⟩:=e
    exact J0 (vs:=[_,_,_]) rfl ⟨.of_below (Below.refl _ _),ds,rfl,h7⟩
   refine J3 (V:= .bool (V2 l c.name ms[n].name).isSome) (fun t186 w hb e=>?_) ?_
   ·obtain ⟨s,ds,rfl,h7⟩:=e
    exact J0 (vs:=[_,_,_]) rfl (Q5j rfl)
   refine H2 (X3k w13.heap.size 7 F) (Q8b hFn) (fun w hb=>?_) ?_
   ·exact Iv hb.sat fun b w' hb2 hk hm=>⟨.of_below hk.bel,b,rfl,Nat.le_trans hb.stp.bel.size hb2, .inl ⟨_,hm.2.choose,rfl,hm.2.choose_spec⟩⟩
   refine Q3C (fun xs _ w=>X2D w13.heap.size F (xs.headD undef) w) (fun xs _ w w' h hT=>Q8x hFn _ w w' h hT) (fun t18 t188 w hb e1 e2=>?_) ?_
   ·obtain ⟨g,rfl,hg,hd⟩:=e1
    obtain ⟨ds,rfl,h7,h3,h1⟩:=e2
    obtain ⟨cs,e,hl7,hh⟩: ∃cs:List Value,∃e,cs.length=7∧w.heap[g]? =some (.cells cs.toArray e (0,0)):=by
     rcases hd with h | h
     ·exact h
     ·rw[←hF] at h
      obtain ⟨cs,e,h4,h5,_⟩:=h
      exact ⟨cs,e,h5,h4⟩
    refine Ob (σ:=fun _=>none) (cs:=cs) (ds:=ds) ⟨rfl,e,hh⟩ hl7 h7 (by rw[List.all_toArray];exact List.all_eq_true.2 h1) fun w' hu hm=>?_
    have hFg:F (w'.heap[g]?):=by
     obtain ⟨_,e',hm'⟩:=hm
     rw[hm',←hF]
     exact ⟨ds,e',rfl,h7,h3⟩
    exact ⟨FinT.of_upd hu hg hFg,g,rfl,hg,hFg⟩
   rintro t179 t183 t184 t180 t185 t186 t187 t188 t189 t18 u15 w14 hb14 rfl rfl rfl rfl rfl _ _ _ rfl _ ⟨g,e,hg,hd⟩
   have e:t18=_:=e
   subst e
   rw[←hF] at hd
   obtain ⟨cs,ty,hh,hl7,h3⟩:=hd
   have hS14:=hS13.trans hb14.stp
   refine Wn ?_
   cases hsm:(V2 l c.name ms[n].name).isSome with
   | false=>
    (try simp only[↓M1,M1,Mb,reduceIte])
    have:R=67:=e67 hA hB hC (by rw[hlk,hca];exact S9 hn' (by rw[hla,hsm];rfl))
    subst this
    exact h _ _ hS14
   | true=>
    (try simp only[↓M1,M1,Mb,reduceIte])
    refine Yj (σ:=fun _=>none) ⟨rfl,ty,hh⟩ h3 ?_
    (try simp only[↓M1,M1,Mb,reduceIte])
    cases hma:(o2 (V2 l c.name ms[n].name)).abs with
    | true=>
     (try simp only[↓M1,M1,Mb,reduceIte])
     have:R=67:=e67 hA hB hC (by rw[hlk,hca];exact S9 hn' (by rw[hla,hma,Bool.or_true]))
     subst this
     exact h _ _ hS14
    | false=>
     (try simp only[↓M1,M1,Mb,reduceIte])
     refine Y5 hv11.max hn' ⟨σ13,hS14,le13,fun e=>False.elim (by simpa using e),?_⟩
     rw[hnx,hno,hla,hsm,hma];rfl
 ·have e1:decide ((n:Int)<(ms.length:Int))=false:=by simpa using hn'
  rw[e1]
  (try simp only[↓M1,M1,Mb,reduceIte])
  rw[E5 hn'] at hno
  have:R=0:=e0 hA hB hC (by rw[hlk,hno,Bool.and_false])
  subst this
  exact h _ _ hS13)
end Go.Proofs.YtjdiakhipmggjaaGreatDoor

namespace Go.Proofs.YtjdiakhipmggjaaGreatDoor
open Go.Emb Go.RowKit Go.Kd Go.Hm
variable {w : World} {K : Value → World → Prop} {σ : Q6} {l : List Cla} {v : Value}
theorem X21 {w0:World} {σ0:Q6} {frm:Nat} (ha:Ji l) (ho:A4 l) (hl:l.length≤1000) (ao: ∀c∈l,Qo c) (hf:0<frm) (av: ∀i (E:i<l.length),frm≤i→ ∀u∈U3 l[i],∃j,Z2 l u=some j): ∀(k:Nat) {i:Nat} {b:List Nat} {x:Value} {w:World} {σ:Q6} {K:Value→World→Prop},i<l.length→P1 l (Y4 l i)<k→Few l b→Stp w0 σ0 w σ→Sl 8 V0 σ v l→V6 w0.heap.size T.d 1 Wz σ w x (ints b)→
 (∀x' w' U,Stp w0 σ0 w' U→SLe σ U→V6 w0.heap.size T.d 1 Wz U w' x' (ints (Xt l frm b i))→K x' w')→Q1 P F.b1 [v,x,I frm,I i] w K:=by
 intro k
 induction k with
 | zero=>intro i b x w σ K E hk;omega
 | succ k ih=>
  intro i b x w σ K E hk A hS hv hx h
  refine Q1h ?_
  unfold Hh
  rw[Q7K ha ho hf b E] at h
  refine Z1 ?_
  refine Q7 (fun O=>?_) (fun O=>?_)
  ·have O:i<frm:=by have:=of_decide_eq_true O;omega
   rw[if_pos O] at h
   exact h _ _ _ hS (SLe.refl _) hx
  have O: ¬i<frm:=by have:=of_decide_eq_false O;omega
  rw[if_neg O] at h
  have bc:=A.len
  refine U2 b.length (fun n w'=>w'=w∧ ∀m (hm:m<b.length),m<n→b[m]≠i) ⟨rfl,fun m _ h=>by omega⟩ fun n w2 d hn p=>?_
  obtain ⟨hw,Q⟩:=p
  subst hw
  refine Q8g hx ?_
  rw[show (ints b).length=b.length from by simp]
  refine Z1 ?_
  refine Q7 (fun C=>?_) (fun C=>?_)
  ·have f:n<b.length:=by simpa using C
   refine Q6f (J7.of_acc hx) (n:=n) (by simpa using f) fun a cs an bq hr=>?_
   obtain ⟨rfl,_⟩:=hr
   refine Qi (by have:=an 0 _ rfl;rwa [add_zero] at this) ?_
   simp only[List.getElem_map]
   refine I2 ?_
   by_cases e:b[n]=i
   ·have:decide ((b[n]:Int)=i)=true:=by simp[e]
    rw[this]
    refine J6 ?_
    rw[if_pos (e▸List.getElem_mem f)] at h
    exact h _ _ _ hS (SLe.refl _) hx
   ·have:decide ((b[n]:Int)=i)=false:=by rw[decide_eq_false_iff_not];omega
    rw[this]
    refine Z6 ?_
    refine O5 ?_
    refine Y5 (by omega) f ⟨rfl,fun m hm br=>?_⟩
    by_cases e2:m=n
    ·subst e2;exact e
    ·exact Q m hm (by omega)
  ·have f: ¬n<b.length:=by simpa using C
   have H:i∉b:=fun ar=>by
    obtain ⟨m,hm,e⟩:=List.getElem_of_mem ar
    exact Q m hm (by omega) e
   rw[if_neg H] at h
   have Y:l.getD i Cla.zero=l[i]:=by rw[List.getD_eq_getElem?_getD,List.getElem?_eq_getElem E];rfl
   rw[Y] at h
   have ap:=av i E (by omega)
   obtain ⟨lv,fv,mv,p1,r1⟩:=hv.elC E
   obtain ⟨g1,_,_,_,g5⟩:=r1.parts
   have D:=ao _ (List.getElem_mem E)
   clear Q H C hn
   refine J9 hS.sat ?_
   (repeat refine J3 Qe ?_)
   refine Q1A (w:=w2) (σ:=σ) (R:=U8) (sz:=1) (e:=T.c) [l[i].super] (fun t w hb e=>?_) ?_
   ·subst e;exact Zf hb.stp [_] [l[i].super] rfl rfl (by simp;rfl) rfl ⟨⟨rfl,g5⟩,trivial⟩ fun v' w' hk ha _=>Q3i hb hk ha
   (repeat refine J3 Qe ?_)
   rintro bs bh bw bx bk bi ba w4 a0 rfl rfl rfl rfl rfl ⟨V,ae⟩ rfl
   refine Wl V ae g1 rfl (by simp;have:=D.1;omega) (by simp;have:=D.1;omega) fun v5 w5 aq Z af ad=>?_
   obtain ⟨σ6,r,J,be,_⟩:=af.keep Z
   have J:Sl 1 U8 σ6 v5 (U3 l[i]):=J
   have ax:=hx.up r
   have X:=hv.up r
   have W:=hS.trans r
   have aa:SLe σ σ6:=⟨r.le⟩
   clear aq ad af ae V a0 Z
   refine E7 (U3 l[i]).length (fun n x w'=> ∃U o,Stp w0 σ0 w' U∧SLe σ6 U∧V6 w0.heap.size T.d 1 Wz U w' x (ints o)∧Few l o∧o=((U3 l[i]).take n).foldl (fun b n=>Xt l frm b ((Z2 l n).getD 0)) b) ⟨σ6,b,W,SLe.refl _,ax,A,rfl⟩ fun n x7 w7 d hn p=>?_
   obtain ⟨σ7,a1,y,z,ah,g,L⟩:=p
   have q:=J.lift z
   refine Q8 q ?_
   refine Z1 ?_
   refine Q7 (fun C=>?_) (fun C=>?_)
   ·have f:n<(U3 l[i]).length:=by simpa using C
    refine Y1 q f ?_
    obtain ⟨p7,_⟩:=q.elS f
    refine X7 y.sat p7 rfl ?_
    have B:=X.lift z
    refine K0 y.sat B ?_
    obtain ⟨j,hj⟩:=ap _ (List.getElem_mem f)
    have bv:=Q1s ha ho E (by rw[Y];exact List.getElem_mem f) hj
    have ab:=(S8 hj).1
    simp only[hj,L6]
    refine ih ab (by omega) g y B ah fun x8 w8 σ8 M aw N=>?_
    refine O5 ?_
    refine J4 q.max f ⟨σ8,_,M,z.more aw,N,Is ha ho hf _ _ _ ab g,?_⟩
    rw[List.take_add_one,List.getElem?_eq_getElem f,List.foldl_append,←L]
    simp[hj]
   ·have f: ¬n<(U3 l[i]).length:=by simpa using C
    rw[List.take_of_length_le (by omega)] at L
    have bo:=g.len
    refine Un (R:=Wz) (x:=(i:Int)) y ah ⟨rfl,by omega,by omega⟩ rfl rfl rfl (by simp;omega) (by simp;omega) fun s x8 w8 σ8 am M N _=>?_
    refine h _ _ _ M ((aa.more z).more am.le) ?_
    rw[←L]
    simpa [ints] using N
end Go.Proofs.YtjdiakhipmggjaaGreatDoor

namespace Go.Hm
open Go.Kd
def C4 (n i b:Nat):Bool:=decide (i<n)&&decide (128≤b)&&decide (b<192)
def Jb (n a b c d:Nat):Nat:=
 if a<128 then 1
 else if (decide (194≤a)&&decide (a<224)&&C4 n 1 b)=true then 2
 else if (decide (224≤a)&&decide (a<240)&&C4 n 1 b&&C4 n 2 c)=true then
  (if 2048≤a % 16*4096+b % 64*64+c % 64∧(a % 16*4096+b % 64*64+c % 64<55296∨57343<a % 16*4096+b % 64*64+c % 64) then 3 else 0)
 else if (decide (240≤a)&&decide (a<245)&&C4 n 1 b&&C4 n 2 c&&C4 n 3 d)=true then
  (if 65536≤a % 8*262144+b % 64*4096+c % 64*64+d % 64∧a % 8*262144+b % 64*4096+c % 64*64+d % 64≤1114111 then 4 else 0)
 else 0
theorem X0i (n a b c d:Nat) (t:a<256) (p:b<256) (r:c<256) (q:d<256):
 Jb n a b c d=if (Lib.decodeN n a b c d).1=65533∧(Lib.decodeN n a b c d).2=1 then 0 else (Lib.decodeN n a b c d).2:=by
 have key: ∀v k:Nat,Lib.decodeN n a b c d=(v,k)→ ¬k=1→Jb n a b c d=k→Jb n a b c d=if (Lib.decodeN n a b c d).1=65533∧(Lib.decodeN n a b c d).2=1 then 0 else (Lib.decodeN n a b c d).2:=by
  intro v k h o l
  rw[h,l,if_neg (fun e=>o e.2)]
 have f:Lib.decodeN n a b c d=(65533,1)→Jb n a b c d=0→Jb n a b c d=if (Lib.decodeN n a b c d).1=65533∧(Lib.decodeN n a b c d).2=1 then 0 else (Lib.decodeN n a b c d).2:=by
  intro h l
  rw[h,l];simp
 by_cases c0:a<128
 ·have h:Lib.decodeN n a b c d=(a,1):=by unfold Lib.decodeN;rw[if_pos c0]
  rw[h,if_neg (by simp only;omega)]
  unfold Jb;rw[if_pos c0]
 by_cases i:a / 32=6∧(1<n∧b / 64=2)
 ·by_cases g:a % 32*64+b % 64≥128
  ·refine key _ 2 (by unfold Lib.decodeN;rw[if_neg c0,if_pos i,if_pos g]) (by decide) ?_
   unfold Jb C4
   simp only[Bool.and_eq_true,decide_eq_true_eq]
   rw[if_neg c0,if_pos (by omega)]
  ·refine f (by unfold Lib.decodeN;rw[if_neg c0,if_pos i,if_neg g]) ?_
   unfold Jb C4
   simp only[Bool.and_eq_true,decide_eq_true_eq]
   rw[if_neg c0,if_neg (by omega),if_neg (by omega),if_neg (by omega)]
 by_cases j:a / 16=14∧(1<n∧b / 64=2)∧(2<n∧c / 64=2)
 ·by_cases g:2048≤a % 16*4096+b % 64*64+c % 64∧(a % 16*4096+b % 64*64+c % 64<55296∨57343<a % 16*4096+b % 64*64+c % 64)
  ·refine key _ 3 (by unfold Lib.decodeN;rw[if_neg c0,if_neg i,if_pos j,if_pos (by omega)]) (by decide) ?_
   unfold Jb C4
   simp only[Bool.and_eq_true,decide_eq_true_eq]
   rw[if_neg c0,if_neg (by omega),if_pos (by omega),if_pos g]
  ·refine f (by unfold Lib.decodeN;rw[if_neg c0,if_neg i,if_pos j,if_neg (by omega)]) ?_
   unfold Jb C4
   simp only[Bool.and_eq_true,decide_eq_true_eq]
   rw[if_neg c0,if_neg (by omega),if_pos (by omega),if_neg g]
 by_cases m:a / 8=30∧(1<n∧b / 64=2)∧(2<n∧c / 64=2)∧(3<n∧d / 64=2)
 ·by_cases g:65536≤a % 8*262144+b % 64*4096+c % 64*64+d % 64∧a % 8*262144+b % 64*4096+c % 64*64+d % 64≤1114111
  ·refine key _ 4 (by unfold Lib.decodeN;rw[if_neg c0,if_neg i,if_neg j,if_pos m,if_pos (by omega)]) (by decide) ?_
   unfold Jb C4
   simp only[Bool.and_eq_true,decide_eq_true_eq]
   rw[if_neg c0,if_neg (by omega),if_neg (by omega),if_pos (by omega),if_pos g]
  ·refine f (by unfold Lib.decodeN;rw[if_neg c0,if_neg i,if_neg j,if_pos m,if_neg (by omega)]) ?_
   unfold Jb C4
   simp only[Bool.and_eq_true,decide_eq_true_eq]
   rw[if_neg c0,if_neg (by omega),if_neg (by omega)]
   by_cases s:a<245
   ·rw[if_pos (by omega),if_neg g]
   ·rw[if_neg (by omega)]
 ·refine f (by unfold Lib.decodeN;rw[if_neg c0,if_neg i,if_neg j,if_neg m]) ?_
  unfold Jb C4
  simp only[Bool.and_eq_true,decide_eq_true_eq]
  rw[if_neg c0,if_neg (by omega),if_neg (by omega),if_neg (by omega)]
def X5 (l:X0) (i:Nat):Nat:=(l.getD i 0).toNat
theorem Yg (l:X0) (i:Nat):X5 l i<256:=(l.getD i 0).toNat_lt
def Je (l:X0):Nat:=Jb l.length (X5 l 0) (X5 l 1) (X5 l 2) (X5 l 3)
theorem Q6o (l:X0):Je l=if (Lib.decodeL l).1=65533∧(Lib.decodeL l).2=1 then 0 else (Lib.decodeL l).2:=by
 rw[Lib.decodeL_N]
 exact X0i _ _ _ _ _ (Yg l 0) (Yg l 1) (Yg l 2) (Yg l 3)
theorem Q92 {l:X0} (a:l≠[]) (h:Je l≠0):1≤Je l∧Je l≤l.length:=by
 have b:=Lib.decodeL_le l a
 have c:=Lib.decodeL_width l
 rw[Q6o] at h⊢
 split at h
 ·exact absurd rfl h
 ·rw[if_neg (by assumption)];omega
theorem Q7V {f:Nat} {l:X0} (a:l≠[]):Lib.validGoD (f+1) l=if Je l=0 then false else Lib.validGoD f (l.drop (Je l)):=by
 have b:=Lib.decodeL_width l
 simp only[Lib.validGoD,if_neg a]
 rw[Q6o]
 split
 ·rw[if_pos rfl]
 ·rw[if_neg (by omega)]
end Go.Hm
namespace Go.Emb
open Go.RowKit
theorem Q6q {P:Program} {w:World} {K:Value→World→Prop} {k:IntKind} {t:TypeId} {d b:Operand} {a c:Int} (f:0<c∧0≤a) (h:K (.int k (a % c)) w):Q3 P .rem t d b (.int k a) (.int k c) w K:=by
 have e:Q3 P .rem t d b (.int k a) (.int k c) w K=K (.int k (a.tmod c)) w:=X9 (by simp[eqGuard,Go.binOp,Op.intDiv];intro e;omega)
 rw[e,Int.tmod_eq_emod_of_nonneg f.2];exact h
end Go.Emb
namespace Go.Proofs.YtjdiakhipmggjaaGreatDoor
open Go.Emb Go.RowKit Go.Kd Go.Hm
variable {w : World} {K : Value → World → Prop} {σ : Q6}
theorem My {a:X0} {i:Nat} (b:i<a.length) (h:K (.int .u8 (X5 a i)) w):C5 P T.c (S a) (I i) w K:=by
 rw[Xs X8 (by omega) (by simpa using b)]
 have:(a[(i:Int).toNat]'(by simpa using b)).toNat=X5 a i:=by
  unfold X5
  rw[List.getD_eq_getElem?_getD,List.getElem?_eq_getElem b];rfl
 rw[this];exact h
theorem Q3K {n:Int} (a:0≤n∧n<256) (h:K (I n) w):conv P T.a3 T.d (.int .u8 n) w K:=by
 rw[Iy Q3Q Q1u,G8 (by omega) (by omega)];exact h
theorem Lx {a:X0} {i:Nat} (h:K (.bool (C4 a.length i (X5 a i))) w):Q1 P F.r [S a,I i] w K:=Pf (by
 unfold Oe
 unfold C4 at h
 simp only[↓M1,M1,Mb,reduceIte]
 by_cases b:i<a.length
 ·have c:decide ((i:Int)<a.length)=true:=by rw[decide_eq_true_eq];omega
  have d:decide (i<a.length)=true:=by simpa using b
  rw[d] at h
  simp only[c,↓M1,M1,Mb,reduceIte]
  refine My b ?_
  (try simp only[↓M1,M1,Mb,reduceIte])
  have g:decide ((128:Int)≤(X5 a i:Int))=decide (128≤X5 a i):=by rw[Bool.eq_iff_iff,decide_eq_true_eq,decide_eq_true_eq];omega
  have f:decide ((X5 a i:Int)<192)=decide (X5 a i<192):=by rw[Bool.eq_iff_iff,decide_eq_true_eq,decide_eq_true_eq];omega
  rw[g]
  cases e:decide (128≤X5 a i) with
  | true=>
   rw[e] at h
   simp only[↓M1,M1,Mb,reduceIte]
   refine My b ?_
   simp only[f,↓M1,M1,Mb,reduceIte]
   simpa using h
  | false=>
   rw[e] at h
   simp only[↓M1,M1,Mb,reduceIte]
   simpa using h
 ·have c:decide ((i:Int)<a.length)=false:=by rw[decide_eq_false_iff_not];omega
  have d:decide (i<a.length)=false:=by simpa using b
  rw[d] at h
  simp only[c,↓M1,M1,Mb,reduceIte]
  simpa using h)
def Us (a:X0):Nat:=X5 a 0 % 16*4096+X5 a 1 % 64*64+X5 a 2 % 64
def Sx (a:X0):Nat:=X5 a 0 % 8*262144+X5 a 1 % 64*4096+X5 a 2 % 64*64+X5 a 3 % 64
theorem Q9v (a:X0):Je a=if X5 a 0<128 then 1
 else if (decide (194≤X5 a 0)&&decide (X5 a 0<224)&&C4 a.length 1 (X5 a 1))=true then 2
 else if (decide (224≤X5 a 0)&&decide (X5 a 0<240)&&C4 a.length 1 (X5 a 1)&&C4 a.length 2 (X5 a 2))=true then
  (if 2048≤Us a∧(Us a<55296∨57343<Us a) then 3 else 0)
 else if (decide (240≤X5 a 0)&&decide (X5 a 0<245)&&C4 a.length 1 (X5 a 1)&&C4 a.length 2 (X5 a 2)&&C4 a.length 3 (X5 a 3))=true then
  (if 65536≤Sx a∧Sx a≤1114111 then 4 else 0)
 else 0:=rfl
set_option maxHeartbeats 2000000 in
theorem X0U {a:X0} (hne:a≠[]) (hs:X3 w σ) (h: ∀w',Below w.heap.size w w'→K (I (Je a)) w'):Q1 P F.bH [S a] w K:=Ax (by
 unfold Ou
 have hl:0<a.length:=List.length_pos_iff.2 hne
 have b0:=Yg a 0
 have b1:=Yg a 1
 have b2:=Yg a 2
 have b3:=Yg a 3
 refine My (i:=0) hl ?_
 refine Q3K (by omega) ?_
 refine Jc (fun _ w'=>Below w.heap.size w w'∧Je a=0) ?_ (fun _ d w' hx=>by
  have:=h w' hx.1
  rw[hx.2] at this
  exact this)
 have hK: ∀n w',Below w.heap.size w w'→Je a=n→K (I n) w':=fun n w' hb e=>by rw[←e];exact h w' hb
 clear h
 have hcm:=Q9v a
 simp only[↓M1,M1,Mb,reduceIte]
 refine Q7 (fun h1=>?_) (fun h1=>?_)
 ·have:X5 a 0<128:=by have:=of_decide_eq_true h1;omega
  exact hK 1 _ (Below.refl _ _) (by rw[hcm,if_pos this])
 have c0: ¬X5 a 0<128:=by have:=of_decide_eq_false h1;omega
 rw[if_neg c0] at hcm
 by_cases c1:X5 a 0<194
 ·have i1:decide ((194:Int)≤X5 a 0)=false:=by rw[decide_eq_false_iff_not];omega
  have n1:decide (194≤X5 a 0)=false:=by rw[decide_eq_false_iff_not];omega
  have i2:decide ((X5 a 0:Int)<224)=true:=by rw[decide_eq_true_eq];omega
  have n2:decide (X5 a 0<224)=true:=by rw[decide_eq_true_eq];omega
  have i3:decide ((224:Int)≤X5 a 0)=false:=by rw[decide_eq_false_iff_not];omega
  have n3:decide (224≤X5 a 0)=false:=by rw[decide_eq_false_iff_not];omega
  have i4:decide ((X5 a 0:Int)<240)=true:=by rw[decide_eq_true_eq];omega
  have n4:decide (X5 a 0<240)=true:=by rw[decide_eq_true_eq];omega
  have i5:decide ((240:Int)≤X5 a 0)=false:=by rw[decide_eq_false_iff_not];omega
  have n5:decide (240≤X5 a 0)=false:=by rw[decide_eq_false_iff_not];omega
  have i6:decide ((X5 a 0:Int)<245)=true:=by rw[decide_eq_true_eq];omega
  have n6:decide (X5 a 0<245)=true:=by rw[decide_eq_true_eq];omega
  simp only[i1,i2,i3,i4,i5,i6,↓M1,M1,Mb,reduceIte]
  exact ⟨Below.refl _ _,by rw[hcm];simp only[n1,n2,n3,n4,n5,n6,Bool.and_true,Bool.true_and,Bool.false_and,Bool.and_false,Bool.false_eq_true,if_true,if_false,reduceIte]⟩
 by_cases c2:X5 a 0<224
 ·have i1:decide ((194:Int)≤X5 a 0)=true:=by rw[decide_eq_true_eq];omega
  have n1:decide (194≤X5 a 0)=true:=by rw[decide_eq_true_eq];omega
  have i2:decide ((X5 a 0:Int)<224)=true:=by rw[decide_eq_true_eq];omega
  have n2:decide (X5 a 0<224)=true:=by rw[decide_eq_true_eq];omega
  have i3:decide ((224:Int)≤X5 a 0)=false:=by rw[decide_eq_false_iff_not];omega
  have n3:decide (224≤X5 a 0)=false:=by rw[decide_eq_false_iff_not];omega
  have i4:decide ((X5 a 0:Int)<240)=true:=by rw[decide_eq_true_eq];omega
  have n4:decide (X5 a 0<240)=true:=by rw[decide_eq_true_eq];omega
  have i5:decide ((240:Int)≤X5 a 0)=false:=by rw[decide_eq_false_iff_not];omega
  have n5:decide (240≤X5 a 0)=false:=by rw[decide_eq_false_iff_not];omega
  have i6:decide ((X5 a 0:Int)<245)=true:=by rw[decide_eq_true_eq];omega
  have n6:decide (X5 a 0<245)=true:=by rw[decide_eq_true_eq];omega
  simp only[i1,i2,i3,i4,i5,i6,↓M1,M1,Mb,reduceIte]
  refine Lx (i:=1) ?_
  cases A1:C4 a.length 1 (X5 a 1) with
  | true=>simp only[↓M1,M1,Mb,reduceIte];exact hK 2 _ (Below.refl _ _) (by rw[hcm];simp only[A1,n1,n2,n3,n4,n5,n6,Bool.and_true,Bool.true_and,Bool.false_and,Bool.and_false,Bool.false_eq_true,if_true,if_false,reduceIte])
  | false=>simp only[↓M1,M1,Mb,reduceIte];exact ⟨Below.refl _ _,by rw[hcm];simp only[A1,n1,n2,n3,n4,n5,n6,Bool.and_true,Bool.true_and,Bool.false_and,Bool.and_false,Bool.false_eq_true,if_true,if_false,reduceIte]⟩
 by_cases c3:X5 a 0<240
 ·have i1:decide ((194:Int)≤X5 a 0)=true:=by rw[decide_eq_true_eq];omega
  have n1:decide (194≤X5 a 0)=true:=by rw[decide_eq_true_eq];omega
  have i2:decide ((X5 a 0:Int)<224)=false:=by rw[decide_eq_false_iff_not];omega
  have n2:decide (X5 a 0<224)=false:=by rw[decide_eq_false_iff_not];omega
  have i3:decide ((224:Int)≤X5 a 0)=true:=by rw[decide_eq_true_eq];omega
  have n3:decide (224≤X5 a 0)=true:=by rw[decide_eq_true_eq];omega
  have i4:decide ((X5 a 0:Int)<240)=true:=by rw[decide_eq_true_eq];omega
  have n4:decide (X5 a 0<240)=true:=by rw[decide_eq_true_eq];omega
  have i5:decide ((240:Int)≤X5 a 0)=false:=by rw[decide_eq_false_iff_not];omega
  have n5:decide (240≤X5 a 0)=false:=by rw[decide_eq_false_iff_not];omega
  have i6:decide ((X5 a 0:Int)<245)=true:=by rw[decide_eq_true_eq];omega
  have n6:decide (X5 a 0<245)=true:=by rw[decide_eq_true_eq];omega
  simp only[i1,i2,i3,i4,i5,i6,↓M1,M1,Mb,reduceIte]
  refine Lx (i:=1) ?_
  cases A1:C4 a.length 1 (X5 a 1) with
  | false=>simp only[↓M1,M1,Mb,reduceIte];exact ⟨Below.refl _ _,by rw[hcm];simp only[A1,n1,n2,n3,n4,n5,n6,Bool.and_true,Bool.true_and,Bool.false_and,Bool.and_false,Bool.false_eq_true,if_true,if_false,reduceIte]⟩
  | true=>
  simp only[↓M1,M1,Mb,reduceIte]
  refine Lx (i:=2) ?_
  cases A2:C4 a.length 2 (X5 a 2) with
  | false=>simp only[↓M1,M1,Mb,reduceIte];exact ⟨Below.refl _ _,by rw[hcm];simp only[A1,A2,n1,n2,n3,n4,n5,n6,Bool.and_true,Bool.true_and,Bool.false_and,Bool.and_false,Bool.false_eq_true,if_true,if_false,reduceIte]⟩
  | true=>
  simp only[↓M1,M1,Mb,reduceIte]
  simp only[A1,A2,n1,n2,n3,n4,n5,n6,Bool.and_true,Bool.true_and,Bool.false_and,Bool.and_false,Bool.false_eq_true,if_true,if_false,reduceIte] at hcm
  have hl1:1<a.length:=by unfold C4 at A1;simp only[Bool.and_eq_true,decide_eq_true_eq] at A1;exact A1.1.1
  have hl2:2<a.length:=by unfold C4 at A2;simp only[Bool.and_eq_true,decide_eq_true_eq] at A2;exact A2.1.1
  have hw:IntKind.i64.wrap (IntKind.i64.wrap (IntKind.i64.wrap ((X5 a 0:Int) % 16*4096)+IntKind.i64.wrap ((X5 a 1:Int) % 64*64))+(X5 a 2:Int) % 64)=((Us a:Nat):Int):=by
   rw[G8 (n:=(X5 a 0:Int) % 16*4096) (by omega) (by omega),G8 (n:=(X5 a 1:Int) % 64*64) (by omega) (by omega),G8 (n:=_+(X5 a 1:Int) % 64*64) (by omega) (by omega),G8 (by omega) (by omega)]
   unfold Us;omega
  refine J9 hs ?_
  have hx1: ∀{w':World} {K:Value→World→Prop},K (.int .u8 (X5 a 1)) w'→C5 P T.c (S a) (.int .i64 1) w' K:=fun hK=>My (i:=1) hl1 hK
  have hx2: ∀{w':World} {K:Value→World→Prop},K (.int .u8 (X5 a 2)) w'→C5 P T.c (S a) (.int .i64 2) w' K:=fun hK=>My (i:=2) hl2 hK
  (repeat (apply J3;(· intros;(repeat (rename_i hx;subst hx));(repeat' (first | (with_reducible exact M5 rfl) | (with_reducible exact R8 (Stp.bel (by (repeat (first | exact Stp.refl (by (first | assumption | exact Stp.sat (by assumption) | exact Hst.sat (by assumption))) | assumption | refine Stp.trans ?_ (by first | assumption | exact Hst.stp (by assumption)))))) rfl) | (with_reducible intro _) | (simp only[↓M2,M2,Mb,reduceIte]) | (with_reducible refine Q6q au ?_) | (with_reducible refine Q3K au ?_) | (with_reducible refine hx1 ?_) | (with_reducible refine hx2 ?_) | (with_reducible show Q2 _ _ _ _ _;first | refine X7 aS aL aR ?_ | refine Y2 aS aL aR ?_ | refine ld aS aL aR ?_) | (with_reducible show indexAddr _ _ _ _ _ _;refine Y1 aL au ?_) | (with_reducible show X2 _ _ _ _ _ _ _ _;refine Q8 aL ?_) | (with_reducible show F2 _ _ _ _ _ _;refine Z9 aR ?_) | (with_reducible show pick _ _ _ _ _ _;refine L8 ?_) | (apply F4;intro hh;(try simp only[hh,reduceIte,↓M2,M2,Mb,reduceIte]))));done)))
  (intros;(repeat (rename_i hx;subst hx));(try simp only[↓M2,M2,Mb,reduceIte]))
  rename_i w2 hb2
  simp only[hw]
  have hb:=hb2.stp.bel
  by_cases e1:2048≤Us a
  ·by_cases e2:Us a<55296
   ·simp only[(show decide ((2048:Int)≤(Us a:Int))=true by rw[decide_eq_true_eq];omega),(show decide ((Us a:Int)<55296)=true by rw[decide_eq_true_eq];omega),↓M1,M1,Mb,reduceIte]
    exact hK 3 _ hb (by rw[hcm,if_pos ⟨e1, .inl e2⟩])
   ·by_cases e3:57343<Us a
    ·simp only[(show decide ((2048:Int)≤(Us a:Int))=true by rw[decide_eq_true_eq];omega),(show decide ((Us a:Int)<55296)=false by rw[decide_eq_false_iff_not];omega),(show decide ((57343:Int)<(Us a:Int))=true by rw[decide_eq_true_eq];omega),↓M1,M1,Mb,reduceIte]
     exact hK 3 _ hb (by rw[hcm,if_pos ⟨e1, .inr e3⟩])
    ·simp only[(show decide ((2048:Int)≤(Us a:Int))=true by rw[decide_eq_true_eq];omega),(show decide ((Us a:Int)<55296)=false by rw[decide_eq_false_iff_not];omega),(show decide ((57343:Int)<(Us a:Int))=false by rw[decide_eq_false_iff_not];omega),↓M1,M1,Mb,reduceIte]
     exact ⟨hb,by rw[hcm,if_neg (by omega)]⟩
  ·simp only[(show decide ((2048:Int)≤(Us a:Int))=false by rw[decide_eq_false_iff_not];omega),↓M1,M1,Mb,reduceIte]
   exact ⟨hb,by rw[hcm,if_neg (by omega)]⟩
 by_cases c4:X5 a 0<245
 ·have i1:decide ((194:Int)≤X5 a 0)=true:=by rw[decide_eq_true_eq];omega
  have n1:decide (194≤X5 a 0)=true:=by rw[decide_eq_true_eq];omega
  have i2:decide ((X5 a 0:Int)<224)=false:=by rw[decide_eq_false_iff_not];omega
  have n2:decide (X5 a 0<224)=false:=by rw[decide_eq_false_iff_not];omega
  have i3:decide ((224:Int)≤X5 a 0)=true:=by rw[decide_eq_true_eq];omega
  have n3:decide (224≤X5 a 0)=true:=by rw[decide_eq_true_eq];omega
  have i4:decide ((X5 a 0:Int)<240)=false:=by rw[decide_eq_false_iff_not];omega
  have n4:decide (X5 a 0<240)=false:=by rw[decide_eq_false_iff_not];omega
  have i5:decide ((240:Int)≤X5 a 0)=true:=by rw[decide_eq_true_eq];omega
  have n5:decide (240≤X5 a 0)=true:=by rw[decide_eq_true_eq];omega
  have i6:decide ((X5 a 0:Int)<245)=true:=by rw[decide_eq_true_eq];omega
  have n6:decide (X5 a 0<245)=true:=by rw[decide_eq_true_eq];omega
  simp only[i1,i2,i3,i4,i5,i6,↓M1,M1,Mb,reduceIte]
  refine Lx (i:=1) ?_
  cases A1:C4 a.length 1 (X5 a 1) with
  | false=>simp only[↓M1,M1,Mb,reduceIte];exact ⟨Below.refl _ _,by rw[hcm];simp only[A1,n1,n2,n3,n4,n5,n6,Bool.and_true,Bool.true_and,Bool.false_and,Bool.and_false,Bool.false_eq_true,if_true,if_false,reduceIte]⟩
  | true=>
  simp only[↓M1,M1,Mb,reduceIte]
  refine Lx (i:=2) ?_
  cases A2:C4 a.length 2 (X5 a 2) with
  | false=>simp only[↓M1,M1,Mb,reduceIte];exact ⟨Below.refl _ _,by rw[hcm];simp only[A1,A2,n1,n2,n3,n4,n5,n6,Bool.and_true,Bool.true_and,Bool.false_and,Bool.and_false,Bool.false_eq_true,if_true,if_false,reduceIte]⟩
  | true=>
  simp only[↓M1,M1,Mb,reduceIte]
  refine Lx (i:=3) ?_
  cases A3:C4 a.length 3 (X5 a 3) with
  | false=>simp only[↓M1,M1,Mb,reduceIte];exact ⟨Below.refl _ _,by rw[hcm];simp only[A1,A2,A3,n1,n2,n3,n4,n5,n6,Bool.and_true,Bool.true_and,Bool.false_and,Bool.and_false,Bool.false_eq_true,if_true,if_false,reduceIte]⟩
  | true=>
  simp only[↓M1,M1,Mb,reduceIte]
  simp only[A1,A2,A3,n1,n2,n3,n4,n5,n6,Bool.and_true,Bool.true_and,Bool.false_and,Bool.and_false,Bool.false_eq_true,if_true,if_false,reduceIte] at hcm
  have hl1:1<a.length:=by unfold C4 at A1;simp only[Bool.and_eq_true,decide_eq_true_eq] at A1;exact A1.1.1
  have hl2:2<a.length:=by unfold C4 at A2;simp only[Bool.and_eq_true,decide_eq_true_eq] at A2;exact A2.1.1
  have hl3:3<a.length:=by unfold C4 at A3;simp only[Bool.and_eq_true,decide_eq_true_eq] at A3;exact A3.1.1
  have hw:IntKind.i64.wrap (IntKind.i64.wrap (IntKind.i64.wrap (IntKind.i64.wrap ((X5 a 0:Int) % 8*262144)+IntKind.i64.wrap ((X5 a 1:Int) % 64*4096))+IntKind.i64.wrap ((X5 a 2:Int) % 64*64))+(X5 a 3:Int) % 64)=((Sx a:Nat):Int):=by
   rw[G8 (n:=(X5 a 0:Int) % 8*262144) (by omega) (by omega),G8 (n:=(X5 a 1:Int) % 64*4096) (by omega) (by omega),G8 (n:=(X5 a 2:Int) % 64*64) (by omega) (by omega),G8 (n:=_+(X5 a 1:Int) % 64*4096) (by omega) (by omega),G8 (n:=_+(X5 a 2:Int) % 64*64) (by omega) (by omega),G8 (by omega) (by omega)]
   unfold Sx;omega
  refine J9 hs ?_
  have hx1: ∀{w':World} {K:Value→World→Prop},K (.int .u8 (X5 a 1)) w'→C5 P T.c (S a) (.int .i64 1) w' K:=fun hK=>My (i:=1) hl1 hK
  have hx2: ∀{w':World} {K:Value→World→Prop},K (.int .u8 (X5 a 2)) w'→C5 P T.c (S a) (.int .i64 2) w' K:=fun hK=>My (i:=2) hl2 hK
  have hx3: ∀{w':World} {K:Value→World→Prop},K (.int .u8 (X5 a 3)) w'→C5 P T.c (S a) (.int .i64 3) w' K:=fun hK=>My (i:=3) hl3 hK
  (repeat (apply J3;(· intros;(repeat (rename_i hx;subst hx));(repeat' (first | (with_reducible exact M5 rfl) | (with_reducible exact R8 (Stp.bel (by (repeat (first | exact Stp.refl (by (first | assumption | exact Stp.sat (by assumption) | exact Hst.sat (by assumption))) | assumption | refine Stp.trans ?_ (by first | assumption | exact Hst.stp (by assumption)))))) rfl) | (with_reducible intro _) | (simp only[↓M2,M2,Mb,reduceIte]) | (with_reducible refine Q6q au ?_) | (with_reducible refine Q3K au ?_) | (with_reducible refine hx1 ?_) | (with_reducible refine hx2 ?_) | (with_reducible refine hx3 ?_) | (with_reducible show Q2 _ _ _ _ _;first | refine X7 aS aL aR ?_ | refine Y2 aS aL aR ?_ | refine ld aS aL aR ?_) | (with_reducible show indexAddr _ _ _ _ _ _;refine Y1 aL au ?_) | (with_reducible show X2 _ _ _ _ _ _ _ _;refine Q8 aL ?_) | (with_reducible show F2 _ _ _ _ _ _;refine Z9 aR ?_) | (with_reducible show pick _ _ _ _ _ _;refine L8 ?_) | (apply F4;intro hh;(try simp only[hh,reduceIte,↓M2,M2,Mb,reduceIte]))));done)))
  (intros;(repeat (rename_i hx;subst hx));(try simp only[↓M2,M2,Mb,reduceIte]))
  rename_i w2 hb2
  simp only[hw]
  have hb:=hb2.stp.bel
  by_cases e1:65536≤Sx a
  ·by_cases e2:Sx a≤1114111
   ·simp only[(show decide ((65536:Int)≤(Sx a:Int))=true by rw[decide_eq_true_eq];omega),(show decide ((Sx a:Int)≤1114111)=true by rw[decide_eq_true_eq];omega),↓M1,M1,Mb,reduceIte]
    exact hK 4 _ hb (by rw[hcm,if_pos ⟨e1,e2⟩])
   ·simp only[(show decide ((65536:Int)≤(Sx a:Int))=true by rw[decide_eq_true_eq];omega),(show decide ((Sx a:Int)≤1114111)=false by rw[decide_eq_false_iff_not];omega),↓M1,M1,Mb,reduceIte]
    exact ⟨hb,by rw[hcm,if_neg (by omega)]⟩
  ·simp only[(show decide ((65536:Int)≤(Sx a:Int))=false by rw[decide_eq_false_iff_not];omega),↓M1,M1,Mb,reduceIte]
   exact ⟨hb,by rw[hcm,if_neg (by omega)]⟩
 have i1:decide ((194:Int)≤X5 a 0)=true:=by rw[decide_eq_true_eq];omega
 have n1:decide (194≤X5 a 0)=true:=by rw[decide_eq_true_eq];omega
 have i2:decide ((X5 a 0:Int)<224)=false:=by rw[decide_eq_false_iff_not];omega
 have n2:decide (X5 a 0<224)=false:=by rw[decide_eq_false_iff_not];omega
 have i3:decide ((224:Int)≤X5 a 0)=true:=by rw[decide_eq_true_eq];omega
 have n3:decide (224≤X5 a 0)=true:=by rw[decide_eq_true_eq];omega
 have i4:decide ((X5 a 0:Int)<240)=false:=by rw[decide_eq_false_iff_not];omega
 have n4:decide (X5 a 0<240)=false:=by rw[decide_eq_false_iff_not];omega
 have i5:decide ((240:Int)≤X5 a 0)=true:=by rw[decide_eq_true_eq];omega
 have n5:decide (240≤X5 a 0)=true:=by rw[decide_eq_true_eq];omega
 have i6:decide ((X5 a 0:Int)<245)=false:=by rw[decide_eq_false_iff_not];omega
 have n6:decide (X5 a 0<245)=false:=by rw[decide_eq_false_iff_not];omega
 simp only[i1,i2,i3,i4,i5,i6,↓M1,M1,Mb,reduceIte]
 exact ⟨Below.refl _ _,by rw[hcm];simp only[n1,n2,n3,n4,n5,n6,Bool.and_true,Bool.true_and,Bool.false_and,Bool.and_false,Bool.false_eq_true,if_true,if_false,reduceIte]⟩)
theorem Q4C {s:X0} (t:s.length≤U1) (q:X3 w σ) (h: ∀w',Below w.heap.size w w'→K (.bool (Lib.validD s)) w'):Q1 P F.aK [S s] w K:=Kw (by
 unfold Np
 refine Kv (fun f x w'=> ∃r,x=S r∧r.length≤f∧r.length≤U1∧Below w.heap.size w w'∧Lib.validD s=Lib.validGoD f r) s.length ⟨s,rfl,Nat.le_refl _,t,Below.refl _ _,rfl⟩ ?_
 rintro l f x d w1 ⟨r,rfl,p,u,b,c⟩ n
 refine Zz ?_
 by_cases a:r=[]
 ·have e:decide (r=[])=true:=by simpa using a
  simp only[e,↓M1,M1,Mb,reduceIte]
  subst a
  have:Lib.validGoD f []=true:=by cases f<;>simp[Lib.validGoD]
  rw[c,this] at h
  exact h _ b
 ·have e:decide (r=[])=false:=by simpa using a
  simp only[e,↓M1,M1,Mb,reduceIte]
  have o:0<r.length:=List.length_pos_iff.2 a
  obtain ⟨f,rfl⟩: ∃g,f=g+1:=⟨f-1,by omega⟩
  rw[Q7V a] at c
  refine X0U a (q.below b) fun y j=>?_
  have i:=b.trans (j.mono b.size)
  refine I2 ?_
  by_cases k:Je r=0
  ·have m:decide ((Je r:Int)=0)=true:=by rw[decide_eq_true_eq];omega
   simp only[m,↓M1,M1,Mb,reduceIte]
   rw[c,if_pos k] at h
   exact h _ i
  ·have m:decide ((Je r:Int)=0)=false:=by rw[decide_eq_false_iff_not];omega
   simp only[m,↓M1,M1,Mb,reduceIte]
   obtain ⟨z,v⟩:=Q92 a k
   rw[Uu X8 (by omega) (by omega)]
   rw[if_neg k] at c
   refine n f _ _ (by omega) ⟨r.drop (Je r),by simp,by rw[List.length_drop];omega,by rw[List.length_drop];omega,i,c⟩)
end Go.Proofs.YtjdiakhipmggjaaGreatDoor

namespace Go.Proofs.YtjdiakhipmggjaaGreatDoor
open Go.Emb Go.RowKit Go.Kd Go.Hm
variable {w : World} {K : Value → World → Prop} {σ : Q6}
theorem Q62 {σ:Q6}: ∀(xs:List X0),(∀x∈xs,x.length≤U1)→Q0g U8 σ (xs.map S) xs
 | [],_=>trivial
 | x::r,h=>⟨⟨rfl,h x (by simp)⟩,Q62 r fun y a=>h y (by simp[a])⟩
def Uy:List X0:=Jz.map (·.name)
set_option maxRecDepth 100000 in
theorem X2m (c:X3 w σ) (h: ∀v w' a,Stp w σ w' a→Sl 1 U8 a v Uy→K v w'):Q1 P F.bW [] w K:=Q0t (by
 unfold Ec
 exact T4 (R:=U8) (sz:=1) c (Uy.map S) Uy rfl rfl (by intro v b;obtain ⟨x,_,rfl⟩:=List.mem_map.1 b;rfl) rfl (Q62 _ (by decide)) fun v w' a d b=>h v w' a d b)
theorem Q8i {a:X0} (u:X3 w σ) (h: ∀w' C,Stp w σ w' C→K (I (L6 (Qu a))) w'):Q1 P F.bg [S a] w K:=Gk (by
 unfold Ll
 refine X2m u fun v w1 σ1 l n=>?_
 have s:Qu a=Uy.findIdx? fun x=>decide (x=a):=by
  unfold Qu Uy
  rw[List.findIdx?_map];rfl
 have q: ∀o,Qu a=o→K (I (L6 o)) w1:=fun o e=>by rw[←e];exact h _ _ l
 rw[s] at q
 have p:Uy.length=42:=rfl
 generalize Uy=f at n q p
 refine U2 f.length (fun k w'=>w'=w1∧ ∀j (i:j<f.length),j<k→ ¬f[j]=a) ⟨rfl,fun j _ h=>by omega⟩ fun k D d E A=>?_
 obtain ⟨t,c⟩:=A
 subst t
 refine Q8 n ?_
 refine Z1 ?_
 refine Q7 (fun r=>?_) (fun r=>?_)
 ·have b:k<f.length:=by simpa using r
  refine Y1 n b ?_
  obtain ⟨B,_⟩:=n.elS b
  refine X7 l.sat B rfl ?_
  refine P7 ?_
  refine Q7 (fun g=>?_) (fun g=>?_)
  ·have g:f[k]=a:=by simpa using g
   exact q (some k) (by
    rw[List.findIdx?_eq_some_iff_getElem]
    exact ⟨b,by simpa using g,fun j i=>by simpa using c j (by omega) i⟩)
  ·have g: ¬f[k]=a:=by simpa using g
   (try simp only[↓M1,M1,Mb,reduceIte])
   refine Y5 n.max b ⟨rfl,fun j i y=>?_⟩
   by_cases e:j=k
   ·subst e;exact g
   ·exact c j i (by omega)
 ·have b: ¬k<f.length:=by simpa using r
  exact q none (by
   rw[List.findIdx?_eq_none_iff]
   intro m z
   obtain ⟨j,i,rfl⟩:=List.getElem_of_mem z
   simpa using c j i (by omega)))
theorem X25 {o:Option Nat}:decide (L6 o<0)= !o.isSome:=by
 cases o with
 | none=>rfl
 | some i=>
  have: ¬(i:Int)<0:=by omega
  exact decide_eq_false this
def Nw (a:X0):Bool:=decide (a=[105,110,116])||decide (a=[108,111,97,100])||decide (a=[115,116,111,114,101])||decide (a=[106,117,109,112])||decide (a=[98,114,97,110,99,104])
def Wm (a:X0):Bool:=decide (a=[119,111,114,100])||decide (a=[110,101,119])||decide (a=[103,101,116])||decide (a=[112,117,116])||decide (a=[99,97,108,108])||decide (a=[97,114,114,97,121])||decide (a=[105,115])||decide (a=[99,97,115,116])
theorem X11 (a:X0):takes a=(Nw a,Wm a,(Qu a).isSome):=by
 unfold takes
 cases h:Qu a with
 | none=>
  have c:=List.findIdx?_eq_none_iff.1 h
  have d: ∀x∈Uy,¬x=a:=by
   intro x f
   obtain ⟨o,p,rfl⟩:=List.mem_map.1 f
   have:=c o p
   simpa using this
  have b: ∀x∈Uy,decide (a=x)=false:=fun x f=>by rw[decide_eq_false_iff_not];exact fun e=>d x f e.symm
  have m:Nw a=false:=by
   unfold Nw
   rw[b _ (by decide),b _ (by decide),b _ (by decide),b _ (by decide),b _ (by decide)];rfl
  have q:Wm a=false:=by
   unfold Wm
   rw[b _ (by decide),b _ (by decide),b _ (by decide),b _ (by decide),b _ (by decide),b _ (by decide),b _ (by decide),b _ (by decide)];rfl
  simp[m,q]
 | some i=>
  obtain ⟨g,n,_⟩:=List.findIdx?_eq_some_iff_getElem.1 h
  have r:Jz[i].name=a:=by simpa using n
  have k:Jz.getD i ⟨[],false,false⟩=Jz[i]:=by rw[List.getD_eq_getElem?_getD,List.getElem?_eq_getElem g];rfl
  have c: ∀o∈Jz,o.number=Nw o.name∧o.text=Wm o.name:=by decide
  obtain ⟨j,l⟩:=c _ (List.getElem_mem g)
  simp only[k,Option.isSome_some]
  rw[j,l,r]
def Hi (a:X0):Int:=if Nw a then 1 else if Wm a then 2 else if (Qu a).isSome then 0 else-1
theorem Q9a {a:X0} (c:X3 w σ) (h: ∀w' l,Stp w σ w' l→K (I (Hi a)) w'):Q1 P F.bv [S a] w K:=Kz (by
 unfold Nu
 refine Jc (fun x w'=>w'=w∧x= .bool (Nw a)) ?_ (fun x d w' f=>?_)
 ·unfold Nw
  simp only[↓M1,M1,Mb,reduceIte]
  repeat' (refine Q7 (fun hh=>?_) (fun hh=>?_))
  all_goals (refine ⟨by trivial,?_⟩;congr 1;simp_all)
 ·obtain ⟨rfl,rfl⟩:=f
  cases e:Nw a with
  | true=>
   (try simp only[↓M1,M1,Mb,reduceIte])
   have:=h _ _ (Stp.refl c)
   unfold Hi at this
   simpa [e] using this
  | false=>
   (try simp only[↓M1,M1,Mb,reduceIte])
   refine Jc (fun x b=>b=w'∧x= .bool (Wm a)) ?_ (fun x d b f=>?_)
   ·unfold Wm
    simp only[↓M1,M1,Mb,reduceIte]
    repeat' (refine Q7 (fun hh=>?_) (fun hh=>?_))
    all_goals (refine ⟨by trivial,?_⟩;congr 1;simp_all)
   ·obtain ⟨rfl,rfl⟩:=f
    cases k:Wm a with
    | true=>
     (try simp only[↓M1,M1,Mb,reduceIte])
     have:=h _ _ (Stp.refl c)
     unfold Hi at this
     simpa [e,k] using this
    | false=>
     (try simp only[↓M1,M1,Mb,reduceIte])
     refine Q8i c fun w1 σ1 g=>?_
     have:=h _ _ g
     unfold Hi at this
     simp only[e,k,Bool.false_eq_true,if_false] at this
     simp only[X25,↓M1,M1,Mb,reduceIte]
     cases j:Qu a with
     | none=>rw[j] at this;simp only[Option.isSome_none,↓M1,M1,Mb,reduceIte];simpa using this
     | some i=>rw[j] at this;simp only[Option.isSome_some,↓M1,M1,Mb,reduceIte];simpa using this)
theorem Q5g (a:X0):decide (Hi a<0)= !(takes a).2.2∧decide (Hi a=1)=(takes a).1∧decide (Hi a=2)=(takes a).2.1:=by
 rw[X11]
 have b:Nw a=true→Wm a=false∧(Qu a).isSome=true:=by
  intro h
  unfold Nw at h
  simp only[Bool.or_eq_true,decide_eq_true_eq] at h
  rcases h with (((h | h) | h) | h) | h<;>(subst h;decide)
 have e:Wm a=true→(Qu a).isSome=true:=by
  intro h
  unfold Wm at h
  simp only[Bool.or_eq_true,decide_eq_true_eq] at h
  rcases h with ((((((h | h) | h) | h) | h) | h) | h) | h<;>(subst h;decide)
 unfold Hi
 cases f:Nw a with
 | true=>obtain ⟨d,c⟩:=b f;rw[d,c];decide
 | false=>
  cases g:Wm a with
  | true=>rw[e g];decide
  | false=>cases (Qu a).isSome<;>decide
theorem X4o (s:X0) (c:UInt8):decide (0≤Lib.indexByte s c)=s.any fun b=>decide (b=c):=by
 induction s with
 | nil=>rfl
 | cons b r f=>
  simp only[Lib.indexByte,List.any_cons,←f]
  by_cases e:b=c
  ·simp[e]
  ·have a:(b==c)=false:=by simpa using e
   have g:=Lib.indexByte_ge r c
   simp only[a,e,decide_false,Bool.false_or,Bool.false_eq_true,if_false]
   by_cases d:Lib.indexByte r c= -1
   ·simp[d]
   ·have:(Lib.indexByte r c== -1)=false:=by simpa using d
    simp only[this,Bool.false_eq_true,if_false]
    rw[Bool.eq_iff_iff,decide_eq_true_eq,decide_eq_true_eq];omega
def JB (w:World) (σ:Q6) (b:Bool) (x:Value) (w':World):Prop:= ∃a,Stp w σ w' a∧x= .bool b
theorem JB.mk {w w':World} {σ a:Q6} {b:Bool} (h:Stp w σ w' a):JB w σ b (.bool b) w':=⟨a,h,rfl⟩
theorem JB.of {w w':World} {σ a:Q6} {b c:Bool} (h:Stp w σ w' a) (e:c=b):JB w σ b (.bool c) w':=⟨a,h,by rw[e]⟩
theorem X2W {s:X0} {n:Nat} (h:n<s.length):decide ((X5 s n:Int)=10)=decide (s[n]=10):=by
 unfold X5
 rw[List.getD_eq_getElem?_getD,List.getElem?_eq_getElem h,Bool.eq_iff_iff,decide_eq_true_eq,decide_eq_true_eq]
 simp only[Option.getD_some]
 rw[←UInt8.toNat_inj]
 constructor
 ·intro e;have:s[n].toNat=10:=by omega
  rw[this];rfl
 ·intro e;rw[e];rfl
theorem Uw {α:Type} {xs:List α} {p:α→Bool} {n:Nat} (h:n<xs.length):(xs.take (n+1)).all p=((xs.take n).all p&&p xs[n]):=by
 rw[List.take_add_one,List.getElem?_eq_getElem h,List.all_append];simp
set_option maxHeartbeats 2000000 in
theorem Q7T {i:Ins} {cs:List Value} (hs:X3 w σ) (hi:Qr σ i cs) (h: ∀w' m,Stp w σ w' m→K (I (H6 i)) w'):Q1 P F.bu [.agg cs.toArray] w K:=Po (by
 obtain ⟨rfl,h1,h2,h3⟩:=hi
 unfold Ms
 refine Z0 hs fun q w1 σ1 O hq=>?_
 have X:=O.sat
 (try simp only[↓M1,M1,Mb,reduceIte])
 refine ld X hq rfl ?_
 refine Q9a X fun Y σ2 U=>?_
 obtain ⟨t1,Q,E⟩:=Q5g i.op
 have f:=O.trans U
 have g:=hq.up U
 have e:=f.sat
 have r:i.s.length≤140737488355328:=by simp only[U1] at h3;omega
 simp only[t1,↓M1,M1,Mb,reduceIte]
 unfold H6 at h
 cases e1:(takes i.op).2.2 with
 | false=>
  simp only[e1,Bool.not_false,if_true] at h
  (try simp only[↓M1,M1,Mb,reduceIte])
  exact h _ _ f
 | true=>
 simp only[e1,Bool.not_true,Bool.false_eq_true,if_false] at h
 simp only[Q,E,↓M1,M1,Mb,reduceIte]
 have k: ∀(b:Bool) (w':World) (m:Q6),Stp w σ w' m→b=(!((!(takes i.op).1&&decide (i.n≠0))||(!(takes i.op).2.1&&decide (i.s≠[]))||((takes i.op).2.1&& !txt i.op i.s)))→
  X1 (.bool (!b)) (K (.int .i64 41) w') (K (.int .i64 0) w'):=by
  intro b w' m u B
  subst B
  rw[Bool.not_not]
  cases B:((!(takes i.op).1&&decide (i.n≠0))||(!(takes i.op).2.1&&decide (i.s≠[]))||((takes i.op).2.1&& !txt i.op i.s)) with
  | true=>simp only[B,if_true] at h;(try simp only[↓M1,M1,Mb,reduceIte]);exact h _ _ u
  | false=>simp only[B,Bool.false_eq_true,if_false] at h;(try simp only[↓M1,M1,Mb,reduceIte]);exact h _ _ u
 clear h
 have ag:(takes i.op).2.1=true→(takes i.op).1=false:=by
  intro R
  rw[←Q,decide_eq_false_iff_not]
  rw[←E,decide_eq_true_eq] at R
  omega
 cases C:(takes i.op).2.1 with
 | false=>
  rw[C] at k E
  cases y:(takes i.op).1 with
  | true=>
   rw[y] at k Q
   (try simp only[↓M1,M1,Mb,reduceIte])
   simp only[E,↓M1,M1,Mb,reduceIte]
   refine ld e g rfl ?_
   (try simp only[↓M1,M1,Mb,reduceIte])
   refine U6 ?_
   intro d
   simp only[↓M1,M1,Mb,reduceIte]
   exact k _ _ _ f (by simp)
  | false=>
   rw[y] at k Q
   (try simp only[↓M1,M1,Mb,reduceIte])
   refine ld e g rfl ?_
   (try simp only[↓M1,M1,Mb,reduceIte])
   by_cases N:i.n=0
   ·have d0:decide (i.n=0)=true:=by simpa using N
    simp only[d0,E,↓M1,M1,Mb,reduceIte]
    refine ld e g rfl ?_
    (try simp only[↓M1,M1,Mb,reduceIte])
    refine U6 ?_
    intro d
    simp only[↓M1,M1,Mb,reduceIte]
    exact k _ _ _ f (by simp[N])
   ·have d0:decide (i.n=0)=false:=by simpa using N
    simp only[d0,↓M1,M1,Mb,reduceIte]
    refine U6 ?_
    intro d
    have H:=k false _ _ f (by simp[N])
    (try simp only[↓M1,M1,Mb,reduceIte] at H⊢)
    exact H
 | true=>
  have y:=ag C
  rw[C,y] at k
  rw[C] at E
  rw[y] at Q⊢
  (try simp only[↓M1,M1,Mb,reduceIte])
  refine ld e g rfl ?_
  (try simp only[↓M1,M1,Mb,reduceIte])
  have o: ∀(b c:Bool) (w':World) (m:Q6),decide (i.n=0)=b→Stp w σ w' m→c=(b&&txt i.op i.s)→X1 (.bool (!c)) (K (.int .i64 41) w') (K (.int .i64 0) w'):=by
   intro b c w' m B u p
   refine k c w' m u ?_
   rw[p,←B]
   by_cases N:i.n=0<;>simp[N]
  clear k
  cases B:decide (i.n=0) with
  | false=>
   have v:=fun w' m u=>o false false w' m B u rfl
   clear o
   simp only[E,↓M1,M1,Mb,reduceIte]
   refine Jc (JB w σ false) ?_ (fun x d w' R=>?_)
   ·refine ld e g rfl ?_
    (try simp only[↓M1,M1,Mb,reduceIte])
    refine Q7 (fun hh=>?_) (fun hh=>?_)
    ·refine E7 (a:=Value.bool false) i.s.length (fun n x w'=>w'=Y∧x=Value.bool false) ⟨rfl,rfl⟩ fun n x w3 d hn l=>?_
     obtain ⟨A,rfl⟩:=l
     subst A
     (try simp only[↓M1,M1,Mb,reduceIte])
     refine ld e g rfl ?_
     (try simp only[↓M1,M1,Mb,reduceIte])
     refine Q7 (fun p=>?_) (fun p=>?_)
     ·have j:n<i.s.length:=by simpa using p
      (try simp only[↓M1,M1,Mb,reduceIte])
      exact J4 (by omega) j ⟨rfl,rfl⟩
     ·exact .mk f
    refine Q7 (fun hh=>?_) (fun hh=>?_)
    ·exact .mk f
    refine Jc (fun x w'=>w'=Y∧ ∃b:Bool,x=Value.bool b) ?_ (fun z d w' hz=>?_)
    ·refine Q7 (fun hh=>?_) (fun hh=>?_)
     ·exact ⟨rfl,_,rfl⟩
     ·exact ⟨rfl,_,rfl⟩
    obtain ⟨A,b,rfl⟩:=hz
    subst A
    refine Q7 (fun hh=>?_) (fun hh=>?_)
    ·exact .mk f
    refine Q7 (fun hh=>?_) (fun hh=>?_)
    ·exact .mk f
    refine ld e g rfl ?_
    refine Q4x i.s r fun w4 t=>?_
    by_cases M:(Xc i.s).2.2=true
    ·simp only[M,if_true,↓M1,M1,Mb,reduceIte]
     exact .mk (f.trans (Stp.of_below e t))
    ·simp only[M,if_false,↓M1,M1,Mb,reduceIte]
     exact .mk (f.trans (Stp.of_below e t))
   ·obtain ⟨m,u,rfl⟩:=R
    have H:=v w' m u
    (try simp only[↓M1,M1,Mb,reduceIte] at H⊢)
    exact H
  | true=>
   have v:=fun c w' m u p=>o true c w' m B u p
   clear o
   simp only[E,↓M1,M1,Mb,reduceIte]
   refine Jc (JB w σ (txt i.op i.s)) ?_ (fun x d w' R=>?_)
   ·refine ld e g rfl ?_
    (try simp only[↓M1,M1,Mb,reduceIte])
    unfold txt
    by_cases o1:i.op=[119,111,114,100]
    ·simp only[if_pos o1,decide_eq_true o1,↓M1,M1,Mb,reduceIte]
     refine ld e g rfl ?_
     (try simp only[↓M1,M1,Mb,reduceIte])
     have ad:decide ((i.s.length:Int)≤64)=decide (i.s.length≤64):=by rw[Bool.eq_iff_iff,decide_eq_true_eq,decide_eq_true_eq];omega
     rw[ad,X4o,List.not_any_eq_all_not]
     cases aq:decide (i.s.length≤64) with
     | false=>
      (try simp only[↓M1,M1,Mb,reduceIte])
      refine E7 (a:=Value.bool false) i.s.length (fun n x w'=>w'=Y∧x=Value.bool false) ⟨rfl,rfl⟩ fun n x w3 d hn l=>?_
      obtain ⟨A,rfl⟩:=l
      subst A
      (try simp only[↓M1,M1,Mb,reduceIte])
      refine ld e g rfl ?_
      (try simp only[↓M1,M1,Mb,reduceIte])
      refine Q7 (fun p=>?_) (fun p=>?_)
      ·have j:n<i.s.length:=by simpa using p
       (try simp only[↓M1,M1,Mb,reduceIte])
       exact J4 (by omega) j ⟨rfl,rfl⟩
      ·exact .of f (by simp)
     | true=>
      (try simp only[↓M1,M1,Mb,reduceIte])
      refine ld e g rfl ?_
      refine Q4C h3 e fun w4 t=>?_
      have L:=Stp.of_below e t
      have V:=g.up L
      have W:=L.sat
      have D:=f.trans L
      (try simp only[↓M1,M1,Mb,reduceIte])
      refine E7 (a:=Value.bool (Lib.validD i.s)) i.s.length (fun n x w'=>w'=w4∧x=Value.bool (Lib.validD i.s&&(i.s.take n).all fun c=> !decide (c=10))) ⟨rfl,by simp⟩ fun n x w3 d hn l=>?_
      obtain ⟨A,rfl⟩:=l
      subst A
      (try simp only[↓M1,M1,Mb,reduceIte])
      refine ld W V rfl ?_
      (try simp only[↓M1,M1,Mb,reduceIte])
      refine Q7 (fun p=>?_) (fun p=>?_)
      ·have j:n<i.s.length:=by simpa using p
       have J:(Lib.validD i.s&&(i.s.take (n+1)).all fun c=> !decide (c=10))=((Lib.validD i.s&&(i.s.take n).all fun c=> !decide (c=10))&& !decide (i.s[n]=10)):=by rw[Uw j,Bool.and_assoc]
       generalize aj:(Lib.validD i.s&&(i.s.take n).all fun c=> !decide (c=10))=ab at J⊢
       cases ab with
       | false=>(try simp only[↓M1,M1,Mb,reduceIte]);exact J4 (by omega) j ⟨rfl,by rw[J];rfl⟩
       | true=>
        (try simp only[↓M1,M1,Mb,reduceIte])
        refine ld W V rfl ?_
        refine My j ?_
        simp only[X2W j,↓M1,M1,Mb,reduceIte]
        exact J4 (by omega) j ⟨rfl,by rw[J];rfl⟩
      ·have j: ¬n<i.s.length:=by simpa using p
       rw[List.take_of_length_le (by omega)]
       exact .of D (by simp)
    ·simp only[if_neg o1,decide_eq_false o1,↓M1,M1,Mb,reduceIte]
     by_cases o2:i.op=[110,101,119]
     ·simp only[if_pos o2,decide_eq_true o2,↓M1,M1,Mb,reduceIte]
      refine ld e g rfl ?_
      refine Yf i.s r ?_
      (try simp only[↓M1,M1,Mb,reduceIte])
      exact .mk f
     ·simp only[if_neg o2,decide_eq_false o2,↓M1,M1,Mb,reduceIte]
      refine Jc (fun x w'=>w'=Y∧x=Value.bool (decide (i.op=[105,115]∨i.op=[99,97,115,116]))) ?_ (fun z d w' hz=>?_)
      ·refine Q7 (fun hh=>?_) (fun hh=>?_)
       ·exact ⟨rfl,by simp_all⟩
       ·exact ⟨rfl,by simp_all⟩
      obtain ⟨A,rfl⟩:=hz
      subst A
      by_cases o3:i.op=[105,115]∨i.op=[99,97,115,116]
      ·simp only[if_pos o3,decide_eq_true o3,↓M1,M1,Mb,reduceIte]
       refine ld e g rfl ?_
       refine Jw i.s r ?_
       cases hr:right i.s with
       | false=>(try simp only[↓M1,M1,Mb,reduceIte]);exact .mk f
       | true=>
        (try simp only[↓M1,M1,Mb,reduceIte])
        refine ld e g rfl ?_
        refine Eh i.s ?_
        (try simp only[↓M1,M1,Mb,reduceIte])
        exact .mk f
      ·simp only[if_neg o3,decide_eq_false o3,↓M1,M1,Mb,reduceIte]
       by_cases Z:i.op=[97,114,114,97,121]
       ·simp only[if_pos Z,decide_eq_true Z,↓M1,M1,Mb,reduceIte]
        refine ld e g rfl ?_
        refine Jw i.s r ?_
        cases hr:right i.s with
        | false=>(try simp only[↓M1,M1,Mb,reduceIte]);exact .mk f
        | true=>
         (try simp only[↓M1,M1,Mb,reduceIte])
         refine ld e g rfl ?_
         refine Ce i.s r ?_
         (try simp only[↓M1,M1,Mb,reduceIte])
         have e3:decide (((base i.s).2:Int)<3)=decide (Yb i.s<3):=by
          unfold Yb;rw[if_pos hr,Bool.eq_iff_iff,decide_eq_true_eq,decide_eq_true_eq];omega
         rw[e3]
         exact .mk f
       ·simp only[if_neg Z,decide_eq_false Z,↓M1,M1,Mb,reduceIte]
        refine ld e g rfl ?_
        refine Q4x i.s r fun w4 t=>?_
        have D:=f.trans (Stp.of_below e t)
        by_cases M:(Xc i.s).2.2=true
        ·simp only[M,if_true,↓M1,M1,Mb,reduceIte]
         exact .mk D
        ·have:Zn i.s=false:=by unfold Zn;rw[eq_false_of_ne_true M];rfl
         simp only[M,if_false,↓M1,M1,Mb,reduceIte]
         exact .of D this.symm
   ·obtain ⟨m,u,rfl⟩:=R
    have H:=v _ w' m u rfl
    simp only[Bool.true_and] at H
    (try simp only[↓M1,M1,Mb,reduceIte])
    exact H)
end Go.Proofs.YtjdiakhipmggjaaGreatDoor

namespace Go.Emb
theorem X1H {w:World} {K:Value→World→Prop} {v:Value} (h:K v w):Q0 (.bool true) true w (fun w J=>J v w) K:=by rw[W5];exact h
theorem X2A {w:World} {K:Value→World→Prop} {v:Value} (h:K v w):Q0 (.bool false) false w (fun w J=>J v w) K:=by rw[W7];exact h
theorem X3m {w:World} {K:Value→World→Prop} {b:Bool} {run:World→(Value→World→Prop)→Prop} (h:K undef w):Q0 undef b w run K:=by rw[D0];exact h
class Hd (p : Prop) (q : outParam Prop) : Prop where
  h : q → p
section
variable {P : Program} {w : World} {K : Value → World → Prop} {run : World → (Value → World → Prop) → Prop} {v u : Value} {b : Bool}
instance:Hd (J8 P .not (.bool b) w K) (K (.bool (!b)) w):=⟨Wn⟩
instance:Hd (Q0 undef b w run K) (K undef w):=⟨X3m⟩
instance {t:TypeId} {k off:Nat} {ft:TypeId} {sz by_:Nat} {z:Value} {a:Addr} [tf:TF P t k off ft] [tz:TZ P ft sz by_ z] [nz:NZ sz]:Hd (fieldAddr P t (.pointer (some a)) k w K) (K (.pointer (some (a.add off))) w):=⟨V7⟩
instance:Hd (pick P (.bool false) v u w K) (K u w):=⟨X2e⟩
instance:Hd (pick P (.bool true) v u w K) (K v w):=⟨X1S⟩
instance:Hd (Q0 (.bool false) false w run K) (run w K):=⟨X3l⟩
instance:Hd (Q0 (.bool true) true w run K) (run w K):=⟨X3q⟩
instance:Hd (Q0 (.bool false) true w run K) (K undef w):=⟨X1V⟩
instance:Hd (Q0 (.bool true) false w run K) (K undef w):=⟨X2B⟩
instance:Hd (Q0 (.bool false) false w (fun w J=>J v w) K) (K v w):=⟨X2A⟩
instance:Hd (Q0 (.bool true) true w (fun w J=>J v w) K) (K v w):=⟨X1H⟩
end
end Go.Emb
namespace Go.Proofs.YtjdiakhipmggjaaGreatDoor
open Go.Emb Go.RowKit Go.Kd Go.Hm
variable {w : World} {K : Value → World → Prop} {σ : Q6}
theorem X20 {xs:List Ins} {v:Value} (p:X3 w σ) (o:Sl 3 Qr σ v xs) (h: ∀e w' m,Stp w σ w' m→decide (e=0)=xs.all (fun i=>decide (H6 i=0))→K (I e) w'):Q1 P F.b3 [v] w K:=Q18 (by
 unfold El
 refine U2 xs.length (fun n w'=> ∃m,Stp w σ w' m∧(xs.take n).all (fun i=>decide (H6 i=0))=true) ⟨σ,Stp.refl p,rfl⟩ fun n w1 d y k=>?_
 obtain ⟨σ1,a,f⟩:=k
 have g:=o.up a
 refine Q8 g ?_
 refine Z1 ?_
 refine Q7 (fun l=>?_) (fun l=>?_)
 ·have c:n<xs.length:=by simpa using l
  refine Y1 g c ?_
  obtain ⟨s,r⟩:=g.elI c
  refine Y2 a.sat s rfl ?_
  refine Q7T a.sat r fun z t j=>?_
  refine Zb ?_
  by_cases e:H6 xs[n]=0
  ·have:decide (H6 xs[n]=0)=true:=by simpa using e
   simp only[this,↓M1,M1,Mb,reduceIte]
   exact Y5 o.max c ⟨t,a.trans j,by rw[Uw c,f];simpa using e⟩
  ·have:decide (H6 xs[n]=0)=false:=by simpa using e
   simp only[this,↓M1,M1,Mb,reduceIte]
   refine h _ _ _ (a.trans j) ?_
   rw[this]
   symm
   rw[←Bool.not_eq_true,List.all_eq_true]
   intro q
   have:=q _ (List.getElem_mem c)
   simp at this
   exact e this
 ·have c: ¬n<xs.length:=by simpa using l
  rw[List.take_of_length_le (by omega)] at f
  exact h 0 _ _ a (by rw[f];rfl))
theorem X0Q {c:Cla} {cs:List Value} (hs:X3 w σ) (hc:V0 σ c cs) (h: ∀w' σ',Stp w σ w' σ'→K (.bool (Zy c)) w'):Q1 P F.bK [.agg cs.toArray] w K:=Q0c (by
 unfold Ow
 obtain ⟨lv,fv,mv,rfl,f1,f2,f3,f4,f5⟩:=hc
 refine Z0 hs fun q w1 σ1 hk1 hq=>?_
 have f1:=f1.up hk1
 have f2:=f2.up hk1
 have f3:=f3.up hk1
 refine U2 c.methods.length (fun n w'=> ∃σ',Stp w1 σ1 w' σ'∧(c.methods.take n).any Wo=false) ⟨σ1,Stp.refl hk1.sat,rfl⟩ fun n w2 d hn hinv=>?_
 obtain ⟨σ2,hk2,hno⟩:=hinv
 have hq2:=hq.up hk2
 have f32:=f3.up hk2
 have f12:=f1.up hk2
 have f22:=f2.up hk2
 have hs2:=hk2.sat
 (try simp only[↓M1,M1,Mb,reduceIte])
 refine ld hs2 hq2 rfl ?_
 refine Q8 f32 ?_
 refine Z1 ?_
 refine Q7 (fun hc=>?_) (fun hc=>?_)
 ·have hn':n<c.methods.length:=by simpa using hc
  (try simp only[↓M1,M1,Mb,reduceIte])
  refine ld hs2 hq2 rfl ?_
  refine Y1 f32 hn' ?_
  obtain ⟨pv,cv,hv,p1,r1⟩:=f32.elM hn'
  refine Y2 hs2 p1 rfl ?_
  refine Y7 hs2 (by rfl) rfl (Rep.one r1) fun q3 w3 σ3 hk3 hq3=>?_
  obtain ⟨g1,g2,g3,_,_,_⟩:=(RMe_lift r1 ⟨hk3.le⟩).parts
  have hS3:=hk1.trans (hk2.trans hk3)
  have hyes:Wo c.methods[n]=true→K (.bool true) w3:=fun e=>by
   have:=h _ _ hS3
   have hm:Zy c=true:=by unfold Zy;rw[S9 hn' e];rfl
   rwa [hm] at this
  have hk23:=hk2.trans hk3
  clear h hk2 hk3 hS3
  have hmax:=f3.max
  (repeat' (first | (with_reducible intro _) | (with_reducible refine U6 ?_) | (simp only[↓M2,M2,Mb,reduceIte]) | (with_reducible first | refine ld aS aL aR ?_ | refine X7 aS aL aR ?_ | refine Y2 aS aL aR ?_ | refine Q8 aL ?_ | refine Z9 aR ?_ | refine Z0 aS ?_ | refine O4 aS aL ?_ | refine U5 aS aR ?_ | refine Y7 aS aR aR (Rep.one (by assumption)) ?_ | refine U7 aS aR aR aR ?_ | (refine Z8 (fun hh=>?_) (fun hh=>?_)<;>(try simp only[hh,Bool.not_true,Bool.not_false,↓M2,M2,Mb,reduceIte])) | (refine Q7 (fun hh=>?_) (fun hh=>?_)<;>(try simp only[hh,Bool.not_true,Bool.not_false,↓M2,M2,Mb,reduceIte])))))
  all_goals clear hq hq2 f1 f2 f3 f32 f12 f22 hs hs2 p1 r1 g1 g2 g3 hk1 f4 f5 hq3
  all_goals first
   | (refine hyes ?_;clear hyes hk23;unfold Wo;simp only[Bool.not_false,Bool.not_true,Bool.or_eq_true,decide_eq_true_eq,decide_eq_false_iff_not] at*;omega)
   | (
    have hnx:(c.methods.take (n+1)).any Wo=false:=by
     rw[L2 hn',hno,Bool.false_or];clear hyes hk23;unfold Wo;simp only[Bool.or_eq_false_iff,decide_eq_false_iff_not] at*;omega
    exact Y5 hmax hn' ⟨_,hk23,hnx⟩)
 ·have hn': ¬n<c.methods.length:=by simpa using hc
  rw[E5 hn'] at hno
  have hS2:=hk1.trans hk2
  have hm:Zy c=(decide (32<c.like.length)||decide (32<c.fields.length)||decide (32<c.methods.length)):=by unfold Zy;rw[hno];simp
  rw[hm] at h
  have hK:=h _ _ hS2
  clear h hk2
  (try simp only[↓M1,M1,Mb,reduceIte])
  refine ld hs2 hq2 rfl ?_
  refine Q8 f12 ?_
  have d32: ∀k:Nat,decide ((32:Int)<(k:Int))=decide (32<k):=fun k=>by rw[Bool.eq_iff_iff,decide_eq_true_eq,decide_eq_true_eq];omega
  simp only[d32,↓M1,M1,Mb,reduceIte]
  cases e1:decide (32<c.like.length) with
  | true=>rw[e1] at hK;(try simp only[↓M1,M1,Mb,reduceIte]);simpa using hK
  | false=>
   rw[e1] at hK
   (try simp only[↓M1,M1,Mb,reduceIte])
   refine ld hs2 hq2 rfl ?_
   refine Q8 f22 ?_
   simp only[d32,↓M1,M1,Mb,reduceIte]
   cases e2:decide (32<c.fields.length) with
   | true=>rw[e2] at hK;(try simp only[↓M1,M1,Mb,reduceIte]);simpa using hK
   | false=>
    rw[e2] at hK
    (try simp only[↓M1,M1,Mb,reduceIte])
    refine ld hs2 hq2 rfl ?_
    refine Q8 f32 ?_
    simp only[d32,↓M1,M1,Mb,reduceIte]
    simpa using hK)
theorem Q7B {α:Type} {xs:List α} {p:α→Bool} {n:Nat} (h: ¬n<xs.length):(xs.take n).all p=xs.all p:=by rw[List.take_of_length_le (by omega)]
set_option maxHeartbeats 4000000 in
theorem Q10 {m:Hm.Met} {pv cv hv:Value} {w1:World} {σ1:Q6} {q:Addr} {s:Bool} (hs:X3 w σ) (af:Stp w σ w1 σ1) (hq:Z4 σ1 q [S m.name,pv,S m.result, .bool m.abs,I m.locals,cv,hv]) (g1:Sl 1 U8 σ1 pv m.params) (g2:Sl 3 Qr σ1 cv m.code) (g3:Sl 4 Ur σ1 hv m.catches)
 (h: ∀w' M,Stp w σ w' M→K (.bool ((s&&m.params.all right)&&if m.abs then decide (m.locals=0)&&decide (m.code=[])&&decide (m.catches=[])
  else decide (m.code≠[])&&decide ((m.params.length:Int)<m.locals)&&m.code.all (fun i=>decide (H6 i=0))&&m.catches.all (I4 m.code.length))) w'):
 lp (α:=Value×Value) (Value.bool s,(.int .i64 0)) w1 fun W B d_ w=>
  fieldAddr P T.e (.pointer (some q)) 1 w fun dd w=>
  Q2 P T.h dd w fun ca w=>
  X2 P .len [T.h] T.d [false] [ca] w fun b3 w=>
  Q3 P .lss T.d (.tmp 21) (.tmp 24) B.2 b3 w fun ci w=>
  X1 ci (
   Q0 B.1 true w (fieldAddr P T.e (.pointer (some q)) 1) fun b5 w=>
   Q0 B.1 true w (Q2 P T.h b5) fun cy w=>
   Q0 B.1 true w (fun w J=>J B.2 w) fun bp w=>
   Q0 B.1 true w (indexAddr P T.h cy bp) fun ck w=>
   Q0 B.1 true w (Q2 P T.c ck) fun cj w=>
   Q0 B.1 true w (Q1 P F.e [cj]) fun bj w=>
   pick P B.1 bj (.bool false) w fun dc w=>
   Q3 P .add T.d (.tmp 26) (.const (.int .i64 1)) B.2 (.int .i64 1) w fun cm w=>
   W (dc,cm) w) (
   fieldAddr P T.e (.pointer (some q)) 3 w fun b9 w=>
   Q2 P T.u b9 w fun c7 w=>
   X1 c7 (
    Q0 B.1 true w (fieldAddr P T.e (.pointer (some q)) 4) fun b0 w=>
    Q0 B.1 true w (Q2 P T.d b0) fun cz w=>
    Q0 B.1 true w (Q3 P .eql T.d (.tmp 42) (.const (.int .i64 0)) cz (.int .i64 0)) fun db w=>
    pick P B.1 db (.bool false) w fun N w=>
    Q0 N true w (fieldAddr P T.e (.pointer (some q)) 5) fun bx w=>
    Q0 N true w (Q2 P T.q bx) fun c8 w=>
    Q0 N true w (X2 P .len [T.q] T.d [false] [c8]) fun bv w=>
    Q0 N true w (Q3 P .eql T.d (.tmp 48) (.const (.int .i64 0)) bv (.int .i64 0)) fun b2 w=>
    pick P N b2 (.bool false) w fun L w=>
    Q0 L true w (fieldAddr P T.e (.pointer (some q)) 6) fun cc w=>
    Q0 L true w (Q2 P T.s cc) fun cq w=>
    Q0 L true w (X2 P .len [T.s] T.d [false] [cq]) fun cg w=>
    Q0 L true w (Q3 P .eql T.d (.tmp 54) (.const (.int .i64 0)) cg (.int .i64 0)) fun c5 w=>
    pick P L c5 (.bool false) w fun bu w=>
    K bu w) (
    fieldAddr P T.e (.pointer (some q)) 5 w fun cu w=>
    Q2 P T.q cu w fun bq w=>
    X2 P .len [T.q] T.d [false] [bq] w fun ah w=>
    lp (α:=Value×Value) (B.1,(.int .i64 0)) w fun R j d_ w=>
     fieldAddr P T.e (.pointer (some q)) 6 w fun b8 w=>
     Q2 P T.s b8 w fun cf w=>
     X2 P .len [T.s] T.d [false] [cf] w fun b4 w=>
     Q3 P .lss T.d (.tmp 60) (.tmp 63) j.2 b4 w fun ct w=>
     X1 ct (
      fieldAddr P T.e (.pointer (some q)) 6 w fun c3 w=>
      Q2 P T.s c3 w fun cs w=>
      indexAddr P T.s cs j.2 w fun bn w=>
      Q2 P T.t bn w fun c9 w=>
      W0 P T.t w fun t7 w=>
      Y0 P T.t t7 c9 w fun _u w=>
      Q0 j.1 true w (fieldAddr P T.t t7 0) fun bo w=>
      Q0 j.1 true w (Q2 P T.d bo) fun bs w=>
      Q0 j.1 true w (Q3 P .geq T.d (.tmp 75) (.const (.int .i64 0)) bs (.int .i64 0)) fun co w=>
      pick P j.1 co (.bool false) w fun H w=>
      Q0 H true w (fieldAddr P T.t t7 0) fun c6 w=>
      Q0 H true w (Q2 P T.d c6) fun b1 w=>
      Q0 H true w (fieldAddr P T.t t7 1) fun bi w=>
      Q0 H true w (Q2 P T.d bi) fun bz w=>
      Q0 H true w (Q3 P .lss T.d (.tmp 80) (.tmp 82) b1 bz) fun cp w=>
      pick P H cp (.bool false) w fun O w=>
      Q0 O true w (fieldAddr P T.t t7 1) fun cb w=>
      Q0 O true w (Q2 P T.d cb) fun b6 w=>
      Q0 O true w (fun w J=>J ah w) fun bl w=>
      Q0 O true w (Q3 P .leq T.d (.tmp 87) (.tmp 88) b6 bl) fun bh w=>
      pick P O bh (.bool false) w fun V w=>
      Q0 V true w (fieldAddr P T.t t7 2) fun br w=>
      Q0 V true w (Q2 P T.d br) fun b7 w=>
      Q0 V true w (Q3 P .geq T.d (.tmp 93) (.const (.int .i64 0)) b7 (.int .i64 0)) fun ch w=>
      pick P V ch (.bool false) w fun U w=>
      Q0 U true w (fieldAddr P T.t t7 2) fun ce w=>
      Q0 U true w (Q2 P T.d ce) fun bk w=>
      Q0 U true w (fun w J=>J ah w) fun cl w=>
      Q0 U true w (Q3 P .lss T.d (.tmp 98) (.tmp 99) bk cl) fun av w=>
      pick P U av (.bool false) w fun D w=>
      Q0 D true w (fieldAddr P T.t t7 3) fun ar w=>
      Q0 D true w (Q2 P T.c ar) fun aw w=>
      Q0 D true w (Q1 P F.d [aw]) fun al w=>
      pick P D al (.bool false) w fun a4 w=>
      Q3 P .add T.d (.tmp 65) (.const (.int .i64 1)) j.2 (.int .i64 1) w fun bm w=>
      R (a4,bm) w) (
      Q0 j.1 true w (fun w J=>J ah w) fun a6 w=>
      Q0 j.1 true w (Q3 P .gtr T.d (.tmp 109) (.const (.int .i64 0)) a6 (.int .i64 0)) fun am w=>
      pick P j.1 am (.bool false) w fun g w=>
      Q0 g true w (fieldAddr P T.e (.pointer (some q)) 4) fun an w=>
      Q0 g true w (Q2 P T.d an) fun ba w=>
      Q0 g true w (fieldAddr P T.e (.pointer (some q)) 1) fun ap w=>
      Q0 g true w (Q2 P T.h ap) fun a8 w=>
      Q0 g true w (X2 P .len [T.h] T.d [false] [a8]) fun a2 w=>
      Q0 g true w (Q3 P .gtr T.d (.tmp 114) (.tmp 117) ba a2) fun a9 w=>
      pick P g a9 (.bool false) w fun t w=>
      Q0 t true w (fieldAddr P T.e (.pointer (some q)) 5) fun a1 w=>
      Q0 t true w (Q2 P T.q a1) fun bb w=>
      Q0 t true w (Q1 P F.b3 [bb]) fun aj w=>
      Q0 t true w (Q3 P .eql T.w (.tmp 123) (.const (.int .i64 0)) aj (.int .i64 0)) fun az w=>
      pick P t az (.bool false) w fun aq w=>
      K aq w))):=by
 have bw:=af.sat
 have c0:decide ((m.code.length:Int)=0)=decide (m.code=[]):=by cases m.code<;>simp;omega
 have c1:decide ((m.catches.length:Int)=0)=decide (m.catches=[]):=by cases m.catches<;>simp;omega
 have c2:decide ((0:Int)<m.code.length)=decide (m.code≠[]):=by cases m.code<;>simp
 refine E7 (a:=Value.bool s) m.params.length (fun n x w'=> ∃M,Stp w1 σ1 w' M∧x=Value.bool (s&&(m.params.take n).all right)) ⟨σ1,Stp.refl bw,by simp⟩ fun n x w2 d hn Q=>?_
 obtain ⟨σ2,l,rfl⟩:=Q
 have o:=hq.up l
 have Z:=g1.up l
 have k:=l.sat
 (try simp only[↓M1,M1,Mb,reduceIte])
 refine ld k o rfl ?_
 refine Q8 Z ?_
 refine Z1 ?_
 refine Q7 (fun hc=>?_) (fun hc=>?_)
 ·have c:n<m.params.length:=by simpa using hc
  have r:(s&&(m.params.take (n+1)).all right)=((s&&(m.params.take n).all right)&&right m.params[n]):=by rw[Uw c,Bool.and_assoc]
  generalize (s&&(m.params.take n).all right)=f at r⊢
  cases f with
  | false=>(try simp only[↓M1,M1,Mb,reduceIte]);exact J4 g1.max c ⟨σ2,l,by rw[r];rfl⟩
  | true=>
   (try simp only[↓M1,M1,Mb,reduceIte])
   refine ld k o rfl ?_
   (try simp only[↓M1,M1,Mb,reduceIte])
   refine Y1 Z c ?_
   obtain ⟨p1,p2⟩:=Z.elS c
   refine X7 k p1 rfl ?_
   refine Jw _ (by simp only[U1] at p2;omega) ?_
   (try simp only[↓M1,M1,Mb,reduceIte])
   exact J4 g1.max c ⟨σ2,l,by rw[r];rfl⟩
 ·have c: ¬n<m.params.length:=by simpa using hc
  rw[Q7B c]
  have a5:=af.trans l
  have ag:=g2.up l
  have X:=g3.up l
  clear af l hq g1 g2 g3 hn hc
  generalize (s&&m.params.all right)=f at h⊢
  refine ld k o rfl ?_
  cases a7:m.abs with
  | true=>
   simp only[a7,if_true] at h
   have hK:=h _ _ a5
   clear h
   (try simp only[↓M1,M1,Mb,reduceIte])
   cases f with
   | false=>(try simp only[↓M1,M1,Mb,reduceIte]);simpa using hK
   | true=>
    (try simp only[↓M1,M1,Mb,reduceIte])
    refine ld k o rfl ?_
    (try simp only[↓M1,M1,Mb,reduceIte])
    cases bd:decide (m.locals=0) with
    | false=>rw[bd] at hK;(try simp only[↓M1,M1,Mb,reduceIte]);simpa using hK
    | true=>
     rw[bd] at hK
     (try simp only[↓M1,M1,Mb,reduceIte])
     refine ld k o rfl ?_
     refine Q8 ag ?_
     simp only[c0,↓M1,M1,Mb,reduceIte]
     cases ao:decide (m.code=[]) with
     | false=>rw[ao] at hK;(try simp only[↓M1,M1,Mb,reduceIte]);simpa using hK
     | true=>
      rw[ao] at hK
      (try simp only[↓M1,M1,Mb,reduceIte])
      refine ld k o rfl ?_
      refine Q8 X ?_
      simp only[c1,↓M1,M1,Mb,reduceIte]
      simpa using hK
  | false=>
   simp only[a7,Bool.false_eq_true,if_false] at h
   (try simp only[↓M1,M1,Mb,reduceIte])
   refine ld k o rfl ?_
   refine Q8 ag ?_
   refine E7 (a:=Value.bool f) m.catches.length (fun n x w'=> ∃M,Stp w2 σ2 w' M∧x=Value.bool (f&&(m.catches.take n).all (I4 m.code.length))) ⟨σ2,Stp.refl k,by simp⟩ fun n x w4 d hn Q=>?_
   obtain ⟨σ4,A,rfl⟩:=Q
   have E:=o.up A
   have Y:=X.up A
   have p:=A.sat
   (try simp only[↓M1,M1,Mb,reduceIte])
   refine ld p E rfl ?_
   refine Q8 Y ?_
   refine Z1 ?_
   refine Q7 (fun hc=>?_) (fun hc=>?_)
   ·have c:n<m.catches.length:=by simpa using hc
    have r:(f&&(m.catches.take (n+1)).all (I4 m.code.length))=((f&&(m.catches.take n).all (I4 m.code.length))&&I4 m.code.length m.catches[n]):=by rw[Uw c,Bool.and_assoc]
    generalize (f&&(m.catches.take n).all (I4 m.code.length))=cd at r⊢
    (try simp only[↓M1,M1,Mb,reduceIte])
    refine ld p E rfl ?_
    refine Y1 Y c ?_
    obtain ⟨p1,r1⟩:=Y.elK c
    have a0:m.catches[n].cls.length≤140737488355328:=by have:=r1.2.2.2.2;simp only[U1] at this;omega
    refine Y2 p p1 rfl ?_
    refine Y7 p (by rfl) rfl (Rep.one r1) fun q5 w5 σ5 ay y=>?_
    have C:=ay.sat
    have ad:=A.trans ay
    cases cd with
    | false=>(try simp only[↓M1,M1,Mb,reduceIte]);exact J4 X.max c ⟨σ5,ad,by rw[r];rfl⟩
    | true=>
     have z: ∀b,I4 m.code.length m.catches[n]=b→Bv m.catches.length (fun n x w'=> ∃M,Stp w2 σ2 w' M∧x=Value.bool (f&&(m.catches.take n).all (I4 m.code.length))) (Value.bool b, .int .i64 (IntKind.i64.wrap (n+1))) w5∧Nk m.catches.length (Value.bool b, .int .i64 (IntKind.i64.wrap (n+1)))<Nk m.catches.length (Value.bool true,I n):=fun b e=>J4 X.max c ⟨σ5,ad,by rw[r,e];rfl⟩
     unfold I4 at z
     generalize m.catches[n]=x at y z a0
     clear r p1 r1 E o Y h
     (try simp only[↓M1,M1,Mb,reduceIte])
     refine ld C y rfl ?_
     (try simp only[↓M1,M1,Mb,reduceIte])
     cases d1:decide (0≤x.frm) with
     | false=>(try simp only[↓M1,M1,Mb,reduceIte]);exact z _ (by simp[d1])
     | true=>
     (try simp only[↓M1,M1,Mb,reduceIte])
     refine ld C y rfl ?_
     (try simp only[↓M1,M1,Mb,reduceIte])
     refine ld C y rfl ?_
     (try simp only[↓M1,M1,Mb,reduceIte])
     cases d2:decide (x.frm<x.to) with
     | false=>(try simp only[↓M1,M1,Mb,reduceIte]);exact z _ (by simp[d1,d2])
     | true=>
     (try simp only[↓M1,M1,Mb,reduceIte])
     refine ld C y rfl ?_
     (try simp only[↓M1,M1,Mb,reduceIte])
     cases d3:decide (x.to≤(m.code.length:Int)) with
     | false=>(try simp only[↓M1,M1,Mb,reduceIte]);exact z _ (by simp[d1,d2,d3])
     | true=>
     (try simp only[↓M1,M1,Mb,reduceIte])
     refine ld C y rfl ?_
     (try simp only[↓M1,M1,Mb,reduceIte])
     cases d4:decide (0≤x.at_) with
     | false=>(try simp only[↓M1,M1,Mb,reduceIte]);exact z _ (by simp[d1,d2,d3,d4])
     | true=>
     (try simp only[↓M1,M1,Mb,reduceIte])
     refine ld C y rfl ?_
     (try simp only[↓M1,M1,Mb,reduceIte])
     cases d5:decide (x.at_<(m.code.length:Int)) with
     | false=>(try simp only[↓M1,M1,Mb,reduceIte]);exact z _ (by simp[d1,d2,d3,d4,d5])
     | true=>
     (try simp only[↓M1,M1,Mb,reduceIte])
     refine ld C y rfl ?_
     refine Yf x.cls a0 ?_
     (try simp only[↓M1,M1,Mb,reduceIte])
     exact z _ (by simp[d1,d2,d3,d4,d5])
   ·have c: ¬n<m.catches.length:=by simpa using hc
    rw[Q7B c]
    have aa:=a5.trans A
    have cr:=ag.up A
    have da:=Z.up A
    have hh: ∀w' M,Stp w σ w' M→K (.bool ((f&&m.catches.all (I4 m.code.length))&&(decide (m.code≠[])&&decide ((m.params.length:Int)<m.locals)&&m.code.all (fun i=>decide (H6 i=0))))) w':=by
     intro w' M hk
     have:=h w' M hk
     refine Eq.subst (motive:=fun b=>K (.bool b) w') ?_ this
     cases f<;>cases m.catches.all (I4 m.code.length)<;>simp
    clear h A
    generalize (f&&m.catches.all (I4 m.code.length))=cx at hh⊢
    cases cx with
    | false=>(try simp only[↓M1,M1,Mb,reduceIte]);simpa using hh _ _ aa
    | true=>
     (try simp only[↓M1,M1,Mb,reduceIte])
     simp only[c2,↓M1,M1,Mb,reduceIte]
     cases ak:decide (m.code≠[]) with
     | false=>rw[ak] at hh;(try simp only[↓M1,M1,Mb,reduceIte]);simpa using hh _ _ aa
     | true=>
      rw[ak] at hh
      (try simp only[↓M1,M1,Mb,reduceIte])
      refine ld p E rfl ?_
      (try simp only[↓M1,M1,Mb,reduceIte])
      refine ld p E rfl ?_
      refine Q8 da ?_
      (try simp only[↓M1,M1,Mb,reduceIte])
      cases bc:decide ((m.params.length:Int)<m.locals) with
      | false=>rw[bc] at hh;(try simp only[↓M1,M1,Mb,reduceIte]);simpa using hh _ _ aa
      | true=>
       rw[bc] at hh
       (try simp only[↓M1,M1,Mb,reduceIte])
       refine ld p E rfl ?_
       refine X20 p cr fun e w6 σ6 cw he=>?_
       simp only[he,↓M1,M1,Mb,reduceIte]
       simpa using hh _ _ (aa.trans cw)
set_option maxHeartbeats 2000000 in
theorem Q8p {m:Hm.Met} {cs:List Value} (n:X3 w σ) (A:H0 σ m cs) (h: ∀w' B,Stp w σ w' B→K (.bool (K1 m)) w'):Q1 P F.a5 [.agg cs.toArray] w K:=Ib (by
 unfold Lk
 obtain ⟨pv,L,H,rfl,E,D,C,z,y,J⟩:=A
 have r:m.name.length≤140737488355328:=by simp only[U1] at z;omega
 have t:m.result.length≤140737488355328:=by simp only[U1] at y;omega
 refine Z0 n fun q w1 σ1 a g=>?_
 have p:=E.up a
 have o:=D.up a
 have s:=C.up a
 have e:=a.sat
 obtain ⟨d,c⟩: ∃b,b=(E2 m.name&&(decide (m.result=[])||right m.result)):=⟨_,rfl⟩
 have j:K1 m=((d&&m.params.all right)&&if m.abs then decide (m.locals=0)&&decide (m.code=[])&&decide (m.catches=[])
  else decide (m.code≠[])&&decide ((m.params.length:Int)<m.locals)&&m.code.all (fun i=>decide (H6 i=0))&&m.catches.all (I4 m.code.length)):=by
  rw[c];unfold K1
  cases E2 m.name<;>cases m.params.all right<;>cases decide (m.result=[])<;>cases right m.result<;>rfl
 rw[j] at h
 clear j
 (repeat refine Hd.h ?_)
 refine ld e g rfl ?_
 refine Ig m.name r ?_
 cases f:E2 m.name with
 | false=>
  have l:d=false:=by rw[c,f];rfl
  (repeat refine Hd.h ?_)
  refine Eq.subst (motive:=fun b=>lp (α:=Value×Value) (Value.bool b, .int .i64 0) w1 _) l ?_
  exact Q10 n a g p o s h
 | true=>
  (repeat refine Hd.h ?_)
  refine ld e g rfl ?_
  (repeat refine Hd.h ?_)
  refine P7 ?_
  cases k:decide (m.result=[]) with
  | true=>
   have l:d=true:=by rw[c,f,k];rfl
   (repeat refine Hd.h ?_)
   refine Eq.subst (motive:=fun b=>lp (α:=Value×Value) (Value.bool b, .int .i64 0) w1 _) l ?_
   exact Q10 n a g p o s h
  | false=>
   (repeat refine Hd.h ?_)
   refine ld e g rfl ?_
   (repeat refine Hd.h ?_)
   refine Jw m.result t ?_
   have l:d=right m.result:=by rw[c,f,k];rfl
   (repeat refine Hd.h ?_)
   refine Eq.subst (motive:=fun b=>lp (α:=Value×Value) (Value.bool b, .int .i64 0) w1 _) l ?_
   exact Q10 n a g p o s h)
end Go.Proofs.YtjdiakhipmggjaaGreatDoor

namespace Go.Hm
open Go.Kd
def Mi (c:Cla) (i:Nat):Bool:=M9 (c.like.getD i [])&& !decide (c.like.getD i []=c.name)
def Qd (c:Cla) (i k:Nat):Bool:= !decide (c.like.getD k []=c.like.getD i [])
def Bh (c:Cla) (i:Nat):Fld:=c.fields.getD i Fld.zero
def Rl (c:Cla) (i:Nat):Hm.Met:=c.methods.getD i Hm.Met.zero
def Dr (c:Cla) (i:Nat):Bool:=E2 (Bh c i).name&&right (Bh c i).kind&& !c.iface
def Xx (c:Cla) (i k:Nat):Bool:= !decide ((Bh c k).name=(Bh c i).name)
def Q8E (c:Cla):Bool:=(!c.iface||(c.abs&&decide (c.super=U0)))&& !(c.abs&&c.fin)
def Xy (c:Cla) (i k:Nat):Bool:= !decide ((Rl c k).name=(Rl c i).name)
theorem Ly {p:Nat→Bool} {n:Nat}:(List.range (n+1)).all p=((List.range n).all p&&p n):=by rw[List.range_succ,List.all_append];simp
theorem C3 {α:Type} {xs:List α} {i:Nat} {d:α} (h:i<xs.length):xs.getD i d=xs[i]:=by rw[List.getD_eq_getElem?_getD,List.getElem?_eq_getElem h];rfl
end Go.Hm
namespace Go.Proofs.YtjdiakhipmggjaaGreatDoor
open Go.Emb Go.RowKit Go.Kd Go.Hm
variable {w : World} {K : Value → World → Prop} {σ : Q6}
def Nn (c:Cla) (i:Nat):Bool:=K1 (Rl c i)&&(!(Rl c i).abs||c.abs)&&(!c.iface||(Rl c i).abs)
set_option maxHeartbeats 2000000 in
theorem Q3X {c:Cla} {lv fv mv:Value} {w1:World} {σ1:Q6} {q:Addr} {ok:Bool} (ad:X3 w1 σ1) (hq:Z4 σ1 q [S c.name,S c.super,lv, .bool c.iface, .bool c.abs, .bool c.fin,fv,mv]) {i:Nat} {N m0:Nat} {O:Nat→Value→World→Prop} (g1:Sl 1 U8 σ1 lv c.like) (hi:i<c.like.length)
 (h: ∀w' σ',Stp w1 σ1 w' σ'→Bv N O (Value.bool (ok&&(List.range i).all (Qd c i)), .int .i64 (IntKind.i64.wrap (i+1))) w'∧Nk N (Value.bool (ok&&(List.range i).all (Qd c i)), .int .i64 (IntKind.i64.wrap (i+1)))<m0):
 lp (
  α:=Value×Value) (Value.bool ok,(.int .i64 0)) w1 fun g b d_ w=>
  Q3 P .lss T.d (.tmp 52) (.tmp 53) b.2 (I i) w fun Z w=>
  X1 Z (
   dr w fun e j=>
   Q4 e (fun t=> ∀w:World,j w→Q0 b.1 true w (fieldAddr P T.b (.pointer (some q)) 2) (dk e t w)) fun t=>
   Q4 e (fun u=> ∀w:World,j w→Q0 b.1 true w (fun w J=>J b.2 w) (dk e u w)) fun u=>
   Q4 e (fun s=> ∀w:World,j w→Q0 b.1 true w (fieldAddr P T.b (.pointer (some q)) 2) (dk e s w)) fun s=>
   Q4 e (fun D=> ∀w:World,j w→Q0 b.1 true w (fun w J=>J (I i) w) (dk e D w)) fun D=>
   Q4 e (fun p=> ∀l:Value,∀w:World,j w→t l w→Q0 b.1 true w (Q2 P T.h l) (dk e p w)) fun p=>
   Q4 e (fun C=> ∀o:Value,∀B:Value,∀w:World,j w→p o w→u B w→Q0 b.1 true w (indexAddr P T.h o B) (dk e C w)) fun C=>
   Q4 e (fun H=> ∀m:Value,∀w:World,j w→C m w→Q0 b.1 true w (Q2 P T.c m) (dk e H w)) fun H=>
   Q4 e (fun A=> ∀v:Value,∀w:World,j w→s v w→Q0 b.1 true w (Q2 P T.h v) (dk e A w)) fun A=>
   Q4 e (fun r=> ∀z:Value,∀n:Value,∀w:World,j w→A z w→D n w→Q0 b.1 true w (indexAddr P T.h z n) (dk e r w)) fun r=>
   Q4 e (fun E=> ∀y:Value,∀w:World,j w→r y w→Q0 b.1 true w (Q2 P T.c y) (dk e E w)) fun E=>
   ∀l:Value,∀B:Value,∀v:Value,∀n:Value,∀o:Value,∀m:Value,∀U:Value,∀z:Value,∀y:Value,∀R:Value,∀w:World,j w→t l w→u B w→s v w→D n w→p o w→C m w→H U w→A z w→r y w→E R w→
   Q0 b.1 true w (Q3 P .neq T.c (.tmp 63) (.tmp 68) U R) fun ai w=>
   pick P b.1 ai (.bool false) w fun Y w=>
   Q3 P .add T.d (.tmp 55) (.const (.int .i64 1)) b.2 (.int .i64 1) w fun ab w=>
   g (Y,ab) w) (
   Q3 P .add T.d (.tmp 31) (.const (.int .i64 1)) (I i) (.int .i64 1) w fun M w=>
   (Bv N O (b.1,M) w∧Nk N (b.1,M)<m0)):=by
 have aj:=g1.max
 refine E7 (a:=Value.bool ok) i (fun k x w'=> ∃σ',Stp w1 σ1 w' σ'∧x=Value.bool (ok&&(List.range k).all (Qd c i))) ⟨σ1,Stp.refl ad,by simp⟩ fun k x w2 d hk Q=>?_
 obtain ⟨σ2,f,rfl⟩:=Q
 have aq:=hq.up f
 have V:=g1.up f
 have af:=f.sat
 refine Z1 ?_
 refine Q7 (fun X=>?_) (fun X=>?_)
 ·have aa:k<i:=by simpa using X
  have W:k<c.like.length:=by omega
  have L:(ok&&(List.range (k+1)).all (Qd c i))=((ok&&(List.range k).all (Qd c i))&&Qd c i k):=by rw[Ly,Bool.and_assoc]
  have hQ:Qd c i k= !decide (c.like[k]=c.like[i]):=by unfold Qd;rw[C3 W,C3 hi]
  rw[hQ] at L
  obtain ⟨p1,_⟩:=V.elS W
  obtain ⟨p2,_⟩:=V.elS hi
  generalize (ok&&(List.range k).all (Qd c i))=ae at L⊢
  clear h hQ X
  cases ae
  all_goals
   refine J9 af ?_
   (repeat refine J3 Qe ?_)
   (intros;(repeat (rename_i hx;subst hx));(try simp only[↓M2,M2,Mb,reduceIte]))
   rename_i w3 ag
   exact J4 (by omega) aa ⟨σ2,f.trans ag.stp,by rw[L];rfl⟩
 ·have ac:k=i:=by
   have: ¬k<i:=by simpa using X
   omega
  subst ac
  (try simp only[↓M1,M1,Mb,reduceIte])
  exact h _ _ f
set_option maxHeartbeats 4000000 in
theorem X0P {c:Cla} {lv fv mv:Value} {w1:World} {σ1:Q6} {q:Addr} {ok:Bool} (hs1:X3 w1 σ1) (hq:Z4 σ1 q [S c.name,S c.super,lv, .bool c.iface, .bool c.abs, .bool c.fin,fv,mv]) {J:Value→World→Prop} (hn:c.name.length≤U1) (g1:Sl 1 U8 σ1 lv c.like)
 (h: ∀w' σ',Stp w1 σ1 w' σ'→J (.bool (ok&&(List.range c.like.length).all fun i=>Mi c i&&(List.range i).all (Qd c i))) w'):
 lp (α:=Value×Value) (Value.bool ok,(.int .i64 0)) w1 fun again4 x4 d_ w=>
 fieldAddr P T.b (.pointer (some q)) 2 w fun t27 w=>
 Q2 P T.h t27 w fun t28 w=>
 X2 P .len [T.h] T.d [false] [t28] w fun t29 w=>
 Q3 P .lss T.d (.tmp 26) (.tmp 29) x4.2 t29 w fun t30 w=>
 X1 t30 (
  dr w fun Tr Br=>
  Q4 Tr (fun φ35=> ∀w:World,Br w→Q0 x4.1 true w (fieldAddr P T.b (.pointer (some q)) 2) (dk Tr φ35 w)) fun φ35=>
  Q4 Tr (fun φ37=> ∀w:World,Br w→Q0 x4.1 true w (fun w J=>J x4.2 w) (dk Tr φ37 w)) fun φ37=>
  Q4 Tr (fun φ36=> ∀t35:Value,∀w:World,Br w→φ35 t35 w→Q0 x4.1 true w (Q2 P T.h t35) (dk Tr φ36 w)) fun φ36=>
  Q4 Tr (fun φ38=> ∀t36:Value,∀t37:Value,∀w:World,Br w→φ36 t36 w→φ37 t37 w→Q0 x4.1 true w (indexAddr P T.h t36 t37) (dk Tr φ38 w)) fun φ38=>
  Q4 Tr (fun φ39=> ∀t38:Value,∀w:World,Br w→φ38 t38 w→Q0 x4.1 true w (Q2 P T.c t38) (dk Tr φ39 w)) fun φ39=>
  Q4 Tr (fun φ40=> ∀t39:Value,∀w:World,Br w→φ39 t39 w→Q0 x4.1 true w (Q1 P F.d [t39]) (dk Tr φ40 w)) fun φ40=>
  Q4 Tr (fun φ41=> ∀t40:Value,∀w:World,Br w→φ40 t40 w→pick P x4.1 t40 (.bool false) w (dk Tr φ41 w)) fun φ41=>
  Q4 Tr (fun φ43=> ∀t41:Value,∀w:World,Br w→φ41 t41 w→Q0 t41 true w (fieldAddr P T.b (.pointer (some q)) 2) (dk Tr φ43 w)) fun φ43=>
  Q4 Tr (fun φ45=> ∀t41:Value,∀w:World,Br w→φ41 t41 w→Q0 t41 true w (fun w J=>J x4.2 w) (dk Tr φ45 w)) fun φ45=>
  Q4 Tr (fun φ48=> ∀t41:Value,∀w:World,Br w→φ41 t41 w→Q0 t41 true w (fieldAddr P T.b (.pointer (some q)) 0) (dk Tr φ48 w)) fun φ48=>
  Q4 Tr (fun φ44=> ∀t41:Value,∀t43:Value,∀w:World,Br w→φ41 t41 w→φ43 t43 w→Q0 t41 true w (Q2 P T.h t43) (dk Tr φ44 w)) fun φ44=>
  Q4 Tr (fun φ46=> ∀t41:Value,∀t44:Value,∀t45:Value,∀w:World,Br w→φ41 t41 w→φ44 t44 w→φ45 t45 w→Q0 t41 true w (indexAddr P T.h t44 t45) (dk Tr φ46 w)) fun φ46=>
  Q4 Tr (fun φ47=> ∀t41:Value,∀t46:Value,∀w:World,Br w→φ41 t41 w→φ46 t46 w→Q0 t41 true w (Q2 P T.c t46) (dk Tr φ47 w)) fun φ47=>
  Q4 Tr (fun φ49=> ∀t41:Value,∀t48:Value,∀w:World,Br w→φ41 t41 w→φ48 t48 w→Q0 t41 true w (Q2 P T.c t48) (dk Tr φ49 w)) fun φ49=>
  ∀t35:Value,∀t37:Value,∀t36:Value,∀t38:Value,∀t39:Value,∀t40:Value,∀t41:Value,∀t43:Value,∀t45:Value,∀t48:Value,∀t44:Value,∀t46:Value,∀t47:Value,∀t49:Value,∀w:World,Br w→φ35 t35 w→φ37 t37 w→φ36 t36 w→φ38 t38 w→φ39 t39 w→φ40 t40 w→φ41 t41 w→φ43 t43 w→φ45 t45 w→φ48 t48 w→φ44 t44 w→φ46 t46 w→φ47 t47 w→φ49 t49 w→
  Q0 t41 true w (Q3 P .neq T.c (.tmp 47) (.tmp 49) t47 t49) fun t50 w=>
  pick P t41 t50 (.bool false) w fun t51 w=>
  lp (α:=Value×Value) (t51,(.int .i64 0)) w fun again10 x10 d_ w=>
   Q3 P .lss T.d (.tmp 52) (.tmp 53) x10.2 x4.2 w fun t54 w=>
   X1 t54 (
    dr w fun Tr Br=>
    Q4 Tr (fun φ59=> ∀w:World,Br w→Q0 x10.1 true w (fieldAddr P T.b (.pointer (some q)) 2) (dk Tr φ59 w)) fun φ59=>
    Q4 Tr (fun φ61=> ∀w:World,Br w→Q0 x10.1 true w (fun w J=>J x10.2 w) (dk Tr φ61 w)) fun φ61=>
    Q4 Tr (fun φ64=> ∀w:World,Br w→Q0 x10.1 true w (fieldAddr P T.b (.pointer (some q)) 2) (dk Tr φ64 w)) fun φ64=>
    Q4 Tr (fun φ66=> ∀w:World,Br w→Q0 x10.1 true w (fun w J=>J x4.2 w) (dk Tr φ66 w)) fun φ66=>
    Q4 Tr (fun φ60=> ∀t59:Value,∀w:World,Br w→φ59 t59 w→Q0 x10.1 true w (Q2 P T.h t59) (dk Tr φ60 w)) fun φ60=>
    Q4 Tr (fun φ62=> ∀t60:Value,∀t61:Value,∀w:World,Br w→φ60 t60 w→φ61 t61 w→Q0 x10.1 true w (indexAddr P T.h t60 t61) (dk Tr φ62 w)) fun φ62=>
    Q4 Tr (fun φ63=> ∀t62:Value,∀w:World,Br w→φ62 t62 w→Q0 x10.1 true w (Q2 P T.c t62) (dk Tr φ63 w)) fun φ63=>
    Q4 Tr (fun φ65=> ∀t64:Value,∀w:World,Br w→φ64 t64 w→Q0 x10.1 true w (Q2 P T.h t64) (dk Tr φ65 w)) fun φ65=>
    Q4 Tr (fun φ67=> ∀t65:Value,∀t66:Value,∀w:World,Br w→φ65 t65 w→φ66 t66 w→Q0 x10.1 true w (indexAddr P T.h t65 t66) (dk Tr φ67 w)) fun φ67=>
    Q4 Tr (fun φ68=> ∀t67:Value,∀w:World,Br w→φ67 t67 w→Q0 x10.1 true w (Q2 P T.c t67) (dk Tr φ68 w)) fun φ68=>
    ∀t59:Value,∀t61:Value,∀t64:Value,∀t66:Value,∀t60:Value,∀t62:Value,∀t63:Value,∀t65:Value,∀t67:Value,∀t68:Value,∀w:World,Br w→φ59 t59 w→φ61 t61 w→φ64 t64 w→φ66 t66 w→φ60 t60 w→φ62 t62 w→φ63 t63 w→φ65 t65 w→φ67 t67 w→φ68 t68 w→
    Q0 x10.1 true w (Q3 P .neq T.c (.tmp 63) (.tmp 68) t63 t68) fun t69 w=>
    pick P x10.1 t69 (.bool false) w fun t70 w=>
    Q3 P .add T.d (.tmp 55) (.const (.int .i64 1)) x10.2 (.int .i64 1) w fun t56 w=>
    again10 (t70,t56) w) (
    Q3 P .add T.d (.tmp 31) (.const (.int .i64 1)) x4.2 (.int .i64 1) w fun t32 w=>
    again4 (x10.1,t32) w)) (
  J x4.1 w):=by
 have hmax:=g1.max
 refine E7 (a:=Value.bool ok) c.like.length (fun n x w'=> ∃σ',Stp w1 σ1 w' σ'∧x=Value.bool (ok&&(List.range n).all fun i=>Mi c i&&(List.range i).all (Qd c i))) ⟨σ1,Stp.refl hs1,by simp⟩ fun n x w2 d hn2 hinv=>?_
 obtain ⟨σ2,hk2,rfl⟩:=hinv
 have hq2:=hq.up hk2
 have g12:=g1.up hk2
 have hs2:=hk2.sat
 (repeat refine Hd.h ?_)
 refine ld hs2 hq2 rfl ?_
 refine Q8 g12 ?_
 refine Z1 ?_
 refine Q7 (fun hc=>?_) (fun hc=>?_)
 ·have hn':n<c.like.length:=by simpa using hc
  have hnx:(ok&&(List.range (n+1)).all fun i=>Mi c i&&(List.range i).all (Qd c i))=((ok&&(List.range n).all fun i=>Mi c i&&(List.range i).all (Qd c i))&&(Mi c n&&(List.range n).all (Qd c n))):=by rw[Ly,Bool.and_assoc]
  have hP:Mi c n=(M9 c.like[n]&& !decide (c.like[n]=c.name)):=by unfold Mi;rw[C3 hn']
  obtain ⟨p1,p2⟩:=g12.elS hn'
  have p2:c.like[n].length≤140737488355328:=by simp only[U1] at p2;omega
  generalize (ok&&(List.range n).all fun i=>Mi c i&&(List.range i).all (Qd c i))=acc at hnx⊢
  clear h hc
  cases hacc:acc with
  | false=>
   refine J9 hs2 ?_
   (repeat refine J3 Qe ?_)
   intros;(repeat (rename_i hx;subst hx))
   rename_i w3 hb3
   (repeat refine Hd.h ?_)
   refine Q3X hb3.sat hq2 g12 hn' fun w4 σ4 hk4=>?_
   exact J4 hmax hn' ⟨σ4,hk2.trans (hb3.stp.trans hk4),by rw[hnx,hacc];rfl⟩
  | true=>
   cases hcl:M9 c.like[n] with
   | false=>
    refine J9 hs2 ?_
    have hrc: ∀{w':World} {K:Value→World→Prop},K (.bool false) w'→Q1 P F.d [S c.like[n]] w' K:=fun hK=>Yf _ p2 (by rw[hcl];exact hK)
    (repeat (apply J3;(· intros;(repeat (rename_i hx;subst hx));(repeat' (first | (with_reducible exact M5 rfl) | (with_reducible exact R8 (Stp.bel (by (repeat (first | exact Stp.refl (by (first | assumption | exact Stp.sat (by assumption) | exact Hst.sat (by assumption))) | assumption | refine Stp.trans ?_ (by first | assumption | exact Hst.stp (by assumption)))))) rfl) | (with_reducible intro _) | (simp only[↓M2,M2,Mb,reduceIte]) | (with_reducible refine hrc ?_) | (with_reducible show Q2 _ _ _ _ _;first | refine X7 aS aL aR ?_ | refine Y2 aS aL aR ?_ | refine ld aS aL aR ?_) | (with_reducible show indexAddr _ _ _ _ _ _;refine Y1 aL au ?_) | (with_reducible show X2 _ _ _ _ _ _ _ _;refine Q8 aL ?_) | (with_reducible show F2 _ _ _ _ _ _;refine Z9 aR ?_) | (with_reducible show pick _ _ _ _ _ _;refine L8 ?_) | (apply F4;intro hh;(try simp only[hh,reduceIte,↓M2,M2,Mb,reduceIte]))));done)))
    intros;(repeat (rename_i hx;subst hx))
    rename_i w3 hb3
    (repeat refine Hd.h ?_)
    refine Q3X hb3.sat hq2 g12 hn' fun w4 σ4 hk4=>?_
    exact J4 hmax hn' ⟨σ4,hk2.trans (hb3.stp.trans hk4),by rw[hnx,hacc,hP,hcl];rfl⟩
   | true=>
    refine J9 hs2 ?_
    have hrc: ∀{w':World} {K:Value→World→Prop},K (.bool true) w'→Q1 P F.d [S c.like[n]] w' K:=fun hK=>Yf _ p2 (by rw[hcl];exact hK)
    (repeat (apply J3;(· intros;(repeat (rename_i hx;subst hx));(repeat' (first | (with_reducible exact M5 rfl) | (with_reducible exact R8 (Stp.bel (by (repeat (first | exact Stp.refl (by (first | assumption | exact Stp.sat (by assumption) | exact Hst.sat (by assumption))) | assumption | refine Stp.trans ?_ (by first | assumption | exact Hst.stp (by assumption)))))) rfl) | (with_reducible intro _) | (simp only[↓M2,M2,Mb,reduceIte]) | (with_reducible refine hrc ?_) | (with_reducible show Q2 _ _ _ _ _;first | refine X7 aS aL aR ?_ | refine Y2 aS aL aR ?_ | refine ld aS aL aR ?_) | (with_reducible show indexAddr _ _ _ _ _ _;refine Y1 aL au ?_) | (with_reducible show X2 _ _ _ _ _ _ _ _;refine Q8 aL ?_) | (with_reducible show F2 _ _ _ _ _ _;refine Z9 aR ?_) | (with_reducible show pick _ _ _ _ _ _;refine L8 ?_) | (apply F4;intro hh;(try simp only[hh,reduceIte,↓M2,M2,Mb,reduceIte]))));done)))
    intros;(repeat (rename_i hx;subst hx))
    rename_i w3 hb3
    (repeat refine Hd.h ?_)
    refine Zz ?_
    (repeat refine Hd.h ?_)
    refine Q3X hb3.sat hq2 g12 hn' fun w4 σ4 hk4=>?_
    exact J4 hmax hn' ⟨σ4,hk2.trans (hb3.stp.trans hk4),by rw[hnx,hacc,hP,hcl];simp⟩
 ·have hn': ¬n<c.like.length:=by simpa using hc
  obtain rfl:n=c.like.length:=by omega
  exact h _ _ hk2
set_option maxHeartbeats 2000000 in
theorem Q3h {c:Cla} {lv fv mv:Value} {w1:World} {σ1:Q6} {q:Addr} {ok:Bool} (ai:X3 w1 σ1) (hq:Z4 σ1 q [S c.name,S c.super,lv, .bool c.iface, .bool c.abs, .bool c.fin,fv,mv]) {i:Nat} {N m0:Nat} {X:Nat→Value→World→Prop} (g2:Sl 3 S2 σ1 fv c.fields) (hi:i<c.fields.length)
 (h: ∀w' σ',Stp w1 σ1 w' σ'→Bv N X (Value.bool (ok&&(List.range i).all (Xx c i)), .int .i64 (IntKind.i64.wrap (i+1))) w'∧Nk N (Value.bool (ok&&(List.range i).all (Xx c i)), .int .i64 (IntKind.i64.wrap (i+1)))<m0):
 lp (α:=Value×Value) (Value.bool ok,(.int .i64 0)) w1 fun Q b d_ w=>
  Q3 P .lss T.d (.tmp 102) (.tmp 103) b.2 (I i) w fun ad w=>
  X1 ad (
   dr w fun e H=>
   Q4 e (fun B=> ∀w:World,H w→Q0 b.1 true w (fieldAddr P T.b (.pointer (some q)) 6) (dk e B w)) fun B=>
   Q4 e (fun f=> ∀w:World,H w→Q0 b.1 true w (fun w J=>J b.2 w) (dk e f w)) fun f=>
   Q4 e (fun p=> ∀w:World,H w→Q0 b.1 true w (fieldAddr P T.b (.pointer (some q)) 6) (dk e p w)) fun p=>
   Q4 e (fun E=> ∀w:World,H w→Q0 b.1 true w (fun w J=>J (I i) w) (dk e E w)) fun E=>
   Q4 e (fun v=> ∀r:Value,∀w:World,H w→B r w→Q0 b.1 true w (Q2 P T.k r) (dk e v w)) fun v=>
   Q4 e (fun y=> ∀n:Value,∀C:Value,∀w:World,H w→v n w→f C w→Q0 b.1 true w (indexAddr P T.k n C) (dk e y w)) fun y=>
   Q4 e (fun g=> ∀j:Value,∀w:World,H w→y j w→Q0 b.1 true w (fieldAddr P T.o j 0) (dk e g w)) fun g=>
   Q4 e (fun O=> ∀o:Value,∀w:World,H w→g o w→Q0 b.1 true w (Q2 P T.c o) (dk e O w)) fun O=>
   Q4 e (fun D=> ∀A:Value,∀w:World,H w→p A w→Q0 b.1 true w (Q2 P T.k A) (dk e D w)) fun D=>
   Q4 e (fun l=> ∀s:Value,∀m:Value,∀w:World,H w→D s w→E m w→Q0 b.1 true w (indexAddr P T.k s m) (dk e l w)) fun l=>
   Q4 e (fun z=> ∀t:Value,∀w:World,H w→l t w→Q0 b.1 true w (fieldAddr P T.o t 0) (dk e z w)) fun z=>
   Q4 e (fun M=> ∀u:Value,∀w:World,H w→z u w→Q0 b.1 true w (Q2 P T.c u) (dk e M w)) fun M=>
   ∀r:Value,∀C:Value,∀A:Value,∀m:Value,∀n:Value,∀j:Value,∀o:Value,∀U:Value,∀s:Value,∀t:Value,∀u:Value,∀R:Value,∀w:World,H w→B r w→f C w→p A w→E m w→v n w→y j w→g o w→O U w→D s w→l t w→z u w→M R w→
   Q0 b.1 true w (Q3 P .neq T.c (.tmp 114) (.tmp 120) U R) fun W w=>
   pick P b.1 W (.bool false) w fun ab w=>
   Q3 P .add T.d (.tmp 105) (.const (.int .i64 1)) b.2 (.int .i64 1) w fun Z w=>
   Q (ab,Z) w) (
   Q3 P .add T.d (.tmp 76) (.const (.int .i64 1)) (I i) (.int .i64 1) w fun aa w=>
   (Bv N X (b.1,aa) w∧Nk N (b.1,aa)<m0)):=by
 have ao:=g2.max
 refine E7 (a:=Value.bool ok) i (fun k x w'=> ∃σ',Stp w1 σ1 w' σ'∧x=Value.bool (ok&&(List.range k).all (Xx c i))) ⟨σ1,Stp.refl ai,by simp⟩ fun k x w2 d hk Y=>?_
 obtain ⟨σ2,L,rfl⟩:=Y
 have ay:=hq.up L
 have ac:=g2.up L
 have ak:=L.sat
 refine Z1 ?_
 refine Q7 (fun hc=>?_) (fun hc=>?_)
 ·have ag:k<i:=by simpa using hc
  have ae:k<c.fields.length:=by omega
  have V:(ok&&(List.range (k+1)).all (Xx c i))=((ok&&(List.range k).all (Xx c i))&&Xx c i k):=by rw[Ly,Bool.and_assoc]
  have hQ:Xx c i k= !decide (c.fields[k].name=c.fields[i].name):=by unfold Xx Bh;rw[C3 ae,C3 hi]
  rw[hQ] at V
  obtain ⟨p1,_⟩:=ac.elF ae
  obtain ⟨p2,_⟩:=ac.elF hi
  generalize (ok&&(List.range k).all (Xx c i))=aj at V⊢
  clear h hQ hc
  cases aj
  all_goals
   refine J9 ak ?_
   (repeat refine J3 Qe ?_)
   (intros;(repeat (rename_i hx;subst hx));(try simp only[↓M2,M2,Mb,reduceIte]))
   rename_i w3 al
   exact J4 (by omega) ag ⟨σ2,L.trans al.stp,by rw[V];rfl⟩
 ·have ah:k=i:=by
   have: ¬k<i:=by simpa using hc
   omega
  subst ah
  (try simp only[↓M1,M1,Mb,reduceIte])
  exact h _ _ L
set_option maxHeartbeats 4000000 in
theorem X2d {c:Cla} {lv fv mv:Value} {w1:World} {σ1:Q6} {q:Addr} {ok:Bool} (a5:X3 w1 σ1) (hq:Z4 σ1 q [S c.name,S c.super,lv, .bool c.iface, .bool c.abs, .bool c.fin,fv,mv]) {J:Value→World→Prop} (g2:Sl 3 S2 σ1 fv c.fields)
 (h: ∀w' σ',Stp w1 σ1 w' σ'→J (.bool (ok&&(List.range c.fields.length).all fun i=>Dr c i&&(List.range i).all (Xx c i))) w'):
 lp (
  α:=Value×Value) (Value.bool ok,(.int .i64 0)) w1 fun ac g d_ w=>
  fieldAddr P T.b (.pointer (some q)) 6 w fun bj w=>
  Q2 P T.k bj w fun a7 w=>
  X2 P .len [T.k] T.d [false] [a7] w fun a0 w=>
  Q3 P .lss T.d (.tmp 71) (.tmp 74) g.2 a0 w fun a3 w=>
  X1 a3 (
   Q0 g.1 true w (fieldAddr P T.b (.pointer (some q)) 6) fun bb w=>
   Q0 g.1 true w (Q2 P T.k bb) fun aw w=>
   Q0 g.1 true w (fun w J=>J g.2 w) fun a9 w=>
   Q0 g.1 true w (indexAddr P T.k aw a9) fun a6 w=>
   Q0 g.1 true w (fieldAddr P T.o a6 0) fun ax w=>
   Q0 g.1 true w (Q2 P T.c ax) fun bd w=>
   Q0 g.1 true w (Q1 P F.u [bd]) fun bi w=>
   pick P g.1 bi (.bool false) w fun p w=>
   Q0 p true w (fieldAddr P T.b (.pointer (some q)) 6) fun av w=>
   Q0 p true w (Q2 P T.k av) fun ar w=>
   Q0 p true w (fun w J=>J g.2 w) fun bg w=>
   Q0 p true w (indexAddr P T.k ar bg) fun a2 w=>
   Q0 p true w (fieldAddr P T.o a2 1) fun bf w=>
   Q0 p true w (Q2 P T.c bf) fun a1 w=>
   Q0 p true w (Q1 P F.e [a1]) fun bc w=>
   pick P p bc (.bool false) w fun ae w=>
   Q0 ae true w (fieldAddr P T.b (.pointer (some q)) 3) fun az w=>
   Q0 ae true w (Q2 P T.u az) fun a4 w=>
   Q0 ae true w (J8 P .not a4) fun ao w=>
   pick P ae ao (.bool false) w fun ak w=>
   lp (α:=Value×Value) (ak,(.int .i64 0)) w fun ad f d_ w=>
    Q3 P .lss T.d (.tmp 102) (.tmp 103) f.2 g.2 w fun ap w=>
    X1 ap (
     dr w fun k Y=>
     Q4 k (fun U=> ∀w:World,Y w→Q0 f.1 true w (fieldAddr P T.b (.pointer (some q)) 6) (dk k U w)) fun U=>
     Q4 k (fun t=> ∀w:World,Y w→Q0 f.1 true w (fun w J=>J f.2 w) (dk k t w)) fun t=>
     Q4 k (fun D=> ∀w:World,Y w→Q0 f.1 true w (fieldAddr P T.b (.pointer (some q)) 6) (dk k D w)) fun D=>
     Q4 k (fun X=> ∀w:World,Y w→Q0 f.1 true w (fun w J=>J g.2 w) (dk k X w)) fun X=>
     Q4 k (fun N=> ∀E:Value,∀w:World,Y w→U E w→Q0 f.1 true w (Q2 P T.k E) (dk k N w)) fun N=>
     Q4 k (fun O=> ∀B:Value,∀V:Value,∀w:World,Y w→N B w→t V w→Q0 f.1 true w (indexAddr P T.k B V) (dk k O w)) fun O=>
     Q4 k (fun u=> ∀v:Value,∀w:World,Y w→O v w→Q0 f.1 true w (fieldAddr P T.o v 0) (dk k u w)) fun u=>
     Q4 k (fun ab=> ∀C:Value,∀w:World,Y w→u C w→Q0 f.1 true w (Q2 P T.c C) (dk k ab w)) fun ab=>
     Q4 k (fun W=> ∀R:Value,∀w:World,Y w→D R w→Q0 f.1 true w (Q2 P T.k R) (dk k W w)) fun W=>
     Q4 k (fun y=> ∀H:Value,∀z:Value,∀w:World,Y w→W H w→X z w→Q0 f.1 true w (indexAddr P T.k H z) (dk k y w)) fun y=>
     Q4 k (fun Q=> ∀L:Value,∀w:World,Y w→y L w→Q0 f.1 true w (fieldAddr P T.o L 0) (dk k Q w)) fun Q=>
     Q4 k (fun Z=> ∀M:Value,∀w:World,Y w→Q M w→Q0 f.1 true w (Q2 P T.c M) (dk k Z w)) fun Z=>
     ∀E:Value,∀V:Value,∀R:Value,∀z:Value,∀B:Value,∀v:Value,∀C:Value,∀ag:Value,∀H:Value,∀L:Value,∀M:Value,∀af:Value,∀w:World,Y w→U E w→t V w→D R w→X z w→N B w→O v w→u C w→ab ag w→W H w→y L w→Q M w→Z af w→
     Q0 f.1 true w (Q3 P .neq T.c (.tmp 114) (.tmp 120) ag af) fun aj w=>
     pick P f.1 aj (.bool false) w fun an w=>
     Q3 P .add T.d (.tmp 105) (.const (.int .i64 1)) f.2 (.int .i64 1) w fun am w=>
     ad (an,am) w) (
     Q3 P .add T.d (.tmp 76) (.const (.int .i64 1)) g.2 (.int .i64 1) w fun ba w=>
     ac (f.1,ba) w)) (
   J g.1 w):=by
 have A:=g2.max
 refine E7 (a:=Value.bool ok) c.fields.length (fun n x w'=> ∃σ',Stp w1 σ1 w' σ'∧x=Value.bool (ok&&(List.range n).all fun i=>Dr c i&&(List.range i).all (Xx c i))) ⟨σ1,Stp.refl a5,by simp⟩ fun n x w2 d bs al=>?_
 obtain ⟨σ2,m,rfl⟩:=al
 have o:=hq.up m
 have r:=g2.up m
 have l:=m.sat
 (repeat refine Hd.h ?_)
 refine ld l o rfl ?_
 refine Q8 r ?_
 refine Z1 ?_
 refine Q7 (fun hc=>?_) (fun hc=>?_)
 ·have j:n<c.fields.length:=by simpa using hc
  have aa:(ok&&(List.range (n+1)).all fun i=>Dr c i&&(List.range i).all (Xx c i))=((ok&&(List.range n).all fun i=>Dr c i&&(List.range i).all (Xx c i))&&(Dr c n&&(List.range n).all (Xx c n))):=by rw[Ly,Bool.and_assoc]
  have hP:Dr c n=(E2 c.fields[n].name&&right c.fields[n].kind&& !c.iface):=by unfold Dr Bh;rw[C3 j]
  obtain ⟨p1,r1⟩:=r.elF j
  have b1:c.fields[n].name.length≤140737488355328:=by have:=r1.2.1;simp only[U1] at this;omega
  have b2:c.fields[n].kind.length≤140737488355328:=by have:=r1.2.2;simp only[U1] at this;omega
  generalize (ok&&(List.range n).all fun i=>Dr c i&&(List.range i).all (Xx c i))=ai at aa⊢
  clear h hc
  have step: ∀b,b=(ai&&Dr c n)→(ai&&(Dr c n&&(List.range n).all (Xx c n)))=(b&&(List.range n).all (Xx c n)):=fun b e=>by rw[e,Bool.and_assoc]
  cases ai with
  | false=>
   (repeat refine Hd.h ?_)
   refine Q3h l o r j fun w4 σ4 s=>?_
   exact J4 A j ⟨σ4,m.trans s,by rw[aa];rfl⟩
  | true=>
   (repeat refine Hd.h ?_)
   refine ld l o rfl ?_
   (repeat refine Hd.h ?_)
   refine Y1 r j ?_
   (repeat refine Hd.h ?_)
   refine ld l p1 rfl ?_
   (repeat refine Hd.h ?_)
   refine Ig _ b1 ?_
   cases d1:E2 c.fields[n].name with
   | false=>
    (repeat refine Hd.h ?_)
    refine Q3h l o r j fun w4 σ4 s=>?_
    exact J4 A j ⟨σ4,m.trans s,by rw[aa,step false (by rw[hP,d1];rfl)]⟩
   | true=>
    (repeat refine Hd.h ?_)
    refine ld l o rfl ?_
    (repeat refine Hd.h ?_)
    refine Y1 r j ?_
    (repeat refine Hd.h ?_)
    refine ld l p1 rfl ?_
    (repeat refine Hd.h ?_)
    refine Jw _ b2 ?_
    cases d2:right c.fields[n].kind with
    | false=>
     (repeat refine Hd.h ?_)
     refine Q3h l o r j fun w4 σ4 s=>?_
     exact J4 A j ⟨σ4,m.trans s,by rw[aa,step false (by rw[hP,d1,d2];rfl)]⟩
    | true=>
     (repeat refine Hd.h ?_)
     refine ld l o rfl ?_
     (repeat refine Hd.h ?_)
     refine Q3h l o r j fun w4 σ4 s=>?_
     exact J4 A j ⟨σ4,m.trans s,by rw[aa,step (!c.iface) (by rw[hP,d1,d2];rfl)]⟩
 ·have j: ¬n<c.fields.length:=by simpa using hc
  obtain rfl:n=c.fields.length:=by omega
  exact h _ _ m
set_option maxHeartbeats 2000000 in
theorem Si {c:Cla} {lv fv mv:Value} {w1:World} {σ1:Q6} {q:Addr} {ok:Bool} (ab:X3 w1 σ1) (hq:Z4 σ1 q [S c.name,S c.super,lv, .bool c.iface, .bool c.abs, .bool c.fin,fv,mv]) {i:Nat} {q9:Addr} {pv cv hv:Value} {N m0:Nat} {M:Nat→Value→World→Prop} (g3:Sl 7 H0 σ1 mv c.methods) (hi:i<c.methods.length) (X:Z4 σ1 q9 [S c.methods[i].name,pv,S c.methods[i].result, .bool c.methods[i].abs,I c.methods[i].locals,cv,hv])
 (h: ∀w' σ',Stp w1 σ1 w' σ'→Bv N M (Value.bool (ok&&(List.range i).all (Xy c i)), .int .i64 (IntKind.i64.wrap (i+1))) w'∧Nk N (Value.bool (ok&&(List.range i).all (Xy c i)), .int .i64 (IntKind.i64.wrap (i+1)))<m0):
 lp (α:=Value×Value) (Value.bool ok,(.int .i64 0)) w1 fun y b d_ w=>
  Q3 P .lss T.d (.tmp 158) (.tmp 159) b.2 (I i) w fun V w=>
  X1 V (
   dr w fun e B=>
   Q4 e (fun s=> ∀w:World,B w→Q0 b.1 true w (fieldAddr P T.b (.pointer (some q)) 7) (dk e s w)) fun s=>
   Q4 e (fun f=> ∀w:World,B w→Q0 b.1 true w (fun w J=>J b.2 w) (dk e f w)) fun f=>
   Q4 e (fun t=> ∀w:World,B w→Q0 b.1 true w (fieldAddr P T.e (.pointer (some q9)) 0) (dk e t w)) fun t=>
   Q4 e (fun l=> ∀p:Value,∀w:World,B w→s p w→Q0 b.1 true w (Q2 P T.j p) (dk e l w)) fun l=>
   Q4 e (fun r=> ∀g:Value,∀n:Value,∀w:World,B w→l g w→f n w→Q0 b.1 true w (indexAddr P T.j g n) (dk e r w)) fun r=>
   Q4 e (fun m=> ∀o:Value,∀w:World,B w→r o w→Q0 b.1 true w (fieldAddr P T.e o 0) (dk e m w)) fun m=>
   Q4 e (fun A=> ∀u:Value,∀w:World,B w→m u w→Q0 b.1 true w (Q2 P T.c u) (dk e A w)) fun A=>
   Q4 e (fun z=> ∀j:Value,∀w:World,B w→t j w→Q0 b.1 true w (Q2 P T.c j) (dk e z w)) fun z=>
   ∀p:Value,∀n:Value,∀j:Value,∀g:Value,∀o:Value,∀u:Value,∀E:Value,∀C:Value,∀w:World,B w→s p w→f n w→t j w→l g w→r o w→m u w→A E w→z C w→
   Q0 b.1 true w (Q3 P .neq T.c (.tmp 170) (.tmp 172) E C) fun R w=>
   pick P b.1 R (.bool false) w fun L w=>
   Q3 P .add T.d (.tmp 161) (.const (.int .i64 1)) b.2 (.int .i64 1) w fun O w=>
   y (L,O) w) (
   Q3 P .add T.d (.tmp 128) (.const (.int .i64 1)) (I i) (.int .i64 1) w fun D w=>
   (Bv N M (b.1,D) w∧Nk N (b.1,D)<m0)):=by
 have ag:=g3.max
 refine E7 (a:=Value.bool ok) i (fun k x w'=> ∃σ',Stp w1 σ1 w' σ'∧x=Value.bool (ok&&(List.range k).all (Xy c i))) ⟨σ1,Stp.refl ab,by simp⟩ fun k x w2 d hk Q=>?_
 obtain ⟨σ2,v,rfl⟩:=Q
 have ar:=hq.up v
 have al:=X.up v
 have Y:=g3.up v
 have ad:=v.sat
 refine Z1 ?_
 refine Q7 (fun W=>?_) (fun W=>?_)
 ·have Z:k<i:=by simpa using W
  have U:k<c.methods.length:=by omega
  have H:(ok&&(List.range (k+1)).all (Xy c i))=((ok&&(List.range k).all (Xy c i))&&Xy c i k):=by rw[Ly,Bool.and_assoc]
  have hQ:Xy c i k= !decide (c.methods[k].name=c.methods[i].name):=by unfold Xy Rl;rw[C3 U,C3 hi]
  rw[hQ] at H
  obtain ⟨ay,am,ao,p1,_⟩:=Y.elM U
  generalize (ok&&(List.range k).all (Xy c i))=ac at H⊢
  clear h hQ W
  cases ac
  all_goals
   refine J9 ad ?_
   (repeat refine J3 Qe ?_)
   (intros;(repeat (rename_i hx;subst hx));(try simp only[↓M2,M2,Mb,reduceIte]))
   rename_i w3 ae
   exact J4 (by omega) Z ⟨σ2,v.trans ae.stp,by rw[H];rfl⟩
 ·have aa:k=i:=by
   have: ¬k<i:=by simpa using W
   omega
  subst aa
  (try simp only[↓M1,M1,Mb,reduceIte])
  exact h _ _ v
set_option maxHeartbeats 4000000 in
theorem X27 {c:Cla} {lv fv mv:Value} {w1:World} {σ1:Q6} {q:Addr} {ok:Bool} (br:X3 w1 σ1) (hq:Z4 σ1 q [S c.name,S c.super,lv, .bool c.iface, .bool c.abs, .bool c.fin,fv,mv]) {J:Value→World→Prop} (g3:Sl 7 H0 σ1 mv c.methods)
 (h: ∀w' σ',Stp w1 σ1 w' σ'→J (.bool (ok&&(List.range c.methods.length).all fun i=>Nn c i&&(List.range i).all (Xy c i))) w'):
 lp (α:=Value×Value) (Value.bool ok,(.int .i64 0)) w1 fun V u d_ w=>
  fieldAddr P T.b (.pointer (some q)) 7 w fun bb w=>
  Q2 P T.j bb w fun a6 w=>
  X2 P .len [T.j] T.d [false] [a6] w fun ay w=>
  Q3 P .lss T.d (.tmp 123) (.tmp 126) u.2 ay w fun av w=>
  X1 av (
   fieldAddr P T.b (.pointer (some q)) 7 w fun bp w=>
   Q2 P T.j bp w fun ar w=>
   indexAddr P T.j ar u.2 w fun a5 w=>
   Q2 P T.e a5 w fun aq w=>
   W0 P T.e w fun t9 w=>
   Y0 P T.e t9 aq w fun _u w=>
   Q0 u.1 true w (Q2 P T.e t9) fun a4 w=>
   Q0 u.1 true w (Q1 P F.a5 [a4]) fun a2 w=>
   pick P u.1 a2 (.bool false) w fun s w=>
   Q0 s true w (fieldAddr P T.e t9 3) fun bm w=>
   Q0 s true w (Q2 P T.u bm) fun bg w=>
   Q0 s true w (J8 P .not bg) fun a7 w=>
   Q0 s true w (fun w J=>J a7 w) fun X w=>
   Q0 X false w (fieldAddr P T.b (.pointer (some q)) 4) fun bh w=>
   Q0 X false w (Q2 P T.u bh) fun bn w=>
   Q0 s true w (pick P X (.bool true) bn) fun be w=>
   pick P s be (.bool false) w fun r w=>
   Q0 r true w (fieldAddr P T.b (.pointer (some q)) 3) fun bc w=>
   Q0 r true w (Q2 P T.u bc) fun a8 w=>
   Q0 r true w (J8 P .not a8) fun bl w=>
   Q0 r true w (fun w J=>J bl w) fun W w=>
   Q0 W false w (fieldAddr P T.e t9 3) fun a0 w=>
   Q0 W false w (Q2 P T.u a0) fun a3 w=>
   Q0 r true w (pick P W (.bool true) a3) fun bj w=>
   pick P r bj (.bool false) w fun ax w=>
   lp (α:=Value×Value) (ax,(.int .i64 0)) w fun ab k d_ w=>
    Q3 P .lss T.d (.tmp 158) (.tmp 159) k.2 u.2 w fun bo w=>
    X1 bo (
     dr w fun y Br=>
     Q4 y (fun O=> ∀w:World,Br w→Q0 k.1 true w (fieldAddr P T.b (.pointer (some q)) 7) (dk y O w)) fun O=>
     Q4 y (fun z=> ∀w:World,Br w→Q0 k.1 true w (fun w J=>J k.2 w) (dk y z w)) fun z=>
     Q4 y (fun Q=> ∀w:World,Br w→Q0 k.1 true w (fieldAddr P T.e t9 0) (dk y Q w)) fun Q=>
     Q4 y (fun C=> ∀N:Value,∀w:World,Br w→O N w→Q0 k.1 true w (Q2 P T.j N) (dk y C w)) fun C=>
     Q4 y (fun D=> ∀E:Value,∀L:Value,∀w:World,Br w→C E w→z L w→Q0 k.1 true w (indexAddr P T.j E L) (dk y D w)) fun D=>
     Q4 y (fun H=> ∀M:Value,∀w:World,Br w→D M w→Q0 k.1 true w (fieldAddr P T.e M 0) (dk y H w)) fun H=>
     Q4 y (fun ad=> ∀B:Value,∀w:World,Br w→H B w→Q0 k.1 true w (Q2 P T.c B) (dk y ad w)) fun ad=>
     Q4 y (fun ac=> ∀A:Value,∀w:World,Br w→Q A w→Q0 k.1 true w (Q2 P T.c A) (dk y ac w)) fun ac=>
     ∀N:Value,∀L:Value,∀A:Value,∀E:Value,∀M:Value,∀B:Value,∀aj:Value,∀ah:Value,∀w:World,Br w→O N w→z L w→Q A w→C E w→D M w→H B w→ad aj w→ac ah w→
     Q0 k.1 true w (Q3 P .neq T.c (.tmp 170) (.tmp 172) aj ah) fun bi w=>
     pick P k.1 bi (.bool false) w fun ba w=>
     Q3 P .add T.d (.tmp 161) (.const (.int .i64 1)) k.2 (.int .i64 1) w fun aw w=>
     ab (ba,aw) w) (
     Q3 P .add T.d (.tmp 128) (.const (.int .i64 1)) u.2 (.int .i64 1) w fun az w=>
     V (k.1,az) w)) (
   J u.1 w):=by
 have o:=g3.max
 refine E7 (a:=Value.bool ok) c.methods.length (fun n x w'=> ∃σ',Stp w1 σ1 w' σ'∧x=Value.bool (ok&&(List.range n).all fun i=>Nn c i&&(List.range i).all (Xy c i))) ⟨σ1,Stp.refl br,by simp⟩ fun n x w2 d b3 bd=>?_
 obtain ⟨σ2,aa,rfl⟩:=bd
 have an:=hq.up aa
 have af:=g3.up aa
 have ae:=aa.sat
 (repeat refine Hd.h ?_)
 refine ld ae an rfl ?_
 refine Q8 af ?_
 refine Z1 ?_
 refine Q7 (fun hc=>?_) (fun hc=>?_)
 ·have f:n<c.methods.length:=by simpa using hc
  have v:(ok&&(List.range (n+1)).all fun i=>Nn c i&&(List.range i).all (Xy c i))=((ok&&(List.range n).all fun i=>Nn c i&&(List.range i).all (Xy c i))&&(Nn c n&&(List.range n).all (Xy c n))):=by rw[Ly,Bool.and_assoc]
  have hP:Nn c n=(K1 c.methods[n]&&(!c.methods[n].abs||c.abs)&&(!c.iface||c.methods[n].abs)):=by unfold Nn Rl;rw[C3 f]
  obtain ⟨pv,cv,hv,p1,r1⟩:=af.elM f
  generalize (ok&&(List.range n).all fun i=>Nn c i&&(List.range i).all (Xy c i))=al at v⊢
  clear h hc
  have step: ∀b,b=(al&&Nn c n)→(al&&(Nn c n&&(List.range n).all (Xy c n)))=(b&&(List.range n).all (Xy c n)):=fun b e=>by rw[e,Bool.and_assoc]
  (repeat refine Hd.h ?_)
  refine ld ae an rfl ?_
  refine Y1 af f ?_
  refine Y2 ae p1 rfl ?_
  refine Y7 ae (by rfl) rfl (Rep.one r1) fun q9 w3 σ3 Y ak=>?_
  have ao:=Y.sat
  have a1:=an.up Y
  have a9:=af.up Y
  have r3:=RMe_lift r1 ⟨Y.le⟩
  have ai:=aa.trans Y
  cases al with
  | false=>
   (repeat refine Hd.h ?_)
   refine Si ao a1 a9 f ak fun w4 U l=>?_
   exact J4 o f ⟨U,ai.trans l,by rw[v];rfl⟩
  | true=>
   (repeat refine Hd.h ?_)
   refine Y2 ao ak rfl ?_
   (repeat refine Hd.h ?_)
   refine Q8p ao r3 fun w5 σ5 Z=>?_
   have m:=Z.sat
   have t:=a1.up Z
   have g:=ak.up Z
   have R:=a9.up Z
   have p:=ai.trans Z
   cases d1:K1 c.methods[n] with
   | false=>
    (repeat refine Hd.h ?_)
    refine Si m t R f g fun w4 U l=>?_
    exact J4 o f ⟨U,p.trans l,by rw[v,step false (by rw[hP,d1];rfl)]⟩
   | true=>
    (repeat refine Hd.h ?_)
    refine ld m g rfl ?_
    (repeat refine Hd.h ?_)
    have j: ∀b1:Bool,b1=(!c.methods[n].abs||c.abs)→Nn c n=(b1&&(!c.iface||c.methods[n].abs)):=fun b1 e=>by rw[hP,d1,e];rfl
    cases d2:c.methods[n].abs with
    | false=>
     rw[d2] at j g
     simp only[Bool.not_true,Bool.not_false]
     (repeat refine Hd.h ?_)
     refine ld m t rfl ?_
     (repeat refine Hd.h ?_)
     cases d4:c.iface with
     | false=>
      simp only[Bool.not_true,Bool.not_false]
      (repeat refine Hd.h ?_)
      refine Si m t R f (by rw[d2];exact g) fun w4 U l=>?_
      exact J4 o f ⟨U,p.trans l,by rw[v,step true (by rw[j true rfl,d4];rfl)]⟩
     | true=>
      simp only[Bool.not_true,Bool.not_false]
      (repeat refine Hd.h ?_)
      refine ld m g rfl ?_
      (repeat refine Hd.h ?_)
      refine Si m t R f (by rw[d2];exact g) fun w4 U l=>?_
      exact J4 o f ⟨U,p.trans l,by rw[v,step false (by rw[j true rfl,d4];rfl)]⟩
    | true=>
     rw[d2] at j g
     simp only[Bool.not_true,Bool.not_false]
     (repeat refine Hd.h ?_)
     refine ld m t rfl ?_
     cases d3:c.abs with
     | false=>
      (repeat refine Hd.h ?_)
      refine Si m t R f (by rw[d2];exact g) fun w4 U l=>?_
      exact J4 o f ⟨U,p.trans l,by rw[v,step false (by rw[j false (by rw[d3];rfl)];rfl)]⟩
     | true=>
      (repeat refine Hd.h ?_)
      refine ld m t rfl ?_
      (repeat refine Hd.h ?_)
      cases d4:c.iface with
      | false=>
       simp only[Bool.not_true,Bool.not_false]
       (repeat refine Hd.h ?_)
       refine Si m t R f (by rw[d2];exact g) fun w4 U l=>?_
       exact J4 o f ⟨U,p.trans l,by rw[v,step true (by rw[j true (by rw[d3];rfl),d4];rfl)]⟩
      | true=>
       simp only[Bool.not_true,Bool.not_false]
       (repeat refine Hd.h ?_)
       refine ld m g rfl ?_
       (repeat refine Hd.h ?_)
       refine Si m t R f (by rw[d2];exact g) fun w4 U l=>?_
       exact J4 o f ⟨U,p.trans l,by rw[v,step true (by rw[j true (by rw[d3];rfl),d4];rfl)]⟩
 ·have f: ¬n<c.methods.length:=by simpa using hc
  obtain rfl:n=c.methods.length:=by omega
  exact h _ _ aa
theorem X2w {c:Cla} {H M mv:Value} {w1:World} {σ1:Q6} {q:Addr} {ok:Bool} (d:X3 w1 σ1) (g:Z4 σ1 q [S c.name,S c.super,H, .bool c.iface, .bool c.abs, .bool c.fin,M,mv]) (h:K (.bool (ok&&Q8E c)) w1):
 Q0 (Value.bool ok) true w1 (fieldAddr P T.b (.pointer (some q)) 3) fun o w=>
  Q0 (Value.bool ok) true w (Q2 P T.u o) fun m w=>
  Q0 (Value.bool ok) true w (J8 P .not m) fun B w=>
  Q0 (Value.bool ok) true w (fun w J=>J B w) fun b w=>
  Q0 b false w (fieldAddr P T.b (.pointer (some q)) 4) fun k w=>
  Q0 b false w (Q2 P T.u k) fun l w=>
  Q0 b false w (fun w J=>J l w) fun e w=>
  Q0 e true w (fieldAddr P T.b (.pointer (some q)) 1) fun s w=>
  Q0 e true w (Q2 P T.c s) fun n w=>
  Q0 e true w (Q3 P .eql T.c (.tmp 185) (.const (.string ⟨#[79,98,106,101,99,116]⟩)) n (.string ⟨#[79,98,106,101,99,116]⟩)) fun C w=>
  Q0 b false w (pick P e C (.bool false)) fun A w=>
  Q0 (Value.bool ok) true w (pick P b (.bool true) A) fun r w=>
  pick P (Value.bool ok) r (.bool false) w fun a w=>
  Q0 a true w (fieldAddr P T.b (.pointer (some q)) 4) fun u w=>
  Q0 a true w (Q2 P T.u u) fun y w=>
  Q0 a true w (fun w J=>J y w) fun f w=>
  Q0 f true w (fieldAddr P T.b (.pointer (some q)) 5) fun v w=>
  Q0 f true w (Q2 P T.u v) fun p w=>
  Q0 a true w (pick P f p (.bool false)) fun j w=>
  Q0 a true w (J8 P .not j) fun z w=>
  pick P a z (.bool false) w fun t w=>
  K t w:=by
 unfold Q8E at h
 have L:decide (c.super=U0)=decide (c.super=[79,98,106,101,99,116]):=rfl
 rw[L] at h
 cases ok with
 | false=>(try simp only[↓M1,M1,Mb,reduceIte]);simpa using h
 | true=>
  (try simp only[↓M1,M1,Mb,reduceIte])
  refine ld d g rfl ?_
  (try simp only[↓M1,M1,Mb,reduceIte])
  cases D:c.iface with
  | false=>
   rw[D] at h
   (try simp only[↓M1,M1,Mb,reduceIte])
   refine ld d g rfl ?_
   cases i:c.abs with
   | false=>rw[i] at h;(try simp only[↓M1,M1,Mb,reduceIte]);simpa using h
   | true=>
    rw[i] at h
    (try simp only[↓M1,M1,Mb,reduceIte])
    refine ld d g rfl ?_
    (try simp only[↓M1,M1,Mb,reduceIte])
    simpa using h
  | true=>
   rw[D] at h
   (try simp only[↓M1,M1,Mb,reduceIte])
   refine ld d g rfl ?_
   cases i:c.abs with
   | false=>rw[i] at h;(try simp only[↓M1,M1,Mb,reduceIte]);simpa using h
   | true=>
    rw[i] at h
    (try simp only[↓M1,M1,Mb,reduceIte])
    refine ld d g rfl ?_
    (try simp only[↓M1,M1,Mb,reduceIte])
    cases E:decide (c.super=[79,98,106,101,99,116]) with
    | false=>rw[E] at h;(try simp only[↓M1,M1,Mb,reduceIte]);simpa using h
    | true=>
     rw[E] at h
     (try simp only[↓M1,M1,Mb,reduceIte])
     refine ld d g rfl ?_
     simp only[i,↓M1,M1,Mb,reduceIte]
     refine ld d g rfl ?_
     (try simp only[↓M1,M1,Mb,reduceIte])
     simpa using h
end Go.Proofs.YtjdiakhipmggjaaGreatDoor

namespace Go.Proofs.YtjdiakhipmggjaaGreatDoor
open Go.Emb Go.RowKit Go.Kd Go.Hm
variable {w : World} {K : Value → World → Prop} {σ : Q6}
def Q5Y (c:Cla):Bool:=((((M9 c.name&&M9 c.super&& !decide (c.name=c.super))&&(List.range c.like.length).all fun i=>Mi c i&&(List.range i).all (Qd c i))&&(List.range c.fields.length).all fun i=>Dr c i&&(List.range i).all (Xx c i))&&(List.range c.methods.length).all fun i=>Nn c i&&(List.range i).all (Xy c i))&&Q8E c
theorem X0o {α:Type} {f:α→X0}: ∀(xs a:List α),B0 f a xs=true↔(xs.map f).Nodup∧ ∀x∈xs,∀y∈a,f y≠f x:=by
 intro xs
 induction xs with
 | nil=>intro a;simp[B0]
 | cons x r h=>
  intro a
  simp only[B0,Bool.and_eq_true,h,Bool.not_eq_true',List.map_cons,List.nodup_cons]
  rw[←Bool.not_eq_true,List.any_eq_true]
  simp only[decide_eq_true_eq,not_exists,not_and,List.mem_append,List.mem_cons,List.not_mem_nil,or_false,List.mem_map]
  constructor
  ·rintro ⟨d,g,c⟩
   refine ⟨⟨fun y hy e=>c y hy x (.inr rfl) e.symm,g⟩,fun y hy z b=>?_⟩
   rcases hy with rfl | hy
   ·exact d z b
   ·exact c y hy z (.inl b)
  ·rintro ⟨⟨d,g⟩,c⟩
   refine ⟨fun y hy=>c x (.inl rfl) y hy,g,fun y hy z b=>?_⟩
   rcases b with b | rfl
   ·exact c y (.inr hy) z b
   ·exact fun e=>d y hy e.symm
theorem Q1i {α:Type} {f:α→X0} {xs:List α} {p:α→Bool} {P:Nat→Bool} {Q:Nat→Nat→Bool} (e: ∀i (h:i<xs.length),P i=p xs[i]) (c: ∀i (h:i<xs.length) k (o:k<xs.length),Q i k= !decide (f xs[k]=f xs[i])):
 ((List.range xs.length).all fun i=>P i&&(List.range i).all (Q i))=true↔(∀x∈xs,p x=true)∧B0 f [] xs=true:=by
 rw[X0o,List.all_eq_true]
 simp only[List.mem_range,Bool.and_eq_true,List.all_eq_true,List.not_mem_nil,false_implies,implies_true,and_true]
 rw[List.nodup_iff_pairwise_ne,List.pairwise_iff_getElem]
 simp only[List.length_map,List.getElem_map]
 constructor
 ·intro h
  refine ⟨fun x m=>?_,fun i j a d b=>?_⟩
  ·obtain ⟨i,a,rfl⟩:=List.getElem_of_mem m
   rw[←e i a];exact (h i a).1
  ·have:=(h j d).2 i b
   rw[c j d i a] at this
   simpa using this
 ·rintro ⟨g,n⟩ i a
  refine ⟨by rw[e i a];exact g _ (List.getElem_mem a),fun k l=>?_⟩
  rw[c i a k (by omega)]
  simpa using n k i (by omega) a l
theorem X0D (c:Cla):Q5Y c=Mq c:=by
 have v:=Q1i (f:=id) (xs:=c.like) (p:=fun y=>M9 y&& !decide (y=c.name)) (P:=Mi c) (Q:=Qd c) (fun i h=>by unfold Mi;rw[C3 h]) (fun i h k l=>by unfold Qd;rw[C3 h,C3 l];rfl)
 have g:=Q1i (f:=Fld.name) (xs:=c.fields) (p:=fun f=>E2 f.name&&right f.kind&& !c.iface) (P:=Dr c) (Q:=Xx c) (fun i h=>by unfold Dr Bh;rw[C3 h]) (fun i h k l=>by unfold Xx Bh;rw[C3 h,C3 l])
 have d:=Q1i (f:=Hm.Met.name) (xs:=c.methods) (p:=fun m=>K1 m&&(!m.abs||c.abs)&&(!c.iface||m.abs)) (P:=Nn c) (Q:=Xy c) (fun i h=>by unfold Nn Rl;rw[C3 h]) (fun i h k l=>by unfold Xy Rl;rw[C3 h,C3 l])
 rw[Bool.eq_iff_iff]
 unfold Q5Y Mq Q8E
 simp only[Bool.and_eq_true,v,g,d]
 simp only[Bool.and_eq_true,Bool.not_eq_true',Bool.or_eq_true,Bool.and_eq_false_iff,Bool.or_eq_false_iff,decide_eq_true_eq,decide_eq_false_iff_not,List.all_eq_true,List.mem_cons,List.any_eq_false,He,Bool.not_eq_false']
 constructor
 ·rintro ⟨⟨⟨⟨⟨⟨n,o⟩,r⟩,a,s⟩,h6,q⟩,j,u⟩,b,t⟩
  refine ⟨⟨⟨⟨⟨⟨⟨⟨?_,?_⟩,s⟩,?_⟩,t,?_⟩,q⟩,u⟩,?_⟩,fun m d=>(j m d).1.1⟩
  ·rintro x (rfl | rfl | hx)
   ·exact n
   ·exact o
   ·exact (a x hx).1
  ·rintro x (rfl | hx)
   ·exact r
   ·exact fun e=>(a x hx).2 e.symm
  ·cases z:c.iface with
   | false=>exact .inl rfl
   | true=>
    rw[z] at b h6 j
    have b:=b.resolve_left (by decide)
    refine .inr ⟨⟨b,?_⟩,fun m d e=>?_⟩
    ·rw[List.eq_nil_iff_forall_not_mem]
     intro f g
     exact absurd (h6 f g).2 (by decide)
    ·have:=(j m d).2.resolve_left (by decide)
     rw[this] at e;cases e
  ·cases A:c.abs with
   | true=>exact .inr rfl
   | false=>
    rw[A] at j
    refine .inl fun m d e=>?_
    have:=(j m d).1.2.resolve_right (by decide)
    rw[this] at e;cases e
  ·exact fun f g=>(h6 f g).1
 ·rintro ⟨⟨⟨⟨⟨⟨⟨⟨n,o⟩,r⟩,a⟩,s,h6⟩,q⟩,j⟩,u⟩,b⟩
  refine ⟨⟨⟨⟨⟨⟨n _ (.inl rfl),n _ (.inr (.inl rfl))⟩,o _ (.inl rfl)⟩,fun x hx=>⟨n x (.inr (.inr hx)),fun e=>o x (.inr hx) e.symm⟩,r⟩,fun f g=>⟨u f g,?_⟩,q⟩,fun m d=>⟨⟨b m d,?_⟩,?_⟩,j⟩,?_,s⟩
  ·rcases a with a | ⟨⟨_,a⟩,_⟩
   ·exact a
   ·rw[a] at g;simp at g
  ·rcases h6 with h6 | h6
   ·left;exact eq_false_of_ne_true (h6 m d)
   ·exact .inr h6
  ·rcases a with a | ⟨_,a⟩
   ·exact .inl a
   ·right
    cases hx:m.abs with
    | true=>rfl
    | false=>exact absurd hx (a m d)
  ·rcases a with a | ⟨⟨a,_⟩,_⟩
   ·exact .inl a
   ·exact .inr a
set_option maxHeartbeats 4000000 in
theorem X07 {c:Cla} {cs:List Value} (hs:X3 w σ) (hc:V0 σ c cs) (h: ∀w' σ',Stp w σ w' σ'→K (.bool (Q5Y c)) w'):Q1 P F.bq [.agg cs.toArray] w K:=Pe (by
 unfold Mw
 obtain ⟨lv,fv,mv,rfl,f1,f2,f3,f4,f5⟩:=hc
 have c7:c.name.length≤140737488355328:=by simp only[U1] at f4;omega
 have c9:c.super.length≤140737488355328:=by simp only[U1] at f5;omega
 refine Z0 hs fun q w1 σ1 bc hq=>?_
 have g1:=f1.up bc
 have g2:=f2.up bc
 have g3:=f3.up bc
 have bk:=bc.sat
 have ch: ∀ok:Bool,ok=(M9 c.name&&M9 c.super&& !decide (c.name=c.super))→_:=fun ok e=>
  X0P (w1:=w1) (σ1:=σ1) (ok:=ok) bk hq (J:=fun v w=>lp (α:=Value×Value) (v,(.int .i64 0)) w fun bu o d_ w=>
   fieldAddr P T.b (.pointer (some q)) 6 w fun c4 w=>
   Q2 P T.k c4 w fun cy w=>
   X2 P .len [T.k] T.d [false] [cy] w fun cv w=>
   Q3 P .lss T.d (.tmp 71) (.tmp 74) o.2 cv w fun cx w=>
   X1 cx (
    Q0 o.1 true w (fieldAddr P T.b (.pointer (some q)) 6) fun c0 w=>
    Q0 o.1 true w (Q2 P T.k c0) fun ct w=>
    Q0 o.1 true w (fun w J=>J o.2 w) fun cz w=>
    Q0 o.1 true w (indexAddr P T.k ct cz) fun da w=>
    Q0 o.1 true w (fieldAddr P T.o da 0) fun c5 w=>
    Q0 o.1 true w (Q2 P T.c c5) fun dd w=>
    Q0 o.1 true w (Q1 P F.u [dd]) fun c3 w=>
    pick P o.1 c3 (.bool false) w fun W w=>
    Q0 W true w (fieldAddr P T.b (.pointer (some q)) 6) fun cr w=>
    Q0 W true w (Q2 P T.k cr) fun cq w=>
    Q0 W true w (fun w J=>J o.2 w) fun c2 w=>
    Q0 W true w (indexAddr P T.k cq c2) fun cw w=>
    Q0 W true w (fieldAddr P T.o cw 1) fun c1 w=>
    Q0 W true w (Q2 P T.c c1) fun c6 w=>
    Q0 W true w (Q1 P F.e [c6]) fun dc w=>
    pick P W dc (.bool false) w fun cd w=>
    Q0 cd true w (fieldAddr P T.b (.pointer (some q)) 3) fun cu w=>
    Q0 cd true w (Q2 P T.u cu) fun c8 w=>
    Q0 cd true w (J8 P .not c8) fun cl w=>
    pick P cd cl (.bool false) w fun ck w=>
    lp (α:=Value×Value) (ck,(.int .i64 0)) w fun b8 l d_ w=>
     Q3 P .lss T.d (.tmp 102) (.tmp 103) l.2 o.2 w fun cm w=>
     X1 cm (
      dr w fun d n=>
      Q4 d (fun a9=> ∀w:World,n w→Q0 l.1 true w (fieldAddr P T.b (.pointer (some q)) 6) (dk d a9 w)) fun a9=>
      Q4 d (fun a0=> ∀w:World,n w→Q0 l.1 true w (fun w J=>J l.2 w) (dk d a0 w)) fun a0=>
      Q4 d (fun a3=> ∀w:World,n w→Q0 l.1 true w (fieldAddr P T.b (.pointer (some q)) 6) (dk d a3 w)) fun a3=>
      Q4 d (fun az=> ∀w:World,n w→Q0 l.1 true w (fun w J=>J o.2 w) (dk d az w)) fun az=>
      Q4 d (fun av=> ∀a4:Value,∀w:World,n w→a9 a4 w→Q0 l.1 true w (Q2 P T.k a4) (dk d av w)) fun av=>
      Q4 d (fun a8=> ∀aq:Value,∀ba:Value,∀w:World,n w→av aq w→a0 ba w→Q0 l.1 true w (indexAddr P T.k aq ba) (dk d a8 w)) fun a8=>
      Q4 d (fun ao=> ∀ap:Value,∀w:World,n w→a8 ap w→Q0 l.1 true w (fieldAddr P T.o ap 0) (dk d ao w)) fun ao=>
      Q4 d (fun bq=> ∀ar:Value,∀w:World,n w→ao ar w→Q0 l.1 true w (Q2 P T.c ar) (dk d bq w)) fun bq=>
      Q4 d (fun ay=> ∀ax:Value,∀w:World,n w→a3 ax w→Q0 l.1 true w (Q2 P T.k ax) (dk d ay w)) fun ay=>
      Q4 d (fun a1=> ∀a5:Value,∀a2:Value,∀w:World,n w→ay a5 w→az a2 w→Q0 l.1 true w (indexAddr P T.k a5 a2) (dk d a1 w)) fun a1=>
      Q4 d (fun aw=> ∀a6:Value,∀w:World,n w→a1 a6 w→Q0 l.1 true w (fieldAddr P T.o a6 0) (dk d aw w)) fun aw=>
      Q4 d (fun bf=> ∀a7:Value,∀w:World,n w→aw a7 w→Q0 l.1 true w (Q2 P T.c a7) (dk d bf w)) fun bf=>
      ∀a4:Value,∀ba:Value,∀ax:Value,∀a2:Value,∀aq:Value,∀ap:Value,∀ar:Value,∀cg:Value,∀a5:Value,∀a6:Value,∀a7:Value,∀cf:Value,∀w:World,n w→a9 a4 w→a0 ba w→a3 ax w→az a2 w→av aq w→a8 ap w→ao ar w→bq cg w→ay a5 w→a1 a6 w→aw a7 w→bf cf w→
      Q0 l.1 true w (Q3 P .neq T.c (.tmp 114) (.tmp 120) cg cf) fun cn w=>
      pick P l.1 cn (.bool false) w fun cp w=>
      Q3 P .add T.d (.tmp 105) (.const (.int .i64 1)) l.2 (.int .i64 1) w fun co w=>
      b8 (cp,co) w) (
      Q3 P .add T.d (.tmp 76) (.const (.int .i64 1)) o.2 (.int .i64 1) w fun db w=>
      bu (l.1,db) w)) (
    lp (α:=Value×Value) (o.1,(.int .i64 0)) w fun H f d_ w=>
     fieldAddr P T.b (.pointer (some q)) 7 w fun bz w=>
     Q2 P T.j bz w fun br w=>
     X2 P .len [T.j] T.d [false] [br] w fun bi w=>
     Q3 P .lss T.d (.tmp 123) (.tmp 126) f.2 bi w fun be w=>
     X1 be (
      fieldAddr P T.b (.pointer (some q)) 7 w fun cc w=>
      Q2 P T.j cc w fun bd w=>
      indexAddr P T.j bd f.2 w fun bp w=>
      Q2 P T.e bp w fun bb w=>
      W0 P T.e w fun t9 w=>
      Y0 P T.e t9 bb w fun _u w=>
      Q0 f.1 true w (Q2 P T.e t9) fun bo w=>
      Q0 f.1 true w (Q1 P F.a5 [bo]) fun bm w=>
      pick P f.1 bm (.bool false) w fun k w=>
      Q0 k true w (fieldAddr P T.e t9 3) fun b9 w=>
      Q0 k true w (Q2 P T.u b9) fun b2 w=>
      Q0 k true w (J8 P .not b2) fun bs w=>
      Q0 k true w (fun w J=>J bs w) fun M w=>
      Q0 M false w (fieldAddr P T.b (.pointer (some q)) 4) fun b3 w=>
      Q0 M false w (Q2 P T.u b3) fun ca w=>
      Q0 k true w (pick P M (.bool true) ca) fun b1 w=>
      pick P k b1 (.bool false) w fun j w=>
      Q0 j true w (fieldAddr P T.b (.pointer (some q)) 3) fun b0 w=>
      Q0 j true w (Q2 P T.u b0) fun bv w=>
      Q0 j true w (J8 P .not bv) fun b7 w=>
      Q0 j true w (fun w J=>J b7 w) fun L w=>
      Q0 L false w (fieldAddr P T.e t9 3) fun bl w=>
      Q0 L false w (Q2 P T.u bl) fun bn w=>
      Q0 j true w (pick P L (.bool true) bn) fun b5 w=>
      pick P j b5 (.bool false) w fun bh w=>
      lp (α:=Value×Value) (bh,(.int .i64 0)) w fun N b d_ w=>
       Q3 P .lss T.d (.tmp 158) (.tmp 159) b.2 f.2 w fun cb w=>
       X1 cb (
        dr w fun d n=>
        Q4 d (fun C=> ∀w:World,n w→Q0 b.1 true w (fieldAddr P T.b (.pointer (some q)) 7) (dk d C w)) fun C=>
        Q4 d (fun p=> ∀w:World,n w→Q0 b.1 true w (fun w J=>J b.2 w) (dk d p w)) fun p=>
        Q4 d (fun D=> ∀w:World,n w→Q0 b.1 true w (fieldAddr P T.e t9 0) (dk d D w)) fun D=>
        Q4 d (fun s=> ∀B:Value,∀w:World,n w→C B w→Q0 b.1 true w (Q2 P T.j B) (dk d s w)) fun s=>
        Q4 d (fun t=> ∀u:Value,∀z:Value,∀w:World,n w→s u w→p z w→Q0 b.1 true w (indexAddr P T.j u z) (dk d t w)) fun t=>
        Q4 d (fun y=> ∀A:Value,∀w:World,n w→t A w→Q0 b.1 true w (fieldAddr P T.e A 0) (dk d y w)) fun y=>
        Q4 d (fun Q=> ∀E:Value,∀w:World,n w→y E w→Q0 b.1 true w (Q2 P T.c E) (dk d Q w)) fun Q=>
        Q4 d (fun O=> ∀r:Value,∀w:World,n w→D r w→Q0 b.1 true w (Q2 P T.c r) (dk d O w)) fun O=>
        ∀B:Value,∀z:Value,∀r:Value,∀u:Value,∀A:Value,∀E:Value,∀am:Value,∀U:Value,∀w:World,n w→C B w→p z w→D r w→s u w→t A w→y E w→Q am w→O U w→
        Q0 b.1 true w (Q3 P .neq T.c (.tmp 170) (.tmp 172) am U) fun b4 w=>
        pick P b.1 b4 (.bool false) w fun bx w=>
        Q3 P .add T.d (.tmp 161) (.const (.int .i64 1)) b.2 (.int .i64 1) w fun bg w=>
        N (bx,bg) w) (
        Q3 P .add T.d (.tmp 128) (.const (.int .i64 1)) f.2 (.int .i64 1) w fun bj w=>
        H (b.1,bj) w)) (
      Q0 f.1 true w (fieldAddr P T.b (.pointer (some q)) 3) fun aa w=>
      Q0 f.1 true w (Q2 P T.u aa) fun ah w=>
      Q0 f.1 true w (J8 P .not ah) fun af w=>
      Q0 f.1 true w (fun w J=>J af w) fun g w=>
      Q0 g false w (fieldAddr P T.b (.pointer (some q)) 4) fun V w=>
      Q0 g false w (Q2 P T.u V) fun Z w=>
      Q0 g false w (fun w J=>J Z w) fun i w=>
      Q0 i true w (fieldAddr P T.b (.pointer (some q)) 1) fun ad w=>
      Q0 i true w (Q2 P T.c ad) fun ai w=>
      Q0 i true w (Q3 P .eql T.c (.tmp 185) (.const (.string ⟨#[79,98,106,101,99,116]⟩)) ai (.string ⟨#[79,98,106,101,99,116]⟩)) fun Y w=>
      Q0 g false w (pick P i Y (.bool false)) fun al w=>
      Q0 f.1 true w (pick P g (.bool true) al) fun ac w=>
      pick P f.1 ac (.bool false) w fun a w=>
      Q0 a true w (fieldAddr P T.b (.pointer (some q)) 4) fun X w=>
      Q0 a true w (Q2 P T.u X) fun ak w=>
      Q0 a true w (fun w J=>J ak w) fun m w=>
      Q0 m true w (fieldAddr P T.b (.pointer (some q)) 5) fun aj w=>
      Q0 m true w (Q2 P T.u aj) fun ab w=>
      Q0 a true w (pick P m ab (.bool false)) fun ag w=>
      Q0 a true w (J8 P .not ag) fun ae w=>
      pick P a ae (.bool false) w fun R w=>
      K R w))) f4 g1 fun w2 σ2 an=>
  X2d (J:=fun v w=>lp (α:=Value×Value) (v,(.int .i64 0)) w fun H f d_ w=>
   fieldAddr P T.b (.pointer (some q)) 7 w fun bz w=>
   Q2 P T.j bz w fun br w=>
   X2 P .len [T.j] T.d [false] [br] w fun bi w=>
   Q3 P .lss T.d (.tmp 123) (.tmp 126) f.2 bi w fun be w=>
   X1 be (
    fieldAddr P T.b (.pointer (some q)) 7 w fun cc w=>
    Q2 P T.j cc w fun bd w=>
    indexAddr P T.j bd f.2 w fun bp w=>
    Q2 P T.e bp w fun bb w=>
    W0 P T.e w fun t9 w=>
    Y0 P T.e t9 bb w fun _u w=>
    Q0 f.1 true w (Q2 P T.e t9) fun bo w=>
    Q0 f.1 true w (Q1 P F.a5 [bo]) fun bm w=>
    pick P f.1 bm (.bool false) w fun k w=>
    Q0 k true w (fieldAddr P T.e t9 3) fun b9 w=>
    Q0 k true w (Q2 P T.u b9) fun b2 w=>
    Q0 k true w (J8 P .not b2) fun bs w=>
    Q0 k true w (fun w J=>J bs w) fun M w=>
    Q0 M false w (fieldAddr P T.b (.pointer (some q)) 4) fun b3 w=>
    Q0 M false w (Q2 P T.u b3) fun ca w=>
    Q0 k true w (pick P M (.bool true) ca) fun b1 w=>
    pick P k b1 (.bool false) w fun j w=>
    Q0 j true w (fieldAddr P T.b (.pointer (some q)) 3) fun b0 w=>
    Q0 j true w (Q2 P T.u b0) fun bv w=>
    Q0 j true w (J8 P .not bv) fun b7 w=>
    Q0 j true w (fun w J=>J b7 w) fun L w=>
    Q0 L false w (fieldAddr P T.e t9 3) fun bl w=>
    Q0 L false w (Q2 P T.u bl) fun bn w=>
    Q0 j true w (pick P L (.bool true) bn) fun b5 w=>
    pick P j b5 (.bool false) w fun bh w=>
    lp (α:=Value×Value) (bh,(.int .i64 0)) w fun N b d_ w=>
     Q3 P .lss T.d (.tmp 158) (.tmp 159) b.2 f.2 w fun cb w=>
     X1 cb (
      dr w fun d n=>
      Q4 d (fun C=> ∀w:World,n w→Q0 b.1 true w (fieldAddr P T.b (.pointer (some q)) 7) (dk d C w)) fun C=>
      Q4 d (fun p=> ∀w:World,n w→Q0 b.1 true w (fun w J=>J b.2 w) (dk d p w)) fun p=>
      Q4 d (fun D=> ∀w:World,n w→Q0 b.1 true w (fieldAddr P T.e t9 0) (dk d D w)) fun D=>
      Q4 d (fun s=> ∀B:Value,∀w:World,n w→C B w→Q0 b.1 true w (Q2 P T.j B) (dk d s w)) fun s=>
      Q4 d (fun t=> ∀u:Value,∀z:Value,∀w:World,n w→s u w→p z w→Q0 b.1 true w (indexAddr P T.j u z) (dk d t w)) fun t=>
      Q4 d (fun y=> ∀A:Value,∀w:World,n w→t A w→Q0 b.1 true w (fieldAddr P T.e A 0) (dk d y w)) fun y=>
      Q4 d (fun Q=> ∀E:Value,∀w:World,n w→y E w→Q0 b.1 true w (Q2 P T.c E) (dk d Q w)) fun Q=>
      Q4 d (fun O=> ∀r:Value,∀w:World,n w→D r w→Q0 b.1 true w (Q2 P T.c r) (dk d O w)) fun O=>
      ∀B:Value,∀z:Value,∀r:Value,∀u:Value,∀A:Value,∀E:Value,∀am:Value,∀U:Value,∀w:World,n w→C B w→p z w→D r w→s u w→t A w→y E w→Q am w→O U w→
      Q0 b.1 true w (Q3 P .neq T.c (.tmp 170) (.tmp 172) am U) fun b4 w=>
      pick P b.1 b4 (.bool false) w fun bx w=>
      Q3 P .add T.d (.tmp 161) (.const (.int .i64 1)) b.2 (.int .i64 1) w fun bg w=>
      N (bx,bg) w) (
      Q3 P .add T.d (.tmp 128) (.const (.int .i64 1)) f.2 (.int .i64 1) w fun bj w=>
      H (b.1,bj) w)) (
    Q0 f.1 true w (fieldAddr P T.b (.pointer (some q)) 3) fun aa w=>
    Q0 f.1 true w (Q2 P T.u aa) fun ah w=>
    Q0 f.1 true w (J8 P .not ah) fun af w=>
    Q0 f.1 true w (fun w J=>J af w) fun g w=>
    Q0 g false w (fieldAddr P T.b (.pointer (some q)) 4) fun V w=>
    Q0 g false w (Q2 P T.u V) fun Z w=>
    Q0 g false w (fun w J=>J Z w) fun i w=>
    Q0 i true w (fieldAddr P T.b (.pointer (some q)) 1) fun ad w=>
    Q0 i true w (Q2 P T.c ad) fun ai w=>
    Q0 i true w (Q3 P .eql T.c (.tmp 185) (.const (.string ⟨#[79,98,106,101,99,116]⟩)) ai (.string ⟨#[79,98,106,101,99,116]⟩)) fun Y w=>
    Q0 g false w (pick P i Y (.bool false)) fun al w=>
    Q0 f.1 true w (pick P g (.bool true) al) fun ac w=>
    pick P f.1 ac (.bool false) w fun a w=>
    Q0 a true w (fieldAddr P T.b (.pointer (some q)) 4) fun X w=>
    Q0 a true w (Q2 P T.u X) fun ak w=>
    Q0 a true w (fun w J=>J ak w) fun m w=>
    Q0 m true w (fieldAddr P T.b (.pointer (some q)) 5) fun aj w=>
    Q0 m true w (Q2 P T.u aj) fun ab w=>
    Q0 a true w (pick P m ab (.bool false)) fun ag w=>
    Q0 a true w (J8 P .not ag) fun ae w=>
    pick P a ae (.bool false) w fun R w=>
    K R w)) an.sat (hq.up an) (g2.up an) fun w3 σ3 bw=>
  X27 (J:=fun v w=>Q0 v true w (fieldAddr P T.b (.pointer (some q)) 3) fun aa w=>
   Q0 v true w (Q2 P T.u aa) fun ah w=>
   Q0 v true w (J8 P .not ah) fun af w=>
   Q0 v true w (fun w J=>J af w) fun g w=>
   Q0 g false w (fieldAddr P T.b (.pointer (some q)) 4) fun V w=>
   Q0 g false w (Q2 P T.u V) fun Z w=>
   Q0 g false w (fun w J=>J Z w) fun i w=>
   Q0 i true w (fieldAddr P T.b (.pointer (some q)) 1) fun ad w=>
   Q0 i true w (Q2 P T.c ad) fun ai w=>
   Q0 i true w (Q3 P .eql T.c (.tmp 185) (.const (.string ⟨#[79,98,106,101,99,116]⟩)) ai (.string ⟨#[79,98,106,101,99,116]⟩)) fun Y w=>
   Q0 g false w (pick P i Y (.bool false)) fun al w=>
   Q0 v true w (pick P g (.bool true) al) fun ac w=>
   pick P v ac (.bool false) w fun a w=>
   Q0 a true w (fieldAddr P T.b (.pointer (some q)) 4) fun X w=>
   Q0 a true w (Q2 P T.u X) fun ak w=>
   Q0 a true w (fun w J=>J ak w) fun m w=>
   Q0 m true w (fieldAddr P T.b (.pointer (some q)) 5) fun aj w=>
   Q0 m true w (Q2 P T.u aj) fun ab w=>
   Q0 a true w (pick P m ab (.bool false)) fun ag w=>
   Q0 a true w (J8 P .not ag) fun ae w=>
   pick P a ae (.bool false) w fun R w=>
   K R w) bw.sat ((hq.up an).up bw) ((g3.up an).up bw) fun w4 σ4 ci=>
  X2w (K:=K) ci.sat (((hq.up an).up bw).up ci) (by rw[e];exact h _ _ (bc.trans (an.trans (bw.trans ci))))
 (repeat refine Hd.h ?_)
 refine ld bk hq rfl ?_
 refine Yf c.name c7 ?_
 cases d1:M9 c.name with
 | false=>(repeat refine Hd.h ?_);exact ch false (by rw[d1];rfl)
 | true=>
  (repeat refine Hd.h ?_)
  refine ld bk hq rfl ?_
  (repeat refine Hd.h ?_)
  refine Yf c.super c9 ?_
  cases d2:M9 c.super with
  | false=>(repeat refine Hd.h ?_);exact ch false (by rw[d1,d2];rfl)
  | true=>
   (repeat refine Hd.h ?_)
   refine ld bk hq rfl ?_
   (repeat refine Hd.h ?_)
   refine ld bk hq rfl ?_
   (repeat refine Hd.h ?_)
   refine Zz ?_
   (repeat refine Hd.h ?_)
   exact ch _ (by rw[d1,d2];rfl))
theorem Q40 {c:Cla} {cs:List Value} (m:X3 w σ) (d:V0 σ c cs) (h: ∀w' o,Stp w σ w' o→K (I (E0 c)) w'):Q1 P F.bo [.agg cs.toArray] w K:=Km (by
 unfold Na
 have j:=Rep.one (R:=V0) d
 obtain ⟨n,p,mv,rfl,t,s,r,l,k⟩:=d
 have d:V0 σ c _:=⟨n,p,mv,rfl,t,s,r,l,k⟩
 refine Z0 m fun q w1 σ1 a i=>?_
 unfold E0 at h
 refine Y2 a.sat i rfl ?_
 refine X0Q a.sat (RCl_lift d ⟨a.le⟩) fun u y b=>?_
 cases g:Zy c with
 | true=>simp only[g,if_true] at h;(try simp only[↓M1,M1,Mb,reduceIte]);exact h _ _ (a.trans b)
 | false=>
  simp only[g,Bool.false_eq_true,if_false] at h
  (try simp only[↓M1,M1,Mb,reduceIte])
  refine Y2 b.sat (i.up b) rfl ?_
  refine X07 b.sat (RCl_lift d ⟨(a.trans b).le⟩) fun v z e=>?_
  rw[X0D]
  cases f:Mq c with
  | true=>simp only[f,if_true] at h;(try simp only[↓M1,M1,Mb,reduceIte]);exact h _ _ (a.trans (b.trans e))
  | false=>simp only[f,Bool.false_eq_true,if_false] at h;(try simp only[↓M1,M1,Mb,reduceIte]);exact h _ _ (a.trans (b.trans e)))
end Go.Proofs.YtjdiakhipmggjaaGreatDoor
