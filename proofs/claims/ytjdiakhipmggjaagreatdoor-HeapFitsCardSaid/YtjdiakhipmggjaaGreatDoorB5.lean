/- Parts of a proof about the given program: its functions as texts of their own, what each computes, plain laws of that. The conditions of each stand in its statement. -/
import Derived.Test.YtjdiakhipmggjaaGreatDoorB4
import Derived.Laws.OwnMore
import Derived.Laws.CopyRow
import Derived.Test.YtjdiakhipmggjaaGreatDoorB3
import Derived.Lib.TrimUEq
set_option linter.unnecessarySimpa false
set_option linter.defProp false
set_option linter.unusedSectionVars false
set_option linter.unusedVariables false
set_option linter.unusedSimpArgs false
namespace Go.Proofs.YtjdiakhipmggjaaGreatDoor
open Go.Emb Go.RowKit Go.Kd Go.Hm
variable {w w' : World} {K : Value → World → Prop} {σ σ' : Q6} {hp tv : Value} {room : Int} {cs : List Cel} {l : List Cla}
theorem Q5d (r:X2 w σ) (u:Glb σ) (hh:S4 σ hp tv room cs) (t:Tab σ tv l) (ok:Ok l) {v:Val} {k:X0} (p:v.s.length≤U1) (o:k.length≤U1) (h: ∀w' σ',Stp w σ w' σ'→K (.bool (S8 W5 l cs v k)) w'):Q1 P F.af [hp, .agg [I v.sort,I v.n,S v.s,I v.ref].toArray,S k] w K:=Q0V (by
 unfold Ha
 refine Y9 r fun q w1 σ1 c m=>?_
 refine Y4 c.sat m rfl ?_
 refine X2P c.sat (u.lift ⟨c.le⟩) (hh.lift ⟨c.le⟩) p fun D z f=>?_
 have b:=c.trans f
 refine Wl ?_
 unfold S8 at h
 have d:=X1Q hh v
 generalize P2 W5 cs v=j at*
 by_cases e:j=[]
 ·rw[decide_eq_true e] at h⊢
  (try simp only[↓M1,M1,Mb,reduceIte])
  exact h _ _ b
 ·rw[decide_eq_false e] at h⊢
  obtain ⟨a,A,rfl,i,y⟩:=hh
  (try simp only[↓M1,M1,Mb,reduceIte])
  refine ld b.sat (i.lift ⟨b.le⟩) rfl ?_
  refine X3N b.sat (t.lift ⟨b.le⟩) ok d o fun C B g=>?_
  (try simp only[↓M1,M1,Mb,reduceIte])
  exact h _ _ (b.trans g))
theorem Q9r (A:X2 w σ) (hh:S4 σ hp tv room cs) (B:Tab σ tv l) (ok:Ok l) {k:X0} {n:Value} {i:Nat} (v:k.length≤U1) (H:n.cells= #[n]∧n.oneCell'=true) (o:elem k=[]→i<(Y6 l k).length)
 (h: ∀w' σ',Stp w σ w' σ'→K (S (Xk l k i)) w'):Q1 P F.aD [hp, .agg [S k,n].toArray,I i] w K:=Q0A (by
 unfold Em
 refine Y9 A fun q w1 σ1 d s=>?_
 (try simp only[↓M1,M1,Mb,reduceIte])
 refine X7 d.sat s rfl ?_
 refine Q5C k (Nat.le_trans v (by decide)) fun M p=>?_
 have c:=Stp.of_below d.sat p
 have b:=d.trans c
 refine Wl ?_
 unfold Xk at h
 by_cases e:elem k=[]
 ·simp only[if_pos e] at h
  rw[decide_eq_true e]
  (try simp only[↓M1,M1,Mb,reduceIte])
  obtain ⟨a,J,rfl,t,E⟩:=hh
  have r:=c.sat
  have y:=s.up c
  have D:=t.lift ⟨b.le⟩
  refine U2 r ?_
  (repeat refine J7 Xa ?_)
  (intros;(repeat (rename_i C;subst C));(try simp only[↓M2,M2,Mb,reduceIte]))
  rename_i L j
  have f:=b.trans j.stp
  refine Ip j.sat (B.lift ⟨f.le⟩) ok.acy ok.len ok.sm fun Q N O g m=>?_
  refine Y3 m (o e) ?_
  obtain ⟨u,_⟩:=m.elF (o e)
  (try simp only[↓M1,M1,Mb,reduceIte])
  refine ld g.sat u rfl ?_
  have z:(Y6 l k).getD i Fld.zero=(Y6 l k)[i]'(o e):=by rw[List.getD_eq_getElem?_getD,List.getElem?_eq_getElem (o e)];rfl
  rw[z] at h
  exact h _ _ (f.trans g)
 ·simp only[if_neg e] at h
  rw[decide_eq_false e]
  (try simp only[↓M1,M1,Mb,reduceIte])
  exact h _ _ b)
set_option maxHeartbeats 1000000 in
theorem Q4q {w1:World} {q:Addr} {c:Cel} {vv:Value} (hk1:Stp w σ w1 σ') (hg:Glb σ) (hh:S4 σ hp tv room cs) (ht:Tab σ tv l) (ok:Ok l) (hq:Z4 σ' q [S c.kind,vv]) (hv1:Sl 4 M5 σ' vv c.vals) (hkl:c.kind.length≤U1) (hfk: ∀i,(Xk l c.kind i).length≤U1) (good:GoodC W5 l cs c) (h: ∀w' σ',Stp w σ w' σ'→K (.bool true) w'):
 lp (α:=Value) (.int .i64 0) w1 fun again6 x6 d_ w=>
  Q3 P .lss T.e (.tmp 38) (.tmp 37) x6 (I c.vals.length) w fun t39 w=>
  X1 t39 (
   indexAddr P T.l vv x6 w fun t41 w=>
   Q2 P T.f t41 w fun t42 w=>
   W0 P T.f w fun v_v_6 w=>
   Y0 P T.f v_v_6 t42 w fun _u w=>
   dr w fun Tr Br=>
   Q5 Tr (fun φ44=> ∀w,Br w→Q2 P T.f v_v_6 w (dk Tr φ44 w)) fun φ44=>
   Q5 Tr (fun φ46=> ∀w,Br w→Q2 P T.o (.pointer (some q)) w (dk Tr φ46 w)) fun φ46=>
   Q5 Tr (fun φ48=> ∀t46 w,Br w→φ46 t46 w→Q1 P F.aD [hp,t46,x6] w (dk Tr φ48 w)) fun φ48=>
   ∀t44 t46 t48 w,Br w→φ44 t44 w→φ46 t46 w→φ48 t48 w→
   Q1 P F.af [hp,t44,t48] w fun t49 w=>
   J9 P .not t49 w fun t50 w=>
   X1 t50 (
    K (.bool false) w) (
    Q3 P .add T.e (.tmp 38) (.const (.int .i64 1)) x6 (.int .i64 1) w fun t51 w=>
    again6 t51 w)) (
   dr w fun Tr Br=>
   Q5 Tr (fun φ53=> ∀w,Br w→nilCheck P hp w (dk Tr φ53 w)) fun φ53=>
   Q5 Tr (fun φ54=> ∀t53 w,Br w→φ53 t53 w→fieldAddr P T.p t53 0 w (dk Tr φ54 w)) fun φ54=>
   Q5 Tr (fun φ56=> ∀w,Br w→fieldAddr P T.o (.pointer (some q)) 0 w (dk Tr φ56 w)) fun φ56=>
   Q5 Tr (fun φ55=> ∀t54 w,Br w→φ54 t54 w→Q2 P T.r t54 w (dk Tr φ55 w)) fun φ55=>
   Q5 Tr (fun φ57=> ∀t56 w,Br w→φ56 t56 w→Q2 P T.c t56 w (dk Tr φ57 w)) fun φ57=>
   ∀t53 t54 t56 t55 t57 w,Br w→φ53 t53 w→φ54 t54 w→φ56 t56 w→φ55 t55 w→φ57 t57 w→
   Q1 P F.s [t55,t57] w fun t58 w=>
   K t58 w):=by
 have hone:vv.cells= #[vv]∧vv.oneCell'=true:=by obtain ⟨a,c,rfl,_⟩:=hv1;exact ⟨rfl,rfl⟩
 refine U3 c.vals.length (fun n w'=> ∃σ2,Stp w σ w' σ2∧SLe σ' σ2) ⟨σ',hk1,SLe.refl _⟩ fun n w2 d hn hinv=>?_
 obtain ⟨σ2,hS2,le2⟩:=hinv
 have hv2:=hv1.lift le2
 have hq2:=hq.lift le2
 have hh2:=hh.lift ⟨hS2.le⟩
 have ht2:=ht.lift ⟨hS2.le⟩
 refine Z2 ?_
 refine Q7 (fun hc=>?_) (fun hc=>?_)
 ·have hn':n<c.vals.length:=by simpa using hc
  obtain ⟨p1,r1⟩:=Sl.elV hv2 hn'
  refine Y3 hv2 hn' ?_
  refine Y4 hS2.sat p1 rfl ?_
  refine Y8 hS2.sat (by rfl) rfl (Rep.one r1) fun q3 w3 σ3 hk3 hq3=>?_
  have hS3:=hS2.trans hk3
  have hs3:=hk3.sat
  have hq23:=hq2.up hk3
  have hh3:=hh2.lift ⟨hk3.le⟩
  have ht3:=ht2.lift ⟨hk3.le⟩
  have hif:elem c.kind=[]→n<(Y6 l c.kind).length:=fun e=>by
   rcases good.is with h | h
   ·exact absurd e h
   ·rw[←h.2];exact hn'
  refine U2 hs3 ?_
  (repeat (apply J7;(· intros;(repeat (rename_i hx;subst hx));(repeat' (first | (with_reducible exact N2 rfl) | (with_reducible exact S1 (Stp.bel (by (repeat (first | exact Stp.refl (by (first | assumption | exact Stp.sat (by assumption) | exact Hst.sat (by assumption))) | assumption | refine Stp.trans ?_ (by first | assumption | exact Hst.stp (by assumption)))))) rfl) | (with_reducible intro _) | (simp only[↓M2,M2,Mb,reduceIte]) | (with_reducible show Q2 _ _ _ _ _;first | refine X7 aS aL aR ?_ | refine Y4 aS aL aR ?_ | refine ld aS aL aR ?_) | (with_reducible show indexAddr _ _ _ _ _ _;refine Y3 aL au ?_) | (with_reducible show X3 _ _ _ _ _ _ _ _;refine Q8 aL ?_) | (with_reducible show F4 _ _ _ _ _ _;refine J0 aR ?_) | (with_reducible show pick _ _ _ _ _ _;refine L8 ?_) | (with_reducible show Q1 _ _ _ _ _;first | refine Q9r au au au au au au au ?_) | (apply G5;intro hh;(try simp only[hh,reduceIte,↓M2,M2,Mb,reduceIte]))));done)))
  (intros;(repeat (rename_i hx;subst hx));(try simp only[↓M2,M2,Mb,reduceIte]))
  rename_i w4 hb4
  have hS4:=hS3.trans hb4.stp
  refine Q5d hb4.sat (hg.lift ⟨hS4.le⟩) (hh.lift ⟨hS4.le⟩) (ht.lift ⟨hS4.le⟩) ok r1.2.2.2.1 (hfk n) fun w5 σ5 hk5=>?_
  rw[good.fits n hn']
  (try simp only[↓M1,M1,Mb,reduceIte])
  exact Y5 hv1.max hn' ⟨σ5,hS4.trans hk5,le2.more ⟨(hk3.trans (hb4.stp.trans hk5)).le⟩⟩
 ·obtain ⟨a,lv,rfl,la,ls⟩:=hh2
  have hs2:=hS2.sat
  refine U2 hs2 ?_
  (repeat refine J7 Xa ?_)
  (intros;(repeat (rename_i hx;subst hx));(try simp only[↓M2,M2,Mb,reduceIte]))
  rename_i w3 hb3
  refine Q0D hb3.sat ht2 hkl fun w4 σ4 hk4=>?_
  rw[good.kd]
  exact h _ _ ((hS2.trans hb3.stp).trans hk4)
set_option maxHeartbeats 1000000 in
theorem X1a (hs:X2 w σ) (hg:Glb σ) (hh:S4 σ hp tv room cs) (ht:Tab σ tv l) (ok:Ok l) {c:Cel} {ds:List Value} (hc:S2 σ c ds) (hfk: ∀i,(Xk l c.kind i).length≤U1) (good:GoodC W5 l cs c) (h: ∀w' σ',Stp w σ w' σ'→K (.bool true) w'):Q1 P F.bC [hp, .agg ds.toArray] w K:=Q05 (by
 obtain ⟨vv,rfl,hvv,hkl⟩:=hc
 have hone:vv.cells= #[vv]∧vv.oneCell'=true:=by obtain ⟨a,c,rfl,_⟩:=hvv;exact ⟨rfl,rfl⟩
 have hh0:=hh
 obtain ⟨a,lv,rfl,la,ls⟩:=hh
 unfold Oc
 refine Y9 hs fun q w1 σ1 hk1 hq=>?_
 have hs1:=hk1.sat
 have la1:=la.lift ⟨hk1.le⟩
 have ht1:=ht.lift ⟨hk1.le⟩
 have hv1:=hvv.up hk1
 have hkl':c.kind.length≤140737488355328:=Nat.le_trans hkl (by decide)
 have acy:=ok.acy
 have olen:=ok.len
 have osm:=ok.sm
 refine U2 hs1 ?_
 (repeat (apply J7;(· intros;(repeat (rename_i hx;subst hx));(repeat' (first | (with_reducible exact N2 rfl) | (with_reducible exact S1 (Stp.bel (by (repeat (first | exact Stp.refl (by (first | assumption | exact Stp.sat (by assumption) | exact Hst.sat (by assumption))) | assumption | refine Stp.trans ?_ (by first | assumption | exact Hst.stp (by assumption)))))) rfl) | (with_reducible intro _) | (simp only[↓M2,M2,Mb,reduceIte]) | (with_reducible show Q2 _ _ _ _ _;first | refine X7 aS aL aR ?_ | refine Y4 aS aL aR ?_ | refine ld aS aL aR ?_) | (with_reducible show indexAddr _ _ _ _ _ _;refine Y3 aL au ?_) | (with_reducible show X3 _ _ _ _ _ _ _ _;refine Q8 aL ?_) | (with_reducible show F4 _ _ _ _ _ _;refine J0 aR ?_) | (with_reducible show pick _ _ _ _ _ _;refine L8 ?_) | (with_reducible show Q1 _ _ _ _ _;first | refine Q5C _ au (L1 aS ?_)) | (apply G5;intro hh;(try simp only[hh,reduceIte,↓M2,M2,Mb,reduceIte]))));done)))
 by_cases e:elem c.kind=[]
 ·have hd:decide (elem c.kind=[])=true:=decide_eq_true e
  obtain ⟨hobj,hlen⟩:A0 l c.kind=true∧c.vals.length=(Y6 l c.kind).length:=by
   rcases good.is with h | h
   ·exact absurd e h
   ·exact h
  simp only[hd,reduceIte]
  (repeat (apply J7;(· intros;(repeat (rename_i hx;subst hx));(repeat' (first | (with_reducible exact N2 rfl) | (with_reducible exact S1 (Stp.bel (by (repeat (first | exact Stp.refl (by (first | assumption | exact Stp.sat (by assumption) | exact Hst.sat (by assumption))) | assumption | refine Stp.trans ?_ (by first | assumption | exact Hst.stp (by assumption)))))) rfl) | (with_reducible intro _) | (simp only[↓M2,M2,Mb,reduceIte]) | (with_reducible show Q2 _ _ _ _ _;first | refine X7 aS aL aR ?_ | refine Y4 aS aL aR ?_ | refine ld aS aL aR ?_) | (with_reducible show indexAddr _ _ _ _ _ _;refine Y3 aL au ?_) | (with_reducible show X3 _ _ _ _ _ _ _ _;refine Q8 aL ?_) | (with_reducible show F4 _ _ _ _ _ _;refine J0 aR ?_) | (with_reducible show pick _ _ _ _ _ _;refine L8 ?_) | (with_reducible show Q1 _ _ _ _ _;first | refine Q4w au au ?_) | (apply G5;intro hh;(try simp only[hh,reduceIte,↓M2,M2,Mb,reduceIte]))));done)))
  simp only[hobj,Bool.not_true,reduceIte]
  (repeat refine J7 Xa ?_)
  refine Wi (w:=w1) (σ:=σ1) (Φ:=fun σ' v=>Sl 3 R8 σ' v (Y6 l c.kind)) (fun t20 t27 t29 w hb e1 e2 e3=>?_) ?_
  ·subst e1;subst e2;subst e3
   simp only[↓M2,M2,Mb,reduceIte]
   exact Ip hb.sat ht1 acy olen osm fun v' w' σ' hk hv'=>Rr hb hk hv'
  refine J7 (V:=I (Y6 l c.kind).length) (fun t20 t30 w hb e1 e2=>?_) ?_
  ·subst e1
   obtain ⟨σ',hk,hv'⟩:=e2
   simp only[↓M2,M2,Mb,reduceIte]
   exact Q8 hv' (N2 rfl)
  rintro t7 t8 t9 t10 t12 t13 t14 t16 t15 t17 t18 t19 t20 t21 t24 t25 t26 t28 t22 t23 t27 t29 t30 t31 w2 hb2 rfl rfl rfl rfl rfl rfl rfl rfl rfl rfl rfl rfl rfl rfl rfl rfl rfl rfl rfl rfl rfl rfl _ rfl
  rw[hlen]
  simp only[O6,E1,S3,W3,W8]
  refine Ut ?_
  rw[decide_eq_true (show ((Y6 l c.kind).length:Int)=(Y6 l c.kind).length from rfl)]
  simp only[Bool.not_true,W9,M4,M3]
  refine W4 ?_
  refine ld hb2.sat hq rfl ?_
  refine Q8 hv1 ?_
  exact Q4q (hk1.trans hb2.stp) hg hh0 ht ok hq hv1 hkl hfk good h
 ·have hd:decide (elem c.kind=[])=false:=decide_eq_false e
  simp only[hd,Bool.false_eq_true,reduceIte]
  (repeat refine J7 Xa ?_)
  (intros;(repeat (rename_i hx;subst hx)))
  rename_i w2 hb2
  simp only[O6,E1,S3,W3,W8,W9,M4,M3]
  refine W4 ?_
  refine ld hb2.sat hq rfl ?_
  refine Q8 hv1 ?_
  exact Q4q (hk1.trans hb2.stp) hg hh0 ht ok hq hv1 hkl hfk good h)
end Go.Proofs.YtjdiakhipmggjaaGreatDoor

namespace Go.Emb
open Go.RowKit Go.Hm
variable {P : Program} {w w0 w1 w' w'' : World} {K : Value → World → Prop} {σ σ0 σ1 σ' : Q6}
theorem Q4Q (a:Array Value) (n i:Nat) (c:i<n) (f:0<a.size):((madeCells a (n*a.size)).toList.drop (i*a.size)).take a.size=a.toList:=by
 have e:i*a.size+a.size≤n*a.size:=by rw[←Nat.succ_mul];exact Nat.mul_le_mul_right _ c
 refine List.ext_getElem (by simp[madeCells];omega) fun j g d=>?_
 have b:j<a.size:=by simpa using d
 simp only[List.getElem_take,List.getElem_drop,madeCells,Array.toList_map,List.getElem_map,Array.toList_range,List.getElem_range,Array.getElem_toList]
 have:(i*a.size+j) % a.size=j:=by rw[Nat.add_comm,Nat.add_mul_mod_self_right];exact Nat.mod_eq_of_lt b
 rw[this]
 simp[b]
theorem X2O {α:Type} {R:Q6→α→List Value→Prop} {t e:TypeId} {sz b n:Nat} {z:Value} [ts:TS P t e] [tz:TZ P e sz b z] (x0:α) (s:X2 w σ) (B:z.cells.size=sz) (d:0<sz) (u:R σ x0 z.cells.toList) (D:n*sz≤16777216) (C:b*n≤281474976710656)
 (h: ∀v w',Stp w σ w' σ→V6 w.heap.size e sz R σ w' v (List.replicate n x0)→(∀k,v.ownBlock=some k→w.heap.size≤k)→K v w'):Dq P t (I n) (I n) w K:=by
 obtain ⟨i,A,c,g,a⟩:=tz.info
 have q:(i.bytes:Int)*(n:Int)≤281474976710656:=by
  rw[g]
  have:((b*n:Nat):Int)≤281474976710656:=by omega
  rwa [Int.natCast_mul] at this
 have y:n≤16777216:=by
  have:n*1≤n*sz:=Nat.mul_le_mul_left _ d
  omega
 have o:=run_makeSlice (P:=P) w t e i z ts.h A a .i64 .i64 (n:Int) (n:Int) (by omega) (Int.le_refl _) (by rw[c];simp only[Int.toNat_natCast];omega) q (by omega)
 unfold Dq
 rw[X9 o]
 simp only[Int.toNat_natCast,c]
 refine h _ _ (Stp.own s _) ⟨(madeCells z.cells (n*sz)).toList,⟨by simp[madeCells], .inr ⟨w.heap.size,n,madeCells z.cells (n*sz),?_,Nat.le_refl _,heap_alloc_new w _,?_,?_,?_,?_⟩⟩,?_,fun j x f=>?_⟩ ?_
 ·simp
 ·simp
 ·simp[maxLen];omega
 ·simp[madeCells]
 ·rw[List.take_of_length_le (by simp[madeCells])]
 ·intro k m;cases m;exact s.none (Nat.le_refl _)
 ·have r:j<n:=by have:=(List.getElem?_eq_some_iff.1 f).1;simpa using this
  have p:x=x0:=by
   rw[List.getElem?_replicate] at f
   rw[if_pos r] at f
   exact (Option.some.inj f).symm
  subst p
  subst B
  rw[Q4Q z.cells n j r d]
  exact u
 ·intro k m;cases m;exact Nat.le_refl _
end Go.Emb
namespace Go.Proofs.YtjdiakhipmggjaaGreatDoor
open Go.Emb Go.RowKit Go.Kd Go.Hm
variable {w w' : World} {K : Value → World → Prop} {σ σ' : Q6} {hp tv : Value} {room : Int} {cs : List Cel} {l : List Cla}
theorem Q2G (ok:Ok l) {k:X0} (d:k.length≤U1) (i:Nat):(Xk l k i).length≤U1:=by
 unfold Xk
 split
 ·cases h:(Y6 l k)[i]? with
  | none=>rw[List.getD_eq_getElem?_getD,h];exact Nat.zero_le _
  | some f=>
   rw[List.getD_eq_getElem?_getD,h]
   have a:=List.mem_of_getElem? h
   unfold Y6 at a
   obtain ⟨c,b,a⟩:=List.mem_flatMap.1 a
   have:=((ok.nm c (Bf (by simpa using b))).2.1 f a).2
   exact Nat.le_trans this (by decide)
 ·unfold elem
  split
  ·unfold Kd.cutA;rw[List.length_take];omega
  ·exact Nat.zero_le _
theorem X2m (z:X2 w σ) (D:Glb σ) (hh:S4 σ hp tv room cs) (B:Tab σ tv l) (ok:Ok l) (g: ∀c∈cs,GoodC W5 l cs c) (h: ∀w' σ',Stp w σ w' σ'→K (.bool true) w'):Q1 P F.bA [hp] w K:=Aw (by
 unfold Dg
 have p:=hh
 obtain ⟨a,H,rfl,u,t⟩:=hh
 refine U7 z rfl fun q w1 σ1 b s=>?_
 refine X7 b.sat s rfl ?_
 rw[L9,fa]
 refine ld b.sat (u.lift ⟨b.le⟩) rfl ?_
 rw[Qb]
 refine Cv (fun _=>false) b.sat (t.up b) (fun c ds C K v o r f A=>Z7 (first:=[]) (caps:=[.pointer (some q)]) (Gw ?_)) fun C n=>?_
 ·unfold Lt
  refine Y9 o fun E J y d k=>?_
  refine X7 d.sat (s.up d) rfl ?_
  refine Y4 d.sat k f ?_
  have e:SLe σ y:=SLe.more ⟨b.le⟩ ⟨d.le⟩
  refine X1a d.sat (D.lift e) (p.lift e) (B.lift e) ok (X0e r ⟨d.le⟩) (fun i=>Q2G ok (by obtain ⟨_,_,_,h⟩:=r;exact h) i) (g c v) fun L M m=>?_
  refine We ?_
  exact A _ (d.trans m).bel
 ·have j:=b.trans (Stp.of_below b.sat n)
  have:cs.any (fun _=>false)=false:=by simp
  rw[this]
  refine We ?_
  exact h _ _ j)
theorem X31 {B:Nat} {D:Nat→Prop} {m v:Value} {vals:List Val} {k:X0} {ty:TypeId} {cb:List Bool} {A:Value→Value→World→Prop} (hs:X2 w σ) (hB:B≤w.heap.size) (h:RowsIs B D σ w m cs) (J:J8 B T.f 4 M5 σ w v vals) (hd: ∀j,v.ownBlock=some j→ ¬D j) (hk:k.length≤U1) (hl:cs.length≤10000000)
 (hh: ∀s d w' σ' D',Nxt (fun j=>m.ownBlock=some j) w σ w' σ'→(∀j,m.ownBlock=some j→D j)→RowsIs B D' σ' w' d (cs++[⟨k,vals⟩])→(∀j,D' j→D j∨v.ownBlock=some j∨w.heap.size≤j)→(∀j,D j→m.ownBlock≠some j→D' j)→A s d w'):
 buildSlice P T.g 1 [(0, .agg #[S k,v])] w (fun s w=>X3 P .append [T.g,T.g] ty cb [m,s] w (fun v' w=>A s v' w)):=by
 obtain ⟨vs,hq,n,ha,hD⟩:=h.ex
 obtain ⟨a,Q,E,_⟩:=(id J:J8 B T.f 4 M5 σ w v vals)
 have ae:v.cells= #[v]:=by rw[E];rfl
 refine P1 (R:=Q3C) (sz:=2) hs [.agg #[S k,v]] [(k,v)] rfl rfl (by simp[Value.cells]) rfl ⟨(⟨rfl,hk,a,_,Q,E⟩:Q3C σ (k,v) [S k,v]),trivial⟩ fun s w1 σ1 c L=>?_
 refine Q8M c.sat (Nat.le_trans hB c.bel.size) (hq.up c) L rfl (by rw[Ds n.1];simp;omega) (by rw[Ds n.1];simp;omega) fun d H W N O V=>?_
 have g: ∀j,m.ownBlock=some j→D j:=fun j b=>(hD j).2 ⟨m,by simp,b⟩
 have X:Nxt (fun j=>m.ownBlock=some j) w σ H σ1:=
  ⟨(Kpt.of_below c.bel).trans (W.mono fun j _ b=>b.1),⟨c.le⟩,c.old,N⟩
 have t: ∀j,v.ownBlock=some j→m.ownBlock≠some j:=fun j b e=>hd j b (g j e)
 have f: ∀j,d.ownBlock=some j→m.ownBlock=some j∨w1.heap.size≤j:=fun j b=>by
  rcases V with ⟨a',ac,e1,e2⟩ | ⟨_,hn⟩
  ·left;rw[e1];rw[e2] at b;cases a'<;>exact b
  ·exact .inr (hn j b)
 obtain ⟨y,U⟩:=List.pairwise_cons.1 ha
 have z: ∀i (p:i<vs.length) (r:i<cs.length),J8 B T.f 4 M5 σ1 H vs[i] cs[i].vals:=fun i p r=>(n.2 i p r).nx X fun j b e=>y _ (List.getElem_mem p) j e b
 have Y:J8 B T.f 4 M5 σ1 H v vals:=J.nx X fun j b e=>t j b e
 have Z: ∀u∈vs,∀j,u.ownBlock=some j→j<w.heap.size:=fun u hu j b=>by
  obtain ⟨i,p,rfl⟩:=List.getElem_of_mem hu
  exact ((n.2 i p (by rw[←n.1];exact p)).mem b).2.1
 refine hh s d H σ1 (fun j=> ∃u∈d::(vs++[v]),u.ownBlock=some j) X g ⟨vs++[v],?_,⟨by simp[n.1],fun i p r=>?_⟩,?_,fun j=>Iff.rfl⟩ ?_ ?_
 ·have e:Qx (vs++[v]) (cs++[⟨k,vals⟩])=Qx vs cs++[(k,v)]:=by
   unfold Qx
   rw[List.zipWith_append n.1];rfl
  rw[e];exact O
 ·by_cases o:i<vs.length
  ·have q:i<cs.length:=by rw[←n.1];exact o
   rw[List.getElem_append_left o,List.getElem_append_left q]
   exact z i o q
  ·have q: ¬i<cs.length:=by rw[←n.1];exact o
   have e1:i=vs.length:=by simp at p;omega
   rw[List.getElem_append_right (by omega),List.getElem_append_right (by omega)]
   simp only[List.getElem_singleton]
   exact Y
 ·refine List.pairwise_cons.2 ⟨fun u hu j b e=>?_,List.pairwise_append.2 ⟨U,List.pairwise_singleton _ _,fun u hu u2 C j b e=>?_⟩⟩
  ·rcases List.mem_append.1 hu with hu | hu
   ·rcases f j b with h1 | h1
    ·exact y u hu j h1 e
    ·have:=Z u hu j e;have:=c.bel.size;omega
   ·simp at hu;subst hu
    rcases f j b with h1 | h1
    ·exact t j e h1
    ·have:=(J.mem e).2.1;have:=c.bel.size;omega
  ·simp at C;subst C
   exact hd j e ((hD j).2 ⟨u,by simp[hu],b⟩)
 ·rintro j ⟨u,hu,b⟩
  rcases List.mem_cons.1 hu with rfl | hu
  ·rcases f j b with h1 | h1
   ·exact .inl (g j h1)
   ·right;right;have:=c.bel.size;omega
  ·rcases List.mem_append.1 hu with hu | hu
   ·exact .inl ((hD j).2 ⟨u,by simp[hu],b⟩)
   ·simp at hu;subst hu;exact .inr (.inl b)
 ·intro j b M
  obtain ⟨u,hu,b⟩:=(hD j).1 b
  rcases List.mem_cons.1 hu with rfl | hu
  ·exact absurd b M
  ·exact ⟨u,by simp[hu],b⟩
end Go.Proofs.YtjdiakhipmggjaaGreatDoor

namespace Go.Proofs.YtjdiakhipmggjaaGreatDoor
open Go.Emb Go.RowKit Go.Kd Go.Hm
variable {w : World} {K : Value → World → Prop} {σ : Q6}
end Go.Proofs.YtjdiakhipmggjaaGreatDoor

namespace Go.Proofs.YtjdiakhipmggjaaGreatDoor
open Go.Emb Go.RowKit Go.Kd Go.Hm
variable {w : World} {K : Value → World → Prop} {σ : Q6} {l : List Cla} {v : Value}
theorem K0 {n:X0} (s:X2 w σ) (m:Sl 8 V0 σ v l) (h:K (I (L6 (Z1 l n))) w):Q1 P F.b [v,S n] w K:=Au (by
 unfold Df
 refine U3 l.length (fun k w'=>w'=w∧ ∀j (g:j<l.length),j<k→ ¬l[j].name=n) ⟨rfl,fun j _ h=>by omega⟩ fun k w1 d z r=>?_
 obtain ⟨rfl,b⟩:=r
 refine Q8 m ?_
 refine Z2 ?_
 refine Q7 (fun i=>?_) (fun i=>?_)
 ·have a:k<l.length:=by simpa using i
  refine M7 m a fun p cells o u q=>?_
  obtain ⟨y,H,mv,rfl,C,D,B,A,E⟩:=q
  rw[fa]
  refine ld s o rfl ?_
  refine K2 ?_
  refine Q7 (fun f=>?_) (fun f=>?_)
  ·have f:l[k].name=n:=by simpa using f
   have:Z1 l n=some k:=by
    unfold Z1
    rw[List.findIdx?_eq_some_iff_getElem]
    exact ⟨a,by simpa using f,fun j g=>by simpa using b j (by omega) g⟩
   rw[this] at h
   exact h
  ·have f: ¬l[k].name=n:=by simpa using f
   refine O4 ?_
   refine Y5 m.max a ⟨rfl,fun j g t=>?_⟩
   by_cases e:j=k
   ·subst e;exact f
   ·exact b j g (by omega)
 ·have a: ¬k<l.length:=by simpa using i
  have:Z1 l n=none:=by
   unfold Z1
   rw[List.findIdx?_eq_none_iff]
   intro c i
   obtain ⟨j,g,rfl⟩:=List.getElem_of_mem i
   simpa using b j g (by omega)
  rw[this] at h
  exact h)
end Go.Proofs.YtjdiakhipmggjaaGreatDoor

namespace Go.Proofs.YtjdiakhipmggjaaGreatDoor
open Go.Emb Go.RowKit Go.Kd Go.Hm
variable {w : World} {K : Value → World → Prop} {σ : Q6} {l : List Cla} {v : Value}
theorem Q5Y {a:X0} (d:a.length≤U1) (h:K (S (base a).1) w):Q1 P F.aW [S a] w K:=Ax (by
 unfold Dh
 have c:=Q1H a
 have b:a.length≤140737488355328:=by simp only[U1] at d;omega
 rw[R4 X8]
 refine Se a b ?_
 (try simp only[↓Mr,Mr,Mb,reduceIte])
 rw[F9 (n:=2*((base a).2:Int)) (by omega) (by omega),F9 (by omega) (by omega),T1 X8 (by omega) (by omega)]
 rw[show ((a.length:Int)-2*((base a).2:Int)).toNat=a.length-2*(base a).2 from by omega,Q4u]
 exact h)
theorem Dt {s:X0} (f:X2 w σ) (g:Sl 8 V0 σ v l) (b:s.length≤U1) (h:K (.bool (N1 l s)) w):Q1 P F.a0 [v,S s] w K:=Q0e (by
 unfold Db
 have c:s.length≤140737488355328:=by simp only[U1] at b;omega
 unfold N1 at h
 refine K2 ?_
 by_cases a:s=H7
 ·have:decide (s=[110,117,108,108])=true:=by rw[decide_eq_true_eq];exact a
  simp only[this,↓M1,M1,Mb,reduceIte]
  simp only[a,decide_true,Bool.true_or] at h
  exact h
 ·have:decide (s=[110,117,108,108])=false:=by rw[decide_eq_false_iff_not];exact a
  simp only[this,↓M1,M1,Mb,reduceIte]
  simp only[a,decide_false,Bool.false_or] at h
  refine Jy s c ?_
  cases d:right s with
  | false=>(try simp only[↓M1,M1,Mb,reduceIte]);simpa [d] using h
  | true=>
   (try simp only[↓M1,M1,Mb,reduceIte])
   refine Q5Y b ?_
   (try simp only[↓M1,M1,Mb,reduceIte])
   refine El _ ?_
   simp only[d,Bool.true_and] at h
   cases e:plain (base s).1 with
   | true=>(try simp only[↓M1,M1,Mb,reduceIte]);simpa [e] using h
   | false=>
    (try simp only[↓M1,M1,Mb,reduceIte])
    refine Q5Y b ?_
    (try simp only[↓M1,M1,Mb,reduceIte])
    refine K0 f g ?_
    refine P5 ?_
    rw[T7]
    (try simp only[↓M1,M1,Mb,reduceIte])
    simpa [e,Q0O] using h)
end Go.Proofs.YtjdiakhipmggjaaGreatDoor

namespace Go.Proofs.YtjdiakhipmggjaaGreatDoor
open Go.Emb Go.RowKit Go.Kd Go.Hm
variable {w : World} {K : Value → World → Prop} {σ : Q6} {l : List Cla} {v : Value}
theorem Q9e {s:X0} (c:X2 w σ) (d:Sl 8 V0 σ v l) (b:s.length≤U1) (h:K (.bool (O3 l s)) w):Q1 P F.bt [v,S s] w K:=Ko (by
 unfold Lx
 unfold O3 at h
 refine Wl ?_
 have e:decide (s=[110,117,108,108])=decide (s=H7):=rfl
 rw[e]
 cases a:decide (s=H7) with
 | true=>
  rw[a] at h
  (try simp only[↓M1,M1,Mb,reduceIte])
  exact h
 | false=>
  rw[a] at h
  (try simp only[↓M1,M1,Mb,reduceIte])
  refine Dt c d b ?_
  (try simp only[↓M1,M1,Mb,reduceIte])
  simpa using h)
end Go.Proofs.YtjdiakhipmggjaaGreatDoor

namespace Go.Proofs.YtjdiakhipmggjaaGreatDoor
open Go.Emb Go.RowKit Go.Kd Go.Hm
variable {w : World} {K : Value → World → Prop} {σ : Q6} {l : List Cla} {v : Value}
def Ca (c:Cla) (n:X0):Option Nat:=c.methods.findIdx? fun m=>decide (m.name=n)
theorem Q7K {c:Cla} {cs:List Value} {n:X0} (B:X2 w σ) (o:V0 σ c cs) (h: ∀w' z,Stp w σ w' z→K (I (L6 (Ca c n))) w'):Q1 P F.b1 [.agg cs.toArray,S n] w K:=Q0B (by
 unfold Er
 obtain ⟨L,X,mv,rfl,Q,R,r,O,W⟩:=o
 refine Y9 B fun q w0 σ0 a t=>?_
 have r:=r.up a
 refine U3 c.methods.length (fun k w'=>w'=w0∧ ∀j (i:j<c.methods.length),j<k→ ¬c.methods[j].name=n) ⟨rfl,fun j _ h=>by omega⟩ fun k w1 d N A=>?_
 obtain ⟨rfl,f⟩:=A
 rw[fa]
 refine ld a.sat t rfl ?_
 refine Q8 r ?_
 refine Z2 ?_
 refine Q7 (fun o=>?_) (fun o=>?_)
 ·have b:k<c.methods.length:=by simpa using o
  rw[fa]
  refine ld a.sat t rfl ?_
  refine M7 r b fun p cells s D u=>?_
  obtain ⟨pv,M,H,rfl,V,E,Y,U,J⟩:=u
  rw[fa]
  refine ld a.sat s rfl ?_
  refine K2 ?_
  refine Q7 (fun g=>?_) (fun g=>?_)
  ·have g:c.methods[k].name=n:=by simpa using g
   have:Ca c n=some k:=by
    unfold Ca
    rw[List.findIdx?_eq_some_iff_getElem]
    exact ⟨b,by simpa using g,fun j i=>by simpa using f j (by omega) i⟩
   rw[this] at h
   exact h _ _ a
  ·have g: ¬c.methods[k].name=n:=by simpa using g
   refine O4 ?_
   refine Y5 r.max b ⟨rfl,fun j i C=>?_⟩
   by_cases e:j=k
   ·subst e;exact g
   ·exact f j i (by omega)
 ·have b: ¬k<c.methods.length:=by simpa using o
  have:Ca c n=none:=by
   unfold Ca
   rw[List.findIdx?_eq_none_iff]
   intro m y
   obtain ⟨j,i,rfl⟩:=List.getElem_of_mem y
   simpa using f j i (by omega)
  rw[this] at h
  exact h _ _ a)
end Go.Proofs.YtjdiakhipmggjaaGreatDoor

namespace Go.Proofs.YtjdiakhipmggjaaGreatDoor
open Go.Emb Go.RowKit Go.Kd Go.Hm
variable {w : World} {K : Value → World → Prop} {σ : Q6} {l : List Cla} {v : Value}
theorem Bj {n:X0} {d:Cla} (b:X2 w σ) (f:Sl 8 V0 σ v l) (e:lk l n=some d) (h: ∀i:Nat,l[i]? =some d→Z1 l n=some i→K (I i) w):Q1 P F.b [v,S n] w K:=by
 obtain ⟨_,_,i,a,c⟩:=V4 e
 refine K0 b f ?_
 rw[a];exact h i c a
theorem Q11 {n:X0} (b:X2 w σ) (e:Sl 8 V0 σ v l) (d:lk l n=none) (h:K (I (-1)) w):Q1 P F.b [v,S n] w K:=by
 refine K0 b e ?_
 cases f:Z1 l n with
 | none=>exact h
 | some i=>obtain ⟨c,a,_⟩:=Zm f;rw[d] at a;cases a
end Go.Proofs.YtjdiakhipmggjaaGreatDoor

namespace Go.Proofs.YtjdiakhipmggjaaGreatDoor
open Go.Emb Go.RowKit Go.Kd Go.Hm
variable {w : World} {K : Value → World → Prop} {σ : Q6} {l : List Cla} {v : Value}
theorem X0A:decide ((-1:Int)<0)=true:=by decide
theorem Q5q (i:Nat):decide ((i:Int)<0)=false:=by rw[decide_eq_false_iff_not];omega
theorem Q8Z {c:Cla} {cs:List Value} (hs:X2 w σ) (Y:Sl 8 V0 σ v l) (B:V0 σ c cs) (h: ∀w' σ',Stp w σ w' σ'→K (I (O8 l c)) w'):Q1 P F.be [v, .agg cs.toArray] w K:=Fy (by
 unfold Lp
 obtain ⟨lv,fv,mv,rfl,z,f2,f3,f4,f5⟩:=B
 refine Y9 hs fun q w0 σ0 o N=>?_
 have z:=z.up o
 have b:=Y.up o
 have a:=o.sat
 have t: ∀n:Nat,O8 l c=n→K (I n) w0:=fun n e=>by rw[←e];exact h _ _ o
 clear h
 (try simp only[↓M1,M1,Mb,reduceIte])
 refine ld a N rfl ?_
 have m:Qt l c.super=true→K (I (61:Nat)) w0:=fun e=>t 61 (by unfold O8;rw[if_pos e])
 cases J:lk l c.super with
 | none=>
  refine Q11 a b J ?_
  simp only[X0A,↓M1,M1,Mb,reduceIte]
  exact m (by unfold Qt;rw[J])
 | some d=>
  refine Bj a b J fun i hi hf=>?_
  obtain ⟨u,M⟩:=List.getElem?_eq_some_iff.1 hi
  simp only[Q5q,↓M1,M1,Mb,reduceIte]
  refine Y3 b u ?_
  obtain ⟨af,ai,ah,O,r1⟩:=b.elC u
  rw[M] at O
  (try simp only[↓M1,M1,Mb,reduceIte])
  refine ld a O rfl ?_
  have g:Qt l c.super=(d.iface||d.fin):=by unfold Qt;rw[J]
  cases H:d.iface with
  | true=>
   rw[H] at g
   (try simp only[↓M1,M1,Mb,reduceIte])
   exact m (by rw[g];rfl)
  | false=>
   rw[H] at g
   (try simp only[↓M1,M1,Mb,reduceIte])
   refine Y3 b u ?_
   (try simp only[↓M1,M1,Mb,reduceIte])
   refine ld a O rfl ?_
   cases D:d.fin with
   | true=>
    rw[D] at g
    (try simp only[↓M1,M1,Mb,reduceIte])
    exact m (by rw[g];rfl)
   | false=>
    rw[D] at g
    have A:Qt l c.super=false:=g
    (try simp only[↓M1,M1,Mb,reduceIte])
    refine U3 c.like.length (fun k w'=>w'=w0∧(c.like.take k).any (R5 l)=false) ⟨rfl,rfl⟩ fun k w1 d1 hk Q=>?_
    obtain ⟨hw,s⟩:=Q
    subst hw
    (try simp only[↓M1,M1,Mb,reduceIte])
    refine ld a N rfl ?_
    refine Q8 z ?_
    refine Z2 ?_
    refine Q7 (fun B=>?_) (fun B=>?_)
    ·have f:k<c.like.length:=by simpa using B
     have r:R5 l c.like[k]=true→K (I (62:Nat)) w1:=fun e=>t 62 (by
      unfold O8;rw[A,C0 f e];rfl)
     have y:R5 l c.like[k]=false→(c.like.take (k+1)).any (R5 l)=false:=fun e=>by rw[L3 f,s,e];rfl
     (try simp only[↓M1,M1,Mb,reduceIte])
     refine ld a N rfl ?_
     refine Y3 z f ?_
     obtain ⟨p2,_⟩:=z.elS f
     refine X7 a p2 rfl ?_
     cases L:lk l c.like[k] with
     | none=>
      refine Q11 a b L ?_
      simp only[X0A,↓M1,M1,Mb,reduceIte]
      exact r (by unfold R5;rw[L])
     | some e=>
      refine Bj a b L fun j V ad=>?_
      obtain ⟨C,R⟩:=List.getElem?_eq_some_iff.1 V
      simp only[Q5q,↓M1,M1,Mb,reduceIte]
      refine Y3 b C ?_
      obtain ⟨W,X,Z,U,r3⟩:=b.elC C
      rw[R] at U
      (try simp only[↓M1,M1,Mb,reduceIte])
      refine ld a U rfl ?_
      have p:R5 l c.like[k]= !e.iface:=by unfold R5;rw[L]
      cases E:e.iface with
      | true=>
       rw[E] at p
       (try simp only[↓M1,M1,Mb,reduceIte])
       exact Y5 z.max f ⟨rfl,y p⟩
      | false=>
       rw[E] at p
       (try simp only[↓M1,M1,Mb,reduceIte])
       exact r p
    ·have f: ¬k<c.like.length:=by simpa using B
     rw[E0 f] at s
     exact t 0 (by unfold O8;rw[A,s];rfl))
end Go.Proofs.YtjdiakhipmggjaaGreatDoor

namespace Go.Proofs.YtjdiakhipmggjaaGreatDoor
open Go.Emb Go.RowKit Go.Kd Go.Hm
variable {w : World} {K : Value → World → Prop} {σ : Q6} {l : List Cla} {v : Value}
theorem Q6N {n:X0} (h:lk l n=none):Y6 l n=[]:=by unfold Y6;rw[Yz h];rfl
theorem Q79 (a:Jb l) {n:X0} {c:Cla} (h:lk l n=some c):Y6 l n=Y6 l c.super++c.fields:=by
 unfold Y6
 rw[T9 a,h]
 simp
theorem Q2U (a: ∀c∈l,Qn c) (n:X0):(Y6 l n).length≤(l.length+1)*1000000:=by
 unfold Y6
 have b:=Vv (fun c:Cla=>c.fields) 1000000 (chain l n).reverse fun c e=>(a c (Bf (by simpa using e))).2.1
 have d:=Be l n
 rw[List.length_reverse] at b
 exact Nat.le_trans b (Nat.mul_le_mul_right _ d)
theorem Q2n {n:X0} (b:lk l n=none) (a:X2 w σ) (e:Sl 8 V0 σ v l) (h: ∀c w' d,Stp w σ w' d→Sl 3 R8 d c (Y6 l n)→K c w'):Q1 P F.p [v,S n] w K:=Lj (by
 unfold Xm
 refine Q11 a e b ?_
 simp only[X0A,↓M1,M1,Mb,reduceIte]
 exact h _ _ _ (Stp.refl a) (by rw[Q6N b];exact Sl.nil))
theorem Q7c (p:Jb l) (hl:l.length≤1000) (f: ∀c∈l,Qn c): ∀(k:Nat) {n:X0} {w:World} {σ:Q6} {K:Value→World→Prop},(lk l n=none∨P0 l n<k)→X2 w σ→Sl 8 V0 σ v l→
 (∀m w' g,Stp w σ w' g→Sl 3 R8 g m (Y6 l n)→K m w')→Q1 P F.p [v,S n] w K:=by
 intro k
 induction k with
 | zero=>
  intro n w σ K hk j b h
  rcases hk with hk | hk
  ·exact Q2n hk j b h
  ·omega
 | succ k ih=>
  intro n w σ K hk j b h
  cases a:lk l n with
  | none=>exact Q2n a j b h
  | some c=>
   have hk:P0 l n<k+1:=by
    rcases hk with hk | hk
    ·rw[a] at hk;cases hk
    ·exact hk
   refine Lj ?_
   unfold Xm
   refine Bj j b a fun i hi hf=>?_
   obtain ⟨C,y⟩:=List.getElem?_eq_some_iff.1 hi
   simp only[Q5q,↓M1,M1,Mb,reduceIte]
   obtain ⟨lv,fv,mv,p1,O⟩:=b.elC C
   rw[y] at p1 O
   obtain ⟨_,Q,_,_,_⟩:=O.parts
   have q:lk l c.super=none∨P0 l c.super<k:=by
    cases hu:lk l c.super with
    | none=>exact .inl rfl
    | some d=>
     have:=Xs p a (u:=c.super) (by simp[U4]) hu
     right;omega
   have V:=Q2U f c.super
   have ag:=(f c (V4 a).2.1).2.1
   have N:(l.length+1)*1000000≤1001*1000000:=Nat.mul_le_mul_right _ (by omega)
   refine U2 j ?_
   (repeat refine J7 Xa ?_)
   refine Q34 (R:=R8) (by decide) ?_
   (repeat refine J7 Xa ?_)
   refine Wi (w:=w) (σ:=σ) (Φ:=fun g v=>Sl 3 R8 g v (Y6 l c.super)) (fun t w o e=>?_) ?_
   ·subst e;exact ih q o.sat b fun m w' g hk J=>Rr o hk J
   refine Q1A (w:=w) (σ:=σ) (R:=R8) (sz:=3) (e:=T.n) (Y6 l c.super) (fun D r w o M z=>?_) ?_
   ·obtain ⟨k1,W,e1⟩:=M
    obtain ⟨σ2,k2,s2⟩:=z
    exact Q7H k1 W e1 k2.sat s2 (fun _ _ h=>h) rfl (by omega) (by omega) fun m w' hk p=>Q3l o hk p
   (repeat refine J7 Xa ?_)
   rintro U aj an am D ak r Y Z w2 ad rfl rfl rfl rfl _ rfl _ ⟨B,H⟩ rfl
   refine Wh B H Q rfl (by omega) (by omega) fun m w3 X s A _=>?_
   obtain ⟨σ4,E,L,_⟩:=A.keep s
   exact h _ _ _ E (by rw[Q79 p a];exact L)
theorem Is {n:X0} (e:X2 w σ) (f:Sl 8 V0 σ v l) (g:Jb l) (i:l.length≤1000) (a: ∀c∈l,Qn c) (h: ∀b w' d,Stp w σ w' d→Sl 3 R8 d b (Y6 l n)→K b w'):Q1 P F.p [v,S n] w K:=
 Q7c g i a _ (.inr (Nat.lt_succ_self _)) e f h
theorem Q9h {n f:X0} (E:X2 w σ) (y:Sl 8 V0 σ v l) (L:Jb l) (A:l.length≤1000) (u: ∀c∈l,Qn c) (h: ∀w' B,Stp w σ w' B→K (I (L6 (Jw l n f))) w'):Q1 P F.bs [v,S n,S f] w K:=Pd (by
 unfold Na
 refine Is E y L A u fun N w1 σ1 r b=>?_
 have s: ∀o,Jw l n f=o→K (I (L6 o)) w1:=fun o e=>by rw[←e];exact h _ _ r
 unfold Jw at s
 generalize Y6 l n=i at b s
 refine U3 i.length (fun k w'=>w'=w1∧ ∀j (q:j<i.length),j<k→ ¬i[j].name=f) ⟨rfl,fun j _ h=>by omega⟩ fun k O d M D=>?_
 obtain ⟨J,g⟩:=D
 subst J
 refine Q8 b ?_
 refine Z2 ?_
 refine Q7 (fun t=>?_) (fun t=>?_)
 ·have a:k<i.length:=by simpa using t
  refine Y3 b a ?_
  obtain ⟨C,_⟩:=b.elF a
  (try simp only[↓M1,M1,Mb,reduceIte])
  refine ld r.sat C rfl ?_
  refine K2 ?_
  refine Q7 (fun p=>?_) (fun p=>?_)
  ·have p:i[k].name=f:=by simpa using p
   exact s (some k) (by
    rw[List.findIdx?_eq_some_iff_getElem]
    exact ⟨a,by simpa using p,fun j q=>by simpa using g j (by omega) q⟩)
  ·have p: ¬i[k].name=f:=by simpa using p
   (try simp only[↓M1,M1,Mb,reduceIte])
   refine Y5 b.max a ⟨rfl,fun j q H=>?_⟩
   by_cases e:j=k
   ·subst e;exact p
   ·exact g j q (by omega)
 ·have a: ¬k<i.length:=by simpa using t
  exact s none (by
   rw[List.findIdx?_eq_none_iff]
   intro m z
   obtain ⟨j,q,rfl⟩:=List.getElem_of_mem z
   simpa using g j q (by omega)))
end Go.Proofs.YtjdiakhipmggjaaGreatDoor

namespace Go.Emb
open Go.RowKit Go.Hm
variable {w w' : World} {σ σ' : Q6}
theorem Nxt.of_upd {b:Nat} (c:X2 w σ) (a:Upd w b w') (d:σ b=none):Nxt (fun j=>j=b) w σ w' σ:=
 ⟨Kpt.of_upd a rfl,SLe.refl _,fun _ _=>rfl,(Kpt.of_upd (D:=fun j=>j=b) a rfl).sat c fun k e=>e▸d⟩
theorem Nxt.chain {D E:Nat→Prop} {w1 d:World} {σ1 c:Q6} (h:Nxt D w σ w1 σ1) (k:Nxt E w1 σ1 d c) (f: ∀j,j<w.heap.size→E j→D j):Nxt D w σ d c:=
 ⟨⟨k.kp.os.trans h.kp.os,k.kp.tape.trans h.kp.tape,k.kp.output.trans h.kp.output,Nat.le_trans h.kp.size k.kp.size,fun j a b=>(k.kp.block j (Nat.lt_of_lt_of_le a h.kp.size) fun e=>b (f j a e)).trans (h.kp.block j a b)⟩,h.le.more k.le,fun j a=>(k.old j (Nat.lt_of_lt_of_le a h.kp.size)).trans (h.old j a),k.sat⟩
end Go.Emb
namespace Go.Proofs.YtjdiakhipmggjaaGreatDoor
open Go.Emb Go.RowKit Go.Kd Go.Hm
variable {w w' : World} {K : Value → World → Prop} {σ σ' : Q6} {hp tv : Value} {room : Int} {cs : List Cel} {l : List Cla}
theorem RowsIs.shape {B:Nat} {D:Nat→Prop} {b:Value} (h:RowsIs B D σ w b cs):b.cells= #[b]∧b.oneCell'=true:=by
 obtain ⟨vs,d,_⟩:=h.ex
 obtain ⟨a,c,rfl,_⟩:=d
 exact ⟨rfl,rfl⟩
theorem RowsIs.len {B:Nat} {D:Nat→Prop} {c:Value} (h:RowsIs B D σ w c cs): ∃a b,c= .slice a cs.length b:=by
 obtain ⟨vs,e,d,_⟩:=h.ex
 obtain ⟨a,b,rfl,_⟩:=e
 exact ⟨a,b,by rw[Ds d.1]⟩
theorem X1r {B:Nat} {D:Nat→Prop} {v:Value} {vals:List Val} {k:X0} (hs:X2 w σ) (hB:B≤w.heap.size) (h:HeapIs B D σ w hp tv room cs) (z:J8 B T.f 4 M5 σ w v vals) (y: ∀j,v.ownBlock=some j→ ¬D j) (hk:k.length≤U1) (hl:Z6 cs+(1+(vals.length:Int))≤1048576)
 (hh: ∀w' σ' D',Nxt D w σ w' σ'→HeapIs B D' σ' w' hp tv room (cs++[⟨k,vals⟩])→(∀j,D' j→D j∨v.ownBlock=some j∨w.heap.size≤j)→K (.tuple #[I cs.length,I 0]) w'):Q1 P F.b6 [hp,S k,v] w K:=Q1Q (by
 obtain ⟨b,Y,E,rfl,O,r,X,hE,hD⟩:=h.ex
 have ac:=Qf cs
 have Z:=D9 cs
 have c:D b:=(hD b).2 (.inl rfl)
 have H: ∃a f,v= .slice a vals.length f:=by obtain ⟨a,f,e,_⟩:=z;exact ⟨a,f,e⟩
 have R:=r.lt
 unfold Hr
 rw[L9,fa]
 refine Ye r rfl ?_
 refine Q1o z ?_
 refine Xp ⟨by omega,by omega⟩ ?_
 refine Xp ⟨by omega,by omega⟩ ?_
 rw[L9,fa]
 refine Ud r (by simp) rfl rfl fun w1 t n=>?_
 have u:=Nxt.of_upd hs t r.1
 have J:=X.nx u fun j hj e=>hE (e▸hj)
 have C:=z.nx u fun j hj e=>y j hj (e▸c)
 have M:=u.sat
 rw[L9,fa]
 refine Ye n rfl ?_
 refine W2 (cells:= #[S k,v]) (by obtain ⟨a,f,rfl⟩:=H;kernel_rfl) ?_
 refine X31 M (by rw[t.size];exact hB) J C (fun j hj e=>y j hj ((hD j).2 (.inr e))) hk (by omega) fun s ai w2 U L N g d m ag=>?_
 have p: ∀j,Y.ownBlock=some j→j≠b:=fun j hj e=>hE (e▸g j hj)
 have q:=n.nx N fun e=>p b e rfl
 have i: ¬L b:=fun e=>by
  rcases m b e with e | e | e
  ·exact hE e
  ·exact y b e c
  ·rw[t.size] at e;omega
 rw[L9,fa]
 refine Ud q (by simp) d.shape.1 d.shape.2 fun V u3 o=>?_
 have W:=Nxt.of_upd N.sat u3 q.1
 have A:=d.nx W fun j hj e=>i (e▸hj)
 rw[L9,fa]
 refine Ye o rfl ?_
 obtain ⟨a2,Q,rfl⟩:=d.len
 rw[Q1r]
 refine Zg ⟨by simp only[List.length_append,List.length_cons,List.length_nil];omega,by simp only[List.length_append,List.length_cons,List.length_nil];omega⟩ ?_
 have e1:(((cs++[(⟨k,vals⟩:Cel)]).length:Nat):Int)-1=cs.length:=by simp
 rw[e1]
 have e2:Z6 (cs++[(⟨k,vals⟩:Cel)])=Z6 cs+(1+(vals.length:Int)):=by rw[Qo];simp[Z6]
 have NN:Nxt D w σ V U:=((u.mono fun j _ e=>e▸c).chain N fun j _ e=>(hD j).2 (.inr (g j e))).chain W fun j _ e=>e▸c
 refine hh V U (fun j=>j=b∨L j) NN ⟨b,_,L,rfl,O,?_,A,i,fun j=>Iff.rfl⟩ fun j hj=>?_
 ·rw[e2];exact o
 ·rcases hj with rfl | hj
  ·exact .inl c
  ·rcases m j hj with e | e | e
   ·exact .inl ((hD j).2 (.inr e))
   ·exact .inr (.inl e)
   ·rw[t.size] at e;exact .inr (.inr e))
theorem HeapIs.tab {B:Nat} {D:Nat→Prop} (h:HeapIs B D σ w hp tv room cs): ∃b a E,hp= .pointer (some ⟨b,0,none⟩)∧Y1 σ w b [tv,I room,I (Z6 cs),a]∧RowsIs B E σ w a cs:=by
 obtain ⟨b,a,E,e,d,f,c,hE,hD⟩:=h.ex
 exact ⟨b,a,E,e,f,c⟩
theorem Q6h {B:Nat} {D:Nat→Prop} (b:X2 w σ) (h:HeapIs B D σ w hp tv room cs) (i:0≤W6 room cs) (g:room≤1048576) (e: ∀w',Stp w σ w' σ→K (I (W6 room cs)) w'):Q1 P F.ae [hp] w K:=by
 obtain ⟨j,c,f,a,_⟩:=h.freeze b
 exact Q7M c a i g fun w' d=>e w' (Stp.of_below b d)
theorem Gu (k:X0) {σ:Q6}:M5 σ (L7 k) (Value.agg [I (L7 k).sort,I (L7 k).n,S (L7 k).s,I (L7 k).ref].toArray).cells.toList:=by
 refine ⟨rfl,?_⟩
 unfold L7
 split
 ·decide
 split
 ·decide
 split
 ·decide
 ·decide
theorem Q0l (a: ∀c∈l,Qn c) (b:l.length≤100000) (n:X0):(Y6 l n).length≤1000000000000:=by
 have h:=Q2U a n
 have:(l.length+1)*1000000≤100001*1000000:=Nat.mul_le_mul_right _ (by omega)
 omega
def atM (cs:List Cel) (e:Int):Int:=if e=0 then cs.length else 0
set_option maxHeartbeats 1000000 in
theorem Q6u {B:Nat} {D:Nat→Prop} {k:X0} (hs:X2 w σ) (hB:B≤w.heap.size) (h:HeapIs B D σ w hp tv room cs) (ht:Tab σ tv l) (ok:Ok l) (hk:k.length≤U1) (h0:0≤W6 room cs) (h1:room≤1048576)
 (hh: ∀w' σ' D',Nxt D w σ w' σ'→HeapIs B D' σ' w' hp tv room (Zt l room cs k).1→(∀j,D' j→D j∨w.heap.size≤j)→K (.tuple #[I (atM cs (Zt l room cs k).2),I (Zt l room cs k).2]) w'):Q1 P F.aI [hp,S k] w K:=Kh (by
 obtain ⟨b,lv,E,rfl,hm,hr⟩:=h.tab
 unfold Nd
 rw[L9,fa]
 refine Ye (i:=0) hm rfl ?_
 refine Q4w hs ht fun w1 σ1 c=>?_
 refine We ?_
 unfold Zt at hh
 have ad:=ht.lift ⟨c.le⟩
 cases ho:A0 l k with
 | false=>
  rw[ho] at hh
  simp only[if_pos] at hh
  refine J4 ?_
  exact hh w1 σ1 D (.of_stp c) (h.up c) fun j p=> .inl p
 | true=>
  rw[ho] at hh
  simp only[Bool.true_eq_false,if_false] at hh
  refine Z9 ?_
  rw[L9,fa]
  refine Ye (i:=0) (hm.up c) rfl ?_
  refine Ip c.sat ad ok.acy ok.len ok.sm fun fv w2 Q A U=>?_
  have v:=c.trans A
  have Y:=U.max
  refine Q8 U ?_
  have ag:=Q0l ok.sm ok.len k
  refine Xp ⟨by omega,by omega⟩ ?_
  refine Q6h A.sat (h.up v) h0 h1 fun M z=>?_
  have t:=v.trans z
  have C:=U.up z
  rw[Rn]
  by_cases N:W6 room cs<1+((Y6 l k).length:Int)
  ·rw[if_pos N] at hh
   have e:decide (1+((Y6 l k).length:Int)>W6 room cs)=true:=decide_eq_true N
   rw[e]
   refine J4 ?_
   exact hh M Q D (.of_stp t) (h.up t) fun j p=> .inl p
  rw[if_neg N] at hh
  have e:decide (1+((Y6 l k).length:Int)>W6 room cs)=false:=decide_eq_false N
  rw[e]
  refine Z9 ?_
  refine Q8 C ?_
  have o:=t.bel.size
  refine E8 (Y6 l k).length (fun n x w'=> ∃σ',Stp M Q w' σ'∧V6 M.heap.size T.f 4 M5 σ' w' x (((Y6 l k).take n).map fun f=>L7 f.kind)) ⟨Q,Stp.refl z.sat,V6.nil⟩ fun n x w4 d hn L=>?_
  obtain ⟨σ4,g,r⟩:=L
  refine Z2 ?_
  refine Q7 (fun W=>?_) (fun W=>?_)
  ·have m:n<(Y6 l k).length:=by simpa using W
   have H:=C.up g
   refine Y3 H m ?_
   obtain ⟨p1,r1⟩:=H.elF m
   refine Y4 g.sat p1 rfl ?_
   refine Y8 g.sat (by rfl) rfl (Rep.one (R:=R8) r1) fun q w5 σ5 u aa=>?_
   rw[fa]
   refine ld u.sat aa rfl ?_
   refine Q5y u.sat fun w6 σ6 J=>?_
   have O:=(g.trans u).trans J
   have X:=(r.up u).up J
   refine Ug (R:=M5) (x:=L7 (Y6 l k)[n].kind) O X (Gu _) rfl rfl rfl (by rw[List.length_map,List.length_take];omega) (by rw[List.length_map,List.length_take];omega) fun s v' w7 V an ab Z _=>?_
   refine O4 ?_
   refine J5 Y m ⟨V,ab,?_⟩
   rw[List.take_add_one,List.getElem?_eq_getElem m,List.map_append]
   exact Z
  ·have m: ¬n<(Y6 l k).length:=by simpa using W
   rw[List.take_of_length_le (by omega)] at r
   have a:=t.trans g
   have y: ∀j,x.ownBlock=some j→M.heap.size≤j:=fun j p=>(r.mem j p).1
   refine X1r g.sat (Nat.le_trans hB a.bel.size) (h.up a) ((J8.of_acc r).mono (Nat.le_trans hB o)) (fun j p hD=>by
    have:=(h.mem hD).2.1;have:=y j p;omega) hk (by rw[List.length_map];unfold W6 at*;omega) fun w7 V D' N7 h7 ac=>?_
   refine J6 (vs:=[_,_]) rfl ?_
   refine J6 (vs:=[_,_]) rfl ?_
   refine hh w7 V D' ((Nxt.of_stp a).chain N7 fun j _ e=>e) h7 fun j p=>?_
   rcases ac j p with e | e | e
   ·exact .inl e
   ·right;have:=y j e;omega
   ·right;have:=a.bel.size;omega)
end Go.Proofs.YtjdiakhipmggjaaGreatDoor

namespace Go.Proofs.YtjdiakhipmggjaaGreatDoor
open Go.Emb Go.RowKit Go.Kd Go.Hm
variable {w w' : World} {K : Value → World → Prop} {σ σ' : Q6} {hp tv : Value} {room : Int} {cs : List Cel} {l : List Cla}
def part (m n:Nat) (z:Val):List Val:=(List.range m).map fun i=>if i<n then z else Val.zero
theorem X05 (m:Nat) (z:Val):part m 0 z=List.replicate m Val.zero:=by
 refine List.ext_getElem (by simp[part]) fun i b a=>by simp[part]
theorem X0D (m:Nat) (z:Val):part m m z=List.replicate m z:=by
 refine List.ext_getElem (by simp[part]) fun i a b=>?_
 have:i<m:=by simpa [part] using a
 simp[part,this]
theorem X0F {m n:Nat} (z:Val):(part m n z).set n z=part m (n+1) z:=by
 refine List.ext_getElem (by simp[part]) fun i b a=>?_
 simp only[part,List.getElem_set,List.getElem_map,List.getElem_range]
 by_cases e:n=i
 ·subst e;simp
 ·rw[if_neg e]
  by_cases h:i<n
  ·simp[h,Nat.lt_succ_of_lt h]
  ·have: ¬i<n+1:=by omega
   simp[h,this]
theorem Q6r {e:X0} (h:F6 l e=true):right e=true:=by
 simp only[F6,Bool.and_eq_true,Bool.not_eq_true',decide_eq_false_iff_not] at h
 have:=h.1.2
 simp only[N1,Bool.or_eq_true,Bool.and_eq_true,decide_eq_true_eq] at this
 rcases this with h1 | h1
 ·exact absurd h1 h.1.1
 ·exact h1.1
theorem X21 {e:X0} (h:right e=true):Ya e≤3:=by
 unfold Ya
 rw[if_pos h]
 simp only[right,Bool.and_eq_true,decide_eq_true_eq] at h
 exact h.1
set_option maxHeartbeats 1000000 in
theorem Q7A {B:Nat} {D:Nat→Prop} {e:X0} {n:Int} (hs:X2 w σ) (hB:B≤w.heap.size) (h:HeapIs B D σ w hp tv room cs) (ht:Tab σ tv l) (hk:e.length≤U1) (h0:0≤W6 room cs) (h1:room≤1048576)
 (hh: ∀w' σ' D',Nxt D w σ w' σ'→HeapIs B D' σ' w' hp tv room (Zp l room cs e n).1→(∀j,D' j→D j∨w.heap.size≤j)→K (.tuple #[I (atM cs (Zp l room cs e n).2),I (Zp l room cs e n).2]) w'):Q1 P F.aP [hp,S e,I n] w K:=Ab (by
 obtain ⟨b,lv,E,rfl,hm,hr⟩:=h.tab
 unfold Da
 refine X4r e (Nat.le_trans hk (by decide)) fun w1 ah=>?_
 have r:=Stp.of_below hs ah
 unfold Zp at hh
 have g: ∀{L C},Stp w σ L C→F6 l e=false→K (.tuple #[I 0,I 91]) L:=fun {L C} hS V=>by
  rw[V] at hh
  simp only[if_pos] at hh
  exact hh L C D (.of_stp hS) (h.up hS) fun j t=> .inl t
 cases q:(right e&&decide (Ya e≠3)) with
 | false=>
  have V:F6 l e=false:=by
   cases hx:F6 l e with
   | false=>rfl
   | true=>
    have hr:=Q6r hx
    simp only[F6,Bool.and_eq_true,decide_eq_true_eq] at hx
    rw[hr,Bool.true_and,decide_eq_false_iff_not] at q
    omega
  simp only[Bool.false_eq_true,if_false]
  (try simp only[↓M1,M1,Mb,reduceIte])
  simp only[show decide ((30:Int)=0)=false from by decide,Bool.not_false,↓M1,M1,Mb,reduceIte]
  exact g r V
 | true=>
  simp only[if_true]
  (try simp only[↓M1,M1,Mb,reduceIte])
  simp only[decide_true,Bool.not_true,↓M1,M1,Mb,reduceIte]
  refine Ye (i:=0) (hm.up r) rfl ?_
  refine Q0D r.sat ht hk fun L C M=>?_
  have a:=r.trans M
  simp only[Bool.and_eq_true,decide_eq_true_eq] at q
  have ay:=X21 q.1
  have k:F6 l e=(!decide (e=H7)&&N1 l e):=by
   unfold F6
   have:decide (Ya e≤2)=true:=decide_eq_true (by omega)
   rw[this,Bool.and_true]
  have en:decide (e=[110,117,108,108])=decide (e=H7):=rfl
  cases N:N1 l e with
  | false=>
   (try simp only[↓M1,M1,Mb,reduceIte])
   exact g a (by rw[k,N,Bool.and_false])
  | true=>
   (try simp only[↓M1,M1,Mb,reduceIte])
   by_cases c:e=H7
   ·have:decide (e=[110,117,108,108])=true:=decide_eq_true c
    rw[this]
    (try simp only[↓M1,M1,Mb,reduceIte])
    exact g a (by rw[k,decide_eq_true c];rfl)
   have:decide (e=[110,117,108,108])=false:=decide_eq_false c
   rw[this]
   (try simp only[↓M1,M1,Mb,reduceIte])
   have V:F6 l e=true:=by rw[k,N,decide_eq_false c];rfl
   rw[V] at hh
   simp only[Bool.true_eq_false,if_false] at hh
   by_cases o:n<0
   ·rw[if_pos o] at hh
    rw[decide_eq_true o]
    (try simp only[↓M1,M1,Mb,reduceIte])
    exact hh L C D (.of_stp a) (h.up a) fun j t=> .inl t
   rw[if_neg o] at hh
   rw[decide_eq_false o]
   (try simp only[↓M1,M1,Mb,reduceIte])
   refine Q6h M.sat (h.up a) h0 h1 fun w3 W=>?_
   have y:=a.trans W
   refine P5 ?_
   by_cases X:W6 room cs≤n
   ·rw[if_pos X] at hh
    rw[decide_eq_true X]
    refine J4 ?_
    exact hh w3 C D (.of_stp y) (h.up y) fun j t=> .inl t
   rw[if_neg X] at hh
   rw[decide_eq_false X]
   refine Z9 ?_
   obtain ⟨m,rfl⟩:=Int.eq_ofNat_of_zero_le (Int.not_lt.1 o)
   have af:(m:Int)<W6 room cs:=Int.not_le.1 X
   have ar:=D9 cs
   unfold W6 at af h0
   have s:=y.bel.size
   have am:=Gl q.1
   refine X2O (sz:=4) (R:=M5) (x0:=Val.zero) W.sat rfl (by decide) ⟨rfl,by decide⟩ (by omega) (by omega) fun v w4 ad ae H=>?_
   have Q:=J8.of_acc ae
   refine Q1o Q ?_
   rw[List.length_replicate]
   refine U3 m (fun i w'=> ∃σ',Stp w3 C w' σ'∧J8 w3.heap.size T.f 4 M5 σ' w' v (part m i (L7 e))) ⟨C,ad,by rw[X05];exact Q⟩ fun i w5 d hi U=>?_
   obtain ⟨σ5,z,J⟩:=U
   refine Z2 ?_
   refine Q7 (fun hc=>?_) (fun hc=>?_)
   ·have A:i<m:=by simpa using hc
    refine Q5y z.sat fun w6 σ6 O=>?_
    have Z:=z.trans O
    refine Q2V (x:=L7 e) Z (J.up O) (by simpa [part] using A) rfl (Gu e) (Rep.one (R:=M5) (Gu (σ:=σ6) e)) fun p u w7 a1 aa Y=>?_
    refine O4 ?_
    rw[X0F] at Y
    exact Y5 (by omega) A ⟨σ6,aa.stp,Y⟩
   ·have A:i=m:=by
     have: ¬i<m:=by simpa using hc
     omega
    subst A
    rw[X0D] at J
    have f:=y.trans z
    refine X1r z.sat (Nat.le_trans hB f.bel.size) (h.up f) (J.mono (Nat.le_trans hB s)) (fun j t hD=>by
     have:=(h.mem hD).2.1;have:=H j t;omega) (Nat.le_trans (show (e++[91,93]).length≤40 by simp only[List.length_append,List.length_cons,List.length_nil];omega) (by decide)) (by rw[List.length_replicate];omega) fun w7 σ7 D' N7 h7 ag=>?_
    refine J6 (vs:=[_,_]) rfl ?_
    refine J6 (vs:=[_,_]) rfl ?_
    rw[Int.toNat_natCast] at hh
    refine hh w7 σ7 D' ((Nxt.of_stp f).chain N7 fun j _ e=>e) h7 fun j t=>?_
    rcases ag j t with e | e | e
    ·exact .inl e
    ·right;have:=H j e;omega
    ·right;have:=f.bel.size;omega)
end Go.Proofs.YtjdiakhipmggjaaGreatDoor

namespace Go.Proofs.YtjdiakhipmggjaaGreatDoor
open Go.Emb Go.RowKit Go.Kd Go.Hm
variable {w : World} {K : Value → World → Prop} {σ : Q6} {v : Value}
def Q3a:List Cla:=[⟨U0,[],[],false,false,false,[],[]⟩,⟨L5,U0,[],false,false,false,[⟨Qg,O9,false⟩],[]⟩]
def gMk (n:X0):Cla:=⟨n,L5,[],false,false,true,[],[]⟩
theorem Q7a:I0=Q3a++U5.map gMk:=rfl
theorem Q99 (Q:X2 w σ) (h: ∀B w' g,Stp w σ w' g→V6 w.heap.size T.b 8 V0 g w' B I0→K B w'):Q1 P F.bo [] w K:=Ir (by
 unfold Mt
 refine W2 (cells:= #[S U0,S [], .slice none 0 0, .bool false, .bool false, .bool false, .slice none 0 0, .slice none 0 0]) (by kernel_rfl) ?_
 refine W2 (cells:= #[S Qg,S O9, .bool false]) (by kernel_rfl) ?_
 refine P1 (R:=R8) (sz:=3) Q [.agg #[S Qg,S O9, .bool false]] [⟨Qg,O9,false⟩] rfl rfl (by simp;rfl) rfl ⟨⟨rfl,by decide,by decide⟩,trivial⟩ fun Y w1 σ1 m j=>?_
 have r:=j
 obtain ⟨E,b,rfl,_⟩:=r
 refine W2 (cells:= #[S L5,S U0, .slice none 0 0, .bool false, .bool false, .bool false, .slice E 1 b, .slice none 0 0]) (by kernel_rfl) ?_
 refine Zc (R:=V0) (sz:=8) m [.agg #[S U0,S [], .slice none 0 0, .bool false, .bool false, .bool false, .slice none 0 0, .slice none 0 0], .agg #[S L5,S U0, .slice none 0 0, .bool false, .bool false, .bool false, .slice E 1 b, .slice none 0 0]]
  Q3a rfl rfl (by simp;exact ⟨rfl,rfl⟩) rfl ⟨⟨_,_,_,rfl,Sl.nil,Sl.nil,Sl.nil,by decide,by decide⟩,⟨_,_,_,rfl,Sl.nil,j,Sl.nil,by decide,by decide⟩,trivial⟩ fun W w2 i C _=>?_
 refine P1 (R:=U6) (sz:=1) i.sat (U5.map S) U5 rfl rfl (by decide) rfl ⟨⟨rfl,by decide⟩,⟨rfl,by decide⟩,⟨rfl,by decide⟩,⟨rfl,by decide⟩,⟨rfl,by decide⟩,⟨rfl,by decide⟩,trivial⟩ fun v3 X J o p=>?_
 have z:=(m.trans i).trans o
 have N:U5.length=6:=rfl
 refine E8 U5.length (fun n x w'=> ∃g,Stp w σ w' g∧SLe J g∧V6 w.heap.size T.b 8 V0 g w' x (Q3a++(U5.take n).map gMk)) ⟨J,z,SLe.refl _,C.up o⟩ fun n x Z d hn k=>?_
 obtain ⟨U,c,e,f⟩:=k
 refine Q8 (p.lift e) ?_
 refine Z2 ?_
 refine Q7 (fun u=>?_) (fun u=>?_)
 ·have a:n<U5.length:=by simpa using u
  have q:=p.lift e
  refine Y3 q a ?_
  obtain ⟨O,H⟩:=q.elS a
  refine X7 c.sat O rfl ?_
  have M:(Q3a++(U5.take n).map gMk).length≤8:=by
   rw[List.length_append,List.length_map,List.length_take,show Q3a.length=2 from rfl];omega
  have l:(U5.take (n+1)).map gMk=(U5.take n).map gMk++[gMk U5[n]]:=by
   rw[List.take_add_one,List.getElem?_eq_getElem a,List.map_append];rfl
  generalize U5[n]=t at H l
  refine W2 (cells:= #[S t,S L5, .slice none 0 0, .bool false, .bool false, .bool true, .slice none 0 0, .slice none 0 0]) (by kernel_rfl) ?_
  have L:V0 U (gMk t) [S t,S L5, .slice none 0 0, .bool false, .bool false, .bool true, .slice none 0 0, .slice none 0 0]:=⟨_,_,_,rfl,Sl.nil,Sl.nil,Sl.nil,H,(by decide:L5.length≤U1)⟩
  refine Ug (x:=gMk t) c f L rfl rfl rfl (by omega) (by omega) fun s B w5 V y A D _=>?_
  refine O4 ?_
  refine J5 (by omega) a ⟨V,A,e.more y.le,?_⟩
  rw[l,←List.append_assoc];exact D
 ·have a: ¬n<U5.length:=by simpa using u
  rw[List.take_of_length_le (by omega),←Q7a] at f
  exact h _ _ _ c f)
end Go.Proofs.YtjdiakhipmggjaaGreatDoor

namespace Go.Proofs.YtjdiakhipmggjaaGreatDoor
open Go.Emb Go.RowKit Go.Kd Go.Hm
variable {w : World} {K : Value → World → Prop} {σ : Q6}
end Go.Proofs.YtjdiakhipmggjaaGreatDoor

namespace Go.Hm
open Go.Kd
def Edge (l:List Cla) (i j:Nat):Prop:= ∃c,l[i]? =some c∧ ∃u∈U4 c,Z1 l u=some j
inductive Thr (E : Nat → Nat → Prop) (n : Nat) : Nat → Nat → Prop
  | one {i j : Nat} : E i j → Thr E n i j
  | more {i m j : Nat} : E i m → m < n → Thr E n m j → Thr E n i j
theorem Thr.cut {E:Nat→Nat→Prop} {n i j:Nat} (h:Thr E (n+1) i j):Thr E n i j∨(Thr E n i n∧Thr E n n j):=by
 induction h with
 | one h=>exact .inl (.one h)
 | @more i m j d f _ c=>
  by_cases e:m<n
  ·rcases c with c | ⟨a,b⟩
   ·exact .inl (.more d e c)
   ·exact .inr ⟨.more d e a,b⟩
  ·obtain rfl:m=n:=by omega
   rcases c with c | ⟨a,b⟩
   ·exact .inr ⟨.one d,c⟩
   ·exact .inr ⟨.one d,b⟩
theorem Thr.join {E:Nat→Nat→Prop} {n i k j:Nat} (h:Thr E n i k) (a:k<n) (g:Thr E n k j):Thr E n i j:=by
 induction h with
 | one h=>exact .more h a g
 | more d c _ b=>exact .more d c (b a g)
theorem Q4s {l:List Cla} (f:T5 l) {i j:Nat} (d:i<l.length):Edge l i j↔j<l.length∧ ∃u∈U4 l[i],u=Y2 l j∧Z1 l u=some j:=by
 unfold Edge
 rw[List.getElem?_eq_getElem d]
 constructor
 ·rintro ⟨c,e,u,b,a⟩
  cases e
  exact ⟨(S5 a).1,u,b,(S5 a).2.symm,a⟩
 ·rintro ⟨_,u,b,_,a⟩
  exact ⟨_,rfl,u,b,a⟩
theorem X0W {l:List Cla} (b:T5 l) {i:Nat} (a:i<l.length):lk l (Y2 l i)=some l[i]:=by
 have:=Yh b a
 rwa [List.getD_eq_getElem?_getD,List.getElem?_eq_getElem a] at this
theorem X18 {l:List Cla} (b:T5 l) {i j:Nat} (a:i<l.length) (h:Thr (Edge l) l.length i j):j<l.length∧Wr (lk l) (Y2 l i) (Y2 l j):=by
 induction h with
 | one h=>
  obtain ⟨e,u,f,d,g⟩:=(Q4s b a).1 h
  obtain ⟨c,n,_⟩:=Zm g
  refine ⟨e,_,X0W b a,u,f,?_⟩
  subst d;exact .refl n
 | more e m _ k=>
  obtain ⟨p,o⟩:=k m
  obtain ⟨_,u,f,d,g⟩:=(Q4s b a).1 e
  refine ⟨p,_,X0W b a,u,f,?_⟩
  subst d;exact o.reach
theorem Q9X {l:List Cla} (y:T5 l) {a b:X0} (h:Hm.Reach (lk l) a b): ∀i j,Z1 l a=some i→Z1 l b=some j→i=j∨Thr (Edge l) l.length i j:=by
 induction h with
 | refl _=>
  intro i j n f;rw[n] at f;cases f;exact .inl rfl
 | step q t r v=>
  rename_i a u b c
  intro i j n f
  obtain ⟨d,p⟩:=r.left
  obtain ⟨_,_,k,m,s⟩:=V4 p
  obtain ⟨w,e,g,_⟩:=Zm n
  rw[q] at e;cases e
  have o:Edge l i k:=⟨c,g,u,t,m⟩
  rcases v k j m f with rfl | hT
  ·exact .inr (.one o)
  ·exact .inr (.more o (S5 m).1 hT)
theorem X0C {l:List Cla} (e:T5 l) {i j:Nat} (n:i<l.length) (f:j<l.length) (h:Wr (lk l) (Y2 l i) (Y2 l j)):Thr (Edge l) l.length i j:=by
 obtain ⟨c,g,u,r,m⟩:=h
 rw[X0W e n] at g;cases g
 obtain ⟨d,p⟩:=m.left
 obtain ⟨_,_,k,a,q⟩:=V4 p
 have o:Edge l i k:=⟨_,List.getElem?_eq_getElem n,u,r,a⟩
 have b:Z1 l (Y2 l j)=some j:=by
  have:=e.find (List.getElem?_eq_getElem f)
  unfold Y2
  rw[List.getD_eq_getElem?_getD,List.getElem?_eq_getElem f];exact this
 rcases Q9X e m k j a b with rfl | hT
 ·exact .one o
 ·exact .more o (S5 a).1 hT
theorem X2b {l:List Cla} (b:T5 l) {i j:Nat} (a:i<l.length) (c:j<l.length):Thr (Edge l) l.length i j↔Xj l (Y2 l i) (Y2 l j)=true:=by
 rw[Ul]
 exact ⟨fun h=>(X18 b a h).2,X0C b a c⟩
def I3 (l:List Cla):List (List Bool):=(List.range l.length).map fun i=>(List.range l.length).map fun j=>Xj l (Y2 l i) (Y2 l j)
def Bv (m:Nat→Nat→Bool) (i j:Nat) (b:Bool):Nat→Nat→Bool:=fun x y=>if x=i∧y=j then b else m x y
structure Clos (E : Nat → Nat → Prop) (n k i j : Nat) (m : Nat → Nat → Bool) : Prop where
  sound : ∀ a b, m a b = true → Thr E n a b
  full : ∀ a b, a < n → b < n → Thr E k a b → m a b = true
  done : ∀ a b, a < n → b < n → (a < i ∨ (a = i ∧ b < j)) → Thr E (k + 1) a b → m a b = true
theorem Clos.next {E:Nat→Nat→Prop} {n k i j:Nat} {m:Nat→Nat→Bool} (h:Clos E n k i j m) (o:k<n) (t:i<n) (s:j<n):Clos E n k i (j+1) (Bv m i j (m i j||(m i k&&m k j))):=by
 have f: ∀a b,m a b=true→Bv m i j (m i j||(m i k&&m k j)) a b=true:=by
  intro a b c
  unfold Bv
  split
  ·rename_i e;rw[←e.1,←e.2,c];rfl
  ·exact c
 refine ⟨fun a b c=>?_,fun a b r p g=>f a b (h.full a b r p g),fun a b r p q g=>?_⟩
 ·unfold Bv at c
  split at c
  ·rename_i e
   obtain ⟨rfl,rfl⟩:=e
   simp only[Bool.or_eq_true,Bool.and_eq_true] at c
   rcases c with d | ⟨d,l⟩
   ·exact h.sound _ _ d
   ·exact (h.sound _ _ d).join o (h.sound _ _ l)
  ·exact h.sound _ _ c
 ·by_cases e:a=i∧b=j
  ·obtain ⟨rfl,rfl⟩:=e
   unfold Bv
   rw[if_pos ⟨rfl,rfl⟩]
   rcases g.cut with d | ⟨d,l⟩
   ·rw[h.full _ _ t s d];rfl
   ·rw[h.full _ _ t o d,h.full _ _ o s l];simp
  ·refine f a b (h.done a b r p ?_ g)
   rcases q with d | ⟨d,l⟩
   ·exact .inl d
   ·right;refine ⟨d,?_⟩
    have:b≠j:=fun u=>e ⟨d,u⟩
    omega
theorem Clos.row {E:Nat→Nat→Prop} {n k i:Nat} {m:Nat→Nat→Bool} (h:Clos E n k i n m):Clos E n k (i+1) 0 m:=
 ⟨h.sound,h.full,fun a b e c d f=>h.done a b e c (by omega) f⟩
theorem Clos.round {E:Nat→Nat→Prop} {n k:Nat} {m:Nat→Nat→Bool} (h:Clos E n k n 0 m):Clos E n (k+1) 0 0 m:=
 ⟨h.sound,fun a b c d e=>h.done a b c d (.inl c) e,fun a b c d f e=>by omega⟩
theorem Clos.start {E:Nat→Nat→Prop} {n:Nat} {m:Nat→Nat→Bool} (h: ∀a b,a<n→(m a b=true↔E a b)) (j: ∀a b,n≤a→m a b=false):Clos E n 0 0 0 m:=by
 refine ⟨fun a b c=>?_,fun a b d g f=>?_,fun a b d g i f=>by omega⟩
 ·by_cases d:a<n
  ·exact .one ((h a b d).1 c)
  ·rw[j a b (by omega)] at c;cases c
 ·cases f with
  | one e=>exact (h a b d).2 e
  | more _ k _=>omega
theorem Clos.all {l:List Cla} (c:T5 l) {m:Nat→Nat→Bool} (h:Clos (Edge l) l.length l.length 0 0 m) {i j:Nat} (b:i<l.length) (a:j<l.length):m i j=Xj l (Y2 l i) (Y2 l j):=by
 rw[Bool.eq_iff_iff,←X2b c b a]
 exact ⟨h.sound i j,h.full i j b a⟩
end Go.Hm

namespace Go.Emb
open Go.RowKit Go.Hm
variable {P : Program} {w w0 w1 w' w'' : World} {K : Value → World → Prop} {σ σ0 σ1 σ' : Q6}
theorem X3f {t e:TypeId} {c n:Nat} {z:Value} [ts:TS P t e] [tz:TZ P e 1 c z] (j:X2 w σ) (m:z.cells= #[z]) (p:n≤1000000) (o:c*n≤281474976710656)
 (h: ∀b w',w.heap.size≤b→Stp w σ w' σ→Y1 σ w' b (List.replicate n z)→K (.slice (some ⟨b,0,none⟩) n n) w'):Dq P t (I n) (I n) w K:=by
 obtain ⟨i,l,d,f,a⟩:=tz.info
 have g:(i.bytes:Int)*(n:Int)≤281474976710656:=by
  rw[f]
  have:((c*n:Nat):Int)≤281474976710656:=by omega
  rwa [Int.natCast_mul] at this
 have k:=run_makeSlice (P:=P) w t e i z ts.h l a .i64 .i64 (n:Int) (n:Int) (by omega) (Int.le_refl _) (by rw[d];simp only[Int.toNat_natCast];omega) g (by omega)
 unfold Dq
 rw[X9 k]
 simp only[Int.toNat_natCast,d,Nat.mul_one]
 refine h _ _ (Nat.le_refl _) (Stp.own j _) ⟨j.none (Nat.le_refl _),e,?_⟩
 rw[heap_alloc_new,m]
 have:madeCells #[z] n=(List.replicate n z).toArray:=by rw[←toList_madeCells_one,Array.toArray_toList]
 rw[this]
def Q60 (n:Nat) (_:Q6) (b:Nat) (cs:List Value):Prop:=cs=[.slice (some ⟨b,0,none⟩) n n]
instance (n:Nat):Rep (Q60 n):=⟨fun _ h=>h,fun h u hu=>by rw[h] at hu;simp at hu;subst hu;rfl⟩
def Q5t (σ:Q6) (xs:List Bool) (cs:List Value):Prop:= ∃v,cs=[v]∧Sl 1 Q38 σ v xs
instance:Rep Q5t:=⟨fun k h=>by obtain ⟨v,h1,h2⟩:=h;exact ⟨v,h1,h2.le k⟩,fun h u hu=>by
 obtain ⟨v,rfl,a,cap,rfl,_⟩:=h
 simp at hu;subst hu;rfl⟩
def bools (n:Nat) (f:Nat→Bool):List Value:=(List.range n).map fun j=> .bool (f j)
theorem Q1i {n:Nat} {f:Nat→Bool}:(bools n f).length=n:=by simp[bools]
theorem Q4p {n j:Nat} {f:Nat→Bool} (h:j<n):(bools n f)[j]? =some (.bool (f j)):=by simp[bools,h]
theorem Q4x {n j:Nat} {f:Nat→Bool} {b:Bool}:(bools n f).set j (.bool b)=bools n (fun x=>if x=j then b else f x):=by
 apply List.ext_getElem?
 intro k
 rw[List.getElem?_set]
 by_cases a:k<n
 ·by_cases e:j=k
  ·subst e;simp[bools,a]
  ·have c: ¬k=j:=fun h=>e h.symm
   simp[bools,a,e,c]
 ·simp[bools,a]
  intro e;omega
theorem Q6A {n:Nat}:List.replicate n (Value.bool false)=bools n fun _=>false:=by
 apply List.ext_getElem?
 intro k
 by_cases a:k<n<;>simp[bools,a]
def Qz (σ:Q6) (w:World) (a:List Nat) (n:Nat) (m:Nat→Nat→Bool):Prop:=a.Nodup∧ ∀i (h:i<a.length),Y1 σ w a[i] (bools n (m i))
theorem Qz.up {a:List Nat} {n:Nat} {m:Nat→Nat→Bool} (h:Qz σ w a n m) (k:Stp w σ w' σ'):Qz σ' w' a n m:=⟨h.1,fun i b=>(h.2 i b).up k⟩
theorem Qz.kp {a:List Nat} {n:Nat} {m:Nat→Nat→Bool} {D:Nat→Prop} (h:Qz σ w a n m) (k:Kpt D w w') (d: ∀b∈a,¬D b):Qz σ w' a n m:=⟨h.1,fun i c=>(h.2 i c).kp k (d _ (List.getElem_mem c))⟩
theorem Qz.lt {c:List Nat} {n:Nat} {m:Nat→Nat→Bool} (h:Qz σ w c n m) {b:Nat} (d:b∈c):b<w.heap.size∧σ b=none:=by
 obtain ⟨i,a,rfl⟩:=List.getElem_of_mem d
 exact ⟨(h.2 i a).lt,(h.2 i a).1⟩
theorem Qz.snoc {d:List Nat} {n b:Nat} {m:Nat→Nat→Bool} {f:Nat→Bool} (h:Qz σ w d n m) (k:b∉d) (p:Y1 σ w b (bools n f)):Qz σ w (d++[b]) n (fun x=>if x=d.length then f else m x):=by
 refine ⟨by rw[List.nodup_append];exact ⟨h.1,by simp,fun a o c g e=>by simp at g;subst g;subst e;exact k o⟩,fun i l=>?_⟩
 rw[List.length_append,List.length_singleton] at l
 by_cases j:i<d.length
 ·rw[List.getElem_append_left j]
  simp only[if_neg (show¬i=d.length by omega)]
  exact h.2 i j
 ·obtain rfl:i=d.length:=by omega
  simp only[List.getElem_concat_length,if_true]
  exact p
theorem Qz.congr {a:List Nat} {n:Nat} {m m':Nat→Nat→Bool} (h:Qz σ w a n m) (c: ∀i,i<a.length→m i=m' i):Qz σ w a n m':=⟨h.1,fun i b=>c i b▸h.2 i b⟩
theorem Qz.keep {a:List Nat} {n:Nat} {m:Nat→Nat→Bool} (V:0<n) (t:n≤1000000): ∀{σ:Q6},Qz σ w a n m→Stp w0 σ0 w σ→(∀b∈a,w0.heap.size≤b)→ ∃σ',Stp w0 σ0 w σ'∧SLe σ σ'∧ ∀i (h:i<a.length),Sl 1 Q38 σ' (.slice (some ⟨a[i],0,none⟩) n n) ((List.range n).map (m i)):=by
 intro σ h N E
 have key: ∀k,k≤a.length→ ∃σ',Stp w0 σ0 w σ'∧SLe σ σ'∧(∀i (h:i<a.length),i<k→Z4 σ' ⟨a[i],0,none⟩ (bools n (m i)))∧ ∀i (h:i<a.length),k≤i→σ' a[i]=none:=by
  intro k
  induction k with
  | zero=>intro _;exact ⟨σ,N,SLe.refl _,fun i _ h=>by omega,fun i d _=>(h.2 i d).1⟩
  | succ k H=>
   intro U
   obtain ⟨σ1,o,g,l,s⟩:=H (by omega)
   have c:k<a.length:=by omega
   have C:Y1 σ1 w a[k] (bools n (m k)):=⟨s k c (Nat.le_refl _),(h.2 k c).2⟩
   obtain ⟨B,L,y,u,M⟩:=C.keep o (E _ (List.getElem_mem c))
   refine ⟨B,L,g.more ⟨u⟩,fun i d J=>?_,fun i d D=>?_⟩
   ·by_cases e:i=k
    ·subst e;exact y
    ·exact (l i d (by omega)).le u
   ·rw[M]
    ·exact s i d (by omega)
    ·intro e
     have:=List.nodup_iff_pairwise_ne.1 h.1
     rw[List.pairwise_iff_getElem] at this
     exact this k i c d (by omega) e.symm
 obtain ⟨σ1,o,g,l,_⟩:=key a.length (Nat.le_refl _)
 refine ⟨σ1,o,g,fun i d=>⟨some ⟨a[i],0,none⟩,n,by simp,by simp,by simp only[maxLen];omega,fun e=>(by cases e),?_⟩⟩
 intro b O
 obtain rfl:=Option.some.inj O
 refine ⟨fun _=>rfl,fun j x q=>?_⟩
 have r:j<n:=by have:=(List.getElem?_eq_some_iff.1 q).1;simpa using this
 obtain ⟨R,arr,e,z,Q,A⟩:=l i d d
 have p:x=m i j:=by simp[r] at q;exact q.symm
 refine ⟨[.bool x],⟨I8 rfl _,arr,e,z,by rw[S7];exact Q,fun k v f=>?_⟩,rfl,rfl⟩
 obtain rfl:k=0:=by cases k with
  | zero=>rfl
  | succ k=>simp at f
 simp at f
 rw[Qc,←f,p]
 have:=A j _ (Q4p r)
 simpa using this
end Go.Emb

namespace Go.Emb
open Go.RowKit Go.Hm
variable {P : Program} {w w0 w1 w' w'' : World} {K : Value → World → Prop} {σ σ0 σ1 σ' : Q6}
theorem Q1v {t e:TypeId} {sz c:Nat} {z:Value} [ts:TS P t e] [tz:TZ P e sz c z] {a:Addr} {n b i:Nat} (f:i<n) (d:K (.pointer (some (a.add (i*sz)))) w):indexAddr P t (.slice (some a) n b) (I i) w K:=by
 rw[Sh (by omega) (by omega)]
 simpa using d
theorem Qz.nx {D:Nat→Prop} {a:List Nat} {n:Nat} {m:Nat→Nat→Bool} (h:Qz σ w a n m) (k:Nxt D w σ w' σ') (d: ∀b∈a,¬D b):Qz σ' w' a n m:=
 ⟨h.1,fun i c=>(h.2 i c).nx k (d _ (List.getElem_mem c))⟩
theorem Qz.set {a:List Nat} {n i j:Nat} {b:Bool} {m:Nat→Nat→Bool} (h:Qz σ w a n m) (d:i<a.length) (o:Upd w a[i] w') (g:Y1 σ w' a[i] ((bools n (m i)).set j (.bool b))):Qz σ w' a n (Bv m i j b):=by
 refine ⟨h.1,fun k c=>?_⟩
 by_cases e:k=i
 ·subst e
  rw[Q4x] at g
  have:Bv m k j b k=fun x=>if x=j then b else m k x:=by funext x;simp[Bv]
  rw[this];exact g
 ·have:Bv m i j b k=m k:=by funext x;simp[Bv,e]
  rw[this]
  refine (h.2 k c).upd o fun f=>e ?_
  rcases Nat.lt_trichotomy k i with hlt | hlt | hlt
  ·have:=List.nodup_iff_pairwise_ne.1 h.1
   rw[List.pairwise_iff_getElem] at this
   exact absurd f (this k i c d hlt)
  ·exact hlt
  ·have:=List.nodup_iff_pairwise_ne.1 h.1
   rw[List.pairwise_iff_getElem] at this
   exact absurd f.symm (this i k d c hlt)
end Go.Emb
namespace Go.Proofs.YtjdiakhipmggjaaGreatDoor
open Go.Emb Go.RowKit Go.Kd Go.Hm
variable {w : World} {K : Value → World → Prop} {σ : Q6} {l : List Cla} {v : Value}
def Lv (l:List Cla) (i j:Nat):Bool:=match l[i]? with
 | none=>false
 | some c=>(U4 c).any fun u=>decide (Z1 l u=some j)
theorem Q9i (l:List Cla) (i j:Nat):Lv l i j=true↔Hm.Edge l i j:=by
 unfold Lv Hm.Edge
 cases h:l[i]? with
 | none=>simp
 | some c=>simp[List.any_eq_true]
theorem X09 {l:List Cla} {i j:Nat} (h:l.length≤i):Lv l i j=false:=by
 unfold Lv
 rw[List.getElem?_eq_none h]
set_option maxHeartbeats 4000000 in
theorem Q0U (hs:X2 w σ) (hl:Sl 8 V0 σ v l) (ho:T5 l) (hpos:0<l.length) (hlen:l.length≤1000) (hsm: ∀c∈l,Qn c)
 (h: ∀v' w' σ',Stp w σ w' σ'→Sl 1 Q5t σ' v' (I3 l)→K v' w'):Q1 P F.ak [v] w K:=Pq (by
 unfold Mn
 refine Et (R:=Q60 l.length) (e:=T.a6) (Stp.refl hs) (by decide) fun x0 w1 hk1 ha1 _=>?_
 refine E8 l.length (fun n x w'=> ∃σ' bs,Stp w σ w' σ'∧V6 w.heap.size T.a6 1 (Q60 l.length) σ' w' x bs∧Qz σ' w' bs l.length (Lv l)∧bs.length=n∧ ∀b∈bs,w.heap.size≤b∧x.ownBlock≠some b) ⟨σ,[],hk1,ha1,⟨List.nodup_nil,by simp⟩,rfl,by simp⟩ fun n x w2 d hn hinv=>?_
 obtain ⟨σ2,bs,hS2,ha2,hM2,hbl,hb2⟩:=hinv
 refine Q8 (hl.up hS2) ?_
 refine Z2 ?_
 refine Q7 (fun hc=>?_) (fun hc=>?_)
 ·have hn':n<l.length:=by simpa using hc
  have hl2:=hl.up hS2
  refine Q8 hl2 ?_
  refine X3f hS2.sat rfl (by omega) (by omega) fun b w3 hb3 hk3 hm3=>?_
  rw[Q6A] at hm3
  obtain ⟨lv,fv,mv,p1,r1⟩:=hl2.elC hn'
  obtain ⟨g1,_,_,g4,g5⟩:=r1.parts
  have hsmc:=hsm _ (List.getElem_mem hn')
  have hs3:=hk3.sat
  refine U2 hs3 ?_
  (repeat refine J7 Xa ?_)
  refine Q1A (w:=w3) (σ:=σ2) (R:=U6) (sz:=1) (e:=T.c) [l[n].super] (fun t w hb e=>?_) ?_
  ·subst e;exact Zc hb.stp [_] [l[n].super] rfl rfl (by simp;rfl) rfl ⟨⟨rfl,g5⟩,trivial⟩ fun v' w' hk ha _=>Q3l hb hk ha
  (repeat refine J7 Xa ?_)
  rintro t24 t25 t30 t31 t26 t27 t32 w4 hb4 rfl rfl rfl rfl rfl ⟨f27,a27⟩ rfl
  refine Wh f27 a27 g1 rfl (by simp;have:=hsmc.1;omega) (by simp;have:=hsmc.1;omega) fun v5 w5 hn5 hS5 ha5 hat5=>?_
  obtain ⟨σ6,hS6,hv6,le6,_⟩:=ha5.keep hS5
  have hv6:Sl 1 U6 σ6 v5 (U4 l[n]):=hv6
  have hb3w:w.heap.size≤b:=Nat.le_trans hS2.bel.size hb3
  have hm6:=hm3.up hS6
  have ha6:=(ha2.up hk3).up hS6
  have hM6:=(hM2.up hk3).up hS6
  have hS26:=(hS2.trans hk3).trans hS6
  have hxb: ∀k,x.ownBlock=some k→k≠b:=fun k e=>by have:=(ha2.mem k e).2.1;omega
  have hbbs:b∉bs:=fun e=>by have:=(hM2.lt e).1;omega
  clear hm3 ha2 hM2 hS6 hS5 ha5 a27 f27 hn5 hat5
  refine U3 (U4 l[n]).length (fun k w'=>Stp w σ w' σ6∧V6 w.heap.size T.a6 1 (Q60 l.length) σ6 w' x bs∧Qz σ6 w' bs l.length (Lv l)∧Y1 σ6 w' b (bools l.length fun j=>((U4 l[n]).take k).any fun u=>decide (Z1 l u=some j)))
   ⟨hS26,ha6,hM6,hm6⟩ fun k w7 d7 hk hinv=>?_
  obtain ⟨hS7,ha7,hM7,hm7⟩:=hinv
  refine Q8 hv6 ?_
  refine Z2 ?_
  refine Q7 (fun hc=>?_) (fun hc=>?_)
  ·have hk':k<(U4 l[n]).length:=by simpa using hc
   refine U8 ?_
   refine Y3 hv6 hk' ?_
   obtain ⟨p2,p3⟩:=hv6.elS hk'
   refine X7 hS7.sat p2 rfl ?_
   refine K0 hS7.sat (hl.up hS7) ?_
   refine P5 ?_
   rw[T7]
   have hnx: ∀f:Nat→Bool,(∀j,f j=(((U4 l[n]).take k).any (fun u=>decide (Z1 l u=some j))||decide (Z1 l (U4 l[n])[k]=some j)))→f=fun j=>((U4 l[n]).take (k+1)).any fun u=>decide (Z1 l u=some j):=by
    intro f hf;funext j;rw[hf,L3 hk']
   cases hfc:Z1 l (U4 l[n])[k] with
   | none=>
    simp only[Option.isSome_none,↓M1,M1,Mb,reduceIte]
    intro d
    refine Y5 hv6.max hk' ⟨hS7,ha7,hM7,?_⟩
    rw[←hnx (fun j=>((U4 l[n]).take k).any fun u=>decide (Z1 l u=some j)) (fun j=>by rw[hfc];simp)]
    exact hm7
   | some j=>
    have hj:=(S5 hfc).1
    simp only[Option.isSome_some,L6,↓M1,M1,Mb,reduceIte]
    refine Q1v hj ?_
    rw[Nat.mul_one]
    refine Ud hm7 (by rw[Q1i];exact hj) (by rfl) (by rfl) fun w8 u8 hm8=>?_
    intro d
    rw[Q4x] at hm8
    refine Y5 hv6.max hk' ⟨u8.stp hS7 hb3w hm7.1,ha7.kp (D:=(· =b)) (.of_upd u8 rfl) hxb,hM7.kp (D:=(· =b)) (.of_upd u8 rfl) (fun c hc e=>hbbs (e▸hc)),?_⟩
    rw[←hnx (fun x=>if x=j then true else _) (fun i=>?_)]
    ·exact hm8
    ·rw[hfc]
     by_cases e:i=j
     ·subst e;simp
     ·have: ¬j=i:=fun e'=>e e'.symm
      simp[e,this]
  ·have hk': ¬k<(U4 l[n]).length:=by simpa using hc
   have hk0:k=(U4 l[n]).length:=by omega
   subst hk0
   rw[List.take_of_length_le (Nat.le_refl _)] at hm7
   have hef:(fun j=>(U4 l[n]).any fun u=>decide (Z1 l u=some j))=Lv l n:=by
    funext j;unfold Lv;rw[List.getElem?_eq_getElem hn']
   rw[hef] at hm7
   have hM8:=(hM7.snoc hbbs hm7).congr (m':=Lv l) (fun i _=>by
    by_cases e:i=bs.length
    ·rw[if_pos e,e,hbl]
    ·rw[if_neg e])
   refine Ug (R:=Q60 l.length) (x:=b) hS7 ha7 rfl rfl rfl rfl (by omega) (by omega) fun s v' w9 σ9 hnx hS9 ha9 hat=>?_
   have hdis: ∀c∈bs++[b],w.heap.size≤c∧x.ownBlock≠some c:=by
    intro c hc
    rcases List.mem_append.1 hc with hc | hc
    ·exact hb2 c hc
    ·simp at hc;subst hc;exact ⟨hb3w,fun e=>hxb _ e rfl⟩
   have hlt9: ∀c∈bs++[b],c<w7.heap.size:=fun c hc=>(hM8.lt hc).1
   refine O4 ?_
   refine J5 (by omega) hn' ⟨σ9,bs++[b],hS9,ha9,hM8.nx hnx (fun c hc=>(hdis c hc).2),by rw[List.length_append,hbl];rfl,fun c hc=>⟨(hdis c hc).1,fun e=>?_⟩⟩
   rcases hat with hat | hat
   ·exact (hdis c hc).2 (hat▸e)
   ·have:=hat c e;have:=hlt9 c hc;omega
 ·have hn0:n=l.length:=by
   have: ¬n<l.length:=by simpa using hc
   omega
  obtain ⟨σ8,hS8,hv8,le8,old8⟩:=ha2.keep hS2
  have hlb:bs.length=l.length:=by omega
  have hM8:Qz σ8 w2 bs l.length (Lv l):=⟨hM2.1,fun i hi=>⟨(old8 _ (fun e=>(hb2 _ (List.getElem_mem hi)).2 e.symm)).trans (hM2.2 i hi).1,(hM2.2 i hi).2⟩⟩
  have hpx: ∀i (hi:i<bs.length),Z4 σ8 (Vs 1 x i) [.slice (some ⟨bs[i],0,none⟩) l.length l.length]:=fun i hi=>by
   obtain ⟨cs,h1,_,h2⟩:=hv8.el hi
   have h2:cs=_:=h2
   subst h2;exact h1
  clear ha2 hM2 hS2 le8 old8
  refine U3 l.length (fun k w'=> ∃m,Stp w σ w' σ8∧Qz σ8 w' bs l.length m∧Clos (Hm.Edge l) l.length k 0 0 m) ⟨Lv l,hS8,hM8,Clos.start (fun a b _=>Q9i l a b) (fun a b h=>X09 h)⟩ fun k w3 d3 hk3 hinv=>?_
  obtain ⟨m3,hS3,hM3,hC3⟩:=hinv
  refine Q8 (hl.up hS3) ?_
  refine Z2 ?_
  refine Q7 (fun hc=>?_) (fun hc=>?_)
  ·have hk':k<l.length:=by simpa using hc
   refine U3 l.length (fun i w'=> ∃m,Stp w σ w' σ8∧Qz σ8 w' bs l.length m∧Clos (Hm.Edge l) l.length k i 0 m) ⟨m3,hS3,hM3,hC3⟩ fun i w4 d4 hi4 hinv=>?_
   obtain ⟨m4,hS4,hM4,hC4⟩:=hinv
   refine Q8 (hl.up hS4) ?_
   refine Z2 ?_
   refine Q7 (fun hc=>?_) (fun hc=>?_)
   ·have hi':i<l.length:=by simpa using hc
    refine U3 l.length (fun j w'=> ∃m,Stp w σ w' σ8∧Qz σ8 w' bs l.length m∧Clos (Hm.Edge l) l.length k i j m) ⟨m4,hS4,hM4,hC4⟩ fun j w5 d5 hj5 hinv=>?_
    obtain ⟨m5,hS5,hM5,hC5⟩:=hinv
    refine Q8 (hl.up hS5) ?_
    refine Z2 ?_
    refine Q7 (fun hc=>?_) (fun hc=>?_)
    ·have hj':j<l.length:=by simpa using hc
     have hi6:i<bs.length:=by omega
     have hk6:k<bs.length:=by omega
     have px_i:=hpx i hi6
     have px_k:=hpx k hk6
     have hrd: ∀{w':World} {K:Value→World→Prop} {a b:Nat} {ha:a<bs.length},Hst w5 σ8 w' σ8→b<l.length→K (.bool (m5 a b)) w'→Q2 P T.t (.pointer (some ((⟨bs[a],0,none⟩:Addr).add (b*1)))) w' K:=fun hst hb hK=>by
      rw[Nat.mul_one]
      exact Qd (((hM5.up hst.stp).2 _ _).cell (Q4p hb)) hK
     refine U2 hS5.sat ?_
     (repeat (apply J7;(· intros;(repeat (rename_i hx;subst hx));(repeat' (first | (with_reducible exact N2 rfl) | (with_reducible exact S1 (Stp.bel (by (repeat (first | exact Stp.refl (by (first | assumption | exact Stp.sat (by assumption) | exact Hst.sat (by assumption))) | assumption | refine Stp.trans ?_ (by first | assumption | exact Hst.stp (by assumption)))))) rfl) | (with_reducible intro _) | (simp only[↓M2,M2,Mb,reduceIte]) | (with_reducible refine Q1v au ?_) | (with_reducible refine hrd au au ?_) | (with_reducible show Q2 _ _ _ _ _;first | refine X7 aS aL aR ?_ | refine Y4 aS aL aR ?_ | refine ld aS aL aR ?_) | (with_reducible show indexAddr _ _ _ _ _ _;refine Y3 aL au ?_) | (with_reducible show X3 _ _ _ _ _ _ _ _;refine Q8 aL ?_) | (with_reducible show F4 _ _ _ _ _ _;refine J0 aR ?_) | (with_reducible show pick _ _ _ _ _ _;refine L8 ?_) | (apply G5;intro hh;(try simp only[hh,reduceIte,↓M2,M2,Mb,reduceIte]))));done)))
     cases h1:m5 i j
     ·simp only[reduceIte]
      (repeat (apply J7;(· intros;(repeat (rename_i hx;subst hx));(repeat' (first | (with_reducible exact N2 rfl) | (with_reducible exact S1 (Stp.bel (by (repeat (first | exact Stp.refl (by (first | assumption | exact Stp.sat (by assumption) | exact Hst.sat (by assumption))) | assumption | refine Stp.trans ?_ (by first | assumption | exact Hst.stp (by assumption)))))) rfl) | (with_reducible intro _) | (simp only[↓M2,M2,Mb,reduceIte]) | (with_reducible refine Q1v au ?_) | (with_reducible refine hrd au au ?_) | (with_reducible show Q2 _ _ _ _ _;first | refine X7 aS aL aR ?_ | refine Y4 aS aL aR ?_ | refine ld aS aL aR ?_) | (with_reducible show indexAddr _ _ _ _ _ _;refine Y3 aL au ?_) | (with_reducible show X3 _ _ _ _ _ _ _ _;refine Q8 aL ?_) | (with_reducible show F4 _ _ _ _ _ _;refine J0 aR ?_) | (with_reducible show pick _ _ _ _ _ _;refine L8 ?_) | (apply G5;intro hh;(try simp only[hh,reduceIte,↓M2,M2,Mb,reduceIte]))));done)))
      (intros;(repeat (rename_i hx;subst hx));(try simp only[↓M2,M2,Mb,reduceIte]))
      rename_i w6 hb6
      refine Q1v hj' ?_
      rw[Nat.mul_one]
      refine Eq.subst (motive:=fun V=>Y0 P T.t (.pointer (some ((⟨bs[i],0,none⟩:Addr).add j))) V w6 _) (show Value.bool (m5 i j||(m5 i k&&m5 k j))=_ from by cases h2:m5 i k<;>simp[h1,h2]) ?_
      refine Ud ((hM5.up hb6.stp).2 i hi6) (by rw[Q1i];exact hj') (by rfl) (by rfl) fun w7 u7 hm7=>?_
      (try simp only[↓M1,M1,Mb,reduceIte])
      exact Y5 (by omega) hj' ⟨_,u7.stp (hS5.trans hb6.stp) (hb2 _ (List.getElem_mem hi6)).1 hm7.1,(hM5.up hb6.stp).set hi6 u7 hm7,hC5.next hk' hi' hj'⟩
     ·simp only[Bool.true_eq_false,reduceIte]
      (repeat (apply J7;(· intros;(repeat (rename_i hx;subst hx));(repeat' (first | (with_reducible exact N2 rfl) | (with_reducible exact S1 (Stp.bel (by (repeat (first | exact Stp.refl (by (first | assumption | exact Stp.sat (by assumption) | exact Hst.sat (by assumption))) | assumption | refine Stp.trans ?_ (by first | assumption | exact Hst.stp (by assumption)))))) rfl) | (with_reducible intro _) | (simp only[↓M2,M2,Mb,reduceIte]) | (with_reducible refine Q1v au ?_) | (with_reducible refine hrd au au ?_) | (with_reducible show Q2 _ _ _ _ _;first | refine X7 aS aL aR ?_ | refine Y4 aS aL aR ?_ | refine ld aS aL aR ?_) | (with_reducible show indexAddr _ _ _ _ _ _;refine Y3 aL au ?_) | (with_reducible show X3 _ _ _ _ _ _ _ _;refine Q8 aL ?_) | (with_reducible show F4 _ _ _ _ _ _;refine J0 aR ?_) | (with_reducible show pick _ _ _ _ _ _;refine L8 ?_) | (apply G5;intro hh;(try simp only[hh,reduceIte,↓M2,M2,Mb,reduceIte]))));done)))
      (intros;(repeat (rename_i hx;subst hx));(try simp only[↓M2,M2,Mb,reduceIte]))
      rename_i w6 hb6
      refine Q1v hj' ?_
      rw[Nat.mul_one]
      refine Eq.subst (motive:=fun V=>Y0 P T.t (.pointer (some ((⟨bs[i],0,none⟩:Addr).add j))) V w6 _) (show Value.bool (m5 i j||(m5 i k&&m5 k j))=_ from by simp[h1]) ?_
      refine Ud ((hM5.up hb6.stp).2 i hi6) (by rw[Q1i];exact hj') (by rfl) (by rfl) fun w7 u7 hm7=>?_
      (try simp only[↓M1,M1,Mb,reduceIte])
      exact Y5 (by omega) hj' ⟨_,u7.stp (hS5.trans hb6.stp) (hb2 _ (List.getElem_mem hi6)).1 hm7.1,(hM5.up hb6.stp).set hi6 u7 hm7,hC5.next hk' hi' hj'⟩
    ·have hj0:j=l.length:=by
      have: ¬j<l.length:=by simpa using hc
      omega
     subst hj0
     refine O4 ?_
     exact Y5 (by omega) hi' ⟨m5,hS5,hM5,hC5.row⟩
   ·have hi0:i=l.length:=by
     have: ¬i<l.length:=by simpa using hc
     omega
    subst hi0
    refine O4 ?_
    exact Y5 (by omega) hk' ⟨m4,hS4,hM4,hC4.round⟩
  ·have hk0:k=l.length:=by
    have: ¬k<l.length:=by simpa using hc
    omega
   subst hk0
   obtain ⟨σ9,hS9,le9,hrows⟩:=hM3.keep hpos (by omega) hS3 (fun b hb=>(hb2 b hb).1)
   refine h _ _ _ hS9 ((hv8.lift le9).conv (by simp[I3,hlb]) fun i hi hj cs hcs=>?_)
   have hcs:cs=_:=hcs
   subst hcs
   refine ⟨_,rfl,?_⟩
   have:=hrows i hi
   have he:(I3 l)[i]=(List.range l.length).map (m3 i):=by
    have hi':i<l.length:=by omega
    simp only[I3,List.getElem_map,List.getElem_range]
    apply List.map_congr_left
    intro j hj
    exact (Clos.all ho hC3 hi' (by simpa using hj)).symm
   rw[he];exact this)
end Go.Proofs.YtjdiakhipmggjaaGreatDoor

namespace Go.Emb
open Go.RowKit Go.Hm
end Go.Emb
namespace Go.Hm
end Go.Hm
namespace Go.Proofs.YtjdiakhipmggjaaGreatDoor
open Go.Emb Go.RowKit Go.Kd Go.Hm
variable {w : World} {K : Value → World → Prop} {σ : Q6} {l : List Cla}
end Go.Proofs.YtjdiakhipmggjaaGreatDoor

namespace Go.Emb
open Go.RowKit Go.Hm
variable {w w0 w1 w' w'' : World} {σ σ0 σ1 σ2 σ' : Q6}
theorem Stp.weak (h:Stp w σ1 w' σ2) (a: ∀b o,σ b=some o→σ1 b=some o):Stp w σ w' σ:=
 ⟨h.bel,fun b o e=>h.sat b o (h.le b o (a b o e)),fun _ _ e=>e,fun _ _=>rfl⟩
end Go.Emb
namespace Go.Proofs.YtjdiakhipmggjaaGreatDoor
open Go.Emb Go.RowKit Go.Kd Go.Hm
variable {w : World} {K : Value → World → Prop} {σ : Q6}
end Go.Proofs.YtjdiakhipmggjaaGreatDoor

namespace Go.Emb
open Go.RowKit Go.Hm
variable {w w' : World} {σ σ' : Q6}
theorem J8.raise {α:Type} {R:Q6→α→List Value→Prop} {B B' sz:Nat} {e:TypeId} {v:Value} {xs:List α} (h:J8 B' e sz R σ w v xs) (m: ∀k,v.ownBlock=some k→B≤k):J8 B e sz R σ w v xs:=by
 obtain ⟨a,j,rfl,r,o,d,p⟩:=h
 refine ⟨a,j,rfl,r,o,fun b c=>⟨(d b c).1,m _ (by subst c;rfl),(d b c).2.2⟩,fun n=>?_⟩
 obtain ⟨g,i,f,rfl,s,q⟩:=p n
 exact ⟨g,i,f,rfl,m g rfl,q⟩
end Go.Emb
namespace Go.Proofs.YtjdiakhipmggjaaGreatDoor
open Go.Emb Go.RowKit Go.Kd Go.Hm
variable {w w' : World} {K : Value → World → Prop} {σ σ' : Q6} {hp tv : Value} {room : Int} {cs : List Cel} {l : List Cla}
theorem RowsIs.rows {B:Nat} {D:Nat→Prop} {g:Value} (h:RowsIs B D σ w g cs) (A:X2 w σ): ∃vs σ',vs.length=cs.length∧X2 w σ'∧SLe σ σ'∧Sl 2 Q3C σ' g (Qx vs cs)∧(∀i (h:i<vs.length) (z:i<cs.length),J8 B T.f 4 M5 σ w vs[i] cs[i].vals∧ ∀k,vs[i].ownBlock=some k→D k)∧(∀k,¬D k→σ' k=σ k)∧
 ∀i (h:i<vs.length) (z:i<cs.length) vals' n,Kpt (fun k=>vs[i].ownBlock=some k) w n→J8 B T.f 4 M5 σ n vs[i] vals'→RowsIs B D σ n g (cs.set i ⟨cs[i].kind,vals'⟩):=by
 obtain ⟨vs,u,f,t,hD⟩:=h.ex
 obtain ⟨p,r⟩:=List.pairwise_cons.1 t
 obtain ⟨σ',y,v,C,o1⟩:=u.freeze A
 refine ⟨vs,σ',f.1,y,v,C,fun i c d=>⟨f.2 i c d,fun k b=>(hD k).2 ⟨vs[i],by simp[List.getElem_mem c],b⟩⟩,fun k b=>o1 k fun e=>b ((hD k).2 ⟨g,by simp,e.symm⟩),fun i c d vals' n b E=>⟨vs,?_,⟨by simpa using f.1,fun j o q=>?_⟩,t,hD⟩⟩
 ·have e:Qx vs (cs.set i ⟨cs[i].kind,vals'⟩)=Qx vs cs:=by
   refine List.ext_getElem (by simp[Qx]) fun j J H=>?_
   simp only[Qx,List.getElem_zipWith,List.getElem_set]
   split
   ·rename_i e;subst e;rfl
   ·rfl
  rw[e]
  exact u.kp b fun k a m=>p _ (List.getElem_mem c) k a m
 ·have s:j<cs.length:=by simpa using q
  simp only[List.getElem_set]
  by_cases e:i=j
  ·subst e;simp only[if_pos];exact E
  ·simp only[if_neg e]
   refine (f.2 j o s).kp b fun k a m=>?_
   have hp:=List.pairwise_iff_getElem.1 r
   rcases Nat.lt_or_gt_of_ne e with hlt | hlt
   ·exact hp i j c o hlt k m a
   ·exact hp j i o c hlt k a m
theorem Q9d {i:Nat} (a:i<cs.length) {vals':List Val} (h:vals'.length=cs[i].vals.length):Z6 (cs.set i ⟨cs[i].kind,vals'⟩)=Z6 cs:=by
 unfold Z6
 rw[List.map_set]
 simp only[h]
 have b:1+(cs[i].vals.length:Int)=(cs.map (fun c=>1+(c.vals.length:Int)))[i]'(by simpa using a):=by simp
 rw[b,List.set_getElem_self]
set_option maxHeartbeats 1000000 in
theorem X1e {B:Nat} {D:Nat→Prop} {r i:Int} {v:Val} (hs:X2 w σ) (hg:Glb σ) (h:HeapIs B D σ w hp tv room cs) (ht:Tab σ tv l) (ok:Ok l) (good: ∀c∈cs,GoodC W5 l cs c) (hv:M5 σ v [I v.sort,I v.n,S v.s,I v.ref])
 (hh: ∀w' σ',Nxt D w σ w' σ'→HeapIs B D σ' w' hp tv room (H5 W5 l cs r i v).1→K (I (H5 W5 l cs r i v).2) w'):Q1 P F.b3 [hp,I r,I i, .agg [I v.sort,I v.n,S v.s,I v.ref].toArray] w K:=Q23 (by
 unfold Hs
 refine Y9 hs fun q w1 σ1 hk1 hq=>?_
 have h1:=h.up hk1
 have hs1:=hk1.sat
 obtain ⟨σf,sf,lef,hsl,_⟩:=h1.freeze hs1
 refine Q7l sf hsl ?_
 unfold H5 at hh
 refine Ut ?_
 by_cases h0:E2 cs r i=0
 case neg=>
  have e:decide (E2 cs r i=0)=false:=decide_eq_false h0
  rw[if_pos h0] at hh
  rw[e]
  refine J4 ?_
  exact hh _ _ (.of_stp hk1) h1
 have e:decide (E2 cs r i=0)=true:=decide_eq_true h0
 rw[if_neg (fun hn=>hn h0)] at hh
 rw[e]
 refine Z9 ?_
 obtain ⟨j,m,rfl,rfl,hj,hm⟩:=Lb h0
 rw[L4 hj,Int.toNat_natCast] at hh
 have hsl0:=hsl
 obtain ⟨a,lv,rfl,la,ls⟩:=hsl
 obtain ⟨vv,p1,p2,p3⟩:=Sl.elO ls hj
 have hqf:=hq.lift lef
 have lesf:SLe σ σf:=SLe.more ⟨hk1.le⟩ lef
 have htf:=ht.lift lesf
 have hone:vv.cells= #[vv]∧vv.oneCell'=true:=by obtain ⟨a,c,rfl,_⟩:=p2;exact ⟨rfl,rfl⟩
 have hgc:=good cs[j] (List.getElem_mem hj)
 have hif:elem cs[j].kind=[]→m<(Y6 l cs[j].kind).length:=fun e=>by
  rcases hgc.is with h | h
  ·exact absurd e h
  ·rw[←h.2];exact hm
 refine U2 sf ?_
 (repeat (apply J7;(· intros;(repeat (rename_i hx;subst hx));(repeat' (first | (with_reducible exact N2 rfl) | (with_reducible exact S1 (Stp.bel (by (repeat (first | exact Stp.refl (by (first | assumption | exact Stp.sat (by assumption) | exact Hst.sat (by assumption))) | assumption | refine Stp.trans ?_ (by first | assumption | exact Hst.stp (by assumption)))))) rfl) | (with_reducible intro _) | (simp only[↓M2,M2,Mb,reduceIte]) | (with_reducible show Q2 _ _ _ _ _;first | refine X7 aS aL aR ?_ | refine Y4 aS aL aR ?_ | refine ld aS aL aR ?_) | (with_reducible show indexAddr _ _ _ _ _ _;refine Y3 aL au ?_) | (with_reducible show X3 _ _ _ _ _ _ _ _;refine Q8 aL ?_) | (with_reducible show F4 _ _ _ _ _ _;refine J0 aR ?_) | (with_reducible show pick _ _ _ _ _ _;refine L8 ?_) | (with_reducible show Q1 _ _ _ _ _;first | refine Q9r au au au au au au au ?_) | (apply G5;intro hh;(try simp only[hh,reduceIte,↓M2,M2,Mb,reduceIte]))));done)))
 (intros;(repeat (rename_i hx;subst hx)))
 rename_i w2 hb2
 refine Q5d hb2.sat (hg.lift lesf) hsl0 htf ok hv.2.2.2.1 (Q2G ok p3 m) fun w3 σ3 hk3=>?_
 have hk13:=(hb2.stp.trans hk3).weak lef.le
 have h3:=h1.up hk13
 have hS3:=hk1.trans hk13
 have hs3:=hk13.sat
 refine We ?_
 cases hf:S8 W5 l cs v (Xk l cs[j].kind m) with
 | false=>
  rw[hf] at hh
  simp only[Bool.false_eq_true,if_false] at hh
  refine J4 ?_
  exact hh _ _ (.of_stp hS3) h3
 | true=>
  rw[hf] at hh
  simp only[if_true] at hh
  refine Z9 ?_
  obtain ⟨b,lv',E,hpe,hbB,hm3,hr3,hE,hD⟩:=h3.ex
  obtain ⟨vs,σg,hvl,sg,leg,slg,hrow,hog,hset⟩:=hr3.rows hs3
  obtain ⟨σh,sh,leh,lih,_⟩:=(show Y1 σg w3 b _ from ⟨(hog b hE).trans hm3.1,hm3.2⟩).freeze sg
  cases hpe
  have slh:=slg.lift leh
  have hqh:=(hq.up hk13).lift (leg.more leh)
  have hjv:j<vs.length:=by rw[hvl];exact hj
  have hjo:j<(Qx vs cs).length:=by rw[Ds hvl];exact hj
  obtain ⟨cs5,p5,_,r5⟩:=slh.el hjo
  have eo:(Qx vs cs)[j]=(cs[j].kind,vs[j]):=by simp[Qx]
  rw[eo] at r5
  obtain ⟨rfl,_⟩:=r5
  refine U2 sh ?_
  (repeat refine J7 Xa ?_)
  (intros;(repeat (rename_i hx;subst hx)))
  rename_i w4 hb4
  have hk34:=Stp.of_below hs3 hb4.stp.bel
  have N34:Nxt (fun _=>False) w3 σ1 w4 σ1:= .of_stp hk34
  obtain ⟨hrj,hrD⟩:=hrow j hjv hj
  have hrj4:=hrj.up hk34
  have hv1:M5 σ1 v [I v.sort,I v.n,S v.s,I v.ref]:=hv
  refine Q2V (w0:=Tb w4) (σ0:=fun _=>none) (x:=v) (Yo hk34.sat) (hrj4.mono (Nat.zero_le B)) hm rfl hv1 (Rep.one hv1) fun p u w5 hkp hb5 hq5=>?_
  have hkp5:Kpt (fun k=>vs[j].ownBlock=some k) w3 w5:=(Kpt.of_below hk34.bel).trans hkp
  have hr5:=hset j hjv hj _ w5 hkp5 (hq5.raise fun k hk=>(hrj.mem hk).1)
  have N35:Nxt (fun k=>vs[j].ownBlock=some k) w3 σ1 w5 σ1:=⟨hkp5,SLe.refl _,fun _ _=>rfl,hb5.sat⟩
  have hm5:=hm3.nx N35 fun e=>hE (hrD b e)
  have hsv:F3 cs j m v=cs.set j ⟨cs[j].kind,cs[j].vals.set m v⟩:=by unfold F3;rw[L4 hj,Int.toNat_natCast,Int.toNat_natCast]
  rw[hsv] at hh
  have htk:=Q9d hj (vals':=cs[j].vals.set m v) (by simp)
  refine hh w5 σ1 ((Nxt.of_stp hS3).chain N35 fun k _ e=>(hD k).2 (.inr (hrD k e))) ⟨b,lv',E,rfl,hbB,?_,hr5,hE,hD⟩
  rw[htk];exact hm5)
end Go.Proofs.YtjdiakhipmggjaaGreatDoor

namespace Go.Emb
open Go.RowKit Go.Hm
variable {P : Program} {w w' : World} {K : Value → World → Prop} {σ σ' : Q6}
theorem X48 {c:List TypeId} {t:TypeId} {cs:List Bool} {k:IntKind} {a b:Int} (h:K (.int k (max a b)) w):X3 P .max c t cs [.int k a, .int k b] w K:=by
 have d:(builtin .max c.toArray t cs.toArray #[.int k a, .int k b]).run P w= .ok (.value (.int k (max a b))) w:=by
  have:=run_max_int2 (P:=P) (w:=w) c.toArray t k k a b
  have e:(if b>a then b else a)=max a b:=by split<;>omega
  rw[e] at this
  simp[builtin,this]
 unfold X3
 rw[A9];unfold T2
 rw[d];exact h
theorem X3V {c:List TypeId} {t:TypeId} {cs:List Bool} {k:IntKind} {a b:Int} (h:K (.int k (min a b)) w):X3 P .min c t cs [.int k a, .int k b] w K:=by
 have d:(builtin .min c.toArray t cs.toArray #[.int k a, .int k b]).run P w= .ok (.value (.int k (min a b))) w:=by
  have:=run_min_int2 (P:=P) (w:=w) c.toArray t k k a b
  have e:(if b<a then b else a)=min a b:=by split<;>omega
  rw[e] at this
  simp[builtin,this]
 unfold X3
 rw[A9];unfold T2
 rw[d];exact h
theorem X3F {α:Type} {R:Q6→α→List Value→Prop} {B sz:Nat} {e:TypeId} {v:Value} {xs ys:List α} {t:TypeId} {f:Nat} {z:Value} [ts:TS P t e] [tz:TZ P e sz f z] (h:J8 B e sz R σ w v (xs++ys))
 (i: ∀d,J8 B e sz R σ w d xs→d.ownBlock=v.ownBlock→K d w):R7 P t v none (some (I xs.length)) none w K:=by
 have j:=h
 obtain ⟨a,b,rfl,k,p,n,q⟩:=j
 rw[List.length_append] at k
 have c:J8 B e sz R σ w (.slice a xs.length b) xs:=h.pre rfl
 generalize (xs++ys).length=N at*
 have hh: ∀w:World,(Instr.sliceBounds true N b none (some (I xs.length)) none).run P w= .ok (0,xs.length,b) w:=by
  intro w
  have o:(xs.length:Int)≤b:=by omega
  have m:xs.length≤b:=by omega
  simp[Instr.sliceBounds,Instr.sliceBound,asIntOf,m]
  try (intros;omega)
 unfold R7
 have:(Instr.sliceAt t (.slice a N b) none (some (I xs.length)) none).run P w= .ok (.slice (if b=0 then a else a.map (·.add (0*sz))) (xs.length-0) (b-0)) w:=by
  simp[Instr.sliceAt,run_underlying ts.h,Instr.slice,hh,L2 tz]
 rw[X9 this]
 have g:(if b=0 then a else a.map (·.add (0*sz)))=a:=by
  split
  ·rfl
  ·cases a<;>simp[add_zero]
 rw[g,Nat.sub_zero,Nat.sub_zero]
 exact i _ c (by cases a<;>rfl)
end Go.Emb
namespace Go.Proofs.YtjdiakhipmggjaaGreatDoor
open Go.Emb Go.RowKit Go.Kd Go.Hm
variable {w w' : World} {K : Value → World → Prop} {σ σ' : Q6} {hp tv : Value} {room : Int} {cs : List Cel} {l : List Cla}
theorem X3c {v:Val} {ds:List Value} {n:Int} {q:Addr} (c:X2 w σ) (d:M5 σ v ds) (f:Z4 σ q [I n]) (h: ∀w',Below w.heap.size w w'→K (.bool (F7 n v)) w'):Q1 P F.bF [.agg ds.toArray, .pointer (some q)] w K:=Q02 (by
 obtain ⟨rfl,_⟩:=d
 unfold Ow
 refine Y9 c fun g w1 σ1 a b=>?_
 unfold F7 at h
 refine W4 ?_
 refine ld a.sat b rfl ?_
 refine P3 ?_
 by_cases e:v.sort=4
 ·rw[decide_eq_true e] at h⊢
  (try simp only[↓M1,M1,Mb,reduceIte])
  refine ld a.sat b rfl ?_
  refine X7 a.sat (f.up a) rfl ?_
  (try simp only[↓M1,M1,Mb,reduceIte])
  exact h _ a.bel
 ·rw[decide_eq_false e] at h⊢
  (try simp only[↓M1,M1,Mb,reduceIte])
  exact h _ a.bel)
theorem X04 {vs:List Value} {c:Cel} (h:vs.length=cs.length+1): ∃v,Qx vs (cs++[c])=Qx (vs.take cs.length) cs++[(c.kind,v)]:=by
 refine ⟨vs[cs.length],?_⟩
 have e:vs=vs.take cs.length++[vs[cs.length]]:=by
  rw[List.take_append_getElem (by omega)]
  rw[List.take_of_length_le (by omega)]
 conv=>lhs;rw[e]
 unfold Qx
 rw[List.zipWith_append (by simp;omega)]
 rfl
theorem X4d {B n:Nat} {D:Nat→Prop} {f:Value} {c:Cel} (y:n=cs.length) (h:RowsIs B D σ w f (cs++[c])) (u: ∀a D',RowsIs B D' σ w a cs→(∀j,D' j→D j)→K a w):R7 P T.g f none (some (I n)) none w K:=by
 subst y
 obtain ⟨vs,r,q,A,hD⟩:=h.ex
 have b:vs.length=cs.length+1:=by rw[q.1];simp
 obtain ⟨C,z⟩:=X04 (c:=c) b
 rw[z] at r
 have t:cs.length=(Qx (vs.take cs.length) cs).length:=by rw[Ds (by simp[b])]
 rw[t]
 refine X3F r fun a o s=>?_
 refine u a (fun k=> ∃v∈a::vs.take cs.length,v.ownBlock=some k) ⟨vs.take cs.length,o,⟨by simp[b],fun i E p=>?_⟩,?_,fun k=>Iff.rfl⟩ ?_
 ·have m:i<vs.length:=by omega
  have:=q.2 i m (by simp;omega)
  rw[List.getElem_append_left p] at this
  simpa using this
 ·obtain ⟨e,g⟩:=List.pairwise_cons.1 A
  exact List.pairwise_cons.2 ⟨fun v hv k d=>e v (List.mem_of_mem_take hv) k (s▸d),g.sublist (List.take_sublist _ _)⟩
 ·rintro k ⟨v,hv,d⟩
  rcases List.mem_cons.1 hv with rfl | hv
  ·exact (hD k).2 ⟨f,by simp,s▸d⟩
  ·exact (hD k).2 ⟨v,by simp[List.mem_of_mem_take hv],d⟩
set_option maxHeartbeats 2000000 in
theorem X3E {B:Nat} {D:Nat→Prop} {n:Int} (hs:X2 w σ) (h:HeapIs B D σ w hp tv room cs) (hl:Z6 cs≤1048576) (hn:Yi n)
 (hh: ∀w' σ' D',Nxt D w σ w' σ'→HeapIs B D' σ' w' hp tv room (Pw cs n)→(∀j,D' j→D j)→K (.tuple #[]) w'):Q1 P F.c4 [hp,I n] w K:=Q1X (by
 have hcl:=Qf cs
 unfold Hw
 refine Q5L hs fun b0 w1 hb0 hk1 hm1=>?_
 have hm1:Y1 σ w1 b0 [I n]:=hm1
 refine Q83 hm1 rfl ?_
 refine X48 ?_
 refine st0 hm1 (by simp) rfl rfl fun w2 u2 hm2=>?_
 have hm2:Y1 σ w2 b0 [I (max n 0)]:=hm2
 unfold Pw at hh
 obtain ⟨m,hmE⟩:=Int.eq_ofNat_of_zero_le (show 0≤max n 0 by omega)
 rw[hmE] at hm2 hh
 have hmx:(m:Int)≤9223372036854775807:=by have:=hn.2;omega
 have hk2:Stp w σ w2 σ:=u2.stp hk1 hb0 hm1.1
 obtain ⟨σ2,hS2,hq2,le2,_⟩:=hm2.keep hk2 hb0
 have h2:=h.up hS2
 have hs2:=hS2.sat
 obtain ⟨σf,sf,lef,hsl,_⟩:=h2.freeze hs2
 rw[Int.toNat_natCast] at hh
 obtain ⟨a,lv,rfl,la,ls⟩:=hsl
 have hqf:=hq2.le lef.le
 refine U2 sf ?_
 (repeat (apply J7;(· intros;(repeat (rename_i hx;subst hx));(repeat' (first | (with_reducible exact N2 rfl) | (with_reducible exact S1 (Stp.bel (by (repeat (first | exact Stp.refl (by (first | assumption | exact Stp.sat (by assumption) | exact Hst.sat (by assumption))) | assumption | refine Stp.trans ?_ (by first | assumption | exact Hst.stp (by assumption)))))) rfl) | (with_reducible intro _) | (simp only[↓M2,M2,Mb,reduceIte]) | (with_reducible refine X3V ?_) | (with_reducible show Q2 _ _ _ _ _;first | refine X7 aS aL aR ?_ | refine Y4 aS aL aR ?_ | refine ld aS aL aR ?_) | (with_reducible show indexAddr _ _ _ _ _ _;refine Y3 aL au ?_) | (with_reducible show X3 _ _ _ _ _ _ _ _;refine Q8 aL ?_) | (with_reducible show F4 _ _ _ _ _ _;refine J0 aR ?_) | (with_reducible show pick _ _ _ _ _ _;refine L8 ?_) | (apply G5;intro hh;(try simp only[hh,reduceIte,↓M2,M2,Mb,reduceIte]))));done)))
 (intros;(repeat (rename_i hx;subst hx)))
 rename_i w3 hb3
 have hmin:min (m:Int) (cs.length:Int)=((min m cs.length:Nat):Int):=by omega
 rw[hmin]
 refine Ei ls none (some (I (min m cs.length:Nat))) 0 (min m cs.length) (.inl ⟨rfl,rfl⟩) (.inr rfl) (Nat.zero_le _) (Nat.min_le_right _ _) fun v3 hv3=>?_
 rw[List.drop_zero,Nat.sub_zero,List.take_eq_take_min.symm] at hv3
 refine Q8 hv3 ?_
 have hk23: ∀{w' σ'},Stp w3 σf w' σ'→Stp w2 σ2 w' σ2:=fun hk=>(hb3.stp.trans hk).weak lef.le
 refine U3 (cs.take m).length (fun i w'=> ∃σ',Stp w3 σf w' σ'∧((cs.take m).take i).any (fun c=>c.vals.any (F7 m))=false) ⟨σf,Stp.refl hb3.sat,rfl⟩ fun i w4 d hi hinv=>?_
 obtain ⟨σ4,hk4,hno⟩:=hinv
 refine Z2 ?_
 refine Q7 (fun hc=>?_) (fun hc=>?_)
 ·have hi':i<(cs.take m).length:=by simpa using hc
  have hv4:=hv3.up hk4
  obtain ⟨vv,p1,p2,p3⟩:=Sl.elO hv4 hi'
  refine Y3 hv4 hi' ?_
  refine Y4 hk4.sat p1 rfl ?_
  refine Y8 hk4.sat (by rfl) rfl (Rep.one (R:=S2) ⟨vv,rfl,p2,p3⟩) fun q5 w5 σ5 hk5 hq5=>?_
  rw[fa]
  refine ld hk5.sat hq5 rfl ?_
  rw[Qb]
  have hq5f:=hqf.lift (SLe.more ⟨hk4.le⟩ ⟨hk5.le⟩)
  refine Cb (F7 m) hk5.sat (p2.up hk5) (fun v ds w6 K hv hs6 hr hlen hK=>Z7 (first:=[]) (caps:=[.pointer (some ⟨b0,0,none⟩)]) (X3c hs6 hr hq5f hK)) fun w6 hb6=>?_
  have hk6:=(hk4.trans hk5).trans (Stp.of_below hk5.sat hb6)
  have hnx:=L3 (p:=fun c:Cel=>c.vals.any (F7 m)) hi'
  cases hany:(cs.take m)[i].vals.any (F7 m) with
  | true=>
   refine J4 ?_
   rw[if_pos (C0 hi' hany)] at hh
   have hS:=hS2.trans (hk23 hk6)
   exact hh _ _ D (.of_stp hS) (h.up hS) fun j hj=>hj
  | false=>
   refine Z9 ?_
   refine O4 ?_
   refine Y5 hv3.max hi' ⟨σ5,hk6,?_⟩
   rw[hnx,hno,hany];rfl
 have hi': ¬i<(cs.take m).length:=by simpa using hc
 rw[E0 hi'] at hno
 rw[if_neg (by rw[hno];simp)] at hh
 have hS4:=hS2.trans (hk23 hk4)
 have h4:=h.up hS4
 refine Ke (fun k (_:Unit) w'=> ∃D',Nxt D w σ w' σ2∧HeapIs B D' σ2 w' (.pointer (some a)) tv room (cs.take k)∧(∀j,D' j→D j)∧k≤cs.length∧(m≤k∨k=cs.length)) cs.length ⟨D, .of_stp hS4,by rw[List.take_length];exact h4,fun j hj=>hj,Nat.le_refl _, .inr rfl⟩ ?_
 rintro again k x d w5 ⟨D5,N5,h5,hD5,hkl,hmk⟩ hag
 have hs5:=N5.sat
 have htk:Z6 (cs.take k)≤1048576:=by
  have e:Z6 cs=Z6 (cs.take k)+Z6 (cs.drop k):=by rw[←Qo,List.take_append_drop]
  have:=D9 (cs.drop k)
  omega
 obtain ⟨σg,sg,leg,hslg,_⟩:=h5.freeze hs5
 obtain ⟨ag,lvg,hpe,lag,lsg⟩:=hslg
 cases hpe
 have hqg:=(show Z4 σ2 ⟨b0,0,none⟩ [I (m:Int)] from hq2).lift leg
 have hlk:(cs.take k).length=k:=by rw[List.length_take];omega
 refine U2 sg ?_
 (repeat refine J7 Xa ?_)
 (intros;(repeat (rename_i hx;subst hx)))
 rename_i w6 hb6
 have hk56:Stp w5 σ2 w6 σ2:=hb6.stp.weak leg.le
 have h6:=h5.up hk56
 have N6:=N5.chain (Nxt.of_stp (D:=fun _=>False) hk56) fun j _ e=>e.elim
 rw[hlk]
 refine Pr ?_
 by_cases hgt:m<k
 case neg=>
  rw[decide_eq_false (show¬(m:Int)<(k:Int) by omega)]
  refine Z9 ?_
  have e:cs.take m=cs.take k:=by
   rcases hmk with e | e
   ·rw[show m=k by omega]
   ·rw[e,List.take_length,List.take_of_length_le (by omega)]
  rw[e] at hh
  exact hh w6 σ2 D5 N6 h6 hD5
 rw[decide_eq_true (show (m:Int)<(k:Int) by omega)]
 refine J4 ?_
 obtain ⟨k1,rfl⟩: ∃k1,k=k1+1:=⟨k-1,by omega⟩
 have hk1l:k1<cs.length:=by omega
 have esnoc:cs.take (k1+1)=cs.take k1++[cs[k1]]:=by rw[List.take_append_getElem hk1l]
 have hk1t:(cs.take k1).length=k1:=by rw[List.length_take];omega
 obtain ⟨σh,sh,leh,hslh,_⟩:=h6.freeze hk56.sat
 obtain ⟨b,lv6,E6,hpb,hbB,hm6,hr6,hE6,hDe6⟩:=h6.ex
 cases hpb
 obtain ⟨ah,lvh,hpe,lah,lsh⟩:=hslh
 cases hpe
 rw[L9,fa]
 refine Ye hm6 rfl ?_
 obtain ⟨al,capl,hle⟩:=hr6.len
 rw[hlk] at hle
 subst hle
 rw[Q1r]
 refine Zg ⟨by omega,by omega⟩ ?_
 have ek:((k1+1:Nat):Int)-1=(k1:Int):=by omega
 rw[ek]
 have hkk:k1<(cs.take (k1+1)).length:=by omega
 obtain ⟨vvk,pk,pk2,_⟩:=Sl.elO lsh hkk
 have evk:((cs.take (k1+1))[k1]'hkk).vals=cs[k1].vals:=by simp
 rw[evk] at pk2
 refine U2 sh ?_
 (repeat refine J7 Xa ?_)
 (intros;(repeat (rename_i hx;subst hx)))
 rename_i w7 hb7
 have hk67:Stp w6 σ2 w7 σ2:=hb7.stp.weak leh.le
 have htn:=D9 (cs.take k1)
 have etk:Z6 (cs.take (k1+1))=Z6 (cs.take k1)+(1+(cs[k1].vals.length:Int)):=by
  rw[esnoc,Qo];simp[Z6]
 rw[F9 (by omega) (by omega)]
 refine Zg ⟨by omega,by omega⟩ ?_
 have eu:Z6 (cs.take (k1+1))-(1+(cs[k1].vals.length:Int))=Z6 (cs.take k1):=by omega
 rw[eu]
 have hm7:=hm6.up hk67
 have hr7:=hr6.up hk67
 rw[L9,fa]
 refine Ud hm7 (by simp) rfl rfl fun w8 u8 hm8=>?_
 have N78:=Nxt.of_upd hk67.sat u8 hm7.1
 have hr8:=hr7.nx N78 fun j hj e=>hE6 (e▸hj)
 rw[L9,fa]
 refine Ye hm8 rfl ?_
 rw[esnoc] at hr8
 refine X4d hk1t.symm hr8 fun lv9 E9 hr9 hE9=>?_
 rw[L9,fa]
 refine Ud hm8 (by simp) hr9.shape.1 hr9.shape.2 fun w9 u9 hm9=>?_
 have N89:=Nxt.of_upd N78.sat u9 hm8.1
 have hE9b: ¬E9 b:=fun e=>hE6 (hE9 b e)
 have hr9':=hr9.nx N89 fun j hj e=>hE9b (e▸hj)
 have hDb:D5 b:=(hDe6 b).2 (.inl rfl)
 have N9:Nxt D w σ w9 σ2:=((N6.chain (Nxt.of_stp (D:=fun _=>False) hk67) fun j _ e=>e.elim).chain N78 fun j _ e=>e▸hD5 b hDb).chain N89 fun j _ e=>e▸hD5 b hDb
 refine hag k1 _ _ (Nat.lt_succ_self _) ⟨fun j=>j=b∨E9 j,N9,⟨b,lv9,E9,rfl,hbB,hm9,hr9',hE9b,fun j=>Iff.rfl⟩,fun j hj=>?_,by omega, .inl (by omega)⟩
 rcases hj with rfl | hj
 ·exact hD5 _ hDb
 ·exact hD5 j ((hDe6 j).2 (.inr (hE9 j hj))))
end Go.Proofs.YtjdiakhipmggjaaGreatDoor

namespace Go.Emb
open Go.RowKit Go.Hm
variable {P : Program} {w w' w0 : World} {K : Value → World → Prop} {σ σ' σ0 : Q6}
theorem Nxt.stp' {D:Nat→Prop} (N:Nxt D w σ w' σ') (a:Stp w0 σ0 w σ) (f: ∀k,D k→w0.heap.size≤k):Stp w0 σ0 w' σ':=
 ⟨⟨N.kp.os.trans a.bel.os,N.kp.tape.trans a.bel.tape,N.kp.output.trans a.bel.output,Nat.le_trans a.bel.size N.kp.size,fun k d=>(N.kp.block k (Nat.lt_of_lt_of_le d a.bel.size) fun h=>absurd (f k h) (by omega)).trans (a.bel.block k d)⟩,N.sat,fun b o e=>N.le.le b o (a.le b o e),fun b c=>(N.old b (Nat.lt_of_lt_of_le c a.bel.size)).trans (a.old b c)⟩
end Go.Emb
namespace Go.Proofs.YtjdiakhipmggjaaGreatDoor
open Go.Emb Go.RowKit Go.Kd Go.Hm
variable {w w' : World} {K : Value → World → Prop} {σ σ' : Q6} {hp tv : Value} {room : Int} {cs : List Cel} {l : List Cla}
theorem RowsIs.nil {B:Nat}:RowsIs B (fun _=>False) σ w (.slice none 0 0) []:=
 ⟨[],J8.of_acc V6.nil,⟨rfl,fun i h=>absurd h (Nat.not_lt_zero i)⟩,List.pairwise_singleton _ _,fun k=>by simp[Value.ownBlock]⟩
end Go.Proofs.YtjdiakhipmggjaaGreatDoor

namespace Go.Proofs.YtjdiakhipmggjaaGreatDoor
open Go.Emb Go.RowKit Go.Kd Go.Hm
variable {w : World} {K : Value → World → Prop} {σ : Q6} {l : List Cla} {v : Value}
theorem Q4C {c:Cla} {n:X0} (h:Ca c n=none):F2 c n=none:=by
 unfold F2 Ca at*
 rw[List.findIdx?_eq_none_iff] at h
 rw[List.find?_eq_none]
 intro m a
 have:=h m a
 simpa using this
theorem Q7n {c:Cla} {n:X0} {i:Nat} (h:Ca c n=some i): ∃a:i<c.methods.length,F2 c n=some c.methods[i]:=by
 unfold F2 Ca at*
 obtain ⟨a,e,d⟩:=List.findIdx?_eq_some_iff_getElem.1 h
 refine ⟨a,List.find?_eq_some_iff_getElem.2 ⟨e,i,a,rfl,fun j b=>?_⟩⟩
 have:=d j b
 simpa using this
theorem Q12 {n:X0} (h:lk l n=none):Z1 l n=none:=by
 cases b:Z1 l n with
 | none=>rfl
 | some i=>obtain ⟨c,a,_⟩:=Zm b;rw[h] at a;cases a
set_option maxHeartbeats 1000000 in
theorem Q92 {n:X0} (ok:Ok l): ∀(k:Nat) {c:Cla} {cs:List Value} {w:World} {σ:Q6} {K:Value→World→Prop},P0 l c.name<k→lk l c.name=some c→X2 w σ→Sl 8 V0 σ v l→V0 σ c cs→
 (∀pv cv hv w' Z,Stp w σ w' Z→E4 Z (o2 (V5 l c n)) [S (o2 (V5 l c n)).name,pv,S (o2 (V5 l c n)).result, .bool (o2 (V5 l c n)).abs,I (o2 (V5 l c n)).locals,cv,hv]→
  K (.tuple #[S (o1 (V5 l c n)), .agg [S (o2 (V5 l c n)).name,pv,S (o2 (V5 l c n)).result, .bool (o2 (V5 l c n)).abs,I (o2 (V5 l c n)).locals,cv,hv].toArray, .bool (V5 l c n).isSome]) w')→
 Q1 P F.aM [v, .agg cs.toArray,S n] w K:=by
 intro k
 induction k with
 | zero=>
  intro c cs w σ K hk
  omega
 | succ k ih=>
  intro c cs w σ K hk hc hs hv hr h
  refine Pf ?_
  obtain ⟨lv,fv,mv,rfl,g1,g2,g3,g4,g5⟩:=hr
  have H:=Q4F ok.acy hc n
  generalize hf:(fun u=>match lk l u with | none=>none | some d=>match F2 d n with | some m=>some (u,m) | none=>V5 l d n)=f at H
  unfold Mi
  refine Y9 hs fun a w1 σ1 C ar=>?_
  refine M8 C.sat fun b w2 σ2 hb L a4=>?_
  have M:w.heap.size≤b:=M9 hb C
  have ap:=ar.up L
  have g1:=(g1.up C).up L
  refine U3 c.like.length (fun i w'=> ∃Z,Stp w σ w' Z∧SLe σ2 Z∧Y1 Z w' b [S [], .slice none 0 0,S [], .bool false,I 0, .slice none 0 0, .slice none 0 0]∧(c.like.take i).findSome? f=none) ⟨σ2,C.trans L,SLe.refl _,a4,rfl⟩ fun i w3 d hi ag=>?_
  obtain ⟨σ3,e,V,aa,A⟩:=ag
  have X:=hv.up e
  have W:=ap.lift V
  have D:=g1.lift V
  (try simp only[↓M1,M1,Mb,reduceIte])
  refine ld e.sat W rfl ?_
  refine Q8 D ?_
  refine Z2 ?_
  refine Q7 (fun hh=>?_) (fun hh=>?_)
  ·have g:i<c.like.length:=by simpa using hh
   (try simp only[↓M1,M1,Mb,reduceIte])
   refine ld e.sat W rfl ?_
   refine Y3 D g ?_
   obtain ⟨p0,_⟩:=D.elS g
   refine X7 e.sat p0 rfl ?_
   obtain ⟨d,hd⟩:=ok.full c (V4 hc).2.1 _ (List.getElem_mem g)
   obtain ⟨Q,b0,_⟩:=V4 hd
   have p:f c.like[i]=match F2 d n with | some m=>some (c.like[i],m) | none=>V5 l d n:=by rw[←hf];simp only[hd]
   refine Bj e.sat X hd fun j hj bl=>?_
   obtain ⟨ai,a0⟩:=List.getElem?_eq_some_iff.1 hj
   refine Y3 X ai ?_
   obtain ⟨bx,bq,bo,p1,r1⟩:=X.elC ai
   rw[a0] at p1 r1
   refine Y4 e.sat p1 rfl ?_
   refine Y8 e.sat (by rfl) rfl (Rep.one r1) fun q w4 σ4 o R=>?_
   refine Y4 o.sat R rfl ?_
   refine Q7K o.sat (RCl_lift r1 ⟨o.le⟩) fun w5 σ5 t=>?_
   refine P5 ?_
   rw[T7]
   have B:=(e.trans o).trans t
   have E:=(aa.step o).step t
   have a5:=R.up t
   have r5:=RCl_lift r1 ⟨(o.trans t).le⟩
   have Y:=t.sat
   have a9:SLe σ2 σ5:=V.more ⟨(o.trans t).le⟩
   clear R p1 r1 p0 W D o t
   cases ho:Ca d n with
   | some i2=>
    obtain ⟨a3,a8⟩:=Q7n ho
    rw[a8] at p
    simp only[Option.isSome_some,L6,↓M1,M1,Mb,reduceIte]
    obtain ⟨_,_,aw,_,_⟩:=r5.parts
    obtain ⟨pv,cv,bu,p2,r2⟩:=aw.elM a3
    refine U2 Y ?_
    (repeat refine J7 Xa ?_)
    (intros;(repeat (rename_i hx;subst hx));(try simp only[↓M2,M2,Mb,reduceIte]))
    rename_i w6 ab
    refine G7 (E.step ab.stp) (B.trans ab.stp) M rfl rfl (Rep.one r2) fun w8 ay a1=>?_
    refine V2 a1 rfl ?_
    have N:=H.trans (Xn g A p)
    rw[N] at h
    rw[Q]
    exact h _ _ _ w8 σ5 ay.stp r2
   | none=>
    rw[Q4C ho] at p
    simp only[Option.isSome_none,↓M1,M1,Mb,reduceIte]
    refine Y4 Y a5 rfl ?_
    have bp:=Xs ok.acy hc (by simp[U4,List.getElem_mem g]:c.like[i]∈U4 c) hd
    refine ih (by rw[Q];omega) (by rw[Q];exact hd) Y (hv.up B) r5 fun pv cv bs w8 σ8 z O=>?_
    refine J6 (vs:=[_,_,_]) rfl ?_
    refine J6 (vs:=[_,_,_]) rfl ?_
    refine J6 (vs:=[_,_,_]) rfl ?_
    refine Y8 z.sat (by rfl) rfl (Rep.one O) fun q w9 σ9 y a7=>?_
    have ak:=(B.trans z).trans y
    have aj:=(E.step z).step y
    have U:=RMe_lift O ⟨y.le⟩
    have a6:SLe σ2 σ9:=a9.more ⟨(z.trans y).le⟩
    have ax:=y.sat
    cases N:V5 l d n with
    | some r=>
     obtain ⟨s,m⟩:=r
     rw[N] at p U a7
     clear O z y
     simp only[N,Option.isSome_some,↓M1,M1,Mb,reduceIte]
     refine U2 ax ?_
     (repeat refine J7 Xa ?_)
     (intros;(repeat (rename_i hx;subst hx));(try simp only[↓M2,M2,Mb,reduceIte]))
     rename_i bn J
     refine G7 (aj.step J.stp) (ak.trans J.stp) M rfl rfl (Rep.one U) fun av ac ad=>?_
     refine V2 ad rfl ?_
     have ba:=H.trans (Xn g A p)
     rw[ba] at h
     exact h _ _ _ av σ9 ac.stp U
    | none=>
     rw[N] at p
     simp only[Option.isSome_none,↓M1,M1,Mb,reduceIte]
     refine Y5 (by have:=g1.max;omega) g ⟨σ9,ak,a6,aj,?_⟩
     rw[Xv g A];exact p
  ·have g: ¬i<c.like.length:=by simpa using hh
   rw[List.take_of_length_le (by omega)] at A
   refine Fu ?_
   refine G7 aa e M rfl rfl (Rep.one (Qv (σ:=σ3))) fun w5 B E=>?_
   refine V2 E rfl ?_
   have N:=H.trans A
   rw[N] at h
   exact h _ _ _ w5 σ3 B.stp Qv
set_option maxHeartbeats 1000000 in
theorem Q88 {k n:X0} (hs:X2 w σ) (hv:Sl 8 V0 σ v l) (ok:Ok l)
 (h: ∀pv cv hv w' M,Stp w σ w' M→E4 M (o2 (V3 l k n)) [S (o2 (V3 l k n)).name,pv,S (o2 (V3 l k n)).result, .bool (o2 (V3 l k n)).abs,I (o2 (V3 l k n)).locals,cv,hv]→
  K (.tuple #[S (o1 (V3 l k n)), .agg [S (o2 (V3 l k n)).name,pv,S (o2 (V3 l k n)).result, .bool (o2 (V3 l k n)).abs,I (o2 (V3 l k n)).locals,cv,hv].toArray, .bool (V3 l k n).isSome]) w'):
 Q1 P F.bf [v,S k,S n] w K:=Ic (by
 unfold Lq
 refine M8 hs fun b w1 σ1 hb X ax=>?_
 refine K0 X.sat (hv.up X) ?_
 unfold V3 at h
 generalize hF:(fun c:Cla=>(F2 c n).map (c.name,·))=F1 at h
 have an: ∀c,F1 c=(F2 c n).map (c.name,·):=fun c=>by rw[←hF]
 refine Ke (fun m x w'=> ∃s B M,m=(chain l s).length∧x=I (L6 (Z1 l s))∧chain l k=B++chain l s∧Stp w σ w' M∧Y1 M w' b [S [], .slice none 0 0,S [], .bool false,I 0, .slice none 0 0, .slice none 0 0]∧B.findSome? F1=none)
  (chain l k).length ⟨k,[],σ1,rfl,rfl,rfl,X,ax,rfl⟩ ?_
 rintro Y m x d w2 ⟨s,B,σ2,rfl,rfl,f,C,ah,e⟩ D
 have J:=hv.up C
 have aa:=C.sat
 refine P5 ?_
 rw[T7]
 cases A:lk l s with
 | some c=>
  obtain ⟨aj,a0,i,R,V⟩:=V4 A
  obtain ⟨g,Z⟩:=List.getElem?_eq_some_iff.1 V
  simp only[R,Option.isSome_some,L6,↓M1,M1,Mb,reduceIte]
  refine Y3 J g ?_
  obtain ⟨lv,fv,mv,z,N⟩:=J.elC g
  rw[Z] at z N
  refine Y4 aa z rfl ?_
  refine Q7K aa N fun w3 σ3 j=>?_
  refine P5 ?_
  rw[T7]
  have p:=C.trans j
  have o:=J.up j
  have y:=ah.step j
  have u:=j.sat
  replace z:=z.up j
  replace N:=RCl_lift N ⟨j.le⟩
  have t:chain l s=c::chain l c.super:=by rw[T9 ok.acy s,A]
  cases W:Ca c n with
  | some i2=>
   obtain ⟨aw,a4⟩:=Q7n W
   simp only[Option.isSome_some,L6,↓M1,M1,Mb,reduceIte]
   obtain ⟨_,_,a3,_,_⟩:=N.parts
   obtain ⟨pv,cv,be,p2,r2⟩:=a3.elM aw
   clear j
   refine U2 u ?_
   (repeat refine J7 Xa ?_)
   (intros;(repeat (rename_i hx;subst hx));(try simp only[↓M2,M2,Mb,reduceIte]))
   rename_i w4 ai
   refine G7 (y.step ai.stp) (p.trans ai.stp) hb rfl rfl (Rep.one r2) fun w8 a5 ar=>?_
   refine V2 ar rfl ?_
   have H:(chain l k).findSome? F1=some (c.name,c.methods[i2]):=by
    rw[f,List.findSome?_append,e,t,List.findSome?_cons,an,a4];rfl
   rw[H] at h
   exact h _ _ _ w8 σ3 a5.stp r2
  | none=>
   simp only[Option.isSome_none,↓M1,M1,Mb,reduceIte]
   refine Y3 o g ?_
   (try simp only[↓M1,M1,Mb,reduceIte])
   refine ld u z rfl ?_
   refine K0 u o ?_
   refine D (chain l c.super).length _ _ (by rw[t,List.length_cons];omega) ⟨c.super,B++[c],σ3,rfl,rfl,by rw[f,t];simp,p,y,?_⟩
   rw[List.findSome?_append,e]
   simp[an,Q4C W]
 | none=>
  rw[Q12 A]
  simp only[Option.isSome_none,↓M1,M1,Mb,reduceIte]
  have ae:(chain l k).findSome? F1=none:=by rw[f,Yz A,List.append_nil];exact e
  rw[ae] at h
  clear D e f
  refine K0 aa J ?_
  refine Ke (fun m x w'=> ∃s B M,m=(chain l s).length∧x=I (L6 (Z1 l s))∧chain l k=B++chain l s∧Stp w σ w' M∧Y1 M w' b [S [], .slice none 0 0,S [], .bool false,I 0, .slice none 0 0, .slice none 0 0]∧B.findSome? (fun c=>V5 l c n)=none)
   (chain l k).length ⟨k,[],σ2,rfl,rfl,rfl,C,ah,rfl⟩ ?_
  rintro Y m x d w3 ⟨s,B,σ3,rfl,rfl,f,p,y,e⟩ D
  have o:=hv.up p
  have u:=p.sat
  refine P5 ?_
  rw[T7]
  cases A:lk l s with
  | some c=>
   obtain ⟨aj,a0,i,R,V⟩:=V4 A
   obtain ⟨g,Z⟩:=List.getElem?_eq_some_iff.1 V
   simp only[R,Option.isSome_some,L6,↓M1,M1,Mb,reduceIte]
   refine Y3 o g ?_
   obtain ⟨lv,fv,mv,z,N⟩:=o.elC g
   rw[Z] at z N
   refine Y4 u z rfl ?_
   have t:chain l s=c::chain l c.super:=by rw[T9 ok.acy s,A]
   refine Q92 ok _ (Nat.lt_succ_self _) (by rw[aj];exact A) u o N fun pv cv bj w8 σ8 U ac=>?_
   refine J6 (vs:=[_,_,_]) rfl ?_
   refine J6 (vs:=[_,_,_]) rfl ?_
   refine J6 (vs:=[_,_,_]) rfl ?_
   refine Y8 U.sat (by rfl) rfl (Rep.one ac) fun q w9 σ9 E az=>?_
   have a:=U.trans E
   have ao:=p.trans a
   have al:=y.step a
   have Q:=RMe_lift ac ⟨E.le⟩
   have ab:=E.sat
   have am:=o.up a
   replace z:=z.up a
   cases W:V5 l c n with
   | some r=>
    obtain ⟨s,m⟩:=r
    rw[W] at Q az
    clear ac U E a
    simp only[W,Option.isSome_some,↓M1,M1,Mb,reduceIte]
    refine U2 ab ?_
    (repeat refine J7 Xa ?_)
    (intros;(repeat (rename_i hx;subst hx));(try simp only[↓M2,M2,Mb,reduceIte]))
    rename_i bg O
    refine G7 (al.step O.stp) (ao.trans O.stp) hb rfl rfl (Rep.one Q) fun a2 af ag=>?_
    refine V2 ag rfl ?_
    have H:(chain l k).findSome? (fun c=>V5 l c n)=some (s,m):=by
     rw[f,List.findSome?_append,e,t,List.findSome?_cons,W];rfl
    unfold V5 at H
    rw[H] at h
    exact h _ _ _ a2 σ9 af.stp Q
   | none=>
    simp only[Option.isSome_none,↓M1,M1,Mb,reduceIte]
    refine Y3 am g ?_
    (try simp only[↓M1,M1,Mb,reduceIte])
    refine ld ab z rfl ?_
    refine K0 ab am ?_
    refine D (chain l c.super).length _ _ (by rw[t,List.length_cons];omega) ⟨c.super,B++[c],σ9,rfl,rfl,by rw[f,t];simp,ao,al,?_⟩
    rw[List.findSome?_append,e]
    simp[W]
  | none=>
   rw[Q12 A]
   simp only[Option.isSome_none,↓M1,M1,Mb,reduceIte]
   have L:(chain l k).findSome? (fun c=>V5 l c n)=none:=by rw[f,Yz A,List.append_nil];exact e
   refine Fu ?_
   refine G7 y p hb rfl rfl (Rep.one (Qv (σ:=σ3))) fun w7 a1 ay=>?_
   refine V2 ay rfl ?_
   unfold V5 at L
   rw[L] at h
   exact h _ _ _ w7 σ3 a1.stp Qv)
end Go.Proofs.YtjdiakhipmggjaaGreatDoor

namespace Go.Hm
open Go.Kd
theorem Q2g: ∀(xs:List X0) (x:X0),xs≠[]→H8 (xs++[x])=H8 xs++[44]++x
 | [],_,h=>absurd rfl h
 | [a],x,_=>by simp[H8]
 | a::b::r,x,_=>by
  have:=Q2g (b::r) x (by simp)
  simp only[List.cons_append] at this⊢
  simp only[H8,this]
  simp
theorem Q2q {xs:List X0} {n:Nat} (h:n<xs.length):H8 (xs.take (n+1))=H8 (xs.take n)++(if 0<n then [44] else [])++xs[n]:=by
 rw[List.take_add_one,List.getElem?_eq_getElem h]
 simp only[Option.toList_some]
 cases n with
 | zero=>simp[H8]
 | succ n=>
  rw[Q2g _ _ (by intro e;have:=congrArg List.length e;simp only[List.length_take,List.length_nil] at this;omega)]
  simp
end Go.Hm
namespace Go.Proofs.YtjdiakhipmggjaaGreatDoor
open Go.Emb Go.RowKit Go.Kd Go.Hm
variable {w : World} {K : Value → World → Prop} {σ : Q6} {l : List Cla} {v : Value}
theorem Q5r {m:Hm.Met} {cs:List Value} (D:X2 w σ) (y:E4 σ m cs) (p:SmM m) (s:NmM m) (h: ∀w' z,Stp w σ w' z→K (S (Qw m)) w'):Q1 P F.aV [.agg cs.toArray] w K:=Q0d (by
 obtain ⟨pv,N,L,rfl,f,H,U,R,M,J⟩:=y
 unfold Oo
 refine Y9 D fun q w1 σ1 g j=>?_
 have f:=f.up g
 have B: ∀n,(H8 (m.params.take n)).length≤101000000:=fun n=>by
  have:=Rc (m.params.take n) fun x u=>s.2 x (List.mem_of_mem_take u)
  have C:(m.params.take n).length≤1000000:=by rw[List.length_take];have:=p.1;omega
  have Q:(m.params.take n).length*101≤1000000*101:=Nat.mul_le_mul_right _ C
  omega
 have c:=g.sat
 refine E8 m.params.length (fun n a w'=>w'=w1∧a=S ([40]++H8 (m.params.take n))) ⟨rfl,by simp[H8]⟩ fun n a O d A i=>?_
 obtain ⟨E,rfl⟩:=i
 subst E
 have o:=B n
 (try simp only[↓M1,M1,Mb,reduceIte])
 refine ld c j rfl ?_
 refine Q8 f ?_
 refine Z2 ?_
 refine Q7 (fun k=>?_) (fun k=>?_)
 ·have b:n<m.params.length:=by simpa using k
  have u:=s.2 _ (List.getElem_mem b)
  refine U8 ?_
  obtain ⟨t,_⟩:=f.elS b
  refine Q7 (fun r=>?_) (fun r=>?_)
  ·have e:0<n:=by have:=of_decide_eq_true r;omega
   refine Rk (by simp only[List.length_append,List.length_cons,List.length_nil];omega) ?_
   intro d
   (try simp only[↓M1,M1,Mb,reduceIte])
   refine ld c j rfl ?_
   refine Y3 f b ?_
   refine X7 c t rfl ?_
   refine Rk (by simp only[List.length_append,List.length_cons,List.length_nil];omega) ?_
   (try simp only[↓M1,M1,Mb,reduceIte])
   refine J5 f.max b ⟨rfl,?_⟩
   rw[Q2q b,if_pos e];simp
  ·have e: ¬0<n:=by have:=of_decide_eq_false r;omega
   intro d
   (try simp only[↓M1,M1,Mb,reduceIte])
   refine ld c j rfl ?_
   refine Y3 f b ?_
   refine X7 c t rfl ?_
   refine Rk (by simp only[List.length_append,List.length_cons,List.length_nil];omega) ?_
   (try simp only[↓M1,M1,Mb,reduceIte])
   refine J5 f.max b ⟨rfl,?_⟩
   rw[Q2q b,if_neg e];simp
 ·have b: ¬n<m.params.length:=by simpa using k
  rw[List.take_of_length_le (by omega)] at o⊢
  refine Rk (by simp only[List.length_append,List.length_cons,List.length_nil];omega) ?_
  (try simp only[↓M1,M1,Mb,reduceIte])
  refine ld c j rfl ?_
  refine Rk (by simp only[List.length_append,List.length_cons,List.length_nil];have:=s.1;omega) ?_
  exact h _ _ g)
end Go.Proofs.YtjdiakhipmggjaaGreatDoor

namespace Go.Emb
open Go.RowKit Go.Hm
structure FinT (B : Nat) (F : Option Obj → Prop) (w w' : World) : Prop where
  os : w'.os = w.os
  tape : w'.tape = w.tape
  output : w'.output = w.output
  size : w.heap.size ≤ w'.heap.size
  old : ∀ k, k < w.heap.size → k < B → w'.heap[k]? = w.heap[k]?
  new : ∀ k, k < w.heap.size → w'.heap[k]? = w.heap[k]? ∨ F (w'.heap[k]?)
section
variable {P : Program} {B : Nat} {F : Option Obj → Prop} {w w' w0 : World} {σ : Q6} {v V : Value} {K : Value → World → Prop}
theorem FinT.of_below (h:Below w.heap.size w w'):FinT B F w w':=⟨h.os,h.tape,h.output,h.size,fun k a _=>h.block k a,fun k a=> .inl (h.block k a)⟩
theorem FinT.of_upd {b:Nat} (h:Upd w b w') (c:B≤b) (hF:F (w'.heap[b]?)):FinT B F w w':=
 ⟨h.os,h.tape,h.output,by rw[h.size];exact Nat.le_refl _,fun k a hB=>h.block k (by omega),fun k a=>by
  by_cases e:k=b
  ·subst e;exact .inr hF
  ·exact .inl (h.block k e)⟩
theorem FinT.hst (h:FinT w0.heap.size F w w') (c:X2 w0 σ) (a:Hst w0 σ w σ):Hst w0 σ w' σ:=
 ⟨Stp.of_below c ⟨h.os.trans a.stp.bel.os,h.tape.trans a.stp.bel.tape,h.output.trans a.stp.bel.output,Nat.le_trans a.stp.bel.size h.size,fun k b=>(h.old k (Nat.lt_of_lt_of_le b a.stp.bel.size) b).trans (a.stp.bel.block k b)⟩⟩
theorem X3e {A:(World→World→Prop)→(World→Prop)→Prop} (F:Option Obj→Prop) (a:X2 w σ) (h:A (FinT w.heap.size F) (fun w'=>Hst w σ w' σ)):dr w A:=
 Im _ _ ⟨Stp.of_below a (Below.refl _ _).drew⟩ (fun _ _ c b=>b.hst a c) h
theorem Q5x (h:V=v):dk (FinT B F) (fun v _=>V=v) w v w:=⟨.of_below (Below.refl _ _),h⟩
theorem X2D (a:Below w.heap.size w w') (h:V=v):dk (FinT B F) (fun v _=>V=v) w v w':=⟨.of_below a,h⟩
def X33 (B n:Nat) (F:Option Obj→Prop) (v:Value) (w:World):Prop:= ∃g,v= .pointer (some ⟨g,0,none⟩)∧B≤g∧((∃cs:List Value,∃e,cs.length=n∧w.heap[g]? =some (.cells cs.toArray e (0,0)))∨F (w.heap[g]?))
def X3v (B:Nat) (F:Option Obj→Prop) (v:Value) (w:World):Prop:= ∃g,v= .pointer (some ⟨g,0,none⟩)∧B≤g∧F (w.heap[g]?)
theorem Kv {w:World} {g:Nat} {o:Obj} (h:w.heap[g]? =some o):g<w.heap.size:=(Array.getElem?_eq_some_iff.1 h).1
theorem Q8B {n:Nat} (hF: ¬F none):Sx (FinT B F) (X33 B n F):=by
 rintro v w w' ⟨g,rfl,hB,b⟩ d
 have a:g<w.heap.size:=by
  rcases b with ⟨cs,e,_,h⟩ | h
  ·exact Kv h
  ·cases c:w.heap[g]? with
   | none=>rw[c] at h;exact absurd h hF
   | some o=>exact Kv c
 rcases d.new g a with h | h
 ·exact ⟨g,rfl,hB,by rw[h];exact b⟩
 ·exact ⟨g,rfl,hB, .inr h⟩
theorem Q8A (hF: ¬F none):Sx (FinT B F) (X3v B F):=by
 rintro v w w' ⟨g,rfl,hB,a⟩ d
 have b:g<w.heap.size:=by
  cases c:w.heap[g]? with
  | none=>rw[c] at a;exact absurd a hF
  | some o=>exact Kv c
 rcases d.new g b with h | h
 ·exact ⟨g,rfl,hB,by rw[h];exact a⟩
 ·exact ⟨g,rfl,hB,h⟩
end
end Go.Emb
namespace Go.Hm
open Go.Kd
theorem Q7e {a b:List Hm.Met} (h: ∀m,m∈a↔m∈b):Md a=Md b:=by
 rw[Bool.eq_iff_iff]
 simp only[Md,List.any_eq_true]
 constructor
 ·rintro ⟨x,d,y,e,c⟩;exact ⟨x,(h x).1 d,y,(h y).1 e,c⟩
 ·rintro ⟨x,d,y,e,c⟩;exact ⟨x,(h x).2 d,y,(h y).2 e,c⟩
theorem X0j {α:Type} {a b:List α} {p:α→Bool} (h: ∀m,m∈a↔m∈b):a.any p=b.any p:=by
 rw[Bool.eq_iff_iff]
 simp only[List.any_eq_true]
 constructor
 ·rintro ⟨x,c,y⟩;exact ⟨x,(h x).1 c,y⟩
 ·rintro ⟨x,c,y⟩;exact ⟨x,(h x).2 c,y⟩
def Zf (m:Hm.Met):List X0:=m.params++if m.result=[] then [] else [m.result]
def Ji (c:Cla):List X0:=c.fields.map (·.kind)++c.methods.flatMap Zf
theorem Q9L {l:List Cla} {c:Cla}:(Ji c).any (fun s=> !O3 l s)=B8 l c:=by
 unfold Ji B8 Zf
 rw[List.any_append,List.any_map,List.any_flatMap]
 congr 1
 congr 1
 funext m
 rw[List.any_append]
 by_cases e:m.result=[]
 ·simp[e]
 ·simp[e,Bool.or_comm]
def upB (l:List Cla) (i k:Nat):Bool:=decide (k=i)||Xj l (Y2 l i) (Y2 l k)
def Xg (l:List Cla) (i n:Nat):List Hm.Met:=(List.range n).flatMap fun k=>if upB l i k then (l.getD k Cla.zero).methods else []
theorem Q8I {l:List Cla} {i n:Nat}:Xg l i (n+1)=Xg l i n++if upB l i n then (l.getD n Cla.zero).methods else []:=by
 unfold Xg
 rw[List.range_succ,List.flatMap_append]
 simp
theorem Q4B {l:List Cla} (r:T5 l) {i:Nat} (n:i<l.length) (m:Hm.Met):m∈Xg l i l.length↔m∈Lf l (Y2 l i):=by
 unfold Xg Lf
 simp only[List.mem_flatMap,List.mem_range]
 have a: ∀k,k<l.length→lk l (Y2 l k)=some (l.getD k Cla.zero):=fun k g=>Yh r g
 constructor
 ·rintro ⟨k,g,d⟩
  split at d
  ·rename_i hu
   refine ⟨Y2 l k,?_,by rw[a k g];exact d⟩
   rw[Uv,Q0X]
   simp only[upB,Bool.or_eq_true,decide_eq_true_eq,Ul] at hu
   rcases hu with rfl | hu
   ·exact .inl ⟨rfl,_,a _ g⟩
   ·exact .inr hu
  ·simp at d
 ·rintro ⟨u,hu,d⟩
  rw[Uv] at hu
  obtain ⟨c,o⟩:=hu.right
  obtain ⟨A,p,j,s,b⟩:=V4 o
  obtain ⟨h,y⟩:=List.getElem?_eq_some_iff.1 b
  have f:Y2 l j=u:=by
   unfold Y2;rw[List.getD_eq_getElem?_getD,b];exact A
  refine ⟨j,h,?_⟩
  rw[o] at d
  have:upB l i j=true:=by
   simp only[upB,Bool.or_eq_true,decide_eq_true_eq,Ul]
   rw[Q0X] at hu
   rcases hu with ⟨e,_⟩ | hu
   ·left
    have z:=a i n
    rw[e,←f] at z
    have q:=T5.find r (i:=i) (c:=l[i]) (List.getElem?_eq_getElem n)
    have t:l[i].name=Y2 l i:=by unfold Y2;rw[List.getD_eq_getElem?_getD,List.getElem?_eq_getElem n];rfl
    rw[t,e,s] at q
    simpa using q
   ·right;rw[f];exact hu
  rw[if_pos this,List.getD_eq_getElem?_getD,b]
  exact d
theorem Q9R {l:List Cla} {i n:Nat} {m:Hm.Met} (h:m∈Xg l i n) (d:n≤l.length): ∃c∈l,m∈c.methods:=by
 unfold Xg at h
 simp only[List.mem_flatMap,List.mem_range] at h
 obtain ⟨k,e,a⟩:=h
 split at a
 ·have b:k<l.length:=by omega
  rw[List.getD_eq_getElem?_getD,List.getElem?_eq_getElem b] at a
  exact ⟨l[k],List.getElem_mem _,a⟩
 ·simp at a
def A4 (a:List Hm.Met) (x y:Nat):Bool:=decide ((a.getD x Hm.Met.zero).name=(a.getD y Hm.Met.zero).name)&& !decide (Qw (a.getD x Hm.Met.zero)=Qw (a.getD y Hm.Met.zero))
theorem Bh {α:Type} {l:List α} {d:α} {n:Nat} (h:n<l.length):l.getD n d=l[n]:=by rw[List.getD_eq_getElem?_getD,List.getElem?_eq_getElem h];rfl
theorem Q9Y {a:List Hm.Met} {x y:Nat} (b:x<a.length) (c:y<a.length) (h:A4 a x y=true):Md a=true:=by
 unfold Md
 rw[List.any_eq_true]
 refine ⟨a[x],List.getElem_mem _,?_⟩
 rw[List.any_eq_true]
 refine ⟨a[y],List.getElem_mem _,?_⟩
 unfold A4 at h
 rwa [Bh b,Bh c] at h
theorem X0S {d:List Hm.Met} (h: ∀x y,x<d.length→y<x→A4 d x y=false):Md d=false:=by
 unfold Md
 rw[List.any_eq_false]
 intro a k
 rw[List.any_eq_true]
 rintro ⟨b,j,e⟩
 obtain ⟨x,g,rfl⟩:=List.getElem_of_mem k
 obtain ⟨y,i,rfl⟩:=List.getElem_of_mem j
 have f:A4 d y x=A4 d x y:=by
  unfold A4
  congr 1
  ·rw[Bool.eq_iff_iff];simp[eq_comm]
  ·congr 1;rw[Bool.eq_iff_iff];simp[eq_comm]
 have c:A4 d x y=true:=by unfold A4;rw[Bh g,Bh i];exact e
 rcases Nat.lt_trichotomy x y with hlt | heq | hlt
 ·rw[←f,h y x i hlt] at c;cases c
 ·subst heq;simp[A4] at c
 ·rw[h x y g hlt] at c;cases c
end Go.Hm
namespace Go.Proofs.YtjdiakhipmggjaaGreatDoor
open Go.Emb Go.RowKit Go.Kd Go.Hm
variable {w : World} {K : Value → World → Prop} {σ : Q6} {l : List Cla} {v : Value}
theorem Pu {c:Cla} (h:Zu c=false):c.fields.length≤32∧c.methods.length≤32∧ ∀m∈c.methods,m.params.length≤32:=by
 simp only[Zu,Bool.or_eq_false_iff,decide_eq_false_iff_not,List.any_eq_false] at h
 obtain ⟨⟨⟨b,d⟩,f⟩,e⟩:=h
 refine ⟨by omega,by omega,fun m a=>?_⟩
 have:=b m a
 simp only[Wk,Bool.or_eq_true,decide_eq_true_eq,not_or] at this
 omega
set_option maxHeartbeats 8000000 in
theorem Q76 {i:Nat} (hs:X2 w σ) (hv:Sl 8 V0 σ v l) (ok:Ok l) (own:T5 l) (hlen:l.length≤1000) (hmn: ∀c∈l,Zu c=false) (hi:i<l.length)
 (h: ∀w' σ',Stp w σ w' σ'→K (I (V7 l l[i])) w'):Q1 P F.b9 [v,I i] w K:=Fh (by
 unfold Wb
 obtain ⟨lv,fv,mv,p0,r0⟩:=hv.elC hi
 refine Y3 hv hi ?_
 refine Y4 hs p0 rfl ?_
 refine Y8 hs (by rfl) rfl (Rep.one r0) fun q w1 σ1 hk1 hq1=>?_
 have r1:=RCl_lift r0 ⟨hk1.le⟩
 obtain ⟨_,gf,gm,g4,_⟩:=r1.parts
 have hv1:=hv.up hk1
 have hnm:=ok.nm _ (List.getElem_mem hi)
 have hcm:=hmn _ (List.getElem_mem hi)
 have hname:Y2 l i=l[i].name:=Ti hi
 generalize hcE:l[i]=c at*
 obtain ⟨mf,mm,mp⟩:=Pu hcm
 have e64:Yt l c=true→V7 l c=64:=fun e=>by unfold V7;simp[e]
 have e65:Yt l c=false→B8 l c=true→V7 l c=65:=fun e e2=>by unfold V7;simp[e,e2]
 have e66:Yt l c=false→B8 l c=false→Zh l c=true→V7 l c=66:=fun e e2 e3=>by unfold V7;simp[e,e2,e3]
 have e67:Yt l c=false→B8 l c=false→Zh l c=false→Dj l c=true→V7 l c=67:=fun e e2 e3 e4=>by unfold V7;simp[e,e2,e3,e4]
 have e0:Yt l c=false→B8 l c=false→Zh l c=false→Dj l c=false→V7 l c=0:=fun e e2 e3 e4=>by unfold V7;simp[e,e2,e3,e4]
 generalize V7 l c=R at*
 clear p0 r0 r1 hcm
 refine U3 c.fields.length (fun n w'=> ∃σ',Stp w σ w' σ'∧SLe σ1 σ'∧(c.fields.take n).any (fun f=>(Jw l c.super f.name).isSome)=false) ⟨σ1,hk1,SLe.refl _,rfl⟩ fun n w2 d hn hinv=>?_
 obtain ⟨σ2,hS2,le2,hno⟩:=hinv
 have hq2:=hq1.lift le2
 have gf2:=gf.lift le2
 (try simp only[↓M1,M1,Mb,reduceIte])
 refine ld hS2.sat hq2 rfl ?_
 refine Q8 gf2 ?_
 refine Z2 ?_
 refine Q7 (fun hc=>?_) (fun hc=>?_)
 ·have hn':n<c.fields.length:=by simpa using hc
  obtain ⟨pf,_⟩:=gf2.elF hn'
  have hs2:=hS2.sat
  refine U2 hs2 ?_
  (repeat refine J7 Xa ?_)
  (intros;(repeat (rename_i hx;subst hx));(try simp only[↓M2,M2,Mb,reduceIte]))
  rename_i w3 hb3
  refine Q9h hb3.sat (hv.up (hS2.trans hb3.stp)) ok.acy hlen ok.sm fun w4 σ4 hk4=>?_
  refine P5 ?_
  rw[T7]
  have hnx:=L3 (p:=fun f:Fld=>(Jw l c.super f.name).isSome) hn'
  cases hp:(Jw l c.super c.fields[n].name).isSome with
  | true=>
   (try simp only[↓M1,M1,Mb,reduceIte])
   rw[hp,Bool.or_true] at hnx
   have:R=64:=e64 (C0 hn' hp)
   subst this
   exact h _ _ ((hS2.trans hb3.stp).trans hk4)
  | false=>
   (try simp only[↓M1,M1,Mb,reduceIte])
   exact Y5 gf.max hn' ⟨σ4,(hS2.trans hb3.stp).trans hk4,le2.more ⟨(hb3.stp.trans hk4).le⟩,by rw[hnx,hno,hp];rfl⟩
 have hA:Yt l c=false:=by
  have hn': ¬n<c.fields.length:=by simpa using hc
  rw[E0 hn'] at hno;exact hno
 clear hno hc hn e64
 refine Et (R:=U6) (e:=T.c) hS2 (by decide) fun x3 w3 hk3 ha3 _=>?_
 have hS3:=hS2.trans hk3
 refine E8 c.fields.length (fun n x w'=> ∃σ',Stp w σ w' σ'∧SLe σ1 σ'∧V6 w.heap.size T.c 1 U6 σ' w' x ((c.fields.take n).map (·.kind))) ⟨σ2,hS3,le2,ha3⟩ fun n x w4 d hn hinv=>?_
 obtain ⟨σ4,hS4,le4,ha4⟩:=hinv
 have hq4:=hq1.lift le4
 have gf4:=gf.lift le4
 (try simp only[↓M1,M1,Mb,reduceIte])
 refine ld hS4.sat hq4 rfl ?_
 refine Q8 gf4 ?_
 refine Z2 ?_
 refine Q7 (fun hc=>?_) (fun hc=>?_)
 ·have hn':n<c.fields.length:=by simpa using hc
  obtain ⟨pf,rf⟩:=gf4.elF hn'
  have hkl:=(hnm.2.1 _ (List.getElem_mem hn')).2
  (try simp only[↓M1,M1,Mb,reduceIte])
  refine ld hS4.sat hq4 rfl ?_
  refine Y3 gf4 hn' ?_
  (try simp only[↓M1,M1,Mb,reduceIte])
  refine ld hS4.sat pf rfl ?_
  refine Ug (R:=U6) (x:=c.fields[n].kind) hS4 ha4 ⟨rfl,Nat.le_trans hkl (by decide)⟩ rfl rfl rfl (by rw[List.length_map,List.length_take];omega) (by rw[List.length_map,List.length_take];omega) fun s v' w5 σ5 hnx hS5 ha5 _=>?_
  (try simp only[↓M1,M1,Mb,reduceIte])
  refine J5 gf.max hn' ⟨σ5,hS5,le4.more hnx.le,?_⟩
  rw[List.take_add_one,List.getElem?_eq_getElem hn',List.map_append]
  exact ha5
 rw[List.take_of_length_le (by
  have: ¬n<c.fields.length:=by simpa using hc
  omega)] at ha4
 clear hc hn hk3 ha3 hS3 hS2 le2 hq2 gf2 hq4 gf4
 have hkl: ∀n,(c.fields.map (·.kind)++(c.methods.take n).flatMap Zf).length≤2000:=fun n=>by
  have h1:=Vv Zf 33 (c.methods.take n) fun m hm=>by
   have:=mp m (List.mem_of_mem_take hm)
   unfold Zf
   split<;>simp<;>omega
  have h2:(c.methods.take n).length≤32:=by rw[List.length_take];omega
  have h3:(c.methods.take n).length*33≤32*33:=Nat.mul_le_mul_right _ h2
  rw[List.length_append,List.length_map];omega
 refine E8 c.methods.length (fun n x w'=> ∃σ',Stp w σ w' σ'∧SLe σ1 σ'∧V6 w.heap.size T.c 1 U6 σ' w' x (c.fields.map (·.kind)++(c.methods.take n).flatMap Zf)) ⟨σ4,hS4,le4,by simpa using ha4⟩ fun n x w5 d hn hinv=>?_
 clear ha4 hS4 le4
 obtain ⟨σ5,hS5,le5,ha5⟩:=hinv
 have hq5:=hq1.lift le5
 have gm5:=gm.lift le5
 have hkn:=hkl n
 (try simp only[↓M1,M1,Mb,reduceIte])
 refine ld hS5.sat hq5 rfl ?_
 refine Q8 gm5 ?_
 refine Z2 ?_
 refine Q7 (fun hc=>?_) (fun hc=>?_)
 ·have hn':n<c.methods.length:=by simpa using hc
  obtain ⟨pv,cv,hv',pm,rm⟩:=gm5.elM hn'
  obtain ⟨gp,_,_,_,gr,_⟩:=rm.parts
  have hpn:=mp _ (List.getElem_mem hn')
  have hrl:=(hnm.2.2 _ (List.getElem_mem hn')).1
  have hnx:(c.methods.take (n+1)).flatMap Zf=(c.methods.take n).flatMap Zf++Zf c.methods[n]:=by
   rw[List.take_add_one,List.getElem?_eq_getElem hn',List.flatMap_append];simp
  refine U8 ?_
  (try simp only[↓M1,M1,Mb,reduceIte])
  refine ld hS5.sat hq5 rfl ?_
  refine Y3 gm5 hn' ?_
  (try simp only[↓M1,M1,Mb,reduceIte])
  refine ld hS5.sat pm rfl ?_
  refine Wh hS5 ha5 gp rfl (by omega) (by omega) fun v6 w6 hn6 hS6 ha6 _=>?_
  (try simp only[↓M1,M1,Mb,reduceIte])
  refine ld hS6.sat hq5 rfl ?_
  refine Y3 gm5 hn' ?_
  (try simp only[↓M1,M1,Mb,reduceIte])
  refine ld hS6.sat pm rfl ?_
  refine Wl ?_
  by_cases he:c.methods[n].result=[]
  ·simp only[he,decide_true,Bool.not_true,↓M1,M1,Mb,reduceIte]
   intro d
   refine J5 gm.max hn' ⟨σ5,hS6,le5,?_⟩
   rw[hnx]
   unfold Zf
   rw[if_pos he,List.append_nil,←List.append_assoc]
   exact ha6
  ·simp only[he,decide_false,Bool.not_false,↓M1,M1,Mb,reduceIte]
   refine ld hS6.sat hq5 rfl ?_
   refine Y3 gm5 hn' ?_
   (try simp only[↓M1,M1,Mb,reduceIte])
   refine ld hS6.sat pm rfl ?_
   refine Ug (R:=U6) (x:=c.methods[n].result) hS6 ha6 ⟨rfl,Nat.le_trans hrl (by decide)⟩ rfl rfl rfl (by rw[List.length_append];omega) (by rw[List.length_append];omega) fun s v' w7 σ7 hn7 hS7 ha7 _=>?_
   intro d
   (try simp only[↓M1,M1,Mb,reduceIte])
   refine J5 gm.max hn' ⟨σ7,hS7,le5.more hn7.le,?_⟩
   rw[hnx]
   unfold Zf at ha7⊢
   rw[if_neg he]
   simpa only[List.append_assoc] using ha7
 rw[List.take_of_length_le (by
  have: ¬n<c.methods.length:=by simpa using hc
  omega)] at ha5
 have hkn:=hkl c.methods.length
 rw[List.take_of_length_le (Nat.le_refl _)] at hkn
 have hkE:B8 l c=(Ji c).any (fun s=> !O3 l s):=Q9L.symm
 have hkb: ∀s∈Ji c,s.length≤U1:=fun s hs=>by
  unfold Ji at hs
  rcases List.mem_append.1 hs with hs | hs
  ·obtain ⟨f,hf,rfl⟩:=List.mem_map.1 hs
   exact Nat.le_trans (hnm.2.1 f hf).2 (by decide)
  ·obtain ⟨m,hm,hs⟩:=List.mem_flatMap.1 hs
   unfold Zf at hs
   rcases List.mem_append.1 hs with hs | hs
   ·exact Nat.le_trans ((hnm.2.2 m hm).2 s hs) (by decide)
   ·split at hs
    ·simp at hs
    ·simp at hs;subst hs;exact Nat.le_trans (hnm.2.2 m hm).1 (by decide)
 obtain ⟨σ6,hS6,hv6,lee6,_⟩:=ha5.keep hS5
 have le6:=le5.more ⟨lee6⟩
 clear ha5 hq5 gm5 hc hn
 change Sl 1 U6 σ6 x (Ji c) at hv6
 refine U3 (Ji c).length (fun n w'=>Stp w σ w' σ6∧((Ji c).take n).any (fun s=> !O3 l s)=false) ⟨hS6,rfl⟩ fun n w7 d hn hinv=>?_
 obtain ⟨hS7,hno⟩:=hinv
 refine Q8 hv6 ?_
 refine Z2 ?_
 refine Q7 (fun hc=>?_) (fun hc=>?_)
 ·have hn':n<(Ji c).length:=by simpa using hc
  refine Y3 hv6 hn' ?_
  obtain ⟨pk,_⟩:=hv6.elS hn'
  refine X7 hS7.sat pk rfl ?_
  refine Q9e hS7.sat (hv.up hS7) (hkb _ (List.getElem_mem hn')) ?_
  have hnx:=L3 (p:=fun s=> !O3 l s) hn'
  cases hp:O3 l (Ji c)[n] with
  | false=>
   (try simp only[↓M1,M1,Mb,reduceIte])
   have:R=65:=e65 hA (by rw[hkE];exact C0 hn' (by simp[hp]))
   subst this
   exact h _ _ hS7
  | true=>
   (try simp only[↓M1,M1,Mb,reduceIte])
   exact Y5 hv6.max hn' ⟨hS7,by rw[hnx,hno,hp];rfl⟩
 have hB:B8 l c=false:=by
  have hn': ¬n<(Ji c).length:=by simpa using hc
  rw[E0 hn'] at hno;rw[hkE];exact hno
 clear hno hc hn e65 hkE hkb hkn hkl hS5 le5 lee6 hv6
 refine Q0U hS7.sat (hv.up hS7) own (by omega) hlen ok.sm fun vb w8 σ8 hk8 hb8=>?_
 have hS8:=hS7.trans hk8
 refine Et (R:=E4) (e:=T.d) hS8 (by decide) fun x9 w9 hk9 ha9 _=>?_
 have hml: ∀n,n≤l.length→(Xg l i n).length≤32000:=fun n hn=>by
  unfold Xg
  have h1:=Vv (fun k=>if upB l i k then (l.getD k Cla.zero).methods else []) 32 (List.range n) fun k hk=>by
   have hk':k<l.length:=by have:=List.mem_range.1 hk;omega
   split
   ·rw[Bh hk'];exact (Pu (hmn _ (List.getElem_mem _))).2.1
   ·simp
  rw[List.length_range] at h1
  have h3:n*32≤1000*32:=Nat.mul_le_mul_right _ (by omega)
  omega
 have hbl:(I3 l).length=l.length:=by simp[I3]
 refine E8 l.length (fun n x w'=> ∃σ',Stp w σ w' σ'∧SLe σ1 σ'∧SLe σ8 σ'∧V6 w.heap.size T.d 7 E4 σ' w' x (Xg l i n)) ⟨σ8,hS8.trans hk9,le6.more ⟨hk8.le⟩,SLe.refl _,ha9⟩ fun n x w10 d hn hinv=>?_
 clear ha9 hk9 hS7 hS8 le6 hS6 hk8
 obtain ⟨σ10,hS10,le10,leb,ha10⟩:=hinv
 have hv10:=hv.up hS10
 refine Q8 hv10 ?_
 refine Z2 ?_
 refine Q7 (fun hc=>?_) (fun hc=>?_)
 ·have hn':n<l.length:=by simpa using hc
  have hmn1:=hml n hn
  have hsuc:=Q8I (l:=l) (i:=i) (n:=n)
  rw[Bh hn'] at hsuc
  obtain ⟨lv2,fv2,mv2,p2,r2⟩:=hv10.elC hn'
  obtain ⟨_,_,g3,_,_⟩:=r2.parts
  have hmn2:=(Pu (hmn _ (List.getElem_mem hn'))).2.1
  refine Ur (fun z w'=>Stp w σ w' σ10∧V6 w.heap.size T.d 7 E4 σ10 w' z (Xg l i (n+1))) ?_ (fun z d w' hz=>?_)
  ·refine P3 ?_
   have happ: ∀{J:Value→World→Prop},upB l i n=true→(∀z w',Stp w σ w' σ10→V6 w.heap.size T.d 7 E4 σ10 w' z (Xg l i (n+1))→J z w')→
    X3 P .append [T.j,T.j] T.j [false,false] [x,mv2] w10 J:=fun hu hJ=>
    Wh hS10 ha10 g3 rfl (by omega) (by omega) fun v' w' _ hS' ha' _=>hJ v' w' hS' (by rw[hsuc,if_pos hu];exact ha')
   by_cases e:n=i
   ·have e1:decide ((n:Int)=(i:Int))=true:=by simp[e]
    rw[e1]
    (try simp only[↓M1,M1,Mb,reduceIte])
    refine Y3 hv10 hn' ?_
    (try simp only[↓M1,M1,Mb,reduceIte])
    refine ld hS10.sat p2 rfl ?_
    exact happ (by simp[upB,e]) fun z w' h1 h2=>⟨h1,h2⟩
   ·have e1:decide ((n:Int)=(i:Int))=false:=by rw[decide_eq_false_iff_not];omega
    rw[e1]
    obtain ⟨cs1,pb,_,rv,rfl,rb⟩:=(hb8.lift leb).el (i:=i) (by rw[hbl];exact hi)
    have hrow:(I3 l)[i]'(by rw[hbl];exact hi)=(List.range l.length).map fun j=>Xj l (Y2 l i) (Y2 l j):=by simp[I3]
    rw[hrow] at rb
    obtain ⟨cs2,pb2,_,hcs2⟩:=rb.el (i:=n) (by simpa using hn')
    have hcs2:cs2=_:=hcs2
    subst hcs2
    simp only[List.getElem_map,List.getElem_range] at pb2
    (try simp only[↓M1,M1,Mb,reduceIte])
    refine Y3 (hb8.lift leb) (by rw[hbl];exact hi) ?_
    refine X7 hS10.sat pb rfl ?_
    refine Y3 rb (by simpa using hn') ?_
    refine X7 hS10.sat pb2 rfl ?_
    (try simp only[↓M1,M1,Mb,reduceIte])
    cases ho:Xj l (Y2 l i) (Y2 l n) with
    | true=>
     (try simp only[↓M1,M1,Mb,reduceIte])
     refine Y3 hv10 hn' ?_
     (try simp only[↓M1,M1,Mb,reduceIte])
     refine ld hS10.sat p2 rfl ?_
     exact happ (by simp[upB,ho]) fun z w' h1 h2=>⟨h1,h2⟩
    | false=>
     (try simp only[↓M1,M1,Mb,reduceIte])
     refine ⟨hS10,?_⟩
     have:upB l i n=false:=by simp[upB,ho,e]
     rw[hsuc,this]
     simpa using ha10
  ·obtain ⟨hS',ha'⟩:=hz
   (try simp only[↓M1,M1,Mb,reduceIte])
   exact J5 (by omega) hn' ⟨σ10,hS',le10,leb,ha'⟩
 have hn0:n=l.length:=by
  have: ¬n<l.length:=by simpa using hc
  omega
 subst hn0
 obtain ⟨σ11,hS11,hv11,lee11,_⟩:=ha10.keep hS10
 have le11:=le10.more ⟨lee11⟩
 have hml2:=hml _ (Nat.le_refl l.length)
 have hov:Zh l c=Md (Xg l i l.length):=by
  unfold Zh
  refine (Q7e fun m=>?_).symm
  rw[Q4B own hi,hname]
 have hlk:Dj l c=(!c.abs&&(Xg l i l.length).any fun m=>Zb l c.name m.name):=by
  unfold Dj
  congr 1
  refine (X0j fun m=>?_).symm
  rw[Q4B own hi,hname]
 have hsn: ∀m∈Xg l i l.length,SmM m∧NmM m:=fun m hm=>by
  obtain ⟨c2,hc2,hm2⟩:=Q9R hm (Nat.le_refl _)
  exact ⟨(ok.sm c2 hc2).2.2.2 m hm2,(ok.nm c2 hc2).2.2 m hm2⟩
 generalize Xg l i l.length=ms at hov hlk hsn hml2 hv11
 clear ha10 lee11 hS10 le10 leb hv10 hml hc hb8 hbl
 refine U3 ms.length (fun n w'=> ∃σ',Stp w σ w' σ'∧SLe σ11 σ'∧ ∀a b,a<n→b<a→A4 ms a b=false) ⟨σ11,hS11,SLe.refl _,fun a b h=>by omega⟩ fun n w12 d hn hinv=>?_
 obtain ⟨σ12,hS12,le12,hno⟩:=hinv
 have hv12:=hv11.lift le12
 refine Q8 hv12 ?_
 refine Z2 ?_
 refine Q7 (fun hc=>?_) (fun hc=>?_)
 ·have hn':n<ms.length:=by simpa using hc
  refine U3 n (fun m w'=> ∃σ',Stp w σ w' σ'∧SLe σ11 σ'∧ ∀b,b<m→A4 ms n b=false) ⟨σ12,hS12,le12,fun b h=>by omega⟩ fun m w13 d hm hinv=>?_
  obtain ⟨σ13,hS13,le13,hno2⟩:=hinv
  have hv13:=hv11.lift le13
  refine Z2 ?_
  refine Q7 (fun hc=>?_) (fun hc=>?_)
  ·have hm':m<n:=by simpa using hc
   have hm2:m<ms.length:=by omega
   obtain ⟨pv1,cv1,hv1',pn,rn⟩:=hv13.elM hn'
   obtain ⟨pv2,cv2,hv2',pm,rm⟩:=hv13.elM hm2
   obtain ⟨sn1,sn2⟩:=hsn _ (List.getElem_mem hn')
   obtain ⟨sm1,sm2⟩:=hsn _ (List.getElem_mem hm2)
   have hat:A4 ms n m=(decide (ms[n].name=ms[m].name)&& !decide (Qw ms[n]=Qw ms[m])):=by
    unfold A4;rw[Bh hn',Bh hm2]
   have hs13:=hS13.sat
   have hnx:A4 ms n m=false→ ∀b,b<m+1→A4 ms n b=false:=fun e b hb=>by
    by_cases e2:b=m
    ·subst e2;exact e
    ·exact hno2 b (by omega)
   refine U2 hs13 ?_
   (repeat refine J7 Xa ?_)
   by_cases he:ms[n].name=ms[m].name
   ·have hd:decide (ms[n].name=ms[m].name)=true:=by simp[he]
    simp only[hd,reduceIte]
    (repeat (apply J7;(· intros;(repeat (rename_i hx;subst hx));(repeat' (first | (with_reducible exact N2 rfl) | (with_reducible exact S1 (Stp.bel (by (repeat (first | exact Stp.refl (by (first | assumption | exact Stp.sat (by assumption) | exact Hst.sat (by assumption))) | assumption | refine Stp.trans ?_ (by first | assumption | exact Hst.stp (by assumption)))))) rfl) | (with_reducible intro _) | (simp only[↓M2,M2,Mb,reduceIte]) | (with_reducible show Q2 _ _ _ _ _;first | refine X7 aS aL aR ?_ | refine Y4 aS aL aR ?_ | refine ld aS aL aR ?_) | (with_reducible show indexAddr _ _ _ _ _ _;refine Y3 aL au ?_) | (with_reducible show X3 _ _ _ _ _ _ _ _;refine Q8 aL ?_) | (with_reducible show F4 _ _ _ _ _ _;refine J0 aR ?_) | (with_reducible show pick _ _ _ _ _ _;refine L8 ?_) | (with_reducible show Q1 _ _ _ _ _;first | refine Q5r au au au au ?_) | (apply G5;intro hh;(try simp only[hh,reduceIte,↓M2,M2,Mb,reduceIte]))));done)))
    (intros;(repeat (rename_i hx;subst hx));(try simp only[↓M2,M2,Mb,reduceIte]))
    rename_i w14 hb14
    refine Q5r hb14.sat rm sm1 sm2 fun w15 σ15 hk15=>?_
    refine Wl ?_
    (try simp only[↓M1,M1,Mb,reduceIte])
    have hS15:=(hS13.trans hb14.stp).trans hk15
    by_cases hsg:Qw ms[n]=Qw ms[m]
    ·simp only[hsg,decide_true,Bool.not_true,↓M1,M1,Mb,reduceIte]
     refine Y5 (by omega) hm' ⟨σ15,hS15,le13.more ⟨(hb14.stp.trans hk15).le⟩,hnx ?_⟩
     rw[hat,hsg];simp
    ·simp only[hsg,decide_false,Bool.not_false,↓M1,M1,Mb,reduceIte]
     have:R=66:=e66 hA hB (by rw[hov];exact Q9Y hn' hm2 (by rw[hat];simp[he,hsg]))
     subst this
     exact h _ _ hS15
   ·have hd:decide (ms[n].name=ms[m].name)=false:=by simp[he]
    simp only[hd,Bool.false_eq_true,reduceIte]
    (repeat refine J7 Xa ?_)
    (intros;(repeat (rename_i hx;subst hx));(try simp only[↓M2,M2,Mb,reduceIte]))
    rename_i w14 hb14
    (try simp only[↓M1,M1,Mb,reduceIte])
    refine Y5 (by omega) hm' ⟨σ13,hS13.trans hb14.stp,le13,hnx ?_⟩
    rw[hat];simp[he]
  ·have hm0:m=n:=by
    have: ¬m<n:=by simpa using hc
    omega
   subst hm0
   (try simp only[↓M1,M1,Mb,reduceIte])
   refine Y5 hv11.max hn' ⟨σ13,hS13,le13,fun a b ha hb=>?_⟩
   by_cases e:a=m
   ·subst e;exact hno2 b hb
   ·exact hno a b (by omega) hb
 have hC:Zh l c=false:=by
  rw[hov]
  have: ¬n<ms.length:=by simpa using hc
  exact X0S fun x y hx hy=>hno x y (by omega) hy
 clear hno hc hn hv12 hov e66
 refine U3 ms.length (fun n w'=> ∃σ',Stp w σ w' σ'∧SLe σ11 σ'∧(c.abs=true→n=0)∧(ms.take n).any (fun m=>Zb l c.name m.name)=false) ⟨σ12,hS12,le12,fun _=>rfl,rfl⟩ fun n w13 d hn hinv=>?_
 clear hS12 le12
 obtain ⟨σ13,hS13,le13,hab,hno⟩:=hinv
 have hv13:=hv11.lift le13
 have hq13:=hq1.lift (le11.more le13)
 refine Q8 hv13 ?_
 refine Z2 ?_
 by_cases hn':n<ms.length
 ·have e1:decide ((n:Int)<(ms.length:Int))=true:=by simpa using hn'
  rw[e1]
  (try simp only[↓M1,M1,Mb,reduceIte])
  refine ld hS13.sat hq13 rfl ?_
  refine We ?_
  (try simp only[↓M1,M1,Mb,reduceIte])
  cases hca:c.abs with
  | true=>
   (try simp only[↓M1,M1,Mb,reduceIte])
   have:R=0:=e0 hA hB hC (by rw[hlk,hca];rfl)
   subst this
   exact h _ _ hS13
  | false=>
   (try simp only[↓M1,M1,Mb,reduceIte])
   obtain ⟨pvn,cvn,hvn,pn,rn⟩:=hv13.elM hn'
   have hs13:=hS13.sat
   have hnx:=L3 (p:=fun m:Hm.Met=>Zb l c.name m.name) hn'
   have hla:Zb l c.name ms[n].name=(!(V3 l c.name ms[n].name).isSome||(o2 (V3 l c.name ms[n].name)).abs):=by
    unfold Zb
    cases V3 l c.name ms[n].name<;>rfl
   generalize hF:(fun o:Option Obj=> ∃cs:List Value,∃e,o=some (.cells cs.toArray e (0,0))∧cs.length=7∧cs[3]? =some (.bool (o2 (V3 l c.name ms[n].name)).abs))=F
   have hFn: ¬F none:=by rw[←hF];rintro ⟨_,_,h,_⟩;cases h
   refine X3e F hs13 ?_
   (repeat (apply J7;(· intros;(repeat (rename_i hx;subst hx));(repeat' (first | (with_reducible exact Q5x rfl) | (with_reducible exact X2D (Stp.bel (by (repeat (first | exact Stp.refl (by (first | assumption | exact Stp.sat (by assumption) | exact Hst.sat (by assumption))) | assumption | refine Stp.trans ?_ (by first | assumption | exact Hst.stp (by assumption)))))) rfl) | (with_reducible intro _) | (simp only[↓M2,M2,Mb,reduceIte]) | (with_reducible show Q2 _ _ _ _ _;first | refine X7 aS aL aR ?_ | refine Y4 aS aL aR ?_ | refine ld aS aL aR ?_) | (with_reducible show indexAddr _ _ _ _ _ _;refine Y3 aL au ?_) | (with_reducible show X3 _ _ _ _ _ _ _ _;refine Q8 aL ?_) | (with_reducible show F4 _ _ _ _ _ _;refine J0 aR ?_) | (with_reducible show pick _ _ _ _ _ _;refine L8 ?_)));done)))
   refine E5 (fun v _=> ∃s,∃ds:List Value,v= .tuple #[s, .agg ds.toArray, .bool (V3 l c.name ms[n].name).isSome]∧ds.length=7∧ds[3]? =some (.bool (o2 (V3 l c.name ms[n].name)).abs)∧ ∀u∈ds,u.oneCell'=true) (fun _ _ _ h _=>h) (fun t180 t185 w hb e1 e2=>?_) ?_
   ·subst e1;subst e2
    refine Q88 hb.sat (hv.up (hS13.trans hb.stp)) ok fun pv cv hv w' σ' hk hr=>⟨.of_below hk.bel,_,_,rfl,rfl,rfl,Rep.one hr⟩
   refine E5 (fun _ _=>True) (fun _ _ _ _ _=>trivial) (fun t186 w hb e=>?_) ?_
   ·obtain ⟨s,ds,rfl,_⟩:=e
    exact J6 (vs:=[_,_,_]) rfl ⟨.of_below (Below.refl _ _),trivial⟩
   refine E5 (fun v _=> ∃ds:List Value,v= .agg ds.toArray∧ds.length=7∧ds[3]? =some (.bool (o2 (V3 l c.name ms[n].name)).abs)∧ ∀u∈ds,u.oneCell'=true) (fun _ _ _ h _=>h) (fun t186 w hb e=>?_) ?_
   ·obtain ⟨s,ds,rfl,h7⟩:=e
    exact J6 (vs:=[_,_,_]) rfl ⟨.of_below (Below.refl _ _),ds,rfl,h7⟩
   refine J7 (V:= .bool (V3 l c.name ms[n].name).isSome) (fun t186 w hb e=>?_) ?_
   ·obtain ⟨s,ds,rfl,h7⟩:=e
    exact J6 (vs:=[_,_,_]) rfl (Q5x rfl)
   refine E5 (X33 w13.heap.size 7 F) (Q8B hFn) (fun w hb=>?_) ?_
   ·exact Iu hb.sat fun b w' hb2 hk hm=>⟨.of_below hk.bel,b,rfl,Nat.le_trans hb.stp.bel.size hb2, .inl ⟨_,hm.2.choose,rfl,hm.2.choose_spec⟩⟩
   refine Q46 (fun xs _ w=>X3v w13.heap.size F (xs.headD undef) w) (fun xs _ w w' h hT=>Q8A hFn _ w w' h hT) (fun t18 t188 w hb e1 e2=>?_) ?_
   ·obtain ⟨g,rfl,hg,hd⟩:=e1
    obtain ⟨ds,rfl,h7,h3,h1⟩:=e2
    obtain ⟨cs,e,hl7,hh⟩: ∃cs:List Value,∃e,cs.length=7∧w.heap[g]? =some (.cells cs.toArray e (0,0)):=by
     rcases hd with h | h
     ·exact h
     ·rw[←hF] at h
      obtain ⟨cs,e,h4,h5,_⟩:=h
      exact ⟨cs,e,h5,h4⟩
    refine Mj (σ:=fun _=>none) (cs:=cs) (ds:=ds) ⟨rfl,e,hh⟩ hl7 h7 (by rw[List.all_toArray];exact List.all_eq_true.2 h1) fun w' hu hm=>?_
    have hFg:F (w'.heap[g]?):=by
     obtain ⟨_,e',hm'⟩:=hm
     rw[hm',←hF]
     exact ⟨ds,e',rfl,h7,h3⟩
    exact ⟨FinT.of_upd hu hg hFg,g,rfl,hg,hFg⟩
   rintro t179 t183 t184 t180 t185 t186 t187 t188 t189 t18 u15 w14 hb14 rfl rfl rfl rfl rfl _ _ _ rfl _ ⟨g,e,hg,hd⟩
   have e:t18=_:=e
   subst e
   rw[←hF] at hd
   obtain ⟨cs,ty,hh,hl7,h3⟩:=hd
   have hS14:=hS13.trans hb14.stp
   refine We ?_
   cases hsm:(V3 l c.name ms[n].name).isSome with
   | false=>
    (try simp only[↓M1,M1,Mb,reduceIte])
    have:R=67:=e67 hA hB hC (by rw[hlk,hca];exact C0 hn' (by rw[hla,hsm];rfl))
    subst this
    exact h _ _ hS14
   | true=>
    (try simp only[↓M1,M1,Mb,reduceIte])
    refine Ye (σ:=fun _=>none) ⟨rfl,ty,hh⟩ h3 ?_
    (try simp only[↓M1,M1,Mb,reduceIte])
    cases hma:(o2 (V3 l c.name ms[n].name)).abs with
    | true=>
     (try simp only[↓M1,M1,Mb,reduceIte])
     have:R=67:=e67 hA hB hC (by rw[hlk,hca];exact C0 hn' (by rw[hla,hma,Bool.or_true]))
     subst this
     exact h _ _ hS14
    | false=>
     (try simp only[↓M1,M1,Mb,reduceIte])
     refine Y5 hv11.max hn' ⟨σ13,hS14,le13,fun e=>False.elim (by simpa using e),?_⟩
     rw[hnx,hno,hla,hsm,hma];rfl
 ·have e1:decide ((n:Int)<(ms.length:Int))=false:=by simpa using hn'
  rw[e1]
  (try simp only[↓M1,M1,Mb,reduceIte])
  rw[E0 hn'] at hno
  have:R=0:=e0 hA hB hC (by rw[hlk,hno,Bool.and_false])
  subst this
  exact h _ _ hS13)
end Go.Proofs.YtjdiakhipmggjaaGreatDoor

namespace Go.Proofs.YtjdiakhipmggjaaGreatDoor
open Go.Emb Go.RowKit Go.Kd Go.Hm
variable {w : World} {K : Value → World → Prop} {σ : Q6} {l : List Cla} {v : Value}
theorem X2z {w0:World} {σ0:Q6} {frm:Nat} (ha:Jb l) (ho:T5 l) (hl:l.length≤1000) (ao: ∀c∈l,Qn c) (hf:0<frm) (ax: ∀i (B:i<l.length),frm≤i→ ∀u∈U4 l[i],∃j,Z1 l u=some j): ∀(k:Nat) {i:Nat} {b:List Nat} {x:Value} {w:World} {σ:Q6} {K:Value→World→Prop},i<l.length→P0 l (Y2 l i)<k→Few l b→Stp w0 σ0 w σ→Sl 8 V0 σ v l→V6 w0.heap.size T.e 1 Wv σ w x (ints b)→
 (∀x' w' J,Stp w0 σ0 w' J→SLe σ J→V6 w0.heap.size T.e 1 Wv J w' x' (ints (Xy l frm b i))→K x' w')→Q1 P F.b0 [v,x,I frm,I i] w K:=by
 intro k
 induction k with
 | zero=>intro i b x w σ K B hk;omega
 | succ k ih=>
  intro i b x w σ K B hk E hS hv hx h
  refine Q0R ?_
  unfold Ed
  rw[Q7t ha ho hf b B] at h
  refine Z2 ?_
  refine Q7 (fun M=>?_) (fun M=>?_)
  ·have M:i<frm:=by have:=of_decide_eq_true M;omega
   rw[if_pos M] at h
   exact h _ _ _ hS (SLe.refl _) hx
  have M: ¬i<frm:=by have:=of_decide_eq_false M;omega
  rw[if_neg M] at h
  have bh:=E.len
  refine U3 b.length (fun n w'=>w'=w∧ ∀m (hm:m<b.length),m<n→b[m]≠i) ⟨rfl,fun m _ h=>by omega⟩ fun n w2 d hn p=>?_
  obtain ⟨hw,N⟩:=p
  subst hw
  refine Q8S hx ?_
  rw[show (ints b).length=b.length from by simp]
  refine Z2 ?_
  refine Q7 (fun C=>?_) (fun C=>?_)
  ·have f:n<b.length:=by simpa using C
   refine Q5p (J8.of_acc hx) (n:=n) (by simpa using f) fun a cs aq a8 hr=>?_
   obtain ⟨rfl,_⟩:=hr
   refine Qd (by have:=aq 0 _ rfl;rwa [add_zero] at this) ?_
   simp only[List.getElem_map]
   refine P3 ?_
   by_cases e:b[n]=i
   ·have:decide ((b[n]:Int)=i)=true:=by simp[e]
    rw[this]
    refine J4 ?_
    rw[if_pos (e▸List.getElem_mem f)] at h
    exact h _ _ _ hS (SLe.refl _) hx
   ·have:decide ((b[n]:Int)=i)=false:=by rw[decide_eq_false_iff_not];omega
    rw[this]
    refine Z9 ?_
    refine O4 ?_
    refine Y5 (by omega) f ⟨rfl,fun m hm bi=>?_⟩
    by_cases e2:m=n
    ·subst e2;exact e
    ·exact N m hm (by omega)
  ·have f: ¬n<b.length:=by simpa using C
   have D:i∉b:=fun ay=>by
    obtain ⟨m,hm,e⟩:=List.getElem_of_mem ay
    exact N m hm (by omega) e
   rw[if_neg D] at h
   have aa:l.getD i Cla.zero=l[i]:=by rw[List.getD_eq_getElem?_getD,List.getElem?_eq_getElem B];rfl
   rw[aa] at h
   have a0:=ax i B (by omega)
   obtain ⟨lv,fv,mv,p1,r1⟩:=hv.elC B
   obtain ⟨g1,_,_,_,g5⟩:=r1.parts
   have H:=ao _ (List.getElem_mem B)
   clear N D C hn
   refine U2 hS.sat ?_
   (repeat refine J7 Xa ?_)
   refine Q1A (w:=w2) (σ:=σ) (R:=U6) (sz:=1) (e:=T.c) [l[i].super] (fun t w hb e=>?_) ?_
   ·subst e;exact Zc hb.stp [_] [l[i].super] rfl rfl (by simp;rfl) rfl ⟨⟨rfl,g5⟩,trivial⟩ fun v' w' hk ha _=>Q3l hb hk ha
   (repeat refine J7 Xa ?_)
   rintro bm bc be bn bb bw bf w4 av rfl rfl rfl rfl rfl ⟨ab,Z⟩ rfl
   refine Wh ab Z g1 rfl (by simp;have:=H.1;omega) (by simp;have:=H.1;omega) fun v5 w5 ap ae Y af=>?_
   obtain ⟨σ6,q,Q,bj,_⟩:=Y.keep ae
   have Q:Sl 1 U6 σ6 v5 (U4 l[i]):=Q
   have an:=hx.up q
   have W:=hv.up q
   have X:=hS.trans q
   have V:SLe σ σ6:=⟨q.le⟩
   clear ap af Y Z ab av ae
   refine E8 (U4 l[i]).length (fun n x w'=> ∃J o,Stp w0 σ0 w' J∧SLe σ6 J∧V6 w0.heap.size T.e 1 Wv J w' x (ints o)∧Few l o∧o=((U4 l[i]).take n).foldl (fun b n=>Xy l frm b ((Z1 l n).getD 0)) b) ⟨σ6,b,X,SLe.refl _,an,E,rfl⟩ fun n x7 w7 d hn p=>?_
   obtain ⟨σ7,a4,z,y,ad,g,U⟩:=p
   have r:=Q.lift y
   refine Q8 r ?_
   refine Z2 ?_
   refine Q7 (fun C=>?_) (fun C=>?_)
   ·have f:n<(U4 l[i]).length:=by simpa using C
    refine Y3 r f ?_
    obtain ⟨p7,_⟩:=r.elS f
    refine X7 z.sat p7 rfl ?_
    have A:=W.lift y
    refine K0 z.sat A ?_
    obtain ⟨j,hj⟩:=a0 _ (List.getElem_mem f)
    have bq:=Q1I ha ho B (by rw[aa];exact List.getElem_mem f) hj
    have ac:=(S5 hj).1
    simp only[hj,L6]
    refine ih ac (by omega) g z A ad fun x8 w8 σ8 O aw L=>?_
    refine O4 ?_
    refine J5 r.max f ⟨σ8,_,O,y.more aw,L,Ka ha ho hf _ _ _ ac g,?_⟩
    rw[List.take_add_one,List.getElem?_eq_getElem f,List.foldl_append,←U]
    simp[hj]
   ·have f: ¬n<(U4 l[i]).length:=by simpa using C
    rw[List.take_of_length_le (by omega)] at U
    have bo:=g.len
    refine Ug (R:=Wv) (x:=(i:Int)) z ad ⟨rfl,by omega,by omega⟩ rfl rfl rfl (by simp;omega) (by simp;omega) fun s x8 w8 σ8 am O L _=>?_
    refine h _ _ _ O ((V.more y).more am.le) ?_
    rw[←U]
    simpa [ints] using L
end Go.Proofs.YtjdiakhipmggjaaGreatDoor

namespace Go.Hm
open Go.Kd
def C2 (n i b:Nat):Bool:=decide (i<n)&&decide (128≤b)&&decide (b<192)
def Jd (n a b c d:Nat):Nat:=
 if a<128 then 1
 else if (decide (194≤a)&&decide (a<224)&&C2 n 1 b)=true then 2
 else if (decide (224≤a)&&decide (a<240)&&C2 n 1 b&&C2 n 2 c)=true then
  (if 2048≤a % 16*4096+b % 64*64+c % 64∧(a % 16*4096+b % 64*64+c % 64<55296∨57343<a % 16*4096+b % 64*64+c % 64) then 3 else 0)
 else if (decide (240≤a)&&decide (a<245)&&C2 n 1 b&&C2 n 2 c&&C2 n 3 d)=true then
  (if 65536≤a % 8*262144+b % 64*4096+c % 64*64+d % 64∧a % 8*262144+b % 64*4096+c % 64*64+d % 64≤1114111 then 4 else 0)
 else 0
theorem X17 (n a b c d:Nat) (t:a<256) (s:b<256) (q:c<256) (r:d<256):
 Jd n a b c d=if (Lib.decodeN n a b c d).1=65533∧(Lib.decodeN n a b c d).2=1 then 0 else (Lib.decodeN n a b c d).2:=by
 have key: ∀v k:Nat,Lib.decodeN n a b c d=(v,k)→ ¬k=1→Jd n a b c d=k→Jd n a b c d=if (Lib.decodeN n a b c d).1=65533∧(Lib.decodeN n a b c d).2=1 then 0 else (Lib.decodeN n a b c d).2:=by
  intro v k h o l
  rw[h,l,if_neg (fun e=>o e.2)]
 have f:Lib.decodeN n a b c d=(65533,1)→Jd n a b c d=0→Jd n a b c d=if (Lib.decodeN n a b c d).1=65533∧(Lib.decodeN n a b c d).2=1 then 0 else (Lib.decodeN n a b c d).2:=by
  intro h l
  rw[h,l];simp
 by_cases c0:a<128
 ·have h:Lib.decodeN n a b c d=(a,1):=by unfold Lib.decodeN;rw[if_pos c0]
  rw[h,if_neg (by simp only;omega)]
  unfold Jd;rw[if_pos c0]
 by_cases i:a / 32=6∧(1<n∧b / 64=2)
 ·by_cases g:a % 32*64+b % 64≥128
  ·refine key _ 2 (by unfold Lib.decodeN;rw[if_neg c0,if_pos i,if_pos g]) (by decide) ?_
   unfold Jd C2
   simp only[Bool.and_eq_true,decide_eq_true_eq]
   rw[if_neg c0,if_pos (by omega)]
  ·refine f (by unfold Lib.decodeN;rw[if_neg c0,if_pos i,if_neg g]) ?_
   unfold Jd C2
   simp only[Bool.and_eq_true,decide_eq_true_eq]
   rw[if_neg c0,if_neg (by omega),if_neg (by omega),if_neg (by omega)]
 by_cases j:a / 16=14∧(1<n∧b / 64=2)∧(2<n∧c / 64=2)
 ·by_cases g:2048≤a % 16*4096+b % 64*64+c % 64∧(a % 16*4096+b % 64*64+c % 64<55296∨57343<a % 16*4096+b % 64*64+c % 64)
  ·refine key _ 3 (by unfold Lib.decodeN;rw[if_neg c0,if_neg i,if_pos j,if_pos (by omega)]) (by decide) ?_
   unfold Jd C2
   simp only[Bool.and_eq_true,decide_eq_true_eq]
   rw[if_neg c0,if_neg (by omega),if_pos (by omega),if_pos g]
  ·refine f (by unfold Lib.decodeN;rw[if_neg c0,if_neg i,if_pos j,if_neg (by omega)]) ?_
   unfold Jd C2
   simp only[Bool.and_eq_true,decide_eq_true_eq]
   rw[if_neg c0,if_neg (by omega),if_pos (by omega),if_neg g]
 by_cases m:a / 8=30∧(1<n∧b / 64=2)∧(2<n∧c / 64=2)∧(3<n∧d / 64=2)
 ·by_cases g:65536≤a % 8*262144+b % 64*4096+c % 64*64+d % 64∧a % 8*262144+b % 64*4096+c % 64*64+d % 64≤1114111
  ·refine key _ 4 (by unfold Lib.decodeN;rw[if_neg c0,if_neg i,if_neg j,if_pos m,if_pos (by omega)]) (by decide) ?_
   unfold Jd C2
   simp only[Bool.and_eq_true,decide_eq_true_eq]
   rw[if_neg c0,if_neg (by omega),if_neg (by omega),if_pos (by omega),if_pos g]
  ·refine f (by unfold Lib.decodeN;rw[if_neg c0,if_neg i,if_neg j,if_pos m,if_neg (by omega)]) ?_
   unfold Jd C2
   simp only[Bool.and_eq_true,decide_eq_true_eq]
   rw[if_neg c0,if_neg (by omega),if_neg (by omega)]
   by_cases p:a<245
   ·rw[if_pos (by omega),if_neg g]
   ·rw[if_neg (by omega)]
 ·refine f (by unfold Lib.decodeN;rw[if_neg c0,if_neg i,if_neg j,if_neg m]) ?_
  unfold Jd C2
  simp only[Bool.and_eq_true,decide_eq_true_eq]
  rw[if_neg c0,if_neg (by omega),if_neg (by omega),if_neg (by omega)]
def X5 (l:X0) (i:Nat):Nat:=(l.getD i 0).toNat
theorem Yf (l:X0) (i:Nat):X5 l i<256:=(l.getD i 0).toNat_lt
def Zv (l:X0):Nat:=Jd l.length (X5 l 0) (X5 l 1) (X5 l 2) (X5 l 3)
theorem Q6x (l:X0):Zv l=if (Lib.decodeL l).1=65533∧(Lib.decodeL l).2=1 then 0 else (Lib.decodeL l).2:=by
 rw[Lib.decodeL_N]
 exact X17 _ _ _ _ _ (Yf l 0) (Yf l 1) (Yf l 2) (Yf l 3)
theorem Q9q {l:X0} (a:l≠[]) (h:Zv l≠0):1≤Zv l∧Zv l≤l.length:=by
 have c:=Lib.decodeL_le l a
 have b:=Lib.decodeL_width l
 rw[Q6x] at h⊢
 split at h
 ·exact absurd rfl h
 ·rw[if_neg (by assumption)];omega
theorem Q8Q {f:Nat} {l:X0} (a:l≠[]):Lib.validGoD (f+1) l=if Zv l=0 then false else Lib.validGoD f (l.drop (Zv l)):=by
 have b:=Lib.decodeL_width l
 simp only[Lib.validGoD,if_neg a]
 rw[Q6x]
 split
 ·rw[if_pos rfl]
 ·rw[if_neg (by omega)]
end Go.Hm
namespace Go.Emb
open Go.RowKit
theorem Q5D {P:Program} {w:World} {K:Value→World→Prop} {k:IntKind} {t:TypeId} {d b:Operand} {a c:Int} (f:0<c∧0≤a) (h:K (.int k (a % c)) w):Q3 P .rem t d b (.int k a) (.int k c) w K:=by
 have e:Q3 P .rem t d b (.int k a) (.int k c) w K=K (.int k (a.tmod c)) w:=X9 (by simp[eqGuard,Go.binOp,Op.intDiv];intro e;omega)
 rw[e,Int.tmod_eq_emod_of_nonneg f.2];exact h
end Go.Emb
namespace Go.Proofs.YtjdiakhipmggjaaGreatDoor
open Go.Emb Go.RowKit Go.Kd Go.Hm
variable {w : World} {K : Value → World → Prop} {σ : Q6}
theorem Ng {a:X0} {i:Nat} (b:i<a.length) (h:K (.int .u8 (X5 a i)) w):C3 P T.c (S a) (I i) w K:=by
 rw[Yb X8 (by omega) (by simpa using b)]
 have:(a[(i:Int).toNat]'(by simpa using b)).toNat=X5 a i:=by
  unfold X5
  rw[List.getD_eq_getElem?_getD,List.getElem?_eq_getElem b];rfl
 rw[this];exact h
theorem Q3K {n:Int} (a:0≤n∧n<256) (h:K (I n) w):conv P T.a3 T.e (.int .u8 n) w K:=by
 rw[Kf Q43 Q1K,F9 (by omega) (by omega)];exact h
theorem Lo {a:X0} {i:Nat} (h:K (.bool (C2 a.length i (X5 a i))) w):Q1 P F.r [S a,I i] w K:=Ph (by
 unfold Mu
 unfold C2 at h
 simp only[↓M1,M1,Mb,reduceIte]
 by_cases b:i<a.length
 ·have d:decide ((i:Int)<a.length)=true:=by rw[decide_eq_true_eq];omega
  have c:decide (i<a.length)=true:=by simpa using b
  rw[c] at h
  simp only[d,↓M1,M1,Mb,reduceIte]
  refine Ng b ?_
  (try simp only[↓M1,M1,Mb,reduceIte])
  have f:decide ((128:Int)≤(X5 a i:Int))=decide (128≤X5 a i):=by rw[Bool.eq_iff_iff,decide_eq_true_eq,decide_eq_true_eq];omega
  have g:decide ((X5 a i:Int)<192)=decide (X5 a i<192):=by rw[Bool.eq_iff_iff,decide_eq_true_eq,decide_eq_true_eq];omega
  rw[f]
  cases e:decide (128≤X5 a i) with
  | true=>
   rw[e] at h
   simp only[↓M1,M1,Mb,reduceIte]
   refine Ng b ?_
   simp only[g,↓M1,M1,Mb,reduceIte]
   simpa using h
  | false=>
   rw[e] at h
   simp only[↓M1,M1,Mb,reduceIte]
   simpa using h
 ·have d:decide ((i:Int)<a.length)=false:=by rw[decide_eq_false_iff_not];omega
  have c:decide (i<a.length)=false:=by simpa using b
  rw[c] at h
  simp only[d,↓M1,M1,Mb,reduceIte]
  simpa using h)
def Ua (a:X0):Nat:=X5 a 0 % 16*4096+X5 a 1 % 64*64+X5 a 2 % 64
def Sz (a:X0):Nat:=X5 a 0 % 8*262144+X5 a 1 % 64*4096+X5 a 2 % 64*64+X5 a 3 % 64
theorem Q9p (a:X0):Zv a=if X5 a 0<128 then 1
 else if (decide (194≤X5 a 0)&&decide (X5 a 0<224)&&C2 a.length 1 (X5 a 1))=true then 2
 else if (decide (224≤X5 a 0)&&decide (X5 a 0<240)&&C2 a.length 1 (X5 a 1)&&C2 a.length 2 (X5 a 2))=true then
  (if 2048≤Ua a∧(Ua a<55296∨57343<Ua a) then 3 else 0)
 else if (decide (240≤X5 a 0)&&decide (X5 a 0<245)&&C2 a.length 1 (X5 a 1)&&C2 a.length 2 (X5 a 2)&&C2 a.length 3 (X5 a 3))=true then
  (if 65536≤Sz a∧Sz a≤1114111 then 4 else 0)
 else 0:=rfl
set_option maxHeartbeats 2000000 in
theorem X0V {a:X0} (hne:a≠[]) (hs:X2 w σ) (h: ∀w',Below w.heap.size w w'→K (I (Zv a)) w'):Q1 P F.bG [S a] w K:=Q09 (by
 unfold Oh
 have hl:0<a.length:=List.length_pos_iff.2 hne
 have b0:=Yf a 0
 have b1:=Yf a 1
 have b2:=Yf a 2
 have b3:=Yf a 3
 refine Ng (i:=0) hl ?_
 refine Q3K (by omega) ?_
 refine Ur (fun _ w'=>Below w.heap.size w w'∧Zv a=0) ?_ (fun _ d w' hx=>by
  have:=h w' hx.1
  rw[hx.2] at this
  exact this)
 have hK: ∀n w',Below w.heap.size w w'→Zv a=n→K (I n) w':=fun n w' hb e=>by rw[←e];exact h w' hb
 clear h
 have hcm:=Q9p a
 simp only[↓M1,M1,Mb,reduceIte]
 refine Q7 (fun h1=>?_) (fun h1=>?_)
 ·have:X5 a 0<128:=by have:=of_decide_eq_true h1;omega
  exact hK 1 _ (Below.refl _ _) (by rw[hcm,if_pos this])
 have c0: ¬X5 a 0<128:=by have:=of_decide_eq_false h1;omega
 rw[if_neg c0] at hcm
 by_cases c1:X5 a 0<194
 ·have i1:decide ((194:Int)≤X5 a 0)=false:=by rw[decide_eq_false_iff_not];omega
  have n1:decide (194≤X5 a 0)=false:=by rw[decide_eq_false_iff_not];omega
  have i2:decide ((X5 a 0:Int)<224)=true:=by rw[decide_eq_true_eq];omega
  have n2:decide (X5 a 0<224)=true:=by rw[decide_eq_true_eq];omega
  have i3:decide ((224:Int)≤X5 a 0)=false:=by rw[decide_eq_false_iff_not];omega
  have n3:decide (224≤X5 a 0)=false:=by rw[decide_eq_false_iff_not];omega
  have i4:decide ((X5 a 0:Int)<240)=true:=by rw[decide_eq_true_eq];omega
  have n4:decide (X5 a 0<240)=true:=by rw[decide_eq_true_eq];omega
  have i5:decide ((240:Int)≤X5 a 0)=false:=by rw[decide_eq_false_iff_not];omega
  have n5:decide (240≤X5 a 0)=false:=by rw[decide_eq_false_iff_not];omega
  have i6:decide ((X5 a 0:Int)<245)=true:=by rw[decide_eq_true_eq];omega
  have n6:decide (X5 a 0<245)=true:=by rw[decide_eq_true_eq];omega
  simp only[i1,i2,i3,i4,i5,i6,↓M1,M1,Mb,reduceIte]
  exact ⟨Below.refl _ _,by rw[hcm];simp only[n1,n2,n3,n4,n5,n6,Bool.and_true,Bool.true_and,Bool.false_and,Bool.and_false,Bool.false_eq_true,if_true,if_false,reduceIte]⟩
 by_cases c2:X5 a 0<224
 ·have i1:decide ((194:Int)≤X5 a 0)=true:=by rw[decide_eq_true_eq];omega
  have n1:decide (194≤X5 a 0)=true:=by rw[decide_eq_true_eq];omega
  have i2:decide ((X5 a 0:Int)<224)=true:=by rw[decide_eq_true_eq];omega
  have n2:decide (X5 a 0<224)=true:=by rw[decide_eq_true_eq];omega
  have i3:decide ((224:Int)≤X5 a 0)=false:=by rw[decide_eq_false_iff_not];omega
  have n3:decide (224≤X5 a 0)=false:=by rw[decide_eq_false_iff_not];omega
  have i4:decide ((X5 a 0:Int)<240)=true:=by rw[decide_eq_true_eq];omega
  have n4:decide (X5 a 0<240)=true:=by rw[decide_eq_true_eq];omega
  have i5:decide ((240:Int)≤X5 a 0)=false:=by rw[decide_eq_false_iff_not];omega
  have n5:decide (240≤X5 a 0)=false:=by rw[decide_eq_false_iff_not];omega
  have i6:decide ((X5 a 0:Int)<245)=true:=by rw[decide_eq_true_eq];omega
  have n6:decide (X5 a 0<245)=true:=by rw[decide_eq_true_eq];omega
  simp only[i1,i2,i3,i4,i5,i6,↓M1,M1,Mb,reduceIte]
  refine Lo (i:=1) ?_
  cases A1:C2 a.length 1 (X5 a 1) with
  | true=>simp only[↓M1,M1,Mb,reduceIte];exact hK 2 _ (Below.refl _ _) (by rw[hcm];simp only[A1,n1,n2,n3,n4,n5,n6,Bool.and_true,Bool.true_and,Bool.false_and,Bool.and_false,Bool.false_eq_true,if_true,if_false,reduceIte])
  | false=>simp only[↓M1,M1,Mb,reduceIte];exact ⟨Below.refl _ _,by rw[hcm];simp only[A1,n1,n2,n3,n4,n5,n6,Bool.and_true,Bool.true_and,Bool.false_and,Bool.and_false,Bool.false_eq_true,if_true,if_false,reduceIte]⟩
 by_cases c3:X5 a 0<240
 ·have i1:decide ((194:Int)≤X5 a 0)=true:=by rw[decide_eq_true_eq];omega
  have n1:decide (194≤X5 a 0)=true:=by rw[decide_eq_true_eq];omega
  have i2:decide ((X5 a 0:Int)<224)=false:=by rw[decide_eq_false_iff_not];omega
  have n2:decide (X5 a 0<224)=false:=by rw[decide_eq_false_iff_not];omega
  have i3:decide ((224:Int)≤X5 a 0)=true:=by rw[decide_eq_true_eq];omega
  have n3:decide (224≤X5 a 0)=true:=by rw[decide_eq_true_eq];omega
  have i4:decide ((X5 a 0:Int)<240)=true:=by rw[decide_eq_true_eq];omega
  have n4:decide (X5 a 0<240)=true:=by rw[decide_eq_true_eq];omega
  have i5:decide ((240:Int)≤X5 a 0)=false:=by rw[decide_eq_false_iff_not];omega
  have n5:decide (240≤X5 a 0)=false:=by rw[decide_eq_false_iff_not];omega
  have i6:decide ((X5 a 0:Int)<245)=true:=by rw[decide_eq_true_eq];omega
  have n6:decide (X5 a 0<245)=true:=by rw[decide_eq_true_eq];omega
  simp only[i1,i2,i3,i4,i5,i6,↓M1,M1,Mb,reduceIte]
  refine Lo (i:=1) ?_
  cases A1:C2 a.length 1 (X5 a 1) with
  | false=>simp only[↓M1,M1,Mb,reduceIte];exact ⟨Below.refl _ _,by rw[hcm];simp only[A1,n1,n2,n3,n4,n5,n6,Bool.and_true,Bool.true_and,Bool.false_and,Bool.and_false,Bool.false_eq_true,if_true,if_false,reduceIte]⟩
  | true=>
  simp only[↓M1,M1,Mb,reduceIte]
  refine Lo (i:=2) ?_
  cases A2:C2 a.length 2 (X5 a 2) with
  | false=>simp only[↓M1,M1,Mb,reduceIte];exact ⟨Below.refl _ _,by rw[hcm];simp only[A1,A2,n1,n2,n3,n4,n5,n6,Bool.and_true,Bool.true_and,Bool.false_and,Bool.and_false,Bool.false_eq_true,if_true,if_false,reduceIte]⟩
  | true=>
  simp only[↓M1,M1,Mb,reduceIte]
  simp only[A1,A2,n1,n2,n3,n4,n5,n6,Bool.and_true,Bool.true_and,Bool.false_and,Bool.and_false,Bool.false_eq_true,if_true,if_false,reduceIte] at hcm
  have hl1:1<a.length:=by unfold C2 at A1;simp only[Bool.and_eq_true,decide_eq_true_eq] at A1;exact A1.1.1
  have hl2:2<a.length:=by unfold C2 at A2;simp only[Bool.and_eq_true,decide_eq_true_eq] at A2;exact A2.1.1
  have hw:IntKind.i64.wrap (IntKind.i64.wrap (IntKind.i64.wrap ((X5 a 0:Int) % 16*4096)+IntKind.i64.wrap ((X5 a 1:Int) % 64*64))+(X5 a 2:Int) % 64)=((Ua a:Nat):Int):=by
   rw[F9 (n:=(X5 a 0:Int) % 16*4096) (by omega) (by omega),F9 (n:=(X5 a 1:Int) % 64*64) (by omega) (by omega),F9 (n:=_+(X5 a 1:Int) % 64*64) (by omega) (by omega),F9 (by omega) (by omega)]
   unfold Ua;omega
  refine U2 hs ?_
  have hx1: ∀{w':World} {K:Value→World→Prop},K (.int .u8 (X5 a 1)) w'→C3 P T.c (S a) (.int .i64 1) w' K:=fun hK=>Ng (i:=1) hl1 hK
  have hx2: ∀{w':World} {K:Value→World→Prop},K (.int .u8 (X5 a 2)) w'→C3 P T.c (S a) (.int .i64 2) w' K:=fun hK=>Ng (i:=2) hl2 hK
  (repeat (apply J7;(· intros;(repeat (rename_i hx;subst hx));(repeat' (first | (with_reducible exact N2 rfl) | (with_reducible exact S1 (Stp.bel (by (repeat (first | exact Stp.refl (by (first | assumption | exact Stp.sat (by assumption) | exact Hst.sat (by assumption))) | assumption | refine Stp.trans ?_ (by first | assumption | exact Hst.stp (by assumption)))))) rfl) | (with_reducible intro _) | (simp only[↓M2,M2,Mb,reduceIte]) | (with_reducible refine Q5D au ?_) | (with_reducible refine Q3K au ?_) | (with_reducible refine hx1 ?_) | (with_reducible refine hx2 ?_) | (with_reducible show Q2 _ _ _ _ _;first | refine X7 aS aL aR ?_ | refine Y4 aS aL aR ?_ | refine ld aS aL aR ?_) | (with_reducible show indexAddr _ _ _ _ _ _;refine Y3 aL au ?_) | (with_reducible show X3 _ _ _ _ _ _ _ _;refine Q8 aL ?_) | (with_reducible show F4 _ _ _ _ _ _;refine J0 aR ?_) | (with_reducible show pick _ _ _ _ _ _;refine L8 ?_) | (apply G5;intro hh;(try simp only[hh,reduceIte,↓M2,M2,Mb,reduceIte]))));done)))
  (intros;(repeat (rename_i hx;subst hx));(try simp only[↓M2,M2,Mb,reduceIte]))
  rename_i w2 hb2
  simp only[hw]
  have hb:=hb2.stp.bel
  by_cases e1:2048≤Ua a
  ·by_cases e2:Ua a<55296
   ·simp only[(show decide ((2048:Int)≤(Ua a:Int))=true by rw[decide_eq_true_eq];omega),(show decide ((Ua a:Int)<55296)=true by rw[decide_eq_true_eq];omega),↓M1,M1,Mb,reduceIte]
    exact hK 3 _ hb (by rw[hcm,if_pos ⟨e1, .inl e2⟩])
   ·by_cases e3:57343<Ua a
    ·simp only[(show decide ((2048:Int)≤(Ua a:Int))=true by rw[decide_eq_true_eq];omega),(show decide ((Ua a:Int)<55296)=false by rw[decide_eq_false_iff_not];omega),(show decide ((57343:Int)<(Ua a:Int))=true by rw[decide_eq_true_eq];omega),↓M1,M1,Mb,reduceIte]
     exact hK 3 _ hb (by rw[hcm,if_pos ⟨e1, .inr e3⟩])
    ·simp only[(show decide ((2048:Int)≤(Ua a:Int))=true by rw[decide_eq_true_eq];omega),(show decide ((Ua a:Int)<55296)=false by rw[decide_eq_false_iff_not];omega),(show decide ((57343:Int)<(Ua a:Int))=false by rw[decide_eq_false_iff_not];omega),↓M1,M1,Mb,reduceIte]
     exact ⟨hb,by rw[hcm,if_neg (by omega)]⟩
  ·simp only[(show decide ((2048:Int)≤(Ua a:Int))=false by rw[decide_eq_false_iff_not];omega),↓M1,M1,Mb,reduceIte]
   exact ⟨hb,by rw[hcm,if_neg (by omega)]⟩
 by_cases c4:X5 a 0<245
 ·have i1:decide ((194:Int)≤X5 a 0)=true:=by rw[decide_eq_true_eq];omega
  have n1:decide (194≤X5 a 0)=true:=by rw[decide_eq_true_eq];omega
  have i2:decide ((X5 a 0:Int)<224)=false:=by rw[decide_eq_false_iff_not];omega
  have n2:decide (X5 a 0<224)=false:=by rw[decide_eq_false_iff_not];omega
  have i3:decide ((224:Int)≤X5 a 0)=true:=by rw[decide_eq_true_eq];omega
  have n3:decide (224≤X5 a 0)=true:=by rw[decide_eq_true_eq];omega
  have i4:decide ((X5 a 0:Int)<240)=false:=by rw[decide_eq_false_iff_not];omega
  have n4:decide (X5 a 0<240)=false:=by rw[decide_eq_false_iff_not];omega
  have i5:decide ((240:Int)≤X5 a 0)=true:=by rw[decide_eq_true_eq];omega
  have n5:decide (240≤X5 a 0)=true:=by rw[decide_eq_true_eq];omega
  have i6:decide ((X5 a 0:Int)<245)=true:=by rw[decide_eq_true_eq];omega
  have n6:decide (X5 a 0<245)=true:=by rw[decide_eq_true_eq];omega
  simp only[i1,i2,i3,i4,i5,i6,↓M1,M1,Mb,reduceIte]
  refine Lo (i:=1) ?_
  cases A1:C2 a.length 1 (X5 a 1) with
  | false=>simp only[↓M1,M1,Mb,reduceIte];exact ⟨Below.refl _ _,by rw[hcm];simp only[A1,n1,n2,n3,n4,n5,n6,Bool.and_true,Bool.true_and,Bool.false_and,Bool.and_false,Bool.false_eq_true,if_true,if_false,reduceIte]⟩
  | true=>
  simp only[↓M1,M1,Mb,reduceIte]
  refine Lo (i:=2) ?_
  cases A2:C2 a.length 2 (X5 a 2) with
  | false=>simp only[↓M1,M1,Mb,reduceIte];exact ⟨Below.refl _ _,by rw[hcm];simp only[A1,A2,n1,n2,n3,n4,n5,n6,Bool.and_true,Bool.true_and,Bool.false_and,Bool.and_false,Bool.false_eq_true,if_true,if_false,reduceIte]⟩
  | true=>
  simp only[↓M1,M1,Mb,reduceIte]
  refine Lo (i:=3) ?_
  cases A3:C2 a.length 3 (X5 a 3) with
  | false=>simp only[↓M1,M1,Mb,reduceIte];exact ⟨Below.refl _ _,by rw[hcm];simp only[A1,A2,A3,n1,n2,n3,n4,n5,n6,Bool.and_true,Bool.true_and,Bool.false_and,Bool.and_false,Bool.false_eq_true,if_true,if_false,reduceIte]⟩
  | true=>
  simp only[↓M1,M1,Mb,reduceIte]
  simp only[A1,A2,A3,n1,n2,n3,n4,n5,n6,Bool.and_true,Bool.true_and,Bool.false_and,Bool.and_false,Bool.false_eq_true,if_true,if_false,reduceIte] at hcm
  have hl1:1<a.length:=by unfold C2 at A1;simp only[Bool.and_eq_true,decide_eq_true_eq] at A1;exact A1.1.1
  have hl2:2<a.length:=by unfold C2 at A2;simp only[Bool.and_eq_true,decide_eq_true_eq] at A2;exact A2.1.1
  have hl3:3<a.length:=by unfold C2 at A3;simp only[Bool.and_eq_true,decide_eq_true_eq] at A3;exact A3.1.1
  have hw:IntKind.i64.wrap (IntKind.i64.wrap (IntKind.i64.wrap (IntKind.i64.wrap ((X5 a 0:Int) % 8*262144)+IntKind.i64.wrap ((X5 a 1:Int) % 64*4096))+IntKind.i64.wrap ((X5 a 2:Int) % 64*64))+(X5 a 3:Int) % 64)=((Sz a:Nat):Int):=by
   rw[F9 (n:=(X5 a 0:Int) % 8*262144) (by omega) (by omega),F9 (n:=(X5 a 1:Int) % 64*4096) (by omega) (by omega),F9 (n:=(X5 a 2:Int) % 64*64) (by omega) (by omega),F9 (n:=_+(X5 a 1:Int) % 64*4096) (by omega) (by omega),F9 (n:=_+(X5 a 2:Int) % 64*64) (by omega) (by omega),F9 (by omega) (by omega)]
   unfold Sz;omega
  refine U2 hs ?_
  have hx1: ∀{w':World} {K:Value→World→Prop},K (.int .u8 (X5 a 1)) w'→C3 P T.c (S a) (.int .i64 1) w' K:=fun hK=>Ng (i:=1) hl1 hK
  have hx2: ∀{w':World} {K:Value→World→Prop},K (.int .u8 (X5 a 2)) w'→C3 P T.c (S a) (.int .i64 2) w' K:=fun hK=>Ng (i:=2) hl2 hK
  have hx3: ∀{w':World} {K:Value→World→Prop},K (.int .u8 (X5 a 3)) w'→C3 P T.c (S a) (.int .i64 3) w' K:=fun hK=>Ng (i:=3) hl3 hK
  (repeat (apply J7;(· intros;(repeat (rename_i hx;subst hx));(repeat' (first | (with_reducible exact N2 rfl) | (with_reducible exact S1 (Stp.bel (by (repeat (first | exact Stp.refl (by (first | assumption | exact Stp.sat (by assumption) | exact Hst.sat (by assumption))) | assumption | refine Stp.trans ?_ (by first | assumption | exact Hst.stp (by assumption)))))) rfl) | (with_reducible intro _) | (simp only[↓M2,M2,Mb,reduceIte]) | (with_reducible refine Q5D au ?_) | (with_reducible refine Q3K au ?_) | (with_reducible refine hx1 ?_) | (with_reducible refine hx2 ?_) | (with_reducible refine hx3 ?_) | (with_reducible show Q2 _ _ _ _ _;first | refine X7 aS aL aR ?_ | refine Y4 aS aL aR ?_ | refine ld aS aL aR ?_) | (with_reducible show indexAddr _ _ _ _ _ _;refine Y3 aL au ?_) | (with_reducible show X3 _ _ _ _ _ _ _ _;refine Q8 aL ?_) | (with_reducible show F4 _ _ _ _ _ _;refine J0 aR ?_) | (with_reducible show pick _ _ _ _ _ _;refine L8 ?_) | (apply G5;intro hh;(try simp only[hh,reduceIte,↓M2,M2,Mb,reduceIte]))));done)))
  (intros;(repeat (rename_i hx;subst hx));(try simp only[↓M2,M2,Mb,reduceIte]))
  rename_i w2 hb2
  simp only[hw]
  have hb:=hb2.stp.bel
  by_cases e1:65536≤Sz a
  ·by_cases e2:Sz a≤1114111
   ·simp only[(show decide ((65536:Int)≤(Sz a:Int))=true by rw[decide_eq_true_eq];omega),(show decide ((Sz a:Int)≤1114111)=true by rw[decide_eq_true_eq];omega),↓M1,M1,Mb,reduceIte]
    exact hK 4 _ hb (by rw[hcm,if_pos ⟨e1,e2⟩])
   ·simp only[(show decide ((65536:Int)≤(Sz a:Int))=true by rw[decide_eq_true_eq];omega),(show decide ((Sz a:Int)≤1114111)=false by rw[decide_eq_false_iff_not];omega),↓M1,M1,Mb,reduceIte]
    exact ⟨hb,by rw[hcm,if_neg (by omega)]⟩
  ·simp only[(show decide ((65536:Int)≤(Sz a:Int))=false by rw[decide_eq_false_iff_not];omega),↓M1,M1,Mb,reduceIte]
   exact ⟨hb,by rw[hcm,if_neg (by omega)]⟩
 have i1:decide ((194:Int)≤X5 a 0)=true:=by rw[decide_eq_true_eq];omega
 have n1:decide (194≤X5 a 0)=true:=by rw[decide_eq_true_eq];omega
 have i2:decide ((X5 a 0:Int)<224)=false:=by rw[decide_eq_false_iff_not];omega
 have n2:decide (X5 a 0<224)=false:=by rw[decide_eq_false_iff_not];omega
 have i3:decide ((224:Int)≤X5 a 0)=true:=by rw[decide_eq_true_eq];omega
 have n3:decide (224≤X5 a 0)=true:=by rw[decide_eq_true_eq];omega
 have i4:decide ((X5 a 0:Int)<240)=false:=by rw[decide_eq_false_iff_not];omega
 have n4:decide (X5 a 0<240)=false:=by rw[decide_eq_false_iff_not];omega
 have i5:decide ((240:Int)≤X5 a 0)=true:=by rw[decide_eq_true_eq];omega
 have n5:decide (240≤X5 a 0)=true:=by rw[decide_eq_true_eq];omega
 have i6:decide ((X5 a 0:Int)<245)=false:=by rw[decide_eq_false_iff_not];omega
 have n6:decide (X5 a 0<245)=false:=by rw[decide_eq_false_iff_not];omega
 simp only[i1,i2,i3,i4,i5,i6,↓M1,M1,Mb,reduceIte]
 exact ⟨Below.refl _ _,by rw[hcm];simp only[n1,n2,n3,n4,n5,n6,Bool.and_true,Bool.true_and,Bool.false_and,Bool.and_false,Bool.false_eq_true,if_true,if_false,reduceIte]⟩)
theorem Q4l {s:X0} (q:s.length≤U1) (t:X2 w σ) (h: ∀w',Below w.heap.size w w'→K (.bool (Lib.validD s)) w'):Q1 P F.aJ [S s] w K:=Kg (by
 unfold Nv
 refine Ke (fun f x w'=> ∃r,x=S r∧r.length≤f∧r.length≤U1∧Below w.heap.size w w'∧Lib.validD s=Lib.validGoD f r) s.length ⟨s,rfl,Nat.le_refl _,q,Below.refl _ _,rfl⟩ ?_
 rintro n f x d w1 ⟨r,rfl,p,u,b,i⟩ k
 refine Wl ?_
 by_cases a:r=[]
 ·have e:decide (r=[])=true:=by simpa using a
  simp only[e,↓M1,M1,Mb,reduceIte]
  subst a
  have:Lib.validGoD f []=true:=by cases f<;>simp[Lib.validGoD]
  rw[i,this] at h
  exact h _ b
 ·have e:decide (r=[])=false:=by simpa using a
  simp only[e,↓M1,M1,Mb,reduceIte]
  have o:0<r.length:=List.length_pos_iff.2 a
  obtain ⟨f,rfl⟩: ∃g,f=g+1:=⟨f-1,by omega⟩
  rw[Q8Q a] at i
  refine X0V a (t.below b) fun z j=>?_
  have c:=b.trans (j.mono b.size)
  refine P3 ?_
  by_cases l:Zv r=0
  ·have m:decide ((Zv r:Int)=0)=true:=by rw[decide_eq_true_eq];omega
   simp only[m,↓M1,M1,Mb,reduceIte]
   rw[i,if_pos l] at h
   exact h _ c
  ·have m:decide ((Zv r:Int)=0)=false:=by rw[decide_eq_false_iff_not];omega
   simp only[m,↓M1,M1,Mb,reduceIte]
   obtain ⟨y,v⟩:=Q9q a l
   rw[Uq X8 (by omega) (by omega)]
   rw[if_neg l] at i
   refine k f _ _ (by omega) ⟨r.drop (Zv r),by simp,by rw[List.length_drop];omega,by rw[List.length_drop];omega,c,i⟩)
end Go.Proofs.YtjdiakhipmggjaaGreatDoor

namespace Go.Proofs.YtjdiakhipmggjaaGreatDoor
open Go.Emb Go.RowKit Go.Kd Go.Hm
variable {w : World} {K : Value → World → Prop} {σ : Q6}
theorem Q6p {σ:Q6}: ∀(xs:List X0),(∀x∈xs,x.length≤U1)→Q0w U6 σ (xs.map S) xs
 | [],_=>trivial
 | x::r,h=>⟨⟨rfl,h x (by simp)⟩,Q6p r fun y a=>h y (by simp[a])⟩
def Us:List X0:=Uh.map (·.name)
set_option maxRecDepth 100000 in
theorem X2n (c:X2 w σ) (h: ∀v w' a,Stp w σ w' a→Sl 1 U6 a v Us→K v w'):Q1 P F.bV [] w K:=Q0Z (by
 unfold Eo
 exact P1 (R:=U6) (sz:=1) c (Us.map S) Us rfl rfl (by intro v b;obtain ⟨x,_,rfl⟩:=List.mem_map.1 b;rfl) rfl (Q6p _ (by decide)) fun v w' a d b=>h v w' a d b)
theorem Q7Z {a:X0} (A:X2 w σ) (h: ∀w' u,Stp w σ w' u→K (I (L6 (Qs a))) w'):Q1 P F.bg [S a] w K:=Gz (by
 unfold Lc
 refine X2n A fun v w1 σ1 p l=>?_
 have s:Qs a=Us.findIdx? fun x=>decide (x=a):=by
  unfold Qs Us
  rw[List.findIdx?_map];rfl
 have q: ∀o,Qs a=o→K (I (L6 o)) w1:=fun o e=>by rw[←e];exact h _ _ p
 rw[s] at q
 have n:Us.length=42:=rfl
 generalize Us=c at l q n
 refine U3 c.length (fun k w'=>w'=w1∧ ∀j (i:j<c.length),j<k→ ¬c[j]=a) ⟨rfl,fun j _ h=>by omega⟩ fun k E d D z=>?_
 obtain ⟨C,f⟩:=z
 subst C
 refine Q8 l ?_
 refine Z2 ?_
 refine Q7 (fun r=>?_) (fun r=>?_)
 ·have b:k<c.length:=by simpa using r
  refine Y3 l b ?_
  obtain ⟨y,_⟩:=l.elS b
  refine X7 p.sat y rfl ?_
  refine K2 ?_
  refine Q7 (fun g=>?_) (fun g=>?_)
  ·have g:c[k]=a:=by simpa using g
   exact q (some k) (by
    rw[List.findIdx?_eq_some_iff_getElem]
    exact ⟨b,by simpa using g,fun j i=>by simpa using f j (by omega) i⟩)
  ·have g: ¬c[k]=a:=by simpa using g
   (try simp only[↓M1,M1,Mb,reduceIte])
   refine Y5 l.max b ⟨rfl,fun j i B=>?_⟩
   by_cases e:j=k
   ·subst e;exact g
   ·exact f j i (by omega)
 ·have b: ¬k<c.length:=by simpa using r
  exact q none (by
   rw[List.findIdx?_eq_none_iff]
   intro m t
   obtain ⟨j,i,rfl⟩:=List.getElem_of_mem t
   simpa using f j i (by omega)))
theorem X1V {o:Option Nat}:decide (L6 o<0)= !o.isSome:=by
 cases o with
 | none=>rfl
 | some i=>
  have: ¬(i:Int)<0:=by omega
  exact decide_eq_false this
def Ly (a:X0):Bool:=decide (a=[105,110,116])||decide (a=[108,111,97,100])||decide (a=[115,116,111,114,101])||decide (a=[106,117,109,112])||decide (a=[98,114,97,110,99,104])
def Wg (a:X0):Bool:=decide (a=[119,111,114,100])||decide (a=[110,101,119])||decide (a=[103,101,116])||decide (a=[112,117,116])||decide (a=[99,97,108,108])||decide (a=[97,114,114,97,121])||decide (a=[105,115])||decide (a=[99,97,115,116])
theorem X0I (a:X0):R9 a=(Ly a,Wg a,(Qs a).isSome):=by
 unfold R9
 cases h:Qs a with
 | none=>
  have c:=List.findIdx?_eq_none_iff.1 h
  have d: ∀x∈Us,¬x=a:=by
   intro x f
   obtain ⟨o,n,rfl⟩:=List.mem_map.1 f
   have:=c o n
   simpa using this
  have b: ∀x∈Us,decide (a=x)=false:=fun x f=>by rw[decide_eq_false_iff_not];exact fun e=>d x f e.symm
  have j:Ly a=false:=by
   unfold Ly
   rw[b _ (by decide),b _ (by decide),b _ (by decide),b _ (by decide),b _ (by decide)];rfl
  have l:Wg a=false:=by
   unfold Wg
   rw[b _ (by decide),b _ (by decide),b _ (by decide),b _ (by decide),b _ (by decide),b _ (by decide),b _ (by decide),b _ (by decide)];rfl
  simp[j,l]
 | some i=>
  obtain ⟨g,k,_⟩:=List.findIdx?_eq_some_iff_getElem.1 h
  have q:Uh[i].name=a:=by simpa using k
  have r:Uh.getD i ⟨[],false,false⟩=Uh[i]:=by rw[List.getD_eq_getElem?_getD,List.getElem?_eq_getElem g];rfl
  have c: ∀o∈Uh,o.number=Ly o.name∧o.text=Wg o.name:=by decide
  obtain ⟨p,m⟩:=c _ (List.getElem_mem g)
  simp only[r,Option.isSome_some]
  rw[p,m,q]
def Ec (a:X0):Int:=if Ly a then 1 else if Wg a then 2 else if (Qs a).isSome then 0 else-1
theorem X0b {a:X0} (c:X2 w σ) (h: ∀w' l,Stp w σ w' l→K (I (Ec a)) w'):Q1 P F.bw [S a] w K:=Pn (by
 unfold Ma
 refine Ur (fun x w'=>w'=w∧x= .bool (Ly a)) ?_ (fun x d w' g=>?_)
 ·unfold Ly
  simp only[↓M1,M1,Mb,reduceIte]
  repeat' (refine Q7 (fun hh=>?_) (fun hh=>?_))
  all_goals (refine ⟨by trivial,?_⟩;congr 1;simp_all)
 ·obtain ⟨rfl,rfl⟩:=g
  cases e:Ly a with
  | true=>
   (try simp only[↓M1,M1,Mb,reduceIte])
   have:=h _ _ (Stp.refl c)
   unfold Ec at this
   simpa [e] using this
  | false=>
   (try simp only[↓M1,M1,Mb,reduceIte])
   refine Ur (fun x b=>b=w'∧x= .bool (Wg a)) ?_ (fun x d b g=>?_)
   ·unfold Wg
    simp only[↓M1,M1,Mb,reduceIte]
    repeat' (refine Q7 (fun hh=>?_) (fun hh=>?_))
    all_goals (refine ⟨by trivial,?_⟩;congr 1;simp_all)
   ·obtain ⟨rfl,rfl⟩:=g
    cases j:Wg a with
    | true=>
     (try simp only[↓M1,M1,Mb,reduceIte])
     have:=h _ _ (Stp.refl c)
     unfold Ec at this
     simpa [e,j] using this
    | false=>
     (try simp only[↓M1,M1,Mb,reduceIte])
     refine Q7Z c fun w1 σ1 f=>?_
     have:=h _ _ f
     unfold Ec at this
     simp only[e,j,Bool.false_eq_true,if_false] at this
     simp only[X1V,↓M1,M1,Mb,reduceIte]
     cases k:Qs a with
     | none=>rw[k] at this;simp only[Option.isSome_none,↓M1,M1,Mb,reduceIte];simpa using this
     | some i=>rw[k] at this;simp only[Option.isSome_some,↓M1,M1,Mb,reduceIte];simpa using this)
theorem Q6z (a:X0):decide (Ec a<0)= !(R9 a).2.2∧decide (Ec a=1)=(R9 a).1∧decide (Ec a=2)=(R9 a).2.1:=by
 rw[X0I]
 have g:Ly a=true→Wg a=false∧(Qs a).isSome=true:=by
  intro h
  unfold Ly at h
  simp only[Bool.or_eq_true,decide_eq_true_eq] at h
  rcases h with (((h | h) | h) | h) | h<;>(subst h;decide)
 have d:Wg a=true→(Qs a).isSome=true:=by
  intro h
  unfold Wg at h
  simp only[Bool.or_eq_true,decide_eq_true_eq] at h
  rcases h with ((((((h | h) | h) | h) | h) | h) | h) | h<;>(subst h;decide)
 unfold Ec
 cases e:Ly a with
 | true=>obtain ⟨f,c⟩:=g e;rw[f,c];decide
 | false=>
  cases b:Wg a with
  | true=>rw[d b];decide
  | false=>cases (Qs a).isSome<;>decide
theorem X4p (s:X0) (c:UInt8):decide (0≤Lib.indexByte s c)=s.any fun b=>decide (b=c):=by
 induction s with
 | nil=>rfl
 | cons b r f=>
  simp only[Lib.indexByte,List.any_cons,←f]
  by_cases e:b=c
  ·simp[e]
  ·have a:(b==c)=false:=by simpa using e
   have g:=Lib.indexByte_ge r c
   simp only[a,e,decide_false,Bool.false_or,Bool.false_eq_true,if_false]
   by_cases d:Lib.indexByte r c= -1
   ·simp[d]
   ·have:(Lib.indexByte r c== -1)=false:=by simpa using d
    simp only[this,Bool.false_eq_true,if_false]
    rw[Bool.eq_iff_iff,decide_eq_true_eq,decide_eq_true_eq];omega
def JB (w:World) (σ:Q6) (b:Bool) (x:Value) (w':World):Prop:= ∃a,Stp w σ w' a∧x= .bool b
theorem JB.mk {w w':World} {σ a:Q6} {b:Bool} (h:Stp w σ w' a):JB w σ b (.bool b) w':=⟨a,h,rfl⟩
theorem JB.of {w w':World} {σ a:Q6} {b c:Bool} (h:Stp w σ w' a) (e:c=b):JB w σ b (.bool c) w':=⟨a,h,by rw[e]⟩
theorem X3w {s:X0} {n:Nat} (h:n<s.length):decide ((X5 s n:Int)=10)=decide (s[n]=10):=by
 unfold X5
 rw[List.getD_eq_getElem?_getD,List.getElem?_eq_getElem h,Bool.eq_iff_iff,decide_eq_true_eq,decide_eq_true_eq]
 simp only[Option.getD_some]
 rw[←UInt8.toNat_inj]
 constructor
 ·intro e;have:s[n].toNat=10:=by omega
  rw[this];rfl
 ·intro e;rw[e];rfl
theorem Up {α:Type} {xs:List α} {p:α→Bool} {n:Nat} (h:n<xs.length):(xs.take (n+1)).all p=((xs.take n).all p&&p xs[n]):=by
 rw[List.take_add_one,List.getElem?_eq_getElem h,List.all_append];simp
set_option maxHeartbeats 2000000 in
theorem Q89 {i:Ins} {cs:List Value} (hs:X2 w σ) (hi:Qj σ i cs) (h: ∀w' m,Stp w σ w' m→K (I (H3 i)) w'):Q1 P F.bv [.agg cs.toArray] w K:=Kn (by
 obtain ⟨rfl,h1,h2,h3⟩:=hi
 unfold Mv
 refine Y9 hs fun q w1 σ1 U hq=>?_
 have V:=U.sat
 (try simp only[↓M1,M1,Mb,reduceIte])
 refine ld V hq rfl ?_
 refine X0b V fun Y σ2 O=>?_
 obtain ⟨t1,X,E⟩:=Q6z i.op
 have f:=U.trans O
 have g:=hq.up O
 have e:=f.sat
 have r:i.s.length≤140737488355328:=by simp only[U1] at h3;omega
 simp only[t1,↓M1,M1,Mb,reduceIte]
 unfold H3 at h
 cases e1:(R9 i.op).2.2 with
 | false=>
  simp only[e1,Bool.not_false,if_true] at h
  (try simp only[↓M1,M1,Mb,reduceIte])
  exact h _ _ f
 | true=>
 simp only[e1,Bool.not_true,Bool.false_eq_true,if_false] at h
 simp only[X,E,↓M1,M1,Mb,reduceIte]
 have k: ∀(b:Bool) (w':World) (m:Q6),Stp w σ w' m→b=(!((!(R9 i.op).1&&decide (i.n≠0))||(!(R9 i.op).2.1&&decide (i.s≠[]))||((R9 i.op).2.1&& !txt i.op i.s)))→
  X1 (.bool (!b)) (K (.int .i64 41) w') (K (.int .i64 0) w'):=by
  intro b w' m u B
  subst B
  rw[Bool.not_not]
  cases B:((!(R9 i.op).1&&decide (i.n≠0))||(!(R9 i.op).2.1&&decide (i.s≠[]))||((R9 i.op).2.1&& !txt i.op i.s)) with
  | true=>simp only[B,if_true] at h;(try simp only[↓M1,M1,Mb,reduceIte]);exact h _ _ u
  | false=>simp only[B,Bool.false_eq_true,if_false] at h;(try simp only[↓M1,M1,Mb,reduceIte]);exact h _ _ u
 clear h
 have ab:(R9 i.op).2.1=true→(R9 i.op).1=false:=by
  intro W
  rw[←X,decide_eq_false_iff_not]
  rw[←E,decide_eq_true_eq] at W
  omega
 cases A:(R9 i.op).2.1 with
 | false=>
  rw[A] at k E
  cases y:(R9 i.op).1 with
  | true=>
   rw[y] at k X
   (try simp only[↓M1,M1,Mb,reduceIte])
   simp only[E,↓M1,M1,Mb,reduceIte]
   refine ld e g rfl ?_
   (try simp only[↓M1,M1,Mb,reduceIte])
   refine U8 ?_
   intro d
   simp only[↓M1,M1,Mb,reduceIte]
   exact k _ _ _ f (by simp)
  | false=>
   rw[y] at k X
   (try simp only[↓M1,M1,Mb,reduceIte])
   refine ld e g rfl ?_
   (try simp only[↓M1,M1,Mb,reduceIte])
   by_cases N:i.n=0
   ·have d0:decide (i.n=0)=true:=by simpa using N
    simp only[d0,E,↓M1,M1,Mb,reduceIte]
    refine ld e g rfl ?_
    (try simp only[↓M1,M1,Mb,reduceIte])
    refine U8 ?_
    intro d
    simp only[↓M1,M1,Mb,reduceIte]
    exact k _ _ _ f (by simp[N])
   ·have d0:decide (i.n=0)=false:=by simpa using N
    simp only[d0,↓M1,M1,Mb,reduceIte]
    refine U8 ?_
    intro d
    have H:=k false _ _ f (by simp[N])
    (try simp only[↓M1,M1,Mb,reduceIte] at H⊢)
    exact H
 | true=>
  have y:=ab A
  rw[A,y] at k
  rw[A] at E
  rw[y] at X⊢
  (try simp only[↓M1,M1,Mb,reduceIte])
  refine ld e g rfl ?_
  (try simp only[↓M1,M1,Mb,reduceIte])
  have o: ∀(b c:Bool) (w':World) (m:Q6),decide (i.n=0)=b→Stp w σ w' m→c=(b&&txt i.op i.s)→X1 (.bool (!c)) (K (.int .i64 41) w') (K (.int .i64 0) w'):=by
   intro b c w' m B u p
   refine k c w' m u ?_
   rw[p,←B]
   by_cases N:i.n=0<;>simp[N]
  clear k
  cases B:decide (i.n=0) with
  | false=>
   have v:=fun w' m u=>o false false w' m B u rfl
   clear o
   simp only[E,↓M1,M1,Mb,reduceIte]
   refine Ur (JB w σ false) ?_ (fun x d w' W=>?_)
   ·refine ld e g rfl ?_
    (try simp only[↓M1,M1,Mb,reduceIte])
    refine Q7 (fun hh=>?_) (fun hh=>?_)
    ·refine E8 (a:=Value.bool false) i.s.length (fun n x w'=>w'=Y∧x=Value.bool false) ⟨rfl,rfl⟩ fun n x w3 d hn l=>?_
     obtain ⟨D,rfl⟩:=l
     subst D
     (try simp only[↓M1,M1,Mb,reduceIte])
     refine ld e g rfl ?_
     (try simp only[↓M1,M1,Mb,reduceIte])
     refine Q7 (fun p=>?_) (fun p=>?_)
     ·have j:n<i.s.length:=by simpa using p
      (try simp only[↓M1,M1,Mb,reduceIte])
      exact J5 (by omega) j ⟨rfl,rfl⟩
     ·exact .mk f
    refine Q7 (fun hh=>?_) (fun hh=>?_)
    ·exact .mk f
    refine Ur (fun x w'=>w'=Y∧ ∃b:Bool,x=Value.bool b) ?_ (fun z d w' hz=>?_)
    ·refine Q7 (fun hh=>?_) (fun hh=>?_)
     ·exact ⟨rfl,_,rfl⟩
     ·exact ⟨rfl,_,rfl⟩
    obtain ⟨D,b,rfl⟩:=hz
    subst D
    refine Q7 (fun hh=>?_) (fun hh=>?_)
    ·exact .mk f
    refine Q7 (fun hh=>?_) (fun hh=>?_)
    ·exact .mk f
    refine ld e g rfl ?_
    refine Q4v i.s r fun w4 t=>?_
    by_cases M:(Qy i.s).2.2=true
    ·simp only[M,if_true,↓M1,M1,Mb,reduceIte]
     exact .mk (f.trans (Stp.of_below e t))
    ·simp only[M,if_false,↓M1,M1,Mb,reduceIte]
     exact .mk (f.trans (Stp.of_below e t))
   ·obtain ⟨m,u,rfl⟩:=W
    have H:=v w' m u
    (try simp only[↓M1,M1,Mb,reduceIte] at H⊢)
    exact H
  | true=>
   have v:=fun c w' m u p=>o true c w' m B u p
   clear o
   simp only[E,↓M1,M1,Mb,reduceIte]
   refine Ur (JB w σ (txt i.op i.s)) ?_ (fun x d w' W=>?_)
   ·refine ld e g rfl ?_
    (try simp only[↓M1,M1,Mb,reduceIte])
    unfold txt
    by_cases o1:i.op=[119,111,114,100]
    ·simp only[if_pos o1,decide_eq_true o1,↓M1,M1,Mb,reduceIte]
     refine ld e g rfl ?_
     (try simp only[↓M1,M1,Mb,reduceIte])
     have ac:decide ((i.s.length:Int)≤64)=decide (i.s.length≤64):=by rw[Bool.eq_iff_iff,decide_eq_true_eq,decide_eq_true_eq];omega
     rw[ac,X4p,List.not_any_eq_all_not]
     cases ar:decide (i.s.length≤64) with
     | false=>
      (try simp only[↓M1,M1,Mb,reduceIte])
      refine E8 (a:=Value.bool false) i.s.length (fun n x w'=>w'=Y∧x=Value.bool false) ⟨rfl,rfl⟩ fun n x w3 d hn l=>?_
      obtain ⟨D,rfl⟩:=l
      subst D
      (try simp only[↓M1,M1,Mb,reduceIte])
      refine ld e g rfl ?_
      (try simp only[↓M1,M1,Mb,reduceIte])
      refine Q7 (fun p=>?_) (fun p=>?_)
      ·have j:n<i.s.length:=by simpa using p
       (try simp only[↓M1,M1,Mb,reduceIte])
       exact J5 (by omega) j ⟨rfl,rfl⟩
      ·exact .of f (by simp)
     | true=>
      (try simp only[↓M1,M1,Mb,reduceIte])
      refine ld e g rfl ?_
      refine Q4l h3 e fun w4 t=>?_
      have L:=Stp.of_below e t
      have Q:=g.up L
      have R:=L.sat
      have C:=f.trans L
      (try simp only[↓M1,M1,Mb,reduceIte])
      refine E8 (a:=Value.bool (Lib.validD i.s)) i.s.length (fun n x w'=>w'=w4∧x=Value.bool (Lib.validD i.s&&(i.s.take n).all fun c=> !decide (c=10))) ⟨rfl,by simp⟩ fun n x w3 d hn l=>?_
      obtain ⟨D,rfl⟩:=l
      subst D
      (try simp only[↓M1,M1,Mb,reduceIte])
      refine ld R Q rfl ?_
      (try simp only[↓M1,M1,Mb,reduceIte])
      refine Q7 (fun p=>?_) (fun p=>?_)
      ·have j:n<i.s.length:=by simpa using p
       have J:(Lib.validD i.s&&(i.s.take (n+1)).all fun c=> !decide (c=10))=((Lib.validD i.s&&(i.s.take n).all fun c=> !decide (c=10))&& !decide (i.s[n]=10)):=by rw[Up j,Bool.and_assoc]
       generalize ai:(Lib.validD i.s&&(i.s.take n).all fun c=> !decide (c=10))=ae at J⊢
       cases ae with
       | false=>(try simp only[↓M1,M1,Mb,reduceIte]);exact J5 (by omega) j ⟨rfl,by rw[J];rfl⟩
       | true=>
        (try simp only[↓M1,M1,Mb,reduceIte])
        refine ld R Q rfl ?_
        refine Ng j ?_
        simp only[X3w j,↓M1,M1,Mb,reduceIte]
        exact J5 (by omega) j ⟨rfl,by rw[J];rfl⟩
      ·have j: ¬n<i.s.length:=by simpa using p
       rw[List.take_of_length_le (by omega)]
       exact .of C (by simp)
    ·simp only[if_neg o1,decide_eq_false o1,↓M1,M1,Mb,reduceIte]
     by_cases o2:i.op=[110,101,119]
     ·simp only[if_pos o2,decide_eq_true o2,↓M1,M1,Mb,reduceIte]
      refine ld e g rfl ?_
      refine Yd i.s r ?_
      (try simp only[↓M1,M1,Mb,reduceIte])
      exact .mk f
     ·simp only[if_neg o2,decide_eq_false o2,↓M1,M1,Mb,reduceIte]
      refine Ur (fun x w'=>w'=Y∧x=Value.bool (decide (i.op=[105,115]∨i.op=[99,97,115,116]))) ?_ (fun z d w' hz=>?_)
      ·refine Q7 (fun hh=>?_) (fun hh=>?_)
       ·exact ⟨rfl,by simp_all⟩
       ·exact ⟨rfl,by simp_all⟩
      obtain ⟨D,rfl⟩:=hz
      subst D
      by_cases o3:i.op=[105,115]∨i.op=[99,97,115,116]
      ·simp only[if_pos o3,decide_eq_true o3,↓M1,M1,Mb,reduceIte]
       refine ld e g rfl ?_
       refine Jy i.s r ?_
       cases hr:right i.s with
       | false=>(try simp only[↓M1,M1,Mb,reduceIte]);exact .mk f
       | true=>
        (try simp only[↓M1,M1,Mb,reduceIte])
        refine ld e g rfl ?_
        refine El i.s ?_
        (try simp only[↓M1,M1,Mb,reduceIte])
        exact .mk f
      ·simp only[if_neg o3,decide_eq_false o3,↓M1,M1,Mb,reduceIte]
       by_cases Z:i.op=[97,114,114,97,121]
       ·simp only[if_pos Z,decide_eq_true Z,↓M1,M1,Mb,reduceIte]
        refine ld e g rfl ?_
        refine Jy i.s r ?_
        cases hr:right i.s with
        | false=>(try simp only[↓M1,M1,Mb,reduceIte]);exact .mk f
        | true=>
         (try simp only[↓M1,M1,Mb,reduceIte])
         refine ld e g rfl ?_
         refine Se i.s r ?_
         (try simp only[↓M1,M1,Mb,reduceIte])
         have e3:decide (((base i.s).2:Int)<3)=decide (Ya i.s<3):=by
          unfold Ya;rw[if_pos hr,Bool.eq_iff_iff,decide_eq_true_eq,decide_eq_true_eq];omega
         rw[e3]
         exact .mk f
       ·simp only[if_neg Z,decide_eq_false Z,↓M1,M1,Mb,reduceIte]
        refine ld e g rfl ?_
        refine Q4v i.s r fun w4 t=>?_
        have C:=f.trans (Stp.of_below e t)
        by_cases M:(Qy i.s).2.2=true
        ·simp only[M,if_true,↓M1,M1,Mb,reduceIte]
         exact .mk C
        ·have:Zj i.s=false:=by unfold Zj;rw[eq_false_of_ne_true M];rfl
         simp only[M,if_false,↓M1,M1,Mb,reduceIte]
         exact .of C this.symm
   ·obtain ⟨m,u,rfl⟩:=W
    have H:=v _ w' m u rfl
    simp only[Bool.true_and] at H
    (try simp only[↓M1,M1,Mb,reduceIte])
    exact H)
end Go.Proofs.YtjdiakhipmggjaaGreatDoor

namespace Go.Emb
theorem X2s {w:World} {K:Value→World→Prop} {v:Value} (h:K v w):Q0 (.bool true) true w (fun w J=>J v w) K:=by rw[W3];exact h
theorem X20 {w:World} {K:Value→World→Prop} {v:Value} (h:K v w):Q0 (.bool false) false w (fun w J=>J v w) K:=by rw[W8];exact h
theorem X3h {w:World} {K:Value→World→Prop} {b:Bool} {run:World→(Value→World→Prop)→Prop} (h:K undef w):Q0 undef b w run K:=by rw[O6];exact h
class Hd (p : Prop) (q : outParam Prop) : Prop where
  h : q → p
section
variable {P : Program} {w : World} {K : Value → World → Prop} {run : World → (Value → World → Prop) → Prop} {v u : Value} {b : Bool}
instance:Hd (J9 P .not (.bool b) w K) (K (.bool (!b)) w):=⟨We⟩
instance:Hd (Q0 undef b w run K) (K undef w):=⟨X3h⟩
instance {t:TypeId} {k off:Nat} {ft:TypeId} {sz by_:Nat} {z:Value} {a:Addr} [tf:TF P t k off ft] [tz:TZ P ft sz by_ z] [nz:NZ sz]:Hd (fieldAddr P t (.pointer (some a)) k w K) (K (.pointer (some (a.add off))) w):=⟨W4⟩
instance:Hd (pick P (.bool false) v u w K) (K u w):=⟨X2j⟩
instance:Hd (pick P (.bool true) v u w K) (K v w):=⟨X1T⟩
instance:Hd (Q0 (.bool false) false w run K) (run w K):=⟨X37⟩
instance:Hd (Q0 (.bool true) true w run K) (run w K):=⟨X2L⟩
instance:Hd (Q0 (.bool false) true w run K) (K undef w):=⟨X1O⟩
instance:Hd (Q0 (.bool true) false w run K) (K undef w):=⟨X26⟩
instance:Hd (Q0 (.bool false) false w (fun w J=>J v w) K) (K v w):=⟨X20⟩
instance:Hd (Q0 (.bool true) true w (fun w J=>J v w) K) (K v w):=⟨X2s⟩
end
end Go.Emb
namespace Go.Proofs.YtjdiakhipmggjaaGreatDoor
open Go.Emb Go.RowKit Go.Kd Go.Hm
variable {w : World} {K : Value → World → Prop} {σ : Q6}
theorem X2g {xs:List Ins} {v:Value} (r:X2 w σ) (o:Sl 3 Qj σ v xs) (h: ∀e w' m,Stp w σ w' m→decide (e=0)=xs.all (fun i=>decide (H3 i=0))→K (I e) w'):Q1 P F.b2 [v] w K:=Q0s (by
 unfold He
 refine U3 xs.length (fun n w'=> ∃m,Stp w σ w' m∧(xs.take n).all (fun i=>decide (H3 i=0))=true) ⟨σ,Stp.refl r,rfl⟩ fun n w1 d z k=>?_
 obtain ⟨σ1,c,f⟩:=k
 have g:=o.up c
 refine Q8 g ?_
 refine Z2 ?_
 refine Q7 (fun l=>?_) (fun l=>?_)
 ·have a:n<xs.length:=by simpa using l
  refine Y3 g a ?_
  obtain ⟨q,t⟩:=g.elI a
  refine Y4 c.sat q rfl ?_
  refine Q89 c.sat t fun y p j=>?_
  refine Ut ?_
  by_cases e:H3 xs[n]=0
  ·have:decide (H3 xs[n]=0)=true:=by simpa using e
   simp only[this,↓M1,M1,Mb,reduceIte]
   exact Y5 o.max a ⟨p,c.trans j,by rw[Up a,f];simpa using e⟩
  ·have:decide (H3 xs[n]=0)=false:=by simpa using e
   simp only[this,↓M1,M1,Mb,reduceIte]
   refine h _ _ _ (c.trans j) ?_
   rw[this]
   symm
   rw[←Bool.not_eq_true,List.all_eq_true]
   intro s
   have:=s _ (List.getElem_mem a)
   simp at this
   exact e this
 ·have a: ¬n<xs.length:=by simpa using l
  rw[List.take_of_length_le (by omega)] at f
  exact h 0 _ _ c (by rw[f];rfl))
theorem X14 {c:Cla} {cs:List Value} (hs:X2 w σ) (hc:V0 σ c cs) (h: ∀w' σ',Stp w σ w' σ'→K (.bool (Zu c)) w'):Q1 P F.bJ [.agg cs.toArray] w K:=Ao (by
 unfold Dc
 obtain ⟨lv,fv,mv,rfl,f1,f2,f3,f4,f5⟩:=hc
 refine Y9 hs fun q w1 σ1 hk1 hq=>?_
 have f1:=f1.up hk1
 have f2:=f2.up hk1
 have f3:=f3.up hk1
 refine U3 c.methods.length (fun n w'=> ∃σ',Stp w1 σ1 w' σ'∧(c.methods.take n).any Wk=false) ⟨σ1,Stp.refl hk1.sat,rfl⟩ fun n w2 d hn hinv=>?_
 obtain ⟨σ2,hk2,hno⟩:=hinv
 have hq2:=hq.up hk2
 have f32:=f3.up hk2
 have f12:=f1.up hk2
 have f22:=f2.up hk2
 have hs2:=hk2.sat
 (try simp only[↓M1,M1,Mb,reduceIte])
 refine ld hs2 hq2 rfl ?_
 refine Q8 f32 ?_
 refine Z2 ?_
 refine Q7 (fun hc=>?_) (fun hc=>?_)
 ·have hn':n<c.methods.length:=by simpa using hc
  (try simp only[↓M1,M1,Mb,reduceIte])
  refine ld hs2 hq2 rfl ?_
  refine Y3 f32 hn' ?_
  obtain ⟨pv,cv,hv,p1,r1⟩:=f32.elM hn'
  refine Y4 hs2 p1 rfl ?_
  refine Y8 hs2 (by rfl) rfl (Rep.one r1) fun q3 w3 σ3 hk3 hq3=>?_
  obtain ⟨g1,g2,g3,_,_,_⟩:=(RMe_lift r1 ⟨hk3.le⟩).parts
  have hS3:=hk1.trans (hk2.trans hk3)
  have hyes:Wk c.methods[n]=true→K (.bool true) w3:=fun e=>by
   have:=h _ _ hS3
   have hm:Zu c=true:=by unfold Zu;rw[C0 hn' e];rfl
   rwa [hm] at this
  have hk23:=hk2.trans hk3
  clear h hk2 hk3 hS3
  have hmax:=f3.max
  (repeat' (first | (with_reducible intro _) | (with_reducible refine U8 ?_) | (simp only[↓M2,M2,Mb,reduceIte]) | (with_reducible first | refine ld aS aL aR ?_ | refine X7 aS aL aR ?_ | refine Y4 aS aL aR ?_ | refine Q8 aL ?_ | refine J0 aR ?_ | refine Y9 aS ?_ | refine N0 aS aL ?_ | refine U7 aS aR ?_ | refine Y8 aS aR aR (Rep.one (by assumption)) ?_ | refine U9 aS aR aR aR ?_ | (refine Z8 (fun hh=>?_) (fun hh=>?_)<;>(try simp only[hh,Bool.not_true,Bool.not_false,↓M2,M2,Mb,reduceIte])) | (refine Q7 (fun hh=>?_) (fun hh=>?_)<;>(try simp only[hh,Bool.not_true,Bool.not_false,↓M2,M2,Mb,reduceIte])))))
  all_goals clear hq hq2 f1 f2 f3 f32 f12 f22 hs hs2 p1 r1 g1 g2 g3 hk1 f4 f5 hq3
  all_goals first
   | (refine hyes ?_;clear hyes hk23;unfold Wk;simp only[Bool.not_false,Bool.not_true,Bool.or_eq_true,decide_eq_true_eq,decide_eq_false_iff_not] at*;omega)
   | (
    have hnx:(c.methods.take (n+1)).any Wk=false:=by
     rw[L3 hn',hno,Bool.false_or];clear hyes hk23;unfold Wk;simp only[Bool.or_eq_false_iff,decide_eq_false_iff_not] at*;omega
    exact Y5 hmax hn' ⟨_,hk23,hnx⟩)
 ·have hn': ¬n<c.methods.length:=by simpa using hc
  rw[E0 hn'] at hno
  have hS2:=hk1.trans hk2
  have hm:Zu c=(decide (32<c.like.length)||decide (32<c.fields.length)||decide (32<c.methods.length)):=by unfold Zu;rw[hno];simp
  rw[hm] at h
  have hK:=h _ _ hS2
  clear h hk2
  (try simp only[↓M1,M1,Mb,reduceIte])
  refine ld hs2 hq2 rfl ?_
  refine Q8 f12 ?_
  have d32: ∀k:Nat,decide ((32:Int)<(k:Int))=decide (32<k):=fun k=>by rw[Bool.eq_iff_iff,decide_eq_true_eq,decide_eq_true_eq];omega
  simp only[d32,↓M1,M1,Mb,reduceIte]
  cases e1:decide (32<c.like.length) with
  | true=>rw[e1] at hK;(try simp only[↓M1,M1,Mb,reduceIte]);simpa using hK
  | false=>
   rw[e1] at hK
   (try simp only[↓M1,M1,Mb,reduceIte])
   refine ld hs2 hq2 rfl ?_
   refine Q8 f22 ?_
   simp only[d32,↓M1,M1,Mb,reduceIte]
   cases e2:decide (32<c.fields.length) with
   | true=>rw[e2] at hK;(try simp only[↓M1,M1,Mb,reduceIte]);simpa using hK
   | false=>
    rw[e2] at hK
    (try simp only[↓M1,M1,Mb,reduceIte])
    refine ld hs2 hq2 rfl ?_
    refine Q8 f32 ?_
    simp only[d32,↓M1,M1,Mb,reduceIte]
    simpa using hK)
theorem Q7Q {α:Type} {xs:List α} {p:α→Bool} {n:Nat} (h: ¬n<xs.length):(xs.take n).all p=xs.all p:=by rw[List.take_of_length_le (by omega)]
set_option maxHeartbeats 4000000 in
theorem Q0I {m:Hm.Met} {pv cv hv:Value} {w1:World} {σ1:Q6} {q:Addr} {t:Bool} (hs:X2 w σ) (af:Stp w σ w1 σ1) (hq:Z4 σ1 q [S m.name,pv,S m.result, .bool m.abs,I m.locals,cv,hv]) (g1:Sl 1 U6 σ1 pv m.params) (g2:Sl 3 Qj σ1 cv m.code) (g3:Sl 4 Jj σ1 hv m.catches)
 (h: ∀w' M,Stp w σ w' M→K (.bool ((t&&m.params.all right)&&if m.abs then decide (m.locals=0)&&decide (m.code=[])&&decide (m.catches=[])
  else decide (m.code≠[])&&decide ((m.params.length:Int)<m.locals)&&m.code.all (fun i=>decide (H3 i=0))&&m.catches.all (I4 m.code.length))) w'):
 lp (α:=Value×Value) (Value.bool t,(.int .i64 0)) w1 fun W B d_ w=>
  fieldAddr P T.d (.pointer (some q)) 1 w fun cj w=>
  Q2 P T.h cj w fun dc w=>
  X3 P .len [T.h] T.e [false] [dc] w fun bl w=>
  Q3 P .lss T.e (.tmp 21) (.tmp 24) B.2 bl w fun c7 w=>
  X1 c7 (
   Q0 B.1 true w (fieldAddr P T.d (.pointer (some q)) 1) fun bx w=>
   Q0 B.1 true w (Q2 P T.h bx) fun b3 w=>
   Q0 B.1 true w (fun w J=>J B.2 w) fun co w=>
   Q0 B.1 true w (indexAddr P T.h b3 co) fun bm w=>
   Q0 B.1 true w (Q2 P T.c bm) fun ch w=>
   Q0 B.1 true w (Q1 P F.e [ch]) fun cp w=>
   pick P B.1 cp (.bool false) w fun ce w=>
   Q3 P .add T.e (.tmp 26) (.const (.int .i64 1)) B.2 (.int .i64 1) w fun cn w=>
   W (ce,cn) w) (
   fieldAddr P T.d (.pointer (some q)) 3 w fun br w=>
   Q2 P T.t br w fun b4 w=>
   X1 b4 (
    Q0 B.1 true w (fieldAddr P T.d (.pointer (some q)) 4) fun b8 w=>
    Q0 B.1 true w (Q2 P T.e b8) fun b6 w=>
    Q0 B.1 true w (Q3 P .eql T.e (.tmp 42) (.const (.int .i64 0)) b6 (.int .i64 0)) fun bj w=>
    pick P B.1 bj (.bool false) w fun U w=>
    Q0 U true w (fieldAddr P T.d (.pointer (some q)) 5) fun cr w=>
    Q0 U true w (Q2 P T.q cr) fun cg w=>
    Q0 U true w (X3 P .len [T.q] T.e [false] [cg]) fun bu w=>
    Q0 U true w (Q3 P .eql T.e (.tmp 48) (.const (.int .i64 0)) bu (.int .i64 0)) fun c8 w=>
    pick P U c8 (.bool false) w fun R w=>
    Q0 R true w (fieldAddr P T.d (.pointer (some q)) 6) fun cf w=>
    Q0 R true w (Q2 P T.s cf) fun c9 w=>
    Q0 R true w (X3 P .len [T.s] T.e [false] [c9]) fun cx w=>
    Q0 R true w (Q3 P .eql T.e (.tmp 54) (.const (.int .i64 0)) cx (.int .i64 0)) fun cc w=>
    pick P R cc (.bool false) w fun b5 w=>
    K b5 w) (
    fieldAddr P T.d (.pointer (some q)) 5 w fun da w=>
    Q2 P T.q da w fun bn w=>
    X3 P .len [T.q] T.e [false] [bn] w fun ah w=>
    lp (α:=Value×Value) (B.1,(.int .i64 0)) w fun L j d_ w=>
     fieldAddr P T.d (.pointer (some q)) 6 w fun b0 w=>
     Q2 P T.s b0 w fun b7 w=>
     X3 P .len [T.s] T.e [false] [b7] w fun bz w=>
     Q3 P .lss T.e (.tmp 60) (.tmp 63) j.2 bz w fun bq w=>
     X1 bq (
      fieldAddr P T.d (.pointer (some q)) 6 w fun cz w=>
      Q2 P T.s cz w fun cs w=>
      indexAddr P T.s cs j.2 w fun ci w=>
      Q2 P T.u ci w fun cu w=>
      W0 P T.u w fun t7 w=>
      Y0 P T.u t7 cu w fun _u w=>
      Q0 j.1 true w (fieldAddr P T.u t7 0) fun cb w=>
      Q0 j.1 true w (Q2 P T.e cb) fun b1 w=>
      Q0 j.1 true w (Q3 P .geq T.e (.tmp 75) (.const (.int .i64 0)) b1 (.int .i64 0)) fun c5 w=>
      pick P j.1 c5 (.bool false) w fun E w=>
      Q0 E true w (fieldAddr P T.u t7 0) fun bp w=>
      Q0 E true w (Q2 P T.e bp) fun ct w=>
      Q0 E true w (fieldAddr P T.u t7 1) fun bo w=>
      Q0 E true w (Q2 P T.e bo) fun b9 w=>
      Q0 E true w (Q3 P .lss T.e (.tmp 80) (.tmp 82) ct b9) fun bs w=>
      pick P E bs (.bool false) w fun O w=>
      Q0 O true w (fieldAddr P T.u t7 1) fun bh w=>
      Q0 O true w (Q2 P T.e bh) fun cy w=>
      Q0 O true w (fun w J=>J ah w) fun dd w=>
      Q0 O true w (Q3 P .leq T.e (.tmp 87) (.tmp 88) cy dd) fun bk w=>
      pick P O bk (.bool false) w fun aa w=>
      Q0 aa true w (fieldAddr P T.u t7 2) fun bi w=>
      Q0 aa true w (Q2 P T.e bi) fun ck w=>
      Q0 aa true w (Q3 P .geq T.e (.tmp 93) (.const (.int .i64 0)) ck (.int .i64 0)) fun c6 w=>
      pick P aa c6 (.bool false) w fun N w=>
      Q0 N true w (fieldAddr P T.u t7 2) fun db w=>
      Q0 N true w (Q2 P T.e db) fun cq w=>
      Q0 N true w (fun w J=>J ah w) fun ca w=>
      Q0 N true w (Q3 P .lss T.e (.tmp 98) (.tmp 99) cq ca) fun a7 w=>
      pick P N a7 (.bool false) w fun D w=>
      Q0 D true w (fieldAddr P T.u t7 3) fun ar w=>
      Q0 D true w (Q2 P T.c ar) fun an w=>
      Q0 D true w (Q1 P F.d [an]) fun bc w=>
      pick P D bc (.bool false) w fun a8 w=>
      Q3 P .add T.e (.tmp 65) (.const (.int .i64 1)) j.2 (.int .i64 1) w fun cd w=>
      L (a8,cd) w) (
      Q0 j.1 true w (fun w J=>J ah w) fun ax w=>
      Q0 j.1 true w (Q3 P .gtr T.e (.tmp 109) (.const (.int .i64 0)) ax (.int .i64 0)) fun ay w=>
      pick P j.1 ay (.bool false) w fun g w=>
      Q0 g true w (fieldAddr P T.d (.pointer (some q)) 4) fun az w=>
      Q0 g true w (Q2 P T.e az) fun a9 w=>
      Q0 g true w (fieldAddr P T.d (.pointer (some q)) 1) fun bb w=>
      Q0 g true w (Q2 P T.h bb) fun a6 w=>
      Q0 g true w (X3 P .len [T.h] T.e [false] [a6]) fun a2 w=>
      Q0 g true w (Q3 P .gtr T.e (.tmp 114) (.tmp 117) a9 a2) fun aj w=>
      pick P g aj (.bool false) w fun A w=>
      Q0 A true w (fieldAddr P T.d (.pointer (some q)) 5) fun a1 w=>
      Q0 A true w (Q2 P T.q a1) fun ao w=>
      Q0 A true w (Q1 P F.b2 [ao]) fun ak w=>
      Q0 A true w (Q3 P .eql T.y (.tmp 123) (.const (.int .i64 0)) ak (.int .i64 0)) fun aw w=>
      pick P A aw (.bool false) w fun aq w=>
      K aq w))):=by
 have bw:=af.sat
 have c0:decide ((m.code.length:Int)=0)=decide (m.code=[]):=by cases m.code<;>simp;omega
 have c1:decide ((m.catches.length:Int)=0)=decide (m.catches=[]):=by cases m.catches<;>simp;omega
 have c2:decide ((0:Int)<m.code.length)=decide (m.code≠[]):=by cases m.code<;>simp
 refine E8 (a:=Value.bool t) m.params.length (fun n x w'=> ∃M,Stp w1 σ1 w' M∧x=Value.bool (t&&(m.params.take n).all right)) ⟨σ1,Stp.refl bw,by simp⟩ fun n x w2 d hn Q=>?_
 obtain ⟨σ2,k,rfl⟩:=Q
 have l:=hq.up k
 have Y:=g1.up k
 have o:=k.sat
 (try simp only[↓M1,M1,Mb,reduceIte])
 refine ld o l rfl ?_
 refine Q8 Y ?_
 refine Z2 ?_
 refine Q7 (fun hc=>?_) (fun hc=>?_)
 ·have c:n<m.params.length:=by simpa using hc
  have r:(t&&(m.params.take (n+1)).all right)=((t&&(m.params.take n).all right)&&right m.params[n]):=by rw[Up c,Bool.and_assoc]
  generalize (t&&(m.params.take n).all right)=f at r⊢
  cases f with
  | false=>(try simp only[↓M1,M1,Mb,reduceIte]);exact J5 g1.max c ⟨σ2,k,by rw[r];rfl⟩
  | true=>
   (try simp only[↓M1,M1,Mb,reduceIte])
   refine ld o l rfl ?_
   (try simp only[↓M1,M1,Mb,reduceIte])
   refine Y3 Y c ?_
   obtain ⟨p1,p2⟩:=Y.elS c
   refine X7 o p1 rfl ?_
   refine Jy _ (by simp only[U1] at p2;omega) ?_
   (try simp only[↓M1,M1,Mb,reduceIte])
   exact J5 g1.max c ⟨σ2,k,by rw[r];rfl⟩
 ·have c: ¬n<m.params.length:=by simpa using hc
  rw[Q7Q c]
  have a3:=af.trans k
  have ag:=g2.up k
  have V:=g3.up k
  clear af k hq g1 g2 g3 hn hc
  generalize (t&&m.params.all right)=f at h⊢
  refine ld o l rfl ?_
  cases a0:m.abs with
  | true=>
   simp only[a0,if_true] at h
   have hK:=h _ _ a3
   clear h
   (try simp only[↓M1,M1,Mb,reduceIte])
   cases f with
   | false=>(try simp only[↓M1,M1,Mb,reduceIte]);simpa using hK
   | true=>
    (try simp only[↓M1,M1,Mb,reduceIte])
    refine ld o l rfl ?_
    (try simp only[↓M1,M1,Mb,reduceIte])
    cases am:decide (m.locals=0) with
    | false=>rw[am] at hK;(try simp only[↓M1,M1,Mb,reduceIte]);simpa using hK
    | true=>
     rw[am] at hK
     (try simp only[↓M1,M1,Mb,reduceIte])
     refine ld o l rfl ?_
     refine Q8 ag ?_
     simp only[c0,↓M1,M1,Mb,reduceIte]
     cases a5:decide (m.code=[]) with
     | false=>rw[a5] at hK;(try simp only[↓M1,M1,Mb,reduceIte]);simpa using hK
     | true=>
      rw[a5] at hK
      (try simp only[↓M1,M1,Mb,reduceIte])
      refine ld o l rfl ?_
      refine Q8 V ?_
      simp only[c1,↓M1,M1,Mb,reduceIte]
      simpa using hK
  | false=>
   simp only[a0,Bool.false_eq_true,if_false] at h
   (try simp only[↓M1,M1,Mb,reduceIte])
   refine ld o l rfl ?_
   refine Q8 ag ?_
   refine E8 (a:=Value.bool f) m.catches.length (fun n x w'=> ∃M,Stp w2 σ2 w' M∧x=Value.bool (f&&(m.catches.take n).all (I4 m.code.length))) ⟨σ2,Stp.refl o,by simp⟩ fun n x w4 d hn Q=>?_
   obtain ⟨σ4,s,rfl⟩:=Q
   have H:=l.up s
   have X:=V.up s
   have p:=s.sat
   (try simp only[↓M1,M1,Mb,reduceIte])
   refine ld p H rfl ?_
   refine Q8 X ?_
   refine Z2 ?_
   refine Q7 (fun hc=>?_) (fun hc=>?_)
   ·have c:n<m.catches.length:=by simpa using hc
    have r:(f&&(m.catches.take (n+1)).all (I4 m.code.length))=((f&&(m.catches.take n).all (I4 m.code.length))&&I4 m.code.length m.catches[n]):=by rw[Up c,Bool.and_assoc]
    generalize (f&&(m.catches.take n).all (I4 m.code.length))=cm at r⊢
    (try simp only[↓M1,M1,Mb,reduceIte])
    refine ld p H rfl ?_
    refine Y3 X c ?_
    obtain ⟨p1,r1⟩:=X.elK c
    have ap:m.catches[n].cls.length≤140737488355328:=by have:=r1.2.2.2.2;simp only[U1] at this;omega
    refine Y4 p p1 rfl ?_
    refine Y8 p (by rfl) rfl (Rep.one r1) fun q5 w5 σ5 bd y=>?_
    have C:=bd.sat
    have ad:=s.trans bd
    cases cm with
    | false=>(try simp only[↓M1,M1,Mb,reduceIte]);exact J5 V.max c ⟨σ5,ad,by rw[r];rfl⟩
    | true=>
     have z: ∀b,I4 m.code.length m.catches[n]=b→Fi m.catches.length (fun n x w'=> ∃M,Stp w2 σ2 w' M∧x=Value.bool (f&&(m.catches.take n).all (I4 m.code.length))) (Value.bool b, .int .i64 (IntKind.i64.wrap (n+1))) w5∧Nk m.catches.length (Value.bool b, .int .i64 (IntKind.i64.wrap (n+1)))<Nk m.catches.length (Value.bool true,I n):=fun b e=>J5 V.max c ⟨σ5,ad,by rw[r,e];rfl⟩
     unfold I4 at z
     generalize m.catches[n]=x at y z ap
     clear r p1 r1 H l X h
     (try simp only[↓M1,M1,Mb,reduceIte])
     refine ld C y rfl ?_
     (try simp only[↓M1,M1,Mb,reduceIte])
     cases d1:decide (0≤x.frm) with
     | false=>(try simp only[↓M1,M1,Mb,reduceIte]);exact z _ (by simp[d1])
     | true=>
     (try simp only[↓M1,M1,Mb,reduceIte])
     refine ld C y rfl ?_
     (try simp only[↓M1,M1,Mb,reduceIte])
     refine ld C y rfl ?_
     (try simp only[↓M1,M1,Mb,reduceIte])
     cases d2:decide (x.frm<x.to) with
     | false=>(try simp only[↓M1,M1,Mb,reduceIte]);exact z _ (by simp[d1,d2])
     | true=>
     (try simp only[↓M1,M1,Mb,reduceIte])
     refine ld C y rfl ?_
     (try simp only[↓M1,M1,Mb,reduceIte])
     cases d3:decide (x.to≤(m.code.length:Int)) with
     | false=>(try simp only[↓M1,M1,Mb,reduceIte]);exact z _ (by simp[d1,d2,d3])
     | true=>
     (try simp only[↓M1,M1,Mb,reduceIte])
     refine ld C y rfl ?_
     (try simp only[↓M1,M1,Mb,reduceIte])
     cases d4:decide (0≤x.at_) with
     | false=>(try simp only[↓M1,M1,Mb,reduceIte]);exact z _ (by simp[d1,d2,d3,d4])
     | true=>
     (try simp only[↓M1,M1,Mb,reduceIte])
     refine ld C y rfl ?_
     (try simp only[↓M1,M1,Mb,reduceIte])
     cases d5:decide (x.at_<(m.code.length:Int)) with
     | false=>(try simp only[↓M1,M1,Mb,reduceIte]);exact z _ (by simp[d1,d2,d3,d4,d5])
     | true=>
     (try simp only[↓M1,M1,Mb,reduceIte])
     refine ld C y rfl ?_
     refine Yd x.cls ap ?_
     (try simp only[↓M1,M1,Mb,reduceIte])
     exact z _ (by simp[d1,d2,d3,d4,d5])
   ·have c: ¬n<m.catches.length:=by simpa using hc
    rw[Q7Q c]
    have Z:=a3.trans s
    have bv:=ag.up s
    have b2:=Y.up s
    have hh: ∀w' M,Stp w σ w' M→K (.bool ((f&&m.catches.all (I4 m.code.length))&&(decide (m.code≠[])&&decide ((m.params.length:Int)<m.locals)&&m.code.all (fun i=>decide (H3 i=0))))) w':=by
     intro w' M hk
     have:=h w' M hk
     refine Eq.subst (motive:=fun b=>K (.bool b) w') ?_ this
     cases f<;>cases m.catches.all (I4 m.code.length)<;>simp
    clear h s
    generalize (f&&m.catches.all (I4 m.code.length))=c4 at hh⊢
    cases c4 with
    | false=>(try simp only[↓M1,M1,Mb,reduceIte]);simpa using hh _ _ Z
    | true=>
     (try simp only[↓M1,M1,Mb,reduceIte])
     simp only[c2,↓M1,M1,Mb,reduceIte]
     cases ba:decide (m.code≠[]) with
     | false=>rw[ba] at hh;(try simp only[↓M1,M1,Mb,reduceIte]);simpa using hh _ _ Z
     | true=>
      rw[ba] at hh
      (try simp only[↓M1,M1,Mb,reduceIte])
      refine ld p H rfl ?_
      (try simp only[↓M1,M1,Mb,reduceIte])
      refine ld p H rfl ?_
      refine Q8 b2 ?_
      (try simp only[↓M1,M1,Mb,reduceIte])
      cases a4:decide ((m.params.length:Int)<m.locals) with
      | false=>rw[a4] at hh;(try simp only[↓M1,M1,Mb,reduceIte]);simpa using hh _ _ Z
      | true=>
       rw[a4] at hh
       (try simp only[↓M1,M1,Mb,reduceIte])
       refine ld p H rfl ?_
       refine X2g p bv fun e w6 σ6 cl he=>?_
       simp only[he,↓M1,M1,Mb,reduceIte]
       simpa using hh _ _ (Z.trans cl)
set_option maxHeartbeats 2000000 in
theorem Q8V {m:Hm.Met} {cs:List Value} (n:X2 w σ) (y:E4 σ m cs) (h: ∀w' z,Stp w σ w' z→K (.bool (I9 m)) w'):Q1 P F.a4 [.agg cs.toArray] w K:=Gb (by
 unfold Lk
 obtain ⟨pv,L,J,rfl,C,D,B,A,E,H⟩:=y
 have s:m.name.length≤140737488355328:=by simp only[U1] at A;omega
 have r:m.result.length≤140737488355328:=by simp only[U1] at E;omega
 refine Y9 n fun q w1 σ1 a g=>?_
 have t:=C.up a
 have o:=D.up a
 have p:=B.up a
 have f:=a.sat
 obtain ⟨d,c⟩: ∃b,b=(D2 m.name&&(decide (m.result=[])||right m.result)):=⟨_,rfl⟩
 have j:I9 m=((d&&m.params.all right)&&if m.abs then decide (m.locals=0)&&decide (m.code=[])&&decide (m.catches=[])
  else decide (m.code≠[])&&decide ((m.params.length:Int)<m.locals)&&m.code.all (fun i=>decide (H3 i=0))&&m.catches.all (I4 m.code.length)):=by
  rw[c];unfold I9
  cases D2 m.name<;>cases m.params.all right<;>cases decide (m.result=[])<;>cases right m.result<;>rfl
 rw[j] at h
 clear j
 (repeat refine Hd.h ?_)
 refine ld f g rfl ?_
 refine Kr m.name s ?_
 cases e:D2 m.name with
 | false=>
  have l:d=false:=by rw[c,e];rfl
  (repeat refine Hd.h ?_)
  refine Eq.subst (motive:=fun b=>lp (α:=Value×Value) (Value.bool b, .int .i64 0) w1 _) l ?_
  exact Q0I n a g t o p h
 | true=>
  (repeat refine Hd.h ?_)
  refine ld f g rfl ?_
  (repeat refine Hd.h ?_)
  refine K2 ?_
  cases k:decide (m.result=[]) with
  | true=>
   have l:d=true:=by rw[c,e,k];rfl
   (repeat refine Hd.h ?_)
   refine Eq.subst (motive:=fun b=>lp (α:=Value×Value) (Value.bool b, .int .i64 0) w1 _) l ?_
   exact Q0I n a g t o p h
  | false=>
   (repeat refine Hd.h ?_)
   refine ld f g rfl ?_
   (repeat refine Hd.h ?_)
   refine Jy m.result r ?_
   have l:d=right m.result:=by rw[c,e,k];rfl
   (repeat refine Hd.h ?_)
   refine Eq.subst (motive:=fun b=>lp (α:=Value×Value) (Value.bool b, .int .i64 0) w1 _) l ?_
   exact Q0I n a g t o p h)
end Go.Proofs.YtjdiakhipmggjaaGreatDoor

namespace Go.Hm
open Go.Kd
def Mq (c:Cla) (i:Nat):Bool:=M6 (c.like.getD i [])&& !decide (c.like.getD i []=c.name)
def A7 (c:Cla) (i k:Nat):Bool:= !decide (c.like.getD k []=c.like.getD i [])
def Bc (c:Cla) (i:Nat):Fld:=c.fields.getD i Fld.zero
def Ra (c:Cla) (i:Nat):Hm.Met:=c.methods.getD i Hm.Met.zero
def Dm (c:Cla) (i:Nat):Bool:=D2 (Bc c i).name&&right (Bc c i).kind&& !c.iface
def Xq (c:Cla) (i k:Nat):Bool:= !decide ((Bc c k).name=(Bc c i).name)
def Q80 (c:Cla):Bool:=(!c.iface||(c.abs&&decide (c.super=U0)))&& !(c.abs&&c.fin)
def Xt (c:Cla) (i k:Nat):Bool:= !decide ((Ra c k).name=(Ra c i).name)
theorem La {p:Nat→Bool} {n:Nat}:(List.range (n+1)).all p=((List.range n).all p&&p n):=by rw[List.range_succ,List.all_append];simp
theorem C1 {α:Type} {xs:List α} {i:Nat} {d:α} (h:i<xs.length):xs.getD i d=xs[i]:=by rw[List.getD_eq_getElem?_getD,List.getElem?_eq_getElem h];rfl
end Go.Hm
namespace Go.Proofs.YtjdiakhipmggjaaGreatDoor
open Go.Emb Go.RowKit Go.Kd Go.Hm
variable {w : World} {K : Value → World → Prop} {σ : Q6}
def Ms (c:Cla) (i:Nat):Bool:=I9 (Ra c i)&&(!(Ra c i).abs||c.abs)&&(!c.iface||(Ra c i).abs)
set_option maxHeartbeats 2000000 in
theorem Q3O {c:Cla} {lv fv mv:Value} {w1:World} {σ1:Q6} {q:Addr} {ok:Bool} (aa:X2 w1 σ1) (hq:Z4 σ1 q [S c.name,S c.super,lv, .bool c.iface, .bool c.abs, .bool c.fin,fv,mv]) {i:Nat} {N m0:Nat} {V:Nat→Value→World→Prop} (g1:Sl 1 U6 σ1 lv c.like) (hi:i<c.like.length)
 (h: ∀w' Z,Stp w1 σ1 w' Z→Fi N V (Value.bool (ok&&(List.range i).all (A7 c i)), .int .i64 (IntKind.i64.wrap (i+1))) w'∧Nk N (Value.bool (ok&&(List.range i).all (A7 c i)), .int .i64 (IntKind.i64.wrap (i+1)))<m0):
 lp (
  α:=Value×Value) (Value.bool ok,(.int .i64 0)) w1 fun f b d_ w=>
  Q3 P .lss T.e (.tmp 52) (.tmp 53) b.2 (I i) w fun ac w=>
  X1 ac (
   dr w fun e g=>
   Q5 e (fun m=> ∀w:World,g w→Q0 b.1 true w (fieldAddr P T.b (.pointer (some q)) 2) (dk e m w)) fun m=>
   Q5 e (fun A=> ∀w:World,g w→Q0 b.1 true w (fun w J=>J b.2 w) (dk e A w)) fun A=>
   Q5 e (fun D=> ∀w:World,g w→Q0 b.1 true w (fieldAddr P T.b (.pointer (some q)) 2) (dk e D w)) fun D=>
   Q5 e (fun s=> ∀w:World,g w→Q0 b.1 true w (fun w J=>J (I i) w) (dk e s w)) fun s=>
   Q5 e (fun C=> ∀y:Value,∀w:World,g w→m y w→Q0 b.1 true w (Q2 P T.h y) (dk e C w)) fun C=>
   Q5 e (fun p=> ∀v:Value,∀r:Value,∀w:World,g w→C v w→A r w→Q0 b.1 true w (indexAddr P T.h v r) (dk e p w)) fun p=>
   Q5 e (fun H=> ∀u:Value,∀w:World,g w→p u w→Q0 b.1 true w (Q2 P T.c u) (dk e H w)) fun H=>
   Q5 e (fun l=> ∀n:Value,∀w:World,g w→D n w→Q0 b.1 true w (Q2 P T.h n) (dk e l w)) fun l=>
   Q5 e (fun B=> ∀o:Value,∀z:Value,∀w:World,g w→l o w→s z w→Q0 b.1 true w (indexAddr P T.h o z) (dk e B w)) fun B=>
   Q5 e (fun L=> ∀t:Value,∀w:World,g w→B t w→Q0 b.1 true w (Q2 P T.c t) (dk e L w)) fun L=>
   ∀y:Value,∀r:Value,∀n:Value,∀z:Value,∀v:Value,∀u:Value,∀U:Value,∀o:Value,∀t:Value,∀Q:Value,∀w:World,g w→m y w→A r w→D n w→s z w→C v w→p u w→H U w→l o w→B t w→L Q w→
   Q0 b.1 true w (Q3 P .neq T.c (.tmp 63) (.tmp 68) U Q) fun Y w=>
   pick P b.1 Y (.bool false) w fun ai w=>
   Q3 P .add T.e (.tmp 55) (.const (.int .i64 1)) b.2 (.int .i64 1) w fun ad w=>
   f (ai,ad) w) (
   Q3 P .add T.e (.tmp 31) (.const (.int .i64 1)) (I i) (.int .i64 1) w fun M w=>
   (Fi N V (b.1,M) w∧Nk N (b.1,M)<m0)):=by
 have ao:=g1.max
 refine E8 (a:=Value.bool ok) i (fun k x w'=> ∃Z,Stp w1 σ1 w' Z∧x=Value.bool (ok&&(List.range k).all (A7 c i))) ⟨σ1,Stp.refl aa,by simp⟩ fun k x w2 d hk O=>?_
 obtain ⟨σ2,j,rfl⟩:=O
 have aq:=hq.up j
 have W:=g1.up j
 have af:=j.sat
 refine Z2 ?_
 refine Q7 (fun X=>?_) (fun X=>?_)
 ·have ab:k<i:=by simpa using X
  have R:k<c.like.length:=by omega
  have E:(ok&&(List.range (k+1)).all (A7 c i))=((ok&&(List.range k).all (A7 c i))&&A7 c i k):=by rw[La,Bool.and_assoc]
  have hQ:A7 c i k= !decide (c.like[k]=c.like[i]):=by unfold A7;rw[C1 R,C1 hi]
  rw[hQ] at E
  obtain ⟨p1,_⟩:=W.elS R
  obtain ⟨p2,_⟩:=W.elS hi
  generalize (ok&&(List.range k).all (A7 c i))=ag at E⊢
  clear h hQ X
  cases ag
  all_goals
   refine U2 af ?_
   (repeat refine J7 Xa ?_)
   (intros;(repeat (rename_i hx;subst hx));(try simp only[↓M2,M2,Mb,reduceIte]))
   rename_i w3 ah
   exact J5 (by omega) ab ⟨σ2,j.trans ah.stp,by rw[E];rfl⟩
 ·have ae:k=i:=by
   have: ¬k<i:=by simpa using X
   omega
  subst ae
  (try simp only[↓M1,M1,Mb,reduceIte])
  exact h _ _ j
set_option maxHeartbeats 4000000 in
theorem X0Y {c:Cla} {lv fv mv:Value} {w1:World} {σ1:Q6} {q:Addr} {ok:Bool} (hs1:X2 w1 σ1) (hq:Z4 σ1 q [S c.name,S c.super,lv, .bool c.iface, .bool c.abs, .bool c.fin,fv,mv]) {J:Value→World→Prop} (hn:c.name.length≤U1) (g1:Sl 1 U6 σ1 lv c.like)
 (h: ∀w' σ',Stp w1 σ1 w' σ'→J (.bool (ok&&(List.range c.like.length).all fun i=>Mq c i&&(List.range i).all (A7 c i))) w'):
 lp (α:=Value×Value) (Value.bool ok,(.int .i64 0)) w1 fun again4 x4 d_ w=>
 fieldAddr P T.b (.pointer (some q)) 2 w fun t27 w=>
 Q2 P T.h t27 w fun t28 w=>
 X3 P .len [T.h] T.e [false] [t28] w fun t29 w=>
 Q3 P .lss T.e (.tmp 26) (.tmp 29) x4.2 t29 w fun t30 w=>
 X1 t30 (
  dr w fun Tr Br=>
  Q5 Tr (fun φ35=> ∀w:World,Br w→Q0 x4.1 true w (fieldAddr P T.b (.pointer (some q)) 2) (dk Tr φ35 w)) fun φ35=>
  Q5 Tr (fun φ37=> ∀w:World,Br w→Q0 x4.1 true w (fun w J=>J x4.2 w) (dk Tr φ37 w)) fun φ37=>
  Q5 Tr (fun φ36=> ∀t35:Value,∀w:World,Br w→φ35 t35 w→Q0 x4.1 true w (Q2 P T.h t35) (dk Tr φ36 w)) fun φ36=>
  Q5 Tr (fun φ38=> ∀t36:Value,∀t37:Value,∀w:World,Br w→φ36 t36 w→φ37 t37 w→Q0 x4.1 true w (indexAddr P T.h t36 t37) (dk Tr φ38 w)) fun φ38=>
  Q5 Tr (fun φ39=> ∀t38:Value,∀w:World,Br w→φ38 t38 w→Q0 x4.1 true w (Q2 P T.c t38) (dk Tr φ39 w)) fun φ39=>
  Q5 Tr (fun φ40=> ∀t39:Value,∀w:World,Br w→φ39 t39 w→Q0 x4.1 true w (Q1 P F.d [t39]) (dk Tr φ40 w)) fun φ40=>
  Q5 Tr (fun φ41=> ∀t40:Value,∀w:World,Br w→φ40 t40 w→pick P x4.1 t40 (.bool false) w (dk Tr φ41 w)) fun φ41=>
  Q5 Tr (fun φ43=> ∀t41:Value,∀w:World,Br w→φ41 t41 w→Q0 t41 true w (fieldAddr P T.b (.pointer (some q)) 2) (dk Tr φ43 w)) fun φ43=>
  Q5 Tr (fun φ45=> ∀t41:Value,∀w:World,Br w→φ41 t41 w→Q0 t41 true w (fun w J=>J x4.2 w) (dk Tr φ45 w)) fun φ45=>
  Q5 Tr (fun φ48=> ∀t41:Value,∀w:World,Br w→φ41 t41 w→Q0 t41 true w (fieldAddr P T.b (.pointer (some q)) 0) (dk Tr φ48 w)) fun φ48=>
  Q5 Tr (fun φ44=> ∀t41:Value,∀t43:Value,∀w:World,Br w→φ41 t41 w→φ43 t43 w→Q0 t41 true w (Q2 P T.h t43) (dk Tr φ44 w)) fun φ44=>
  Q5 Tr (fun φ46=> ∀t41:Value,∀t44:Value,∀t45:Value,∀w:World,Br w→φ41 t41 w→φ44 t44 w→φ45 t45 w→Q0 t41 true w (indexAddr P T.h t44 t45) (dk Tr φ46 w)) fun φ46=>
  Q5 Tr (fun φ47=> ∀t41:Value,∀t46:Value,∀w:World,Br w→φ41 t41 w→φ46 t46 w→Q0 t41 true w (Q2 P T.c t46) (dk Tr φ47 w)) fun φ47=>
  Q5 Tr (fun φ49=> ∀t41:Value,∀t48:Value,∀w:World,Br w→φ41 t41 w→φ48 t48 w→Q0 t41 true w (Q2 P T.c t48) (dk Tr φ49 w)) fun φ49=>
  ∀t35:Value,∀t37:Value,∀t36:Value,∀t38:Value,∀t39:Value,∀t40:Value,∀t41:Value,∀t43:Value,∀t45:Value,∀t48:Value,∀t44:Value,∀t46:Value,∀t47:Value,∀t49:Value,∀w:World,Br w→φ35 t35 w→φ37 t37 w→φ36 t36 w→φ38 t38 w→φ39 t39 w→φ40 t40 w→φ41 t41 w→φ43 t43 w→φ45 t45 w→φ48 t48 w→φ44 t44 w→φ46 t46 w→φ47 t47 w→φ49 t49 w→
  Q0 t41 true w (Q3 P .neq T.c (.tmp 47) (.tmp 49) t47 t49) fun t50 w=>
  pick P t41 t50 (.bool false) w fun t51 w=>
  lp (α:=Value×Value) (t51,(.int .i64 0)) w fun again10 x10 d_ w=>
   Q3 P .lss T.e (.tmp 52) (.tmp 53) x10.2 x4.2 w fun t54 w=>
   X1 t54 (
    dr w fun Tr Br=>
    Q5 Tr (fun φ59=> ∀w:World,Br w→Q0 x10.1 true w (fieldAddr P T.b (.pointer (some q)) 2) (dk Tr φ59 w)) fun φ59=>
    Q5 Tr (fun φ61=> ∀w:World,Br w→Q0 x10.1 true w (fun w J=>J x10.2 w) (dk Tr φ61 w)) fun φ61=>
    Q5 Tr (fun φ64=> ∀w:World,Br w→Q0 x10.1 true w (fieldAddr P T.b (.pointer (some q)) 2) (dk Tr φ64 w)) fun φ64=>
    Q5 Tr (fun φ66=> ∀w:World,Br w→Q0 x10.1 true w (fun w J=>J x4.2 w) (dk Tr φ66 w)) fun φ66=>
    Q5 Tr (fun φ60=> ∀t59:Value,∀w:World,Br w→φ59 t59 w→Q0 x10.1 true w (Q2 P T.h t59) (dk Tr φ60 w)) fun φ60=>
    Q5 Tr (fun φ62=> ∀t60:Value,∀t61:Value,∀w:World,Br w→φ60 t60 w→φ61 t61 w→Q0 x10.1 true w (indexAddr P T.h t60 t61) (dk Tr φ62 w)) fun φ62=>
    Q5 Tr (fun φ63=> ∀t62:Value,∀w:World,Br w→φ62 t62 w→Q0 x10.1 true w (Q2 P T.c t62) (dk Tr φ63 w)) fun φ63=>
    Q5 Tr (fun φ65=> ∀t64:Value,∀w:World,Br w→φ64 t64 w→Q0 x10.1 true w (Q2 P T.h t64) (dk Tr φ65 w)) fun φ65=>
    Q5 Tr (fun φ67=> ∀t65:Value,∀t66:Value,∀w:World,Br w→φ65 t65 w→φ66 t66 w→Q0 x10.1 true w (indexAddr P T.h t65 t66) (dk Tr φ67 w)) fun φ67=>
    Q5 Tr (fun φ68=> ∀t67:Value,∀w:World,Br w→φ67 t67 w→Q0 x10.1 true w (Q2 P T.c t67) (dk Tr φ68 w)) fun φ68=>
    ∀t59:Value,∀t61:Value,∀t64:Value,∀t66:Value,∀t60:Value,∀t62:Value,∀t63:Value,∀t65:Value,∀t67:Value,∀t68:Value,∀w:World,Br w→φ59 t59 w→φ61 t61 w→φ64 t64 w→φ66 t66 w→φ60 t60 w→φ62 t62 w→φ63 t63 w→φ65 t65 w→φ67 t67 w→φ68 t68 w→
    Q0 x10.1 true w (Q3 P .neq T.c (.tmp 63) (.tmp 68) t63 t68) fun t69 w=>
    pick P x10.1 t69 (.bool false) w fun t70 w=>
    Q3 P .add T.e (.tmp 55) (.const (.int .i64 1)) x10.2 (.int .i64 1) w fun t56 w=>
    again10 (t70,t56) w) (
    Q3 P .add T.e (.tmp 31) (.const (.int .i64 1)) x4.2 (.int .i64 1) w fun t32 w=>
    again4 (x10.1,t32) w)) (
  J x4.1 w):=by
 have hmax:=g1.max
 refine E8 (a:=Value.bool ok) c.like.length (fun n x w'=> ∃σ',Stp w1 σ1 w' σ'∧x=Value.bool (ok&&(List.range n).all fun i=>Mq c i&&(List.range i).all (A7 c i))) ⟨σ1,Stp.refl hs1,by simp⟩ fun n x w2 d hn2 hinv=>?_
 obtain ⟨σ2,hk2,rfl⟩:=hinv
 have hq2:=hq.up hk2
 have g12:=g1.up hk2
 have hs2:=hk2.sat
 (repeat refine Hd.h ?_)
 refine ld hs2 hq2 rfl ?_
 refine Q8 g12 ?_
 refine Z2 ?_
 refine Q7 (fun hc=>?_) (fun hc=>?_)
 ·have hn':n<c.like.length:=by simpa using hc
  have hnx:(ok&&(List.range (n+1)).all fun i=>Mq c i&&(List.range i).all (A7 c i))=((ok&&(List.range n).all fun i=>Mq c i&&(List.range i).all (A7 c i))&&(Mq c n&&(List.range n).all (A7 c n))):=by rw[La,Bool.and_assoc]
  have hP:Mq c n=(M6 c.like[n]&& !decide (c.like[n]=c.name)):=by unfold Mq;rw[C1 hn']
  obtain ⟨p1,p2⟩:=g12.elS hn'
  have p2:c.like[n].length≤140737488355328:=by simp only[U1] at p2;omega
  generalize (ok&&(List.range n).all fun i=>Mq c i&&(List.range i).all (A7 c i))=acc at hnx⊢
  clear h hc
  cases hacc:acc with
  | false=>
   refine U2 hs2 ?_
   (repeat refine J7 Xa ?_)
   intros;(repeat (rename_i hx;subst hx))
   rename_i w3 hb3
   (repeat refine Hd.h ?_)
   refine Q3O hb3.sat hq2 g12 hn' fun w4 σ4 hk4=>?_
   exact J5 hmax hn' ⟨σ4,hk2.trans (hb3.stp.trans hk4),by rw[hnx,hacc];rfl⟩
  | true=>
   cases hcl:M6 c.like[n] with
   | false=>
    refine U2 hs2 ?_
    have hrc: ∀{w':World} {K:Value→World→Prop},K (.bool false) w'→Q1 P F.d [S c.like[n]] w' K:=fun hK=>Yd _ p2 (by rw[hcl];exact hK)
    (repeat (apply J7;(· intros;(repeat (rename_i hx;subst hx));(repeat' (first | (with_reducible exact N2 rfl) | (with_reducible exact S1 (Stp.bel (by (repeat (first | exact Stp.refl (by (first | assumption | exact Stp.sat (by assumption) | exact Hst.sat (by assumption))) | assumption | refine Stp.trans ?_ (by first | assumption | exact Hst.stp (by assumption)))))) rfl) | (with_reducible intro _) | (simp only[↓M2,M2,Mb,reduceIte]) | (with_reducible refine hrc ?_) | (with_reducible show Q2 _ _ _ _ _;first | refine X7 aS aL aR ?_ | refine Y4 aS aL aR ?_ | refine ld aS aL aR ?_) | (with_reducible show indexAddr _ _ _ _ _ _;refine Y3 aL au ?_) | (with_reducible show X3 _ _ _ _ _ _ _ _;refine Q8 aL ?_) | (with_reducible show F4 _ _ _ _ _ _;refine J0 aR ?_) | (with_reducible show pick _ _ _ _ _ _;refine L8 ?_) | (apply G5;intro hh;(try simp only[hh,reduceIte,↓M2,M2,Mb,reduceIte]))));done)))
    intros;(repeat (rename_i hx;subst hx))
    rename_i w3 hb3
    (repeat refine Hd.h ?_)
    refine Q3O hb3.sat hq2 g12 hn' fun w4 σ4 hk4=>?_
    exact J5 hmax hn' ⟨σ4,hk2.trans (hb3.stp.trans hk4),by rw[hnx,hacc,hP,hcl];rfl⟩
   | true=>
    refine U2 hs2 ?_
    have hrc: ∀{w':World} {K:Value→World→Prop},K (.bool true) w'→Q1 P F.d [S c.like[n]] w' K:=fun hK=>Yd _ p2 (by rw[hcl];exact hK)
    (repeat (apply J7;(· intros;(repeat (rename_i hx;subst hx));(repeat' (first | (with_reducible exact N2 rfl) | (with_reducible exact S1 (Stp.bel (by (repeat (first | exact Stp.refl (by (first | assumption | exact Stp.sat (by assumption) | exact Hst.sat (by assumption))) | assumption | refine Stp.trans ?_ (by first | assumption | exact Hst.stp (by assumption)))))) rfl) | (with_reducible intro _) | (simp only[↓M2,M2,Mb,reduceIte]) | (with_reducible refine hrc ?_) | (with_reducible show Q2 _ _ _ _ _;first | refine X7 aS aL aR ?_ | refine Y4 aS aL aR ?_ | refine ld aS aL aR ?_) | (with_reducible show indexAddr _ _ _ _ _ _;refine Y3 aL au ?_) | (with_reducible show X3 _ _ _ _ _ _ _ _;refine Q8 aL ?_) | (with_reducible show F4 _ _ _ _ _ _;refine J0 aR ?_) | (with_reducible show pick _ _ _ _ _ _;refine L8 ?_) | (apply G5;intro hh;(try simp only[hh,reduceIte,↓M2,M2,Mb,reduceIte]))));done)))
    intros;(repeat (rename_i hx;subst hx))
    rename_i w3 hb3
    (repeat refine Hd.h ?_)
    refine Wl ?_
    (repeat refine Hd.h ?_)
    refine Q3O hb3.sat hq2 g12 hn' fun w4 σ4 hk4=>?_
    exact J5 hmax hn' ⟨σ4,hk2.trans (hb3.stp.trans hk4),by rw[hnx,hacc,hP,hcl];simp⟩
 ·have hn': ¬n<c.like.length:=by simpa using hc
  obtain rfl:n=c.like.length:=by omega
  exact h _ _ hk2
set_option maxHeartbeats 2000000 in
theorem Q3c {c:Cla} {lv fv mv:Value} {w1:World} {σ1:Q6} {q:Addr} {ok:Bool} (ah:X2 w1 σ1) (hq:Z4 σ1 q [S c.name,S c.super,lv, .bool c.iface, .bool c.abs, .bool c.fin,fv,mv]) {i:Nat} {N m0:Nat} {ad:Nat→Value→World→Prop} (g2:Sl 3 R8 σ1 fv c.fields) (hi:i<c.fields.length)
 (h: ∀w' σ',Stp w1 σ1 w' σ'→Fi N ad (Value.bool (ok&&(List.range i).all (Xq c i)), .int .i64 (IntKind.i64.wrap (i+1))) w'∧Nk N (Value.bool (ok&&(List.range i).all (Xq c i)), .int .i64 (IntKind.i64.wrap (i+1)))<m0):
 lp (α:=Value×Value) (Value.bool ok,(.int .i64 0)) w1 fun Q b d_ w=>
  Q3 P .lss T.e (.tmp 102) (.tmp 103) b.2 (I i) w fun X w=>
  X1 X (
   dr w fun e H=>
   Q5 e (fun l=> ∀w:World,H w→Q0 b.1 true w (fieldAddr P T.b (.pointer (some q)) 6) (dk e l w)) fun l=>
   Q5 e (fun B=> ∀w:World,H w→Q0 b.1 true w (fun w J=>J b.2 w) (dk e B w)) fun B=>
   Q5 e (fun n=> ∀w:World,H w→Q0 b.1 true w (fieldAddr P T.b (.pointer (some q)) 6) (dk e n w)) fun n=>
   Q5 e (fun s=> ∀w:World,H w→Q0 b.1 true w (fun w J=>J (I i) w) (dk e s w)) fun s=>
   Q5 e (fun m=> ∀y:Value,∀w:World,H w→l y w→Q0 b.1 true w (Q2 P T.k y) (dk e m w)) fun m=>
   Q5 e (fun v=> ∀z:Value,∀A:Value,∀w:World,H w→m z w→B A w→Q0 b.1 true w (indexAddr P T.k z A) (dk e v w)) fun v=>
   Q5 e (fun r=> ∀p:Value,∀w:World,H w→v p w→Q0 b.1 true w (fieldAddr P T.n p 0) (dk e r w)) fun r=>
   Q5 e (fun O=> ∀E:Value,∀w:World,H w→r E w→Q0 b.1 true w (Q2 P T.c E) (dk e O w)) fun O=>
   Q5 e (fun t=> ∀u:Value,∀w:World,H w→n u w→Q0 b.1 true w (Q2 P T.k u) (dk e t w)) fun t=>
   Q5 e (fun D=> ∀o:Value,∀j:Value,∀w:World,H w→t o w→s j w→Q0 b.1 true w (indexAddr P T.k o j) (dk e D w)) fun D=>
   Q5 e (fun g=> ∀f:Value,∀w:World,H w→D f w→Q0 b.1 true w (fieldAddr P T.n f 0) (dk e g w)) fun g=>
   Q5 e (fun M=> ∀C:Value,∀w:World,H w→g C w→Q0 b.1 true w (Q2 P T.c C) (dk e M w)) fun M=>
   ∀y:Value,∀A:Value,∀u:Value,∀j:Value,∀z:Value,∀p:Value,∀E:Value,∀R:Value,∀o:Value,∀f:Value,∀C:Value,∀U:Value,∀w:World,H w→l y w→B A w→n u w→s j w→m z w→v p w→r E w→O R w→t o w→D f w→g C w→M U w→
   Q0 b.1 true w (Q3 P .neq T.c (.tmp 114) (.tmp 120) R U) fun W w=>
   pick P b.1 W (.bool false) w fun Y w=>
   Q3 P .add T.e (.tmp 105) (.const (.int .i64 1)) b.2 (.int .i64 1) w fun ac w=>
   Q (Y,ac) w) (
   Q3 P .add T.e (.tmp 76) (.const (.int .i64 1)) (I i) (.int .i64 1) w fun ae w=>
   (Fi N ad (b.1,ae) w∧Nk N (b.1,ae)<m0)):=by
 have av:=g2.max
 refine E8 (a:=Value.bool ok) i (fun k x w'=> ∃σ',Stp w1 σ1 w' σ'∧x=Value.bool (ok&&(List.range k).all (Xq c i))) ⟨σ1,Stp.refl ah,by simp⟩ fun k x w2 d hk Z=>?_
 obtain ⟨σ2,L,rfl⟩:=Z
 have ax:=hq.up L
 have aa:=g2.up L
 have ak:=L.sat
 refine Z2 ?_
 refine Q7 (fun hc=>?_) (fun hc=>?_)
 ·have ai:k<i:=by simpa using hc
  have ab:k<c.fields.length:=by omega
  have V:(ok&&(List.range (k+1)).all (Xq c i))=((ok&&(List.range k).all (Xq c i))&&Xq c i k):=by rw[La,Bool.and_assoc]
  have hQ:Xq c i k= !decide (c.fields[k].name=c.fields[i].name):=by unfold Xq Bc;rw[C1 ab,C1 hi]
  rw[hQ] at V
  obtain ⟨p1,_⟩:=aa.elF ab
  obtain ⟨p2,_⟩:=aa.elF hi
  generalize (ok&&(List.range k).all (Xq c i))=al at V⊢
  clear h hQ hc
  cases al
  all_goals
   refine U2 ak ?_
   (repeat refine J7 Xa ?_)
   (intros;(repeat (rename_i hx;subst hx));(try simp only[↓M2,M2,Mb,reduceIte]))
   rename_i w3 am
   exact J5 (by omega) ai ⟨σ2,L.trans am.stp,by rw[V];rfl⟩
 ·have aj:k=i:=by
   have: ¬k<i:=by simpa using hc
   omega
  subst aj
  (try simp only[↓M1,M1,Mb,reduceIte])
  exact h _ _ L
set_option maxHeartbeats 4000000 in
theorem X1G {c:Cla} {lv fv mv:Value} {w1:World} {σ1:Q6} {q:Addr} {ok:Bool} (a6:X2 w1 σ1) (hq:Z4 σ1 q [S c.name,S c.super,lv, .bool c.iface, .bool c.abs, .bool c.fin,fv,mv]) {J:Value→World→Prop} (g2:Sl 3 R8 σ1 fv c.fields)
 (h: ∀w' σ',Stp w1 σ1 w' σ'→J (.bool (ok&&(List.range c.fields.length).all fun i=>Dm c i&&(List.range i).all (Xq c i))) w'):
 lp (
  α:=Value×Value) (Value.bool ok,(.int .i64 0)) w1 fun ac g d_ w=>
  fieldAddr P T.b (.pointer (some q)) 6 w fun ba w=>
  Q2 P T.k ba w fun a3 w=>
  X3 P .len [T.k] T.e [false] [a3] w fun be w=>
  Q3 P .lss T.e (.tmp 71) (.tmp 74) g.2 be w fun a8 w=>
  X1 a8 (
   Q0 g.1 true w (fieldAddr P T.b (.pointer (some q)) 6) fun a4 w=>
   Q0 g.1 true w (Q2 P T.k a4) fun ay w=>
   Q0 g.1 true w (fun w J=>J g.2 w) fun bb w=>
   Q0 g.1 true w (indexAddr P T.k ay bb) fun a2 w=>
   Q0 g.1 true w (fieldAddr P T.n a2 0) fun bj w=>
   Q0 g.1 true w (Q2 P T.c bj) fun a5 w=>
   Q0 g.1 true w (Q1 P F.u [a5]) fun ar w=>
   pick P g.1 ar (.bool false) w fun r w=>
   Q0 r true w (fieldAddr P T.b (.pointer (some q)) 6) fun ax w=>
   Q0 r true w (Q2 P T.k ax) fun bh w=>
   Q0 r true w (fun w J=>J g.2 w) fun a9 w=>
   Q0 r true w (indexAddr P T.k bh a9) fun av w=>
   Q0 r true w (fieldAddr P T.n av 1) fun aw w=>
   Q0 r true w (Q2 P T.c aw) fun bf w=>
   Q0 r true w (Q1 P F.e [bf]) fun bi w=>
   pick P r bi (.bool false) w fun ae w=>
   Q0 ae true w (fieldAddr P T.b (.pointer (some q)) 3) fun az w=>
   Q0 ae true w (Q2 P T.t az) fun bc w=>
   Q0 ae true w (J9 P .not bc) fun ao w=>
   pick P ae ao (.bool false) w fun al w=>
   lp (α:=Value×Value) (al,(.int .i64 0)) w fun ad f d_ w=>
    Q3 P .lss T.e (.tmp 102) (.tmp 103) f.2 g.2 w fun ak w=>
    X1 ak (
     dr w fun k Y=>
     Q5 k (fun y=> ∀w:World,Y w→Q0 f.1 true w (fieldAddr P T.b (.pointer (some q)) 6) (dk k y w)) fun y=>
     Q5 k (fun U=> ∀w:World,Y w→Q0 f.1 true w (fun w J=>J f.2 w) (dk k U w)) fun U=>
     Q5 k (fun A=> ∀w:World,Y w→Q0 f.1 true w (fieldAddr P T.b (.pointer (some q)) 6) (dk k A w)) fun A=>
     Q5 k (fun E=> ∀w:World,Y w→Q0 f.1 true w (fun w J=>J g.2 w) (dk k E w)) fun E=>
     Q5 k (fun z=> ∀N:Value,∀w:World,Y w→y N w→Q0 f.1 true w (Q2 P T.k N) (dk k z w)) fun z=>
     Q5 k (fun M=> ∀O:Value,∀Q:Value,∀w:World,Y w→z O w→U Q w→Q0 f.1 true w (indexAddr P T.k O Q) (dk k M w)) fun M=>
     Q5 k (fun D=> ∀C:Value,∀w:World,Y w→M C w→Q0 f.1 true w (fieldAddr P T.n C 0) (dk k D w)) fun D=>
     Q5 k (fun ab=> ∀X:Value,∀w:World,Y w→D X w→Q0 f.1 true w (Q2 P T.c X) (dk k ab w)) fun ab=>
     Q5 k (fun H=> ∀L:Value,∀w:World,Y w→A L w→Q0 f.1 true w (Q2 P T.k L) (dk k H w)) fun H=>
     Q5 k (fun W=> ∀B:Value,∀v:Value,∀w:World,Y w→H B w→E v w→Q0 f.1 true w (indexAddr P T.k B v) (dk k W w)) fun W=>
     Q5 k (fun u=> ∀t:Value,∀w:World,Y w→W t w→Q0 f.1 true w (fieldAddr P T.n t 0) (dk k u w)) fun u=>
     Q5 k (fun aa=> ∀V:Value,∀w:World,Y w→u V w→Q0 f.1 true w (Q2 P T.c V) (dk k aa w)) fun aa=>
     ∀N:Value,∀Q:Value,∀L:Value,∀v:Value,∀O:Value,∀C:Value,∀X:Value,∀af:Value,∀B:Value,∀t:Value,∀V:Value,∀ag:Value,∀w:World,Y w→y N w→U Q w→A L w→E v w→z O w→M C w→D X w→ab af w→H B w→W t w→u V w→aa ag w→
     Q0 f.1 true w (Q3 P .neq T.c (.tmp 114) (.tmp 120) af ag) fun aj w=>
     pick P f.1 aj (.bool false) w fun am w=>
     Q3 P .add T.e (.tmp 105) (.const (.int .i64 1)) f.2 (.int .i64 1) w fun ap w=>
     ad (am,ap) w) (
     Q3 P .add T.e (.tmp 76) (.const (.int .i64 1)) g.2 (.int .i64 1) w fun a7 w=>
     ac (f.1,a7) w)) (
   J g.1 w):=by
 have R:=g2.max
 refine E8 (a:=Value.bool ok) c.fields.length (fun n x w'=> ∃σ',Stp w1 σ1 w' σ'∧x=Value.bool (ok&&(List.range n).all fun i=>Dm c i&&(List.range i).all (Xq c i))) ⟨σ1,Stp.refl a6,by simp⟩ fun n x w2 d bu an=>?_
 obtain ⟨σ2,m,rfl⟩:=an
 have o:=hq.up m
 have p:=g2.up m
 have l:=m.sat
 (repeat refine Hd.h ?_)
 refine ld l o rfl ?_
 refine Q8 p ?_
 refine Z2 ?_
 refine Q7 (fun hc=>?_) (fun hc=>?_)
 ·have j:n<c.fields.length:=by simpa using hc
  have Z:(ok&&(List.range (n+1)).all fun i=>Dm c i&&(List.range i).all (Xq c i))=((ok&&(List.range n).all fun i=>Dm c i&&(List.range i).all (Xq c i))&&(Dm c n&&(List.range n).all (Xq c n))):=by rw[La,Bool.and_assoc]
  have hP:Dm c n=(D2 c.fields[n].name&&right c.fields[n].kind&& !c.iface):=by unfold Dm Bc;rw[C1 j]
  obtain ⟨p1,r1⟩:=p.elF j
  have b1:c.fields[n].name.length≤140737488355328:=by have:=r1.2.1;simp only[U1] at this;omega
  have b2:c.fields[n].kind.length≤140737488355328:=by have:=r1.2.2;simp only[U1] at this;omega
  generalize (ok&&(List.range n).all fun i=>Dm c i&&(List.range i).all (Xq c i))=ai at Z⊢
  clear h hc
  have step: ∀b,b=(ai&&Dm c n)→(ai&&(Dm c n&&(List.range n).all (Xq c n)))=(b&&(List.range n).all (Xq c n)):=fun b e=>by rw[e,Bool.and_assoc]
  cases ai with
  | false=>
   (repeat refine Hd.h ?_)
   refine Q3c l o p j fun w4 σ4 s=>?_
   exact J5 R j ⟨σ4,m.trans s,by rw[Z];rfl⟩
  | true=>
   (repeat refine Hd.h ?_)
   refine ld l o rfl ?_
   (repeat refine Hd.h ?_)
   refine Y3 p j ?_
   (repeat refine Hd.h ?_)
   refine ld l p1 rfl ?_
   (repeat refine Hd.h ?_)
   refine Kr _ b1 ?_
   cases d1:D2 c.fields[n].name with
   | false=>
    (repeat refine Hd.h ?_)
    refine Q3c l o p j fun w4 σ4 s=>?_
    exact J5 R j ⟨σ4,m.trans s,by rw[Z,step false (by rw[hP,d1];rfl)]⟩
   | true=>
    (repeat refine Hd.h ?_)
    refine ld l o rfl ?_
    (repeat refine Hd.h ?_)
    refine Y3 p j ?_
    (repeat refine Hd.h ?_)
    refine ld l p1 rfl ?_
    (repeat refine Hd.h ?_)
    refine Jy _ b2 ?_
    cases d2:right c.fields[n].kind with
    | false=>
     (repeat refine Hd.h ?_)
     refine Q3c l o p j fun w4 σ4 s=>?_
     exact J5 R j ⟨σ4,m.trans s,by rw[Z,step false (by rw[hP,d1,d2];rfl)]⟩
    | true=>
     (repeat refine Hd.h ?_)
     refine ld l o rfl ?_
     (repeat refine Hd.h ?_)
     refine Q3c l o p j fun w4 σ4 s=>?_
     exact J5 R j ⟨σ4,m.trans s,by rw[Z,step (!c.iface) (by rw[hP,d1,d2];rfl)]⟩
 ·have j: ¬n<c.fields.length:=by simpa using hc
  obtain rfl:n=c.fields.length:=by omega
  exact h _ _ m
set_option maxHeartbeats 2000000 in
theorem Cm {c:Cla} {lv fv mv:Value} {w1:World} {σ1:Q6} {q:Addr} {ok:Bool} (Z:X2 w1 σ1) (hq:Z4 σ1 q [S c.name,S c.super,lv, .bool c.iface, .bool c.abs, .bool c.fin,fv,mv]) {i:Nat} {q9:Addr} {pv cv hv:Value} {N m0:Nat} {Q:Nat→Value→World→Prop} (g3:Sl 7 E4 σ1 mv c.methods) (hi:i<c.methods.length) (ac:Z4 σ1 q9 [S c.methods[i].name,pv,S c.methods[i].result, .bool c.methods[i].abs,I c.methods[i].locals,cv,hv])
 (h: ∀w' Y,Stp w1 σ1 w' Y→Fi N Q (Value.bool (ok&&(List.range i).all (Xt c i)), .int .i64 (IntKind.i64.wrap (i+1))) w'∧Nk N (Value.bool (ok&&(List.range i).all (Xt c i)), .int .i64 (IntKind.i64.wrap (i+1)))<m0):
 lp (α:=Value×Value) (Value.bool ok,(.int .i64 0)) w1 fun y b d_ w=>
  Q3 P .lss T.e (.tmp 158) (.tmp 159) b.2 (I i) w fun V w=>
  X1 V (
   dr w fun e B=>
   Q5 e (fun p=> ∀w:World,B w→Q0 b.1 true w (fieldAddr P T.b (.pointer (some q)) 7) (dk e p w)) fun p=>
   Q5 e (fun j=> ∀w:World,B w→Q0 b.1 true w (fun w J=>J b.2 w) (dk e j w)) fun j=>
   Q5 e (fun l=> ∀w:World,B w→Q0 b.1 true w (fieldAddr P T.d (.pointer (some q9)) 0) (dk e l w)) fun l=>
   Q5 e (fun n=> ∀s:Value,∀w:World,B w→p s w→Q0 b.1 true w (Q2 P T.j s) (dk e n w)) fun n=>
   Q5 e (fun f=> ∀o:Value,∀m:Value,∀w:World,B w→n o w→j m w→Q0 b.1 true w (indexAddr P T.j o m) (dk e f w)) fun f=>
   Q5 e (fun u=> ∀t:Value,∀w:World,B w→f t w→Q0 b.1 true w (fieldAddr P T.d t 0) (dk e u w)) fun u=>
   Q5 e (fun z=> ∀r:Value,∀w:World,B w→u r w→Q0 b.1 true w (Q2 P T.c r) (dk e z w)) fun z=>
   Q5 e (fun A=> ∀g:Value,∀w:World,B w→l g w→Q0 b.1 true w (Q2 P T.c g) (dk e A w)) fun A=>
   ∀s:Value,∀m:Value,∀g:Value,∀o:Value,∀t:Value,∀r:Value,∀E:Value,∀D:Value,∀w:World,B w→p s w→j m w→l g w→n o w→f t w→u r w→z E w→A D w→
   Q0 b.1 true w (Q3 P .neq T.c (.tmp 170) (.tmp 172) E D) fun L w=>
   pick P b.1 L (.bool false) w fun R w=>
   Q3 P .add T.e (.tmp 161) (.const (.int .i64 1)) b.2 (.int .i64 1) w fun U w=>
   y (R,U) w) (
   Q3 P .add T.e (.tmp 128) (.const (.int .i64 1)) (I i) (.int .i64 1) w fun C w=>
   (Fi N Q (b.1,C) w∧Nk N (b.1,C)<m0)):=by
 have ak:=g3.max
 refine E8 (a:=Value.bool ok) i (fun k x w'=> ∃Y,Stp w1 σ1 w' Y∧x=Value.bool (ok&&(List.range k).all (Xt c i))) ⟨σ1,Stp.refl Z,by simp⟩ fun k x w2 d hk M=>?_
 obtain ⟨σ2,v,rfl⟩:=M
 have ap:=hq.up v
 have ah:=ac.up v
 have X:=g3.up v
 have ad:=v.sat
 refine Z2 ?_
 refine Q7 (fun W=>?_) (fun W=>?_)
 ·have aa:k<i:=by simpa using W
  have O:k<c.methods.length:=by omega
  have H:(ok&&(List.range (k+1)).all (Xt c i))=((ok&&(List.range k).all (Xt c i))&&Xt c i k):=by rw[La,Bool.and_assoc]
  have hQ:Xt c i k= !decide (c.methods[k].name=c.methods[i].name):=by unfold Xt Ra;rw[C1 O,C1 hi]
  rw[hQ] at H
  obtain ⟨aw,ar,az,p1,_⟩:=X.elM O
  generalize (ok&&(List.range k).all (Xt c i))=ae at H⊢
  clear h hQ W
  cases ae
  all_goals
   refine U2 ad ?_
   (repeat refine J7 Xa ?_)
   (intros;(repeat (rename_i hx;subst hx));(try simp only[↓M2,M2,Mb,reduceIte]))
   rename_i w3 af
   exact J5 (by omega) aa ⟨σ2,v.trans af.stp,by rw[H];rfl⟩
 ·have ab:k=i:=by
   have: ¬k<i:=by simpa using W
   omega
  subst ab
  (try simp only[↓M1,M1,Mb,reduceIte])
  exact h _ _ v
set_option maxHeartbeats 4000000 in
theorem X1S {c:Cla} {lv fv mv:Value} {w1:World} {σ1:Q6} {q:Addr} {ok:Bool} (bu:X2 w1 σ1) (hq:Z4 σ1 q [S c.name,S c.super,lv, .bool c.iface, .bool c.abs, .bool c.fin,fv,mv]) {J:Value→World→Prop} (g3:Sl 7 E4 σ1 mv c.methods)
 (h: ∀w' σ',Stp w1 σ1 w' σ'→J (.bool (ok&&(List.range c.methods.length).all fun i=>Ms c i&&(List.range i).all (Xt c i))) w'):
 lp (α:=Value×Value) (Value.bool ok,(.int .i64 0)) w1 fun X v d_ w=>
  fieldAddr P T.b (.pointer (some q)) 7 w fun a6 w=>
  Q2 P T.j a6 w fun az w=>
  X3 P .len [T.j] T.e [false] [az] w fun bb w=>
  Q3 P .lss T.e (.tmp 123) (.tmp 126) v.2 bb w fun a5 w=>
  X1 a5 (
   fieldAddr P T.b (.pointer (some q)) 7 w fun bj w=>
   Q2 P T.j bj w fun bm w=>
   indexAddr P T.j bm v.2 w fun bh w=>
   Q2 P T.d bh w fun bd w=>
   W0 P T.d w fun t9 w=>
   Y0 P T.d t9 bd w fun _u w=>
   Q0 v.1 true w (Q2 P T.d t9) fun ay w=>
   Q0 v.1 true w (Q1 P F.a4 [ay]) fun bp w=>
   pick P v.1 bp (.bool false) w fun p w=>
   Q0 p true w (fieldAddr P T.d t9 3) fun a0 w=>
   Q0 p true w (Q2 P T.t a0) fun ar w=>
   Q0 p true w (J9 P .not ar) fun bn w=>
   Q0 p true w (fun w J=>J bn w) fun aa w=>
   Q0 aa false w (fieldAddr P T.b (.pointer (some q)) 4) fun a1 w=>
   Q0 aa false w (Q2 P T.t a1) fun a4 w=>
   Q0 p true w (pick P aa (.bool true) a4) fun av w=>
   pick P p av (.bool false) w fun r w=>
   Q0 r true w (fieldAddr P T.b (.pointer (some q)) 3) fun a3 w=>
   Q0 r true w (Q2 P T.t a3) fun bc w=>
   Q0 r true w (J9 P .not bc) fun a8 w=>
   Q0 r true w (fun w J=>J a8 w) fun W w=>
   Q0 W false w (fieldAddr P T.d t9 3) fun a7 w=>
   Q0 W false w (Q2 P T.t a7) fun a2 w=>
   Q0 r true w (pick P W (.bool true) a2) fun be w=>
   pick P r be (.bool false) w fun ax w=>
   lp (α:=Value×Value) (ax,(.int .i64 0)) w fun Y k d_ w=>
    Q3 P .lss T.e (.tmp 158) (.tmp 159) k.2 v.2 w fun ba w=>
    X1 ba (
     dr w fun y Br=>
     Q5 y (fun C=> ∀w:World,Br w→Q0 k.1 true w (fieldAddr P T.b (.pointer (some q)) 7) (dk y C w)) fun C=>
     Q5 y (fun A=> ∀w:World,Br w→Q0 k.1 true w (fun w J=>J k.2 w) (dk y A w)) fun A=>
     Q5 y (fun B=> ∀w:World,Br w→Q0 k.1 true w (fieldAddr P T.d t9 0) (dk y B w)) fun B=>
     Q5 y (fun M=> ∀D:Value,∀w:World,Br w→C D w→Q0 k.1 true w (Q2 P T.j D) (dk y M w)) fun M=>
     Q5 y (fun z=> ∀N:Value,∀L:Value,∀w:World,Br w→M N w→A L w→Q0 k.1 true w (indexAddr P T.j N L) (dk y z w)) fun z=>
     Q5 y (fun E=> ∀Q:Value,∀w:World,Br w→z Q w→Q0 k.1 true w (fieldAddr P T.d Q 0) (dk y E w)) fun E=>
     Q5 y (fun Z=> ∀O:Value,∀w:World,Br w→E O w→Q0 k.1 true w (Q2 P T.c O) (dk y Z w)) fun Z=>
     Q5 y (fun ac=> ∀H:Value,∀w:World,Br w→B H w→Q0 k.1 true w (Q2 P T.c H) (dk y ac w)) fun ac=>
     ∀D:Value,∀L:Value,∀H:Value,∀N:Value,∀Q:Value,∀O:Value,∀ai:Value,∀ah:Value,∀w:World,Br w→C D w→A L w→B H w→M N w→z Q w→E O w→Z ai w→ac ah w→
     Q0 k.1 true w (Q3 P .neq T.c (.tmp 170) (.tmp 172) ai ah) fun bi w=>
     pick P k.1 bi (.bool false) w fun a9 w=>
     Q3 P .add T.e (.tmp 161) (.const (.int .i64 1)) k.2 (.int .i64 1) w fun bo w=>
     Y (a9,bo) w) (
     Q3 P .add T.e (.tmp 128) (.const (.int .i64 1)) v.2 (.int .i64 1) w fun bf w=>
     X (k.1,bf) w)) (
   J v.1 w):=by
 have o:=g3.max
 refine E8 (a:=Value.bool ok) c.methods.length (fun n x w'=> ∃σ',Stp w1 σ1 w' σ'∧x=Value.bool (ok&&(List.range n).all fun i=>Ms c i&&(List.range i).all (Xt c i))) ⟨σ1,Stp.refl bu,by simp⟩ fun n x w2 d b5 bk=>?_
 obtain ⟨σ2,V,rfl⟩:=bk
 have ak:=hq.up V
 have ae:=g3.up V
 have ag:=V.sat
 (repeat refine Hd.h ?_)
 refine ld ag ak rfl ?_
 refine Q8 ae ?_
 refine Z2 ?_
 refine Q7 (fun hc=>?_) (fun hc=>?_)
 ·have f:n<c.methods.length:=by simpa using hc
  have u:(ok&&(List.range (n+1)).all fun i=>Ms c i&&(List.range i).all (Xt c i))=((ok&&(List.range n).all fun i=>Ms c i&&(List.range i).all (Xt c i))&&(Ms c n&&(List.range n).all (Xt c n))):=by rw[La,Bool.and_assoc]
  have hP:Ms c n=(I9 c.methods[n]&&(!c.methods[n].abs||c.abs)&&(!c.iface||c.methods[n].abs)):=by unfold Ms Ra;rw[C1 f]
  obtain ⟨pv,cv,hv,p1,r1⟩:=ae.elM f
  generalize (ok&&(List.range n).all fun i=>Ms c i&&(List.range i).all (Xt c i))=am at u⊢
  clear h hc
  have step: ∀b,b=(am&&Ms c n)→(am&&(Ms c n&&(List.range n).all (Xt c n)))=(b&&(List.range n).all (Xt c n)):=fun b e=>by rw[e,Bool.and_assoc]
  (repeat refine Hd.h ?_)
  refine ld ag ak rfl ?_
  refine Y3 ae f ?_
  refine Y4 ag p1 rfl ?_
  refine Y8 ag (by rfl) rfl (Rep.one r1) fun q9 w3 σ3 ab ao=>?_
  have an:=ab.sat
  have bg:=ak.up ab
  have aq:=ae.up ab
  have r3:=RMe_lift r1 ⟨ab.le⟩
  have aj:=V.trans ab
  cases am with
  | false=>
   (repeat refine Hd.h ?_)
   refine Cm an bg aq f ao fun w4 R l=>?_
   exact J5 o f ⟨R,aj.trans l,by rw[u];rfl⟩
  | true=>
   (repeat refine Hd.h ?_)
   refine Y4 an ao rfl ?_
   (repeat refine Hd.h ?_)
   refine Q8V an r3 fun w5 σ5 ad=>?_
   have m:=ad.sat
   have t:=bg.up ad
   have g:=ao.up ad
   have U:=aq.up ad
   have s:=aj.trans ad
   cases d1:I9 c.methods[n] with
   | false=>
    (repeat refine Hd.h ?_)
    refine Cm m t U f g fun w4 R l=>?_
    exact J5 o f ⟨R,s.trans l,by rw[u,step false (by rw[hP,d1];rfl)]⟩
   | true=>
    (repeat refine Hd.h ?_)
    refine ld m g rfl ?_
    (repeat refine Hd.h ?_)
    have j: ∀b1:Bool,b1=(!c.methods[n].abs||c.abs)→Ms c n=(b1&&(!c.iface||c.methods[n].abs)):=fun b1 e=>by rw[hP,d1,e];rfl
    cases d2:c.methods[n].abs with
    | false=>
     rw[d2] at j g
     simp only[Bool.not_true,Bool.not_false]
     (repeat refine Hd.h ?_)
     refine ld m t rfl ?_
     (repeat refine Hd.h ?_)
     cases d4:c.iface with
     | false=>
      simp only[Bool.not_true,Bool.not_false]
      (repeat refine Hd.h ?_)
      refine Cm m t U f (by rw[d2];exact g) fun w4 R l=>?_
      exact J5 o f ⟨R,s.trans l,by rw[u,step true (by rw[j true rfl,d4];rfl)]⟩
     | true=>
      simp only[Bool.not_true,Bool.not_false]
      (repeat refine Hd.h ?_)
      refine ld m g rfl ?_
      (repeat refine Hd.h ?_)
      refine Cm m t U f (by rw[d2];exact g) fun w4 R l=>?_
      exact J5 o f ⟨R,s.trans l,by rw[u,step false (by rw[j true rfl,d4];rfl)]⟩
    | true=>
     rw[d2] at j g
     simp only[Bool.not_true,Bool.not_false]
     (repeat refine Hd.h ?_)
     refine ld m t rfl ?_
     cases d3:c.abs with
     | false=>
      (repeat refine Hd.h ?_)
      refine Cm m t U f (by rw[d2];exact g) fun w4 R l=>?_
      exact J5 o f ⟨R,s.trans l,by rw[u,step false (by rw[j false (by rw[d3];rfl)];rfl)]⟩
     | true=>
      (repeat refine Hd.h ?_)
      refine ld m t rfl ?_
      (repeat refine Hd.h ?_)
      cases d4:c.iface with
      | false=>
       simp only[Bool.not_true,Bool.not_false]
       (repeat refine Hd.h ?_)
       refine Cm m t U f (by rw[d2];exact g) fun w4 R l=>?_
       exact J5 o f ⟨R,s.trans l,by rw[u,step true (by rw[j true (by rw[d3];rfl),d4];rfl)]⟩
      | true=>
       simp only[Bool.not_true,Bool.not_false]
       (repeat refine Hd.h ?_)
       refine ld m g rfl ?_
       (repeat refine Hd.h ?_)
       refine Cm m t U f (by rw[d2];exact g) fun w4 R l=>?_
       exact J5 o f ⟨R,s.trans l,by rw[u,step true (by rw[j true (by rw[d3];rfl),d4];rfl)]⟩
 ·have f: ¬n<c.methods.length:=by simpa using hc
  obtain rfl:n=c.methods.length:=by omega
  exact h _ _ V
theorem X2A {c:Cla} {H M mv:Value} {w1:World} {σ1:Q6} {q:Addr} {ok:Bool} (d:X2 w1 σ1) (g:Z4 σ1 q [S c.name,S c.super,H, .bool c.iface, .bool c.abs, .bool c.fin,M,mv]) (h:K (.bool (ok&&Q80 c)) w1):
 Q0 (Value.bool ok) true w1 (fieldAddr P T.b (.pointer (some q)) 3) fun t w=>
  Q0 (Value.bool ok) true w (Q2 P T.t t) fun l w=>
  Q0 (Value.bool ok) true w (J9 P .not l) fun v w=>
  Q0 (Value.bool ok) true w (fun w J=>J v w) fun b w=>
  Q0 b false w (fieldAddr P T.b (.pointer (some q)) 4) fun z w=>
  Q0 b false w (Q2 P T.t z) fun p w=>
  Q0 b false w (fun w J=>J p w) fun e w=>
  Q0 e true w (fieldAddr P T.b (.pointer (some q)) 1) fun A w=>
  Q0 e true w (Q2 P T.c A) fun m w=>
  Q0 e true w (Q3 P .eql T.c (.tmp 185) (.const (.string ⟨#[79,98,106,101,99,116]⟩)) m (.string ⟨#[79,98,106,101,99,116]⟩)) fun n w=>
  Q0 b false w (pick P e n (.bool false)) fun y w=>
  Q0 (Value.bool ok) true w (pick P b (.bool true) y) fun j w=>
  pick P (Value.bool ok) j (.bool false) w fun a w=>
  Q0 a true w (fieldAddr P T.b (.pointer (some q)) 4) fun s w=>
  Q0 a true w (Q2 P T.t s) fun u w=>
  Q0 a true w (fun w J=>J u w) fun f w=>
  Q0 f true w (fieldAddr P T.b (.pointer (some q)) 5) fun C w=>
  Q0 f true w (Q2 P T.t C) fun o w=>
  Q0 a true w (pick P f o (.bool false)) fun B w=>
  Q0 a true w (J9 P .not B) fun r w=>
  pick P a r (.bool false) w fun k w=>
  K k w:=by
 unfold Q80 at h
 have L:decide (c.super=U0)=decide (c.super=[79,98,106,101,99,116]):=rfl
 rw[L] at h
 cases ok with
 | false=>(try simp only[↓M1,M1,Mb,reduceIte]);simpa using h
 | true=>
  (try simp only[↓M1,M1,Mb,reduceIte])
  refine ld d g rfl ?_
  (try simp only[↓M1,M1,Mb,reduceIte])
  cases D:c.iface with
  | false=>
   rw[D] at h
   (try simp only[↓M1,M1,Mb,reduceIte])
   refine ld d g rfl ?_
   cases i:c.abs with
   | false=>rw[i] at h;(try simp only[↓M1,M1,Mb,reduceIte]);simpa using h
   | true=>
    rw[i] at h
    (try simp only[↓M1,M1,Mb,reduceIte])
    refine ld d g rfl ?_
    (try simp only[↓M1,M1,Mb,reduceIte])
    simpa using h
  | true=>
   rw[D] at h
   (try simp only[↓M1,M1,Mb,reduceIte])
   refine ld d g rfl ?_
   cases i:c.abs with
   | false=>rw[i] at h;(try simp only[↓M1,M1,Mb,reduceIte]);simpa using h
   | true=>
    rw[i] at h
    (try simp only[↓M1,M1,Mb,reduceIte])
    refine ld d g rfl ?_
    (try simp only[↓M1,M1,Mb,reduceIte])
    cases E:decide (c.super=[79,98,106,101,99,116]) with
    | false=>rw[E] at h;(try simp only[↓M1,M1,Mb,reduceIte]);simpa using h
    | true=>
     rw[E] at h
     (try simp only[↓M1,M1,Mb,reduceIte])
     refine ld d g rfl ?_
     simp only[i,↓M1,M1,Mb,reduceIte]
     refine ld d g rfl ?_
     (try simp only[↓M1,M1,Mb,reduceIte])
     simpa using h
end Go.Proofs.YtjdiakhipmggjaaGreatDoor

namespace Go.Proofs.YtjdiakhipmggjaaGreatDoor
open Go.Emb Go.RowKit Go.Kd Go.Hm
variable {w : World} {K : Value → World → Prop} {σ : Q6}
def Q5n (c:Cla):Bool:=((((M6 c.name&&M6 c.super&& !decide (c.name=c.super))&&(List.range c.like.length).all fun i=>Mq c i&&(List.range i).all (A7 c i))&&(List.range c.fields.length).all fun i=>Dm c i&&(List.range i).all (Xq c i))&&(List.range c.methods.length).all fun i=>Ms c i&&(List.range i).all (Xt c i))&&Q80 c
theorem X0k {α:Type} {f:α→X0}: ∀(xs a:List α),C8 f a xs=true↔(xs.map f).Nodup∧ ∀x∈xs,∀y∈a,f y≠f x:=by
 intro xs
 induction xs with
 | nil=>intro a;simp[C8]
 | cons x r h=>
  intro a
  simp only[C8,Bool.and_eq_true,h,Bool.not_eq_true',List.map_cons,List.nodup_cons]
  rw[←Bool.not_eq_true,List.any_eq_true]
  simp only[decide_eq_true_eq,not_exists,not_and,List.mem_append,List.mem_cons,List.not_mem_nil,or_false,List.mem_map]
  constructor
  ·rintro ⟨g,d,c⟩
   refine ⟨⟨fun y hy e=>c y hy x (.inr rfl) e.symm,d⟩,fun y hy z b=>?_⟩
   rcases hy with rfl | hy
   ·exact g z b
   ·exact c y hy z (.inl b)
  ·rintro ⟨⟨g,d⟩,c⟩
   refine ⟨fun y hy=>c x (.inl rfl) y hy,d,fun y hy z b=>?_⟩
   rcases b with b | rfl
   ·exact c y (.inr hy) z b
   ·exact fun e=>g y hy e.symm
theorem Q0o {α:Type} {f:α→X0} {xs:List α} {p:α→Bool} {P:Nat→Bool} {Q:Nat→Nat→Bool} (e: ∀i (h:i<xs.length),P i=p xs[i]) (d: ∀i (h:i<xs.length) k (o:k<xs.length),Q i k= !decide (f xs[k]=f xs[i])):
 ((List.range xs.length).all fun i=>P i&&(List.range i).all (Q i))=true↔(∀x∈xs,p x=true)∧C8 f [] xs=true:=by
 rw[X0k,List.all_eq_true]
 simp only[List.mem_range,Bool.and_eq_true,List.all_eq_true,List.not_mem_nil,false_implies,implies_true,and_true]
 rw[List.nodup_iff_pairwise_ne,List.pairwise_iff_getElem]
 simp only[List.length_map,List.getElem_map]
 constructor
 ·intro h
  refine ⟨fun x n=>?_,fun i j a c b=>?_⟩
  ·obtain ⟨i,a,rfl⟩:=List.getElem_of_mem n
   rw[←e i a];exact (h i a).1
  ·have:=(h j c).2 i b
   rw[d j c i a] at this
   simpa using this
 ·rintro ⟨m,l⟩ i a
  refine ⟨by rw[e i a];exact m _ (List.getElem_mem a),fun k g=>?_⟩
  rw[d i a k (by omega)]
  simpa using l k i (by omega) a g
theorem X0o (c:Cla):Q5n c=Ni c:=by
 have v:=Q0o (f:=id) (xs:=c.like) (p:=fun y=>M6 y&& !decide (y=c.name)) (P:=Mq c) (Q:=A7 c) (fun i h=>by unfold Mq;rw[C1 h]) (fun i h k l=>by unfold A7;rw[C1 h,C1 l];rfl)
 have g:=Q0o (f:=Fld.name) (xs:=c.fields) (p:=fun f=>D2 f.name&&right f.kind&& !c.iface) (P:=Dm c) (Q:=Xq c) (fun i h=>by unfold Dm Bc;rw[C1 h]) (fun i h k l=>by unfold Xq Bc;rw[C1 h,C1 l])
 have d:=Q0o (f:=Hm.Met.name) (xs:=c.methods) (p:=fun m=>I9 m&&(!m.abs||c.abs)&&(!c.iface||m.abs)) (P:=Ms c) (Q:=Xt c) (fun i h=>by unfold Ms Ra;rw[C1 h]) (fun i h k l=>by unfold Xt Ra;rw[C1 h,C1 l])
 rw[Bool.eq_iff_iff]
 unfold Q5n Ni Q80
 simp only[Bool.and_eq_true,v,g,d]
 simp only[Bool.and_eq_true,Bool.not_eq_true',Bool.or_eq_true,Bool.and_eq_false_iff,Bool.or_eq_false_iff,decide_eq_true_eq,decide_eq_false_iff_not,List.all_eq_true,List.mem_cons,List.any_eq_false,Ej,Bool.not_eq_false']
 constructor
 ·rintro ⟨⟨⟨⟨⟨⟨n,o⟩,s⟩,a,q⟩,h6,t⟩,j,r⟩,b,u⟩
  refine ⟨⟨⟨⟨⟨⟨⟨⟨?_,?_⟩,q⟩,?_⟩,u,?_⟩,t⟩,r⟩,?_⟩,fun m d=>(j m d).1.1⟩
  ·rintro x (rfl | rfl | hx)
   ·exact n
   ·exact o
   ·exact (a x hx).1
  ·rintro x (rfl | hx)
   ·exact s
   ·exact fun e=>(a x hx).2 e.symm
  ·cases z:c.iface with
   | false=>exact .inl rfl
   | true=>
    rw[z] at b h6 j
    have b:=b.resolve_left (by decide)
    refine .inr ⟨⟨b,?_⟩,fun m d e=>?_⟩
    ·rw[List.eq_nil_iff_forall_not_mem]
     intro f g
     exact absurd (h6 f g).2 (by decide)
    ·have:=(j m d).2.resolve_left (by decide)
     rw[this] at e;cases e
  ·cases A:c.abs with
   | true=>exact .inr rfl
   | false=>
    rw[A] at j
    refine .inl fun m d e=>?_
    have:=(j m d).1.2.resolve_right (by decide)
    rw[this] at e;cases e
  ·exact fun f g=>(h6 f g).1
 ·rintro ⟨⟨⟨⟨⟨⟨⟨⟨n,o⟩,s⟩,a⟩,q,h6⟩,t⟩,j⟩,r⟩,b⟩
  refine ⟨⟨⟨⟨⟨⟨n _ (.inl rfl),n _ (.inr (.inl rfl))⟩,o _ (.inl rfl)⟩,fun x hx=>⟨n x (.inr (.inr hx)),fun e=>o x (.inr hx) e.symm⟩,s⟩,fun f g=>⟨r f g,?_⟩,t⟩,fun m d=>⟨⟨b m d,?_⟩,?_⟩,j⟩,?_,q⟩
  ·rcases a with a | ⟨⟨_,a⟩,_⟩
   ·exact a
   ·rw[a] at g;simp at g
  ·rcases h6 with h6 | h6
   ·left;exact eq_false_of_ne_true (h6 m d)
   ·exact .inr h6
  ·rcases a with a | ⟨_,a⟩
   ·exact .inl a
   ·right
    cases hx:m.abs with
    | true=>rfl
    | false=>exact absurd hx (a m d)
  ·rcases a with a | ⟨⟨a,_⟩,_⟩
   ·exact .inl a
   ·exact .inr a
set_option maxHeartbeats 4000000 in
theorem X0c {c:Cla} {cs:List Value} (hs:X2 w σ) (hc:V0 σ c cs) (h: ∀w' σ',Stp w σ w' σ'→K (.bool (Q5n c)) w'):Q1 P F.br [.agg cs.toArray] w K:=Kx (by
 unfold Ns
 obtain ⟨lv,fv,mv,rfl,f1,f2,f3,f4,f5⟩:=hc
 have c8:c.name.length≤140737488355328:=by simp only[U1] at f4;omega
 have cw:c.super.length≤140737488355328:=by simp only[U1] at f5;omega
 refine Y9 hs fun q w1 σ1 bi hq=>?_
 have g1:=f1.up bi
 have g2:=f2.up bi
 have g3:=f3.up bi
 have bm:=bi.sat
 have ci: ∀ok:Bool,ok=(M6 c.name&&M6 c.super&& !decide (c.name=c.super))→_:=fun ok e=>
  X0Y (w1:=w1) (σ1:=σ1) (ok:=ok) bm hq (J:=fun v w=>lp (α:=Value×Value) (v,(.int .i64 0)) w fun b8 o d_ w=>
   fieldAddr P T.b (.pointer (some q)) 6 w fun dc w=>
   Q2 P T.k dc w fun c9 w=>
   X3 P .len [T.k] T.e [false] [c9] w fun c3 w=>
   Q3 P .lss T.e (.tmp 71) (.tmp 74) o.2 c3 w fun cz w=>
   X1 cz (
    Q0 o.1 true w (fieldAddr P T.b (.pointer (some q)) 6) fun da w=>
    Q0 o.1 true w (Q2 P T.k da) fun cu w=>
    Q0 o.1 true w (fun w J=>J o.2 w) fun c1 w=>
    Q0 o.1 true w (indexAddr P T.k cu c1) fun cx w=>
    Q0 o.1 true w (fieldAddr P T.n cx 0) fun c5 w=>
    Q0 o.1 true w (Q2 P T.c c5) fun db w=>
    Q0 o.1 true w (Q1 P F.u [db]) fun cq w=>
    pick P o.1 cq (.bool false) w fun ag w=>
    Q0 ag true w (fieldAddr P T.b (.pointer (some q)) 6) fun ct w=>
    Q0 ag true w (Q2 P T.k ct) fun de w=>
    Q0 ag true w (fun w J=>J o.2 w) fun c0 w=>
    Q0 ag true w (indexAddr P T.k de c0) fun cr w=>
    Q0 ag true w (fieldAddr P T.n cr 1) fun c6 w=>
    Q0 ag true w (Q2 P T.c c6) fun dd w=>
    Q0 ag true w (Q1 P F.e [dd]) fun c4 w=>
    pick P ag c4 (.bool false) w fun cd w=>
    Q0 cd true w (fieldAddr P T.b (.pointer (some q)) 3) fun c7 w=>
    Q0 cd true w (Q2 P T.t c7) fun c2 w=>
    Q0 cd true w (J9 P .not c2) fun co w=>
    pick P cd co (.bool false) w fun ck w=>
    lp (α:=Value×Value) (ck,(.int .i64 0)) w fun b9 l d_ w=>
     Q3 P .lss T.e (.tmp 102) (.tmp 103) l.2 o.2 w fun cj w=>
     X1 cj (
      dr w fun d n=>
      Q5 d (fun aq=> ∀w:World,n w→Q0 l.1 true w (fieldAddr P T.b (.pointer (some q)) 6) (dk d aq w)) fun aq=>
      Q5 d (fun az=> ∀w:World,n w→Q0 l.1 true w (fun w J=>J l.2 w) (dk d az w)) fun az=>
      Q5 d (fun a3=> ∀w:World,n w→Q0 l.1 true w (fieldAddr P T.b (.pointer (some q)) 6) (dk d a3 w)) fun a3=>
      Q5 d (fun a6=> ∀w:World,n w→Q0 l.1 true w (fun w J=>J o.2 w) (dk d a6 w)) fun a6=>
      Q5 d (fun a2=> ∀aw:Value,∀w:World,n w→aq aw w→Q0 l.1 true w (Q2 P T.k aw) (dk d a2 w)) fun a2=>
      Q5 d (fun av=> ∀ax:Value,∀ay:Value,∀w:World,n w→a2 ax w→az ay w→Q0 l.1 true w (indexAddr P T.k ax ay) (dk d av w)) fun av=>
      Q5 d (fun a5=> ∀ar:Value,∀w:World,n w→av ar w→Q0 l.1 true w (fieldAddr P T.n ar 0) (dk d a5 w)) fun a5=>
      Q5 d (fun bs=> ∀a0:Value,∀w:World,n w→a5 a0 w→Q0 l.1 true w (Q2 P T.c a0) (dk d bs w)) fun bs=>
      Q5 d (fun a7=> ∀a8:Value,∀w:World,n w→a3 a8 w→Q0 l.1 true w (Q2 P T.k a8) (dk d a7 w)) fun a7=>
      Q5 d (fun ba=> ∀a4:Value,∀a1:Value,∀w:World,n w→a7 a4 w→a6 a1 w→Q0 l.1 true w (indexAddr P T.k a4 a1) (dk d ba w)) fun ba=>
      Q5 d (fun ap=> ∀ao:Value,∀w:World,n w→ba ao w→Q0 l.1 true w (fieldAddr P T.n ao 0) (dk d ap w)) fun ap=>
      Q5 d (fun bl=> ∀a9:Value,∀w:World,n w→ap a9 w→Q0 l.1 true w (Q2 P T.c a9) (dk d bl w)) fun bl=>
      ∀aw:Value,∀ay:Value,∀a8:Value,∀a1:Value,∀ax:Value,∀ar:Value,∀a0:Value,∀cf:Value,∀a4:Value,∀ao:Value,∀a9:Value,∀cg:Value,∀w:World,n w→aq aw w→az ay w→a3 a8 w→a6 a1 w→a2 ax w→av ar w→a5 a0 w→bs cf w→a7 a4 w→ba ao w→ap a9 w→bl cg w→
      Q0 l.1 true w (Q3 P .neq T.c (.tmp 114) (.tmp 120) cf cg) fun cn w=>
      pick P l.1 cn (.bool false) w fun cl w=>
      Q3 P .add T.e (.tmp 105) (.const (.int .i64 1)) l.2 (.int .i64 1) w fun cp w=>
      b9 (cl,cp) w) (
      Q3 P .add T.e (.tmp 76) (.const (.int .i64 1)) o.2 (.int .i64 1) w fun cy w=>
      b8 (l.1,cy) w)) (
    lp (α:=Value×Value) (o.1,(.int .i64 0)) w fun L f d_ w=>
     fieldAddr P T.b (.pointer (some q)) 7 w fun bq w=>
     Q2 P T.j bq w fun bg w=>
     X3 P .len [T.j] T.e [false] [bg] w fun bx w=>
     Q3 P .lss T.e (.tmp 123) (.tmp 126) f.2 bx w fun bp w=>
     X1 bp (
      fieldAddr P T.b (.pointer (some q)) 7 w fun b5 w=>
      Q2 P T.j b5 w fun b7 w=>
      indexAddr P T.j b7 f.2 w fun b3 w=>
      Q2 P T.d b3 w fun b0 w=>
      W0 P T.d w fun t9 w=>
      Y0 P T.d t9 b0 w fun _u w=>
      Q0 f.1 true w (Q2 P T.d t9) fun bf w=>
      Q0 f.1 true w (Q1 P F.a4 [bf]) fun cc w=>
      pick P f.1 cc (.bool false) w fun j w=>
      Q0 j true w (fieldAddr P T.d t9 3) fun bh w=>
      Q0 j true w (Q2 P T.t bh) fun bb w=>
      Q0 j true w (J9 P .not bb) fun ca w=>
      Q0 j true w (fun w J=>J ca w) fun O w=>
      Q0 O false w (fieldAddr P T.b (.pointer (some q)) 4) fun bj w=>
      Q0 O false w (Q2 P T.t bj) fun bo w=>
      Q0 j true w (pick P O (.bool true) bo) fun bc w=>
      pick P j bc (.bool false) w fun k w=>
      Q0 k true w (fieldAddr P T.b (.pointer (some q)) 3) fun bn w=>
      Q0 k true w (Q2 P T.t bn) fun bz w=>
      Q0 k true w (J9 P .not bz) fun bu w=>
      Q0 k true w (fun w J=>J bu w) fun H w=>
      Q0 H false w (fieldAddr P T.d t9 3) fun br w=>
      Q0 H false w (Q2 P T.t br) fun bk w=>
      Q0 k true w (pick P H (.bool true) bk) fun b1 w=>
      pick P k b1 (.bool false) w fun be w=>
      lp (α:=Value×Value) (be,(.int .i64 0)) w fun M b d_ w=>
       Q3 P .lss T.e (.tmp 158) (.tmp 159) b.2 f.2 w fun bw w=>
       X1 bw (
        dr w fun d n=>
        Q5 d (fun t=> ∀w:World,n w→Q0 b.1 true w (fieldAddr P T.b (.pointer (some q)) 7) (dk d t w)) fun t=>
        Q5 d (fun r=> ∀w:World,n w→Q0 b.1 true w (fun w J=>J b.2 w) (dk d r w)) fun r=>
        Q5 d (fun s=> ∀w:World,n w→Q0 b.1 true w (fieldAddr P T.d t9 0) (dk d s w)) fun s=>
        Q5 d (fun B=> ∀u:Value,∀w:World,n w→t u w→Q0 b.1 true w (Q2 P T.j u) (dk d B w)) fun B=>
        Q5 d (fun p=> ∀C:Value,∀A:Value,∀w:World,n w→B C w→r A w→Q0 b.1 true w (indexAddr P T.j C A) (dk d p w)) fun p=>
        Q5 d (fun y=> ∀E:Value,∀w:World,n w→p E w→Q0 b.1 true w (fieldAddr P T.d E 0) (dk d y w)) fun y=>
        Q5 d (fun N=> ∀D:Value,∀w:World,n w→y D w→Q0 b.1 true w (Q2 P T.c D) (dk d N w)) fun N=>
        Q5 d (fun Q=> ∀z:Value,∀w:World,n w→s z w→Q0 b.1 true w (Q2 P T.c z) (dk d Q w)) fun Q=>
        ∀u:Value,∀A:Value,∀z:Value,∀C:Value,∀E:Value,∀D:Value,∀aa:Value,∀Z:Value,∀w:World,n w→t u w→r A w→s z w→B C w→p E w→y D w→N aa w→Q Z w→
        Q0 b.1 true w (Q3 P .neq T.c (.tmp 170) (.tmp 172) aa Z) fun b4 w=>
        pick P b.1 b4 (.bool false) w fun bv w=>
        Q3 P .add T.e (.tmp 161) (.const (.int .i64 1)) b.2 (.int .i64 1) w fun cb w=>
        M (bv,cb) w) (
        Q3 P .add T.e (.tmp 128) (.const (.int .i64 1)) f.2 (.int .i64 1) w fun b2 w=>
        L (b.1,b2) w)) (
      Q0 f.1 true w (fieldAddr P T.b (.pointer (some q)) 3) fun ak w=>
      Q0 f.1 true w (Q2 P T.t ak) fun ae w=>
      Q0 f.1 true w (J9 P .not ae) fun al w=>
      Q0 f.1 true w (fun w J=>J al w) fun g w=>
      Q0 g false w (fieldAddr P T.b (.pointer (some q)) 4) fun W w=>
      Q0 g false w (Q2 P T.t W) fun ai w=>
      Q0 g false w (fun w J=>J ai w) fun i w=>
      Q0 i true w (fieldAddr P T.b (.pointer (some q)) 1) fun X w=>
      Q0 i true w (Q2 P T.c X) fun ah w=>
      Q0 i true w (Q3 P .eql T.c (.tmp 185) (.const (.string ⟨#[79,98,106,101,99,116]⟩)) ah (.string ⟨#[79,98,106,101,99,116]⟩)) fun R w=>
      Q0 g false w (pick P i R (.bool false)) fun af w=>
      Q0 f.1 true w (pick P g (.bool true) af) fun ac w=>
      pick P f.1 ac (.bool false) w fun a w=>
      Q0 a true w (fieldAddr P T.b (.pointer (some q)) 4) fun aj w=>
      Q0 a true w (Q2 P T.t aj) fun V w=>
      Q0 a true w (fun w J=>J V w) fun m w=>
      Q0 m true w (fieldAddr P T.b (.pointer (some q)) 5) fun Y w=>
      Q0 m true w (Q2 P T.t Y) fun U w=>
      Q0 a true w (pick P m U (.bool false)) fun am w=>
      Q0 a true w (J9 P .not am) fun ab w=>
      pick P a ab (.bool false) w fun ad w=>
      K ad w))) f4 g1 fun w2 σ2 an=>
  X1G (J:=fun v w=>lp (α:=Value×Value) (v,(.int .i64 0)) w fun L f d_ w=>
   fieldAddr P T.b (.pointer (some q)) 7 w fun bq w=>
   Q2 P T.j bq w fun bg w=>
   X3 P .len [T.j] T.e [false] [bg] w fun bx w=>
   Q3 P .lss T.e (.tmp 123) (.tmp 126) f.2 bx w fun bp w=>
   X1 bp (
    fieldAddr P T.b (.pointer (some q)) 7 w fun b5 w=>
    Q2 P T.j b5 w fun b7 w=>
    indexAddr P T.j b7 f.2 w fun b3 w=>
    Q2 P T.d b3 w fun b0 w=>
    W0 P T.d w fun t9 w=>
    Y0 P T.d t9 b0 w fun _u w=>
    Q0 f.1 true w (Q2 P T.d t9) fun bf w=>
    Q0 f.1 true w (Q1 P F.a4 [bf]) fun cc w=>
    pick P f.1 cc (.bool false) w fun j w=>
    Q0 j true w (fieldAddr P T.d t9 3) fun bh w=>
    Q0 j true w (Q2 P T.t bh) fun bb w=>
    Q0 j true w (J9 P .not bb) fun ca w=>
    Q0 j true w (fun w J=>J ca w) fun O w=>
    Q0 O false w (fieldAddr P T.b (.pointer (some q)) 4) fun bj w=>
    Q0 O false w (Q2 P T.t bj) fun bo w=>
    Q0 j true w (pick P O (.bool true) bo) fun bc w=>
    pick P j bc (.bool false) w fun k w=>
    Q0 k true w (fieldAddr P T.b (.pointer (some q)) 3) fun bn w=>
    Q0 k true w (Q2 P T.t bn) fun bz w=>
    Q0 k true w (J9 P .not bz) fun bu w=>
    Q0 k true w (fun w J=>J bu w) fun H w=>
    Q0 H false w (fieldAddr P T.d t9 3) fun br w=>
    Q0 H false w (Q2 P T.t br) fun bk w=>
    Q0 k true w (pick P H (.bool true) bk) fun b1 w=>
    pick P k b1 (.bool false) w fun be w=>
    lp (α:=Value×Value) (be,(.int .i64 0)) w fun M b d_ w=>
     Q3 P .lss T.e (.tmp 158) (.tmp 159) b.2 f.2 w fun bw w=>
     X1 bw (
      dr w fun d n=>
      Q5 d (fun t=> ∀w:World,n w→Q0 b.1 true w (fieldAddr P T.b (.pointer (some q)) 7) (dk d t w)) fun t=>
      Q5 d (fun r=> ∀w:World,n w→Q0 b.1 true w (fun w J=>J b.2 w) (dk d r w)) fun r=>
      Q5 d (fun s=> ∀w:World,n w→Q0 b.1 true w (fieldAddr P T.d t9 0) (dk d s w)) fun s=>
      Q5 d (fun B=> ∀u:Value,∀w:World,n w→t u w→Q0 b.1 true w (Q2 P T.j u) (dk d B w)) fun B=>
      Q5 d (fun p=> ∀C:Value,∀A:Value,∀w:World,n w→B C w→r A w→Q0 b.1 true w (indexAddr P T.j C A) (dk d p w)) fun p=>
      Q5 d (fun y=> ∀E:Value,∀w:World,n w→p E w→Q0 b.1 true w (fieldAddr P T.d E 0) (dk d y w)) fun y=>
      Q5 d (fun N=> ∀D:Value,∀w:World,n w→y D w→Q0 b.1 true w (Q2 P T.c D) (dk d N w)) fun N=>
      Q5 d (fun Q=> ∀z:Value,∀w:World,n w→s z w→Q0 b.1 true w (Q2 P T.c z) (dk d Q w)) fun Q=>
      ∀u:Value,∀A:Value,∀z:Value,∀C:Value,∀E:Value,∀D:Value,∀aa:Value,∀Z:Value,∀w:World,n w→t u w→r A w→s z w→B C w→p E w→y D w→N aa w→Q Z w→
      Q0 b.1 true w (Q3 P .neq T.c (.tmp 170) (.tmp 172) aa Z) fun b4 w=>
      pick P b.1 b4 (.bool false) w fun bv w=>
      Q3 P .add T.e (.tmp 161) (.const (.int .i64 1)) b.2 (.int .i64 1) w fun cb w=>
      M (bv,cb) w) (
      Q3 P .add T.e (.tmp 128) (.const (.int .i64 1)) f.2 (.int .i64 1) w fun b2 w=>
      L (b.1,b2) w)) (
    Q0 f.1 true w (fieldAddr P T.b (.pointer (some q)) 3) fun ak w=>
    Q0 f.1 true w (Q2 P T.t ak) fun ae w=>
    Q0 f.1 true w (J9 P .not ae) fun al w=>
    Q0 f.1 true w (fun w J=>J al w) fun g w=>
    Q0 g false w (fieldAddr P T.b (.pointer (some q)) 4) fun W w=>
    Q0 g false w (Q2 P T.t W) fun ai w=>
    Q0 g false w (fun w J=>J ai w) fun i w=>
    Q0 i true w (fieldAddr P T.b (.pointer (some q)) 1) fun X w=>
    Q0 i true w (Q2 P T.c X) fun ah w=>
    Q0 i true w (Q3 P .eql T.c (.tmp 185) (.const (.string ⟨#[79,98,106,101,99,116]⟩)) ah (.string ⟨#[79,98,106,101,99,116]⟩)) fun R w=>
    Q0 g false w (pick P i R (.bool false)) fun af w=>
    Q0 f.1 true w (pick P g (.bool true) af) fun ac w=>
    pick P f.1 ac (.bool false) w fun a w=>
    Q0 a true w (fieldAddr P T.b (.pointer (some q)) 4) fun aj w=>
    Q0 a true w (Q2 P T.t aj) fun V w=>
    Q0 a true w (fun w J=>J V w) fun m w=>
    Q0 m true w (fieldAddr P T.b (.pointer (some q)) 5) fun Y w=>
    Q0 m true w (Q2 P T.t Y) fun U w=>
    Q0 a true w (pick P m U (.bool false)) fun am w=>
    Q0 a true w (J9 P .not am) fun ab w=>
    pick P a ab (.bool false) w fun ad w=>
    K ad w)) an.sat (hq.up an) (g2.up an) fun w3 σ3 b6=>
  X1S (J:=fun v w=>Q0 v true w (fieldAddr P T.b (.pointer (some q)) 3) fun ak w=>
   Q0 v true w (Q2 P T.t ak) fun ae w=>
   Q0 v true w (J9 P .not ae) fun al w=>
   Q0 v true w (fun w J=>J al w) fun g w=>
   Q0 g false w (fieldAddr P T.b (.pointer (some q)) 4) fun W w=>
   Q0 g false w (Q2 P T.t W) fun ai w=>
   Q0 g false w (fun w J=>J ai w) fun i w=>
   Q0 i true w (fieldAddr P T.b (.pointer (some q)) 1) fun X w=>
   Q0 i true w (Q2 P T.c X) fun ah w=>
   Q0 i true w (Q3 P .eql T.c (.tmp 185) (.const (.string ⟨#[79,98,106,101,99,116]⟩)) ah (.string ⟨#[79,98,106,101,99,116]⟩)) fun R w=>
   Q0 g false w (pick P i R (.bool false)) fun af w=>
   Q0 v true w (pick P g (.bool true) af) fun ac w=>
   pick P v ac (.bool false) w fun a w=>
   Q0 a true w (fieldAddr P T.b (.pointer (some q)) 4) fun aj w=>
   Q0 a true w (Q2 P T.t aj) fun V w=>
   Q0 a true w (fun w J=>J V w) fun m w=>
   Q0 m true w (fieldAddr P T.b (.pointer (some q)) 5) fun Y w=>
   Q0 m true w (Q2 P T.t Y) fun U w=>
   Q0 a true w (pick P m U (.bool false)) fun am w=>
   Q0 a true w (J9 P .not am) fun ab w=>
   pick P a ab (.bool false) w fun ad w=>
   K ad w) b6.sat ((hq.up an).up b6) ((g3.up an).up b6) fun w4 σ4 ch=>
  X2A (K:=K) ch.sat (((hq.up an).up b6).up ch) (by rw[e];exact h _ _ (bi.trans (an.trans (b6.trans ch))))
 (repeat refine Hd.h ?_)
 refine ld bm hq rfl ?_
 refine Yd c.name c8 ?_
 cases d1:M6 c.name with
 | false=>(repeat refine Hd.h ?_);exact ci false (by rw[d1];rfl)
 | true=>
  (repeat refine Hd.h ?_)
  refine ld bm hq rfl ?_
  (repeat refine Hd.h ?_)
  refine Yd c.super cw ?_
  cases d2:M6 c.super with
  | false=>(repeat refine Hd.h ?_);exact ci false (by rw[d1,d2];rfl)
  | true=>
   (repeat refine Hd.h ?_)
   refine ld bm hq rfl ?_
   (repeat refine Hd.h ?_)
   refine ld bm hq rfl ?_
   (repeat refine Hd.h ?_)
   refine Wl ?_
   (repeat refine Hd.h ?_)
   exact ci _ (by rw[d1,d2];rfl))
theorem Q3T {c:Cla} {cs:List Value} (n:X2 w σ) (d:V0 σ c cs) (h: ∀w' l,Stp w σ w' l→K (I (D0 c)) w'):Q1 P F.bp [.agg cs.toArray] w K:=Kt (by
 unfold Mf
 have f:=Rep.one (R:=V0) d
 obtain ⟨k,t,mv,rfl,p,r,o,m,s⟩:=d
 have d:V0 σ c _:=⟨k,t,mv,rfl,p,r,o,m,s⟩
 refine Y9 n fun q w1 σ1 b j=>?_
 unfold D0 at h
 refine Y4 b.sat j rfl ?_
 refine X14 b.sat (RCl_lift d ⟨b.le⟩) fun z u a=>?_
 cases i:Zu c with
 | true=>simp only[i,if_true] at h;(try simp only[↓M1,M1,Mb,reduceIte]);exact h _ _ (b.trans a)
 | false=>
  simp only[i,Bool.false_eq_true,if_false] at h
  (try simp only[↓M1,M1,Mb,reduceIte])
  refine Y4 a.sat (j.up a) rfl ?_
  refine X0c a.sat (RCl_lift d ⟨(b.trans a).le⟩) fun y v e=>?_
  rw[X0o]
  cases g:Ni c with
  | true=>simp only[g,if_true] at h;(try simp only[↓M1,M1,Mb,reduceIte]);exact h _ _ (b.trans (a.trans e))
  | false=>simp only[g,Bool.false_eq_true,if_false] at h;(try simp only[↓M1,M1,Mb,reduceIte]);exact h _ _ (b.trans (a.trans e)))
end Go.Proofs.YtjdiakhipmggjaaGreatDoor

namespace Go.Hm
open Go.Kd
structure Alike (l m : List Cla) : Prop where
  lk : lk l = lk m
  len : l.length = m.length
  weigh : weigh l [] = weigh m []
section
variable {l m : List Cla} (h : Alike l m)
include h
end
theorem X27 {l:List Cla} {frm:Nat}: ∀(f:Nat) (a:List Nat) (i:Nat),∀y∈A5 l frm f a i,y∈a∨frm≤y:=by
 intro f
 induction f with
 | zero=>intro a i y hy;exact .inl hy
 | succ f c=>
  intro a i y hy
  simp only[A5] at hy
  split at hy
  ·exact .inl hy
  ·split at hy
   ·exact .inl hy
   ·rename_i e _
    rcases List.mem_append.1 hy with hy | hy
    ·exact Ll (p:=fun y=>frm≤y) _ _ (fun b x _ z d=>c b _ z d) y hy
    ·simp at hy;omega
theorem X0L {a:List Cla} (g:T5 a): ∀j∈V8 a 8,8≤j∧j<a.length:=by
 intro j c
 unfold V8 at c
 have i:=Ll (p:=fun y=>8≤y) _ _ (fun b x _ z d=>X27 _ b x z d) j c
 have e:=Ll (p:=fun y=>y<a.length) _ _ (fun b x f z d=>(Q5a g (by omega) _ b x (by
  have:=List.mem_of_mem_drop f
  simpa using this) z d).imp id (·.1)) j c
 exact ⟨i.resolve_left (by simp),e.resolve_left (by simp)⟩
end Go.Hm
namespace Go.Proofs.YtjdiakhipmggjaaGreatDoor
open Go.Emb Go.RowKit Go.Kd Go.Hm
end Go.Proofs.YtjdiakhipmggjaaGreatDoor
