/- Parts of a proof about the given program: its functions as texts of their own, what each computes, plain laws of that. The conditions of each stand in its statement. -/
import Derived.Test.YtjdiakhipmggjaaGreatDoorB4
import Derived.Laws.OwnMore
import Derived.Laws.CopyRow
import Derived.Test.YtjdiakhipmggjaaGreatDoorB3
import Derived.Lib.TrimUEq
set_option linter.unnecessarySimpa false
set_option linter.defProp false
set_option linter.unusedSectionVars false
set_option linter.unusedVariables false
set_option linter.unusedSimpArgs false
namespace Go.Proofs.YtjdiakhipmggjaaGreatDoor
open Go.Emb Go.RowKit Go.Kd Go.Hm
variable {w w' : World} {K : Value → World → Prop} {σ σ' : Q6} {hp tv : Value} {room : Int} {cs : List Cel} {l : List Cla}
theorem Q3G (t:X2 w σ) (r:Glb σ) (hh:B8 σ hp tv room cs) (m:Tab σ tv l) (ok:Ok l) {v:Val} {k:X0} (j:v.s.length≤U0) (o:k.length≤U0) (h: ∀w' σ',Stp w σ w' σ'→K (.bool (F2 W8 l cs v k)) w'):Q1 P F.a8 [hp, .agg [I v.sort,I v.n,S v.s,I v.ref].toArray,S k] w K:=Q13 (by
 unfold Hc
 refine Y9 t fun q w1 σ1 c u=>?_
 refine Y5 c.sat u rfl ?_
 refine X4z c.sat (r.lift ⟨c.le⟩) (hh.lift ⟨c.le⟩) j fun C D f=>?_
 have b:=c.trans f
 refine Ja ?_
 unfold F2 at h
 have d:=X2d hh v
 generalize P4 W8 cs v=p at*
 by_cases e:p=[]
 ·rw[decide_eq_true e] at h⊢
  (try simp only[↓M1,M1,Mb,reduceIte])
  exact h _ _ b
 ·rw[decide_eq_false e] at h⊢
  obtain ⟨a,A,rfl,i,y⟩:=hh
  (try simp only[↓M1,M1,Mb,reduceIte])
  refine ld b.sat (i.lift ⟨b.le⟩) rfl ?_
  refine X3U b.sat (m.lift ⟨b.le⟩) ok d o fun B z g=>?_
  (try simp only[↓M1,M1,Mb,reduceIte])
  exact h _ _ (b.trans g))
theorem Q9S (A:X2 w σ) (hh:B8 σ hp tv room cs) (v:Tab σ tv l) (ok:Ok l) {k:X0} {n:Value} {i:Nat} (y:k.length≤U0) (E:n.cells= #[n]∧n.oneCell'=true) (o:elem k=[]→i<(Y4 l k).length)
 (h: ∀w' σ',Stp w σ w' σ'→K (S (Xl l k i)) w'):Q1 P F.aF [hp, .agg [S k,n].toArray,I i] w K:=Q0H (by
 unfold Ey
 refine Y9 A fun q w1 σ1 d s=>?_
 (try simp only[↓M1,M1,Mb,reduceIte])
 refine X7 d.sat s rfl ?_
 refine Q6w k (Nat.le_trans y (by decide)) fun N r=>?_
 have b:=Stp.of_below d.sat r
 have c:=d.trans b
 refine Ja ?_
 unfold Xl at h
 by_cases e:elem k=[]
 ·simp only[if_pos e] at h
  rw[decide_eq_true e]
  (try simp only[↓M1,M1,Mb,reduceIte])
  obtain ⟨a,L,rfl,t,Q⟩:=hh
  have p:=b.sat
  have C:=s.up b
  have u:=t.lift ⟨c.le⟩
  refine U2 p ?_
  (repeat refine Z8 Qd ?_)
  (intros;(repeat (rename_i D;subst D));(try simp only[↓M2,M2,Mb,reduceIte]))
  rename_i M m
  have f:=c.trans m.stp
  refine Rv m.sat (v.lift ⟨f.le⟩) ok.acy ok.len ok.sm fun O J H j g=>?_
  refine Y2 g (o e) ?_
  obtain ⟨z,_⟩:=g.elF (o e)
  (try simp only[↓M1,M1,Mb,reduceIte])
  refine ld j.sat z rfl ?_
  have B:(Y4 l k).getD i Fld.zero=(Y4 l k)[i]'(o e):=by rw[List.getD_eq_getElem?_getD,List.getElem?_eq_getElem (o e)];rfl
  rw[B] at h
  exact h _ _ (f.trans j)
 ·simp only[if_neg e] at h
  rw[decide_eq_false e]
  (try simp only[↓M1,M1,Mb,reduceIte])
  exact h _ _ c)
set_option maxHeartbeats 1000000 in
theorem Q4F {w1:World} {q:Addr} {c:Cel} {vv:Value} (hk1:Stp w σ w1 σ') (hg:Glb σ) (hh:B8 σ hp tv room cs) (ht:Tab σ tv l) (ok:Ok l) (hq:Z6 σ' q [S c.kind,vv]) (hv1:Sl 4 O9 σ' vv c.vals) (hkl:c.kind.length≤U0) (hfk: ∀i,(Xl l c.kind i).length≤U0) (good:GoodC W8 l cs c) (h: ∀w' σ',Stp w σ w' σ'→K (.bool true) w'):
 lp (α:=Value) (.int .i64 0) w1 fun again6 x6 d_ w=>
  Q3 P .lss T.e (.tmp 38) (.tmp 37) x6 (I c.vals.length) w fun t39 w=>
  X1 t39 (
   indexAddr P T.l vv x6 w fun t41 w=>
   Q2 P T.f t41 w fun t42 w=>
   V8 P T.f w fun v_v_6 w=>
   Y0 P T.f v_v_6 t42 w fun _u w=>
   dr w fun Tr Br=>
   Q5 Tr (fun φ44=> ∀w,Br w→Q2 P T.f v_v_6 w (dk Tr φ44 w)) fun φ44=>
   Q5 Tr (fun φ46=> ∀w,Br w→Q2 P T.o (.pointer (some q)) w (dk Tr φ46 w)) fun φ46=>
   Q5 Tr (fun φ48=> ∀t46 w,Br w→φ46 t46 w→Q1 P F.aF [hp,t46,x6] w (dk Tr φ48 w)) fun φ48=>
   ∀t44 t46 t48 w,Br w→φ44 t44 w→φ46 t46 w→φ48 t48 w→
   Q1 P F.a8 [hp,t44,t48] w fun t49 w=>
   J8 P .not t49 w fun t50 w=>
   X1 t50 (
    K (.bool false) w) (
    Q3 P .add T.e (.tmp 38) (.const (.int .i64 1)) x6 (.int .i64 1) w fun t51 w=>
    again6 t51 w)) (
   dr w fun Tr Br=>
   Q5 Tr (fun φ53=> ∀w,Br w→nilCheck P hp w (dk Tr φ53 w)) fun φ53=>
   Q5 Tr (fun φ54=> ∀t53 w,Br w→φ53 t53 w→fieldAddr P T.p t53 0 w (dk Tr φ54 w)) fun φ54=>
   Q5 Tr (fun φ56=> ∀w,Br w→fieldAddr P T.o (.pointer (some q)) 0 w (dk Tr φ56 w)) fun φ56=>
   Q5 Tr (fun φ55=> ∀t54 w,Br w→φ54 t54 w→Q2 P T.r t54 w (dk Tr φ55 w)) fun φ55=>
   Q5 Tr (fun φ57=> ∀t56 w,Br w→φ56 t56 w→Q2 P T.c t56 w (dk Tr φ57 w)) fun φ57=>
   ∀t53 t54 t56 t55 t57 w,Br w→φ53 t53 w→φ54 t54 w→φ56 t56 w→φ55 t55 w→φ57 t57 w→
   Q1 P F.s [t55,t57] w fun t58 w=>
   K t58 w):=by
 have hone:vv.cells= #[vv]∧vv.oneCell'=true:=by obtain ⟨a,c,rfl,_⟩:=hv1;exact ⟨rfl,rfl⟩
 refine U3 c.vals.length (fun n w'=> ∃σ2,Stp w σ w' σ2∧SLe σ' σ2) ⟨σ',hk1,SLe.refl _⟩ fun n w2 d hn hinv=>?_
 obtain ⟨σ2,hS2,le2⟩:=hinv
 have hv2:=hv1.lift le2
 have hq2:=hq.lift le2
 have hh2:=hh.lift ⟨hS2.le⟩
 have ht2:=ht.lift ⟨hS2.le⟩
 refine Z2 ?_
 refine Q7 (fun hc=>?_) (fun hc=>?_)
 ·have hn':n<c.vals.length:=by simpa using hc
  obtain ⟨p1,r1⟩:=Sl.elV hv2 hn'
  refine Y2 hv2 hn' ?_
  refine Y5 hS2.sat p1 rfl ?_
  refine Y7 hS2.sat (by rfl) rfl (Rep.one r1) fun q3 w3 σ3 hk3 hq3=>?_
  have hS3:=hS2.trans hk3
  have hs3:=hk3.sat
  have hq23:=hq2.up hk3
  have hh3:=hh2.lift ⟨hk3.le⟩
  have ht3:=ht2.lift ⟨hk3.le⟩
  have hif:elem c.kind=[]→n<(Y4 l c.kind).length:=fun e=>by
   rcases good.is with h | h
   ·exact absurd e h
   ·rw[←h.2];exact hn'
  refine U2 hs3 ?_
  (repeat (apply Z8;(· intros;(repeat (rename_i hx;subst hx));(repeat' (first | (with_reducible exact L1 rfl) | (with_reducible exact S3 (Stp.bel (by (repeat (first | exact Stp.refl (by (first | assumption | exact Stp.sat (by assumption) | exact Hst.sat (by assumption))) | assumption | refine Stp.trans ?_ (by first | assumption | exact Hst.stp (by assumption)))))) rfl) | (with_reducible intro _) | (simp only[↓M2,M2,Mb,reduceIte]) | (with_reducible show Q2 _ _ _ _ _;first | refine X7 aS aL aR ?_ | refine Y5 aS aL aR ?_ | refine ld aS aL aR ?_) | (with_reducible show indexAddr _ _ _ _ _ _;refine Y2 aL au ?_) | (with_reducible show X3 _ _ _ _ _ _ _ _;refine Q8 aL ?_) | (with_reducible show F5 _ _ _ _ _ _;refine J4 aR ?_) | (with_reducible show pick _ _ _ _ _ _;refine M3 ?_) | (with_reducible show Q1 _ _ _ _ _;first | refine Q9S au au au au au au au ?_) | (apply G2;intro hh;(try simp only[hh,reduceIte,↓M2,M2,Mb,reduceIte]))));done)))
  (intros;(repeat (rename_i hx;subst hx));(try simp only[↓M2,M2,Mb,reduceIte]))
  rename_i w4 hb4
  have hS4:=hS3.trans hb4.stp
  refine Q3G hb4.sat (hg.lift ⟨hS4.le⟩) (hh.lift ⟨hS4.le⟩) (ht.lift ⟨hS4.le⟩) ok r1.2.2.2.1 (hfk n) fun w5 σ5 hk5=>?_
  rw[good.fits n hn']
  (try simp only[↓M1,M1,Mb,reduceIte])
  exact Y6 hv1.max hn' ⟨σ5,hS4.trans hk5,le2.more ⟨(hk3.trans (hb4.stp.trans hk5)).le⟩⟩
 ·obtain ⟨a,lv,rfl,la,ls⟩:=hh2
  have hs2:=hS2.sat
  refine U2 hs2 ?_
  (repeat refine Z8 Qd ?_)
  (intros;(repeat (rename_i hx;subst hx));(try simp only[↓M2,M2,Mb,reduceIte]))
  rename_i w3 hb3
  refine Q0L hb3.sat ht2 hkl fun w4 σ4 hk4=>?_
  rw[good.kd]
  exact h _ _ ((hS2.trans hb3.stp).trans hk4)
set_option maxHeartbeats 1000000 in
theorem X0D (hs:X2 w σ) (hg:Glb σ) (hh:B8 σ hp tv room cs) (ht:Tab σ tv l) (ok:Ok l) {c:Cel} {ds:List Value} (hc:S1 σ c ds) (hfk: ∀i,(Xl l c.kind i).length≤U0) (good:GoodC W8 l cs c) (h: ∀w' σ',Stp w σ w' σ'→K (.bool true) w'):Q1 P F.bD [hp, .agg ds.toArray] w K:=Aq (by
 obtain ⟨vv,rfl,hvv,hkl⟩:=hc
 have hone:vv.cells= #[vv]∧vv.oneCell'=true:=by obtain ⟨a,c,rfl,_⟩:=hvv;exact ⟨rfl,rfl⟩
 have hh0:=hh
 obtain ⟨a,lv,rfl,la,ls⟩:=hh
 unfold Dk
 refine Y9 hs fun q w1 σ1 hk1 hq=>?_
 have hs1:=hk1.sat
 have la1:=la.lift ⟨hk1.le⟩
 have ht1:=ht.lift ⟨hk1.le⟩
 have hv1:=hvv.up hk1
 have hkl':c.kind.length≤140737488355328:=Nat.le_trans hkl (by decide)
 have acy:=ok.acy
 have olen:=ok.len
 have osm:=ok.sm
 refine U2 hs1 ?_
 (repeat (apply Z8;(· intros;(repeat (rename_i hx;subst hx));(repeat' (first | (with_reducible exact L1 rfl) | (with_reducible exact S3 (Stp.bel (by (repeat (first | exact Stp.refl (by (first | assumption | exact Stp.sat (by assumption) | exact Hst.sat (by assumption))) | assumption | refine Stp.trans ?_ (by first | assumption | exact Hst.stp (by assumption)))))) rfl) | (with_reducible intro _) | (simp only[↓M2,M2,Mb,reduceIte]) | (with_reducible show Q2 _ _ _ _ _;first | refine X7 aS aL aR ?_ | refine Y5 aS aL aR ?_ | refine ld aS aL aR ?_) | (with_reducible show indexAddr _ _ _ _ _ _;refine Y2 aL au ?_) | (with_reducible show X3 _ _ _ _ _ _ _ _;refine Q8 aL ?_) | (with_reducible show F5 _ _ _ _ _ _;refine J4 aR ?_) | (with_reducible show pick _ _ _ _ _ _;refine M3 ?_) | (with_reducible show Q1 _ _ _ _ _;first | refine Q6w _ au (L3 aS ?_)) | (apply G2;intro hh;(try simp only[hh,reduceIte,↓M2,M2,Mb,reduceIte]))));done)))
 by_cases e:elem c.kind=[]
 ·have hd:decide (elem c.kind=[])=true:=decide_eq_true e
  obtain ⟨hobj,hlen⟩:A5 l c.kind=true∧c.vals.length=(Y4 l c.kind).length:=by
   rcases good.is with h | h
   ·exact absurd e h
   ·exact h
  simp only[hd,reduceIte]
  (repeat (apply Z8;(· intros;(repeat (rename_i hx;subst hx));(repeat' (first | (with_reducible exact L1 rfl) | (with_reducible exact S3 (Stp.bel (by (repeat (first | exact Stp.refl (by (first | assumption | exact Stp.sat (by assumption) | exact Hst.sat (by assumption))) | assumption | refine Stp.trans ?_ (by first | assumption | exact Hst.stp (by assumption)))))) rfl) | (with_reducible intro _) | (simp only[↓M2,M2,Mb,reduceIte]) | (with_reducible show Q2 _ _ _ _ _;first | refine X7 aS aL aR ?_ | refine Y5 aS aL aR ?_ | refine ld aS aL aR ?_) | (with_reducible show indexAddr _ _ _ _ _ _;refine Y2 aL au ?_) | (with_reducible show X3 _ _ _ _ _ _ _ _;refine Q8 aL ?_) | (with_reducible show F5 _ _ _ _ _ _;refine J4 aR ?_) | (with_reducible show pick _ _ _ _ _ _;refine M3 ?_) | (with_reducible show Q1 _ _ _ _ _;first | refine Q4p au au ?_) | (apply G2;intro hh;(try simp only[hh,reduceIte,↓M2,M2,Mb,reduceIte]))));done)))
  simp only[hobj,Bool.not_true,reduceIte]
  (repeat refine Z8 Qd ?_)
  refine Wh (w:=w1) (σ:=σ1) (Φ:=fun σ' v=>Sl 3 R9 σ' v (Y4 l c.kind)) (fun t20 t27 t29 w hb e1 e2 e3=>?_) ?_
  ·subst e1;subst e2;subst e3
   simp only[↓M2,M2,Mb,reduceIte]
   exact Rv hb.sat ht1 acy olen osm fun v' w' σ' hk hv'=>Rx hb hk hv'
  refine Z8 (V:=I (Y4 l c.kind).length) (fun t20 t30 w hb e1 e2=>?_) ?_
  ·subst e1
   obtain ⟨σ',hk,hv'⟩:=e2
   simp only[↓M2,M2,Mb,reduceIte]
   exact Q8 hv' (L1 rfl)
  rintro t7 t8 t9 t10 t12 t13 t14 t16 t15 t17 t18 t19 t20 t21 t24 t25 t26 t28 t22 t23 t27 t29 t30 t31 w2 hb2 rfl rfl rfl rfl rfl rfl rfl rfl rfl rfl rfl rfl rfl rfl rfl rfl rfl rfl rfl rfl rfl rfl _ rfl
  rw[hlen]
  simp only[O4,E2,S4,W5,W9]
  refine Qx ?_
  rw[decide_eq_true (show ((Y4 l c.kind).length:Int)=(Y4 l c.kind).length from rfl)]
  simp only[Bool.not_true,L2,M6,M5]
  refine W6 ?_
  refine ld hb2.sat hq rfl ?_
  refine Q8 hv1 ?_
  exact Q4F (hk1.trans hb2.stp) hg hh0 ht ok hq hv1 hkl hfk good h
 ·have hd:decide (elem c.kind=[])=false:=decide_eq_false e
  simp only[hd,Bool.false_eq_true,reduceIte]
  (repeat refine Z8 Qd ?_)
  (intros;(repeat (rename_i hx;subst hx)))
  rename_i w2 hb2
  simp only[O4,E2,S4,W5,W9,L2,M6,M5]
  refine W6 ?_
  refine ld hb2.sat hq rfl ?_
  refine Q8 hv1 ?_
  exact Q4F (hk1.trans hb2.stp) hg hh0 ht ok hq hv1 hkl hfk good h)
end Go.Proofs.YtjdiakhipmggjaaGreatDoor

namespace Go.Emb
open Go.RowKit Go.Hm
variable {P : Program} {w w0 w1 w' w'' : World} {K : Value → World → Prop} {σ σ0 σ1 σ' : Q6}
theorem Q58 (a:Array Value) (n i:Nat) (d:i<n) (g:0<a.size):((madeCells a (n*a.size)).toList.drop (i*a.size)).take a.size=a.toList:=by
 have e:i*a.size+a.size≤n*a.size:=by rw[←Nat.succ_mul];exact Nat.mul_le_mul_right _ d
 refine List.ext_getElem (by simp[madeCells];omega) fun j f c=>?_
 have b:j<a.size:=by simpa using c
 simp only[List.getElem_take,List.getElem_drop,madeCells,Array.toList_map,List.getElem_map,Array.toList_range,List.getElem_range,Array.getElem_toList]
 have:(i*a.size+j) % a.size=j:=by rw[Nat.add_comm,Nat.add_mul_mod_self_right];exact Nat.mod_eq_of_lt b
 rw[this]
 simp[b]
theorem X3z {α:Type} {R:Q6→α→List Value→Prop} {t e:TypeId} {sz a n:Nat} {z:Value} [ts:TS P t e] [tz:TZ P e sz a z] (x0:α) (s:X2 w σ) (u:z.cells.size=sz) (d:0<sz) (A:R σ x0 z.cells.toList) (C:n*sz≤16777216) (D:a*n≤281474976710656)
 (h: ∀v w',Stp w σ w' σ→V6 w.heap.size e sz R σ w' v (List.replicate n x0)→(∀k,v.ownBlock=some k→w.heap.size≤k)→K v w'):Dq P t (I n) (I n) w K:=by
 obtain ⟨i,B,c,o,b⟩:=tz.info
 have g:(i.bytes:Int)*(n:Int)≤281474976710656:=by
  rw[o]
  have:((a*n:Nat):Int)≤281474976710656:=by omega
  rwa [Int.natCast_mul] at this
 have y:n≤16777216:=by
  have:n*1≤n*sz:=Nat.mul_le_mul_left _ d
  omega
 have q:=run_makeSlice (P:=P) w t e i z ts.h B b .i64 .i64 (n:Int) (n:Int) (by omega) (Int.le_refl _) (by rw[c];simp only[Int.toNat_natCast];omega) g (by omega)
 unfold Dq
 rw[X9 q]
 simp only[Int.toNat_natCast,c]
 refine h _ _ (Stp.own s _) ⟨(madeCells z.cells (n*sz)).toList,⟨by simp[madeCells], .inr ⟨w.heap.size,n,madeCells z.cells (n*sz),?_,Nat.le_refl _,heap_alloc_new w _,?_,?_,?_,?_⟩⟩,?_,fun j x f=>?_⟩ ?_
 ·simp
 ·simp
 ·simp[maxLen];omega
 ·simp[madeCells]
 ·rw[List.take_of_length_le (by simp[madeCells])]
 ·intro k m;cases m;exact s.none (Nat.le_refl _)
 ·have r:j<n:=by have:=(List.getElem?_eq_some_iff.1 f).1;simpa using this
  have p:x=x0:=by
   rw[List.getElem?_replicate] at f
   rw[if_pos r] at f
   exact (Option.some.inj f).symm
  subst p
  subst u
  rw[Q58 z.cells n j r d]
  exact A
 ·intro k m;cases m;exact Nat.le_refl _
end Go.Emb
namespace Go.Proofs.YtjdiakhipmggjaaGreatDoor
open Go.Emb Go.RowKit Go.Kd Go.Hm
variable {w w' : World} {K : Value → World → Prop} {σ σ' : Q6} {hp tv : Value} {room : Int} {cs : List Cel} {l : List Cla}
theorem Q2F (ok:Ok l) {k:X0} (d:k.length≤U0) (i:Nat):(Xl l k i).length≤U0:=by
 unfold Xl
 split
 ·cases h:(Y4 l k)[i]? with
  | none=>rw[List.getD_eq_getElem?_getD,h];exact Nat.zero_le _
  | some f=>
   rw[List.getD_eq_getElem?_getD,h]
   have a:=List.mem_of_getElem? h
   unfold Y4 at a
   obtain ⟨c,b,a⟩:=List.mem_flatMap.1 a
   have:=((ok.nm c (Bi (by simpa using b))).2.1 f a).2
   exact Nat.le_trans this (by decide)
 ·unfold elem
  split
  ·unfold Kd.cutA;rw[List.length_take];omega
  ·exact Nat.zero_le _
theorem X2n (B:X2 w σ) (z:Glb σ) (hh:B8 σ hp tv room cs) (v:Tab σ tv l) (ok:Ok l) (g: ∀c∈cs,GoodC W8 l cs c) (h: ∀w' σ',Stp w σ w' σ'→K (.bool true) w'):Q1 P F.bB [hp] w K:=Q0f (by
 unfold Oz
 have m:=hh
 obtain ⟨a,L,rfl,t,D⟩:=hh
 refine U6 B rfl fun q w1 σ1 b s=>?_
 refine X7 b.sat s rfl ?_
 rw[M0,fa]
 refine ld b.sat (t.lift ⟨b.le⟩) rfl ?_
 rw[Qh]
 refine Bc (fun _=>false) b.sat (D.up b) (fun c ds C K u j r f A=>Z9 (first:=[]) (caps:=[.pointer (some q)]) (Ih ?_)) fun C k=>?_
 ·unfold Lu
  refine Y9 j fun J M y d o=>?_
  refine X7 d.sat (s.up d) rfl ?_
  refine Y5 d.sat o f ?_
  have e:SLe σ y:=SLe.more ⟨b.le⟩ ⟨d.le⟩
  refine X0D d.sat (z.lift e) (m.lift e) (v.lift e) ok (X0d r ⟨d.le⟩) (fun i=>Q2F ok (by obtain ⟨_,_,_,h⟩:=r;exact h) i) (g c u) fun H E p=>?_
  refine Wg ?_
  exact A _ (d.trans p).bel
 ·have n:=b.trans (Stp.of_below b.sat k)
  have:cs.any (fun _=>false)=false:=by simp
  rw[this]
  refine Wg ?_
  exact h _ _ n)
theorem X2P {B:Nat} {D:Nat→Prop} {m v:Value} {vals:List Val} {k:X0} {ty:TypeId} {cb:List Bool} {A:Value→Value→World→Prop} (hs:X2 w σ) (hB:B≤w.heap.size) (h:RowsIs B D σ w m cs) (J:J9 B T.f 4 O9 σ w v vals) (hd: ∀j,v.ownBlock=some j→ ¬D j) (hk:k.length≤U0) (hl:cs.length≤10000000)
 (hh: ∀s d w' σ' D',Nxt (fun j=>m.ownBlock=some j) w σ w' σ'→(∀j,m.ownBlock=some j→D j)→RowsIs B D' σ' w' d (cs++[⟨k,vals⟩])→(∀j,D' j→D j∨v.ownBlock=some j∨w.heap.size≤j)→(∀j,D j→m.ownBlock≠some j→D' j)→A s d w'):
 buildSlice P T.g 1 [(0, .agg #[S k,v])] w (fun s w=>X3 P .append [T.g,T.g] ty cb [m,s] w (fun v' w=>A s v' w)):=by
 obtain ⟨vs,hq,n,ha,hD⟩:=h.ex
 obtain ⟨a,Y,y,_⟩:=(id J:J9 B T.f 4 O9 σ w v vals)
 have ah:v.cells= #[v]:=by rw[y];rfl
 refine T4 (R:=Q46) (sz:=2) hs [.agg #[S k,v]] [(k,v)] rfl rfl (by simp[Value.cells]) rfl ⟨(⟨rfl,hk,a,_,Y,y⟩:Q46 σ (k,v) [S k,v]),trivial⟩ fun s w1 σ1 c Q=>?_
 refine Q8j c.sat (Nat.le_trans hB c.bel.size) (hq.up c) Q rfl (by rw[Du n.1];simp;omega) (by rw[Du n.1];simp;omega) fun d H U L X M=>?_
 have f: ∀j,m.ownBlock=some j→D j:=fun j b=>(hD j).2 ⟨m,by simp,b⟩
 have W:Nxt (fun j=>m.ownBlock=some j) w σ H σ1:=
  ⟨(Kpt.of_below c.bel).trans (U.mono fun j _ b=>b.1),⟨c.le⟩,c.old,L⟩
 have z: ∀j,v.ownBlock=some j→m.ownBlock≠some j:=fun j b e=>hd j b (f j e)
 have g: ∀j,d.ownBlock=some j→m.ownBlock=some j∨w1.heap.size≤j:=fun j b=>by
  rcases M with ⟨a',ac,e1,e2⟩ | ⟨_,hn⟩
  ·left;rw[e1];rw[e2] at b;cases a'<;>exact b
  ·exact .inr (hn j b)
 obtain ⟨t,Z⟩:=List.pairwise_cons.1 ha
 have E: ∀i (p:i<vs.length) (r:i<cs.length),J9 B T.f 4 O9 σ1 H vs[i] cs[i].vals:=fun i p r=>(n.2 i p r).nx W fun j b e=>t _ (List.getElem_mem p) j e b
 have O:J9 B T.f 4 O9 σ1 H v vals:=J.nx W fun j b e=>z j b e
 have N: ∀u∈vs,∀j,u.ownBlock=some j→j<w.heap.size:=fun u hu j b=>by
  obtain ⟨i,p,rfl⟩:=List.getElem_of_mem hu
  exact ((n.2 i p (by rw[←n.1];exact p)).mem b).2.1
 refine hh s d H σ1 (fun j=> ∃u∈d::(vs++[v]),u.ownBlock=some j) W f ⟨vs++[v],?_,⟨by simp[n.1],fun i p r=>?_⟩,?_,fun j=>Iff.rfl⟩ ?_ ?_
 ·have e:Xb (vs++[v]) (cs++[⟨k,vals⟩])=Xb vs cs++[(k,v)]:=by
   unfold Xb
   rw[List.zipWith_append n.1];rfl
  rw[e];exact X
 ·by_cases o:i<vs.length
  ·have q:i<cs.length:=by rw[←n.1];exact o
   rw[List.getElem_append_left o,List.getElem_append_left q]
   exact E i o q
  ·have q: ¬i<cs.length:=by rw[←n.1];exact o
   have e1:i=vs.length:=by simp at p;omega
   rw[List.getElem_append_right (by omega),List.getElem_append_right (by omega)]
   simp only[List.getElem_singleton]
   exact O
 ·refine List.pairwise_cons.2 ⟨fun u hu j b e=>?_,List.pairwise_append.2 ⟨Z,List.pairwise_singleton _ _,fun u hu u2 C j b e=>?_⟩⟩
  ·rcases List.mem_append.1 hu with hu | hu
   ·rcases g j b with h1 | h1
    ·exact t u hu j h1 e
    ·have:=N u hu j e;have:=c.bel.size;omega
   ·simp at hu;subst hu
    rcases g j b with h1 | h1
    ·exact z j e h1
    ·have:=(J.mem e).2.1;have:=c.bel.size;omega
  ·simp at C;subst C
   exact hd j e ((hD j).2 ⟨u,by simp[hu],b⟩)
 ·rintro j ⟨u,hu,b⟩
  rcases List.mem_cons.1 hu with rfl | hu
  ·rcases g j b with h1 | h1
   ·exact .inl (f j h1)
   ·right;right;have:=c.bel.size;omega
  ·rcases List.mem_append.1 hu with hu | hu
   ·exact .inl ((hD j).2 ⟨u,by simp[hu],b⟩)
   ·simp at hu;subst hu;exact .inr (.inl b)
 ·intro j b V
  obtain ⟨u,hu,b⟩:=(hD j).1 b
  rcases List.mem_cons.1 hu with rfl | hu
  ·exact absurd b V
  ·exact ⟨u,by simp[hu],b⟩
end Go.Proofs.YtjdiakhipmggjaaGreatDoor

namespace Go.Proofs.YtjdiakhipmggjaaGreatDoor
open Go.Emb Go.RowKit Go.Kd Go.Hm
variable {w : World} {K : Value → World → Prop} {σ : Q6}
end Go.Proofs.YtjdiakhipmggjaaGreatDoor

namespace Go.Proofs.YtjdiakhipmggjaaGreatDoor
open Go.Emb Go.RowKit Go.Kd Go.Hm
variable {w : World} {K : Value → World → Prop} {σ : Q6} {l : List Cla} {v : Value}
theorem I9 {n:X0} (u:X2 w σ) (o:Sl 8 V0 σ v l) (h:K (I (L7 (Z1 l n))) w):Q1 P F.b [v,S n] w K:=Q09 (by
 unfold Dl
 refine U3 l.length (fun k w'=>w'=w∧ ∀j (g:j<l.length),j<k→ ¬l[j].name=n) ⟨rfl,fun j _ h=>by omega⟩ fun k w1 d C s=>?_
 obtain ⟨rfl,f⟩:=s
 refine Q8 o ?_
 refine Z2 ?_
 refine Q7 (fun i=>?_) (fun i=>?_)
 ·have a:k<l.length:=by simpa using i
  refine M9 o a fun p cells m r q=>?_
  obtain ⟨D,y,mv,rfl,B,A,z,H,E⟩:=q
  rw[fa]
  refine ld u m rfl ?_
  refine P2 ?_
  refine Q7 (fun b=>?_) (fun b=>?_)
  ·have b:l[k].name=n:=by simpa using b
   have:Z1 l n=some k:=by
    unfold Z1
    rw[List.findIdx?_eq_some_iff_getElem]
    exact ⟨a,by simpa using b,fun j g=>by simpa using f j (by omega) g⟩
   rw[this] at h
   exact h
  ·have b: ¬l[k].name=n:=by simpa using b
   refine O8 ?_
   refine Y6 o.max a ⟨rfl,fun j g t=>?_⟩
   by_cases e:j=k
   ·subst e;exact b
   ·exact f j g (by omega)
 ·have a: ¬k<l.length:=by simpa using i
  have:Z1 l n=none:=by
   unfold Z1
   rw[List.findIdx?_eq_none_iff]
   intro c i
   obtain ⟨j,g,rfl⟩:=List.getElem_of_mem i
   simpa using f j g (by omega)
  rw[this] at h
  exact h)
end Go.Proofs.YtjdiakhipmggjaaGreatDoor

namespace Go.Proofs.YtjdiakhipmggjaaGreatDoor
open Go.Emb Go.RowKit Go.Kd Go.Hm
variable {w : World} {K : Value → World → Prop} {σ : Q6} {l : List Cla} {v : Value}
theorem Q5y {a:X0} (c:a.length≤U0) (h:K (S (base a).1) w):Q1 P F.aY [S a] w K:=Q0b (by
 unfold Ow
 have d:=Q1M a
 have b:a.length≤140737488355328:=by simp only[U0] at c;omega
 rw[R6 X8]
 refine Ct a b ?_
 (try simp only[↓Mr,Mr,Mb,reduceIte])
 rw[F7 (n:=2*((base a).2:Int)) (by omega) (by omega),F7 (by omega) (by omega),T5 X8 (by omega) (by omega)]
 rw[show ((a.length:Int)-2*((base a).2:Int)).toNat=a.length-2*(base a).2 from by omega,Q4W]
 exact h)
theorem Ds {s:X0} (f:X2 w σ) (g:Sl 8 V0 σ v l) (b:s.length≤U0) (h:K (.bool (N2 l s)) w):Q1 P F.a1 [v,S s] w K:=Q06 (by
 unfold Dc
 have c:s.length≤140737488355328:=by simp only[U0] at b;omega
 unfold N2 at h
 refine P2 ?_
 by_cases a:s=H8
 ·have:decide (s=[110,117,108,108])=true:=by rw[decide_eq_true_eq];exact a
  simp only[this,↓M1,M1,Mb,reduceIte]
  simp only[a,decide_true,Bool.true_or] at h
  exact h
 ·have:decide (s=[110,117,108,108])=false:=by rw[decide_eq_false_iff_not];exact a
  simp only[this,↓M1,M1,Mb,reduceIte]
  simp only[a,decide_false,Bool.false_or] at h
  refine Ub s c ?_
  cases d:right s with
  | false=>(try simp only[↓M1,M1,Mb,reduceIte]);simpa [d] using h
  | true=>
   (try simp only[↓M1,M1,Mb,reduceIte])
   refine Q5y b ?_
   (try simp only[↓M1,M1,Mb,reduceIte])
   refine Eg _ ?_
   simp only[d,Bool.true_and] at h
   cases e:plain (base s).1 with
   | true=>(try simp only[↓M1,M1,Mb,reduceIte]);simpa [e] using h
   | false=>
    (try simp only[↓M1,M1,Mb,reduceIte])
    refine Q5y b ?_
    (try simp only[↓M1,M1,Mb,reduceIte])
    refine I9 f g ?_
    refine P3 ?_
    rw[T9]
    (try simp only[↓M1,M1,Mb,reduceIte])
    simpa [e,Q1q] using h)
end Go.Proofs.YtjdiakhipmggjaaGreatDoor

namespace Go.Proofs.YtjdiakhipmggjaaGreatDoor
open Go.Emb Go.RowKit Go.Kd Go.Hm
variable {w : World} {K : Value → World → Prop} {σ : Q6} {l : List Cla} {v : Value}
theorem Q9h {s:X0} (b:X2 w σ) (d:Sl 8 V0 σ v l) (c:s.length≤U0) (h:K (.bool (O6 l s)) w):Q1 P F.bu [v,S s] w K:=Tm (by
 unfold Ng
 unfold O6 at h
 refine Ja ?_
 have e:decide (s=[110,117,108,108])=decide (s=H8):=rfl
 rw[e]
 cases a:decide (s=H8) with
 | true=>
  rw[a] at h
  (try simp only[↓M1,M1,Mb,reduceIte])
  exact h
 | false=>
  rw[a] at h
  (try simp only[↓M1,M1,Mb,reduceIte])
  refine Ds b d c ?_
  (try simp only[↓M1,M1,Mb,reduceIte])
  simpa using h)
end Go.Proofs.YtjdiakhipmggjaaGreatDoor

namespace Go.Proofs.YtjdiakhipmggjaaGreatDoor
open Go.Emb Go.RowKit Go.Kd Go.Hm
variable {w : World} {K : Value → World → Prop} {σ : Q6} {l : List Cla} {v : Value}
def Sc (c:Cla) (n:X0):Option Nat:=c.methods.findIdx? fun m=>decide (m.name=n)
theorem Q7F {c:Cla} {cs:List Value} {n:X0} (C:X2 w σ) (o:V0 σ c cs) (h: ∀w' A,Stp w σ w' A→K (I (L7 (Sc c n))) w'):Q1 P F.b3 [.agg cs.toArray,S n] w K:=Q11 (by
 unfold Er
 obtain ⟨U,E,mv,rfl,O,M,r,Y,W⟩:=o
 refine Y9 C fun q w0 σ0 a t=>?_
 have r:=r.up a
 refine U3 c.methods.length (fun k w'=>w'=w0∧ ∀j (i:j<c.methods.length),j<k→ ¬c.methods[j].name=n) ⟨rfl,fun j _ h=>by omega⟩ fun k w1 d Q z=>?_
 obtain ⟨rfl,g⟩:=z
 rw[fa]
 refine ld a.sat t rfl ?_
 refine Q8 r ?_
 refine Z2 ?_
 refine Q7 (fun o=>?_) (fun o=>?_)
 ·have b:k<c.methods.length:=by simpa using o
  rw[fa]
  refine ld a.sat t rfl ?_
  refine M9 r b fun p cells s y u=>?_
  obtain ⟨pv,J,H,rfl,V,X,N,R,L⟩:=u
  rw[fa]
  refine ld a.sat s rfl ?_
  refine P2 ?_
  refine Q7 (fun f=>?_) (fun f=>?_)
  ·have f:c.methods[k].name=n:=by simpa using f
   have:Sc c n=some k:=by
    unfold Sc
    rw[List.findIdx?_eq_some_iff_getElem]
    exact ⟨b,by simpa using f,fun j i=>by simpa using g j (by omega) i⟩
   rw[this] at h
   exact h _ _ a
  ·have f: ¬c.methods[k].name=n:=by simpa using f
   refine O8 ?_
   refine Y6 r.max b ⟨rfl,fun j i B=>?_⟩
   by_cases e:j=k
   ·subst e;exact f
   ·exact g j i (by omega)
 ·have b: ¬k<c.methods.length:=by simpa using o
  have:Sc c n=none:=by
   unfold Sc
   rw[List.findIdx?_eq_none_iff]
   intro m D
   obtain ⟨j,i,rfl⟩:=List.getElem_of_mem D
   simpa using g j i (by omega)
  rw[this] at h
  exact h _ _ a)
end Go.Proofs.YtjdiakhipmggjaaGreatDoor

namespace Go.Proofs.YtjdiakhipmggjaaGreatDoor
open Go.Emb Go.RowKit Go.Kd Go.Hm
variable {w : World} {K : Value → World → Prop} {σ : Q6} {l : List Cla} {v : Value}
theorem Bm {n:X0} {d:Cla} (b:X2 w σ) (f:Sl 8 V0 σ v l) (e:lk l n=some d) (h: ∀i:Nat,l[i]? =some d→Z1 l n=some i→K (I i) w):Q1 P F.b [v,S n] w K:=by
 obtain ⟨_,_,i,a,c⟩:=V4 e
 refine I9 b f ?_
 rw[a];exact h i c a
theorem Q0j {n:X0} (b:X2 w σ) (e:Sl 8 V0 σ v l) (d:lk l n=none) (h:K (I (-1)) w):Q1 P F.b [v,S n] w K:=by
 refine I9 b e ?_
 cases f:Z1 l n with
 | none=>exact h
 | some i=>obtain ⟨c,a,_⟩:=Zn f;rw[d] at a;cases a
end Go.Proofs.YtjdiakhipmggjaaGreatDoor

namespace Go.Proofs.YtjdiakhipmggjaaGreatDoor
open Go.Emb Go.RowKit Go.Kd Go.Hm
variable {w : World} {K : Value → World → Prop} {σ : Q6} {l : List Cla} {v : Value}
theorem X1b:decide ((-1:Int)<0)=true:=by decide
theorem Q6K (i:Nat):decide ((i:Int)<0)=false:=by rw[decide_eq_false_iff_not];omega
theorem Q8q {c:Cla} {cs:List Value} (hs:X2 w σ) (hl:Sl 8 V0 σ v l) (A:V0 σ c cs) (h: ∀w' σ',Stp w σ w' σ'→K (I (D1 l c)) w'):Q1 P F.bf [v, .agg cs.toArray] w K:=Gw (by
 unfold Lf
 obtain ⟨lv,fv,mv,rfl,z,f2,f3,f4,f5⟩:=A
 refine Y9 hs fun q w0 σ0 p R=>?_
 have z:=z.up p
 have b:=hl.up p
 have a:=p.sat
 have y: ∀n:Nat,D1 l c=n→K (I n) w0:=fun n e=>by rw[←e];exact h _ _ p
 clear h
 (try simp only[↓M1,M1,Mb,reduceIte])
 refine ld a R rfl ?_
 have m:Xd l c.super=true→K (I (61:Nat)) w0:=fun e=>y 61 (by unfold D1;rw[if_pos e])
 cases J:lk l c.super with
 | none=>
  refine Q0j a b J ?_
  simp only[X1b,↓M1,M1,Mb,reduceIte]
  exact m (by unfold Xd;rw[J])
 | some d=>
  refine Bm a b J fun i hi hf=>?_
  obtain ⟨t,N⟩:=List.getElem?_eq_some_iff.1 hi
  simp only[Q6K,↓M1,M1,Mb,reduceIte]
  refine Y2 b t ?_
  obtain ⟨ad,X,W,O,r1⟩:=b.elC t
  rw[N] at O
  (try simp only[↓M1,M1,Mb,reduceIte])
  refine ld a O rfl ?_
  have f:Xd l c.super=(d.iface||d.fin):=by unfold Xd;rw[J]
  cases D:d.iface with
  | true=>
   rw[D] at f
   (try simp only[↓M1,M1,Mb,reduceIte])
   exact m (by rw[f];rfl)
  | false=>
   rw[D] at f
   (try simp only[↓M1,M1,Mb,reduceIte])
   refine Y2 b t ?_
   (try simp only[↓M1,M1,Mb,reduceIte])
   refine ld a O rfl ?_
   cases H:d.fin with
   | true=>
    rw[H] at f
    (try simp only[↓M1,M1,Mb,reduceIte])
    exact m (by rw[f];rfl)
   | false=>
    rw[H] at f
    have C:Xd l c.super=false:=f
    (try simp only[↓M1,M1,Mb,reduceIte])
    refine U3 c.like.length (fun k w'=>w'=w0∧(c.like.take k).any (R5 l)=false) ⟨rfl,rfl⟩ fun k w1 d1 hk Q=>?_
    obtain ⟨hw,u⟩:=Q
    subst hw
    (try simp only[↓M1,M1,Mb,reduceIte])
    refine ld a R rfl ?_
    refine Q8 z ?_
    refine Z2 ?_
    refine Q7 (fun A=>?_) (fun A=>?_)
    ·have g:k<c.like.length:=by simpa using A
     have r:R5 l c.like[k]=true→K (I (62:Nat)) w1:=fun e=>y 62 (by
      unfold D1;rw[C,S6 g e];rfl)
     have s:R5 l c.like[k]=false→(c.like.take (k+1)).any (R5 l)=false:=fun e=>by rw[L4 g,u,e];rfl
     (try simp only[↓M1,M1,Mb,reduceIte])
     refine ld a R rfl ?_
     refine Y2 z g ?_
     obtain ⟨p2,_⟩:=z.elS g
     refine X7 a p2 rfl ?_
     cases L:lk l c.like[k] with
     | none=>
      refine Q0j a b L ?_
      simp only[X1b,↓M1,M1,Mb,reduceIte]
      exact r (by unfold R5;rw[L])
     | some e=>
      refine Bm a b L fun j Y ai=>?_
      obtain ⟨B,M⟩:=List.getElem?_eq_some_iff.1 Y
      simp only[Q6K,↓M1,M1,Mb,reduceIte]
      refine Y2 b B ?_
      obtain ⟨af,V,Z,U,r3⟩:=b.elC B
      rw[M] at U
      (try simp only[↓M1,M1,Mb,reduceIte])
      refine ld a U rfl ?_
      have o:R5 l c.like[k]= !e.iface:=by unfold R5;rw[L]
      cases E:e.iface with
      | true=>
       rw[E] at o
       (try simp only[↓M1,M1,Mb,reduceIte])
       exact Y6 z.max g ⟨rfl,s o⟩
      | false=>
       rw[E] at o
       (try simp only[↓M1,M1,Mb,reduceIte])
       exact r o
    ·have g: ¬k<c.like.length:=by simpa using A
     rw[E1 g] at u
     exact y 0 (by unfold D1;rw[C,u];rfl))
end Go.Proofs.YtjdiakhipmggjaaGreatDoor

namespace Go.Proofs.YtjdiakhipmggjaaGreatDoor
open Go.Emb Go.RowKit Go.Kd Go.Hm
variable {w : World} {K : Value → World → Prop} {σ : Q6} {l : List Cla} {v : Value}
theorem Q72 {n:X0} (h:lk l n=none):Y4 l n=[]:=by unfold Y4;rw[Yy h];rfl
theorem Q70 (a:Jg l) {n:X0} {c:Cla} (h:lk l n=some c):Y4 l n=Y4 l c.super++c.fields:=by
 unfold Y4
 rw[A9 a,h]
 simp
theorem Q3s (a: ∀c∈l,Qw c) (n:X0):(Y4 l n).length≤(l.length+1)*1000000:=by
 unfold Y4
 have b:=Vm (fun c:Cla=>c.fields) 1000000 (chain l n).reverse fun c e=>(a c (Bi (by simpa using e))).2.1
 have d:=Bw l n
 rw[List.length_reverse] at b
 exact Nat.le_trans b (Nat.mul_le_mul_right _ d)
theorem Q2k {n:X0} (b:lk l n=none) (a:X2 w σ) (e:Sl 8 V0 σ v l) (h: ∀c w' d,Stp w σ w' d→Sl 3 R9 d c (Y4 l n)→K c w'):Q1 P F.p [v,S n] w K:=Lk (by
 unfold Xv
 refine Q0j a e b ?_
 simp only[X1b,↓M1,M1,Mb,reduceIte]
 exact h _ _ _ (Stp.refl a) (by rw[Q72 b];exact Sl.nil))
theorem Q6X (p:Jg l) (hl:l.length≤1000) (g: ∀c∈l,Qw c): ∀(k:Nat) {n:X0} {w:World} {σ:Q6} {K:Value→World→Prop},(lk l n=none∨K9 l n<k)→X2 w σ→Sl 8 V0 σ v l→
 (∀f w' j,Stp w σ w' j→Sl 3 R9 j f (Y4 l n)→K f w')→Q1 P F.p [v,S n] w K:=by
 intro k
 induction k with
 | zero=>
  intro n w σ K hk m a h
  rcases hk with hk | hk
  ·exact Q2k hk m a h
  ·omega
 | succ k X=>
  intro n w σ K hk m a h
  cases b:lk l n with
  | none=>exact Q2k b m a h
  | some c=>
   have hk:K9 l n<k+1:=by
    rcases hk with hk | hk
    ·rw[b] at hk;cases hk
    ·exact hk
   refine Lk ?_
   unfold Xv
   refine Bm m a b fun i hi hf=>?_
   obtain ⟨A,H⟩:=List.getElem?_eq_some_iff.1 hi
   simp only[Q6K,↓M1,M1,Mb,reduceIte]
   obtain ⟨lv,fv,mv,p1,N⟩:=a.elC A
   rw[H] at p1 N
   obtain ⟨_,g2,_,_,_⟩:=N.parts
   have B:lk l c.super=none∨K9 l c.super<k:=by
    cases hu:lk l c.super with
    | none=>exact .inl rfl
    | some d=>
     have:=Yd p b (u:=c.super) (by simp[U4]) hu
     right;omega
   have am:=Q3s g c.super
   have W:=(g c (V4 b).2.1).2.1
   have O:(l.length+1)*1000000≤1001*1000000:=Nat.mul_le_mul_right _ (by omega)
   refine U2 m ?_
   (repeat refine Z8 Qd ?_)
   refine Q3w (R:=R9) (by decide) ?_
   (repeat refine Z8 Qd ?_)
   refine Wh (w:=w) (σ:=σ) (Φ:=fun j v=>Sl 3 R9 j v (Y4 l c.super)) (fun t w o e=>?_) ?_
   ·subst e;exact X B o.sat a fun f w' j hk s=>Rx o hk s
   refine Q1L (w:=w) (σ:=σ) (R:=R9) (sz:=3) (e:=T.n) (Y4 l c.super) (fun E J w o L y=>?_) ?_
   ·obtain ⟨V,Z,e1⟩:=L
    obtain ⟨σ2,k2,s2⟩:=y
    exact Q7x V Z e1 k2.sat s2 (fun _ _ h=>h) rfl (by omega) (by omega) fun f w' hk p=>Q3m o hk p
   (repeat refine Z8 Qd ?_)
   rintro Q ai ad ae E ag J U an w2 Y rfl rfl rfl rfl _ rfl _ ⟨D,z⟩ rfl
   refine Wk D z g2 rfl (by omega) (by omega) fun f w3 ah r q _=>?_
   obtain ⟨σ4,C,M,_⟩:=q.keep r
   exact h _ _ _ C (by rw[Q70 p b];exact M)
theorem Te {n:X0} (e:X2 w σ) (f:Sl 8 V0 σ v l) (g:Jg l) (i:l.length≤1000) (a: ∀c∈l,Qw c) (h: ∀b w' d,Stp w σ w' d→Sl 3 R9 d b (Y4 l n)→K b w'):Q1 P F.p [v,S n] w K:=
 Q6X g i a _ (.inr (Nat.lt_succ_self _)) e f h
theorem Q9D {n f:X0} (E:X2 w σ) (y:Sl 8 V0 σ v l) (L:Jg l) (A:l.length≤1000) (u: ∀c∈l,Qw c) (h: ∀w' B,Stp w σ w' B→K (I (L7 (Ur l n f))) w'):Q1 P F.bt [v,S n,S f] w K:=Pm (by
 unfold Nx
 refine Te E y L A u fun N w1 σ1 r a=>?_
 have s: ∀o,Ur l n f=o→K (I (L7 o)) w1:=fun o e=>by rw[←e];exact h _ _ r
 unfold Ur at s
 generalize Y4 l n=p at a s
 refine U3 p.length (fun k w'=>w'=w1∧ ∀j (q:j<p.length),j<k→ ¬p[j].name=f) ⟨rfl,fun j _ h=>by omega⟩ fun k O d M z=>?_
 obtain ⟨D,i⟩:=z
 subst D
 refine Q8 a ?_
 refine Z2 ?_
 refine Q7 (fun t=>?_) (fun t=>?_)
 ·have b:k<p.length:=by simpa using t
  refine Y2 a b ?_
  obtain ⟨J,_⟩:=a.elF b
  (try simp only[↓M1,M1,Mb,reduceIte])
  refine ld r.sat J rfl ?_
  refine P2 ?_
  refine Q7 (fun g=>?_) (fun g=>?_)
  ·have g:p[k].name=f:=by simpa using g
   exact s (some k) (by
    rw[List.findIdx?_eq_some_iff_getElem]
    exact ⟨b,by simpa using g,fun j q=>by simpa using i j (by omega) q⟩)
  ·have g: ¬p[k].name=f:=by simpa using g
   (try simp only[↓M1,M1,Mb,reduceIte])
   refine Y6 a.max b ⟨rfl,fun j q C=>?_⟩
   by_cases e:j=k
   ·subst e;exact g
   ·exact i j q (by omega)
 ·have b: ¬k<p.length:=by simpa using t
  exact s none (by
   rw[List.findIdx?_eq_none_iff]
   intro m H
   obtain ⟨j,q,rfl⟩:=List.getElem_of_mem H
   simpa using i j q (by omega)))
end Go.Proofs.YtjdiakhipmggjaaGreatDoor

namespace Go.Emb
open Go.RowKit Go.Hm
variable {w w' : World} {σ σ' : Q6}
theorem Nxt.of_upd {b:Nat} (c:X2 w σ) (a:Upd w b w') (d:σ b=none):Nxt (fun j=>j=b) w σ w' σ:=
 ⟨Kpt.of_upd a rfl,SLe.refl _,fun _ _=>rfl,(Kpt.of_upd (D:=fun j=>j=b) a rfl).sat c fun k e=>e▸d⟩
theorem Nxt.chain {D E:Nat→Prop} {w1 b:World} {σ1 d:Q6} (h:Nxt D w σ w1 σ1) (k:Nxt E w1 σ1 b d) (f: ∀j,j<w.heap.size→E j→D j):Nxt D w σ b d:=
 ⟨⟨k.kp.os.trans h.kp.os,k.kp.tape.trans h.kp.tape,k.kp.output.trans h.kp.output,Nat.le_trans h.kp.size k.kp.size,fun j a c=>(k.kp.block j (Nat.lt_of_lt_of_le a h.kp.size) fun e=>c (f j a e)).trans (h.kp.block j a c)⟩,h.le.more k.le,fun j a=>(k.old j (Nat.lt_of_lt_of_le a h.kp.size)).trans (h.old j a),k.sat⟩
end Go.Emb
namespace Go.Proofs.YtjdiakhipmggjaaGreatDoor
open Go.Emb Go.RowKit Go.Kd Go.Hm
variable {w w' : World} {K : Value → World → Prop} {σ σ' : Q6} {hp tv : Value} {room : Int} {cs : List Cel} {l : List Cla}
theorem RowsIs.shape {B:Nat} {D:Nat→Prop} {b:Value} (h:RowsIs B D σ w b cs):b.cells= #[b]∧b.oneCell'=true:=by
 obtain ⟨vs,d,_⟩:=h.ex
 obtain ⟨a,c,rfl,_⟩:=d
 exact ⟨rfl,rfl⟩
theorem RowsIs.len {B:Nat} {D:Nat→Prop} {c:Value} (h:RowsIs B D σ w c cs): ∃a b,c= .slice a cs.length b:=by
 obtain ⟨vs,e,d,_⟩:=h.ex
 obtain ⟨a,b,rfl,_⟩:=e
 exact ⟨a,b,by rw[Du d.1]⟩
theorem X1m {B:Nat} {D:Nat→Prop} {v:Value} {vals:List Val} {k:X0} (hs:X2 w σ) (hB:B≤w.heap.size) (h:HeapIs B D σ w hp tv room cs) (y:J9 B T.f 4 O9 σ w v vals) (z: ∀j,v.ownBlock=some j→ ¬D j) (hk:k.length≤U0) (hl:Z7 cs+(1+(vals.length:Int))≤1048576)
 (hh: ∀w' σ' D',Nxt D w σ w' σ'→HeapIs B D' σ' w' hp tv room (cs++[⟨k,vals⟩])→(∀j,D' j→D j∨v.ownBlock=some j∨w.heap.size≤j)→K (.tuple #[I cs.length,I 0]) w'):Q1 P F.b7 [hp,S k,v] w K:=Q2a (by
 obtain ⟨b,lv,E,rfl,O,t,hr,hE,hD⟩:=h.ex
 have Y:=Qt cs
 have ai:=E0 cs
 have c:D b:=(hD b).2 (.inl rfl)
 have C: ∃a f,v= .slice a vals.length f:=by obtain ⟨a,f,e,_⟩:=y;exact ⟨a,f,e⟩
 have R:=t.lt
 unfold Hv
 rw[M0,fa]
 refine Yk t rfl ?_
 refine Q1F y ?_
 refine Yc ⟨by omega,by omega⟩ ?_
 refine Yc ⟨by omega,by omega⟩ ?_
 rw[M0,fa]
 refine Ue t (by simp) rfl rfl fun w1 u o=>?_
 have r:=Nxt.of_upd hs u t.1
 have M:=hr.nx r fun j hj e=>hE (e▸hj)
 have L:=y.nx r fun j hj e=>z j hj (e▸c)
 have N:=r.sat
 rw[M0,fa]
 refine Yk o rfl ?_
 refine W3 (cells:= #[S k,v]) (by obtain ⟨a,f,rfl⟩:=C;kernel_rfl) ?_
 refine X2P N (by rw[u.size];exact hB) M L (fun j hj e=>z j hj ((hD j).2 (.inr e))) hk (by omega) fun s ac w2 U H A g d p ah=>?_
 have q: ∀j,lv.ownBlock=some j→j≠b:=fun j hj e=>hE (e▸g j hj)
 have n:=o.nx A fun e=>q b e rfl
 have i: ¬H b:=fun e=>by
  rcases p b e with e | e | e
  ·exact hE e
  ·exact z b e c
  ·rw[u.size] at e;omega
 rw[M0,fa]
 refine Ue n (by simp) d.shape.1 d.shape.2 fun W X m=>?_
 have Q:=Nxt.of_upd A.sat X n.1
 have J:=d.nx Q fun j hj e=>i (e▸hj)
 rw[M0,fa]
 refine Yk m rfl ?_
 obtain ⟨a2,V,rfl⟩:=d.len
 rw[Q1S]
 refine Zl ⟨by simp only[List.length_append,List.length_cons,List.length_nil];omega,by simp only[List.length_append,List.length_cons,List.length_nil];omega⟩ ?_
 have e1:(((cs++[(⟨k,vals⟩:Cel)]).length:Nat):Int)-1=cs.length:=by simp
 rw[e1]
 have e2:Z7 (cs++[(⟨k,vals⟩:Cel)])=Z7 cs+(1+(vals.length:Int)):=by rw[Ql];simp[Z7]
 have Z:Nxt D w σ W U:=((r.mono fun j _ e=>e▸c).chain A fun j _ e=>(hD j).2 (.inr (g j e))).chain Q fun j _ e=>e▸c
 refine hh W U (fun j=>j=b∨H j) Z ⟨b,_,H,rfl,O,?_,J,i,fun j=>Iff.rfl⟩ fun j hj=>?_
 ·rw[e2];exact m
 ·rcases hj with rfl | hj
  ·exact .inl c
  ·rcases p j hj with e | e | e
   ·exact .inl ((hD j).2 (.inr e))
   ·exact .inr (.inl e)
   ·rw[u.size] at e;exact .inr (.inr e))
theorem HeapIs.tab {B:Nat} {D:Nat→Prop} (h:HeapIs B D σ w hp tv room cs): ∃b a E,hp= .pointer (some ⟨b,0,none⟩)∧Y3 σ w b [tv,I room,I (Z7 cs),a]∧RowsIs B E σ w a cs:=by
 obtain ⟨b,a,E,e,f,d,c,hE,hD⟩:=h.ex
 exact ⟨b,a,E,e,d,c⟩
theorem Q5K {B:Nat} {D:Nat→Prop} (b:X2 w σ) (h:HeapIs B D σ w hp tv room cs) (e:0≤W7 room cs) (d:room≤1048576) (i: ∀w',Stp w σ w' σ→K (I (W7 room cs)) w'):Q1 P F.ag [hp] w K:=by
 obtain ⟨j,g,f,a,_⟩:=h.freeze b
 exact Q7z g a e d fun w' c=>i w' (Stp.of_below b c)
theorem Gj (k:X0) {σ:Q6}:O9 σ (W1 k) (Value.agg [I (W1 k).sort,I (W1 k).n,S (W1 k).s,I (W1 k).ref].toArray).cells.toList:=by
 refine ⟨rfl,?_⟩
 unfold W1
 split
 ·decide
 split
 ·decide
 split
 ·decide
 ·decide
theorem Q0B (a: ∀c∈l,Qw c) (b:l.length≤100000) (n:X0):(Y4 l n).length≤1000000000000:=by
 have h:=Q3s a n
 have:(l.length+1)*1000000≤100001*1000000:=Nat.mul_le_mul_right _ (by omega)
 omega
def atM (cs:List Cel) (e:Int):Int:=if e=0 then cs.length else 0
set_option maxHeartbeats 1000000 in
theorem Q2E {B:Nat} {D:Nat→Prop} {k:X0} (hs:X2 w σ) (hB:B≤w.heap.size) (h:HeapIs B D σ w hp tv room cs) (ht:Tab σ tv l) (ok:Ok l) (hk:k.length≤U0) (h0:0≤W7 room cs) (h1:room≤1048576)
 (hh: ∀w' σ' D',Nxt D w σ w' σ'→HeapIs B D' σ' w' hp tv room (P8 l room cs k).1→(∀j,D' j→D j∨w.heap.size≤j)→K (.tuple #[I (atM cs (P8 l room cs k).2),I (P8 l room cs k).2]) w'):Q1 P F.am [hp,S k] w K:=Kr (by
 obtain ⟨b,lv,E,rfl,hm,hr⟩:=h.tab
 unfold Mq
 rw[M0,fa]
 refine Yk (i:=0) hm rfl ?_
 refine Q4p hs ht fun w1 σ1 c=>?_
 refine Wg ?_
 unfold P8 at hh
 have X:=ht.lift ⟨c.le⟩
 cases ho:A5 l k with
 | false=>
  rw[ho] at hh
  simp only[if_pos] at hh
  refine J7 ?_
  exact hh w1 σ1 D (.of_stp c) (h.up c) fun j o=> .inl o
 | true=>
  rw[ho] at hh
  simp only[Bool.true_eq_false,if_false] at hh
  refine J0 ?_
  rw[M0,fa]
  refine Yk (i:=0) (hm.up c) rfl ?_
  refine Rv c.sat X ok.acy ok.len ok.sm fun fv w2 σ2 A U=>?_
  have v:=c.trans A
  have ad:=U.max
  refine Q8 U ?_
  have ai:=Q0B ok.sm ok.len k
  refine Yc ⟨by omega,by omega⟩ ?_
  refine Q5K A.sat (h.up v) h0 h1 fun M z=>?_
  have t:=v.trans z
  have J:=U.up z
  rw[Rq]
  by_cases N:W7 room cs<1+((Y4 l k).length:Int)
  ·rw[if_pos N] at hh
   have e:decide (1+((Y4 l k).length:Int)>W7 room cs)=true:=decide_eq_true N
   rw[e]
   refine J7 ?_
   exact hh M σ2 D (.of_stp t) (h.up t) fun j o=> .inl o
  rw[if_neg N] at hh
  have e:decide (1+((Y4 l k).length:Int)>W7 room cs)=false:=decide_eq_false N
  rw[e]
  refine J0 ?_
  refine Q8 J ?_
  have r:=t.bel.size
  refine H0 (Y4 l k).length (fun n x w'=> ∃σ',Stp M σ2 w' σ'∧V6 M.heap.size T.f 4 O9 σ' w' x (((Y4 l k).take n).map fun f=>W1 f.kind)) ⟨σ2,Stp.refl z.sat,V6.nil⟩ fun n x w4 d hn C=>?_
  obtain ⟨σ4,g,u⟩:=C
  refine Z2 ?_
  refine Q7 (fun O=>?_) (fun O=>?_)
  ·have m:n<(Y4 l k).length:=by simpa using O
   have L:=J.up g
   refine Y2 L m ?_
   obtain ⟨p1,r1⟩:=L.elF m
   refine Y5 g.sat p1 rfl ?_
   refine Y7 g.sat (by rfl) rfl (Rep.one (R:=R9) r1) fun q w5 σ5 p aa=>?_
   rw[fa]
   refine ld p.sat aa rfl ?_
   refine Q3M p.sat fun w6 σ6 H=>?_
   have ab:=(g.trans p).trans H
   have Q:=(u.up p).up H
   refine Jo (R:=O9) (x:=W1 (Y4 l k)[n].kind) ab Q (Gj _) rfl rfl rfl (by rw[List.length_map,List.length_take];omega) (by rw[List.length_map,List.length_take];omega) fun s v' w7 Y ap V Z _=>?_
   refine O8 ?_
   refine J6 ad m ⟨Y,V,?_⟩
   rw[List.take_add_one,List.getElem?_eq_getElem m,List.map_append]
   exact Z
  ·have m: ¬n<(Y4 l k).length:=by simpa using O
   rw[List.take_of_length_le (by omega)] at u
   have a:=t.trans g
   have y: ∀j,x.ownBlock=some j→M.heap.size≤j:=fun j o=>(u.mem j o).1
   refine X1m g.sat (Nat.le_trans hB a.bel.size) (h.up a) ((J9.of_acc u).mono (Nat.le_trans hB r)) (fun j o hD=>by
    have:=(h.mem hD).2.1;have:=y j o;omega) hk (by rw[List.length_map];unfold W7 at*;omega) fun w7 Y D' N7 h7 W=>?_
   refine Z5 (vs:=[_,_]) rfl ?_
   refine Z5 (vs:=[_,_]) rfl ?_
   refine hh w7 Y D' ((Nxt.of_stp a).chain N7 fun j _ e=>e) h7 fun j o=>?_
   rcases W j o with e | e | e
   ·exact .inl e
   ·right;have:=y j e;omega
   ·right;have:=a.bel.size;omega)
end Go.Proofs.YtjdiakhipmggjaaGreatDoor

namespace Go.Proofs.YtjdiakhipmggjaaGreatDoor
open Go.Emb Go.RowKit Go.Kd Go.Hm
variable {w w' : World} {K : Value → World → Prop} {σ σ' : Q6} {hp tv : Value} {room : Int} {cs : List Cel} {l : List Cla}
def part (m n:Nat) (z:Val):List Val:=(List.range m).map fun i=>if i<n then z else Val.zero
theorem Q9c (m:Nat) (z:Val):part m 0 z=List.replicate m Val.zero:=by
 refine List.ext_getElem (by simp[part]) fun i a b=>by simp[part]
theorem X0F (m:Nat) (z:Val):part m m z=List.replicate m z:=by
 refine List.ext_getElem (by simp[part]) fun i a b=>?_
 have:i<m:=by simpa [part] using a
 simp[part,this]
theorem X0C {m n:Nat} (z:Val):(part m n z).set n z=part m (n+1) z:=by
 refine List.ext_getElem (by simp[part]) fun i a b=>?_
 simp only[part,List.getElem_set,List.getElem_map,List.getElem_range]
 by_cases e:n=i
 ·subst e;simp
 ·rw[if_neg e]
  by_cases h:i<n
  ·simp[h,Nat.lt_succ_of_lt h]
  ·have: ¬i<n+1:=by omega
   simp[h,this]
theorem Q5Y {e:X0} (h:B6 l e=true):right e=true:=by
 simp only[B6,Bool.and_eq_true,Bool.not_eq_true',decide_eq_false_iff_not] at h
 have:=h.1.2
 simp only[N2,Bool.or_eq_true,Bool.and_eq_true,decide_eq_true_eq] at this
 rcases this with h1 | h1
 ·exact absurd h1 h.1.1
 ·exact h1.1
theorem X1P {e:X0} (h:right e=true):Yf e≤3:=by
 unfold Yf
 rw[if_pos h]
 simp only[right,Bool.and_eq_true,decide_eq_true_eq] at h
 exact h.1
set_option maxHeartbeats 1000000 in
theorem Q43 {B:Nat} {D:Nat→Prop} {e:X0} {n:Int} (hs:X2 w σ) (hB:B≤w.heap.size) (h:HeapIs B D σ w hp tv room cs) (ht:Tab σ tv l) (hk:e.length≤U0) (h0:0≤W7 room cs) (h1:room≤1048576)
 (hh: ∀w' σ' D',Nxt D w σ w' σ'→HeapIs B D' σ' w' hp tv room (T3 l room cs e n).1→(∀j,D' j→D j∨w.heap.size≤j)→K (.tuple #[I (atM cs (T3 l room cs e n).2),I (T3 l room cs e n).2]) w'):Q1 P F.av [hp,S e,I n] w K:=Q0d (by
 obtain ⟨b,lv,E,rfl,hm,hr⟩:=h.tab
 unfold Dg
 refine X4D e (Nat.le_trans hk (by decide)) fun w1 ac=>?_
 have t:=Stp.of_below hs ac
 unfold T3 at hh
 have g: ∀{L H},Stp w σ L H→B6 l e=false→K (.tuple #[I 0,I 91]) L:=fun {L H} hS Q=>by
  rw[Q] at hh
  simp only[if_pos] at hh
  exact hh L H D (.of_stp hS) (h.up hS) fun j q=> .inl q
 cases s:(right e&&decide (Yf e≠3)) with
 | false=>
  have Q:B6 l e=false:=by
   cases hx:B6 l e with
   | false=>rfl
   | true=>
    have hr:=Q5Y hx
    simp only[B6,Bool.and_eq_true,decide_eq_true_eq] at hx
    rw[hr,Bool.true_and,decide_eq_false_iff_not] at s
    omega
  simp only[Bool.false_eq_true,if_false]
  (try simp only[↓M1,M1,Mb,reduceIte])
  simp only[show decide ((30:Int)=0)=false from by decide,Bool.not_false,↓M1,M1,Mb,reduceIte]
  exact g t Q
 | true=>
  simp only[if_true]
  (try simp only[↓M1,M1,Mb,reduceIte])
  simp only[decide_true,Bool.not_true,↓M1,M1,Mb,reduceIte]
  refine Yk (i:=0) (hm.up t) rfl ?_
  refine Q0L t.sat ht hk fun L H M=>?_
  have a:=t.trans M
  simp only[Bool.and_eq_true,decide_eq_true_eq] at s
  have ax:=X1P s.1
  have k:B6 l e=(!decide (e=H8)&&N2 l e):=by
   unfold B6
   have:decide (Yf e≤2)=true:=decide_eq_true (by omega)
   rw[this,Bool.and_true]
  have en:decide (e=[110,117,108,108])=decide (e=H8):=rfl
  cases V:N2 l e with
  | false=>
   (try simp only[↓M1,M1,Mb,reduceIte])
   exact g a (by rw[k,V,Bool.and_false])
  | true=>
   (try simp only[↓M1,M1,Mb,reduceIte])
   by_cases c:e=H8
   ·have:decide (e=[110,117,108,108])=true:=decide_eq_true c
    rw[this]
    (try simp only[↓M1,M1,Mb,reduceIte])
    exact g a (by rw[k,decide_eq_true c];rfl)
   have:decide (e=[110,117,108,108])=false:=decide_eq_false c
   rw[this]
   (try simp only[↓M1,M1,Mb,reduceIte])
   have Q:B6 l e=true:=by rw[k,V,decide_eq_false c];rfl
   rw[Q] at hh
   simp only[Bool.true_eq_false,if_false] at hh
   by_cases o:n<0
   ·rw[if_pos o] at hh
    rw[decide_eq_true o]
    (try simp only[↓M1,M1,Mb,reduceIte])
    exact hh L H D (.of_stp a) (h.up a) fun j q=> .inl q
   rw[if_neg o] at hh
   rw[decide_eq_false o]
   (try simp only[↓M1,M1,Mb,reduceIte])
   refine Q5K M.sat (h.up a) h0 h1 fun w3 Y=>?_
   have z:=a.trans Y
   refine P3 ?_
   by_cases X:W7 room cs≤n
   ·rw[if_pos X] at hh
    rw[decide_eq_true X]
    refine J7 ?_
    exact hh w3 H D (.of_stp z) (h.up z) fun j q=> .inl q
   rw[if_neg X] at hh
   rw[decide_eq_false X]
   refine J0 ?_
   obtain ⟨m,rfl⟩:=Int.eq_ofNat_of_zero_le (Int.not_lt.1 o)
   have aa:(m:Int)<W7 room cs:=Int.not_le.1 X
   have a1:=E0 cs
   unfold W7 at aa h0
   have y:=z.bel.size
   have aj:=Gx s.1
   refine X3z (sz:=4) (R:=O9) (x0:=Val.zero) Y.sat rfl (by decide) ⟨rfl,by decide⟩ (by omega) (by omega) fun v w4 ae af C=>?_
   have W:=J9.of_acc af
   refine Q1F W ?_
   rw[List.length_replicate]
   refine U3 m (fun i w'=> ∃σ',Stp w3 H w' σ'∧J9 w3.heap.size T.f 4 O9 σ' w' v (part m i (W1 e))) ⟨H,ae,by rw[Q9c];exact W⟩ fun i w5 d hi N=>?_
   obtain ⟨σ5,r,J⟩:=N
   refine Z2 ?_
   refine Q7 (fun Z=>?_) (fun Z=>?_)
   ·have A:i<m:=by simpa using Z
    refine Q3M r.sat fun w6 σ6 O=>?_
    have ag:=r.trans O
    refine Q3v (x:=W1 e) ag (J.up O) (by simpa [part] using A) rfl (Gj e) (Rep.one (R:=O9) (Gj (σ:=σ6) e)) fun p u w7 a0 ah U=>?_
    refine O8 ?_
    rw[X0C] at U
    exact Y6 (by omega) A ⟨σ6,ah.stp,U⟩
   ·have A:i=m:=by
     have: ¬i<m:=by simpa using Z
     omega
    subst A
    rw[X0F] at J
    have f:=z.trans r
    refine X1m r.sat (Nat.le_trans hB f.bel.size) (h.up f) (J.mono (Nat.le_trans hB y)) (fun j q hD=>by
     have:=(h.mem hD).2.1;have:=C j q;omega) (Nat.le_trans (show (e++[91,93]).length≤40 by simp only[List.length_append,List.length_cons,List.length_nil];omega) (by decide)) (by rw[List.length_replicate];omega) fun w7 σ7 D' N7 h7 ad=>?_
    refine Z5 (vs:=[_,_]) rfl ?_
    refine Z5 (vs:=[_,_]) rfl ?_
    rw[Int.toNat_natCast] at hh
    refine hh w7 σ7 D' ((Nxt.of_stp f).chain N7 fun j _ e=>e) h7 fun j q=>?_
    rcases ad j q with e | e | e
    ·exact .inl e
    ·right;have:=C j e;omega
    ·right;have:=f.bel.size;omega)
end Go.Proofs.YtjdiakhipmggjaaGreatDoor

namespace Go.Proofs.YtjdiakhipmggjaaGreatDoor
open Go.Emb Go.RowKit Go.Kd Go.Hm
variable {w : World} {K : Value → World → Prop} {σ : Q6} {v : Value}
def Q3r:List Cla:=[⟨U1,[],[],false,false,false,[],[]⟩,⟨L6,U1,[],false,false,false,[⟨Qk,D2,false⟩],[]⟩]
def gMk (n:X0):Cla:=⟨n,L6,[],false,false,true,[],[]⟩
theorem Q7s:I1=Q3r++U5.map gMk:=rfl
theorem Q9J (Q:X2 w σ) (h: ∀u w' g,Stp w σ w' g→V6 w.heap.size T.b 8 V0 g w' u I1→K u w'):Q1 P F.bp [] w K:=Tl (by
 unfold Oa
 refine W3 (cells:= #[S U1,S [], .slice none 0 0, .bool false, .bool false, .bool false, .slice none 0 0, .slice none 0 0]) (by kernel_rfl) ?_
 refine W3 (cells:= #[S Qk,S D2, .bool false]) (by kernel_rfl) ?_
 refine T4 (R:=R9) (sz:=3) Q [.agg #[S Qk,S D2, .bool false]] [⟨Qk,D2,false⟩] rfl rfl (by simp;rfl) rfl ⟨⟨rfl,by decide,by decide⟩,trivial⟩ fun v1 w1 σ1 q o=>?_
 have k:=o
 obtain ⟨E,b,rfl,_⟩:=k
 refine W3 (cells:= #[S L6,S U1, .slice none 0 0, .bool false, .bool false, .bool false, .slice E 1 b, .slice none 0 0]) (by kernel_rfl) ?_
 refine Zf (R:=V0) (sz:=8) q [.agg #[S U1,S [], .slice none 0 0, .bool false, .bool false, .bool false, .slice none 0 0, .slice none 0 0], .agg #[S L6,S U1, .slice none 0 0, .bool false, .bool false, .bool false, .slice E 1 b, .slice none 0 0]]
  Q3r rfl rfl (by simp;exact ⟨rfl,rfl⟩) rfl ⟨⟨_,_,_,rfl,Sl.nil,Sl.nil,Sl.nil,by decide,by decide⟩,⟨_,_,_,rfl,Sl.nil,o,Sl.nil,by decide,by decide⟩,trivial⟩ fun v2 w2 i D _=>?_
 refine T4 (R:=U9) (sz:=1) i.sat (U5.map S) U5 rfl rfl (by decide) rfl ⟨⟨rfl,by decide⟩,⟨rfl,by decide⟩,⟨rfl,by decide⟩,⟨rfl,by decide⟩,⟨rfl,by decide⟩,⟨rfl,by decide⟩,trivial⟩ fun v3 Z H l m=>?_
 have y:=(q.trans i).trans l
 have M:U5.length=6:=rfl
 refine H0 U5.length (fun n x w'=> ∃g,Stp w σ w' g∧SLe H g∧V6 w.heap.size T.b 8 V0 g w' x (Q3r++(U5.take n).map gMk)) ⟨H,y,SLe.refl _,D.up l⟩ fun n x X d W j=>?_
 obtain ⟨L,f,e,c⟩:=j
 refine Q8 (m.lift e) ?_
 refine Z2 ?_
 refine Q7 (fun z=>?_) (fun z=>?_)
 ·have a:n<U5.length:=by simpa using z
  have r:=m.lift e
  refine Y2 r a ?_
  obtain ⟨U,J⟩:=r.elS a
  refine X7 f.sat U rfl ?_
  have O:(Q3r++(U5.take n).map gMk).length≤8:=by
   rw[List.length_append,List.length_map,List.length_take,show Q3r.length=2 from rfl];omega
  have p:(U5.take (n+1)).map gMk=(U5.take n).map gMk++[gMk U5[n]]:=by
   rw[List.take_add_one,List.getElem?_eq_getElem a,List.map_append];rfl
  generalize U5[n]=t at J p
  refine W3 (cells:= #[S t,S L6, .slice none 0 0, .bool false, .bool false, .bool true, .slice none 0 0, .slice none 0 0]) (by kernel_rfl) ?_
  have N:V0 L (gMk t) [S t,S L6, .slice none 0 0, .bool false, .bool false, .bool true, .slice none 0 0, .slice none 0 0]:=⟨_,_,_,rfl,Sl.nil,Sl.nil,Sl.nil,J,(by decide:L6.length≤U0)⟩
  refine Jo (x:=gMk t) f c N rfl rfl rfl (by omega) (by omega) fun s u Y V C A B _=>?_
  refine O8 ?_
  refine J6 (by omega) a ⟨V,A,e.more C.le,?_⟩
  rw[p,←List.append_assoc];exact B
 ·have a: ¬n<U5.length:=by simpa using z
  rw[List.take_of_length_le (by omega),←Q7s] at c
  exact h _ _ _ f c)
end Go.Proofs.YtjdiakhipmggjaaGreatDoor

namespace Go.Proofs.YtjdiakhipmggjaaGreatDoor
open Go.Emb Go.RowKit Go.Kd Go.Hm
variable {w : World} {K : Value → World → Prop} {σ : Q6}
end Go.Proofs.YtjdiakhipmggjaaGreatDoor

namespace Go.Hm
open Go.Kd
def Edge (l:List Cla) (i j:Nat):Prop:= ∃c,l[i]? =some c∧ ∃u∈U4 c,Z1 l u=some j
inductive Thr (E : Nat → Nat → Prop) (n : Nat) : Nat → Nat → Prop
  | one {i j : Nat} : E i j → Thr E n i j
  | more {i m j : Nat} : E i m → m < n → Thr E n m j → Thr E n i j
theorem Thr.cut {E:Nat→Nat→Prop} {n i j:Nat} (h:Thr E (n+1) i j):Thr E n i j∨(Thr E n i n∧Thr E n n j):=by
 induction h with
 | one h=>exact .inl (.one h)
 | @more i m j d f _ c=>
  by_cases e:m<n
  ·rcases c with c | ⟨a,b⟩
   ·exact .inl (.more d e c)
   ·exact .inr ⟨.more d e a,b⟩
  ·obtain rfl:m=n:=by omega
   rcases c with c | ⟨a,b⟩
   ·exact .inr ⟨.one d,c⟩
   ·exact .inr ⟨.one d,b⟩
theorem Thr.join {E:Nat→Nat→Prop} {n i k j:Nat} (h:Thr E n i k) (a:k<n) (g:Thr E n k j):Thr E n i j:=by
 induction h with
 | one h=>exact .more h a g
 | more c d _ b=>exact .more c d (b a g)
theorem Q4V {l:List Cla} (f:T7 l) {i j:Nat} (e:i<l.length):Edge l i j↔j<l.length∧ ∃u∈U4 l[i],u=Y1 l j∧Z1 l u=some j:=by
 unfold Edge
 rw[List.getElem?_eq_getElem e]
 constructor
 ·rintro ⟨c,d,u,b,a⟩
  cases d
  exact ⟨(S5 a).1,u,b,(S5 a).2.symm,a⟩
 ·rintro ⟨_,u,b,_,a⟩
  exact ⟨_,rfl,u,b,a⟩
theorem X0R {l:List Cla} (b:T7 l) {i:Nat} (a:i<l.length):lk l (Y1 l i)=some l[i]:=by
 have:=Yl b a
 rwa [List.getD_eq_getElem?_getD,List.getElem?_eq_getElem a] at this
theorem X0u {l:List Cla} (b:T7 l) {i j:Nat} (a:i<l.length) (h:Thr (Edge l) l.length i j):j<l.length∧Wy (lk l) (Y1 l i) (Y1 l j):=by
 induction h with
 | one h=>
  obtain ⟨d,u,f,e,g⟩:=(Q4V b a).1 h
  obtain ⟨c,o,_⟩:=Zn g
  refine ⟨d,_,X0R b a,u,f,?_⟩
  subst e;exact .refl o
 | more d n _ m=>
  obtain ⟨k,p⟩:=m n
  obtain ⟨_,u,f,e,g⟩:=(Q4V b a).1 d
  refine ⟨k,_,X0R b a,u,f,?_⟩
  subst e;exact p.reach
theorem Q9V {l:List Cla} (y:T7 l) {a b:X0} (h:Hm.Reach (lk l) a b): ∀i j,Z1 l a=some i→Z1 l b=some j→i=j∨Thr (Edge l) l.length i j:=by
 induction h with
 | refl _=>
  intro i j m f;rw[m] at f;cases f;exact .inl rfl
 | step t v s r=>
  rename_i a u b c
  intro i j m f
  obtain ⟨d,q⟩:=s.left
  obtain ⟨_,_,k,g,p⟩:=V4 q
  obtain ⟨w,e,n,_⟩:=Zn m
  rw[t] at e;cases e
  have o:Edge l i k:=⟨c,n,u,v,g⟩
  rcases r k j g f with rfl | hT
  ·exact .inr (.one o)
  ·exact .inr (.more o (S5 g).1 hT)
theorem X0M {l:List Cla} (e:T7 l) {i j:Nat} (o:i<l.length) (n:j<l.length) (h:Wy (lk l) (Y1 l i) (Y1 l j)):Thr (Edge l) l.length i j:=by
 obtain ⟨c,g,u,r,f⟩:=h
 rw[X0R e o] at g;cases g
 obtain ⟨d,q⟩:=f.left
 obtain ⟨_,_,k,b,p⟩:=V4 q
 have m:Edge l i k:=⟨_,List.getElem?_eq_getElem o,u,r,b⟩
 have a:Z1 l (Y1 l j)=some j:=by
  have:=e.find (List.getElem?_eq_getElem n)
  unfold Y1
  rw[List.getD_eq_getElem?_getD,List.getElem?_eq_getElem n];exact this
 rcases Q9V e f k j b a with rfl | hT
 ·exact .one m
 ·exact .more m (S5 b).1 hT
theorem X1N {l:List Cla} (b:T7 l) {i j:Nat} (a:i<l.length) (c:j<l.length):Thr (Edge l) l.length i j↔Xm l (Y1 l i) (Y1 l j)=true:=by
 rw[Jr]
 exact ⟨fun h=>(X0u b a h).2,X0M b a c⟩
def I6 (l:List Cla):List (List Bool):=(List.range l.length).map fun i=>(List.range l.length).map fun j=>Xm l (Y1 l i) (Y1 l j)
def Fq (m:Nat→Nat→Bool) (i j:Nat) (b:Bool):Nat→Nat→Bool:=fun x y=>if x=i∧y=j then b else m x y
structure Clos (E : Nat → Nat → Prop) (n k i j : Nat) (m : Nat → Nat → Bool) : Prop where
  sound : ∀ a b, m a b = true → Thr E n a b
  full : ∀ a b, a < n → b < n → Thr E k a b → m a b = true
  done : ∀ a b, a < n → b < n → (a < i ∨ (a = i ∧ b < j)) → Thr E (k + 1) a b → m a b = true
theorem Clos.next {E:Nat→Nat→Prop} {n k i j:Nat} {m:Nat→Nat→Bool} (h:Clos E n k i j m) (q:k<n) (t:i<n) (s:j<n):Clos E n k i (j+1) (Fq m i j (m i j||(m i k&&m k j))):=by
 have f: ∀a b,m a b=true→Fq m i j (m i j||(m i k&&m k j)) a b=true:=by
  intro a b c
  unfold Fq
  split
  ·rename_i e;rw[←e.1,←e.2,c];rfl
  ·exact c
 refine ⟨fun a b c=>?_,fun a b r o l=>f a b (h.full a b r o l),fun a b r o p l=>?_⟩
 ·unfold Fq at c
  split at c
  ·rename_i e
   obtain ⟨rfl,rfl⟩:=e
   simp only[Bool.or_eq_true,Bool.and_eq_true] at c
   rcases c with d | ⟨d,g⟩
   ·exact h.sound _ _ d
   ·exact (h.sound _ _ d).join q (h.sound _ _ g)
  ·exact h.sound _ _ c
 ·by_cases e:a=i∧b=j
  ·obtain ⟨rfl,rfl⟩:=e
   unfold Fq
   rw[if_pos ⟨rfl,rfl⟩]
   rcases l.cut with d | ⟨d,g⟩
   ·rw[h.full _ _ t s d];rfl
   ·rw[h.full _ _ t q d,h.full _ _ q s g];simp
  ·refine f a b (h.done a b r o ?_ l)
   rcases p with d | ⟨d,g⟩
   ·exact .inl d
   ·right;refine ⟨d,?_⟩
    have:b≠j:=fun u=>e ⟨d,u⟩
    omega
theorem Clos.row {E:Nat→Nat→Prop} {n k i:Nat} {m:Nat→Nat→Bool} (h:Clos E n k i n m):Clos E n k (i+1) 0 m:=
 ⟨h.sound,h.full,fun a b f d c e=>h.done a b f d (by omega) e⟩
theorem Clos.round {E:Nat→Nat→Prop} {n k:Nat} {m:Nat→Nat→Bool} (h:Clos E n k n 0 m):Clos E n (k+1) 0 0 m:=
 ⟨h.sound,fun a b c d e=>h.done a b c d (.inl c) e,fun a b c d f e=>by omega⟩
theorem Clos.start {E:Nat→Nat→Prop} {n:Nat} {m:Nat→Nat→Bool} (h: ∀a b,a<n→(m a b=true↔E a b)) (j: ∀a b,n≤a→m a b=false):Clos E n 0 0 0 m:=by
 refine ⟨fun a b c=>?_,fun a b d g f=>?_,fun a b d g i f=>by omega⟩
 ·by_cases d:a<n
  ·exact .one ((h a b d).1 c)
  ·rw[j a b (by omega)] at c;cases c
 ·cases f with
  | one e=>exact (h a b d).2 e
  | more _ k _=>omega
theorem Clos.all {l:List Cla} (c:T7 l) {m:Nat→Nat→Bool} (h:Clos (Edge l) l.length l.length 0 0 m) {i j:Nat} (b:i<l.length) (a:j<l.length):m i j=Xm l (Y1 l i) (Y1 l j):=by
 rw[Bool.eq_iff_iff,←X1N c b a]
 exact ⟨h.sound i j,h.full i j b a⟩
end Go.Hm

namespace Go.Emb
open Go.RowKit Go.Hm
variable {P : Program} {w w0 w1 w' w'' : World} {K : Value → World → Prop} {σ σ0 σ1 σ' : Q6}
theorem X3b {t e:TypeId} {a n:Nat} {z:Value} [ts:TS P t e] [tz:TZ P e 1 a z] (j:X2 w σ) (k:z.cells= #[z]) (o:n≤1000000) (p:a*n≤281474976710656)
 (h: ∀b w',w.heap.size≤b→Stp w σ w' σ→Y3 σ w' b (List.replicate n z)→K (.slice (some ⟨b,0,none⟩) n n) w'):Dq P t (I n) (I n) w K:=by
 obtain ⟨i,m,d,g,c⟩:=tz.info
 have f:(i.bytes:Int)*(n:Int)≤281474976710656:=by
  rw[g]
  have:((a*n:Nat):Int)≤281474976710656:=by omega
  rwa [Int.natCast_mul] at this
 have l:=run_makeSlice (P:=P) w t e i z ts.h m c .i64 .i64 (n:Int) (n:Int) (by omega) (Int.le_refl _) (by rw[d];simp only[Int.toNat_natCast];omega) f (by omega)
 unfold Dq
 rw[X9 l]
 simp only[Int.toNat_natCast,d,Nat.mul_one]
 refine h _ _ (Nat.le_refl _) (Stp.own j _) ⟨j.none (Nat.le_refl _),e,?_⟩
 rw[heap_alloc_new,k]
 have:madeCells #[z] n=(List.replicate n z).toArray:=by rw[←toList_madeCells_one,Array.toArray_toList]
 rw[this]
def Q68 (n:Nat) (_:Q6) (b:Nat) (cs:List Value):Prop:=cs=[.slice (some ⟨b,0,none⟩) n n]
instance (n:Nat):Rep (Q68 n):=⟨fun _ h=>h,fun h u hu=>by rw[h] at hu;simp at hu;subst hu;rfl⟩
def Q66 (σ:Q6) (xs:List Bool) (cs:List Value):Prop:= ∃v,cs=[v]∧Sl 1 Q3o σ v xs
instance:Rep Q66:=⟨fun k h=>by obtain ⟨v,h1,h2⟩:=h;exact ⟨v,h1,h2.le k⟩,fun h u hu=>by
 obtain ⟨v,rfl,a,cap,rfl,_⟩:=h
 simp at hu;subst hu;rfl⟩
def bools (n:Nat) (f:Nat→Bool):List Value:=(List.range n).map fun j=> .bool (f j)
theorem Q10 {n:Nat} {f:Nat→Bool}:(bools n f).length=n:=by simp[bools]
theorem Q4v {n j:Nat} {f:Nat→Bool} (h:j<n):(bools n f)[j]? =some (.bool (f j)):=by simp[bools,h]
theorem Q4s {n j:Nat} {f:Nat→Bool} {b:Bool}:(bools n f).set j (.bool b)=bools n (fun x=>if x=j then b else f x):=by
 apply List.ext_getElem?
 intro k
 rw[List.getElem?_set]
 by_cases a:k<n
 ·by_cases e:j=k
  ·subst e;simp[bools,a]
  ·have c: ¬k=j:=fun h=>e h.symm
   simp[bools,a,e,c]
 ·simp[bools,a]
  intro e;omega
theorem Q74 {n:Nat}:List.replicate n (Value.bool false)=bools n fun _=>false:=by
 apply List.ext_getElem?
 intro k
 by_cases a:k<n<;>simp[bools,a]
def Xf (σ:Q6) (w:World) (a:List Nat) (n:Nat) (m:Nat→Nat→Bool):Prop:=a.Nodup∧ ∀i (h:i<a.length),Y3 σ w a[i] (bools n (m i))
theorem Xf.up {a:List Nat} {n:Nat} {m:Nat→Nat→Bool} (h:Xf σ w a n m) (k:Stp w σ w' σ'):Xf σ' w' a n m:=⟨h.1,fun i b=>(h.2 i b).up k⟩
theorem Xf.kp {a:List Nat} {n:Nat} {m:Nat→Nat→Bool} {D:Nat→Prop} (h:Xf σ w a n m) (k:Kpt D w w') (d: ∀b∈a,¬D b):Xf σ w' a n m:=⟨h.1,fun i c=>(h.2 i c).kp k (d _ (List.getElem_mem c))⟩
theorem Xf.lt {a:List Nat} {n:Nat} {m:Nat→Nat→Bool} (h:Xf σ w a n m) {b:Nat} (d:b∈a):b<w.heap.size∧σ b=none:=by
 obtain ⟨i,c,rfl⟩:=List.getElem_of_mem d
 exact ⟨(h.2 i c).lt,(h.2 i c).1⟩
theorem Xf.snoc {d:List Nat} {n b:Nat} {m:Nat→Nat→Bool} {f:Nat→Bool} (h:Xf σ w d n m) (k:b∉d) (p:Y3 σ w b (bools n f)):Xf σ w (d++[b]) n (fun x=>if x=d.length then f else m x):=by
 refine ⟨by rw[List.nodup_append];exact ⟨h.1,by simp,fun a l c g e=>by simp at g;subst g;subst e;exact k l⟩,fun i o=>?_⟩
 rw[List.length_append,List.length_singleton] at o
 by_cases j:i<d.length
 ·rw[List.getElem_append_left j]
  simp only[if_neg (show¬i=d.length by omega)]
  exact h.2 i j
 ·obtain rfl:i=d.length:=by omega
  simp only[List.getElem_concat_length,if_true]
  exact p
theorem Xf.congr {a:List Nat} {n:Nat} {m m':Nat→Nat→Bool} (h:Xf σ w a n m) (c: ∀i,i<a.length→m i=m' i):Xf σ w a n m':=⟨h.1,fun i b=>c i b▸h.2 i b⟩
theorem Xf.keep {a:List Nat} {n:Nat} {m:Nat→Nat→Bool} (R:0<n) (u:n≤1000000): ∀{σ:Q6},Xf σ w a n m→Stp w0 σ0 w σ→(∀b∈a,w0.heap.size≤b)→ ∃σ',Stp w0 σ0 w σ'∧SLe σ σ'∧ ∀i (h:i<a.length),Sl 1 Q3o σ' (.slice (some ⟨a[i],0,none⟩) n n) ((List.range n).map (m i)):=by
 intro σ h E B
 have key: ∀k,k≤a.length→ ∃σ',Stp w0 σ0 w σ'∧SLe σ σ'∧(∀i (h:i<a.length),i<k→Z6 σ' ⟨a[i],0,none⟩ (bools n (m i)))∧ ∀i (h:i<a.length),k≤i→σ' a[i]=none:=by
  intro k
  induction k with
  | zero=>intro _;exact ⟨σ,E,SLe.refl _,fun i _ h=>by omega,fun i c _=>(h.2 i c).1⟩
  | succ k C=>
   intro V
   obtain ⟨σ1,p,g,l,r⟩:=C (by omega)
   have d:k<a.length:=by omega
   have N:Y3 σ1 w a[k] (bools n (m k)):=⟨r k d (Nat.le_refl _),(h.2 k d).2⟩
   obtain ⟨Q,L,O,t,H⟩:=N.keep p (B _ (List.getElem_mem d))
   refine ⟨Q,L,g.more ⟨t⟩,fun i c M=>?_,fun i c y=>?_⟩
   ·by_cases e:i=k
    ·subst e;exact O
    ·exact (l i c (by omega)).le t
   ·rw[H]
    ·exact r i c (by omega)
    ·intro e
     have:=List.nodup_iff_pairwise_ne.1 h.1
     rw[List.pairwise_iff_getElem] at this
     exact this k i d c (by omega) e.symm
 obtain ⟨σ1,p,g,l,_⟩:=key a.length (Nat.le_refl _)
 refine ⟨σ1,p,g,fun i c=>⟨some ⟨a[i],0,none⟩,n,by simp,by simp,by simp only[maxLen];omega,fun e=>(by cases e),?_⟩⟩
 intro b D
 obtain rfl:=Option.some.inj D
 refine ⟨fun _=>rfl,fun j x q=>?_⟩
 have s:j<n:=by have:=(List.getElem?_eq_some_iff.1 q).1;simpa using this
 obtain ⟨U,arr,e,J,A,z⟩:=l i c c
 have o:x=m i j:=by simp[s] at q;exact q.symm
 refine ⟨[.bool x],⟨K2 rfl _,arr,e,J,by rw[S9];exact A,fun k v f=>?_⟩,rfl,rfl⟩
 obtain rfl:k=0:=by cases k with
  | zero=>rfl
  | succ k=>simp at f
 simp at f
 rw[Qf,←f,o]
 have:=z j _ (Q4v s)
 simpa using this
end Go.Emb

namespace Go.Emb
open Go.RowKit Go.Hm
variable {P : Program} {w w0 w1 w' w'' : World} {K : Value → World → Prop} {σ σ0 σ1 σ' : Q6}
theorem Q1v {t e:TypeId} {sz b:Nat} {z:Value} [ts:TS P t e] [tz:TZ P e sz b z] {a:Addr} {n c i:Nat} (f:i<n) (d:K (.pointer (some (a.add (i*sz)))) w):indexAddr P t (.slice (some a) n c) (I i) w K:=by
 rw[Se (by omega) (by omega)]
 simpa using d
theorem Xf.nx {D:Nat→Prop} {a:List Nat} {n:Nat} {m:Nat→Nat→Bool} (h:Xf σ w a n m) (k:Nxt D w σ w' σ') (d: ∀b∈a,¬D b):Xf σ' w' a n m:=
 ⟨h.1,fun i c=>(h.2 i c).nx k (d _ (List.getElem_mem c))⟩
theorem Xf.set {a:List Nat} {n i j:Nat} {b:Bool} {m:Nat→Nat→Bool} (h:Xf σ w a n m) (g:i<a.length) (o:Upd w a[i] w') (d:Y3 σ w' a[i] ((bools n (m i)).set j (.bool b))):Xf σ w' a n (Fq m i j b):=by
 refine ⟨h.1,fun k c=>?_⟩
 by_cases e:k=i
 ·subst e
  rw[Q4s] at d
  have:Fq m k j b k=fun x=>if x=j then b else m k x:=by funext x;simp[Fq]
  rw[this];exact d
 ·have:Fq m i j b k=m k:=by funext x;simp[Fq,e]
  rw[this]
  refine (h.2 k c).upd o fun f=>e ?_
  rcases Nat.lt_trichotomy k i with hlt | hlt | hlt
  ·have:=List.nodup_iff_pairwise_ne.1 h.1
   rw[List.pairwise_iff_getElem] at this
   exact absurd f (this k i c g hlt)
  ·exact hlt
  ·have:=List.nodup_iff_pairwise_ne.1 h.1
   rw[List.pairwise_iff_getElem] at this
   exact absurd f.symm (this i k g c hlt)
end Go.Emb
namespace Go.Proofs.YtjdiakhipmggjaaGreatDoor
open Go.Emb Go.RowKit Go.Kd Go.Hm
variable {w : World} {K : Value → World → Prop} {σ : Q6} {l : List Cla} {v : Value}
def Od (l:List Cla) (i j:Nat):Bool:=match l[i]? with
 | none=>false
 | some c=>(U4 c).any fun u=>decide (Z1 l u=some j)
theorem X0l (l:List Cla) (i j:Nat):Od l i j=true↔Hm.Edge l i j:=by
 unfold Od Hm.Edge
 cases h:l[i]? with
 | none=>simp
 | some c=>simp[List.any_eq_true]
theorem Q9Q {l:List Cla} {i j:Nat} (h:l.length≤i):Od l i j=false:=by
 unfold Od
 rw[List.getElem?_eq_none h]
set_option maxHeartbeats 4000000 in
theorem Q1e (hs:X2 w σ) (hl:Sl 8 V0 σ v l) (ho:T7 l) (hpos:0<l.length) (hlen:l.length≤1000) (hsm: ∀c∈l,Qw c)
 (h: ∀v' w' σ',Stp w σ w' σ'→Sl 1 Q66 σ' v' (I6 l)→K v' w'):Q1 P F.an [v] w K:=Ix (by
 unfold Nu
 refine Hl (R:=Q68 l.length) (e:=T.a6) (Stp.refl hs) (by decide) fun x0 w1 hk1 ha1 _=>?_
 refine H0 l.length (fun n x w'=> ∃σ' bs,Stp w σ w' σ'∧V6 w.heap.size T.a6 1 (Q68 l.length) σ' w' x bs∧Xf σ' w' bs l.length (Od l)∧bs.length=n∧ ∀b∈bs,w.heap.size≤b∧x.ownBlock≠some b) ⟨σ,[],hk1,ha1,⟨List.nodup_nil,by simp⟩,rfl,by simp⟩ fun n x w2 d hn hinv=>?_
 obtain ⟨σ2,bs,hS2,ha2,hM2,hbl,hb2⟩:=hinv
 refine Q8 (hl.up hS2) ?_
 refine Z2 ?_
 refine Q7 (fun hc=>?_) (fun hc=>?_)
 ·have hn':n<l.length:=by simpa using hc
  have hl2:=hl.up hS2
  refine Q8 hl2 ?_
  refine X3b hS2.sat rfl (by omega) (by omega) fun b w3 hb3 hk3 hm3=>?_
  rw[Q74] at hm3
  obtain ⟨lv,fv,mv,p1,r1⟩:=hl2.elC hn'
  obtain ⟨g1,_,_,g4,g5⟩:=r1.parts
  have hsmc:=hsm _ (List.getElem_mem hn')
  have hs3:=hk3.sat
  refine U2 hs3 ?_
  (repeat refine Z8 Qd ?_)
  refine Q1L (w:=w3) (σ:=σ2) (R:=U9) (sz:=1) (e:=T.c) [l[n].super] (fun t w hb e=>?_) ?_
  ·subst e;exact Zf hb.stp [_] [l[n].super] rfl rfl (by simp;rfl) rfl ⟨⟨rfl,g5⟩,trivial⟩ fun v' w' hk ha _=>Q3m hb hk ha
  (repeat refine Z8 Qd ?_)
  rintro t24 t25 t30 t31 t26 t27 t32 w4 hb4 rfl rfl rfl rfl rfl ⟨f27,a27⟩ rfl
  refine Wk f27 a27 g1 rfl (by simp;have:=hsmc.1;omega) (by simp;have:=hsmc.1;omega) fun v5 w5 hn5 hS5 ha5 hat5=>?_
  obtain ⟨σ6,hS6,hv6,le6,_⟩:=ha5.keep hS5
  have hv6:Sl 1 U9 σ6 v5 (U4 l[n]):=hv6
  have hb3w:w.heap.size≤b:=Nat.le_trans hS2.bel.size hb3
  have hm6:=hm3.up hS6
  have ha6:=(ha2.up hk3).up hS6
  have hM6:=(hM2.up hk3).up hS6
  have hS26:=(hS2.trans hk3).trans hS6
  have hxb: ∀k,x.ownBlock=some k→k≠b:=fun k e=>by have:=(ha2.mem k e).2.1;omega
  have hbbs:b∉bs:=fun e=>by have:=(hM2.lt e).1;omega
  clear hm3 ha2 hM2 hS6 hS5 ha5 a27 f27 hn5 hat5
  refine U3 (U4 l[n]).length (fun k w'=>Stp w σ w' σ6∧V6 w.heap.size T.a6 1 (Q68 l.length) σ6 w' x bs∧Xf σ6 w' bs l.length (Od l)∧Y3 σ6 w' b (bools l.length fun j=>((U4 l[n]).take k).any fun u=>decide (Z1 l u=some j)))
   ⟨hS26,ha6,hM6,hm6⟩ fun k w7 d7 hk hinv=>?_
  obtain ⟨hS7,ha7,hM7,hm7⟩:=hinv
  refine Q8 hv6 ?_
  refine Z2 ?_
  refine Q7 (fun hc=>?_) (fun hc=>?_)
  ·have hk':k<(U4 l[n]).length:=by simpa using hc
   refine U7 ?_
   refine Y2 hv6 hk' ?_
   obtain ⟨p2,p3⟩:=hv6.elS hk'
   refine X7 hS7.sat p2 rfl ?_
   refine I9 hS7.sat (hl.up hS7) ?_
   refine P3 ?_
   rw[T9]
   have hnx: ∀f:Nat→Bool,(∀j,f j=(((U4 l[n]).take k).any (fun u=>decide (Z1 l u=some j))||decide (Z1 l (U4 l[n])[k]=some j)))→f=fun j=>((U4 l[n]).take (k+1)).any fun u=>decide (Z1 l u=some j):=by
    intro f hf;funext j;rw[hf,L4 hk']
   cases hfc:Z1 l (U4 l[n])[k] with
   | none=>
    simp only[Option.isSome_none,↓M1,M1,Mb,reduceIte]
    intro d
    refine Y6 hv6.max hk' ⟨hS7,ha7,hM7,?_⟩
    rw[←hnx (fun j=>((U4 l[n]).take k).any fun u=>decide (Z1 l u=some j)) (fun j=>by rw[hfc];simp)]
    exact hm7
   | some j=>
    have hj:=(S5 hfc).1
    simp only[Option.isSome_some,L7,↓M1,M1,Mb,reduceIte]
    refine Q1v hj ?_
    rw[Nat.mul_one]
    refine Ue hm7 (by rw[Q10];exact hj) (by rfl) (by rfl) fun w8 u8 hm8=>?_
    intro d
    rw[Q4s] at hm8
    refine Y6 hv6.max hk' ⟨u8.stp hS7 hb3w hm7.1,ha7.kp (D:=(· =b)) (.of_upd u8 rfl) hxb,hM7.kp (D:=(· =b)) (.of_upd u8 rfl) (fun c hc e=>hbbs (e▸hc)),?_⟩
    rw[←hnx (fun x=>if x=j then true else _) (fun i=>?_)]
    ·exact hm8
    ·rw[hfc]
     by_cases e:i=j
     ·subst e;simp
     ·have: ¬j=i:=fun e'=>e e'.symm
      simp[e,this]
  ·have hk': ¬k<(U4 l[n]).length:=by simpa using hc
   have hk0:k=(U4 l[n]).length:=by omega
   subst hk0
   rw[List.take_of_length_le (Nat.le_refl _)] at hm7
   have hef:(fun j=>(U4 l[n]).any fun u=>decide (Z1 l u=some j))=Od l n:=by
    funext j;unfold Od;rw[List.getElem?_eq_getElem hn']
   rw[hef] at hm7
   have hM8:=(hM7.snoc hbbs hm7).congr (m':=Od l) (fun i _=>by
    by_cases e:i=bs.length
    ·rw[if_pos e,e,hbl]
    ·rw[if_neg e])
   refine Jo (R:=Q68 l.length) (x:=b) hS7 ha7 rfl rfl rfl rfl (by omega) (by omega) fun s v' w9 σ9 hnx hS9 ha9 hat=>?_
   have hdis: ∀c∈bs++[b],w.heap.size≤c∧x.ownBlock≠some c:=by
    intro c hc
    rcases List.mem_append.1 hc with hc | hc
    ·exact hb2 c hc
    ·simp at hc;subst hc;exact ⟨hb3w,fun e=>hxb _ e rfl⟩
   have hlt9: ∀c∈bs++[b],c<w7.heap.size:=fun c hc=>(hM8.lt hc).1
   refine O8 ?_
   refine J6 (by omega) hn' ⟨σ9,bs++[b],hS9,ha9,hM8.nx hnx (fun c hc=>(hdis c hc).2),by rw[List.length_append,hbl];rfl,fun c hc=>⟨(hdis c hc).1,fun e=>?_⟩⟩
   rcases hat with hat | hat
   ·exact (hdis c hc).2 (hat▸e)
   ·have:=hat c e;have:=hlt9 c hc;omega
 ·have hn0:n=l.length:=by
   have: ¬n<l.length:=by simpa using hc
   omega
  obtain ⟨σ8,hS8,hv8,le8,old8⟩:=ha2.keep hS2
  have hlb:bs.length=l.length:=by omega
  have hM8:Xf σ8 w2 bs l.length (Od l):=⟨hM2.1,fun i hi=>⟨(old8 _ (fun e=>(hb2 _ (List.getElem_mem hi)).2 e.symm)).trans (hM2.2 i hi).1,(hM2.2 i hi).2⟩⟩
  have hpx: ∀i (hi:i<bs.length),Z6 σ8 (Vw 1 x i) [.slice (some ⟨bs[i],0,none⟩) l.length l.length]:=fun i hi=>by
   obtain ⟨cs,h1,_,h2⟩:=hv8.el hi
   have h2:cs=_:=h2
   subst h2;exact h1
  clear ha2 hM2 hS2 le8 old8
  refine U3 l.length (fun k w'=> ∃m,Stp w σ w' σ8∧Xf σ8 w' bs l.length m∧Clos (Hm.Edge l) l.length k 0 0 m) ⟨Od l,hS8,hM8,Clos.start (fun a b _=>X0l l a b) (fun a b h=>Q9Q h)⟩ fun k w3 d3 hk3 hinv=>?_
  obtain ⟨m3,hS3,hM3,hC3⟩:=hinv
  refine Q8 (hl.up hS3) ?_
  refine Z2 ?_
  refine Q7 (fun hc=>?_) (fun hc=>?_)
  ·have hk':k<l.length:=by simpa using hc
   refine U3 l.length (fun i w'=> ∃m,Stp w σ w' σ8∧Xf σ8 w' bs l.length m∧Clos (Hm.Edge l) l.length k i 0 m) ⟨m3,hS3,hM3,hC3⟩ fun i w4 d4 hi4 hinv=>?_
   obtain ⟨m4,hS4,hM4,hC4⟩:=hinv
   refine Q8 (hl.up hS4) ?_
   refine Z2 ?_
   refine Q7 (fun hc=>?_) (fun hc=>?_)
   ·have hi':i<l.length:=by simpa using hc
    refine U3 l.length (fun j w'=> ∃m,Stp w σ w' σ8∧Xf σ8 w' bs l.length m∧Clos (Hm.Edge l) l.length k i j m) ⟨m4,hS4,hM4,hC4⟩ fun j w5 d5 hj5 hinv=>?_
    obtain ⟨m5,hS5,hM5,hC5⟩:=hinv
    refine Q8 (hl.up hS5) ?_
    refine Z2 ?_
    refine Q7 (fun hc=>?_) (fun hc=>?_)
    ·have hj':j<l.length:=by simpa using hc
     have hi6:i<bs.length:=by omega
     have hk6:k<bs.length:=by omega
     have px_i:=hpx i hi6
     have px_k:=hpx k hk6
     have hrd: ∀{w':World} {K:Value→World→Prop} {a b:Nat} {ha:a<bs.length},Hst w5 σ8 w' σ8→b<l.length→K (.bool (m5 a b)) w'→Q2 P T.u (.pointer (some ((⟨bs[a],0,none⟩:Addr).add (b*1)))) w' K:=fun hst hb hK=>by
      rw[Nat.mul_one]
      exact Qg (((hM5.up hst.stp).2 _ _).cell (Q4v hb)) hK
     refine U2 hS5.sat ?_
     (repeat (apply Z8;(· intros;(repeat (rename_i hx;subst hx));(repeat' (first | (with_reducible exact L1 rfl) | (with_reducible exact S3 (Stp.bel (by (repeat (first | exact Stp.refl (by (first | assumption | exact Stp.sat (by assumption) | exact Hst.sat (by assumption))) | assumption | refine Stp.trans ?_ (by first | assumption | exact Hst.stp (by assumption)))))) rfl) | (with_reducible intro _) | (simp only[↓M2,M2,Mb,reduceIte]) | (with_reducible refine Q1v au ?_) | (with_reducible refine hrd au au ?_) | (with_reducible show Q2 _ _ _ _ _;first | refine X7 aS aL aR ?_ | refine Y5 aS aL aR ?_ | refine ld aS aL aR ?_) | (with_reducible show indexAddr _ _ _ _ _ _;refine Y2 aL au ?_) | (with_reducible show X3 _ _ _ _ _ _ _ _;refine Q8 aL ?_) | (with_reducible show F5 _ _ _ _ _ _;refine J4 aR ?_) | (with_reducible show pick _ _ _ _ _ _;refine M3 ?_) | (apply G2;intro hh;(try simp only[hh,reduceIte,↓M2,M2,Mb,reduceIte]))));done)))
     cases h1:m5 i j
     ·simp only[reduceIte]
      (repeat (apply Z8;(· intros;(repeat (rename_i hx;subst hx));(repeat' (first | (with_reducible exact L1 rfl) | (with_reducible exact S3 (Stp.bel (by (repeat (first | exact Stp.refl (by (first | assumption | exact Stp.sat (by assumption) | exact Hst.sat (by assumption))) | assumption | refine Stp.trans ?_ (by first | assumption | exact Hst.stp (by assumption)))))) rfl) | (with_reducible intro _) | (simp only[↓M2,M2,Mb,reduceIte]) | (with_reducible refine Q1v au ?_) | (with_reducible refine hrd au au ?_) | (with_reducible show Q2 _ _ _ _ _;first | refine X7 aS aL aR ?_ | refine Y5 aS aL aR ?_ | refine ld aS aL aR ?_) | (with_reducible show indexAddr _ _ _ _ _ _;refine Y2 aL au ?_) | (with_reducible show X3 _ _ _ _ _ _ _ _;refine Q8 aL ?_) | (with_reducible show F5 _ _ _ _ _ _;refine J4 aR ?_) | (with_reducible show pick _ _ _ _ _ _;refine M3 ?_) | (apply G2;intro hh;(try simp only[hh,reduceIte,↓M2,M2,Mb,reduceIte]))));done)))
      (intros;(repeat (rename_i hx;subst hx));(try simp only[↓M2,M2,Mb,reduceIte]))
      rename_i w6 hb6
      refine Q1v hj' ?_
      rw[Nat.mul_one]
      refine Eq.subst (motive:=fun V=>Y0 P T.u (.pointer (some ((⟨bs[i],0,none⟩:Addr).add j))) V w6 _) (show Value.bool (m5 i j||(m5 i k&&m5 k j))=_ from by cases h2:m5 i k<;>simp[h1,h2]) ?_
      refine Ue ((hM5.up hb6.stp).2 i hi6) (by rw[Q10];exact hj') (by rfl) (by rfl) fun w7 u7 hm7=>?_
      (try simp only[↓M1,M1,Mb,reduceIte])
      exact Y6 (by omega) hj' ⟨_,u7.stp (hS5.trans hb6.stp) (hb2 _ (List.getElem_mem hi6)).1 hm7.1,(hM5.up hb6.stp).set hi6 u7 hm7,hC5.next hk' hi' hj'⟩
     ·simp only[Bool.true_eq_false,reduceIte]
      (repeat (apply Z8;(· intros;(repeat (rename_i hx;subst hx));(repeat' (first | (with_reducible exact L1 rfl) | (with_reducible exact S3 (Stp.bel (by (repeat (first | exact Stp.refl (by (first | assumption | exact Stp.sat (by assumption) | exact Hst.sat (by assumption))) | assumption | refine Stp.trans ?_ (by first | assumption | exact Hst.stp (by assumption)))))) rfl) | (with_reducible intro _) | (simp only[↓M2,M2,Mb,reduceIte]) | (with_reducible refine Q1v au ?_) | (with_reducible refine hrd au au ?_) | (with_reducible show Q2 _ _ _ _ _;first | refine X7 aS aL aR ?_ | refine Y5 aS aL aR ?_ | refine ld aS aL aR ?_) | (with_reducible show indexAddr _ _ _ _ _ _;refine Y2 aL au ?_) | (with_reducible show X3 _ _ _ _ _ _ _ _;refine Q8 aL ?_) | (with_reducible show F5 _ _ _ _ _ _;refine J4 aR ?_) | (with_reducible show pick _ _ _ _ _ _;refine M3 ?_) | (apply G2;intro hh;(try simp only[hh,reduceIte,↓M2,M2,Mb,reduceIte]))));done)))
      (intros;(repeat (rename_i hx;subst hx));(try simp only[↓M2,M2,Mb,reduceIte]))
      rename_i w6 hb6
      refine Q1v hj' ?_
      rw[Nat.mul_one]
      refine Eq.subst (motive:=fun V=>Y0 P T.u (.pointer (some ((⟨bs[i],0,none⟩:Addr).add j))) V w6 _) (show Value.bool (m5 i j||(m5 i k&&m5 k j))=_ from by simp[h1]) ?_
      refine Ue ((hM5.up hb6.stp).2 i hi6) (by rw[Q10];exact hj') (by rfl) (by rfl) fun w7 u7 hm7=>?_
      (try simp only[↓M1,M1,Mb,reduceIte])
      exact Y6 (by omega) hj' ⟨_,u7.stp (hS5.trans hb6.stp) (hb2 _ (List.getElem_mem hi6)).1 hm7.1,(hM5.up hb6.stp).set hi6 u7 hm7,hC5.next hk' hi' hj'⟩
    ·have hj0:j=l.length:=by
      have: ¬j<l.length:=by simpa using hc
      omega
     subst hj0
     refine O8 ?_
     exact Y6 (by omega) hi' ⟨m5,hS5,hM5,hC5.row⟩
   ·have hi0:i=l.length:=by
     have: ¬i<l.length:=by simpa using hc
     omega
    subst hi0
    refine O8 ?_
    exact Y6 (by omega) hk' ⟨m4,hS4,hM4,hC4.round⟩
  ·have hk0:k=l.length:=by
    have: ¬k<l.length:=by simpa using hc
    omega
   subst hk0
   obtain ⟨σ9,hS9,le9,hrows⟩:=hM3.keep hpos (by omega) hS3 (fun b hb=>(hb2 b hb).1)
   refine h _ _ _ hS9 ((hv8.lift le9).conv (by simp[I6,hlb]) fun i hi hj cs hcs=>?_)
   have hcs:cs=_:=hcs
   subst hcs
   refine ⟨_,rfl,?_⟩
   have:=hrows i hi
   have he:(I6 l)[i]=(List.range l.length).map (m3 i):=by
    have hi':i<l.length:=by omega
    simp only[I6,List.getElem_map,List.getElem_range]
    apply List.map_congr_left
    intro j hj
    exact (Clos.all ho hC3 hi' (by simpa using hj)).symm
   rw[he];exact this)
end Go.Proofs.YtjdiakhipmggjaaGreatDoor

namespace Go.Emb
open Go.RowKit Go.Hm
end Go.Emb
namespace Go.Hm
end Go.Hm
namespace Go.Proofs.YtjdiakhipmggjaaGreatDoor
open Go.Emb Go.RowKit Go.Kd Go.Hm
variable {w : World} {K : Value → World → Prop} {σ : Q6} {l : List Cla}
end Go.Proofs.YtjdiakhipmggjaaGreatDoor

namespace Go.Emb
open Go.RowKit Go.Hm
variable {w w0 w1 w' w'' : World} {σ σ0 σ1 σ2 σ' : Q6}
theorem Stp.weak (h:Stp w σ1 w' σ2) (a: ∀b o,σ b=some o→σ1 b=some o):Stp w σ w' σ:=
 ⟨h.bel,fun b o e=>h.sat b o (h.le b o (a b o e)),fun _ _ e=>e,fun _ _=>rfl⟩
end Go.Emb
namespace Go.Proofs.YtjdiakhipmggjaaGreatDoor
open Go.Emb Go.RowKit Go.Kd Go.Hm
variable {w : World} {K : Value → World → Prop} {σ : Q6}
end Go.Proofs.YtjdiakhipmggjaaGreatDoor

namespace Go.Emb
open Go.RowKit Go.Hm
variable {w w' : World} {σ σ' : Q6}
theorem J9.raise {α:Type} {R:Q6→α→List Value→Prop} {B B' sz:Nat} {e:TypeId} {v:Value} {xs:List α} (h:J9 B' e sz R σ w v xs) (m: ∀k,v.ownBlock=some k→B≤k):J9 B e sz R σ w v xs:=by
 obtain ⟨a,j,rfl,r,n,d,p⟩:=h
 refine ⟨a,j,rfl,r,n,fun b c=>⟨(d b c).1,m _ (by subst c;rfl),(d b c).2.2⟩,fun o=>?_⟩
 obtain ⟨g,i,f,rfl,s,q⟩:=p o
 exact ⟨g,i,f,rfl,m g rfl,q⟩
end Go.Emb
namespace Go.Proofs.YtjdiakhipmggjaaGreatDoor
open Go.Emb Go.RowKit Go.Kd Go.Hm
variable {w w' : World} {K : Value → World → Prop} {σ σ' : Q6} {hp tv : Value} {room : Int} {cs : List Cel} {l : List Cla}
theorem RowsIs.rows {B:Nat} {D:Nat→Prop} {g:Value} (h:RowsIs B D σ w g cs) (C:X2 w σ): ∃vs σ',vs.length=cs.length∧X2 w σ'∧SLe σ σ'∧Sl 2 Q46 σ' g (Xb vs cs)∧(∀i (h:i<vs.length) (A:i<cs.length),J9 B T.f 4 O9 σ w vs[i] cs[i].vals∧ ∀k,vs[i].ownBlock=some k→D k)∧(∀k,¬D k→σ' k=σ k)∧
 ∀i (h:i<vs.length) (A:i<cs.length) vals' n,Kpt (fun k=>vs[i].ownBlock=some k) w n→J9 B T.f 4 O9 σ n vs[i] vals'→RowsIs B D σ n g (cs.set i ⟨cs[i].kind,vals'⟩):=by
 obtain ⟨vs,u,f,t,hD⟩:=h.ex
 obtain ⟨p,s⟩:=List.pairwise_cons.1 t
 obtain ⟨σ',E,y,z,o1⟩:=u.freeze C
 refine ⟨vs,σ',f.1,E,y,z,fun i b d=>⟨f.2 i b d,fun k c=>(hD k).2 ⟨vs[i],by simp[List.getElem_mem b],c⟩⟩,fun k c=>o1 k fun e=>c ((hD k).2 ⟨g,by simp,e.symm⟩),fun i b d vals' n c v=>⟨vs,?_,⟨by simpa using f.1,fun j q o=>?_⟩,t,hD⟩⟩
 ·have e:Xb vs (cs.set i ⟨cs[i].kind,vals'⟩)=Xb vs cs:=by
   refine List.ext_getElem (by simp[Xb]) fun j J H=>?_
   simp only[Xb,List.getElem_zipWith,List.getElem_set]
   split
   ·rename_i e;subst e;rfl
   ·rfl
  rw[e]
  exact u.kp c fun k a m=>p _ (List.getElem_mem b) k a m
 ·have r:j<cs.length:=by simpa using o
  simp only[List.getElem_set]
  by_cases e:i=j
  ·subst e;simp only[if_pos];exact v
  ·simp only[if_neg e]
   refine (f.2 j q r).kp c fun k a m=>?_
   have hp:=List.pairwise_iff_getElem.1 s
   rcases Nat.lt_or_gt_of_ne e with hlt | hlt
   ·exact hp i j b q hlt k m a
   ·exact hp j i q b hlt k a m
theorem Q9u {i:Nat} (a:i<cs.length) {vals':List Val} (h:vals'.length=cs[i].vals.length):Z7 (cs.set i ⟨cs[i].kind,vals'⟩)=Z7 cs:=by
 unfold Z7
 rw[List.map_set]
 simp only[h]
 have b:1+(cs[i].vals.length:Int)=(cs.map (fun c=>1+(c.vals.length:Int)))[i]'(by simpa using a):=by simp
 rw[b,List.set_getElem_self]
set_option maxHeartbeats 1000000 in
theorem X1M {B:Nat} {D:Nat→Prop} {r i:Int} {v:Val} (hs:X2 w σ) (hg:Glb σ) (h:HeapIs B D σ w hp tv room cs) (ht:Tab σ tv l) (ok:Ok l) (good: ∀c∈cs,GoodC W8 l cs c) (hv:O9 σ v [I v.sort,I v.n,S v.s,I v.ref])
 (hh: ∀w' σ',Nxt D w σ w' σ'→HeapIs B D σ' w' hp tv room (H6 W8 l cs r i v).1→K (I (H6 W8 l cs r i v).2) w'):Q1 P F.b5 [hp,I r,I i, .agg [I v.sort,I v.n,S v.s,I v.ref].toArray] w K:=Q1Y (by
 unfold Ht
 refine Y9 hs fun q w1 σ1 hk1 hq=>?_
 have h1:=h.up hk1
 have hs1:=hk1.sat
 obtain ⟨σf,sf,lef,hsl,_⟩:=h1.freeze hs1
 refine Q7A sf hsl ?_
 unfold H6 at hh
 refine Qx ?_
 by_cases h0:D9 cs r i=0
 case neg=>
  have e:decide (D9 cs r i=0)=false:=decide_eq_false h0
  rw[if_pos h0] at hh
  rw[e]
  refine J7 ?_
  exact hh _ _ (.of_stp hk1) h1
 have e:decide (D9 cs r i=0)=true:=decide_eq_true h0
 rw[if_neg (fun hn=>hn h0)] at hh
 rw[e]
 refine J0 ?_
 obtain ⟨j,m,rfl,rfl,hj,hm⟩:=Lm h0
 rw[W4 hj,Int.toNat_natCast] at hh
 have hsl0:=hsl
 obtain ⟨a,lv,rfl,la,ls⟩:=hsl
 obtain ⟨vv,p1,p2,p3⟩:=Sl.elO ls hj
 have hqf:=hq.lift lef
 have lesf:SLe σ σf:=SLe.more ⟨hk1.le⟩ lef
 have htf:=ht.lift lesf
 have hone:vv.cells= #[vv]∧vv.oneCell'=true:=by obtain ⟨a,c,rfl,_⟩:=p2;exact ⟨rfl,rfl⟩
 have hgc:=good cs[j] (List.getElem_mem hj)
 have hif:elem cs[j].kind=[]→m<(Y4 l cs[j].kind).length:=fun e=>by
  rcases hgc.is with h | h
  ·exact absurd e h
  ·rw[←h.2];exact hm
 refine U2 sf ?_
 (repeat (apply Z8;(· intros;(repeat (rename_i hx;subst hx));(repeat' (first | (with_reducible exact L1 rfl) | (with_reducible exact S3 (Stp.bel (by (repeat (first | exact Stp.refl (by (first | assumption | exact Stp.sat (by assumption) | exact Hst.sat (by assumption))) | assumption | refine Stp.trans ?_ (by first | assumption | exact Hst.stp (by assumption)))))) rfl) | (with_reducible intro _) | (simp only[↓M2,M2,Mb,reduceIte]) | (with_reducible show Q2 _ _ _ _ _;first | refine X7 aS aL aR ?_ | refine Y5 aS aL aR ?_ | refine ld aS aL aR ?_) | (with_reducible show indexAddr _ _ _ _ _ _;refine Y2 aL au ?_) | (with_reducible show X3 _ _ _ _ _ _ _ _;refine Q8 aL ?_) | (with_reducible show F5 _ _ _ _ _ _;refine J4 aR ?_) | (with_reducible show pick _ _ _ _ _ _;refine M3 ?_) | (with_reducible show Q1 _ _ _ _ _;first | refine Q9S au au au au au au au ?_) | (apply G2;intro hh;(try simp only[hh,reduceIte,↓M2,M2,Mb,reduceIte]))));done)))
 (intros;(repeat (rename_i hx;subst hx)))
 rename_i w2 hb2
 refine Q3G hb2.sat (hg.lift lesf) hsl0 htf ok hv.2.2.2.1 (Q2F ok p3 m) fun w3 σ3 hk3=>?_
 have hk13:=(hb2.stp.trans hk3).weak lef.le
 have h3:=h1.up hk13
 have hS3:=hk1.trans hk13
 have hs3:=hk13.sat
 refine Wg ?_
 cases hf:F2 W8 l cs v (Xl l cs[j].kind m) with
 | false=>
  rw[hf] at hh
  simp only[Bool.false_eq_true,if_false] at hh
  refine J7 ?_
  exact hh _ _ (.of_stp hS3) h3
 | true=>
  rw[hf] at hh
  simp only[if_true] at hh
  refine J0 ?_
  obtain ⟨b,lv',E,hpe,hbB,hm3,hr3,hE,hD⟩:=h3.ex
  obtain ⟨vs,σg,hvl,sg,leg,slg,hrow,hog,hset⟩:=hr3.rows hs3
  obtain ⟨σh,sh,leh,lih,_⟩:=(show Y3 σg w3 b _ from ⟨(hog b hE).trans hm3.1,hm3.2⟩).freeze sg
  cases hpe
  have slh:=slg.lift leh
  have hqh:=(hq.up hk13).lift (leg.more leh)
  have hjv:j<vs.length:=by rw[hvl];exact hj
  have hjo:j<(Xb vs cs).length:=by rw[Du hvl];exact hj
  obtain ⟨cs5,p5,_,r5⟩:=slh.el hjo
  have eo:(Xb vs cs)[j]=(cs[j].kind,vs[j]):=by simp[Xb]
  rw[eo] at r5
  obtain ⟨rfl,_⟩:=r5
  refine U2 sh ?_
  (repeat refine Z8 Qd ?_)
  (intros;(repeat (rename_i hx;subst hx)))
  rename_i w4 hb4
  have hk34:=Stp.of_below hs3 hb4.stp.bel
  have N34:Nxt (fun _=>False) w3 σ1 w4 σ1:= .of_stp hk34
  obtain ⟨hrj,hrD⟩:=hrow j hjv hj
  have hrj4:=hrj.up hk34
  have hv1:O9 σ1 v [I v.sort,I v.n,S v.s,I v.ref]:=hv
  refine Q3v (w0:=Td w4) (σ0:=fun _=>none) (x:=v) (Zb hk34.sat) (hrj4.mono (Nat.zero_le B)) hm rfl hv1 (Rep.one hv1) fun p u w5 hkp hb5 hq5=>?_
  have hkp5:Kpt (fun k=>vs[j].ownBlock=some k) w3 w5:=(Kpt.of_below hk34.bel).trans hkp
  have hr5:=hset j hjv hj _ w5 hkp5 (hq5.raise fun k hk=>(hrj.mem hk).1)
  have N35:Nxt (fun k=>vs[j].ownBlock=some k) w3 σ1 w5 σ1:=⟨hkp5,SLe.refl _,fun _ _=>rfl,hb5.sat⟩
  have hm5:=hm3.nx N35 fun e=>hE (hrD b e)
  have hsv:F3 cs j m v=cs.set j ⟨cs[j].kind,cs[j].vals.set m v⟩:=by unfold F3;rw[W4 hj,Int.toNat_natCast,Int.toNat_natCast]
  rw[hsv] at hh
  have htk:=Q9u hj (vals':=cs[j].vals.set m v) (by simp)
  refine hh w5 σ1 ((Nxt.of_stp hS3).chain N35 fun k _ e=>(hD k).2 (.inr (hrD k e))) ⟨b,lv',E,rfl,hbB,?_,hr5,hE,hD⟩
  rw[htk];exact hm5)
end Go.Proofs.YtjdiakhipmggjaaGreatDoor

namespace Go.Emb
open Go.RowKit Go.Hm
variable {P : Program} {w w' : World} {K : Value → World → Prop} {σ σ' : Q6}
theorem X4b {c:List TypeId} {t:TypeId} {cs:List Bool} {k:IntKind} {a b:Int} (h:K (.int k (max a b)) w):X3 P .max c t cs [.int k a, .int k b] w K:=by
 have d:(builtin .max c.toArray t cs.toArray #[.int k a, .int k b]).run P w= .ok (.value (.int k (max a b))) w:=by
  have:=run_max_int2 (P:=P) (w:=w) c.toArray t k k a b
  have e:(if b>a then b else a)=max a b:=by split<;>omega
  rw[e] at this
  simp[builtin,this]
 unfold X3
 rw[Qa];unfold T2
 rw[d];exact h
theorem X4j {c:List TypeId} {t:TypeId} {cs:List Bool} {k:IntKind} {a b:Int} (h:K (.int k (min a b)) w):X3 P .min c t cs [.int k a, .int k b] w K:=by
 have d:(builtin .min c.toArray t cs.toArray #[.int k a, .int k b]).run P w= .ok (.value (.int k (min a b))) w:=by
  have:=run_min_int2 (P:=P) (w:=w) c.toArray t k k a b
  have e:(if b<a then b else a)=min a b:=by split<;>omega
  rw[e] at this
  simp[builtin,this]
 unfold X3
 rw[Qa];unfold T2
 rw[d];exact h
theorem X45 {α:Type} {R:Q6→α→List Value→Prop} {B sz:Nat} {e:TypeId} {v:Value} {xs ys:List α} {t:TypeId} {d:Nat} {z:Value} [ts:TS P t e] [tz:TZ P e sz d z] (h:J9 B e sz R σ w v (xs++ys))
 (k: ∀f,J9 B e sz R σ w f xs→f.ownBlock=v.ownBlock→K f w):R8 P t v none (some (I xs.length)) none w K:=by
 have m:=h
 obtain ⟨a,b,rfl,n,o,g,q⟩:=m
 rw[List.length_append] at n
 have c:J9 B e sz R σ w (.slice a xs.length b) xs:=h.pre rfl
 generalize (xs++ys).length=N at*
 have hh: ∀w:World,(Instr.sliceBounds true N b none (some (I xs.length)) none).run P w= .ok (0,xs.length,b) w:=by
  intro w
  have p:(xs.length:Int)≤b:=by omega
  have j:xs.length≤b:=by omega
  simp[Instr.sliceBounds,Instr.sliceBound,asIntOf,j]
  try (intros;omega)
 unfold R8
 have:(Instr.sliceAt t (.slice a N b) none (some (I xs.length)) none).run P w= .ok (.slice (if b=0 then a else a.map (·.add (0*sz))) (xs.length-0) (b-0)) w:=by
  simp[Instr.sliceAt,run_underlying ts.h,Instr.slice,hh,L5 tz]
 rw[X9 this]
 have i:(if b=0 then a else a.map (·.add (0*sz)))=a:=by
  split
  ·rfl
  ·cases a<;>simp[add_zero]
 rw[i,Nat.sub_zero,Nat.sub_zero]
 exact k _ c (by cases a<;>rfl)
end Go.Emb
namespace Go.Proofs.YtjdiakhipmggjaaGreatDoor
open Go.Emb Go.RowKit Go.Kd Go.Hm
variable {w w' : World} {K : Value → World → Prop} {σ σ' : Q6} {hp tv : Value} {room : Int} {cs : List Cel} {l : List Cla}
theorem X3E {v:Val} {ds:List Value} {n:Int} {q:Addr} (c:X2 w σ) (d:O9 σ v ds) (f:Z6 σ q [I n]) (h: ∀w',Below w.heap.size w w'→K (.bool (G5 n v)) w'):Q1 P F.bG [.agg ds.toArray, .pointer (some q)] w K:=Q07 (by
 obtain ⟨rfl,_⟩:=d
 unfold Db
 refine Y9 c fun g w1 σ1 a b=>?_
 unfold G5 at h
 refine W6 ?_
 refine ld a.sat b rfl ?_
 refine I2 ?_
 by_cases e:v.sort=4
 ·rw[decide_eq_true e] at h⊢
  (try simp only[↓M1,M1,Mb,reduceIte])
  refine ld a.sat b rfl ?_
  refine X7 a.sat (f.up a) rfl ?_
  (try simp only[↓M1,M1,Mb,reduceIte])
  exact h _ a.bel
 ·rw[decide_eq_false e] at h⊢
  (try simp only[↓M1,M1,Mb,reduceIte])
  exact h _ a.bel)
theorem Q9m {vs:List Value} {c:Cel} (h:vs.length=cs.length+1): ∃v,Xb vs (cs++[c])=Xb (vs.take cs.length) cs++[(c.kind,v)]:=by
 refine ⟨vs[cs.length],?_⟩
 have e:vs=vs.take cs.length++[vs[cs.length]]:=by
  rw[List.take_append_getElem (by omega)]
  rw[List.take_of_length_le (by omega)]
 conv=>lhs;rw[e]
 unfold Xb
 rw[List.zipWith_append (by simp;omega)]
 rfl
theorem X3V {B n:Nat} {D:Nat→Prop} {f:Value} {c:Cel} (u:n=cs.length) (h:RowsIs B D σ w f (cs++[c])) (y: ∀a D',RowsIs B D' σ w a cs→(∀j,D' j→D j)→K a w):R8 P T.g f none (some (I n)) none w K:=by
 subst u
 obtain ⟨vs,s,q,A,hD⟩:=h.ex
 have b:vs.length=cs.length+1:=by rw[q.1];simp
 obtain ⟨E,z⟩:=Q9m (c:=c) b
 rw[z] at s
 have t:cs.length=(Xb (vs.take cs.length) cs).length:=by rw[Du (by simp[b])]
 rw[t]
 refine X45 s fun a g r=>?_
 refine y a (fun k=> ∃v∈a::vs.take cs.length,v.ownBlock=some k) ⟨vs.take cs.length,g,⟨by simp[b],fun i C m=>?_⟩,?_,fun k=>Iff.rfl⟩ ?_
 ·have o:i<vs.length:=by omega
  have:=q.2 i o (by simp;omega)
  rw[List.getElem_append_left m] at this
  simpa using this
 ·obtain ⟨e,p⟩:=List.pairwise_cons.1 A
  exact List.pairwise_cons.2 ⟨fun v hv k d=>e v (List.mem_of_mem_take hv) k (r▸d),p.sublist (List.take_sublist _ _)⟩
 ·rintro k ⟨v,hv,d⟩
  rcases List.mem_cons.1 hv with rfl | hv
  ·exact (hD k).2 ⟨f,by simp,r▸d⟩
  ·exact (hD k).2 ⟨v,by simp[List.mem_of_mem_take hv],d⟩
set_option maxHeartbeats 2000000 in
theorem X4p {B:Nat} {D:Nat→Prop} {n:Int} (hs:X2 w σ) (h:HeapIs B D σ w hp tv room cs) (hl:Z7 cs≤1048576) (hn:Yz n)
 (hh: ∀w' σ' D',Nxt D w σ w' σ'→HeapIs B D' σ' w' hp tv room (Tj cs n)→(∀j,D' j→D j)→K (.tuple #[]) w'):Q1 P F.c3 [hp,I n] w K:=Q28 (by
 have hcl:=Qt cs
 unfold Hx
 refine Q67 hs fun b0 w1 hb0 hk1 hm1=>?_
 have hm1:Y3 σ w1 b0 [I n]:=hm1
 refine Q9a hm1 rfl ?_
 refine X4b ?_
 refine st0 hm1 (by simp) rfl rfl fun w2 u2 hm2=>?_
 have hm2:Y3 σ w2 b0 [I (max n 0)]:=hm2
 unfold Tj at hh
 obtain ⟨m,hmE⟩:=Int.eq_ofNat_of_zero_le (show 0≤max n 0 by omega)
 rw[hmE] at hm2 hh
 have hmx:(m:Int)≤9223372036854775807:=by have:=hn.2;omega
 have hk2:Stp w σ w2 σ:=u2.stp hk1 hb0 hm1.1
 obtain ⟨σ2,hS2,hq2,le2,_⟩:=hm2.keep hk2 hb0
 have h2:=h.up hS2
 have hs2:=hS2.sat
 obtain ⟨σf,sf,lef,hsl,_⟩:=h2.freeze hs2
 rw[Int.toNat_natCast] at hh
 obtain ⟨a,lv,rfl,la,ls⟩:=hsl
 have hqf:=hq2.le lef.le
 refine U2 sf ?_
 (repeat (apply Z8;(· intros;(repeat (rename_i hx;subst hx));(repeat' (first | (with_reducible exact L1 rfl) | (with_reducible exact S3 (Stp.bel (by (repeat (first | exact Stp.refl (by (first | assumption | exact Stp.sat (by assumption) | exact Hst.sat (by assumption))) | assumption | refine Stp.trans ?_ (by first | assumption | exact Hst.stp (by assumption)))))) rfl) | (with_reducible intro _) | (simp only[↓M2,M2,Mb,reduceIte]) | (with_reducible refine X4j ?_) | (with_reducible show Q2 _ _ _ _ _;first | refine X7 aS aL aR ?_ | refine Y5 aS aL aR ?_ | refine ld aS aL aR ?_) | (with_reducible show indexAddr _ _ _ _ _ _;refine Y2 aL au ?_) | (with_reducible show X3 _ _ _ _ _ _ _ _;refine Q8 aL ?_) | (with_reducible show F5 _ _ _ _ _ _;refine J4 aR ?_) | (with_reducible show pick _ _ _ _ _ _;refine M3 ?_) | (apply G2;intro hh;(try simp only[hh,reduceIte,↓M2,M2,Mb,reduceIte]))));done)))
 (intros;(repeat (rename_i hx;subst hx)))
 rename_i w3 hb3
 have hmin:min (m:Int) (cs.length:Int)=((min m cs.length:Nat):Int):=by omega
 rw[hmin]
 refine Ez ls none (some (I (min m cs.length:Nat))) 0 (min m cs.length) (.inl ⟨rfl,rfl⟩) (.inr rfl) (Nat.zero_le _) (Nat.min_le_right _ _) fun v3 hv3=>?_
 rw[List.drop_zero,Nat.sub_zero,List.take_eq_take_min.symm] at hv3
 refine Q8 hv3 ?_
 have hk23: ∀{w' σ'},Stp w3 σf w' σ'→Stp w2 σ2 w' σ2:=fun hk=>(hb3.stp.trans hk).weak lef.le
 refine U3 (cs.take m).length (fun i w'=> ∃σ',Stp w3 σf w' σ'∧((cs.take m).take i).any (fun c=>c.vals.any (G5 m))=false) ⟨σf,Stp.refl hb3.sat,rfl⟩ fun i w4 d hi hinv=>?_
 obtain ⟨σ4,hk4,hno⟩:=hinv
 refine Z2 ?_
 refine Q7 (fun hc=>?_) (fun hc=>?_)
 ·have hi':i<(cs.take m).length:=by simpa using hc
  have hv4:=hv3.up hk4
  obtain ⟨vv,p1,p2,p3⟩:=Sl.elO hv4 hi'
  refine Y2 hv4 hi' ?_
  refine Y5 hk4.sat p1 rfl ?_
  refine Y7 hk4.sat (by rfl) rfl (Rep.one (R:=S1) ⟨vv,rfl,p2,p3⟩) fun q5 w5 σ5 hk5 hq5=>?_
  rw[fa]
  refine ld hk5.sat hq5 rfl ?_
  rw[Qh]
  have hq5f:=hqf.lift (SLe.more ⟨hk4.le⟩ ⟨hk5.le⟩)
  refine Cr (G5 m) hk5.sat (p2.up hk5) (fun v ds w6 K hv hs6 hr hlen hK=>Z9 (first:=[]) (caps:=[.pointer (some ⟨b0,0,none⟩)]) (X3E hs6 hr hq5f hK)) fun w6 hb6=>?_
  have hk6:=(hk4.trans hk5).trans (Stp.of_below hk5.sat hb6)
  have hnx:=L4 (p:=fun c:Cel=>c.vals.any (G5 m)) hi'
  cases hany:(cs.take m)[i].vals.any (G5 m) with
  | true=>
   refine J7 ?_
   rw[if_pos (S6 hi' hany)] at hh
   have hS:=hS2.trans (hk23 hk6)
   exact hh _ _ D (.of_stp hS) (h.up hS) fun j hj=>hj
  | false=>
   refine J0 ?_
   refine O8 ?_
   refine Y6 hv3.max hi' ⟨σ5,hk6,?_⟩
   rw[hnx,hno,hany];rfl
 have hi': ¬i<(cs.take m).length:=by simpa using hc
 rw[E1 hi'] at hno
 rw[if_neg (by rw[hno];simp)] at hh
 have hS4:=hS2.trans (hk23 hk4)
 have h4:=h.up hS4
 refine Pr (fun k (_:Unit) w'=> ∃D',Nxt D w σ w' σ2∧HeapIs B D' σ2 w' (.pointer (some a)) tv room (cs.take k)∧(∀j,D' j→D j)∧k≤cs.length∧(m≤k∨k=cs.length)) cs.length ⟨D, .of_stp hS4,by rw[List.take_length];exact h4,fun j hj=>hj,Nat.le_refl _, .inr rfl⟩ ?_
 rintro again k x d w5 ⟨D5,N5,h5,hD5,hkl,hmk⟩ hag
 have hs5:=N5.sat
 have htk:Z7 (cs.take k)≤1048576:=by
  have e:Z7 cs=Z7 (cs.take k)+Z7 (cs.drop k):=by rw[←Ql,List.take_append_drop]
  have:=E0 (cs.drop k)
  omega
 obtain ⟨σg,sg,leg,hslg,_⟩:=h5.freeze hs5
 obtain ⟨ag,lvg,hpe,lag,lsg⟩:=hslg
 cases hpe
 have hqg:=(show Z6 σ2 ⟨b0,0,none⟩ [I (m:Int)] from hq2).lift leg
 have hlk:(cs.take k).length=k:=by rw[List.length_take];omega
 refine U2 sg ?_
 (repeat refine Z8 Qd ?_)
 (intros;(repeat (rename_i hx;subst hx)))
 rename_i w6 hb6
 have hk56:Stp w5 σ2 w6 σ2:=hb6.stp.weak leg.le
 have h6:=h5.up hk56
 have N6:=N5.chain (Nxt.of_stp (D:=fun _=>False) hk56) fun j _ e=>e.elim
 rw[hlk]
 refine Iz ?_
 by_cases hgt:m<k
 case neg=>
  rw[decide_eq_false (show¬(m:Int)<(k:Int) by omega)]
  refine J0 ?_
  have e:cs.take m=cs.take k:=by
   rcases hmk with e | e
   ·rw[show m=k by omega]
   ·rw[e,List.take_length,List.take_of_length_le (by omega)]
  rw[e] at hh
  exact hh w6 σ2 D5 N6 h6 hD5
 rw[decide_eq_true (show (m:Int)<(k:Int) by omega)]
 refine J7 ?_
 obtain ⟨k1,rfl⟩: ∃k1,k=k1+1:=⟨k-1,by omega⟩
 have hk1l:k1<cs.length:=by omega
 have esnoc:cs.take (k1+1)=cs.take k1++[cs[k1]]:=by rw[List.take_append_getElem hk1l]
 have hk1t:(cs.take k1).length=k1:=by rw[List.length_take];omega
 obtain ⟨σh,sh,leh,hslh,_⟩:=h6.freeze hk56.sat
 obtain ⟨b,lv6,E6,hpb,hbB,hm6,hr6,hE6,hDe6⟩:=h6.ex
 cases hpb
 obtain ⟨ah,lvh,hpe,lah,lsh⟩:=hslh
 cases hpe
 rw[M0,fa]
 refine Yk hm6 rfl ?_
 obtain ⟨al,capl,hle⟩:=hr6.len
 rw[hlk] at hle
 subst hle
 rw[Q1S]
 refine Zl ⟨by omega,by omega⟩ ?_
 have ek:((k1+1:Nat):Int)-1=(k1:Int):=by omega
 rw[ek]
 have hkk:k1<(cs.take (k1+1)).length:=by omega
 obtain ⟨vvk,pk,pk2,_⟩:=Sl.elO lsh hkk
 have evk:((cs.take (k1+1))[k1]'hkk).vals=cs[k1].vals:=by simp
 rw[evk] at pk2
 refine U2 sh ?_
 (repeat refine Z8 Qd ?_)
 (intros;(repeat (rename_i hx;subst hx)))
 rename_i w7 hb7
 have hk67:Stp w6 σ2 w7 σ2:=hb7.stp.weak leh.le
 have htn:=E0 (cs.take k1)
 have etk:Z7 (cs.take (k1+1))=Z7 (cs.take k1)+(1+(cs[k1].vals.length:Int)):=by
  rw[esnoc,Ql];simp[Z7]
 rw[F7 (by omega) (by omega)]
 refine Zl ⟨by omega,by omega⟩ ?_
 have eu:Z7 (cs.take (k1+1))-(1+(cs[k1].vals.length:Int))=Z7 (cs.take k1):=by omega
 rw[eu]
 have hm7:=hm6.up hk67
 have hr7:=hr6.up hk67
 rw[M0,fa]
 refine Ue hm7 (by simp) rfl rfl fun w8 u8 hm8=>?_
 have N78:=Nxt.of_upd hk67.sat u8 hm7.1
 have hr8:=hr7.nx N78 fun j hj e=>hE6 (e▸hj)
 rw[M0,fa]
 refine Yk hm8 rfl ?_
 rw[esnoc] at hr8
 refine X3V hk1t.symm hr8 fun lv9 E9 hr9 hE9=>?_
 rw[M0,fa]
 refine Ue hm8 (by simp) hr9.shape.1 hr9.shape.2 fun w9 u9 hm9=>?_
 have N89:=Nxt.of_upd N78.sat u9 hm8.1
 have hE9b: ¬E9 b:=fun e=>hE6 (hE9 b e)
 have hr9':=hr9.nx N89 fun j hj e=>hE9b (e▸hj)
 have hDb:D5 b:=(hDe6 b).2 (.inl rfl)
 have N9:Nxt D w σ w9 σ2:=((N6.chain (Nxt.of_stp (D:=fun _=>False) hk67) fun j _ e=>e.elim).chain N78 fun j _ e=>e▸hD5 b hDb).chain N89 fun j _ e=>e▸hD5 b hDb
 refine hag k1 _ _ (Nat.lt_succ_self _) ⟨fun j=>j=b∨E9 j,N9,⟨b,lv9,E9,rfl,hbB,hm9,hr9',hE9b,fun j=>Iff.rfl⟩,fun j hj=>?_,by omega, .inl (by omega)⟩
 rcases hj with rfl | hj
 ·exact hD5 _ hDb
 ·exact hD5 j ((hDe6 j).2 (.inr (hE9 j hj))))
end Go.Proofs.YtjdiakhipmggjaaGreatDoor

namespace Go.Emb
open Go.RowKit Go.Hm
variable {P : Program} {w w' w0 : World} {K : Value → World → Prop} {σ σ' σ0 : Q6}
theorem Nxt.stp' {D:Nat→Prop} (N:Nxt D w σ w' σ') (a:Stp w0 σ0 w σ) (f: ∀k,D k→w0.heap.size≤k):Stp w0 σ0 w' σ':=
 ⟨⟨N.kp.os.trans a.bel.os,N.kp.tape.trans a.bel.tape,N.kp.output.trans a.bel.output,Nat.le_trans a.bel.size N.kp.size,fun k d=>(N.kp.block k (Nat.lt_of_lt_of_le d a.bel.size) fun h=>absurd (f k h) (by omega)).trans (a.bel.block k d)⟩,N.sat,fun b o e=>N.le.le b o (a.le b o e),fun b c=>(N.old b (Nat.lt_of_lt_of_le c a.bel.size)).trans (a.old b c)⟩
end Go.Emb
namespace Go.Proofs.YtjdiakhipmggjaaGreatDoor
open Go.Emb Go.RowKit Go.Kd Go.Hm
variable {w w' : World} {K : Value → World → Prop} {σ σ' : Q6} {hp tv : Value} {room : Int} {cs : List Cel} {l : List Cla}
theorem RowsIs.nil {B:Nat}:RowsIs B (fun _=>False) σ w (.slice none 0 0) []:=
 ⟨[],J9.of_acc V6.nil,⟨rfl,fun i h=>absurd h (Nat.not_lt_zero i)⟩,List.pairwise_singleton _ _,fun k=>by simp[Value.ownBlock]⟩
end Go.Proofs.YtjdiakhipmggjaaGreatDoor

namespace Go.Proofs.YtjdiakhipmggjaaGreatDoor
open Go.Emb Go.RowKit Go.Kd Go.Hm
variable {w : World} {K : Value → World → Prop} {σ : Q6} {l : List Cla} {v : Value}
theorem Q4C {c:Cla} {n:X0} (h:Sc c n=none):F4 c n=none:=by
 unfold F4 Sc at*
 rw[List.findIdx?_eq_none_iff] at h
 rw[List.find?_eq_none]
 intro m a
 have:=h m a
 simpa using this
theorem Q7H {c:Cla} {n:X0} {i:Nat} (h:Sc c n=some i): ∃a:i<c.methods.length,F4 c n=some c.methods[i]:=by
 unfold F4 Sc at*
 obtain ⟨a,d,e⟩:=List.findIdx?_eq_some_iff_getElem.1 h
 refine ⟨a,List.find?_eq_some_iff_getElem.2 ⟨d,i,a,rfl,fun j b=>?_⟩⟩
 have:=e j b
 simpa using this
theorem Q0u {n:X0} (h:lk l n=none):Z1 l n=none:=by
 cases b:Z1 l n with
 | none=>rfl
 | some i=>obtain ⟨c,a,_⟩:=Zn b;rw[h] at a;cases a
set_option maxHeartbeats 1000000 in
theorem Q9Y {n:X0} (ok:Ok l): ∀(k:Nat) {c:Cla} {cs:List Value} {w:World} {σ:Q6} {K:Value→World→Prop},K9 l c.name<k→lk l c.name=some c→X2 w σ→Sl 8 V0 σ v l→V0 σ c cs→
 (∀pv cv hv w' Z,Stp w σ w' Z→E5 Z (o2 (V5 l c n)) [S (o2 (V5 l c n)).name,pv,S (o2 (V5 l c n)).result, .bool (o2 (V5 l c n)).abs,I (o2 (V5 l c n)).locals,cv,hv]→
  K (.tuple #[S (o1 (V5 l c n)), .agg [S (o2 (V5 l c n)).name,pv,S (o2 (V5 l c n)).result, .bool (o2 (V5 l c n)).abs,I (o2 (V5 l c n)).locals,cv,hv].toArray, .bool (V5 l c n).isSome]) w')→
 Q1 P F.aO [v, .agg cs.toArray,S n] w K:=by
 intro k
 induction k with
 | zero=>
  intro c cs w σ K hk
  omega
 | succ k ih=>
  intro c cs w σ K hk hc hs hv hr h
  refine Pj ?_
  obtain ⟨lv,fv,mv,rfl,g1,g2,g3,g4,g5⟩:=hr
  have E:=Q4H ok.acy hc n
  generalize hf:(fun u=>match lk l u with | none=>none | some d=>match F4 d n with | some m=>some (u,m) | none=>V5 l d n)=f at E
  unfold Mg
  refine Y9 hs fun a w1 σ1 C a0=>?_
  refine M8 C.sat fun b w2 σ2 hb L a3=>?_
  have V:w.heap.size≤b:=N0 hb C
  have ax:=a0.up L
  have g1:=(g1.up C).up L
  refine U3 c.like.length (fun i w'=> ∃Z,Stp w σ w' Z∧SLe σ2 Z∧Y3 Z w' b [S [], .slice none 0 0,S [], .bool false,I 0, .slice none 0 0, .slice none 0 0]∧(c.like.take i).findSome? f=none) ⟨σ2,C.trans L,SLe.refl _,a3,rfl⟩ fun i w3 d hi aa=>?_
  obtain ⟨σ3,e,U,ak,A⟩:=aa
  have X:=hv.up e
  have Q:=ax.lift U
  have D:=g1.lift U
  (try simp only[↓M1,M1,Mb,reduceIte])
  refine ld e.sat Q rfl ?_
  refine Q8 D ?_
  refine Z2 ?_
  refine Q7 (fun hh=>?_) (fun hh=>?_)
  ·have g:i<c.like.length:=by simpa using hh
   (try simp only[↓M1,M1,Mb,reduceIte])
   refine ld e.sat Q rfl ?_
   refine Y2 D g ?_
   obtain ⟨p0,_⟩:=D.elS g
   refine X7 e.sat p0 rfl ?_
   obtain ⟨d,hd⟩:=ok.full c (V4 hc).2.1 _ (List.getElem_mem g)
   obtain ⟨M,bj,_⟩:=V4 hd
   have p:f c.like[i]=match F4 d n with | some m=>some (c.like[i],m) | none=>V5 l d n:=by rw[←hf];simp only[hd]
   refine Bm e.sat X hd fun j hj b0=>?_
   obtain ⟨ag,ao⟩:=List.getElem?_eq_some_iff.1 hj
   refine Y2 X ag ?_
   obtain ⟨bw,bq,bm,p1,r1⟩:=X.elC ag
   rw[ao] at p1 r1
   refine Y5 e.sat p1 rfl ?_
   refine Y7 e.sat (by rfl) rfl (Rep.one r1) fun q w4 σ4 o R=>?_
   refine Y5 o.sat R rfl ?_
   refine Q7F o.sat (RCl_lift r1 ⟨o.le⟩) fun w5 σ5 t=>?_
   refine P3 ?_
   rw[T9]
   have z:=(e.trans o).trans t
   have H:=(ak.step o).step t
   have a9:=R.up t
   have r5:=RCl_lift r1 ⟨(o.trans t).le⟩
   have W:=t.sat
   have aq:SLe σ2 σ5:=U.more ⟨(o.trans t).le⟩
   clear R p1 r1 p0 Q D o t
   cases ho:Sc d n with
   | some i2=>
    obtain ⟨a1,a6⟩:=Q7H ho
    rw[a6] at p
    simp only[Option.isSome_some,L7,↓M1,M1,Mb,reduceIte]
    obtain ⟨_,_,az,_,_⟩:=r5.parts
    obtain ⟨pv,cv,bs,p2,r2⟩:=az.elM a1
    refine U2 W ?_
    (repeat refine Z8 Qd ?_)
    (intros;(repeat (rename_i hx;subst hx));(try simp only[↓M2,M2,Mb,reduceIte]))
    rename_i w6 ab
    refine G0 (H.step ab.stp) (z.trans ab.stp) V rfl rfl (Rep.one r2) fun w8 ap ar=>?_
    refine V2 ar rfl ?_
    have N:=E.trans (Ye g A p)
    rw[N] at h
    rw[M]
    exact h _ _ _ w8 σ5 ap.stp r2
   | none=>
    rw[Q4C ho] at p
    simp only[Option.isSome_none,↓M1,M1,Mb,reduceIte]
    refine Y5 W a9 rfl ?_
    have bn:=Yd ok.acy hc (by simp[U4,List.getElem_mem g]:c.like[i]∈U4 c) hd
    refine ih (by rw[M];omega) (by rw[M];exact hd) W (hv.up z) r5 fun pv cv bx w8 σ8 B Y=>?_
    refine Z5 (vs:=[_,_,_]) rfl ?_
    refine Z5 (vs:=[_,_,_]) rfl ?_
    refine Z5 (vs:=[_,_,_]) rfl ?_
    refine Y7 B.sat (by rfl) rfl (Rep.one Y) fun q w9 σ9 y a7=>?_
    have aj:=(z.trans B).trans y
    have af:=(H.step B).step y
    have O:=RMe_lift Y ⟨y.le⟩
    have ay:SLe σ2 σ9:=aq.more ⟨(B.trans y).le⟩
    have a5:=y.sat
    cases N:V5 l d n with
    | some r=>
     obtain ⟨s,m⟩:=r
     rw[N] at p O a7
     clear Y B y
     simp only[N,Option.isSome_some,↓M1,M1,Mb,reduceIte]
     refine U2 a5 ?_
     (repeat refine Z8 Qd ?_)
     (intros;(repeat (rename_i hx;subst hx));(try simp only[↓M2,M2,Mb,reduceIte]))
     rename_i bp J
     refine G0 (af.step J.stp) (aj.trans J.stp) V rfl rfl (Rep.one O) fun a2 ah ae=>?_
     refine V2 ae rfl ?_
     have av:=E.trans (Ye g A p)
     rw[av] at h
     exact h _ _ _ a2 σ9 ah.stp O
    | none=>
     rw[N] at p
     simp only[Option.isSome_none,↓M1,M1,Mb,reduceIte]
     refine Y6 (by have:=g1.max;omega) g ⟨σ9,aj,ay,af,?_⟩
     rw[Yg g A];exact p
  ·have g: ¬i<c.like.length:=by simpa using hh
   rw[List.take_of_length_le (by omega)] at A
   refine Ig ?_
   refine G0 ak e V rfl rfl (Rep.one (Qz (σ:=σ3))) fun w5 z H=>?_
   refine V2 H rfl ?_
   have N:=E.trans A
   rw[N] at h
   exact h _ _ _ w5 σ3 z.stp Qz
set_option maxHeartbeats 1000000 in
theorem Q8p {k n:X0} (hs:X2 w σ) (hv:Sl 8 V0 σ v l) (ok:Ok l)
 (h: ∀pv cv hv w' N,Stp w σ w' N→E5 N (o2 (V3 l k n)) [S (o2 (V3 l k n)).name,pv,S (o2 (V3 l k n)).result, .bool (o2 (V3 l k n)).abs,I (o2 (V3 l k n)).locals,cv,hv]→
  K (.tuple #[S (o1 (V3 l k n)), .agg [S (o2 (V3 l k n)).name,pv,S (o2 (V3 l k n)).result, .bool (o2 (V3 l k n)).abs,I (o2 (V3 l k n)).locals,cv,hv].toArray, .bool (V3 l k n).isSome]) w'):
 Q1 P F.bg [v,S k,S n] w K:=Ia (by
 unfold Lo
 refine M8 hs fun b w1 σ1 hb X ax=>?_
 refine I9 X.sat (hv.up X) ?_
 unfold V3 at h
 generalize hF:(fun c:Cla=>(F4 c n).map (c.name,·))=F1 at h
 have aj: ∀c,F1 c=(F4 c n).map (c.name,·):=fun c=>by rw[←hF]
 refine Pr (fun m x w'=> ∃s C N,m=(chain l s).length∧x=I (L7 (Z1 l s))∧chain l k=C++chain l s∧Stp w σ w' N∧Y3 N w' b [S [], .slice none 0 0,S [], .bool false,I 0, .slice none 0 0, .slice none 0 0]∧C.findSome? F1=none)
  (chain l k).length ⟨k,[],σ1,rfl,rfl,rfl,X,ax,rfl⟩ ?_
 rintro W m x d w2 ⟨s,C,σ2,rfl,rfl,e,D,ah,a⟩ B
 have H:=hv.up D
 have V:=D.sat
 refine P3 ?_
 rw[T9]
 cases A:lk l s with
 | some c=>
  obtain ⟨ag,ar,i,Y,ab⟩:=V4 A
  obtain ⟨p,R⟩:=List.getElem?_eq_some_iff.1 ab
  simp only[Y,Option.isSome_some,L7,↓M1,M1,Mb,reduceIte]
  refine Y2 H p ?_
  obtain ⟨lv,fv,mv,y,L⟩:=H.elC p
  rw[R] at y L
  refine Y5 V y rfl ?_
  refine Q7F V L fun w3 σ3 o=>?_
  refine P3 ?_
  rw[T9]
  have g:=D.trans o
  have t:=H.up o
  have z:=ah.step o
  have u:=o.sat
  replace y:=y.up o
  replace L:=RCl_lift L ⟨o.le⟩
  have j:chain l s=c::chain l c.super:=by rw[A9 ok.acy s,A]
  cases ho:Sc c n with
  | some i2=>
   obtain ⟨a6,a0⟩:=Q7H ho
   simp only[Option.isSome_some,L7,↓M1,M1,Mb,reduceIte]
   obtain ⟨_,_,a3,_,_⟩:=L.parts
   obtain ⟨pv,cv,be,p2,r2⟩:=a3.elM a6
   clear o
   refine U2 u ?_
   (repeat refine Z8 Qd ?_)
   (intros;(repeat (rename_i hx;subst hx));(try simp only[↓M2,M2,Mb,reduceIte]))
   rename_i w4 ae
   refine G0 (z.step ae.stp) (g.trans ae.stp) hb rfl rfl (Rep.one r2) fun w8 av ay=>?_
   refine V2 ay rfl ?_
   have J:(chain l k).findSome? F1=some (c.name,c.methods[i2]):=by
    rw[e,List.findSome?_append,a,j,List.findSome?_cons,aj,a0];rfl
   rw[J] at h
   exact h _ _ _ w8 σ3 av.stp r2
  | none=>
   simp only[Option.isSome_none,↓M1,M1,Mb,reduceIte]
   refine Y2 t p ?_
   (try simp only[↓M1,M1,Mb,reduceIte])
   refine ld u y rfl ?_
   refine I9 u t ?_
   refine B (chain l c.super).length _ _ (by rw[j,List.length_cons];omega) ⟨c.super,C++[c],σ3,rfl,rfl,by rw[e,j];simp,g,z,?_⟩
   rw[List.findSome?_append,a]
   simp[aj,Q4C ho]
 | none=>
  rw[Q0u A]
  simp only[Option.isSome_none,↓M1,M1,Mb,reduceIte]
  have al:(chain l k).findSome? F1=none:=by rw[e,Yy A,List.append_nil];exact a
  rw[al] at h
  clear B a e
  refine I9 V H ?_
  refine Pr (fun m x w'=> ∃s C N,m=(chain l s).length∧x=I (L7 (Z1 l s))∧chain l k=C++chain l s∧Stp w σ w' N∧Y3 N w' b [S [], .slice none 0 0,S [], .bool false,I 0, .slice none 0 0, .slice none 0 0]∧C.findSome? (fun c=>V5 l c n)=none)
   (chain l k).length ⟨k,[],σ2,rfl,rfl,rfl,D,ah,rfl⟩ ?_
  rintro W m x d w3 ⟨s,C,σ3,rfl,rfl,e,g,z,a⟩ B
  have t:=hv.up g
  have u:=g.sat
  refine P3 ?_
  rw[T9]
  cases A:lk l s with
  | some c=>
   obtain ⟨ag,ar,i,Y,ab⟩:=V4 A
   obtain ⟨p,R⟩:=List.getElem?_eq_some_iff.1 ab
   simp only[Y,Option.isSome_some,L7,↓M1,M1,Mb,reduceIte]
   refine Y2 t p ?_
   obtain ⟨lv,fv,mv,y,L⟩:=t.elC p
   rw[R] at y L
   refine Y5 u y rfl ?_
   have j:chain l s=c::chain l c.super:=by rw[A9 ok.acy s,A]
   refine Q9Y ok _ (Nat.lt_succ_self _) (by rw[ag];exact A) u t L fun pv cv bf w8 σ8 U aa=>?_
   refine Z5 (vs:=[_,_,_]) rfl ?_
   refine Z5 (vs:=[_,_,_]) rfl ?_
   refine Z5 (vs:=[_,_,_]) rfl ?_
   refine Y7 U.sat (by rfl) rfl (Rep.one aa) fun q w9 σ9 E a2=>?_
   have f:=U.trans E
   have ai:=g.trans f
   have ao:=z.step f
   have Z:=RMe_lift aa ⟨E.le⟩
   have Q:=E.sat
   have an:=t.up f
   replace y:=y.up f
   cases ho:V5 l c n with
   | some r=>
    obtain ⟨s,m⟩:=r
    rw[ho] at Z a2
    clear aa U E f
    simp only[ho,Option.isSome_some,↓M1,M1,Mb,reduceIte]
    refine U2 Q ?_
    (repeat refine Z8 Qd ?_)
    (intros;(repeat (rename_i hx;subst hx));(try simp only[↓M2,M2,Mb,reduceIte]))
    rename_i bi O
    refine G0 (ao.step O.stp) (ai.trans O.stp) hb rfl rfl (Rep.one Z) fun aw af am=>?_
    refine V2 am rfl ?_
    have J:(chain l k).findSome? (fun c=>V5 l c n)=some (s,m):=by
     rw[e,List.findSome?_append,a,j,List.findSome?_cons,ho];rfl
    unfold V5 at J
    rw[J] at h
    exact h _ _ _ aw σ9 af.stp Z
   | none=>
    simp only[Option.isSome_none,↓M1,M1,Mb,reduceIte]
    refine Y2 an p ?_
    (try simp only[↓M1,M1,Mb,reduceIte])
    refine ld Q y rfl ?_
    refine I9 Q an ?_
    refine B (chain l c.super).length _ _ (by rw[j,List.length_cons];omega) ⟨c.super,C++[c],σ9,rfl,rfl,by rw[e,j];simp,ai,ao,?_⟩
    rw[List.findSome?_append,a]
    simp[ho]
  | none=>
   rw[Q0u A]
   simp only[Option.isSome_none,↓M1,M1,Mb,reduceIte]
   have M:(chain l k).findSome? (fun c=>V5 l c n)=none:=by rw[e,Yy A,List.append_nil];exact a
   refine Ig ?_
   refine G0 z g hb rfl rfl (Rep.one (Qz (σ:=σ3))) fun w7 a4 a1=>?_
   refine V2 a1 rfl ?_
   unfold V5 at M
   rw[M] at h
   exact h _ _ _ w7 σ3 a4.stp Qz)
end Go.Proofs.YtjdiakhipmggjaaGreatDoor

namespace Go.Hm
open Go.Kd
theorem Q2t: ∀(xs:List X0) (x:X0),xs≠[]→H9 (xs++[x])=H9 xs++[44]++x
 | [],_,h=>absurd rfl h
 | [a],x,_=>by simp[H9]
 | a::b::r,x,_=>by
  have:=Q2t (b::r) x (by simp)
  simp only[List.cons_append] at this⊢
  simp only[H9,this]
  simp
theorem Q2i {xs:List X0} {n:Nat} (h:n<xs.length):H9 (xs.take (n+1))=H9 (xs.take n)++(if 0<n then [44] else [])++xs[n]:=by
 rw[List.take_add_one,List.getElem?_eq_getElem h]
 simp only[Option.toList_some]
 cases n with
 | zero=>simp[H9]
 | succ n=>
  rw[Q2t _ _ (by intro e;have:=congrArg List.length e;simp only[List.length_take,List.length_nil] at this;omega)]
  simp
end Go.Hm
namespace Go.Proofs.YtjdiakhipmggjaaGreatDoor
open Go.Emb Go.RowKit Go.Kd Go.Hm
variable {w : World} {K : Value → World → Prop} {σ : Q6} {l : List Cla} {v : Value}
theorem Q6E {m:Hm.Met} {cs:List Value} (D:X2 w σ) (E:E5 σ m cs) (r:SmM m) (k:NmM m) (h: ∀w' B,Stp w σ w' B→K (S (Xc m)) w'):Q1 P F.aX [.agg cs.toArray] w K:=Q05 (by
 obtain ⟨pv,J,H,rfl,f,R,M,N,L,U⟩:=E
 unfold Oq
 refine Y9 D fun q w1 σ1 g j=>?_
 have f:=f.up g
 have y: ∀n,(H9 (m.params.take n)).length≤101000000:=fun n=>by
  have:=Rb (m.params.take n) fun x u=>k.2 x (List.mem_of_mem_take u)
  have A:(m.params.take n).length≤1000000:=by rw[List.length_take];have:=r.1;omega
  have O:(m.params.take n).length*101≤1000000*101:=Nat.mul_le_mul_right _ A
  omega
 have c:=g.sat
 refine H0 m.params.length (fun n a w'=>w'=w1∧a=S ([40]++H9 (m.params.take n))) ⟨rfl,by simp[H9]⟩ fun n a Q d z i=>?_
 obtain ⟨C,rfl⟩:=i
 subst C
 have s:=y n
 (try simp only[↓M1,M1,Mb,reduceIte])
 refine ld c j rfl ?_
 refine Q8 f ?_
 refine Z2 ?_
 refine Q7 (fun p=>?_) (fun p=>?_)
 ·have b:n<m.params.length:=by simpa using p
  have u:=k.2 _ (List.getElem_mem b)
  refine U7 ?_
  obtain ⟨t,_⟩:=f.elS b
  refine Q7 (fun o=>?_) (fun o=>?_)
  ·have e:0<n:=by have:=of_decide_eq_true o;omega
   refine Ec (by simp only[List.length_append,List.length_cons,List.length_nil];omega) ?_
   intro d
   (try simp only[↓M1,M1,Mb,reduceIte])
   refine ld c j rfl ?_
   refine Y2 f b ?_
   refine X7 c t rfl ?_
   refine Ec (by simp only[List.length_append,List.length_cons,List.length_nil];omega) ?_
   (try simp only[↓M1,M1,Mb,reduceIte])
   refine J6 f.max b ⟨rfl,?_⟩
   rw[Q2i b,if_pos e];simp
  ·have e: ¬0<n:=by have:=of_decide_eq_false o;omega
   intro d
   (try simp only[↓M1,M1,Mb,reduceIte])
   refine ld c j rfl ?_
   refine Y2 f b ?_
   refine X7 c t rfl ?_
   refine Ec (by simp only[List.length_append,List.length_cons,List.length_nil];omega) ?_
   (try simp only[↓M1,M1,Mb,reduceIte])
   refine J6 f.max b ⟨rfl,?_⟩
   rw[Q2i b,if_neg e];simp
 ·have b: ¬n<m.params.length:=by simpa using p
  rw[List.take_of_length_le (by omega)] at s⊢
  refine Ec (by simp only[List.length_append,List.length_cons,List.length_nil];omega) ?_
  (try simp only[↓M1,M1,Mb,reduceIte])
  refine ld c j rfl ?_
  refine Ec (by simp only[List.length_append,List.length_cons,List.length_nil];have:=k.1;omega) ?_
  exact h _ _ g)
end Go.Proofs.YtjdiakhipmggjaaGreatDoor

namespace Go.Emb
open Go.RowKit Go.Hm
structure FinT (B : Nat) (F : Option Obj → Prop) (w w' : World) : Prop where
  os : w'.os = w.os
  tape : w'.tape = w.tape
  output : w'.output = w.output
  size : w.heap.size ≤ w'.heap.size
  old : ∀ k, k < w.heap.size → k < B → w'.heap[k]? = w.heap[k]?
  new : ∀ k, k < w.heap.size → w'.heap[k]? = w.heap[k]? ∨ F (w'.heap[k]?)
section
variable {P : Program} {B : Nat} {F : Option Obj → Prop} {w w' w0 : World} {σ : Q6} {v V : Value} {K : Value → World → Prop}
theorem FinT.of_below (h:Below w.heap.size w w'):FinT B F w w':=⟨h.os,h.tape,h.output,h.size,fun k a _=>h.block k a,fun k a=> .inl (h.block k a)⟩
theorem FinT.of_upd {b:Nat} (h:Upd w b w') (c:B≤b) (hF:F (w'.heap[b]?)):FinT B F w w':=
 ⟨h.os,h.tape,h.output,by rw[h.size];exact Nat.le_refl _,fun k a hB=>h.block k (by omega),fun k a=>by
  by_cases e:k=b
  ·subst e;exact .inr hF
  ·exact .inl (h.block k e)⟩
theorem FinT.hst (h:FinT w0.heap.size F w w') (c:X2 w0 σ) (a:Hst w0 σ w σ):Hst w0 σ w' σ:=
 ⟨Stp.of_below c ⟨h.os.trans a.stp.bel.os,h.tape.trans a.stp.bel.tape,h.output.trans a.stp.bel.output,Nat.le_trans a.stp.bel.size h.size,fun k b=>(h.old k (Nat.lt_of_lt_of_le b a.stp.bel.size) b).trans (a.stp.bel.block k b)⟩⟩
theorem X3q {A:(World→World→Prop)→(World→Prop)→Prop} (F:Option Obj→Prop) (a:X2 w σ) (h:A (FinT w.heap.size F) (fun w'=>Hst w σ w' σ)):dr w A:=
 Pa _ _ ⟨Stp.of_below a (Below.refl _ _).drew⟩ (fun _ _ c b=>b.hst a c) h
theorem Q5T (h:V=v):dk (FinT B F) (fun v _=>V=v) w v w:=⟨.of_below (Below.refl _ _),h⟩
theorem X2A (a:Below w.heap.size w w') (h:V=v):dk (FinT B F) (fun v _=>V=v) w v w':=⟨.of_below a,h⟩
def X2T (B n:Nat) (F:Option Obj→Prop) (v:Value) (w:World):Prop:= ∃g,v= .pointer (some ⟨g,0,none⟩)∧B≤g∧((∃cs:List Value,∃e,cs.length=n∧w.heap[g]? =some (.cells cs.toArray e (0,0)))∨F (w.heap[g]?))
def X3C (B:Nat) (F:Option Obj→Prop) (v:Value) (w:World):Prop:= ∃g,v= .pointer (some ⟨g,0,none⟩)∧B≤g∧F (w.heap[g]?)
theorem Ti {w:World} {g:Nat} {o:Obj} (h:w.heap[g]? =some o):g<w.heap.size:=(Array.getElem?_eq_some_iff.1 h).1
theorem Q93 {n:Nat} (hF: ¬F none):Sp (FinT B F) (X2T B n F):=by
 rintro v w w' ⟨g,rfl,hB,b⟩ d
 have a:g<w.heap.size:=by
  rcases b with ⟨cs,e,_,h⟩ | h
  ·exact Ti h
  ·cases c:w.heap[g]? with
   | none=>rw[c] at h;exact absurd h hF
   | some o=>exact Ti c
 rcases d.new g a with h | h
 ·exact ⟨g,rfl,hB,by rw[h];exact b⟩
 ·exact ⟨g,rfl,hB, .inr h⟩
theorem Q91 (hF: ¬F none):Sp (FinT B F) (X3C B F):=by
 rintro v w w' ⟨g,rfl,hB,b⟩ d
 have a:g<w.heap.size:=by
  cases c:w.heap[g]? with
  | none=>rw[c] at b;exact absurd b hF
  | some o=>exact Ti c
 rcases d.new g a with h | h
 ·exact ⟨g,rfl,hB,by rw[h];exact b⟩
 ·exact ⟨g,rfl,hB,h⟩
end
end Go.Emb
namespace Go.Hm
open Go.Kd
theorem Q6U {a b:List Hm.Met} (h: ∀m,m∈a↔m∈b):Ns a=Ns b:=by
 rw[Bool.eq_iff_iff]
 simp only[Ns,List.any_eq_true]
 constructor
 ·rintro ⟨x,e,y,d,c⟩;exact ⟨x,(h x).1 e,y,(h y).1 d,c⟩
 ·rintro ⟨x,e,y,d,c⟩;exact ⟨x,(h x).2 e,y,(h y).2 d,c⟩
theorem X0w {α:Type} {a b:List α} {p:α→Bool} (h: ∀m,m∈a↔m∈b):a.any p=b.any p:=by
 rw[Bool.eq_iff_iff]
 simp only[List.any_eq_true]
 constructor
 ·rintro ⟨x,c,y⟩;exact ⟨x,(h x).1 c,y⟩
 ·rintro ⟨x,c,y⟩;exact ⟨x,(h x).2 c,y⟩
def Zk (m:Hm.Met):List X0:=m.params++if m.result=[] then [] else [m.result]
def Ul (c:Cla):List X0:=c.fields.map (·.kind)++c.methods.flatMap Zk
theorem X03 {l:List Cla} {c:Cla}:(Ul c).any (fun s=> !O6 l s)=B4 l c:=by
 unfold Ul B4 Zk
 rw[List.any_append,List.any_map,List.any_flatMap]
 congr 1
 congr 1
 funext m
 rw[List.any_append]
 by_cases e:m.result=[]
 ·simp[e]
 ·simp[e,Bool.or_comm]
def upB (l:List Cla) (i k:Nat):Bool:=decide (k=i)||Xm l (Y1 l i) (Y1 l k)
def Xn (l:List Cla) (i n:Nat):List Hm.Met:=(List.range n).flatMap fun k=>if upB l i k then (l.getD k Cla.zero).methods else []
theorem Q8a {l:List Cla} {i n:Nat}:Xn l i (n+1)=Xn l i n++if upB l i n then (l.getD n Cla.zero).methods else []:=by
 unfold Xn
 rw[List.range_succ,List.flatMap_append]
 simp
theorem Q4L {l:List Cla} (r:T7 l) {i:Nat} (h:i<l.length) (m:Hm.Met):m∈Xn l i l.length↔m∈Lp l (Y1 l i):=by
 unfold Xn Lp
 simp only[List.mem_flatMap,List.mem_range]
 have b: ∀k,k<l.length→lk l (Y1 l k)=some (l.getD k Cla.zero):=fun k g=>Yl r g
 constructor
 ·rintro ⟨k,g,d⟩
  split at d
  ·rename_i hu
   refine ⟨Y1 l k,?_,by rw[b k g];exact d⟩
   rw[Uv,Q1k]
   simp only[upB,Bool.or_eq_true,decide_eq_true_eq,Jr] at hu
   rcases hu with rfl | hu
   ·exact .inl ⟨rfl,_,b _ g⟩
   ·exact .inr hu
  ·simp at d
 ·rintro ⟨u,hu,d⟩
  rw[Uv] at hu
  obtain ⟨c,p⟩:=hu.right
  obtain ⟨s,q,j,t,a⟩:=V4 p
  obtain ⟨n,y⟩:=List.getElem?_eq_some_iff.1 a
  have f:Y1 l j=u:=by
   unfold Y1;rw[List.getD_eq_getElem?_getD,a];exact s
  refine ⟨j,n,?_⟩
  rw[p] at d
  have:upB l i j=true:=by
   simp only[upB,Bool.or_eq_true,decide_eq_true_eq,Jr]
   rw[Q1k] at hu
   rcases hu with ⟨e,_⟩ | hu
   ·left
    have A:=b i h
    rw[e,←f] at A
    have o:=T7.find r (i:=i) (c:=l[i]) (List.getElem?_eq_getElem h)
    have z:l[i].name=Y1 l i:=by unfold Y1;rw[List.getD_eq_getElem?_getD,List.getElem?_eq_getElem h];rfl
    rw[z,e,t] at o
    simpa using o
   ·right;rw[f];exact hu
  rw[if_pos this,List.getD_eq_getElem?_getD,a]
  exact d
theorem Q9z {l:List Cla} {i n:Nat} {m:Hm.Met} (h:m∈Xn l i n) (d:n≤l.length): ∃c∈l,m∈c.methods:=by
 unfold Xn at h
 simp only[List.mem_flatMap,List.mem_range] at h
 obtain ⟨k,e,a⟩:=h
 split at a
 ·have b:k<l.length:=by omega
  rw[List.getD_eq_getElem?_getD,List.getElem?_eq_getElem b] at a
  exact ⟨l[k],List.getElem_mem _,a⟩
 ·simp at a
def A7 (a:List Hm.Met) (x y:Nat):Bool:=decide ((a.getD x Hm.Met.zero).name=(a.getD y Hm.Met.zero).name)&& !decide (Xc (a.getD x Hm.Met.zero)=Xc (a.getD y Hm.Met.zero))
theorem Bx {α:Type} {l:List α} {d:α} {n:Nat} (h:n<l.length):l.getD n d=l[n]:=by rw[List.getD_eq_getElem?_getD,List.getElem?_eq_getElem h];rfl
theorem X0c {a:List Hm.Met} {x y:Nat} (c:x<a.length) (b:y<a.length) (h:A7 a x y=true):Ns a=true:=by
 unfold Ns
 rw[List.any_eq_true]
 refine ⟨a[x],List.getElem_mem _,?_⟩
 rw[List.any_eq_true]
 refine ⟨a[y],List.getElem_mem _,?_⟩
 unfold A7 at h
 rwa [Bx c,Bx b] at h
theorem X16 {d:List Hm.Met} (h: ∀x y,x<d.length→y<x→A7 d x y=false):Ns d=false:=by
 unfold Ns
 rw[List.any_eq_false]
 intro a k
 rw[List.any_eq_true]
 rintro ⟨b,j,e⟩
 obtain ⟨x,i,rfl⟩:=List.getElem_of_mem k
 obtain ⟨y,g,rfl⟩:=List.getElem_of_mem j
 have f:A7 d y x=A7 d x y:=by
  unfold A7
  congr 1
  ·rw[Bool.eq_iff_iff];simp[eq_comm]
  ·congr 1;rw[Bool.eq_iff_iff];simp[eq_comm]
 have c:A7 d x y=true:=by unfold A7;rw[Bx i,Bx g];exact e
 rcases Nat.lt_trichotomy x y with hlt | heq | hlt
 ·rw[←f,h y x g hlt] at c;cases c
 ·subst heq;simp[A7] at c
 ·rw[h x y i hlt] at c;cases c
end Go.Hm
namespace Go.Proofs.YtjdiakhipmggjaaGreatDoor
open Go.Emb Go.RowKit Go.Kd Go.Hm
variable {w : World} {K : Value → World → Prop} {σ : Q6} {l : List Cla} {v : Value}
theorem Kw {c:Cla} (h:Zx c=false):c.fields.length≤32∧c.methods.length≤32∧ ∀m∈c.methods,m.params.length≤32:=by
 simp only[Zx,Bool.or_eq_false_iff,decide_eq_false_iff_not,List.any_eq_false] at h
 obtain ⟨⟨⟨a,e⟩,f⟩,d⟩:=h
 refine ⟨by omega,by omega,fun m b=>?_⟩
 have:=a m b
 simp only[Wm,Bool.or_eq_true,decide_eq_true_eq,not_or] at this
 omega
set_option maxHeartbeats 8000000 in
theorem Q78 {i:Nat} (hs:X2 w σ) (hv:Sl 8 V0 σ v l) (ok:Ok l) (own:T7 l) (hlen:l.length≤1000) (hmn: ∀c∈l,Zx c=false) (hi:i<l.length)
 (h: ∀w' σ',Stp w σ w' σ'→K (I (V7 l l[i])) w'):Q1 P F.ba [v,I i] w K:=Ff (by
 unfold Wd
 obtain ⟨lv,fv,mv,p0,r0⟩:=hv.elC hi
 refine Y2 hv hi ?_
 refine Y5 hs p0 rfl ?_
 refine Y7 hs (by rfl) rfl (Rep.one r0) fun q w1 σ1 hk1 hq1=>?_
 have r1:=RCl_lift r0 ⟨hk1.le⟩
 obtain ⟨_,gf,gm,g4,_⟩:=r1.parts
 have hv1:=hv.up hk1
 have hnm:=ok.nm _ (List.getElem_mem hi)
 have hcm:=hmn _ (List.getElem_mem hi)
 have hname:Y1 l i=l[i].name:=Pv hi
 generalize hcE:l[i]=c at*
 obtain ⟨mf,mm,mp⟩:=Kw hcm
 have e64:Yo l c=true→V7 l c=64:=fun e=>by unfold V7;simp[e]
 have e65:Yo l c=false→B4 l c=true→V7 l c=65:=fun e e2=>by unfold V7;simp[e,e2]
 have e66:Yo l c=false→B4 l c=false→Zp l c=true→V7 l c=66:=fun e e2 e3=>by unfold V7;simp[e,e2,e3]
 have e67:Yo l c=false→B4 l c=false→Zp l c=false→Dr l c=true→V7 l c=67:=fun e e2 e3 e4=>by unfold V7;simp[e,e2,e3,e4]
 have e0:Yo l c=false→B4 l c=false→Zp l c=false→Dr l c=false→V7 l c=0:=fun e e2 e3 e4=>by unfold V7;simp[e,e2,e3,e4]
 generalize V7 l c=R at*
 clear p0 r0 r1 hcm
 refine U3 c.fields.length (fun n w'=> ∃σ',Stp w σ w' σ'∧SLe σ1 σ'∧(c.fields.take n).any (fun f=>(Ur l c.super f.name).isSome)=false) ⟨σ1,hk1,SLe.refl _,rfl⟩ fun n w2 d hn hinv=>?_
 obtain ⟨σ2,hS2,le2,hno⟩:=hinv
 have hq2:=hq1.lift le2
 have gf2:=gf.lift le2
 (try simp only[↓M1,M1,Mb,reduceIte])
 refine ld hS2.sat hq2 rfl ?_
 refine Q8 gf2 ?_
 refine Z2 ?_
 refine Q7 (fun hc=>?_) (fun hc=>?_)
 ·have hn':n<c.fields.length:=by simpa using hc
  obtain ⟨pf,_⟩:=gf2.elF hn'
  have hs2:=hS2.sat
  refine U2 hs2 ?_
  (repeat refine Z8 Qd ?_)
  (intros;(repeat (rename_i hx;subst hx));(try simp only[↓M2,M2,Mb,reduceIte]))
  rename_i w3 hb3
  refine Q9D hb3.sat (hv.up (hS2.trans hb3.stp)) ok.acy hlen ok.sm fun w4 σ4 hk4=>?_
  refine P3 ?_
  rw[T9]
  have hnx:=L4 (p:=fun f:Fld=>(Ur l c.super f.name).isSome) hn'
  cases hp:(Ur l c.super c.fields[n].name).isSome with
  | true=>
   (try simp only[↓M1,M1,Mb,reduceIte])
   rw[hp,Bool.or_true] at hnx
   have:R=64:=e64 (S6 hn' hp)
   subst this
   exact h _ _ ((hS2.trans hb3.stp).trans hk4)
  | false=>
   (try simp only[↓M1,M1,Mb,reduceIte])
   exact Y6 gf.max hn' ⟨σ4,(hS2.trans hb3.stp).trans hk4,le2.more ⟨(hb3.stp.trans hk4).le⟩,by rw[hnx,hno,hp];rfl⟩
 have hA:Yo l c=false:=by
  have hn': ¬n<c.fields.length:=by simpa using hc
  rw[E1 hn'] at hno;exact hno
 clear hno hc hn e64
 refine Hl (R:=U9) (e:=T.c) hS2 (by decide) fun x3 w3 hk3 ha3 _=>?_
 have hS3:=hS2.trans hk3
 refine H0 c.fields.length (fun n x w'=> ∃σ',Stp w σ w' σ'∧SLe σ1 σ'∧V6 w.heap.size T.c 1 U9 σ' w' x ((c.fields.take n).map (·.kind))) ⟨σ2,hS3,le2,ha3⟩ fun n x w4 d hn hinv=>?_
 obtain ⟨σ4,hS4,le4,ha4⟩:=hinv
 have hq4:=hq1.lift le4
 have gf4:=gf.lift le4
 (try simp only[↓M1,M1,Mb,reduceIte])
 refine ld hS4.sat hq4 rfl ?_
 refine Q8 gf4 ?_
 refine Z2 ?_
 refine Q7 (fun hc=>?_) (fun hc=>?_)
 ·have hn':n<c.fields.length:=by simpa using hc
  obtain ⟨pf,rf⟩:=gf4.elF hn'
  have hkl:=(hnm.2.1 _ (List.getElem_mem hn')).2
  (try simp only[↓M1,M1,Mb,reduceIte])
  refine ld hS4.sat hq4 rfl ?_
  refine Y2 gf4 hn' ?_
  (try simp only[↓M1,M1,Mb,reduceIte])
  refine ld hS4.sat pf rfl ?_
  refine Jo (R:=U9) (x:=c.fields[n].kind) hS4 ha4 ⟨rfl,Nat.le_trans hkl (by decide)⟩ rfl rfl rfl (by rw[List.length_map,List.length_take];omega) (by rw[List.length_map,List.length_take];omega) fun s v' w5 σ5 hnx hS5 ha5 _=>?_
  (try simp only[↓M1,M1,Mb,reduceIte])
  refine J6 gf.max hn' ⟨σ5,hS5,le4.more hnx.le,?_⟩
  rw[List.take_add_one,List.getElem?_eq_getElem hn',List.map_append]
  exact ha5
 rw[List.take_of_length_le (by
  have: ¬n<c.fields.length:=by simpa using hc
  omega)] at ha4
 clear hc hn hk3 ha3 hS3 hS2 le2 hq2 gf2 hq4 gf4
 have hkl: ∀n,(c.fields.map (·.kind)++(c.methods.take n).flatMap Zk).length≤2000:=fun n=>by
  have h1:=Vm Zk 33 (c.methods.take n) fun m hm=>by
   have:=mp m (List.mem_of_mem_take hm)
   unfold Zk
   split<;>simp<;>omega
  have h2:(c.methods.take n).length≤32:=by rw[List.length_take];omega
  have h3:(c.methods.take n).length*33≤32*33:=Nat.mul_le_mul_right _ h2
  rw[List.length_append,List.length_map];omega
 refine H0 c.methods.length (fun n x w'=> ∃σ',Stp w σ w' σ'∧SLe σ1 σ'∧V6 w.heap.size T.c 1 U9 σ' w' x (c.fields.map (·.kind)++(c.methods.take n).flatMap Zk)) ⟨σ4,hS4,le4,by simpa using ha4⟩ fun n x w5 d hn hinv=>?_
 clear ha4 hS4 le4
 obtain ⟨σ5,hS5,le5,ha5⟩:=hinv
 have hq5:=hq1.lift le5
 have gm5:=gm.lift le5
 have hkn:=hkl n
 (try simp only[↓M1,M1,Mb,reduceIte])
 refine ld hS5.sat hq5 rfl ?_
 refine Q8 gm5 ?_
 refine Z2 ?_
 refine Q7 (fun hc=>?_) (fun hc=>?_)
 ·have hn':n<c.methods.length:=by simpa using hc
  obtain ⟨pv,cv,hv',pm,rm⟩:=gm5.elM hn'
  obtain ⟨gp,_,_,_,gr,_⟩:=rm.parts
  have hpn:=mp _ (List.getElem_mem hn')
  have hrl:=(hnm.2.2 _ (List.getElem_mem hn')).1
  have hnx:(c.methods.take (n+1)).flatMap Zk=(c.methods.take n).flatMap Zk++Zk c.methods[n]:=by
   rw[List.take_add_one,List.getElem?_eq_getElem hn',List.flatMap_append];simp
  refine U7 ?_
  (try simp only[↓M1,M1,Mb,reduceIte])
  refine ld hS5.sat hq5 rfl ?_
  refine Y2 gm5 hn' ?_
  (try simp only[↓M1,M1,Mb,reduceIte])
  refine ld hS5.sat pm rfl ?_
  refine Wk hS5 ha5 gp rfl (by omega) (by omega) fun v6 w6 hn6 hS6 ha6 _=>?_
  (try simp only[↓M1,M1,Mb,reduceIte])
  refine ld hS6.sat hq5 rfl ?_
  refine Y2 gm5 hn' ?_
  (try simp only[↓M1,M1,Mb,reduceIte])
  refine ld hS6.sat pm rfl ?_
  refine Ja ?_
  by_cases he:c.methods[n].result=[]
  ·simp only[he,decide_true,Bool.not_true,↓M1,M1,Mb,reduceIte]
   intro d
   refine J6 gm.max hn' ⟨σ5,hS6,le5,?_⟩
   rw[hnx]
   unfold Zk
   rw[if_pos he,List.append_nil,←List.append_assoc]
   exact ha6
  ·simp only[he,decide_false,Bool.not_false,↓M1,M1,Mb,reduceIte]
   refine ld hS6.sat hq5 rfl ?_
   refine Y2 gm5 hn' ?_
   (try simp only[↓M1,M1,Mb,reduceIte])
   refine ld hS6.sat pm rfl ?_
   refine Jo (R:=U9) (x:=c.methods[n].result) hS6 ha6 ⟨rfl,Nat.le_trans hrl (by decide)⟩ rfl rfl rfl (by rw[List.length_append];omega) (by rw[List.length_append];omega) fun s v' w7 σ7 hn7 hS7 ha7 _=>?_
   intro d
   (try simp only[↓M1,M1,Mb,reduceIte])
   refine J6 gm.max hn' ⟨σ7,hS7,le5.more hn7.le,?_⟩
   rw[hnx]
   unfold Zk at ha7⊢
   rw[if_neg he]
   simpa only[List.append_assoc] using ha7
 rw[List.take_of_length_le (by
  have: ¬n<c.methods.length:=by simpa using hc
  omega)] at ha5
 have hkn:=hkl c.methods.length
 rw[List.take_of_length_le (Nat.le_refl _)] at hkn
 have hkE:B4 l c=(Ul c).any (fun s=> !O6 l s):=X03.symm
 have hkb: ∀s∈Ul c,s.length≤U0:=fun s hs=>by
  unfold Ul at hs
  rcases List.mem_append.1 hs with hs | hs
  ·obtain ⟨f,hf,rfl⟩:=List.mem_map.1 hs
   exact Nat.le_trans (hnm.2.1 f hf).2 (by decide)
  ·obtain ⟨m,hm,hs⟩:=List.mem_flatMap.1 hs
   unfold Zk at hs
   rcases List.mem_append.1 hs with hs | hs
   ·exact Nat.le_trans ((hnm.2.2 m hm).2 s hs) (by decide)
   ·split at hs
    ·simp at hs
    ·simp at hs;subst hs;exact Nat.le_trans (hnm.2.2 m hm).1 (by decide)
 obtain ⟨σ6,hS6,hv6,lee6,_⟩:=ha5.keep hS5
 have le6:=le5.more ⟨lee6⟩
 clear ha5 hq5 gm5 hc hn
 change Sl 1 U9 σ6 x (Ul c) at hv6
 refine U3 (Ul c).length (fun n w'=>Stp w σ w' σ6∧((Ul c).take n).any (fun s=> !O6 l s)=false) ⟨hS6,rfl⟩ fun n w7 d hn hinv=>?_
 obtain ⟨hS7,hno⟩:=hinv
 refine Q8 hv6 ?_
 refine Z2 ?_
 refine Q7 (fun hc=>?_) (fun hc=>?_)
 ·have hn':n<(Ul c).length:=by simpa using hc
  refine Y2 hv6 hn' ?_
  obtain ⟨pk,_⟩:=hv6.elS hn'
  refine X7 hS7.sat pk rfl ?_
  refine Q9h hS7.sat (hv.up hS7) (hkb _ (List.getElem_mem hn')) ?_
  have hnx:=L4 (p:=fun s=> !O6 l s) hn'
  cases hp:O6 l (Ul c)[n] with
  | false=>
   (try simp only[↓M1,M1,Mb,reduceIte])
   have:R=65:=e65 hA (by rw[hkE];exact S6 hn' (by simp[hp]))
   subst this
   exact h _ _ hS7
  | true=>
   (try simp only[↓M1,M1,Mb,reduceIte])
   exact Y6 hv6.max hn' ⟨hS7,by rw[hnx,hno,hp];rfl⟩
 have hB:B4 l c=false:=by
  have hn': ¬n<(Ul c).length:=by simpa using hc
  rw[E1 hn'] at hno;rw[hkE];exact hno
 clear hno hc hn e65 hkE hkb hkn hkl hS5 le5 lee6 hv6
 refine Q1e hS7.sat (hv.up hS7) own (by omega) hlen ok.sm fun vb w8 σ8 hk8 hb8=>?_
 have hS8:=hS7.trans hk8
 refine Hl (R:=E5) (e:=T.d) hS8 (by decide) fun x9 w9 hk9 ha9 _=>?_
 have hml: ∀n,n≤l.length→(Xn l i n).length≤32000:=fun n hn=>by
  unfold Xn
  have h1:=Vm (fun k=>if upB l i k then (l.getD k Cla.zero).methods else []) 32 (List.range n) fun k hk=>by
   have hk':k<l.length:=by have:=List.mem_range.1 hk;omega
   split
   ·rw[Bx hk'];exact (Kw (hmn _ (List.getElem_mem _))).2.1
   ·simp
  rw[List.length_range] at h1
  have h3:n*32≤1000*32:=Nat.mul_le_mul_right _ (by omega)
  omega
 have hbl:(I6 l).length=l.length:=by simp[I6]
 refine H0 l.length (fun n x w'=> ∃σ',Stp w σ w' σ'∧SLe σ1 σ'∧SLe σ8 σ'∧V6 w.heap.size T.d 7 E5 σ' w' x (Xn l i n)) ⟨σ8,hS8.trans hk9,le6.more ⟨hk8.le⟩,SLe.refl _,ha9⟩ fun n x w10 d hn hinv=>?_
 clear ha9 hk9 hS7 hS8 le6 hS6 hk8
 obtain ⟨σ10,hS10,le10,leb,ha10⟩:=hinv
 have hv10:=hv.up hS10
 refine Q8 hv10 ?_
 refine Z2 ?_
 refine Q7 (fun hc=>?_) (fun hc=>?_)
 ·have hn':n<l.length:=by simpa using hc
  have hmn1:=hml n hn
  have hsuc:=Q8a (l:=l) (i:=i) (n:=n)
  rw[Bx hn'] at hsuc
  obtain ⟨lv2,fv2,mv2,p2,r2⟩:=hv10.elC hn'
  obtain ⟨_,_,g3,_,_⟩:=r2.parts
  have hmn2:=(Kw (hmn _ (List.getElem_mem hn'))).2.1
  refine Yp (fun z w'=>Stp w σ w' σ10∧V6 w.heap.size T.d 7 E5 σ10 w' z (Xn l i (n+1))) ?_ (fun z d w' hz=>?_)
  ·refine I2 ?_
   have happ: ∀{J:Value→World→Prop},upB l i n=true→(∀z w',Stp w σ w' σ10→V6 w.heap.size T.d 7 E5 σ10 w' z (Xn l i (n+1))→J z w')→
    X3 P .append [T.j,T.j] T.j [false,false] [x,mv2] w10 J:=fun hu hJ=>
    Wk hS10 ha10 g3 rfl (by omega) (by omega) fun v' w' _ hS' ha' _=>hJ v' w' hS' (by rw[hsuc,if_pos hu];exact ha')
   by_cases e:n=i
   ·have e1:decide ((n:Int)=(i:Int))=true:=by simp[e]
    rw[e1]
    (try simp only[↓M1,M1,Mb,reduceIte])
    refine Y2 hv10 hn' ?_
    (try simp only[↓M1,M1,Mb,reduceIte])
    refine ld hS10.sat p2 rfl ?_
    exact happ (by simp[upB,e]) fun z w' h1 h2=>⟨h1,h2⟩
   ·have e1:decide ((n:Int)=(i:Int))=false:=by rw[decide_eq_false_iff_not];omega
    rw[e1]
    obtain ⟨cs1,pb,_,rv,rfl,rb⟩:=(hb8.lift leb).el (i:=i) (by rw[hbl];exact hi)
    have hrow:(I6 l)[i]'(by rw[hbl];exact hi)=(List.range l.length).map fun j=>Xm l (Y1 l i) (Y1 l j):=by simp[I6]
    rw[hrow] at rb
    obtain ⟨cs2,pb2,_,hcs2⟩:=rb.el (i:=n) (by simpa using hn')
    have hcs2:cs2=_:=hcs2
    subst hcs2
    simp only[List.getElem_map,List.getElem_range] at pb2
    (try simp only[↓M1,M1,Mb,reduceIte])
    refine Y2 (hb8.lift leb) (by rw[hbl];exact hi) ?_
    refine X7 hS10.sat pb rfl ?_
    refine Y2 rb (by simpa using hn') ?_
    refine X7 hS10.sat pb2 rfl ?_
    (try simp only[↓M1,M1,Mb,reduceIte])
    cases ho:Xm l (Y1 l i) (Y1 l n) with
    | true=>
     (try simp only[↓M1,M1,Mb,reduceIte])
     refine Y2 hv10 hn' ?_
     (try simp only[↓M1,M1,Mb,reduceIte])
     refine ld hS10.sat p2 rfl ?_
     exact happ (by simp[upB,ho]) fun z w' h1 h2=>⟨h1,h2⟩
    | false=>
     (try simp only[↓M1,M1,Mb,reduceIte])
     refine ⟨hS10,?_⟩
     have:upB l i n=false:=by simp[upB,ho,e]
     rw[hsuc,this]
     simpa using ha10
  ·obtain ⟨hS',ha'⟩:=hz
   (try simp only[↓M1,M1,Mb,reduceIte])
   exact J6 (by omega) hn' ⟨σ10,hS',le10,leb,ha'⟩
 have hn0:n=l.length:=by
  have: ¬n<l.length:=by simpa using hc
  omega
 subst hn0
 obtain ⟨σ11,hS11,hv11,lee11,_⟩:=ha10.keep hS10
 have le11:=le10.more ⟨lee11⟩
 have hml2:=hml _ (Nat.le_refl l.length)
 have hov:Zp l c=Ns (Xn l i l.length):=by
  unfold Zp
  refine (Q6U fun m=>?_).symm
  rw[Q4L own hi,hname]
 have hlk:Dr l c=(!c.abs&&(Xn l i l.length).any fun m=>Zi l c.name m.name):=by
  unfold Dr
  congr 1
  refine (X0w fun m=>?_).symm
  rw[Q4L own hi,hname]
 have hsn: ∀m∈Xn l i l.length,SmM m∧NmM m:=fun m hm=>by
  obtain ⟨c2,hc2,hm2⟩:=Q9z hm (Nat.le_refl _)
  exact ⟨(ok.sm c2 hc2).2.2.2 m hm2,(ok.nm c2 hc2).2.2 m hm2⟩
 generalize Xn l i l.length=ms at hov hlk hsn hml2 hv11
 clear ha10 lee11 hS10 le10 leb hv10 hml hc hb8 hbl
 refine U3 ms.length (fun n w'=> ∃σ',Stp w σ w' σ'∧SLe σ11 σ'∧ ∀a b,a<n→b<a→A7 ms a b=false) ⟨σ11,hS11,SLe.refl _,fun a b h=>by omega⟩ fun n w12 d hn hinv=>?_
 obtain ⟨σ12,hS12,le12,hno⟩:=hinv
 have hv12:=hv11.lift le12
 refine Q8 hv12 ?_
 refine Z2 ?_
 refine Q7 (fun hc=>?_) (fun hc=>?_)
 ·have hn':n<ms.length:=by simpa using hc
  refine U3 n (fun m w'=> ∃σ',Stp w σ w' σ'∧SLe σ11 σ'∧ ∀b,b<m→A7 ms n b=false) ⟨σ12,hS12,le12,fun b h=>by omega⟩ fun m w13 d hm hinv=>?_
  obtain ⟨σ13,hS13,le13,hno2⟩:=hinv
  have hv13:=hv11.lift le13
  refine Z2 ?_
  refine Q7 (fun hc=>?_) (fun hc=>?_)
  ·have hm':m<n:=by simpa using hc
   have hm2:m<ms.length:=by omega
   obtain ⟨pv1,cv1,hv1',pn,rn⟩:=hv13.elM hn'
   obtain ⟨pv2,cv2,hv2',pm,rm⟩:=hv13.elM hm2
   obtain ⟨sn1,sn2⟩:=hsn _ (List.getElem_mem hn')
   obtain ⟨sm1,sm2⟩:=hsn _ (List.getElem_mem hm2)
   have hat:A7 ms n m=(decide (ms[n].name=ms[m].name)&& !decide (Xc ms[n]=Xc ms[m])):=by
    unfold A7;rw[Bx hn',Bx hm2]
   have hs13:=hS13.sat
   have hnx:A7 ms n m=false→ ∀b,b<m+1→A7 ms n b=false:=fun e b hb=>by
    by_cases e2:b=m
    ·subst e2;exact e
    ·exact hno2 b (by omega)
   refine U2 hs13 ?_
   (repeat refine Z8 Qd ?_)
   by_cases he:ms[n].name=ms[m].name
   ·have hd:decide (ms[n].name=ms[m].name)=true:=by simp[he]
    simp only[hd,reduceIte]
    (repeat (apply Z8;(· intros;(repeat (rename_i hx;subst hx));(repeat' (first | (with_reducible exact L1 rfl) | (with_reducible exact S3 (Stp.bel (by (repeat (first | exact Stp.refl (by (first | assumption | exact Stp.sat (by assumption) | exact Hst.sat (by assumption))) | assumption | refine Stp.trans ?_ (by first | assumption | exact Hst.stp (by assumption)))))) rfl) | (with_reducible intro _) | (simp only[↓M2,M2,Mb,reduceIte]) | (with_reducible show Q2 _ _ _ _ _;first | refine X7 aS aL aR ?_ | refine Y5 aS aL aR ?_ | refine ld aS aL aR ?_) | (with_reducible show indexAddr _ _ _ _ _ _;refine Y2 aL au ?_) | (with_reducible show X3 _ _ _ _ _ _ _ _;refine Q8 aL ?_) | (with_reducible show F5 _ _ _ _ _ _;refine J4 aR ?_) | (with_reducible show pick _ _ _ _ _ _;refine M3 ?_) | (with_reducible show Q1 _ _ _ _ _;first | refine Q6E au au au au ?_) | (apply G2;intro hh;(try simp only[hh,reduceIte,↓M2,M2,Mb,reduceIte]))));done)))
    (intros;(repeat (rename_i hx;subst hx));(try simp only[↓M2,M2,Mb,reduceIte]))
    rename_i w14 hb14
    refine Q6E hb14.sat rm sm1 sm2 fun w15 σ15 hk15=>?_
    refine Ja ?_
    (try simp only[↓M1,M1,Mb,reduceIte])
    have hS15:=(hS13.trans hb14.stp).trans hk15
    by_cases hsg:Xc ms[n]=Xc ms[m]
    ·simp only[hsg,decide_true,Bool.not_true,↓M1,M1,Mb,reduceIte]
     refine Y6 (by omega) hm' ⟨σ15,hS15,le13.more ⟨(hb14.stp.trans hk15).le⟩,hnx ?_⟩
     rw[hat,hsg];simp
    ·simp only[hsg,decide_false,Bool.not_false,↓M1,M1,Mb,reduceIte]
     have:R=66:=e66 hA hB (by rw[hov];exact X0c hn' hm2 (by rw[hat];simp[he,hsg]))
     subst this
     exact h _ _ hS15
   ·have hd:decide (ms[n].name=ms[m].name)=false:=by simp[he]
    simp only[hd,Bool.false_eq_true,reduceIte]
    (repeat refine Z8 Qd ?_)
    (intros;(repeat (rename_i hx;subst hx));(try simp only[↓M2,M2,Mb,reduceIte]))
    rename_i w14 hb14
    (try simp only[↓M1,M1,Mb,reduceIte])
    refine Y6 (by omega) hm' ⟨σ13,hS13.trans hb14.stp,le13,hnx ?_⟩
    rw[hat];simp[he]
  ·have hm0:m=n:=by
    have: ¬m<n:=by simpa using hc
    omega
   subst hm0
   (try simp only[↓M1,M1,Mb,reduceIte])
   refine Y6 hv11.max hn' ⟨σ13,hS13,le13,fun a b ha hb=>?_⟩
   by_cases e:a=m
   ·subst e;exact hno2 b hb
   ·exact hno a b (by omega) hb
 have hC:Zp l c=false:=by
  rw[hov]
  have: ¬n<ms.length:=by simpa using hc
  exact X16 fun x y hx hy=>hno x y (by omega) hy
 clear hno hc hn hv12 hov e66
 refine U3 ms.length (fun n w'=> ∃σ',Stp w σ w' σ'∧SLe σ11 σ'∧(c.abs=true→n=0)∧(ms.take n).any (fun m=>Zi l c.name m.name)=false) ⟨σ12,hS12,le12,fun _=>rfl,rfl⟩ fun n w13 d hn hinv=>?_
 clear hS12 le12
 obtain ⟨σ13,hS13,le13,hab,hno⟩:=hinv
 have hv13:=hv11.lift le13
 have hq13:=hq1.lift (le11.more le13)
 refine Q8 hv13 ?_
 refine Z2 ?_
 by_cases hn':n<ms.length
 ·have e1:decide ((n:Int)<(ms.length:Int))=true:=by simpa using hn'
  rw[e1]
  (try simp only[↓M1,M1,Mb,reduceIte])
  refine ld hS13.sat hq13 rfl ?_
  refine Wg ?_
  (try simp only[↓M1,M1,Mb,reduceIte])
  cases hca:c.abs with
  | true=>
   (try simp only[↓M1,M1,Mb,reduceIte])
   have:R=0:=e0 hA hB hC (by rw[hlk,hca];rfl)
   subst this
   exact h _ _ hS13
  | false=>
   (try simp only[↓M1,M1,Mb,reduceIte])
   obtain ⟨pvn,cvn,hvn,pn,rn⟩:=hv13.elM hn'
   have hs13:=hS13.sat
   have hnx:=L4 (p:=fun m:Hm.Met=>Zi l c.name m.name) hn'
   have hla:Zi l c.name ms[n].name=(!(V3 l c.name ms[n].name).isSome||(o2 (V3 l c.name ms[n].name)).abs):=by
    unfold Zi
    cases V3 l c.name ms[n].name<;>rfl
   generalize hF:(fun o:Option Obj=> ∃cs:List Value,∃e,o=some (.cells cs.toArray e (0,0))∧cs.length=7∧cs[3]? =some (.bool (o2 (V3 l c.name ms[n].name)).abs))=F
   have hFn: ¬F none:=by rw[←hF];rintro ⟨_,_,h,_⟩;cases h
   refine X3q F hs13 ?_
   (repeat (apply Z8;(· intros;(repeat (rename_i hx;subst hx));(repeat' (first | (with_reducible exact Q5T rfl) | (with_reducible exact X2A (Stp.bel (by (repeat (first | exact Stp.refl (by (first | assumption | exact Stp.sat (by assumption) | exact Hst.sat (by assumption))) | assumption | refine Stp.trans ?_ (by first | assumption | exact Hst.stp (by assumption)))))) rfl) | (with_reducible intro _) | (simp only[↓M2,M2,Mb,reduceIte]) | (with_reducible show Q2 _ _ _ _ _;first | refine X7 aS aL aR ?_ | refine Y5 aS aL aR ?_ | refine ld aS aL aR ?_) | (with_reducible show indexAddr _ _ _ _ _ _;refine Y2 aL au ?_) | (with_reducible show X3 _ _ _ _ _ _ _ _;refine Q8 aL ?_) | (with_reducible show F5 _ _ _ _ _ _;refine J4 aR ?_) | (with_reducible show pick _ _ _ _ _ _;refine M3 ?_)));done)))
   refine E8 (fun v _=> ∃s,∃ds:List Value,v= .tuple #[s, .agg ds.toArray, .bool (V3 l c.name ms[n].name).isSome]∧ds.length=7∧ds[3]? =some (.bool (o2 (V3 l c.name ms[n].name)).abs)∧ ∀u∈ds,u.oneCell'=true) (fun _ _ _ h _=>h) (fun t180 t185 w hb e1 e2=>?_) ?_
   ·subst e1;subst e2
    refine Q8p hb.sat (hv.up (hS13.trans hb.stp)) ok fun pv cv hv w' σ' hk hr=>⟨.of_below hk.bel,_,_,rfl,rfl,rfl,Rep.one hr⟩
   refine E8 (fun _ _=>True) (fun _ _ _ _ _=>trivial) (fun t186 w hb e=>?_) ?_
   ·obtain ⟨s,ds,rfl,_⟩:=e
    exact Z5 (vs:=[_,_,_]) rfl ⟨.of_below (Below.refl _ _),trivial⟩
   refine E8 (fun v _=> ∃ds:List Value,v= .agg ds.toArray∧ds.length=7∧ds[3]? =some (.bool (o2 (V3 l c.name ms[n].name)).abs)∧ ∀u∈ds,u.oneCell'=true) (fun _ _ _ h _=>h) (fun t186 w hb e=>?_) ?_
   ·obtain ⟨s,ds,rfl,h7⟩:=e
    exact Z5 (vs:=[_,_,_]) rfl ⟨.of_below (Below.refl _ _),ds,rfl,h7⟩
   refine Z8 (V:= .bool (V3 l c.name ms[n].name).isSome) (fun t186 w hb e=>?_) ?_
   ·obtain ⟨s,ds,rfl,h7⟩:=e
    exact Z5 (vs:=[_,_,_]) rfl (Q5T rfl)
   refine E8 (X2T w13.heap.size 7 F) (Q93 hFn) (fun w hb=>?_) ?_
   ·exact Kh hb.sat fun b w' hb2 hk hm=>⟨.of_below hk.bel,b,rfl,Nat.le_trans hb.stp.bel.size hb2, .inl ⟨_,hm.2.choose,rfl,hm.2.choose_spec⟩⟩
   refine Q4g (fun xs _ w=>X3C w13.heap.size F (xs.headD undef) w) (fun xs _ w w' h hT=>Q91 hFn _ w w' h hT) (fun t18 t188 w hb e1 e2=>?_) ?_
   ·obtain ⟨g,rfl,hg,hd⟩:=e1
    obtain ⟨ds,rfl,h7,h3,h1⟩:=e2
    obtain ⟨cs,e,hl7,hh⟩: ∃cs:List Value,∃e,cs.length=7∧w.heap[g]? =some (.cells cs.toArray e (0,0)):=by
     rcases hd with h | h
     ·exact h
     ·rw[←hF] at h
      obtain ⟨cs,e,h4,h5,_⟩:=h
      exact ⟨cs,e,h5,h4⟩
    refine My (σ:=fun _=>none) (cs:=cs) (ds:=ds) ⟨rfl,e,hh⟩ hl7 h7 (by rw[List.all_toArray];exact List.all_eq_true.2 h1) fun w' hu hm=>?_
    have hFg:F (w'.heap[g]?):=by
     obtain ⟨_,e',hm'⟩:=hm
     rw[hm',←hF]
     exact ⟨ds,e',rfl,h7,h3⟩
    exact ⟨FinT.of_upd hu hg hFg,g,rfl,hg,hFg⟩
   rintro t179 t183 t184 t180 t185 t186 t187 t188 t189 t18 u15 w14 hb14 rfl rfl rfl rfl rfl _ _ _ rfl _ ⟨g,e,hg,hd⟩
   have e:t18=_:=e
   subst e
   rw[←hF] at hd
   obtain ⟨cs,ty,hh,hl7,h3⟩:=hd
   have hS14:=hS13.trans hb14.stp
   refine Wg ?_
   cases hsm:(V3 l c.name ms[n].name).isSome with
   | false=>
    (try simp only[↓M1,M1,Mb,reduceIte])
    have:R=67:=e67 hA hB hC (by rw[hlk,hca];exact S6 hn' (by rw[hla,hsm];rfl))
    subst this
    exact h _ _ hS14
   | true=>
    (try simp only[↓M1,M1,Mb,reduceIte])
    refine Yk (σ:=fun _=>none) ⟨rfl,ty,hh⟩ h3 ?_
    (try simp only[↓M1,M1,Mb,reduceIte])
    cases hma:(o2 (V3 l c.name ms[n].name)).abs with
    | true=>
     (try simp only[↓M1,M1,Mb,reduceIte])
     have:R=67:=e67 hA hB hC (by rw[hlk,hca];exact S6 hn' (by rw[hla,hma,Bool.or_true]))
     subst this
     exact h _ _ hS14
    | false=>
     (try simp only[↓M1,M1,Mb,reduceIte])
     refine Y6 hv11.max hn' ⟨σ13,hS14,le13,fun e=>False.elim (by simpa using e),?_⟩
     rw[hnx,hno,hla,hsm,hma];rfl
 ·have e1:decide ((n:Int)<(ms.length:Int))=false:=by simpa using hn'
  rw[e1]
  (try simp only[↓M1,M1,Mb,reduceIte])
  rw[E1 hn'] at hno
  have:R=0:=e0 hA hB hC (by rw[hlk,hno,Bool.and_false])
  subst this
  exact h _ _ hS13)
end Go.Proofs.YtjdiakhipmggjaaGreatDoor

namespace Go.Proofs.YtjdiakhipmggjaaGreatDoor
open Go.Emb Go.RowKit Go.Kd Go.Hm
variable {w : World} {K : Value → World → Prop} {σ : Q6} {l : List Cla} {v : Value}
theorem X1V {w0:World} {σ0:Q6} {frm:Nat} (ha:Jg l) (ho:T7 l) (hl:l.length≤1000) (aq: ∀c∈l,Qw c) (hf:0<frm) (ax: ∀i (E:i<l.length),frm≤i→ ∀u∈U4 l[i],∃j,Z1 l u=some j): ∀(k:Nat) {i:Nat} {b:List Nat} {x:Value} {w:World} {σ:Q6} {K:Value→World→Prop},i<l.length→K9 l (Y1 l i)<k→Few l b→Stp w0 σ0 w σ→Sl 8 V0 σ v l→V6 w0.heap.size T.e 1 Wv σ w x (ints b)→
 (∀x' w' O,Stp w0 σ0 w' O→SLe σ O→V6 w0.heap.size T.e 1 Wv O w' x' (ints (Xu l frm b i))→K x' w')→Q1 P F.b2 [v,x,I frm,I i] w K:=by
 intro k
 induction k with
 | zero=>intro i b x w σ K E hk;omega
 | succ k ih=>
  intro i b x w σ K E hk D hS hv hx h
  refine Q0C ?_
  unfold Et
  rw[Q7R ha ho hf b E] at h
  refine Z2 ?_
  refine Q7 (fun U=>?_) (fun U=>?_)
  ·have U:i<frm:=by have:=of_decide_eq_true U;omega
   rw[if_pos U] at h
   exact h _ _ _ hS (SLe.refl _) hx
  have U: ¬i<frm:=by have:=of_decide_eq_false U;omega
  rw[if_neg U] at h
  have be:=D.len
  refine U3 b.length (fun n w'=>w'=w∧ ∀m (hm:m<b.length),m<n→b[m]≠i) ⟨rfl,fun m _ h=>by omega⟩ fun n w2 d hn o=>?_
  obtain ⟨hw,N⟩:=o
  subst hw
  refine Q8z hx ?_
  rw[show (ints b).length=b.length from by simp]
  refine Z2 ?_
  refine Q7 (fun B=>?_) (fun B=>?_)
  ·have f:n<b.length:=by simpa using B
   refine Q6q (J9.of_acc hx) (n:=n) (by simpa using f) fun a cs ap bb hr=>?_
   obtain ⟨rfl,_⟩:=hr
   refine Qg (by have:=ap 0 _ rfl;rwa [add_zero] at this) ?_
   simp only[List.getElem_map]
   refine I2 ?_
   by_cases e:b[n]=i
   ·have:decide ((b[n]:Int)=i)=true:=by simp[e]
    rw[this]
    refine J7 ?_
    rw[if_pos (e▸List.getElem_mem f)] at h
    exact h _ _ _ hS (SLe.refl _) hx
   ·have:decide ((b[n]:Int)=i)=false:=by rw[decide_eq_false_iff_not];omega
    rw[this]
    refine J0 ?_
    refine O8 ?_
    refine Y6 (by omega) f ⟨rfl,fun m hm br=>?_⟩
    by_cases e2:m=n
    ·subst e2;exact e
    ·exact N m hm (by omega)
  ·have f: ¬n<b.length:=by simpa using B
   have C:i∉b:=fun ar=>by
    obtain ⟨m,hm,e⟩:=List.getElem_of_mem ar
    exact N m hm (by omega) e
   rw[if_neg C] at h
   have aa:l.getD i Cla.zero=l[i]:=by rw[List.getD_eq_getElem?_getD,List.getElem?_eq_getElem E];rfl
   rw[aa] at h
   have ao:=ax i E (by omega)
   obtain ⟨lv,fv,mv,p1,r1⟩:=hv.elC E
   obtain ⟨g1,_,_,_,g5⟩:=r1.parts
   have H:=aq _ (List.getElem_mem E)
   clear N C B hn
   refine U2 hS.sat ?_
   (repeat refine Z8 Qd ?_)
   refine Q1L (w:=w2) (σ:=σ) (R:=U9) (sz:=1) (e:=T.c) [l[i].super] (fun t w hb e=>?_) ?_
   ·subst e;exact Zf hb.stp [_] [l[i].super] rfl rfl (by simp;rfl) rfl ⟨⟨rfl,g5⟩,trivial⟩ fun v' w' hk ha _=>Q3m hb hk ha
   (repeat refine Z8 Qd ?_)
   rintro a8 bd a9 bv bo bx bh w4 am rfl rfl rfl rfl rfl ⟨Z,X⟩ rfl
   refine Wk Z X g1 rfl (by simp;have:=H.1;omega) (by simp;have:=H.1;omega) fun v5 w5 az W ae Y=>?_
   obtain ⟨σ6,z,J,bg,_⟩:=ae.keep W
   have J:Sl 1 U9 σ6 v5 (U4 l[i]):=J
   have aw:=hx.up z
   have ab:=hv.up z
   have V:=hS.trans z
   have ah:SLe σ σ6:=⟨z.le⟩
   clear az Y ae X Z am W
   refine H0 (U4 l[i]).length (fun n x w'=> ∃O p,Stp w0 σ0 w' O∧SLe σ6 O∧V6 w0.heap.size T.e 1 Wv O w' x (ints p)∧Few l p∧p=((U4 l[i]).take n).foldl (fun b n=>Xu l frm b ((Z1 l n).getD 0)) b) ⟨σ6,b,V,SLe.refl _,aw,D,rfl⟩ fun n x7 w7 d hn o=>?_
   obtain ⟨σ7,a6,y,q,ad,g,Q⟩:=o
   have r:=J.lift q
   refine Q8 r ?_
   refine Z2 ?_
   refine Q7 (fun B=>?_) (fun B=>?_)
   ·have f:n<(U4 l[i]).length:=by simpa using B
    refine Y2 r f ?_
    obtain ⟨p7,_⟩:=r.elS f
    refine X7 y.sat p7 rfl ?_
    have A:=ab.lift q
    refine I9 y.sat A ?_
    obtain ⟨j,hj⟩:=ao _ (List.getElem_mem f)
    have bq:=Q1A ha ho E (by rw[aa];exact List.getElem_mem f) hj
    have ac:=(S5 hj).1
    simp only[hj,L7]
    refine ih ac (by omega) g y A ad fun x8 w8 σ8 L an M=>?_
    refine O8 ?_
    refine J6 r.max f ⟨σ8,_,L,q.more an,M,Ta ha ho hf _ _ _ ac g,?_⟩
    rw[List.take_add_one,List.getElem?_eq_getElem f,List.foldl_append,←Q]
    simp[hj]
   ·have f: ¬n<(U4 l[i]).length:=by simpa using B
    rw[List.take_of_length_le (by omega)] at Q
    have bl:=g.len
    refine Jo (R:=Wv) (x:=(i:Int)) y ad ⟨rfl,by omega,by omega⟩ rfl rfl rfl (by simp;omega) (by simp;omega) fun s x8 w8 σ8 av L M _=>?_
    refine h _ _ _ L ((ah.more q).more av.le) ?_
    rw[←Q]
    simpa [ints] using M
end Go.Proofs.YtjdiakhipmggjaaGreatDoor

namespace Go.Hm
open Go.Kd
def C2 (n i b:Nat):Bool:=decide (i<n)&&decide (128≤b)&&decide (b<192)
def Ji (n a b c d:Nat):Nat:=
 if a<128 then 1
 else if (decide (194≤a)&&decide (a<224)&&C2 n 1 b)=true then 2
 else if (decide (224≤a)&&decide (a<240)&&C2 n 1 b&&C2 n 2 c)=true then
  (if 2048≤a % 16*4096+b % 64*64+c % 64∧(a % 16*4096+b % 64*64+c % 64<55296∨57343<a % 16*4096+b % 64*64+c % 64) then 3 else 0)
 else if (decide (240≤a)&&decide (a<245)&&C2 n 1 b&&C2 n 2 c&&C2 n 3 d)=true then
  (if 65536≤a % 8*262144+b % 64*4096+c % 64*64+d % 64∧a % 8*262144+b % 64*4096+c % 64*64+d % 64≤1114111 then 4 else 0)
 else 0
theorem X0J (n a b c d:Nat) (q:a<256) (t:b<256) (p:c<256) (s:d<256):
 Ji n a b c d=if (Lib.decodeN n a b c d).1=65533∧(Lib.decodeN n a b c d).2=1 then 0 else (Lib.decodeN n a b c d).2:=by
 have key: ∀v k:Nat,Lib.decodeN n a b c d=(v,k)→ ¬k=1→Ji n a b c d=k→Ji n a b c d=if (Lib.decodeN n a b c d).1=65533∧(Lib.decodeN n a b c d).2=1 then 0 else (Lib.decodeN n a b c d).2:=by
  intro v k h o l
  rw[h,l,if_neg (fun e=>o e.2)]
 have f:Lib.decodeN n a b c d=(65533,1)→Ji n a b c d=0→Ji n a b c d=if (Lib.decodeN n a b c d).1=65533∧(Lib.decodeN n a b c d).2=1 then 0 else (Lib.decodeN n a b c d).2:=by
  intro h l
  rw[h,l];simp
 by_cases c0:a<128
 ·have h:Lib.decodeN n a b c d=(a,1):=by unfold Lib.decodeN;rw[if_pos c0]
  rw[h,if_neg (by simp only;omega)]
  unfold Ji;rw[if_pos c0]
 by_cases i:a / 32=6∧(1<n∧b / 64=2)
 ·by_cases g:a % 32*64+b % 64≥128
  ·refine key _ 2 (by unfold Lib.decodeN;rw[if_neg c0,if_pos i,if_pos g]) (by decide) ?_
   unfold Ji C2
   simp only[Bool.and_eq_true,decide_eq_true_eq]
   rw[if_neg c0,if_pos (by omega)]
  ·refine f (by unfold Lib.decodeN;rw[if_neg c0,if_pos i,if_neg g]) ?_
   unfold Ji C2
   simp only[Bool.and_eq_true,decide_eq_true_eq]
   rw[if_neg c0,if_neg (by omega),if_neg (by omega),if_neg (by omega)]
 by_cases j:a / 16=14∧(1<n∧b / 64=2)∧(2<n∧c / 64=2)
 ·by_cases g:2048≤a % 16*4096+b % 64*64+c % 64∧(a % 16*4096+b % 64*64+c % 64<55296∨57343<a % 16*4096+b % 64*64+c % 64)
  ·refine key _ 3 (by unfold Lib.decodeN;rw[if_neg c0,if_neg i,if_pos j,if_pos (by omega)]) (by decide) ?_
   unfold Ji C2
   simp only[Bool.and_eq_true,decide_eq_true_eq]
   rw[if_neg c0,if_neg (by omega),if_pos (by omega),if_pos g]
  ·refine f (by unfold Lib.decodeN;rw[if_neg c0,if_neg i,if_pos j,if_neg (by omega)]) ?_
   unfold Ji C2
   simp only[Bool.and_eq_true,decide_eq_true_eq]
   rw[if_neg c0,if_neg (by omega),if_pos (by omega),if_neg g]
 by_cases m:a / 8=30∧(1<n∧b / 64=2)∧(2<n∧c / 64=2)∧(3<n∧d / 64=2)
 ·by_cases g:65536≤a % 8*262144+b % 64*4096+c % 64*64+d % 64∧a % 8*262144+b % 64*4096+c % 64*64+d % 64≤1114111
  ·refine key _ 4 (by unfold Lib.decodeN;rw[if_neg c0,if_neg i,if_neg j,if_pos m,if_pos (by omega)]) (by decide) ?_
   unfold Ji C2
   simp only[Bool.and_eq_true,decide_eq_true_eq]
   rw[if_neg c0,if_neg (by omega),if_neg (by omega),if_pos (by omega),if_pos g]
  ·refine f (by unfold Lib.decodeN;rw[if_neg c0,if_neg i,if_neg j,if_pos m,if_neg (by omega)]) ?_
   unfold Ji C2
   simp only[Bool.and_eq_true,decide_eq_true_eq]
   rw[if_neg c0,if_neg (by omega),if_neg (by omega)]
   by_cases r:a<245
   ·rw[if_pos (by omega),if_neg g]
   ·rw[if_neg (by omega)]
 ·refine f (by unfold Lib.decodeN;rw[if_neg c0,if_neg i,if_neg j,if_neg m]) ?_
  unfold Ji C2
  simp only[Bool.and_eq_true,decide_eq_true_eq]
  rw[if_neg c0,if_neg (by omega),if_neg (by omega),if_neg (by omega)]
def X5 (l:X0) (i:Nat):Nat:=(l.getD i 0).toNat
theorem Yi (l:X0) (i:Nat):X5 l i<256:=(l.getD i 0).toNat_lt
def Zz (l:X0):Nat:=Ji l.length (X5 l 0) (X5 l 1) (X5 l 2) (X5 l 3)
theorem Q6C (l:X0):Zz l=if (Lib.decodeL l).1=65533∧(Lib.decodeL l).2=1 then 0 else (Lib.decodeL l).2:=by
 rw[Lib.decodeL_N]
 exact X0J _ _ _ _ _ (Yi l 0) (Yi l 1) (Yi l 2) (Yi l 3)
theorem Q9Z {l:X0} (a:l≠[]) (h:Zz l≠0):1≤Zz l∧Zz l≤l.length:=by
 have b:=Lib.decodeL_le l a
 have c:=Lib.decodeL_width l
 rw[Q6C] at h⊢
 split at h
 ·exact absurd rfl h
 ·rw[if_neg (by assumption)];omega
theorem Q94 {f:Nat} {l:X0} (a:l≠[]):Lib.validGoD (f+1) l=if Zz l=0 then false else Lib.validGoD f (l.drop (Zz l)):=by
 have b:=Lib.decodeL_width l
 simp only[Lib.validGoD,if_neg a]
 rw[Q6C]
 split
 ·rw[if_pos rfl]
 ·rw[if_neg (by omega)]
end Go.Hm
namespace Go.Emb
open Go.RowKit
theorem Q0Q {P:Program} {w:World} {K:Value→World→Prop} {k:IntKind} {t:TypeId} {d b:Operand} {a c:Int} (f:0<c∧0≤a) (h:K (.int k (a % c)) w):Q3 P .rem t d b (.int k a) (.int k c) w K:=by
 have e:Q3 P .rem t d b (.int k a) (.int k c) w K=K (.int k (a.tmod c)) w:=X9 (by simp[eqGuard,Go.binOp,Op.intDiv];intro e;omega)
 rw[e,Int.tmod_eq_emod_of_nonneg f.2];exact h
end Go.Emb
namespace Go.Proofs.YtjdiakhipmggjaaGreatDoor
open Go.Emb Go.RowKit Go.Kd Go.Hm
variable {w : World} {K : Value → World → Prop} {σ : Q6}
theorem Mx {a:X0} {i:Nat} (b:i<a.length) (h:K (.int .u8 (X5 a i)) w):C1 P T.c (S a) (I i) w K:=by
 rw[Ya X8 (by omega) (by simpa using b)]
 have:(a[(i:Int).toNat]'(by simpa using b)).toNat=X5 a i:=by
  unfold X5
  rw[List.getD_eq_getElem?_getD,List.getElem?_eq_getElem b];rfl
 rw[this];exact h
theorem Q1K {n:Int} (a:0≤n∧n<256) (h:K (I n) w):conv P T.a2 T.e (.int .u8 n) w K:=by
 rw[Sf Q1D Q1N,F7 (by omega) (by omega)];exact h
theorem Lt {a:X0} {i:Nat} (h:K (.bool (C2 a.length i (X5 a i))) w):Q1 P F.r [S a,I i] w K:=Th (by
 unfold Nn
 unfold C2 at h
 simp only[↓M1,M1,Mb,reduceIte]
 by_cases b:i<a.length
 ·have d:decide ((i:Int)<a.length)=true:=by rw[decide_eq_true_eq];omega
  have c:decide (i<a.length)=true:=by simpa using b
  rw[c] at h
  simp only[d,↓M1,M1,Mb,reduceIte]
  refine Mx b ?_
  (try simp only[↓M1,M1,Mb,reduceIte])
  have f:decide ((128:Int)≤(X5 a i:Int))=decide (128≤X5 a i):=by rw[Bool.eq_iff_iff,decide_eq_true_eq,decide_eq_true_eq];omega
  have g:decide ((X5 a i:Int)<192)=decide (X5 a i<192):=by rw[Bool.eq_iff_iff,decide_eq_true_eq,decide_eq_true_eq];omega
  rw[f]
  cases e:decide (128≤X5 a i) with
  | true=>
   rw[e] at h
   simp only[↓M1,M1,Mb,reduceIte]
   refine Mx b ?_
   simp only[g,↓M1,M1,Mb,reduceIte]
   simpa using h
  | false=>
   rw[e] at h
   simp only[↓M1,M1,Mb,reduceIte]
   simpa using h
 ·have d:decide ((i:Int)<a.length)=false:=by rw[decide_eq_false_iff_not];omega
  have c:decide (i<a.length)=false:=by simpa using b
  rw[c] at h
  simp only[d,↓M1,M1,Mb,reduceIte]
  simpa using h)
def Ua (a:X0):Nat:=X5 a 0 % 16*4096+X5 a 1 % 64*64+X5 a 2 % 64
def Sz (a:X0):Nat:=X5 a 0 % 8*262144+X5 a 1 % 64*4096+X5 a 2 % 64*64+X5 a 3 % 64
theorem X00 (a:X0):Zz a=if X5 a 0<128 then 1
 else if (decide (194≤X5 a 0)&&decide (X5 a 0<224)&&C2 a.length 1 (X5 a 1))=true then 2
 else if (decide (224≤X5 a 0)&&decide (X5 a 0<240)&&C2 a.length 1 (X5 a 1)&&C2 a.length 2 (X5 a 2))=true then
  (if 2048≤Ua a∧(Ua a<55296∨57343<Ua a) then 3 else 0)
 else if (decide (240≤X5 a 0)&&decide (X5 a 0<245)&&C2 a.length 1 (X5 a 1)&&C2 a.length 2 (X5 a 2)&&C2 a.length 3 (X5 a 3))=true then
  (if 65536≤Sz a∧Sz a≤1114111 then 4 else 0)
 else 0:=rfl
set_option maxHeartbeats 2000000 in
theorem X0I {a:X0} (hne:a≠[]) (hs:X2 w σ) (h: ∀w',Below w.heap.size w w'→K (I (Zz a)) w'):Q1 P F.bH [S a] w K:=Q0e (by
 unfold On
 have hl:0<a.length:=List.length_pos_iff.2 hne
 have b0:=Yi a 0
 have b1:=Yi a 1
 have b2:=Yi a 2
 have b3:=Yi a 3
 refine Mx (i:=0) hl ?_
 refine Q1K (by omega) ?_
 refine Yp (fun _ w'=>Below w.heap.size w w'∧Zz a=0) ?_ (fun _ d w' hx=>by
  have:=h w' hx.1
  rw[hx.2] at this
  exact this)
 have hK: ∀n w',Below w.heap.size w w'→Zz a=n→K (I n) w':=fun n w' hb e=>by rw[←e];exact h w' hb
 clear h
 have hcm:=X00 a
 simp only[↓M1,M1,Mb,reduceIte]
 refine Q7 (fun h1=>?_) (fun h1=>?_)
 ·have:X5 a 0<128:=by have:=of_decide_eq_true h1;omega
  exact hK 1 _ (Below.refl _ _) (by rw[hcm,if_pos this])
 have c0: ¬X5 a 0<128:=by have:=of_decide_eq_false h1;omega
 rw[if_neg c0] at hcm
 by_cases c1:X5 a 0<194
 ·have i1:decide ((194:Int)≤X5 a 0)=false:=by rw[decide_eq_false_iff_not];omega
  have n1:decide (194≤X5 a 0)=false:=by rw[decide_eq_false_iff_not];omega
  have i2:decide ((X5 a 0:Int)<224)=true:=by rw[decide_eq_true_eq];omega
  have n2:decide (X5 a 0<224)=true:=by rw[decide_eq_true_eq];omega
  have i3:decide ((224:Int)≤X5 a 0)=false:=by rw[decide_eq_false_iff_not];omega
  have n3:decide (224≤X5 a 0)=false:=by rw[decide_eq_false_iff_not];omega
  have i4:decide ((X5 a 0:Int)<240)=true:=by rw[decide_eq_true_eq];omega
  have n4:decide (X5 a 0<240)=true:=by rw[decide_eq_true_eq];omega
  have i5:decide ((240:Int)≤X5 a 0)=false:=by rw[decide_eq_false_iff_not];omega
  have n5:decide (240≤X5 a 0)=false:=by rw[decide_eq_false_iff_not];omega
  have i6:decide ((X5 a 0:Int)<245)=true:=by rw[decide_eq_true_eq];omega
  have n6:decide (X5 a 0<245)=true:=by rw[decide_eq_true_eq];omega
  simp only[i1,i2,i3,i4,i5,i6,↓M1,M1,Mb,reduceIte]
  exact ⟨Below.refl _ _,by rw[hcm];simp only[n1,n2,n3,n4,n5,n6,Bool.and_true,Bool.true_and,Bool.false_and,Bool.and_false,Bool.false_eq_true,if_true,if_false,reduceIte]⟩
 by_cases c2:X5 a 0<224
 ·have i1:decide ((194:Int)≤X5 a 0)=true:=by rw[decide_eq_true_eq];omega
  have n1:decide (194≤X5 a 0)=true:=by rw[decide_eq_true_eq];omega
  have i2:decide ((X5 a 0:Int)<224)=true:=by rw[decide_eq_true_eq];omega
  have n2:decide (X5 a 0<224)=true:=by rw[decide_eq_true_eq];omega
  have i3:decide ((224:Int)≤X5 a 0)=false:=by rw[decide_eq_false_iff_not];omega
  have n3:decide (224≤X5 a 0)=false:=by rw[decide_eq_false_iff_not];omega
  have i4:decide ((X5 a 0:Int)<240)=true:=by rw[decide_eq_true_eq];omega
  have n4:decide (X5 a 0<240)=true:=by rw[decide_eq_true_eq];omega
  have i5:decide ((240:Int)≤X5 a 0)=false:=by rw[decide_eq_false_iff_not];omega
  have n5:decide (240≤X5 a 0)=false:=by rw[decide_eq_false_iff_not];omega
  have i6:decide ((X5 a 0:Int)<245)=true:=by rw[decide_eq_true_eq];omega
  have n6:decide (X5 a 0<245)=true:=by rw[decide_eq_true_eq];omega
  simp only[i1,i2,i3,i4,i5,i6,↓M1,M1,Mb,reduceIte]
  refine Lt (i:=1) ?_
  cases A1:C2 a.length 1 (X5 a 1) with
  | true=>simp only[↓M1,M1,Mb,reduceIte];exact hK 2 _ (Below.refl _ _) (by rw[hcm];simp only[A1,n1,n2,n3,n4,n5,n6,Bool.and_true,Bool.true_and,Bool.false_and,Bool.and_false,Bool.false_eq_true,if_true,if_false,reduceIte])
  | false=>simp only[↓M1,M1,Mb,reduceIte];exact ⟨Below.refl _ _,by rw[hcm];simp only[A1,n1,n2,n3,n4,n5,n6,Bool.and_true,Bool.true_and,Bool.false_and,Bool.and_false,Bool.false_eq_true,if_true,if_false,reduceIte]⟩
 by_cases c3:X5 a 0<240
 ·have i1:decide ((194:Int)≤X5 a 0)=true:=by rw[decide_eq_true_eq];omega
  have n1:decide (194≤X5 a 0)=true:=by rw[decide_eq_true_eq];omega
  have i2:decide ((X5 a 0:Int)<224)=false:=by rw[decide_eq_false_iff_not];omega
  have n2:decide (X5 a 0<224)=false:=by rw[decide_eq_false_iff_not];omega
  have i3:decide ((224:Int)≤X5 a 0)=true:=by rw[decide_eq_true_eq];omega
  have n3:decide (224≤X5 a 0)=true:=by rw[decide_eq_true_eq];omega
  have i4:decide ((X5 a 0:Int)<240)=true:=by rw[decide_eq_true_eq];omega
  have n4:decide (X5 a 0<240)=true:=by rw[decide_eq_true_eq];omega
  have i5:decide ((240:Int)≤X5 a 0)=false:=by rw[decide_eq_false_iff_not];omega
  have n5:decide (240≤X5 a 0)=false:=by rw[decide_eq_false_iff_not];omega
  have i6:decide ((X5 a 0:Int)<245)=true:=by rw[decide_eq_true_eq];omega
  have n6:decide (X5 a 0<245)=true:=by rw[decide_eq_true_eq];omega
  simp only[i1,i2,i3,i4,i5,i6,↓M1,M1,Mb,reduceIte]
  refine Lt (i:=1) ?_
  cases A1:C2 a.length 1 (X5 a 1) with
  | false=>simp only[↓M1,M1,Mb,reduceIte];exact ⟨Below.refl _ _,by rw[hcm];simp only[A1,n1,n2,n3,n4,n5,n6,Bool.and_true,Bool.true_and,Bool.false_and,Bool.and_false,Bool.false_eq_true,if_true,if_false,reduceIte]⟩
  | true=>
  simp only[↓M1,M1,Mb,reduceIte]
  refine Lt (i:=2) ?_
  cases A2:C2 a.length 2 (X5 a 2) with
  | false=>simp only[↓M1,M1,Mb,reduceIte];exact ⟨Below.refl _ _,by rw[hcm];simp only[A1,A2,n1,n2,n3,n4,n5,n6,Bool.and_true,Bool.true_and,Bool.false_and,Bool.and_false,Bool.false_eq_true,if_true,if_false,reduceIte]⟩
  | true=>
  simp only[↓M1,M1,Mb,reduceIte]
  simp only[A1,A2,n1,n2,n3,n4,n5,n6,Bool.and_true,Bool.true_and,Bool.false_and,Bool.and_false,Bool.false_eq_true,if_true,if_false,reduceIte] at hcm
  have hl1:1<a.length:=by unfold C2 at A1;simp only[Bool.and_eq_true,decide_eq_true_eq] at A1;exact A1.1.1
  have hl2:2<a.length:=by unfold C2 at A2;simp only[Bool.and_eq_true,decide_eq_true_eq] at A2;exact A2.1.1
  have hw:IntKind.i64.wrap (IntKind.i64.wrap (IntKind.i64.wrap ((X5 a 0:Int) % 16*4096)+IntKind.i64.wrap ((X5 a 1:Int) % 64*64))+(X5 a 2:Int) % 64)=((Ua a:Nat):Int):=by
   rw[F7 (n:=(X5 a 0:Int) % 16*4096) (by omega) (by omega),F7 (n:=(X5 a 1:Int) % 64*64) (by omega) (by omega),F7 (n:=_+(X5 a 1:Int) % 64*64) (by omega) (by omega),F7 (by omega) (by omega)]
   unfold Ua;omega
  refine U2 hs ?_
  have hx1: ∀{w':World} {K:Value→World→Prop},K (.int .u8 (X5 a 1)) w'→C1 P T.c (S a) (.int .i64 1) w' K:=fun hK=>Mx (i:=1) hl1 hK
  have hx2: ∀{w':World} {K:Value→World→Prop},K (.int .u8 (X5 a 2)) w'→C1 P T.c (S a) (.int .i64 2) w' K:=fun hK=>Mx (i:=2) hl2 hK
  (repeat (apply Z8;(· intros;(repeat (rename_i hx;subst hx));(repeat' (first | (with_reducible exact L1 rfl) | (with_reducible exact S3 (Stp.bel (by (repeat (first | exact Stp.refl (by (first | assumption | exact Stp.sat (by assumption) | exact Hst.sat (by assumption))) | assumption | refine Stp.trans ?_ (by first | assumption | exact Hst.stp (by assumption)))))) rfl) | (with_reducible intro _) | (simp only[↓M2,M2,Mb,reduceIte]) | (with_reducible refine Q0Q au ?_) | (with_reducible refine Q1K au ?_) | (with_reducible refine hx1 ?_) | (with_reducible refine hx2 ?_) | (with_reducible show Q2 _ _ _ _ _;first | refine X7 aS aL aR ?_ | refine Y5 aS aL aR ?_ | refine ld aS aL aR ?_) | (with_reducible show indexAddr _ _ _ _ _ _;refine Y2 aL au ?_) | (with_reducible show X3 _ _ _ _ _ _ _ _;refine Q8 aL ?_) | (with_reducible show F5 _ _ _ _ _ _;refine J4 aR ?_) | (with_reducible show pick _ _ _ _ _ _;refine M3 ?_) | (apply G2;intro hh;(try simp only[hh,reduceIte,↓M2,M2,Mb,reduceIte]))));done)))
  (intros;(repeat (rename_i hx;subst hx));(try simp only[↓M2,M2,Mb,reduceIte]))
  rename_i w2 hb2
  simp only[hw]
  have hb:=hb2.stp.bel
  by_cases e1:2048≤Ua a
  ·by_cases e2:Ua a<55296
   ·simp only[(show decide ((2048:Int)≤(Ua a:Int))=true by rw[decide_eq_true_eq];omega),(show decide ((Ua a:Int)<55296)=true by rw[decide_eq_true_eq];omega),↓M1,M1,Mb,reduceIte]
    exact hK 3 _ hb (by rw[hcm,if_pos ⟨e1, .inl e2⟩])
   ·by_cases e3:57343<Ua a
    ·simp only[(show decide ((2048:Int)≤(Ua a:Int))=true by rw[decide_eq_true_eq];omega),(show decide ((Ua a:Int)<55296)=false by rw[decide_eq_false_iff_not];omega),(show decide ((57343:Int)<(Ua a:Int))=true by rw[decide_eq_true_eq];omega),↓M1,M1,Mb,reduceIte]
     exact hK 3 _ hb (by rw[hcm,if_pos ⟨e1, .inr e3⟩])
    ·simp only[(show decide ((2048:Int)≤(Ua a:Int))=true by rw[decide_eq_true_eq];omega),(show decide ((Ua a:Int)<55296)=false by rw[decide_eq_false_iff_not];omega),(show decide ((57343:Int)<(Ua a:Int))=false by rw[decide_eq_false_iff_not];omega),↓M1,M1,Mb,reduceIte]
     exact ⟨hb,by rw[hcm,if_neg (by omega)]⟩
  ·simp only[(show decide ((2048:Int)≤(Ua a:Int))=false by rw[decide_eq_false_iff_not];omega),↓M1,M1,Mb,reduceIte]
   exact ⟨hb,by rw[hcm,if_neg (by omega)]⟩
 by_cases c4:X5 a 0<245
 ·have i1:decide ((194:Int)≤X5 a 0)=true:=by rw[decide_eq_true_eq];omega
  have n1:decide (194≤X5 a 0)=true:=by rw[decide_eq_true_eq];omega
  have i2:decide ((X5 a 0:Int)<224)=false:=by rw[decide_eq_false_iff_not];omega
  have n2:decide (X5 a 0<224)=false:=by rw[decide_eq_false_iff_not];omega
  have i3:decide ((224:Int)≤X5 a 0)=true:=by rw[decide_eq_true_eq];omega
  have n3:decide (224≤X5 a 0)=true:=by rw[decide_eq_true_eq];omega
  have i4:decide ((X5 a 0:Int)<240)=false:=by rw[decide_eq_false_iff_not];omega
  have n4:decide (X5 a 0<240)=false:=by rw[decide_eq_false_iff_not];omega
  have i5:decide ((240:Int)≤X5 a 0)=true:=by rw[decide_eq_true_eq];omega
  have n5:decide (240≤X5 a 0)=true:=by rw[decide_eq_true_eq];omega
  have i6:decide ((X5 a 0:Int)<245)=true:=by rw[decide_eq_true_eq];omega
  have n6:decide (X5 a 0<245)=true:=by rw[decide_eq_true_eq];omega
  simp only[i1,i2,i3,i4,i5,i6,↓M1,M1,Mb,reduceIte]
  refine Lt (i:=1) ?_
  cases A1:C2 a.length 1 (X5 a 1) with
  | false=>simp only[↓M1,M1,Mb,reduceIte];exact ⟨Below.refl _ _,by rw[hcm];simp only[A1,n1,n2,n3,n4,n5,n6,Bool.and_true,Bool.true_and,Bool.false_and,Bool.and_false,Bool.false_eq_true,if_true,if_false,reduceIte]⟩
  | true=>
  simp only[↓M1,M1,Mb,reduceIte]
  refine Lt (i:=2) ?_
  cases A2:C2 a.length 2 (X5 a 2) with
  | false=>simp only[↓M1,M1,Mb,reduceIte];exact ⟨Below.refl _ _,by rw[hcm];simp only[A1,A2,n1,n2,n3,n4,n5,n6,Bool.and_true,Bool.true_and,Bool.false_and,Bool.and_false,Bool.false_eq_true,if_true,if_false,reduceIte]⟩
  | true=>
  simp only[↓M1,M1,Mb,reduceIte]
  refine Lt (i:=3) ?_
  cases A3:C2 a.length 3 (X5 a 3) with
  | false=>simp only[↓M1,M1,Mb,reduceIte];exact ⟨Below.refl _ _,by rw[hcm];simp only[A1,A2,A3,n1,n2,n3,n4,n5,n6,Bool.and_true,Bool.true_and,Bool.false_and,Bool.and_false,Bool.false_eq_true,if_true,if_false,reduceIte]⟩
  | true=>
  simp only[↓M1,M1,Mb,reduceIte]
  simp only[A1,A2,A3,n1,n2,n3,n4,n5,n6,Bool.and_true,Bool.true_and,Bool.false_and,Bool.and_false,Bool.false_eq_true,if_true,if_false,reduceIte] at hcm
  have hl1:1<a.length:=by unfold C2 at A1;simp only[Bool.and_eq_true,decide_eq_true_eq] at A1;exact A1.1.1
  have hl2:2<a.length:=by unfold C2 at A2;simp only[Bool.and_eq_true,decide_eq_true_eq] at A2;exact A2.1.1
  have hl3:3<a.length:=by unfold C2 at A3;simp only[Bool.and_eq_true,decide_eq_true_eq] at A3;exact A3.1.1
  have hw:IntKind.i64.wrap (IntKind.i64.wrap (IntKind.i64.wrap (IntKind.i64.wrap ((X5 a 0:Int) % 8*262144)+IntKind.i64.wrap ((X5 a 1:Int) % 64*4096))+IntKind.i64.wrap ((X5 a 2:Int) % 64*64))+(X5 a 3:Int) % 64)=((Sz a:Nat):Int):=by
   rw[F7 (n:=(X5 a 0:Int) % 8*262144) (by omega) (by omega),F7 (n:=(X5 a 1:Int) % 64*4096) (by omega) (by omega),F7 (n:=(X5 a 2:Int) % 64*64) (by omega) (by omega),F7 (n:=_+(X5 a 1:Int) % 64*4096) (by omega) (by omega),F7 (n:=_+(X5 a 2:Int) % 64*64) (by omega) (by omega),F7 (by omega) (by omega)]
   unfold Sz;omega
  refine U2 hs ?_
  have hx1: ∀{w':World} {K:Value→World→Prop},K (.int .u8 (X5 a 1)) w'→C1 P T.c (S a) (.int .i64 1) w' K:=fun hK=>Mx (i:=1) hl1 hK
  have hx2: ∀{w':World} {K:Value→World→Prop},K (.int .u8 (X5 a 2)) w'→C1 P T.c (S a) (.int .i64 2) w' K:=fun hK=>Mx (i:=2) hl2 hK
  have hx3: ∀{w':World} {K:Value→World→Prop},K (.int .u8 (X5 a 3)) w'→C1 P T.c (S a) (.int .i64 3) w' K:=fun hK=>Mx (i:=3) hl3 hK
  (repeat (apply Z8;(· intros;(repeat (rename_i hx;subst hx));(repeat' (first | (with_reducible exact L1 rfl) | (with_reducible exact S3 (Stp.bel (by (repeat (first | exact Stp.refl (by (first | assumption | exact Stp.sat (by assumption) | exact Hst.sat (by assumption))) | assumption | refine Stp.trans ?_ (by first | assumption | exact Hst.stp (by assumption)))))) rfl) | (with_reducible intro _) | (simp only[↓M2,M2,Mb,reduceIte]) | (with_reducible refine Q0Q au ?_) | (with_reducible refine Q1K au ?_) | (with_reducible refine hx1 ?_) | (with_reducible refine hx2 ?_) | (with_reducible refine hx3 ?_) | (with_reducible show Q2 _ _ _ _ _;first | refine X7 aS aL aR ?_ | refine Y5 aS aL aR ?_ | refine ld aS aL aR ?_) | (with_reducible show indexAddr _ _ _ _ _ _;refine Y2 aL au ?_) | (with_reducible show X3 _ _ _ _ _ _ _ _;refine Q8 aL ?_) | (with_reducible show F5 _ _ _ _ _ _;refine J4 aR ?_) | (with_reducible show pick _ _ _ _ _ _;refine M3 ?_) | (apply G2;intro hh;(try simp only[hh,reduceIte,↓M2,M2,Mb,reduceIte]))));done)))
  (intros;(repeat (rename_i hx;subst hx));(try simp only[↓M2,M2,Mb,reduceIte]))
  rename_i w2 hb2
  simp only[hw]
  have hb:=hb2.stp.bel
  by_cases e1:65536≤Sz a
  ·by_cases e2:Sz a≤1114111
   ·simp only[(show decide ((65536:Int)≤(Sz a:Int))=true by rw[decide_eq_true_eq];omega),(show decide ((Sz a:Int)≤1114111)=true by rw[decide_eq_true_eq];omega),↓M1,M1,Mb,reduceIte]
    exact hK 4 _ hb (by rw[hcm,if_pos ⟨e1,e2⟩])
   ·simp only[(show decide ((65536:Int)≤(Sz a:Int))=true by rw[decide_eq_true_eq];omega),(show decide ((Sz a:Int)≤1114111)=false by rw[decide_eq_false_iff_not];omega),↓M1,M1,Mb,reduceIte]
    exact ⟨hb,by rw[hcm,if_neg (by omega)]⟩
  ·simp only[(show decide ((65536:Int)≤(Sz a:Int))=false by rw[decide_eq_false_iff_not];omega),↓M1,M1,Mb,reduceIte]
   exact ⟨hb,by rw[hcm,if_neg (by omega)]⟩
 have i1:decide ((194:Int)≤X5 a 0)=true:=by rw[decide_eq_true_eq];omega
 have n1:decide (194≤X5 a 0)=true:=by rw[decide_eq_true_eq];omega
 have i2:decide ((X5 a 0:Int)<224)=false:=by rw[decide_eq_false_iff_not];omega
 have n2:decide (X5 a 0<224)=false:=by rw[decide_eq_false_iff_not];omega
 have i3:decide ((224:Int)≤X5 a 0)=true:=by rw[decide_eq_true_eq];omega
 have n3:decide (224≤X5 a 0)=true:=by rw[decide_eq_true_eq];omega
 have i4:decide ((X5 a 0:Int)<240)=false:=by rw[decide_eq_false_iff_not];omega
 have n4:decide (X5 a 0<240)=false:=by rw[decide_eq_false_iff_not];omega
 have i5:decide ((240:Int)≤X5 a 0)=true:=by rw[decide_eq_true_eq];omega
 have n5:decide (240≤X5 a 0)=true:=by rw[decide_eq_true_eq];omega
 have i6:decide ((X5 a 0:Int)<245)=false:=by rw[decide_eq_false_iff_not];omega
 have n6:decide (X5 a 0<245)=false:=by rw[decide_eq_false_iff_not];omega
 simp only[i1,i2,i3,i4,i5,i6,↓M1,M1,Mb,reduceIte]
 exact ⟨Below.refl _ _,by rw[hcm];simp only[n1,n2,n3,n4,n5,n6,Bool.and_true,Bool.true_and,Bool.false_and,Bool.and_false,Bool.false_eq_true,if_true,if_false,reduceIte]⟩)
theorem Q4t {s:X0} (q:s.length≤U0) (u:X2 w σ) (h: ∀w',Below w.heap.size w w'→K (.bool (Lib.validD s)) w'):Q1 P F.aL [S s] w K:=Kq (by
 unfold Mf
 refine Pr (fun f x w'=> ∃r,x=S r∧r.length≤f∧r.length≤U0∧Below w.heap.size w w'∧Lib.validD s=Lib.validGoD f r) s.length ⟨s,rfl,Nat.le_refl _,q,Below.refl _ _,rfl⟩ ?_
 rintro l f x d w1 ⟨r,rfl,p,t,b,c⟩ m
 refine Ja ?_
 by_cases a:r=[]
 ·have e:decide (r=[])=true:=by simpa using a
  simp only[e,↓M1,M1,Mb,reduceIte]
  subst a
  have:Lib.validGoD f []=true:=by cases f<;>simp[Lib.validGoD]
  rw[c,this] at h
  exact h _ b
 ·have e:decide (r=[])=false:=by simpa using a
  simp only[e,↓M1,M1,Mb,reduceIte]
  have o:0<r.length:=List.length_pos_iff.2 a
  obtain ⟨f,rfl⟩: ∃g,f=g+1:=⟨f-1,by omega⟩
  rw[Q94 a] at c
  refine X0I a (u.below b) fun y j=>?_
  have i:=b.trans (j.mono b.size)
  refine I2 ?_
  by_cases k:Zz r=0
  ·have n:decide ((Zz r:Int)=0)=true:=by rw[decide_eq_true_eq];omega
   simp only[n,↓M1,M1,Mb,reduceIte]
   rw[c,if_pos k] at h
   exact h _ i
  ·have n:decide ((Zz r:Int)=0)=false:=by rw[decide_eq_false_iff_not];omega
   simp only[n,↓M1,M1,Mb,reduceIte]
   obtain ⟨z,v⟩:=Q9Z a k
   rw[Uw X8 (by omega) (by omega)]
   rw[if_neg k] at c
   refine m f _ _ (by omega) ⟨r.drop (Zz r),by simp,by rw[List.length_drop];omega,by rw[List.length_drop];omega,i,c⟩)
end Go.Proofs.YtjdiakhipmggjaaGreatDoor

namespace Go.Proofs.YtjdiakhipmggjaaGreatDoor
open Go.Emb Go.RowKit Go.Kd Go.Hm
variable {w : World} {K : Value → World → Prop} {σ : Q6}
theorem Q5F {σ:Q6}: ∀(xs:List X0),(∀x∈xs,x.length≤U0)→Q0P U9 σ (xs.map S) xs
 | [],_=>trivial
 | x::r,h=>⟨⟨rfl,h x (by simp)⟩,Q5F r fun y a=>h y (by simp[a])⟩
def Uy:List X0:=Uk.map (·.name)
set_option maxRecDepth 100000 in
theorem X1Z (c:X2 w σ) (h: ∀v w' a,Stp w σ w' a→Sl 1 U9 a v Uy→K v w'):Q1 P F.bV [] w K:=Q0D (by
 unfold Ej
 exact T4 (R:=U9) (sz:=1) c (Uy.map S) Uy rfl rfl (by intro v b;obtain ⟨x,_,rfl⟩:=List.mem_map.1 b;rfl) rfl (Q5F _ (by decide)) fun v w' a d b=>h v w' a d b)
theorem Q8Z {a:X0} (A:X2 w σ) (h: ∀w' u,Stp w σ w' u→K (I (L7 (Qn a))) w'):Q1 P F.bh [S a] w K:=Ie (by
 unfold Ln
 refine X1Z A fun v w1 σ1 p l=>?_
 have s:Qn a=Uy.findIdx? fun x=>decide (x=a):=by
  unfold Qn Uy
  rw[List.findIdx?_map];rfl
 have q: ∀o,Qn a=o→K (I (L7 o)) w1:=fun o e=>by rw[←e];exact h _ _ p
 rw[s] at q
 have n:Uy.length=42:=rfl
 generalize Uy=g at l q n
 refine U3 g.length (fun k w'=>w'=w1∧ ∀j (i:j<g.length),j<k→ ¬g[j]=a) ⟨rfl,fun j _ h=>by omega⟩ fun k E d D t=>?_
 obtain ⟨z,f⟩:=t
 subst z
 refine Q8 l ?_
 refine Z2 ?_
 refine Q7 (fun r=>?_) (fun r=>?_)
 ·have b:k<g.length:=by simpa using r
  refine Y2 l b ?_
  obtain ⟨C,_⟩:=l.elS b
  refine X7 p.sat C rfl ?_
  refine P2 ?_
  refine Q7 (fun c=>?_) (fun c=>?_)
  ·have c:g[k]=a:=by simpa using c
   exact q (some k) (by
    rw[List.findIdx?_eq_some_iff_getElem]
    exact ⟨b,by simpa using c,fun j i=>by simpa using f j (by omega) i⟩)
  ·have c: ¬g[k]=a:=by simpa using c
   (try simp only[↓M1,M1,Mb,reduceIte])
   refine Y6 l.max b ⟨rfl,fun j i y=>?_⟩
   by_cases e:j=k
   ·subst e;exact c
   ·exact f j i (by omega)
 ·have b: ¬k<g.length:=by simpa using r
  exact q none (by
   rw[List.findIdx?_eq_none_iff]
   intro m B
   obtain ⟨j,i,rfl⟩:=List.getElem_of_mem B
   simpa using f j i (by omega)))
theorem X2h {o:Option Nat}:decide (L7 o<0)= !o.isSome:=by
 cases o with
 | none=>rfl
 | some i=>
  have: ¬(i:Int)<0:=by omega
  exact decide_eq_false this
def Nw (a:X0):Bool:=decide (a=[105,110,116])||decide (a=[108,111,97,100])||decide (a=[115,116,111,114,101])||decide (a=[106,117,109,112])||decide (a=[98,114,97,110,99,104])
def Wl (a:X0):Bool:=decide (a=[119,111,114,100])||decide (a=[110,101,119])||decide (a=[103,101,116])||decide (a=[112,117,116])||decide (a=[99,97,108,108])||decide (a=[97,114,114,97,121])||decide (a=[105,115])||decide (a=[99,97,115,116])
theorem X1j (a:X0):S2 a=(Nw a,Wl a,(Qn a).isSome):=by
 unfold S2
 cases h:Qn a with
 | none=>
  have c:=List.findIdx?_eq_none_iff.1 h
  have d: ∀x∈Uy,¬x=a:=by
   intro x f
   obtain ⟨o,r,rfl⟩:=List.mem_map.1 f
   have:=c o r
   simpa using this
  have b: ∀x∈Uy,decide (a=x)=false:=fun x f=>by rw[decide_eq_false_iff_not];exact fun e=>d x f e.symm
  have l:Nw a=false:=by
   unfold Nw
   rw[b _ (by decide),b _ (by decide),b _ (by decide),b _ (by decide),b _ (by decide)];rfl
  have p:Wl a=false:=by
   unfold Wl
   rw[b _ (by decide),b _ (by decide),b _ (by decide),b _ (by decide),b _ (by decide),b _ (by decide),b _ (by decide),b _ (by decide)];rfl
  simp[l,p]
 | some i=>
  obtain ⟨g,j,_⟩:=List.findIdx?_eq_some_iff_getElem.1 h
  have q:Uk[i].name=a:=by simpa using j
  have m:Uk.getD i ⟨[],false,false⟩=Uk[i]:=by rw[List.getD_eq_getElem?_getD,List.getElem?_eq_getElem g];rfl
  have c: ∀o∈Uk,o.number=Nw o.name∧o.text=Wl o.name:=by decide
  obtain ⟨n,k⟩:=c _ (List.getElem_mem g)
  simp only[m,Option.isSome_some]
  rw[n,k,q]
def Eh (a:X0):Int:=if Nw a then 1 else if Wl a then 2 else if (Qn a).isSome then 0 else-1
theorem Q9X {a:X0} (c:X2 w σ) (h: ∀w' l,Stp w σ w' l→K (I (Eh a)) w'):Q1 P F.bx [S a] w K:=Pb (by
 unfold Nq
 refine Yp (fun x w'=>w'=w∧x= .bool (Nw a)) ?_ (fun x d w' g=>?_)
 ·unfold Nw
  simp only[↓M1,M1,Mb,reduceIte]
  repeat' (refine Q7 (fun hh=>?_) (fun hh=>?_))
  all_goals (refine ⟨by trivial,?_⟩;congr 1;simp_all)
 ·obtain ⟨rfl,rfl⟩:=g
  cases e:Nw a with
  | true=>
   (try simp only[↓M1,M1,Mb,reduceIte])
   have:=h _ _ (Stp.refl c)
   unfold Eh at this
   simpa [e] using this
  | false=>
   (try simp only[↓M1,M1,Mb,reduceIte])
   refine Yp (fun x b=>b=w'∧x= .bool (Wl a)) ?_ (fun x d b g=>?_)
   ·unfold Wl
    simp only[↓M1,M1,Mb,reduceIte]
    repeat' (refine Q7 (fun hh=>?_) (fun hh=>?_))
    all_goals (refine ⟨by trivial,?_⟩;congr 1;simp_all)
   ·obtain ⟨rfl,rfl⟩:=g
    cases k:Wl a with
    | true=>
     (try simp only[↓M1,M1,Mb,reduceIte])
     have:=h _ _ (Stp.refl c)
     unfold Eh at this
     simpa [e,k] using this
    | false=>
     (try simp only[↓M1,M1,Mb,reduceIte])
     refine Q8Z c fun w1 σ1 f=>?_
     have:=h _ _ f
     unfold Eh at this
     simp only[e,k,Bool.false_eq_true,if_false] at this
     simp only[X2h,↓M1,M1,Mb,reduceIte]
     cases j:Qn a with
     | none=>rw[j] at this;simp only[Option.isSome_none,↓M1,M1,Mb,reduceIte];simpa using this
     | some i=>rw[j] at this;simp only[Option.isSome_some,↓M1,M1,Mb,reduceIte];simpa using this)
theorem Q5P (a:X0):decide (Eh a<0)= !(S2 a).2.2∧decide (Eh a=1)=(S2 a).1∧decide (Eh a=2)=(S2 a).2.1:=by
 rw[X1j]
 have c:Nw a=true→Wl a=false∧(Qn a).isSome=true:=by
  intro h
  unfold Nw at h
  simp only[Bool.or_eq_true,decide_eq_true_eq] at h
  rcases h with (((h | h) | h) | h) | h<;>(subst h;decide)
 have d:Wl a=true→(Qn a).isSome=true:=by
  intro h
  unfold Wl at h
  simp only[Bool.or_eq_true,decide_eq_true_eq] at h
  rcases h with ((((((h | h) | h) | h) | h) | h) | h) | h<;>(subst h;decide)
 unfold Eh
 cases f:Nw a with
 | true=>obtain ⟨g,b⟩:=c f;rw[g,b];decide
 | false=>
  cases e:Wl a with
  | true=>rw[d e];decide
  | false=>cases (Qn a).isSome<;>decide
theorem X4A (s:X0) (c:UInt8):decide (0≤Lib.indexByte s c)=s.any fun b=>decide (b=c):=by
 induction s with
 | nil=>rfl
 | cons b r f=>
  simp only[Lib.indexByte,List.any_cons,←f]
  by_cases e:b=c
  ·simp[e]
  ·have a:(b==c)=false:=by simpa using e
   have g:=Lib.indexByte_ge r c
   simp only[a,e,decide_false,Bool.false_or,Bool.false_eq_true,if_false]
   by_cases d:Lib.indexByte r c= -1
   ·simp[d]
   ·have:(Lib.indexByte r c== -1)=false:=by simpa using d
    simp only[this,Bool.false_eq_true,if_false]
    rw[Bool.eq_iff_iff,decide_eq_true_eq,decide_eq_true_eq];omega
def JB (w:World) (σ:Q6) (b:Bool) (x:Value) (w':World):Prop:= ∃a,Stp w σ w' a∧x= .bool b
theorem JB.mk {w w':World} {σ a:Q6} {b:Bool} (h:Stp w σ w' a):JB w σ b (.bool b) w':=⟨a,h,rfl⟩
theorem JB.of {w w':World} {σ a:Q6} {b c:Bool} (h:Stp w σ w' a) (e:c=b):JB w σ b (.bool c) w':=⟨a,h,by rw[e]⟩
theorem X3s {s:X0} {n:Nat} (h:n<s.length):decide ((X5 s n:Int)=10)=decide (s[n]=10):=by
 unfold X5
 rw[List.getD_eq_getElem?_getD,List.getElem?_eq_getElem h,Bool.eq_iff_iff,decide_eq_true_eq,decide_eq_true_eq]
 simp only[Option.getD_some]
 rw[←UInt8.toNat_inj]
 constructor
 ·intro e;have:s[n].toNat=10:=by omega
  rw[this];rfl
 ·intro e;rw[e];rfl
theorem Ux {α:Type} {xs:List α} {p:α→Bool} {n:Nat} (h:n<xs.length):(xs.take (n+1)).all p=((xs.take n).all p&&p xs[n]):=by
 rw[List.take_add_one,List.getElem?_eq_getElem h,List.all_append];simp
set_option maxHeartbeats 2000000 in
theorem Q8t {i:Ins} {cs:List Value} (hs:X2 w σ) (hi:Qi σ i cs) (h: ∀w' m,Stp w σ w' m→K (I (H5 i)) w'):Q1 P F.bw [.agg cs.toArray] w K:=Iu (by
 obtain ⟨rfl,h1,h2,h3⟩:=hi
 unfold Mw
 refine Y9 hs fun q w1 σ1 W hq=>?_
 have X:=W.sat
 (try simp only[↓M1,M1,Mb,reduceIte])
 refine ld X hq rfl ?_
 refine Q9X X fun w2 σ2 O=>?_
 obtain ⟨t1,Q,E⟩:=Q5P i.op
 have f:=W.trans O
 have g:=hq.up O
 have e:=f.sat
 have t:i.s.length≤140737488355328:=by simp only[U0] at h3;omega
 simp only[t1,↓M1,M1,Mb,reduceIte]
 unfold H5 at h
 cases e1:(S2 i.op).2.2 with
 | false=>
  simp only[e1,Bool.not_false,if_true] at h
  (try simp only[↓M1,M1,Mb,reduceIte])
  exact h _ _ f
 | true=>
 simp only[e1,Bool.not_true,Bool.false_eq_true,if_false] at h
 simp only[Q,E,↓M1,M1,Mb,reduceIte]
 have k: ∀(b:Bool) (w':World) (m:Q6),Stp w σ w' m→b=(!((!(S2 i.op).1&&decide (i.n≠0))||(!(S2 i.op).2.1&&decide (i.s≠[]))||((S2 i.op).2.1&& !txt i.op i.s)))→
  X1 (.bool (!b)) (K (.int .i64 41) w') (K (.int .i64 0) w'):=by
  intro b w' m u A
  subst A
  rw[Bool.not_not]
  cases A:((!(S2 i.op).1&&decide (i.n≠0))||(!(S2 i.op).2.1&&decide (i.s≠[]))||((S2 i.op).2.1&& !txt i.op i.s)) with
  | true=>simp only[A,if_true] at h;(try simp only[↓M1,M1,Mb,reduceIte]);exact h _ _ u
  | false=>simp only[A,Bool.false_eq_true,if_false] at h;(try simp only[↓M1,M1,Mb,reduceIte]);exact h _ _ u
 clear h
 have ad:(S2 i.op).2.1=true→(S2 i.op).1=false:=by
  intro R
  rw[←Q,decide_eq_false_iff_not]
  rw[←E,decide_eq_true_eq] at R
  omega
 cases D:(S2 i.op).2.1 with
 | false=>
  rw[D] at k E
  cases y:(S2 i.op).1 with
  | true=>
   rw[y] at k Q
   (try simp only[↓M1,M1,Mb,reduceIte])
   simp only[E,↓M1,M1,Mb,reduceIte]
   refine ld e g rfl ?_
   (try simp only[↓M1,M1,Mb,reduceIte])
   refine U7 ?_
   intro d
   simp only[↓M1,M1,Mb,reduceIte]
   exact k _ _ _ f (by simp)
  | false=>
   rw[y] at k Q
   (try simp only[↓M1,M1,Mb,reduceIte])
   refine ld e g rfl ?_
   (try simp only[↓M1,M1,Mb,reduceIte])
   by_cases N:i.n=0
   ·have d0:decide (i.n=0)=true:=by simpa using N
    simp only[d0,E,↓M1,M1,Mb,reduceIte]
    refine ld e g rfl ?_
    (try simp only[↓M1,M1,Mb,reduceIte])
    refine U7 ?_
    intro d
    simp only[↓M1,M1,Mb,reduceIte]
    exact k _ _ _ f (by simp[N])
   ·have d0:decide (i.n=0)=false:=by simpa using N
    simp only[d0,↓M1,M1,Mb,reduceIte]
    refine U7 ?_
    intro d
    have H:=k false _ _ f (by simp[N])
    (try simp only[↓M1,M1,Mb,reduceIte] at H⊢)
    exact H
 | true=>
  have y:=ad D
  rw[D,y] at k
  rw[D] at E
  rw[y] at Q⊢
  (try simp only[↓M1,M1,Mb,reduceIte])
  refine ld e g rfl ?_
  (try simp only[↓M1,M1,Mb,reduceIte])
  have o: ∀(b c:Bool) (w':World) (m:Q6),decide (i.n=0)=b→Stp w σ w' m→c=(b&&txt i.op i.s)→X1 (.bool (!c)) (K (.int .i64 41) w') (K (.int .i64 0) w'):=by
   intro b c w' m A u r
   refine k c w' m u ?_
   rw[r,←A]
   by_cases N:i.n=0<;>simp[N]
  clear k
  cases A:decide (i.n=0) with
  | false=>
   have v:=fun w' m u=>o false false w' m A u rfl
   clear o
   simp only[E,↓M1,M1,Mb,reduceIte]
   refine Yp (JB w σ false) ?_ (fun x d w' R=>?_)
   ·refine ld e g rfl ?_
    (try simp only[↓M1,M1,Mb,reduceIte])
    refine Q7 (fun hh=>?_) (fun hh=>?_)
    ·refine H0 (a:=Value.bool false) i.s.length (fun n x w'=>w'=w2∧x=Value.bool false) ⟨rfl,rfl⟩ fun n x w3 d hn l=>?_
     obtain ⟨C,rfl⟩:=l
     subst C
     (try simp only[↓M1,M1,Mb,reduceIte])
     refine ld e g rfl ?_
     (try simp only[↓M1,M1,Mb,reduceIte])
     refine Q7 (fun r=>?_) (fun r=>?_)
     ·have j:n<i.s.length:=by simpa using r
      (try simp only[↓M1,M1,Mb,reduceIte])
      exact J6 (by omega) j ⟨rfl,rfl⟩
     ·exact .mk f
    refine Q7 (fun hh=>?_) (fun hh=>?_)
    ·exact .mk f
    refine Yp (fun x w'=>w'=w2∧ ∃b:Bool,x=Value.bool b) ?_ (fun z d w' hz=>?_)
    ·refine Q7 (fun hh=>?_) (fun hh=>?_)
     ·exact ⟨rfl,_,rfl⟩
     ·exact ⟨rfl,_,rfl⟩
    obtain ⟨C,b,rfl⟩:=hz
    subst C
    refine Q7 (fun hh=>?_) (fun hh=>?_)
    ·exact .mk f
    refine Q7 (fun hh=>?_) (fun hh=>?_)
    ·exact .mk f
    refine ld e g rfl ?_
    refine Q4U i.s t fun w4 p=>?_
    by_cases M:(Xe i.s).2.2=true
    ·simp only[M,if_true,↓M1,M1,Mb,reduceIte]
     exact .mk (f.trans (Stp.of_below e p))
    ·simp only[M,if_false,↓M1,M1,Mb,reduceIte]
     exact .mk (f.trans (Stp.of_below e p))
   ·obtain ⟨m,u,rfl⟩:=R
    have H:=v w' m u
    (try simp only[↓M1,M1,Mb,reduceIte] at H⊢)
    exact H
  | true=>
   have v:=fun c w' m u r=>o true c w' m A u r
   clear o
   simp only[E,↓M1,M1,Mb,reduceIte]
   refine Yp (JB w σ (txt i.op i.s)) ?_ (fun x d w' R=>?_)
   ·refine ld e g rfl ?_
    (try simp only[↓M1,M1,Mb,reduceIte])
    unfold txt
    by_cases o1:i.op=[119,111,114,100]
    ·simp only[if_pos o1,decide_eq_true o1,↓M1,M1,Mb,reduceIte]
     refine ld e g rfl ?_
     (try simp only[↓M1,M1,Mb,reduceIte])
     have ac:decide ((i.s.length:Int)≤64)=decide (i.s.length≤64):=by rw[Bool.eq_iff_iff,decide_eq_true_eq,decide_eq_true_eq];omega
     rw[ac,X4A,List.not_any_eq_all_not]
     cases ap:decide (i.s.length≤64) with
     | false=>
      (try simp only[↓M1,M1,Mb,reduceIte])
      refine H0 (a:=Value.bool false) i.s.length (fun n x w'=>w'=w2∧x=Value.bool false) ⟨rfl,rfl⟩ fun n x w3 d hn l=>?_
      obtain ⟨C,rfl⟩:=l
      subst C
      (try simp only[↓M1,M1,Mb,reduceIte])
      refine ld e g rfl ?_
      (try simp only[↓M1,M1,Mb,reduceIte])
      refine Q7 (fun r=>?_) (fun r=>?_)
      ·have j:n<i.s.length:=by simpa using r
       (try simp only[↓M1,M1,Mb,reduceIte])
       exact J6 (by omega) j ⟨rfl,rfl⟩
      ·exact .of f (by simp)
     | true=>
      (try simp only[↓M1,M1,Mb,reduceIte])
      refine ld e g rfl ?_
      refine Q4t h3 e fun w4 p=>?_
      have L:=Stp.of_below e p
      have V:=g.up L
      have U:=L.sat
      have B:=f.trans L
      (try simp only[↓M1,M1,Mb,reduceIte])
      refine H0 (a:=Value.bool (Lib.validD i.s)) i.s.length (fun n x w'=>w'=w4∧x=Value.bool (Lib.validD i.s&&(i.s.take n).all fun c=> !decide (c=10))) ⟨rfl,by simp⟩ fun n x w3 d hn l=>?_
      obtain ⟨C,rfl⟩:=l
      subst C
      (try simp only[↓M1,M1,Mb,reduceIte])
      refine ld U V rfl ?_
      (try simp only[↓M1,M1,Mb,reduceIte])
      refine Q7 (fun r=>?_) (fun r=>?_)
      ·have j:n<i.s.length:=by simpa using r
       have J:(Lib.validD i.s&&(i.s.take (n+1)).all fun c=> !decide (c=10))=((Lib.validD i.s&&(i.s.take n).all fun c=> !decide (c=10))&& !decide (i.s[n]=10)):=by rw[Ux j,Bool.and_assoc]
       generalize aj:(Lib.validD i.s&&(i.s.take n).all fun c=> !decide (c=10))=af at J⊢
       cases af with
       | false=>(try simp only[↓M1,M1,Mb,reduceIte]);exact J6 (by omega) j ⟨rfl,by rw[J];rfl⟩
       | true=>
        (try simp only[↓M1,M1,Mb,reduceIte])
        refine ld U V rfl ?_
        refine Mx j ?_
        simp only[X3s j,↓M1,M1,Mb,reduceIte]
        exact J6 (by omega) j ⟨rfl,by rw[J];rfl⟩
      ·have j: ¬n<i.s.length:=by simpa using r
       rw[List.take_of_length_le (by omega)]
       exact .of B (by simp)
    ·simp only[if_neg o1,decide_eq_false o1,↓M1,M1,Mb,reduceIte]
     by_cases o2:i.op=[110,101,119]
     ·simp only[if_pos o2,decide_eq_true o2,↓M1,M1,Mb,reduceIte]
      refine ld e g rfl ?_
      refine Yj i.s t ?_
      (try simp only[↓M1,M1,Mb,reduceIte])
      exact .mk f
     ·simp only[if_neg o2,decide_eq_false o2,↓M1,M1,Mb,reduceIte]
      refine Yp (fun x w'=>w'=w2∧x=Value.bool (decide (i.op=[105,115]∨i.op=[99,97,115,116]))) ?_ (fun z d w' hz=>?_)
      ·refine Q7 (fun hh=>?_) (fun hh=>?_)
       ·exact ⟨rfl,by simp_all⟩
       ·exact ⟨rfl,by simp_all⟩
      obtain ⟨C,rfl⟩:=hz
      subst C
      by_cases Y:i.op=[105,115]∨i.op=[99,97,115,116]
      ·simp only[if_pos Y,decide_eq_true Y,↓M1,M1,Mb,reduceIte]
       refine ld e g rfl ?_
       refine Ub i.s t ?_
       cases hr:right i.s with
       | false=>(try simp only[↓M1,M1,Mb,reduceIte]);exact .mk f
       | true=>
        (try simp only[↓M1,M1,Mb,reduceIte])
        refine ld e g rfl ?_
        refine Eg i.s ?_
        (try simp only[↓M1,M1,Mb,reduceIte])
        exact .mk f
      ·simp only[if_neg Y,decide_eq_false Y,↓M1,M1,Mb,reduceIte]
       by_cases Z:i.op=[97,114,114,97,121]
       ·simp only[if_pos Z,decide_eq_true Z,↓M1,M1,Mb,reduceIte]
        refine ld e g rfl ?_
        refine Ub i.s t ?_
        cases hr:right i.s with
        | false=>(try simp only[↓M1,M1,Mb,reduceIte]);exact .mk f
        | true=>
         (try simp only[↓M1,M1,Mb,reduceIte])
         refine ld e g rfl ?_
         refine Ct i.s t ?_
         (try simp only[↓M1,M1,Mb,reduceIte])
         have e3:decide (((base i.s).2:Int)<3)=decide (Yf i.s<3):=by
          unfold Yf;rw[if_pos hr,Bool.eq_iff_iff,decide_eq_true_eq,decide_eq_true_eq];omega
         rw[e3]
         exact .mk f
       ·simp only[if_neg Z,decide_eq_false Z,↓M1,M1,Mb,reduceIte]
        refine ld e g rfl ?_
        refine Q4U i.s t fun w4 p=>?_
        have B:=f.trans (Stp.of_below e p)
        by_cases M:(Xe i.s).2.2=true
        ·simp only[M,if_true,↓M1,M1,Mb,reduceIte]
         exact .mk B
        ·have:Zs i.s=false:=by unfold Zs;rw[eq_false_of_ne_true M];rfl
         simp only[M,if_false,↓M1,M1,Mb,reduceIte]
         exact .of B this.symm
   ·obtain ⟨m,u,rfl⟩:=R
    have H:=v _ w' m u rfl
    simp only[Bool.true_and] at H
    (try simp only[↓M1,M1,Mb,reduceIte])
    exact H)
end Go.Proofs.YtjdiakhipmggjaaGreatDoor

namespace Go.Emb
theorem X2e {w:World} {K:Value→World→Prop} {v:Value} (h:K v w):Q0 (.bool true) true w (fun w J=>J v w) K:=by rw[W5];exact h
theorem X2J {w:World} {K:Value→World→Prop} {v:Value} (h:K v w):Q0 (.bool false) false w (fun w J=>J v w) K:=by rw[W9];exact h
theorem X3d {w:World} {K:Value→World→Prop} {b:Bool} {run:World→(Value→World→Prop)→Prop} (h:K undef w):Q0 undef b w run K:=by rw[O4];exact h
class Hd (p : Prop) (q : outParam Prop) : Prop where
  h : q → p
section
variable {P : Program} {w : World} {K : Value → World → Prop} {run : World → (Value → World → Prop) → Prop} {v u : Value} {b : Bool}
instance:Hd (J8 P .not (.bool b) w K) (K (.bool (!b)) w):=⟨Wg⟩
instance:Hd (Q0 undef b w run K) (K undef w):=⟨X3d⟩
instance {t:TypeId} {k off:Nat} {ft:TypeId} {sz by_:Nat} {z:Value} {a:Addr} [tf:TF P t k off ft] [tz:TZ P ft sz by_ z] [nz:NZ sz]:Hd (fieldAddr P t (.pointer (some a)) k w K) (K (.pointer (some (a.add off))) w):=⟨W6⟩
instance:Hd (pick P (.bool false) v u w K) (K u w):=⟨X2b⟩
instance:Hd (pick P (.bool true) v u w K) (K v w):=⟨X2k⟩
instance:Hd (Q0 (.bool false) false w run K) (run w K):=⟨X2R⟩
instance:Hd (Q0 (.bool true) true w run K) (run w K):=⟨X3D⟩
instance:Hd (Q0 (.bool false) true w run K) (K undef w):=⟨X2M⟩
instance:Hd (Q0 (.bool true) false w run K) (K undef w):=⟨X1X⟩
instance:Hd (Q0 (.bool false) false w (fun w J=>J v w) K) (K v w):=⟨X2J⟩
instance:Hd (Q0 (.bool true) true w (fun w J=>J v w) K) (K v w):=⟨X2e⟩
end
end Go.Emb
namespace Go.Proofs.YtjdiakhipmggjaaGreatDoor
open Go.Emb Go.RowKit Go.Kd Go.Hm
variable {w : World} {K : Value → World → Prop} {σ : Q6}
theorem X2C {xs:List Ins} {v:Value} (q:X2 w σ) (o:Sl 3 Qi σ v xs) (h: ∀e w' m,Stp w σ w' m→decide (e=0)=xs.all (fun i=>decide (H5 i=0))→K (I e) w'):Q1 P F.b4 [v] w K:=Q0S (by
 unfold Ep
 refine U3 xs.length (fun n w'=> ∃m,Stp w σ w' m∧(xs.take n).all (fun i=>decide (H5 i=0))=true) ⟨σ,Stp.refl q,rfl⟩ fun n w1 d y k=>?_
 obtain ⟨σ1,c,f⟩:=k
 have g:=o.up c
 refine Q8 g ?_
 refine Z2 ?_
 refine Q7 (fun l=>?_) (fun l=>?_)
 ·have a:n<xs.length:=by simpa using l
  refine Y2 g a ?_
  obtain ⟨r,p⟩:=g.elI a
  refine Y5 c.sat r rfl ?_
  refine Q8t c.sat p fun z t j=>?_
  refine Qx ?_
  by_cases e:H5 xs[n]=0
  ·have:decide (H5 xs[n]=0)=true:=by simpa using e
   simp only[this,↓M1,M1,Mb,reduceIte]
   exact Y6 o.max a ⟨t,c.trans j,by rw[Ux a,f];simpa using e⟩
  ·have:decide (H5 xs[n]=0)=false:=by simpa using e
   simp only[this,↓M1,M1,Mb,reduceIte]
   refine h _ _ _ (c.trans j) ?_
   rw[this]
   symm
   rw[←Bool.not_eq_true,List.all_eq_true]
   intro s
   have:=s _ (List.getElem_mem a)
   simp at this
   exact e this
 ·have a: ¬n<xs.length:=by simpa using l
  rw[List.take_of_length_le (by omega)] at f
  exact h 0 _ _ c (by rw[f];rfl))
theorem X0U {c:Cla} {cs:List Value} (hs:X2 w σ) (hc:V0 σ c cs) (h: ∀w' σ',Stp w σ w' σ'→K (.bool (Zx c)) w'):Q1 P F.bK [.agg cs.toArray] w K:=Q0c (by
 unfold Oj
 obtain ⟨lv,fv,mv,rfl,f1,f2,f3,f4,f5⟩:=hc
 refine Y9 hs fun q w1 σ1 hk1 hq=>?_
 have f1:=f1.up hk1
 have f2:=f2.up hk1
 have f3:=f3.up hk1
 refine U3 c.methods.length (fun n w'=> ∃σ',Stp w1 σ1 w' σ'∧(c.methods.take n).any Wm=false) ⟨σ1,Stp.refl hk1.sat,rfl⟩ fun n w2 d hn hinv=>?_
 obtain ⟨σ2,hk2,hno⟩:=hinv
 have hq2:=hq.up hk2
 have f32:=f3.up hk2
 have f12:=f1.up hk2
 have f22:=f2.up hk2
 have hs2:=hk2.sat
 (try simp only[↓M1,M1,Mb,reduceIte])
 refine ld hs2 hq2 rfl ?_
 refine Q8 f32 ?_
 refine Z2 ?_
 refine Q7 (fun hc=>?_) (fun hc=>?_)
 ·have hn':n<c.methods.length:=by simpa using hc
  (try simp only[↓M1,M1,Mb,reduceIte])
  refine ld hs2 hq2 rfl ?_
  refine Y2 f32 hn' ?_
  obtain ⟨pv,cv,hv,p1,r1⟩:=f32.elM hn'
  refine Y5 hs2 p1 rfl ?_
  refine Y7 hs2 (by rfl) rfl (Rep.one r1) fun q3 w3 σ3 hk3 hq3=>?_
  obtain ⟨g1,g2,g3,_,_,_⟩:=(RMe_lift r1 ⟨hk3.le⟩).parts
  have hS3:=hk1.trans (hk2.trans hk3)
  have hyes:Wm c.methods[n]=true→K (.bool true) w3:=fun e=>by
   have:=h _ _ hS3
   have hm:Zx c=true:=by unfold Zx;rw[S6 hn' e];rfl
   rwa [hm] at this
  have hk23:=hk2.trans hk3
  clear h hk2 hk3 hS3
  have hmax:=f3.max
  (repeat' (first | (with_reducible intro _) | (with_reducible refine U7 ?_) | (simp only[↓M2,M2,Mb,reduceIte]) | (with_reducible first | refine ld aS aL aR ?_ | refine X7 aS aL aR ?_ | refine Y5 aS aL aR ?_ | refine Q8 aL ?_ | refine J4 aR ?_ | refine Y9 aS ?_ | refine N1 aS aL ?_ | refine U6 aS aR ?_ | refine Y7 aS aR aR (Rep.one (by assumption)) ?_ | refine U8 aS aR aR aR ?_ | (refine J3 (fun hh=>?_) (fun hh=>?_)<;>(try simp only[hh,Bool.not_true,Bool.not_false,↓M2,M2,Mb,reduceIte])) | (refine Q7 (fun hh=>?_) (fun hh=>?_)<;>(try simp only[hh,Bool.not_true,Bool.not_false,↓M2,M2,Mb,reduceIte])))))
  all_goals clear hq hq2 f1 f2 f3 f32 f12 f22 hs hs2 p1 r1 g1 g2 g3 hk1 f4 f5 hq3
  all_goals first
   | (refine hyes ?_;clear hyes hk23;unfold Wm;simp only[Bool.not_false,Bool.not_true,Bool.or_eq_true,decide_eq_true_eq,decide_eq_false_iff_not] at*;omega)
   | (
    have hnx:(c.methods.take (n+1)).any Wm=false:=by
     rw[L4 hn',hno,Bool.false_or];clear hyes hk23;unfold Wm;simp only[Bool.or_eq_false_iff,decide_eq_false_iff_not] at*;omega
    exact Y6 hmax hn' ⟨_,hk23,hnx⟩)
 ·have hn': ¬n<c.methods.length:=by simpa using hc
  rw[E1 hn'] at hno
  have hS2:=hk1.trans hk2
  have hm:Zx c=(decide (32<c.like.length)||decide (32<c.fields.length)||decide (32<c.methods.length)):=by unfold Zx;rw[hno];simp
  rw[hm] at h
  have hK:=h _ _ hS2
  clear h hk2
  (try simp only[↓M1,M1,Mb,reduceIte])
  refine ld hs2 hq2 rfl ?_
  refine Q8 f12 ?_
  have d32: ∀k:Nat,decide ((32:Int)<(k:Int))=decide (32<k):=fun k=>by rw[Bool.eq_iff_iff,decide_eq_true_eq,decide_eq_true_eq];omega
  simp only[d32,↓M1,M1,Mb,reduceIte]
  cases e1:decide (32<c.like.length) with
  | true=>rw[e1] at hK;(try simp only[↓M1,M1,Mb,reduceIte]);simpa using hK
  | false=>
   rw[e1] at hK
   (try simp only[↓M1,M1,Mb,reduceIte])
   refine ld hs2 hq2 rfl ?_
   refine Q8 f22 ?_
   simp only[d32,↓M1,M1,Mb,reduceIte]
   cases e2:decide (32<c.fields.length) with
   | true=>rw[e2] at hK;(try simp only[↓M1,M1,Mb,reduceIte]);simpa using hK
   | false=>
    rw[e2] at hK
    (try simp only[↓M1,M1,Mb,reduceIte])
    refine ld hs2 hq2 rfl ?_
    refine Q8 f32 ?_
    simp only[d32,↓M1,M1,Mb,reduceIte]
    simpa using hK)
theorem Q7E {α:Type} {xs:List α} {p:α→Bool} {n:Nat} (h: ¬n<xs.length):(xs.take n).all p=xs.all p:=by rw[List.take_of_length_le (by omega)]
set_option maxHeartbeats 4000000 in
theorem Q1s {m:Hm.Met} {pv cv hv:Value} {w1:World} {σ1:Q6} {q:Addr} {r:Bool} (hs:X2 w σ) (ag:Stp w σ w1 σ1) (hq:Z6 σ1 q [S m.name,pv,S m.result, .bool m.abs,I m.locals,cv,hv]) (g1:Sl 1 U9 σ1 pv m.params) (g2:Sl 3 Qi σ1 cv m.code) (g3:Sl 4 Ju σ1 hv m.catches)
 (h: ∀w' U,Stp w σ w' U→K (.bool ((r&&m.params.all right)&&if m.abs then decide (m.locals=0)&&decide (m.code=[])&&decide (m.catches=[])
  else decide (m.code≠[])&&decide ((m.params.length:Int)<m.locals)&&m.code.all (fun i=>decide (H5 i=0))&&m.catches.all (I4 m.code.length))) w'):
 lp (α:=Value×Value) (Value.bool r,(.int .i64 0)) w1 fun V B d_ w=>
  fieldAddr P T.d (.pointer (some q)) 1 w fun bq w=>
  Q2 P T.h bq w fun ct w=>
  X3 P .len [T.h] T.e [false] [ct] w fun cy w=>
  Q3 P .lss T.e (.tmp 21) (.tmp 24) B.2 cy w fun cn w=>
  X1 cn (
   Q0 B.1 true w (fieldAddr P T.d (.pointer (some q)) 1) fun b6 w=>
   Q0 B.1 true w (Q2 P T.h b6) fun bh w=>
   Q0 B.1 true w (fun w J=>J B.2 w) fun cr w=>
   Q0 B.1 true w (indexAddr P T.h bh cr) fun b3 w=>
   Q0 B.1 true w (Q2 P T.c b3) fun cd w=>
   Q0 B.1 true w (Q1 P F.e [cd]) fun bj w=>
   pick P B.1 bj (.bool false) w fun ce w=>
   Q3 P .add T.e (.tmp 26) (.const (.int .i64 1)) B.2 (.int .i64 1) w fun cw w=>
   V (ce,cw) w) (
   fieldAddr P T.d (.pointer (some q)) 3 w fun ci w=>
   Q2 P T.u ci w fun cc w=>
   X1 cc (
    Q0 B.1 true w (fieldAddr P T.d (.pointer (some q)) 4) fun bu w=>
    Q0 B.1 true w (Q2 P T.e bu) fun b7 w=>
    Q0 B.1 true w (Q3 P .eql T.e (.tmp 42) (.const (.int .i64 0)) b7 (.int .i64 0)) fun cj w=>
    pick P B.1 cj (.bool false) w fun O w=>
    Q0 O true w (fieldAddr P T.d (.pointer (some q)) 5) fun bn w=>
    Q0 O true w (Q2 P T.q bn) fun cf w=>
    Q0 O true w (X3 P .len [T.q] T.e [false] [cf]) fun cz w=>
    Q0 O true w (Q3 P .eql T.e (.tmp 48) (.const (.int .i64 0)) cz (.int .i64 0)) fun bs w=>
    pick P O bs (.bool false) w fun Q w=>
    Q0 Q true w (fieldAddr P T.d (.pointer (some q)) 6) fun b5 w=>
    Q0 Q true w (Q2 P T.s b5) fun b1 w=>
    Q0 Q true w (X3 P .len [T.s] T.e [false] [b1]) fun cg w=>
    Q0 Q true w (Q3 P .eql T.e (.tmp 54) (.const (.int .i64 0)) cg (.int .i64 0)) fun bi w=>
    pick P Q bi (.bool false) w fun db w=>
    K db w) (
    fieldAddr P T.d (.pointer (some q)) 5 w fun ch w=>
    Q2 P T.q ch w fun c9 w=>
    X3 P .len [T.q] T.e [false] [c9] w fun af w=>
    lp (α:=Value×Value) (B.1,(.int .i64 0)) w fun M j d_ w=>
     fieldAddr P T.d (.pointer (some q)) 6 w fun cb w=>
     Q2 P T.s cb w fun b2 w=>
     X3 P .len [T.s] T.e [false] [b2] w fun ca w=>
     Q3 P .lss T.e (.tmp 60) (.tmp 63) j.2 ca w fun bw w=>
     X1 bw (
      fieldAddr P T.d (.pointer (some q)) 6 w fun bl w=>
      Q2 P T.s bl w fun c6 w=>
      indexAddr P T.s c6 j.2 w fun b0 w=>
      Q2 P T.t b0 w fun bo w=>
      V8 P T.t w fun t7 w=>
      Y0 P T.t t7 bo w fun _u w=>
      Q0 j.1 true w (fieldAddr P T.t t7 0) fun bx w=>
      Q0 j.1 true w (Q2 P T.e bx) fun b8 w=>
      Q0 j.1 true w (Q3 P .geq T.e (.tmp 75) (.const (.int .i64 0)) b8 (.int .i64 0)) fun c7 w=>
      pick P j.1 c7 (.bool false) w fun H w=>
      Q0 H true w (fieldAddr P T.t t7 0) fun c4 w=>
      Q0 H true w (Q2 P T.e c4) fun cm w=>
      Q0 H true w (fieldAddr P T.t t7 1) fun da w=>
      Q0 H true w (Q2 P T.e da) fun c8 w=>
      Q0 H true w (Q3 P .lss T.e (.tmp 80) (.tmp 82) cm c8) fun c5 w=>
      pick P H c5 (.bool false) w fun N w=>
      Q0 N true w (fieldAddr P T.t t7 1) fun cx w=>
      Q0 N true w (Q2 P T.e cx) fun dd w=>
      Q0 N true w (fun w J=>J af w) fun cp w=>
      Q0 N true w (Q3 P .leq T.e (.tmp 87) (.tmp 88) dd cp) fun bk w=>
      pick P N bk (.bool false) w fun Z w=>
      Q0 Z true w (fieldAddr P T.t t7 2) fun cl w=>
      Q0 Z true w (Q2 P T.e cl) fun cs w=>
      Q0 Z true w (Q3 P .geq T.e (.tmp 93) (.const (.int .i64 0)) cs (.int .i64 0)) fun cq w=>
      pick P Z cq (.bool false) w fun R w=>
      Q0 R true w (fieldAddr P T.t t7 2) fun co w=>
      Q0 R true w (Q2 P T.e co) fun b9 w=>
      Q0 R true w (fun w J=>J af w) fun ck w=>
      Q0 R true w (Q3 P .lss T.e (.tmp 98) (.tmp 99) b9 ck) fun a7 w=>
      pick P R a7 (.bool false) w fun D w=>
      Q0 D true w (fieldAddr P T.t t7 3) fun aq w=>
      Q0 D true w (Q2 P T.c aq) fun a2 w=>
      Q0 D true w (Q1 P F.d [a2]) fun aw w=>
      pick P D aw (.bool false) w fun ap w=>
      Q3 P .add T.e (.tmp 65) (.const (.int .i64 1)) j.2 (.int .i64 1) w fun b4 w=>
      M (ap,b4) w) (
      Q0 j.1 true w (fun w J=>J af w) fun ar w=>
      Q0 j.1 true w (Q3 P .gtr T.e (.tmp 109) (.const (.int .i64 0)) ar (.int .i64 0)) fun am w=>
      pick P j.1 am (.bool false) w fun g w=>
      Q0 g true w (fieldAddr P T.d (.pointer (some q)) 4) fun bc w=>
      Q0 g true w (Q2 P T.e bc) fun a4 w=>
      Q0 g true w (fieldAddr P T.d (.pointer (some q)) 1) fun al w=>
      Q0 g true w (Q2 P T.h al) fun a8 w=>
      Q0 g true w (X3 P .len [T.h] T.e [false] [a8]) fun ax w=>
      Q0 g true w (Q3 P .gtr T.e (.tmp 114) (.tmp 117) a4 ax) fun az w=>
      pick P g az (.bool false) w fun p w=>
      Q0 p true w (fieldAddr P T.d (.pointer (some q)) 5) fun av w=>
      Q0 p true w (Q2 P T.q av) fun a9 w=>
      Q0 p true w (Q1 P F.b4 [a9]) fun a1 w=>
      Q0 p true w (Q3 P .eql T.v (.tmp 123) (.const (.int .i64 0)) a1 (.int .i64 0)) fun a6 w=>
      pick P p a6 (.bool false) w fun ba w=>
      K ba w))):=by
 have dc:=ag.sat
 have c0:decide ((m.code.length:Int)=0)=decide (m.code=[]):=by cases m.code<;>simp;omega
 have c1:decide ((m.catches.length:Int)=0)=decide (m.catches=[]):=by cases m.catches<;>simp;omega
 have c2:decide ((0:Int)<m.code.length)=decide (m.code≠[]):=by cases m.code<;>simp
 refine H0 (a:=Value.bool r) m.params.length (fun n x w'=> ∃U,Stp w1 σ1 w' U∧x=Value.bool (r&&(m.params.take n).all right)) ⟨σ1,Stp.refl dc,by simp⟩ fun n x w2 d hn L=>?_
 obtain ⟨σ2,k,rfl⟩:=L
 have o:=hq.up k
 have aa:=g1.up k
 have l:=k.sat
 (try simp only[↓M1,M1,Mb,reduceIte])
 refine ld l o rfl ?_
 refine Q8 aa ?_
 refine Z2 ?_
 refine Q7 (fun hc=>?_) (fun hc=>?_)
 ·have c:n<m.params.length:=by simpa using hc
  have y:(r&&(m.params.take (n+1)).all right)=((r&&(m.params.take n).all right)&&right m.params[n]):=by rw[Ux c,Bool.and_assoc]
  generalize (r&&(m.params.take n).all right)=f at y⊢
  cases f with
  | false=>(try simp only[↓M1,M1,Mb,reduceIte]);exact J6 g1.max c ⟨σ2,k,by rw[y];rfl⟩
  | true=>
   (try simp only[↓M1,M1,Mb,reduceIte])
   refine ld l o rfl ?_
   (try simp only[↓M1,M1,Mb,reduceIte])
   refine Y2 aa c ?_
   obtain ⟨p1,p2⟩:=aa.elS c
   refine X7 l p1 rfl ?_
   refine Ub _ (by simp only[U0] at p2;omega) ?_
   (try simp only[↓M1,M1,Mb,reduceIte])
   exact J6 g1.max c ⟨σ2,k,by rw[y];rfl⟩
 ·have c: ¬n<m.params.length:=by simpa using hc
  rw[Q7E c]
  have a5:=ag.trans k
  have ah:=g2.up k
  have X:=g3.up k
  clear ag k hq g1 g2 g3 hn hc
  generalize (r&&m.params.all right)=f at h⊢
  refine ld l o rfl ?_
  cases a3:m.abs with
  | true=>
   simp only[a3,if_true] at h
   have hK:=h _ _ a5
   clear h
   (try simp only[↓M1,M1,Mb,reduceIte])
   cases f with
   | false=>(try simp only[↓M1,M1,Mb,reduceIte]);simpa using hK
   | true=>
    (try simp only[↓M1,M1,Mb,reduceIte])
    refine ld l o rfl ?_
    (try simp only[↓M1,M1,Mb,reduceIte])
    cases an:decide (m.locals=0) with
    | false=>rw[an] at hK;(try simp only[↓M1,M1,Mb,reduceIte]);simpa using hK
    | true=>
     rw[an] at hK
     (try simp only[↓M1,M1,Mb,reduceIte])
     refine ld l o rfl ?_
     refine Q8 ah ?_
     simp only[c0,↓M1,M1,Mb,reduceIte]
     cases ao:decide (m.code=[]) with
     | false=>rw[ao] at hK;(try simp only[↓M1,M1,Mb,reduceIte]);simpa using hK
     | true=>
      rw[ao] at hK
      (try simp only[↓M1,M1,Mb,reduceIte])
      refine ld l o rfl ?_
      refine Q8 X ?_
      simp only[c1,↓M1,M1,Mb,reduceIte]
      simpa using hK
  | false=>
   simp only[a3,Bool.false_eq_true,if_false] at h
   (try simp only[↓M1,M1,Mb,reduceIte])
   refine ld l o rfl ?_
   refine Q8 ah ?_
   refine H0 (a:=Value.bool f) m.catches.length (fun n x w'=> ∃U,Stp w2 σ2 w' U∧x=Value.bool (f&&(m.catches.take n).all (I4 m.code.length))) ⟨σ2,Stp.refl l,by simp⟩ fun n x w4 d hn L=>?_
   obtain ⟨σ4,t,rfl⟩:=L
   have E:=o.up t
   have W:=X.up t
   have s:=t.sat
   (try simp only[↓M1,M1,Mb,reduceIte])
   refine ld s E rfl ?_
   refine Q8 W ?_
   refine Z2 ?_
   refine Q7 (fun hc=>?_) (fun hc=>?_)
   ·have c:n<m.catches.length:=by simpa using hc
    have y:(f&&(m.catches.take (n+1)).all (I4 m.code.length))=((f&&(m.catches.take n).all (I4 m.code.length))&&I4 m.code.length m.catches[n]):=by rw[Ux c,Bool.and_assoc]
    generalize (f&&(m.catches.take n).all (I4 m.code.length))=cu at y⊢
    (try simp only[↓M1,M1,Mb,reduceIte])
    refine ld s E rfl ?_
    refine Y2 W c ?_
    obtain ⟨p1,r1⟩:=W.elK c
    have ak:m.catches[n].cls.length≤140737488355328:=by have:=r1.2.2.2.2;simp only[U0] at this;omega
    refine Y5 s p1 rfl ?_
    refine Y7 s (by rfl) rfl (Rep.one r1) fun q5 w5 σ5 ay z=>?_
    have C:=ay.sat
    have ae:=t.trans ay
    cases cu with
    | false=>(try simp only[↓M1,M1,Mb,reduceIte]);exact J6 X.max c ⟨σ5,ae,by rw[y];rfl⟩
    | true=>
     have A: ∀b,I4 m.code.length m.catches[n]=b→Fu m.catches.length (fun n x w'=> ∃U,Stp w2 σ2 w' U∧x=Value.bool (f&&(m.catches.take n).all (I4 m.code.length))) (Value.bool b, .int .i64 (IntKind.i64.wrap (n+1))) w5∧Mh m.catches.length (Value.bool b, .int .i64 (IntKind.i64.wrap (n+1)))<Mh m.catches.length (Value.bool true,I n):=fun b e=>J6 X.max c ⟨σ5,ae,by rw[y,e];rfl⟩
     unfold I4 at A
     generalize m.catches[n]=x at z A ak
     clear y p1 r1 E o W h
     (try simp only[↓M1,M1,Mb,reduceIte])
     refine ld C z rfl ?_
     (try simp only[↓M1,M1,Mb,reduceIte])
     cases d1:decide (0≤x.frm) with
     | false=>(try simp only[↓M1,M1,Mb,reduceIte]);exact A _ (by simp[d1])
     | true=>
     (try simp only[↓M1,M1,Mb,reduceIte])
     refine ld C z rfl ?_
     (try simp only[↓M1,M1,Mb,reduceIte])
     refine ld C z rfl ?_
     (try simp only[↓M1,M1,Mb,reduceIte])
     cases d2:decide (x.frm<x.to) with
     | false=>(try simp only[↓M1,M1,Mb,reduceIte]);exact A _ (by simp[d1,d2])
     | true=>
     (try simp only[↓M1,M1,Mb,reduceIte])
     refine ld C z rfl ?_
     (try simp only[↓M1,M1,Mb,reduceIte])
     cases d3:decide (x.to≤(m.code.length:Int)) with
     | false=>(try simp only[↓M1,M1,Mb,reduceIte]);exact A _ (by simp[d1,d2,d3])
     | true=>
     (try simp only[↓M1,M1,Mb,reduceIte])
     refine ld C z rfl ?_
     (try simp only[↓M1,M1,Mb,reduceIte])
     cases d4:decide (0≤x.at_) with
     | false=>(try simp only[↓M1,M1,Mb,reduceIte]);exact A _ (by simp[d1,d2,d3,d4])
     | true=>
     (try simp only[↓M1,M1,Mb,reduceIte])
     refine ld C z rfl ?_
     (try simp only[↓M1,M1,Mb,reduceIte])
     cases d5:decide (x.at_<(m.code.length:Int)) with
     | false=>(try simp only[↓M1,M1,Mb,reduceIte]);exact A _ (by simp[d1,d2,d3,d4,d5])
     | true=>
     (try simp only[↓M1,M1,Mb,reduceIte])
     refine ld C z rfl ?_
     refine Yj x.cls ak ?_
     (try simp only[↓M1,M1,Mb,reduceIte])
     exact A _ (by simp[d1,d2,d3,d4,d5])
   ·have c: ¬n<m.catches.length:=by simpa using hc
    rw[Q7E c]
    have Y:=a5.trans t
    have br:=ah.up t
    have bm:=aa.up t
    have hh: ∀w' U,Stp w σ w' U→K (.bool ((f&&m.catches.all (I4 m.code.length))&&(decide (m.code≠[])&&decide ((m.params.length:Int)<m.locals)&&m.code.all (fun i=>decide (H5 i=0))))) w':=by
     intro w' U hk
     have:=h w' U hk
     refine Eq.subst (motive:=fun b=>K (.bool b) w') ?_ this
     cases f<;>cases m.catches.all (I4 m.code.length)<;>simp
    clear h t
    generalize (f&&m.catches.all (I4 m.code.length))=bp at hh⊢
    cases bp with
    | false=>(try simp only[↓M1,M1,Mb,reduceIte]);simpa using hh _ _ Y
    | true=>
     (try simp only[↓M1,M1,Mb,reduceIte])
     simp only[c2,↓M1,M1,Mb,reduceIte]
     cases aj:decide (m.code≠[]) with
     | false=>rw[aj] at hh;(try simp only[↓M1,M1,Mb,reduceIte]);simpa using hh _ _ Y
     | true=>
      rw[aj] at hh
      (try simp only[↓M1,M1,Mb,reduceIte])
      refine ld s E rfl ?_
      (try simp only[↓M1,M1,Mb,reduceIte])
      refine ld s E rfl ?_
      refine Q8 bm ?_
      (try simp only[↓M1,M1,Mb,reduceIte])
      cases a0:decide ((m.params.length:Int)<m.locals) with
      | false=>rw[a0] at hh;(try simp only[↓M1,M1,Mb,reduceIte]);simpa using hh _ _ Y
      | true=>
       rw[a0] at hh
       (try simp only[↓M1,M1,Mb,reduceIte])
       refine ld s E rfl ?_
       refine X2C s br fun e w6 σ6 bz he=>?_
       simp only[he,↓M1,M1,Mb,reduceIte]
       simpa using hh _ _ (Y.trans bz)
set_option maxHeartbeats 2000000 in
theorem Q8m {m:Hm.Met} {cs:List Value} (n:X2 w σ) (C:E5 σ m cs) (h: ∀w' z,Stp w σ w' z→K (.bool (K1 m)) w'):Q1 P F.a4 [.agg cs.toArray] w K:=Il (by
 unfold Ld
 obtain ⟨pv,J,H,rfl,B,A,y,E,D,L⟩:=C
 have t:m.name.length≤140737488355328:=by simp only[U0] at E;omega
 have o:m.result.length≤140737488355328:=by simp only[U0] at D;omega
 refine Y9 n fun q w1 σ1 a g=>?_
 have r:=B.up a
 have s:=A.up a
 have p:=y.up a
 have f:=a.sat
 obtain ⟨d,c⟩: ∃b,b=(D7 m.name&&(decide (m.result=[])||right m.result)):=⟨_,rfl⟩
 have k:K1 m=((d&&m.params.all right)&&if m.abs then decide (m.locals=0)&&decide (m.code=[])&&decide (m.catches=[])
  else decide (m.code≠[])&&decide ((m.params.length:Int)<m.locals)&&m.code.all (fun i=>decide (H5 i=0))&&m.catches.all (I4 m.code.length)):=by
  rw[c];unfold K1
  cases D7 m.name<;>cases m.params.all right<;>cases decide (m.result=[])<;>cases right m.result<;>rfl
 rw[k] at h
 clear k
 (repeat refine Hd.h ?_)
 refine ld f g rfl ?_
 refine Ky m.name t ?_
 cases e:D7 m.name with
 | false=>
  have l:d=false:=by rw[c,e];rfl
  (repeat refine Hd.h ?_)
  refine Eq.subst (motive:=fun b=>lp (α:=Value×Value) (Value.bool b, .int .i64 0) w1 _) l ?_
  exact Q1s n a g r s p h
 | true=>
  (repeat refine Hd.h ?_)
  refine ld f g rfl ?_
  (repeat refine Hd.h ?_)
  refine P2 ?_
  cases j:decide (m.result=[]) with
  | true=>
   have l:d=true:=by rw[c,e,j];rfl
   (repeat refine Hd.h ?_)
   refine Eq.subst (motive:=fun b=>lp (α:=Value×Value) (Value.bool b, .int .i64 0) w1 _) l ?_
   exact Q1s n a g r s p h
  | false=>
   (repeat refine Hd.h ?_)
   refine ld f g rfl ?_
   (repeat refine Hd.h ?_)
   refine Ub m.result o ?_
   have l:d=right m.result:=by rw[c,e,j];rfl
   (repeat refine Hd.h ?_)
   refine Eq.subst (motive:=fun b=>lp (α:=Value×Value) (Value.bool b, .int .i64 0) w1 _) l ?_
   exact Q1s n a g r s p h)
end Go.Proofs.YtjdiakhipmggjaaGreatDoor

namespace Go.Hm
open Go.Kd
def Nr (c:Cla) (i:Nat):Bool:=M7 (c.like.getD i [])&& !decide (c.like.getD i []=c.name)
def Qc (c:Cla) (i k:Nat):Bool:= !decide (c.like.getD k []=c.like.getD i [])
def Bh (c:Cla) (i:Nat):Fld:=c.fields.getD i Fld.zero
def Ro (c:Cla) (i:Nat):Hm.Met:=c.methods.getD i Hm.Met.zero
def Dp (c:Cla) (i:Nat):Bool:=D7 (Bh c i).name&&right (Bh c i).kind&& !c.iface
def Xz (c:Cla) (i k:Nat):Bool:= !decide ((Bh c k).name=(Bh c i).name)
def Q8X (c:Cla):Bool:=(!c.iface||(c.abs&&decide (c.super=U1)))&& !(c.abs&&c.fin)
def Xs (c:Cla) (i k:Nat):Bool:= !decide ((Ro c k).name=(Ro c i).name)
theorem Lq {p:Nat→Bool} {n:Nat}:(List.range (n+1)).all p=((List.range n).all p&&p n):=by rw[List.range_succ,List.all_append];simp
theorem C0 {α:Type} {xs:List α} {i:Nat} {d:α} (h:i<xs.length):xs.getD i d=xs[i]:=by rw[List.getD_eq_getElem?_getD,List.getElem?_eq_getElem h];rfl
end Go.Hm
namespace Go.Proofs.YtjdiakhipmggjaaGreatDoor
open Go.Emb Go.RowKit Go.Kd Go.Hm
variable {w : World} {K : Value → World → Prop} {σ : Q6}
def Nf (c:Cla) (i:Nat):Bool:=K1 (Ro c i)&&(!(Ro c i).abs||c.abs)&&(!c.iface||(Ro c i).abs)
set_option maxHeartbeats 2000000 in
theorem Q4m {c:Cla} {lv fv mv:Value} {w1:World} {σ1:Q6} {q:Addr} {ok:Bool} (ah:X2 w1 σ1) (hq:Z6 σ1 q [S c.name,S c.super,lv, .bool c.iface, .bool c.abs, .bool c.fin,fv,mv]) {i:Nat} {N m0:Nat} {W:Nat→Value→World→Prop} (g1:Sl 1 U9 σ1 lv c.like) (hi:i<c.like.length)
 (h: ∀w' σ',Stp w1 σ1 w' σ'→Fu N W (Value.bool (ok&&(List.range i).all (Qc c i)), .int .i64 (IntKind.i64.wrap (i+1))) w'∧Mh N (Value.bool (ok&&(List.range i).all (Qc c i)), .int .i64 (IntKind.i64.wrap (i+1)))<m0):
 lp (
  α:=Value×Value) (Value.bool ok,(.int .i64 0)) w1 fun j b d_ w=>
  Q3 P .lss T.e (.tmp 52) (.tmp 53) b.2 (I i) w fun Y w=>
  X1 Y (
   dr w fun e g=>
   Q5 e (fun s=> ∀w:World,g w→Q0 b.1 true w (fieldAddr P T.b (.pointer (some q)) 2) (dk e s w)) fun s=>
   Q5 e (fun u=> ∀w:World,g w→Q0 b.1 true w (fun w J=>J b.2 w) (dk e u w)) fun u=>
   Q5 e (fun z=> ∀w:World,g w→Q0 b.1 true w (fieldAddr P T.b (.pointer (some q)) 2) (dk e z w)) fun z=>
   Q5 e (fun l=> ∀w:World,g w→Q0 b.1 true w (fun w J=>J (I i) w) (dk e l w)) fun l=>
   Q5 e (fun D=> ∀v:Value,∀w:World,g w→s v w→Q0 b.1 true w (Q2 P T.h v) (dk e D w)) fun D=>
   Q5 e (fun r=> ∀p:Value,∀C:Value,∀w:World,g w→D p w→u C w→Q0 b.1 true w (indexAddr P T.h p C) (dk e r w)) fun r=>
   Q5 e (fun E=> ∀y:Value,∀w:World,g w→r y w→Q0 b.1 true w (Q2 P T.c y) (dk e E w)) fun E=>
   Q5 e (fun B=> ∀t:Value,∀w:World,g w→z t w→Q0 b.1 true w (Q2 P T.h t) (dk e B w)) fun B=>
   Q5 e (fun m=> ∀n:Value,∀A:Value,∀w:World,g w→B n w→l A w→Q0 b.1 true w (indexAddr P T.h n A) (dk e m w)) fun m=>
   Q5 e (fun L=> ∀o:Value,∀w:World,g w→m o w→Q0 b.1 true w (Q2 P T.c o) (dk e L w)) fun L=>
   ∀v:Value,∀C:Value,∀t:Value,∀A:Value,∀p:Value,∀y:Value,∀V:Value,∀n:Value,∀o:Value,∀U:Value,∀w:World,g w→s v w→u C w→z t w→l A w→D p w→r y w→E V w→B n w→m o w→L U w→
   Q0 b.1 true w (Q3 P .neq T.c (.tmp 63) (.tmp 68) V U) fun af w=>
   pick P b.1 af (.bool false) w fun ad w=>
   Q3 P .add T.e (.tmp 55) (.const (.int .i64 1)) b.2 (.int .i64 1) w fun ag w=>
   j (ad,ag) w) (
   Q3 P .add T.e (.tmp 31) (.const (.int .i64 1)) (I i) (.int .i64 1) w fun O w=>
   (Fu N W (b.1,O) w∧Mh N (b.1,O)<m0)):=by
 have am:=g1.max
 refine H0 (a:=Value.bool ok) i (fun k x w'=> ∃σ',Stp w1 σ1 w' σ'∧x=Value.bool (ok&&(List.range k).all (Qc c i))) ⟨σ1,Stp.refl ah,by simp⟩ fun k x w2 d hk M=>?_
 obtain ⟨σ2,f,rfl⟩:=M
 have ar:=hq.up f
 have Q:=g1.up f
 have ac:=f.sat
 refine Z2 ?_
 refine Q7 (fun X=>?_) (fun X=>?_)
 ·have ai:k<i:=by simpa using X
  have R:k<c.like.length:=by omega
  have H:(ok&&(List.range (k+1)).all (Qc c i))=((ok&&(List.range k).all (Qc c i))&&Qc c i k):=by rw[Lq,Bool.and_assoc]
  have hQ:Qc c i k= !decide (c.like[k]=c.like[i]):=by unfold Qc;rw[C0 R,C0 hi]
  rw[hQ] at H
  obtain ⟨p1,_⟩:=Q.elS R
  obtain ⟨p2,_⟩:=Q.elS hi
  generalize (ok&&(List.range k).all (Qc c i))=Z at H⊢
  clear h hQ X
  cases Z
  all_goals
   refine U2 ac ?_
   (repeat refine Z8 Qd ?_)
   (intros;(repeat (rename_i hx;subst hx));(try simp only[↓M2,M2,Mb,reduceIte]))
   rename_i w3 ab
   exact J6 (by omega) ai ⟨σ2,f.trans ab.stp,by rw[H];rfl⟩
 ·have aa:k=i:=by
   have: ¬k<i:=by simpa using X
   omega
  subst aa
  (try simp only[↓M1,M1,Mb,reduceIte])
  exact h _ _ f
set_option maxHeartbeats 4000000 in
theorem X0Q {c:Cla} {lv fv mv:Value} {w1:World} {σ1:Q6} {q:Addr} {ok:Bool} (hs1:X2 w1 σ1) (hq:Z6 σ1 q [S c.name,S c.super,lv, .bool c.iface, .bool c.abs, .bool c.fin,fv,mv]) {J:Value→World→Prop} (hn:c.name.length≤U0) (g1:Sl 1 U9 σ1 lv c.like)
 (h: ∀w' σ',Stp w1 σ1 w' σ'→J (.bool (ok&&(List.range c.like.length).all fun i=>Nr c i&&(List.range i).all (Qc c i))) w'):
 lp (α:=Value×Value) (Value.bool ok,(.int .i64 0)) w1 fun again4 x4 d_ w=>
 fieldAddr P T.b (.pointer (some q)) 2 w fun t27 w=>
 Q2 P T.h t27 w fun t28 w=>
 X3 P .len [T.h] T.e [false] [t28] w fun t29 w=>
 Q3 P .lss T.e (.tmp 26) (.tmp 29) x4.2 t29 w fun t30 w=>
 X1 t30 (
  dr w fun Tr Br=>
  Q5 Tr (fun φ35=> ∀w:World,Br w→Q0 x4.1 true w (fieldAddr P T.b (.pointer (some q)) 2) (dk Tr φ35 w)) fun φ35=>
  Q5 Tr (fun φ37=> ∀w:World,Br w→Q0 x4.1 true w (fun w J=>J x4.2 w) (dk Tr φ37 w)) fun φ37=>
  Q5 Tr (fun φ36=> ∀t35:Value,∀w:World,Br w→φ35 t35 w→Q0 x4.1 true w (Q2 P T.h t35) (dk Tr φ36 w)) fun φ36=>
  Q5 Tr (fun φ38=> ∀t36:Value,∀t37:Value,∀w:World,Br w→φ36 t36 w→φ37 t37 w→Q0 x4.1 true w (indexAddr P T.h t36 t37) (dk Tr φ38 w)) fun φ38=>
  Q5 Tr (fun φ39=> ∀t38:Value,∀w:World,Br w→φ38 t38 w→Q0 x4.1 true w (Q2 P T.c t38) (dk Tr φ39 w)) fun φ39=>
  Q5 Tr (fun φ40=> ∀t39:Value,∀w:World,Br w→φ39 t39 w→Q0 x4.1 true w (Q1 P F.d [t39]) (dk Tr φ40 w)) fun φ40=>
  Q5 Tr (fun φ41=> ∀t40:Value,∀w:World,Br w→φ40 t40 w→pick P x4.1 t40 (.bool false) w (dk Tr φ41 w)) fun φ41=>
  Q5 Tr (fun φ43=> ∀t41:Value,∀w:World,Br w→φ41 t41 w→Q0 t41 true w (fieldAddr P T.b (.pointer (some q)) 2) (dk Tr φ43 w)) fun φ43=>
  Q5 Tr (fun φ45=> ∀t41:Value,∀w:World,Br w→φ41 t41 w→Q0 t41 true w (fun w J=>J x4.2 w) (dk Tr φ45 w)) fun φ45=>
  Q5 Tr (fun φ48=> ∀t41:Value,∀w:World,Br w→φ41 t41 w→Q0 t41 true w (fieldAddr P T.b (.pointer (some q)) 0) (dk Tr φ48 w)) fun φ48=>
  Q5 Tr (fun φ44=> ∀t41:Value,∀t43:Value,∀w:World,Br w→φ41 t41 w→φ43 t43 w→Q0 t41 true w (Q2 P T.h t43) (dk Tr φ44 w)) fun φ44=>
  Q5 Tr (fun φ46=> ∀t41:Value,∀t44:Value,∀t45:Value,∀w:World,Br w→φ41 t41 w→φ44 t44 w→φ45 t45 w→Q0 t41 true w (indexAddr P T.h t44 t45) (dk Tr φ46 w)) fun φ46=>
  Q5 Tr (fun φ47=> ∀t41:Value,∀t46:Value,∀w:World,Br w→φ41 t41 w→φ46 t46 w→Q0 t41 true w (Q2 P T.c t46) (dk Tr φ47 w)) fun φ47=>
  Q5 Tr (fun φ49=> ∀t41:Value,∀t48:Value,∀w:World,Br w→φ41 t41 w→φ48 t48 w→Q0 t41 true w (Q2 P T.c t48) (dk Tr φ49 w)) fun φ49=>
  ∀t35:Value,∀t37:Value,∀t36:Value,∀t38:Value,∀t39:Value,∀t40:Value,∀t41:Value,∀t43:Value,∀t45:Value,∀t48:Value,∀t44:Value,∀t46:Value,∀t47:Value,∀t49:Value,∀w:World,Br w→φ35 t35 w→φ37 t37 w→φ36 t36 w→φ38 t38 w→φ39 t39 w→φ40 t40 w→φ41 t41 w→φ43 t43 w→φ45 t45 w→φ48 t48 w→φ44 t44 w→φ46 t46 w→φ47 t47 w→φ49 t49 w→
  Q0 t41 true w (Q3 P .neq T.c (.tmp 47) (.tmp 49) t47 t49) fun t50 w=>
  pick P t41 t50 (.bool false) w fun t51 w=>
  lp (α:=Value×Value) (t51,(.int .i64 0)) w fun again10 x10 d_ w=>
   Q3 P .lss T.e (.tmp 52) (.tmp 53) x10.2 x4.2 w fun t54 w=>
   X1 t54 (
    dr w fun Tr Br=>
    Q5 Tr (fun φ59=> ∀w:World,Br w→Q0 x10.1 true w (fieldAddr P T.b (.pointer (some q)) 2) (dk Tr φ59 w)) fun φ59=>
    Q5 Tr (fun φ61=> ∀w:World,Br w→Q0 x10.1 true w (fun w J=>J x10.2 w) (dk Tr φ61 w)) fun φ61=>
    Q5 Tr (fun φ64=> ∀w:World,Br w→Q0 x10.1 true w (fieldAddr P T.b (.pointer (some q)) 2) (dk Tr φ64 w)) fun φ64=>
    Q5 Tr (fun φ66=> ∀w:World,Br w→Q0 x10.1 true w (fun w J=>J x4.2 w) (dk Tr φ66 w)) fun φ66=>
    Q5 Tr (fun φ60=> ∀t59:Value,∀w:World,Br w→φ59 t59 w→Q0 x10.1 true w (Q2 P T.h t59) (dk Tr φ60 w)) fun φ60=>
    Q5 Tr (fun φ62=> ∀t60:Value,∀t61:Value,∀w:World,Br w→φ60 t60 w→φ61 t61 w→Q0 x10.1 true w (indexAddr P T.h t60 t61) (dk Tr φ62 w)) fun φ62=>
    Q5 Tr (fun φ63=> ∀t62:Value,∀w:World,Br w→φ62 t62 w→Q0 x10.1 true w (Q2 P T.c t62) (dk Tr φ63 w)) fun φ63=>
    Q5 Tr (fun φ65=> ∀t64:Value,∀w:World,Br w→φ64 t64 w→Q0 x10.1 true w (Q2 P T.h t64) (dk Tr φ65 w)) fun φ65=>
    Q5 Tr (fun φ67=> ∀t65:Value,∀t66:Value,∀w:World,Br w→φ65 t65 w→φ66 t66 w→Q0 x10.1 true w (indexAddr P T.h t65 t66) (dk Tr φ67 w)) fun φ67=>
    Q5 Tr (fun φ68=> ∀t67:Value,∀w:World,Br w→φ67 t67 w→Q0 x10.1 true w (Q2 P T.c t67) (dk Tr φ68 w)) fun φ68=>
    ∀t59:Value,∀t61:Value,∀t64:Value,∀t66:Value,∀t60:Value,∀t62:Value,∀t63:Value,∀t65:Value,∀t67:Value,∀t68:Value,∀w:World,Br w→φ59 t59 w→φ61 t61 w→φ64 t64 w→φ66 t66 w→φ60 t60 w→φ62 t62 w→φ63 t63 w→φ65 t65 w→φ67 t67 w→φ68 t68 w→
    Q0 x10.1 true w (Q3 P .neq T.c (.tmp 63) (.tmp 68) t63 t68) fun t69 w=>
    pick P x10.1 t69 (.bool false) w fun t70 w=>
    Q3 P .add T.e (.tmp 55) (.const (.int .i64 1)) x10.2 (.int .i64 1) w fun t56 w=>
    again10 (t70,t56) w) (
    Q3 P .add T.e (.tmp 31) (.const (.int .i64 1)) x4.2 (.int .i64 1) w fun t32 w=>
    again4 (x10.1,t32) w)) (
  J x4.1 w):=by
 have hmax:=g1.max
 refine H0 (a:=Value.bool ok) c.like.length (fun n x w'=> ∃σ',Stp w1 σ1 w' σ'∧x=Value.bool (ok&&(List.range n).all fun i=>Nr c i&&(List.range i).all (Qc c i))) ⟨σ1,Stp.refl hs1,by simp⟩ fun n x w2 d hn2 hinv=>?_
 obtain ⟨σ2,hk2,rfl⟩:=hinv
 have hq2:=hq.up hk2
 have g12:=g1.up hk2
 have hs2:=hk2.sat
 (repeat refine Hd.h ?_)
 refine ld hs2 hq2 rfl ?_
 refine Q8 g12 ?_
 refine Z2 ?_
 refine Q7 (fun hc=>?_) (fun hc=>?_)
 ·have hn':n<c.like.length:=by simpa using hc
  have hnx:(ok&&(List.range (n+1)).all fun i=>Nr c i&&(List.range i).all (Qc c i))=((ok&&(List.range n).all fun i=>Nr c i&&(List.range i).all (Qc c i))&&(Nr c n&&(List.range n).all (Qc c n))):=by rw[Lq,Bool.and_assoc]
  have hP:Nr c n=(M7 c.like[n]&& !decide (c.like[n]=c.name)):=by unfold Nr;rw[C0 hn']
  obtain ⟨p1,p2⟩:=g12.elS hn'
  have p2:c.like[n].length≤140737488355328:=by simp only[U0] at p2;omega
  generalize (ok&&(List.range n).all fun i=>Nr c i&&(List.range i).all (Qc c i))=acc at hnx⊢
  clear h hc
  cases hacc:acc with
  | false=>
   refine U2 hs2 ?_
   (repeat refine Z8 Qd ?_)
   intros;(repeat (rename_i hx;subst hx))
   rename_i w3 hb3
   (repeat refine Hd.h ?_)
   refine Q4m hb3.sat hq2 g12 hn' fun w4 σ4 hk4=>?_
   exact J6 hmax hn' ⟨σ4,hk2.trans (hb3.stp.trans hk4),by rw[hnx,hacc];rfl⟩
  | true=>
   cases hcl:M7 c.like[n] with
   | false=>
    refine U2 hs2 ?_
    have hrc: ∀{w':World} {K:Value→World→Prop},K (.bool false) w'→Q1 P F.d [S c.like[n]] w' K:=fun hK=>Yj _ p2 (by rw[hcl];exact hK)
    (repeat (apply Z8;(· intros;(repeat (rename_i hx;subst hx));(repeat' (first | (with_reducible exact L1 rfl) | (with_reducible exact S3 (Stp.bel (by (repeat (first | exact Stp.refl (by (first | assumption | exact Stp.sat (by assumption) | exact Hst.sat (by assumption))) | assumption | refine Stp.trans ?_ (by first | assumption | exact Hst.stp (by assumption)))))) rfl) | (with_reducible intro _) | (simp only[↓M2,M2,Mb,reduceIte]) | (with_reducible refine hrc ?_) | (with_reducible show Q2 _ _ _ _ _;first | refine X7 aS aL aR ?_ | refine Y5 aS aL aR ?_ | refine ld aS aL aR ?_) | (with_reducible show indexAddr _ _ _ _ _ _;refine Y2 aL au ?_) | (with_reducible show X3 _ _ _ _ _ _ _ _;refine Q8 aL ?_) | (with_reducible show F5 _ _ _ _ _ _;refine J4 aR ?_) | (with_reducible show pick _ _ _ _ _ _;refine M3 ?_) | (apply G2;intro hh;(try simp only[hh,reduceIte,↓M2,M2,Mb,reduceIte]))));done)))
    intros;(repeat (rename_i hx;subst hx))
    rename_i w3 hb3
    (repeat refine Hd.h ?_)
    refine Q4m hb3.sat hq2 g12 hn' fun w4 σ4 hk4=>?_
    exact J6 hmax hn' ⟨σ4,hk2.trans (hb3.stp.trans hk4),by rw[hnx,hacc,hP,hcl];rfl⟩
   | true=>
    refine U2 hs2 ?_
    have hrc: ∀{w':World} {K:Value→World→Prop},K (.bool true) w'→Q1 P F.d [S c.like[n]] w' K:=fun hK=>Yj _ p2 (by rw[hcl];exact hK)
    (repeat (apply Z8;(· intros;(repeat (rename_i hx;subst hx));(repeat' (first | (with_reducible exact L1 rfl) | (with_reducible exact S3 (Stp.bel (by (repeat (first | exact Stp.refl (by (first | assumption | exact Stp.sat (by assumption) | exact Hst.sat (by assumption))) | assumption | refine Stp.trans ?_ (by first | assumption | exact Hst.stp (by assumption)))))) rfl) | (with_reducible intro _) | (simp only[↓M2,M2,Mb,reduceIte]) | (with_reducible refine hrc ?_) | (with_reducible show Q2 _ _ _ _ _;first | refine X7 aS aL aR ?_ | refine Y5 aS aL aR ?_ | refine ld aS aL aR ?_) | (with_reducible show indexAddr _ _ _ _ _ _;refine Y2 aL au ?_) | (with_reducible show X3 _ _ _ _ _ _ _ _;refine Q8 aL ?_) | (with_reducible show F5 _ _ _ _ _ _;refine J4 aR ?_) | (with_reducible show pick _ _ _ _ _ _;refine M3 ?_) | (apply G2;intro hh;(try simp only[hh,reduceIte,↓M2,M2,Mb,reduceIte]))));done)))
    intros;(repeat (rename_i hx;subst hx))
    rename_i w3 hb3
    (repeat refine Hd.h ?_)
    refine Ja ?_
    (repeat refine Hd.h ?_)
    refine Q4m hb3.sat hq2 g12 hn' fun w4 σ4 hk4=>?_
    exact J6 hmax hn' ⟨σ4,hk2.trans (hb3.stp.trans hk4),by rw[hnx,hacc,hP,hcl];simp⟩
 ·have hn': ¬n<c.like.length:=by simpa using hc
  obtain rfl:n=c.like.length:=by omega
  exact h _ _ hk2
set_option maxHeartbeats 2000000 in
theorem Q3I {c:Cla} {lv fv mv:Value} {w1:World} {σ1:Q6} {q:Addr} {ok:Bool} (al:X2 w1 σ1) (hq:Z6 σ1 q [S c.name,S c.super,lv, .bool c.iface, .bool c.abs, .bool c.fin,fv,mv]) {i:Nat} {N m0:Nat} {ad:Nat→Value→World→Prop} (g2:Sl 3 R9 σ1 fv c.fields) (hi:i<c.fields.length)
 (h: ∀w' σ',Stp w1 σ1 w' σ'→Fu N ad (Value.bool (ok&&(List.range i).all (Xz c i)), .int .i64 (IntKind.i64.wrap (i+1))) w'∧Mh N (Value.bool (ok&&(List.range i).all (Xz c i)), .int .i64 (IntKind.i64.wrap (i+1)))<m0):
 lp (α:=Value×Value) (Value.bool ok,(.int .i64 0)) w1 fun M b d_ w=>
  Q3 P .lss T.e (.tmp 102) (.tmp 103) b.2 (I i) w fun Y w=>
  X1 Y (
   dr w fun e H=>
   Q5 e (fun m=> ∀w:World,H w→Q0 b.1 true w (fieldAddr P T.b (.pointer (some q)) 6) (dk e m w)) fun m=>
   Q5 e (fun s=> ∀w:World,H w→Q0 b.1 true w (fun w J=>J b.2 w) (dk e s w)) fun s=>
   Q5 e (fun D=> ∀w:World,H w→Q0 b.1 true w (fieldAddr P T.b (.pointer (some q)) 6) (dk e D w)) fun D=>
   Q5 e (fun l=> ∀w:World,H w→Q0 b.1 true w (fun w J=>J (I i) w) (dk e l w)) fun l=>
   Q5 e (fun u=> ∀y:Value,∀w:World,H w→m y w→Q0 b.1 true w (Q2 P T.k y) (dk e u w)) fun u=>
   Q5 e (fun A=> ∀j:Value,∀z:Value,∀w:World,H w→u j w→s z w→Q0 b.1 true w (indexAddr P T.k j z) (dk e A w)) fun A=>
   Q5 e (fun o=> ∀t:Value,∀w:World,H w→A t w→Q0 b.1 true w (fieldAddr P T.n t 0) (dk e o w)) fun o=>
   Q5 e (fun O=> ∀E:Value,∀w:World,H w→o E w→Q0 b.1 true w (Q2 P T.c E) (dk e O w)) fun O=>
   Q5 e (fun B=> ∀g:Value,∀w:World,H w→D g w→Q0 b.1 true w (Q2 P T.k g) (dk e B w)) fun B=>
   Q5 e (fun v=> ∀p:Value,∀C:Value,∀w:World,H w→B p w→l C w→Q0 b.1 true w (indexAddr P T.k p C) (dk e v w)) fun v=>
   Q5 e (fun r=> ∀f:Value,∀w:World,H w→v f w→Q0 b.1 true w (fieldAddr P T.n f 0) (dk e r w)) fun r=>
   Q5 e (fun Q=> ∀n:Value,∀w:World,H w→r n w→Q0 b.1 true w (Q2 P T.c n) (dk e Q w)) fun Q=>
   ∀y:Value,∀z:Value,∀g:Value,∀C:Value,∀j:Value,∀t:Value,∀E:Value,∀U:Value,∀p:Value,∀f:Value,∀n:Value,∀R:Value,∀w:World,H w→m y w→s z w→D g w→l C w→u j w→A t w→o E w→O U w→B p w→v f w→r n w→Q R w→
   Q0 b.1 true w (Q3 P .neq T.c (.tmp 114) (.tmp 120) U R) fun ac w=>
   pick P b.1 ac (.bool false) w fun aa w=>
   Q3 P .add T.e (.tmp 105) (.const (.int .i64 1)) b.2 (.int .i64 1) w fun Z w=>
   M (aa,Z) w) (
   Q3 P .add T.e (.tmp 76) (.const (.int .i64 1)) (I i) (.int .i64 1) w fun ae w=>
   (Fu N ad (b.1,ae) w∧Mh N (b.1,ae)<m0)):=by
 have ar:=g2.max
 refine H0 (a:=Value.bool ok) i (fun k x w'=> ∃σ',Stp w1 σ1 w' σ'∧x=Value.bool (ok&&(List.range k).all (Xz c i))) ⟨σ1,Stp.refl al,by simp⟩ fun k x w2 d hk W=>?_
 obtain ⟨σ2,L,rfl⟩:=W
 have ay:=hq.up L
 have X:=g2.up L
 have aj:=L.sat
 refine Z2 ?_
 refine Q7 (fun hc=>?_) (fun hc=>?_)
 ·have am:k<i:=by simpa using hc
  have ab:k<c.fields.length:=by omega
  have V:(ok&&(List.range (k+1)).all (Xz c i))=((ok&&(List.range k).all (Xz c i))&&Xz c i k):=by rw[Lq,Bool.and_assoc]
  have hQ:Xz c i k= !decide (c.fields[k].name=c.fields[i].name):=by unfold Xz Bh;rw[C0 ab,C0 hi]
  rw[hQ] at V
  obtain ⟨p1,_⟩:=X.elF ab
  obtain ⟨p2,_⟩:=X.elF hi
  generalize (ok&&(List.range k).all (Xz c i))=ag at V⊢
  clear h hQ hc
  cases ag
  all_goals
   refine U2 aj ?_
   (repeat refine Z8 Qd ?_)
   (intros;(repeat (rename_i hx;subst hx));(try simp only[↓M2,M2,Mb,reduceIte]))
   rename_i w3 ai
   exact J6 (by omega) am ⟨σ2,L.trans ai.stp,by rw[V];rfl⟩
 ·have ah:k=i:=by
   have: ¬k<i:=by simpa using hc
   omega
  subst ah
  (try simp only[↓M1,M1,Mb,reduceIte])
  exact h _ _ L
set_option maxHeartbeats 4000000 in
theorem X2g {c:Cla} {lv fv mv:Value} {w1:World} {σ1:Q6} {q:Addr} {ok:Bool} (bj:X2 w1 σ1) (hq:Z6 σ1 q [S c.name,S c.super,lv, .bool c.iface, .bool c.abs, .bool c.fin,fv,mv]) {J:Value→World→Prop} (g2:Sl 3 R9 σ1 fv c.fields)
 (h: ∀w' σ',Stp w1 σ1 w' σ'→J (.bool (ok&&(List.range c.fields.length).all fun i=>Dp c i&&(List.range i).all (Xz c i))) w'):
 lp (
  α:=Value×Value) (Value.bool ok,(.int .i64 0)) w1 fun ab g d_ w=>
  fieldAddr P T.b (.pointer (some q)) 6 w fun bd w=>
  Q2 P T.k bd w fun bc w=>
  X3 P .len [T.k] T.e [false] [bc] w fun a5 w=>
  Q3 P .lss T.e (.tmp 71) (.tmp 74) g.2 a5 w fun bf w=>
  X1 bf (
   Q0 g.1 true w (fieldAddr P T.b (.pointer (some q)) 6) fun az w=>
   Q0 g.1 true w (Q2 P T.k az) fun bg w=>
   Q0 g.1 true w (fun w J=>J g.2 w) fun be w=>
   Q0 g.1 true w (indexAddr P T.k bg be) fun a7 w=>
   Q0 g.1 true w (fieldAddr P T.n a7 0) fun bb w=>
   Q0 g.1 true w (Q2 P T.c bb) fun ba w=>
   Q0 g.1 true w (Q1 P F.v [ba]) fun a2 w=>
   pick P g.1 a2 (.bool false) w fun r w=>
   Q0 r true w (fieldAddr P T.b (.pointer (some q)) 6) fun ax w=>
   Q0 r true w (Q2 P T.k ax) fun a4 w=>
   Q0 r true w (fun w J=>J g.2 w) fun a3 w=>
   Q0 r true w (indexAddr P T.k a4 a3) fun ay w=>
   Q0 r true w (fieldAddr P T.n ay 1) fun a1 w=>
   Q0 r true w (Q2 P T.c a1) fun a0 w=>
   Q0 r true w (Q1 P F.e [a0]) fun a9 w=>
   pick P r a9 (.bool false) w fun ae w=>
   Q0 ae true w (fieldAddr P T.b (.pointer (some q)) 3) fun bh w=>
   Q0 ae true w (Q2 P T.u bh) fun av w=>
   Q0 ae true w (J8 P .not av) fun am w=>
   pick P ae am (.bool false) w fun ap w=>
   lp (α:=Value×Value) (ap,(.int .i64 0)) w fun Z f d_ w=>
    Q3 P .lss T.e (.tmp 102) (.tmp 103) f.2 g.2 w fun ak w=>
    X1 ak (
     dr w fun k Y=>
     Q5 k (fun z=> ∀w:World,Y w→Q0 f.1 true w (fieldAddr P T.b (.pointer (some q)) 6) (dk k z w)) fun z=>
     Q5 k (fun E=> ∀w:World,Y w→Q0 f.1 true w (fun w J=>J f.2 w) (dk k E w)) fun E=>
     Q5 k (fun W=> ∀w:World,Y w→Q0 f.1 true w (fieldAddr P T.b (.pointer (some q)) 6) (dk k W w)) fun W=>
     Q5 k (fun y=> ∀w:World,Y w→Q0 f.1 true w (fun w J=>J g.2 w) (dk k y w)) fun y=>
     Q5 k (fun L=> ∀N:Value,∀w:World,Y w→z N w→Q0 f.1 true w (Q2 P T.k N) (dk k L w)) fun L=>
     Q5 k (fun Q=> ∀v:Value,∀O:Value,∀w:World,Y w→L v w→E O w→Q0 f.1 true w (indexAddr P T.k v O) (dk k Q w)) fun Q=>
     Q5 k (fun B=> ∀H:Value,∀w:World,Y w→Q H w→Q0 f.1 true w (fieldAddr P T.n H 0) (dk k B w)) fun B=>
     Q5 k (fun ac=> ∀X:Value,∀w:World,Y w→B X w→Q0 f.1 true w (Q2 P T.c X) (dk k ac w)) fun ac=>
     Q5 k (fun R=> ∀u:Value,∀w:World,Y w→W u w→Q0 f.1 true w (Q2 P T.k u) (dk k R w)) fun R=>
     Q5 k (fun M=> ∀C:Value,∀V:Value,∀w:World,Y w→R C w→y V w→Q0 f.1 true w (indexAddr P T.k C V) (dk k M w)) fun M=>
     Q5 k (fun D=> ∀t:Value,∀w:World,Y w→M t w→Q0 f.1 true w (fieldAddr P T.n t 0) (dk k D w)) fun D=>
     Q5 k (fun ad=> ∀A:Value,∀w:World,Y w→D A w→Q0 f.1 true w (Q2 P T.c A) (dk k ad w)) fun ad=>
     ∀N:Value,∀O:Value,∀u:Value,∀V:Value,∀v:Value,∀H:Value,∀X:Value,∀ag:Value,∀C:Value,∀t:Value,∀A:Value,∀af:Value,∀w:World,Y w→z N w→E O w→W u w→y V w→L v w→Q H w→B X w→ac ag w→R C w→M t w→D A w→ad af w→
     Q0 f.1 true w (Q3 P .neq T.c (.tmp 114) (.tmp 120) ag af) fun ao w=>
     pick P f.1 ao (.bool false) w fun an w=>
     Q3 P .add T.e (.tmp 105) (.const (.int .i64 1)) f.2 (.int .i64 1) w fun al w=>
     Z (an,al) w) (
     Q3 P .add T.e (.tmp 76) (.const (.int .i64 1)) g.2 (.int .i64 1) w fun bi w=>
     ab (f.1,bi) w)) (
   J g.1 w):=by
 have U:=g2.max
 refine H0 (a:=Value.bool ok) c.fields.length (fun n x w'=> ∃σ',Stp w1 σ1 w' σ'∧x=Value.bool (ok&&(List.range n).all fun i=>Dp c i&&(List.range i).all (Xz c i))) ⟨σ1,Stp.refl bj,by simp⟩ fun n x w2 d bs aj=>?_
 obtain ⟨σ2,m,rfl⟩:=aj
 have p:=hq.up m
 have o:=g2.up m
 have l:=m.sat
 (repeat refine Hd.h ?_)
 refine ld l p rfl ?_
 refine Q8 o ?_
 refine Z2 ?_
 refine Q7 (fun hc=>?_) (fun hc=>?_)
 ·have j:n<c.fields.length:=by simpa using hc
  have aa:(ok&&(List.range (n+1)).all fun i=>Dp c i&&(List.range i).all (Xz c i))=((ok&&(List.range n).all fun i=>Dp c i&&(List.range i).all (Xz c i))&&(Dp c n&&(List.range n).all (Xz c n))):=by rw[Lq,Bool.and_assoc]
  have hP:Dp c n=(D7 c.fields[n].name&&right c.fields[n].kind&& !c.iface):=by unfold Dp Bh;rw[C0 j]
  obtain ⟨p1,r1⟩:=o.elF j
  have b1:c.fields[n].name.length≤140737488355328:=by have:=r1.2.1;simp only[U0] at this;omega
  have b2:c.fields[n].kind.length≤140737488355328:=by have:=r1.2.2;simp only[U0] at this;omega
  generalize (ok&&(List.range n).all fun i=>Dp c i&&(List.range i).all (Xz c i))=ah at aa⊢
  clear h hc
  have step: ∀b,b=(ah&&Dp c n)→(ah&&(Dp c n&&(List.range n).all (Xz c n)))=(b&&(List.range n).all (Xz c n)):=fun b e=>by rw[e,Bool.and_assoc]
  cases ah with
  | false=>
   (repeat refine Hd.h ?_)
   refine Q3I l p o j fun w4 σ4 s=>?_
   exact J6 U j ⟨σ4,m.trans s,by rw[aa];rfl⟩
  | true=>
   (repeat refine Hd.h ?_)
   refine ld l p rfl ?_
   (repeat refine Hd.h ?_)
   refine Y2 o j ?_
   (repeat refine Hd.h ?_)
   refine ld l p1 rfl ?_
   (repeat refine Hd.h ?_)
   refine Ky _ b1 ?_
   cases d1:D7 c.fields[n].name with
   | false=>
    (repeat refine Hd.h ?_)
    refine Q3I l p o j fun w4 σ4 s=>?_
    exact J6 U j ⟨σ4,m.trans s,by rw[aa,step false (by rw[hP,d1];rfl)]⟩
   | true=>
    (repeat refine Hd.h ?_)
    refine ld l p rfl ?_
    (repeat refine Hd.h ?_)
    refine Y2 o j ?_
    (repeat refine Hd.h ?_)
    refine ld l p1 rfl ?_
    (repeat refine Hd.h ?_)
    refine Ub _ b2 ?_
    cases d2:right c.fields[n].kind with
    | false=>
     (repeat refine Hd.h ?_)
     refine Q3I l p o j fun w4 σ4 s=>?_
     exact J6 U j ⟨σ4,m.trans s,by rw[aa,step false (by rw[hP,d1,d2];rfl)]⟩
    | true=>
     (repeat refine Hd.h ?_)
     refine ld l p rfl ?_
     (repeat refine Hd.h ?_)
     refine Q3I l p o j fun w4 σ4 s=>?_
     exact J6 U j ⟨σ4,m.trans s,by rw[aa,step (!c.iface) (by rw[hP,d1,d2];rfl)]⟩
 ·have j: ¬n<c.fields.length:=by simpa using hc
  obtain rfl:n=c.fields.length:=by omega
  exact h _ _ m
set_option maxHeartbeats 2000000 in
theorem Sg {c:Cla} {lv fv mv:Value} {w1:World} {σ1:Q6} {q:Addr} {ok:Bool} (ae:X2 w1 σ1) (hq:Z6 σ1 q [S c.name,S c.super,lv, .bool c.iface, .bool c.abs, .bool c.fin,fv,mv]) {i:Nat} {q9:Addr} {pv cv hv:Value} {N m0:Nat} {V:Nat→Value→World→Prop} (g3:Sl 7 E5 σ1 mv c.methods) (hi:i<c.methods.length) (Z:Z6 σ1 q9 [S c.methods[i].name,pv,S c.methods[i].result, .bool c.methods[i].abs,I c.methods[i].locals,cv,hv])
 (h: ∀w' σ',Stp w1 σ1 w' σ'→Fu N V (Value.bool (ok&&(List.range i).all (Xs c i)), .int .i64 (IntKind.i64.wrap (i+1))) w'∧Mh N (Value.bool (ok&&(List.range i).all (Xs c i)), .int .i64 (IntKind.i64.wrap (i+1)))<m0):
 lp (α:=Value×Value) (Value.bool ok,(.int .i64 0)) w1 fun A b d_ w=>
  Q3 P .lss T.e (.tmp 158) (.tmp 159) b.2 (I i) w fun O w=>
  X1 O (
   dr w fun e B=>
   Q5 e (fun o=> ∀w:World,B w→Q0 b.1 true w (fieldAddr P T.b (.pointer (some q)) 7) (dk e o w)) fun o=>
   Q5 e (fun u=> ∀w:World,B w→Q0 b.1 true w (fun w J=>J b.2 w) (dk e u w)) fun u=>
   Q5 e (fun l=> ∀w:World,B w→Q0 b.1 true w (fieldAddr P T.d (.pointer (some q9)) 0) (dk e l w)) fun l=>
   Q5 e (fun j=> ∀r:Value,∀w:World,B w→o r w→Q0 b.1 true w (Q2 P T.j r) (dk e j w)) fun j=>
   Q5 e (fun g=> ∀p:Value,∀t:Value,∀w:World,B w→j p w→u t w→Q0 b.1 true w (indexAddr P T.j p t) (dk e g w)) fun g=>
   Q5 e (fun s=> ∀f:Value,∀w:World,B w→g f w→Q0 b.1 true w (fieldAddr P T.d f 0) (dk e s w)) fun s=>
   Q5 e (fun y=> ∀n:Value,∀w:World,B w→s n w→Q0 b.1 true w (Q2 P T.c n) (dk e y w)) fun y=>
   Q5 e (fun z=> ∀m:Value,∀w:World,B w→l m w→Q0 b.1 true w (Q2 P T.c m) (dk e z w)) fun z=>
   ∀r:Value,∀t:Value,∀m:Value,∀p:Value,∀f:Value,∀n:Value,∀D:Value,∀E:Value,∀w:World,B w→o r w→u t w→l m w→j p w→g f w→s n w→y D w→z E w→
   Q0 b.1 true w (Q3 P .neq T.c (.tmp 170) (.tmp 172) D E) fun U w=>
   pick P b.1 U (.bool false) w fun M w=>
   Q3 P .add T.e (.tmp 161) (.const (.int .i64 1)) b.2 (.int .i64 1) w fun R w=>
   A (M,R) w) (
   Q3 P .add T.e (.tmp 128) (.const (.int .i64 1)) (I i) (.int .i64 1) w fun C w=>
   (Fu N V (b.1,C) w∧Mh N (b.1,C)<m0)):=by
 have ak:=g3.max
 refine H0 (a:=Value.bool ok) i (fun k x w'=> ∃σ',Stp w1 σ1 w' σ'∧x=Value.bool (ok&&(List.range k).all (Xs c i))) ⟨σ1,Stp.refl ae,by simp⟩ fun k x w2 d hk L=>?_
 obtain ⟨σ2,v,rfl⟩:=L
 have ay:=hq.up v
 have ah:=Z.up v
 have Y:=g3.up v
 have ac:=v.sat
 refine Z2 ?_
 refine Q7 (fun W=>?_) (fun W=>?_)
 ·have af:k<i:=by simpa using W
  have Q:k<c.methods.length:=by omega
  have H:(ok&&(List.range (k+1)).all (Xs c i))=((ok&&(List.range k).all (Xs c i))&&Xs c i k):=by rw[Lq,Bool.and_assoc]
  have hQ:Xs c i k= !decide (c.methods[k].name=c.methods[i].name):=by unfold Xs Ro;rw[C0 Q,C0 hi]
  rw[hQ] at H
  obtain ⟨ap,av,an,p1,_⟩:=Y.elM Q
  generalize (ok&&(List.range k).all (Xs c i))=X at H⊢
  clear h hQ W
  cases X
  all_goals
   refine U2 ac ?_
   (repeat refine Z8 Qd ?_)
   (intros;(repeat (rename_i hx;subst hx));(try simp only[↓M2,M2,Mb,reduceIte]))
   rename_i w3 ab
   exact J6 (by omega) af ⟨σ2,v.trans ab.stp,by rw[H];rfl⟩
 ·have aa:k=i:=by
   have: ¬k<i:=by simpa using W
   omega
  subst aa
  (try simp only[↓M1,M1,Mb,reduceIte])
  exact h _ _ v
set_option maxHeartbeats 4000000 in
theorem X2s {c:Cla} {lv fv mv:Value} {w1:World} {σ1:Q6} {q:Addr} {ok:Bool} (bv:X2 w1 σ1) (hq:Z6 σ1 q [S c.name,S c.super,lv, .bool c.iface, .bool c.abs, .bool c.fin,fv,mv]) {J:Value→World→Prop} (g3:Sl 7 E5 σ1 mv c.methods)
 (h: ∀w' σ',Stp w1 σ1 w' σ'→J (.bool (ok&&(List.range c.methods.length).all fun i=>Nf c i&&(List.range i).all (Xs c i))) w'):
 lp (α:=Value×Value) (Value.bool ok,(.int .i64 0)) w1 fun X v d_ w=>
  fieldAddr P T.b (.pointer (some q)) 7 w fun bc w=>
  Q2 P T.j bc w fun bh w=>
  X3 P .len [T.j] T.e [false] [bh] w fun a0 w=>
  Q3 P .lss T.e (.tmp 123) (.tmp 126) v.2 a0 w fun bb w=>
  X1 bb (
   fieldAddr P T.b (.pointer (some q)) 7 w fun ar w=>
   Q2 P T.j ar w fun ax w=>
   indexAddr P T.j ax v.2 w fun a1 w=>
   Q2 P T.d a1 w fun be w=>
   V8 P T.d w fun t9 w=>
   Y0 P T.d t9 be w fun _u w=>
   Q0 v.1 true w (Q2 P T.d t9) fun a8 w=>
   Q0 v.1 true w (Q1 P F.a4 [a8]) fun a4 w=>
   pick P v.1 a4 (.bool false) w fun r w=>
   Q0 r true w (fieldAddr P T.d t9 3) fun bk w=>
   Q0 r true w (Q2 P T.u bk) fun az w=>
   Q0 r true w (J8 P .not az) fun ba w=>
   Q0 r true w (fun w J=>J ba w) fun Y w=>
   Q0 Y false w (fieldAddr P T.b (.pointer (some q)) 4) fun a6 w=>
   Q0 Y false w (Q2 P T.u a6) fun aw w=>
   Q0 r true w (pick P Y (.bool true) aw) fun a5 w=>
   pick P r a5 (.bool false) w fun s w=>
   Q0 s true w (fieldAddr P T.b (.pointer (some q)) 3) fun bo w=>
   Q0 s true w (Q2 P T.u bo) fun ay w=>
   Q0 s true w (J8 P .not ay) fun aq w=>
   Q0 s true w (fun w J=>J aq w) fun W w=>
   Q0 W false w (fieldAddr P T.d t9 3) fun bm w=>
   Q0 W false w (Q2 P T.u bm) fun bd w=>
   Q0 s true w (pick P W (.bool true) bd) fun bi w=>
   pick P s bi (.bool false) w fun bp w=>
   lp (α:=Value×Value) (bp,(.int .i64 0)) w fun ad k d_ w=>
    Q3 P .lss T.e (.tmp 158) (.tmp 159) k.2 v.2 w fun bj w=>
    X1 bj (
     dr w fun y Br=>
     Q5 y (fun L=> ∀w:World,Br w→Q0 k.1 true w (fieldAddr P T.b (.pointer (some q)) 7) (dk y L w)) fun L=>
     Q5 y (fun Q=> ∀w:World,Br w→Q0 k.1 true w (fun w J=>J k.2 w) (dk y Q w)) fun Q=>
     Q5 y (fun D=> ∀w:World,Br w→Q0 k.1 true w (fieldAddr P T.d t9 0) (dk y D w)) fun D=>
     Q5 y (fun A=> ∀B:Value,∀w:World,Br w→L B w→Q0 k.1 true w (Q2 P T.j B) (dk y A w)) fun A=>
     Q5 y (fun z=> ∀M:Value,∀O:Value,∀w:World,Br w→A M w→Q O w→Q0 k.1 true w (indexAddr P T.j M O) (dk y z w)) fun z=>
     Q5 y (fun N=> ∀C:Value,∀w:World,Br w→z C w→Q0 k.1 true w (fieldAddr P T.d C 0) (dk y N w)) fun N=>
     Q5 y (fun aa=> ∀H:Value,∀w:World,Br w→N H w→Q0 k.1 true w (Q2 P T.c H) (dk y aa w)) fun aa=>
     Q5 y (fun ab=> ∀E:Value,∀w:World,Br w→D E w→Q0 k.1 true w (Q2 P T.c E) (dk y ab w)) fun ab=>
     ∀B:Value,∀O:Value,∀E:Value,∀M:Value,∀C:Value,∀H:Value,∀ai:Value,∀aj:Value,∀w:World,Br w→L B w→Q O w→D E w→A M w→z C w→N H w→aa ai w→ab aj w→
     Q0 k.1 true w (Q3 P .neq T.c (.tmp 170) (.tmp 172) ai aj) fun a7 w=>
     pick P k.1 a7 (.bool false) w fun a2 w=>
     Q3 P .add T.e (.tmp 161) (.const (.int .i64 1)) k.2 (.int .i64 1) w fun bl w=>
     ad (a2,bl) w) (
     Q3 P .add T.e (.tmp 128) (.const (.int .i64 1)) v.2 (.int .i64 1) w fun bf w=>
     X (k.1,bf) w)) (
   J v.1 w):=by
 have o:=g3.max
 refine H0 (a:=Value.bool ok) c.methods.length (fun n x w'=> ∃σ',Stp w1 σ1 w' σ'∧x=Value.bool (ok&&(List.range n).all fun i=>Nf c i&&(List.range i).all (Xs c i))) ⟨σ1,Stp.refl bv,by simp⟩ fun n x w2 d b2 av=>?_
 obtain ⟨σ2,V,rfl⟩:=av
 have ao:=hq.up V
 have af:=g3.up V
 have ae:=V.sat
 (repeat refine Hd.h ?_)
 refine ld ae ao rfl ?_
 refine Q8 af ?_
 refine Z2 ?_
 refine Q7 (fun hc=>?_) (fun hc=>?_)
 ·have f:n<c.methods.length:=by simpa using hc
  have u:(ok&&(List.range (n+1)).all fun i=>Nf c i&&(List.range i).all (Xs c i))=((ok&&(List.range n).all fun i=>Nf c i&&(List.range i).all (Xs c i))&&(Nf c n&&(List.range n).all (Xs c n))):=by rw[Lq,Bool.and_assoc]
  have hP:Nf c n=(K1 c.methods[n]&&(!c.methods[n].abs||c.abs)&&(!c.iface||c.methods[n].abs)):=by unfold Nf Ro;rw[C0 f]
  obtain ⟨pv,cv,hv,p1,r1⟩:=af.elM f
  generalize (ok&&(List.range n).all fun i=>Nf c i&&(List.range i).all (Xs c i))=ak at u⊢
  clear h hc
  have step: ∀b,b=(ak&&Nf c n)→(ak&&(Nf c n&&(List.range n).all (Xs c n)))=(b&&(List.range n).all (Xs c n)):=fun b e=>by rw[e,Bool.and_assoc]
  (repeat refine Hd.h ?_)
  refine ld ae ao rfl ?_
  refine Y2 af f ?_
  refine Y5 ae p1 rfl ?_
  refine Y7 ae (by rfl) rfl (Rep.one r1) fun q9 w3 σ3 ac al=>?_
  have an:=ac.sat
  have a9:=ao.up ac
  have bn:=af.up ac
  have r3:=RMe_lift r1 ⟨ac.le⟩
  have ah:=V.trans ac
  cases ak with
  | false=>
   (repeat refine Hd.h ?_)
   refine Sg an a9 bn f al fun w4 R l=>?_
   exact J6 o f ⟨R,ah.trans l,by rw[u];rfl⟩
  | true=>
   (repeat refine Hd.h ?_)
   refine Y5 an al rfl ?_
   (repeat refine Hd.h ?_)
   refine Q8m an r3 fun w5 σ5 Z=>?_
   have m:=Z.sat
   have t:=a9.up Z
   have g:=al.up Z
   have U:=bn.up Z
   have p:=ah.trans Z
   cases d1:K1 c.methods[n] with
   | false=>
    (repeat refine Hd.h ?_)
    refine Sg m t U f g fun w4 R l=>?_
    exact J6 o f ⟨R,p.trans l,by rw[u,step false (by rw[hP,d1];rfl)]⟩
   | true=>
    (repeat refine Hd.h ?_)
    refine ld m g rfl ?_
    (repeat refine Hd.h ?_)
    have j: ∀b1:Bool,b1=(!c.methods[n].abs||c.abs)→Nf c n=(b1&&(!c.iface||c.methods[n].abs)):=fun b1 e=>by rw[hP,d1,e];rfl
    cases d2:c.methods[n].abs with
    | false=>
     rw[d2] at j g
     simp only[Bool.not_true,Bool.not_false]
     (repeat refine Hd.h ?_)
     refine ld m t rfl ?_
     (repeat refine Hd.h ?_)
     cases d4:c.iface with
     | false=>
      simp only[Bool.not_true,Bool.not_false]
      (repeat refine Hd.h ?_)
      refine Sg m t U f (by rw[d2];exact g) fun w4 R l=>?_
      exact J6 o f ⟨R,p.trans l,by rw[u,step true (by rw[j true rfl,d4];rfl)]⟩
     | true=>
      simp only[Bool.not_true,Bool.not_false]
      (repeat refine Hd.h ?_)
      refine ld m g rfl ?_
      (repeat refine Hd.h ?_)
      refine Sg m t U f (by rw[d2];exact g) fun w4 R l=>?_
      exact J6 o f ⟨R,p.trans l,by rw[u,step false (by rw[j true rfl,d4];rfl)]⟩
    | true=>
     rw[d2] at j g
     simp only[Bool.not_true,Bool.not_false]
     (repeat refine Hd.h ?_)
     refine ld m t rfl ?_
     cases d3:c.abs with
     | false=>
      (repeat refine Hd.h ?_)
      refine Sg m t U f (by rw[d2];exact g) fun w4 R l=>?_
      exact J6 o f ⟨R,p.trans l,by rw[u,step false (by rw[j false (by rw[d3];rfl)];rfl)]⟩
     | true=>
      (repeat refine Hd.h ?_)
      refine ld m t rfl ?_
      (repeat refine Hd.h ?_)
      cases d4:c.iface with
      | false=>
       simp only[Bool.not_true,Bool.not_false]
       (repeat refine Hd.h ?_)
       refine Sg m t U f (by rw[d2];exact g) fun w4 R l=>?_
       exact J6 o f ⟨R,p.trans l,by rw[u,step true (by rw[j true (by rw[d3];rfl),d4];rfl)]⟩
      | true=>
       simp only[Bool.not_true,Bool.not_false]
       (repeat refine Hd.h ?_)
       refine ld m g rfl ?_
       (repeat refine Hd.h ?_)
       refine Sg m t U f (by rw[d2];exact g) fun w4 R l=>?_
       exact J6 o f ⟨R,p.trans l,by rw[u,step true (by rw[j true (by rw[d3];rfl),d4];rfl)]⟩
 ·have f: ¬n<c.methods.length:=by simpa using hc
  obtain rfl:n=c.methods.length:=by omega
  exact h _ _ V
theorem X2o {c:Cla} {M H mv:Value} {w1:World} {σ1:Q6} {q:Addr} {ok:Bool} (d:X2 w1 σ1) (g:Z6 σ1 q [S c.name,S c.super,M, .bool c.iface, .bool c.abs, .bool c.fin,H,mv]) (h:K (.bool (ok&&Q8X c)) w1):
 Q0 (Value.bool ok) true w1 (fieldAddr P T.b (.pointer (some q)) 3) fun p w=>
  Q0 (Value.bool ok) true w (Q2 P T.u p) fun k w=>
  Q0 (Value.bool ok) true w (J8 P .not k) fun r w=>
  Q0 (Value.bool ok) true w (fun w J=>J r w) fun b w=>
  Q0 b false w (fieldAddr P T.b (.pointer (some q)) 4) fun C w=>
  Q0 b false w (Q2 P T.u C) fun u w=>
  Q0 b false w (fun w J=>J u w) fun e w=>
  Q0 e true w (fieldAddr P T.b (.pointer (some q)) 1) fun o w=>
  Q0 e true w (Q2 P T.c o) fun v w=>
  Q0 e true w (Q3 P .eql T.c (.tmp 185) (.const (.string ⟨#[79,98,106,101,99,116]⟩)) v (.string ⟨#[79,98,106,101,99,116]⟩)) fun A w=>
  Q0 b false w (pick P e A (.bool false)) fun n w=>
  Q0 (Value.bool ok) true w (pick P b (.bool true) n) fun j w=>
  pick P (Value.bool ok) j (.bool false) w fun a w=>
  Q0 a true w (fieldAddr P T.b (.pointer (some q)) 4) fun m w=>
  Q0 a true w (Q2 P T.u m) fun B w=>
  Q0 a true w (fun w J=>J B w) fun f w=>
  Q0 f true w (fieldAddr P T.b (.pointer (some q)) 5) fun s w=>
  Q0 f true w (Q2 P T.u s) fun t w=>
  Q0 a true w (pick P f t (.bool false)) fun y w=>
  Q0 a true w (J8 P .not y) fun z w=>
  pick P a z (.bool false) w fun l w=>
  K l w:=by
 unfold Q8X at h
 have L:decide (c.super=U1)=decide (c.super=[79,98,106,101,99,116]):=rfl
 rw[L] at h
 cases ok with
 | false=>(try simp only[↓M1,M1,Mb,reduceIte]);simpa using h
 | true=>
  (try simp only[↓M1,M1,Mb,reduceIte])
  refine ld d g rfl ?_
  (try simp only[↓M1,M1,Mb,reduceIte])
  cases E:c.iface with
  | false=>
   rw[E] at h
   (try simp only[↓M1,M1,Mb,reduceIte])
   refine ld d g rfl ?_
   cases i:c.abs with
   | false=>rw[i] at h;(try simp only[↓M1,M1,Mb,reduceIte]);simpa using h
   | true=>
    rw[i] at h
    (try simp only[↓M1,M1,Mb,reduceIte])
    refine ld d g rfl ?_
    (try simp only[↓M1,M1,Mb,reduceIte])
    simpa using h
  | true=>
   rw[E] at h
   (try simp only[↓M1,M1,Mb,reduceIte])
   refine ld d g rfl ?_
   cases i:c.abs with
   | false=>rw[i] at h;(try simp only[↓M1,M1,Mb,reduceIte]);simpa using h
   | true=>
    rw[i] at h
    (try simp only[↓M1,M1,Mb,reduceIte])
    refine ld d g rfl ?_
    (try simp only[↓M1,M1,Mb,reduceIte])
    cases D:decide (c.super=[79,98,106,101,99,116]) with
    | false=>rw[D] at h;(try simp only[↓M1,M1,Mb,reduceIte]);simpa using h
    | true=>
     rw[D] at h
     (try simp only[↓M1,M1,Mb,reduceIte])
     refine ld d g rfl ?_
     simp only[i,↓M1,M1,Mb,reduceIte]
     refine ld d g rfl ?_
     (try simp only[↓M1,M1,Mb,reduceIte])
     simpa using h
end Go.Proofs.YtjdiakhipmggjaaGreatDoor

namespace Go.Proofs.YtjdiakhipmggjaaGreatDoor
open Go.Emb Go.RowKit Go.Kd Go.Hm
variable {w : World} {K : Value → World → Prop} {σ : Q6}
def Q61 (c:Cla):Bool:=((((M7 c.name&&M7 c.super&& !decide (c.name=c.super))&&(List.range c.like.length).all fun i=>Nr c i&&(List.range i).all (Qc c i))&&(List.range c.fields.length).all fun i=>Dp c i&&(List.range i).all (Xz c i))&&(List.range c.methods.length).all fun i=>Nf c i&&(List.range i).all (Xs c i))&&Q8X c
theorem X0S {α:Type} {f:α→X0}: ∀(xs a:List α),C7 f a xs=true↔(xs.map f).Nodup∧ ∀x∈xs,∀y∈a,f y≠f x:=by
 intro xs
 induction xs with
 | nil=>intro a;simp[C7]
 | cons x r h=>
  intro a
  simp only[C7,Bool.and_eq_true,h,Bool.not_eq_true',List.map_cons,List.nodup_cons]
  rw[←Bool.not_eq_true,List.any_eq_true]
  simp only[decide_eq_true_eq,not_exists,not_and,List.mem_append,List.mem_cons,List.not_mem_nil,or_false,List.mem_map]
  constructor
  ·rintro ⟨g,d,c⟩
   refine ⟨⟨fun y hy e=>c y hy x (.inr rfl) e.symm,d⟩,fun y hy z b=>?_⟩
   rcases hy with rfl | hy
   ·exact g z b
   ·exact c y hy z (.inl b)
  ·rintro ⟨⟨g,d⟩,c⟩
   refine ⟨fun y hy=>c x (.inl rfl) y hy,d,fun y hy z b=>?_⟩
   rcases b with b | rfl
   ·exact c y (.inr hy) z b
   ·exact fun e=>g y hy e.symm
theorem Q18 {α:Type} {f:α→X0} {xs:List α} {p:α→Bool} {P:Nat→Bool} {Q:Nat→Nat→Bool} (c: ∀i (h:i<xs.length),P i=p xs[i]) (e: ∀i (h:i<xs.length) k (o:k<xs.length),Q i k= !decide (f xs[k]=f xs[i])):
 ((List.range xs.length).all fun i=>P i&&(List.range i).all (Q i))=true↔(∀x∈xs,p x=true)∧C7 f [] xs=true:=by
 rw[X0S,List.all_eq_true]
 simp only[List.mem_range,Bool.and_eq_true,List.all_eq_true,List.not_mem_nil,false_implies,implies_true,and_true]
 rw[List.nodup_iff_pairwise_ne,List.pairwise_iff_getElem]
 simp only[List.length_map,List.getElem_map]
 constructor
 ·intro h
  refine ⟨fun x n=>?_,fun i j a d b=>?_⟩
  ·obtain ⟨i,a,rfl⟩:=List.getElem_of_mem n
   rw[←c i a];exact (h i a).1
  ·have:=(h j d).2 i b
   rw[e j d i a] at this
   simpa using this
 ·rintro ⟨m,g⟩ i a
  refine ⟨by rw[c i a];exact m _ (List.getElem_mem a),fun k l=>?_⟩
  rw[e i a k (by omega)]
  simpa using g k i (by omega) a l
theorem X0z (c:Cla):Q61 c=Mu c:=by
 have z:=Q18 (f:=id) (xs:=c.like) (p:=fun y=>M7 y&& !decide (y=c.name)) (P:=Nr c) (Q:=Qc c) (fun i h=>by unfold Nr;rw[C0 h]) (fun i h k l=>by unfold Qc;rw[C0 h,C0 l];rfl)
 have g:=Q18 (f:=Fld.name) (xs:=c.fields) (p:=fun f=>D7 f.name&&right f.kind&& !c.iface) (P:=Dp c) (Q:=Xz c) (fun i h=>by unfold Dp Bh;rw[C0 h]) (fun i h k l=>by unfold Xz Bh;rw[C0 h,C0 l])
 have d:=Q18 (f:=Hm.Met.name) (xs:=c.methods) (p:=fun m=>K1 m&&(!m.abs||c.abs)&&(!c.iface||m.abs)) (P:=Nf c) (Q:=Xs c) (fun i h=>by unfold Nf Ro;rw[C0 h]) (fun i h k l=>by unfold Xs Ro;rw[C0 h,C0 l])
 rw[Bool.eq_iff_iff]
 unfold Q61 Mu Q8X
 simp only[Bool.and_eq_true,z,g,d]
 simp only[Bool.and_eq_true,Bool.not_eq_true',Bool.or_eq_true,Bool.and_eq_false_iff,Bool.or_eq_false_iff,decide_eq_true_eq,decide_eq_false_iff_not,List.all_eq_true,List.mem_cons,List.any_eq_false,He,Bool.not_eq_false']
 constructor
 ·rintro ⟨⟨⟨⟨⟨⟨n,o⟩,s⟩,a,q⟩,h6,t⟩,j,r⟩,b,u⟩
  refine ⟨⟨⟨⟨⟨⟨⟨⟨?_,?_⟩,q⟩,?_⟩,u,?_⟩,t⟩,r⟩,?_⟩,fun m d=>(j m d).1.1⟩
  ·rintro x (rfl | rfl | hx)
   ·exact n
   ·exact o
   ·exact (a x hx).1
  ·rintro x (rfl | hx)
   ·exact s
   ·exact fun e=>(a x hx).2 e.symm
  ·cases v:c.iface with
   | false=>exact .inl rfl
   | true=>
    rw[v] at b h6 j
    have b:=b.resolve_left (by decide)
    refine .inr ⟨⟨b,?_⟩,fun m d e=>?_⟩
    ·rw[List.eq_nil_iff_forall_not_mem]
     intro f g
     exact absurd (h6 f g).2 (by decide)
    ·have:=(j m d).2.resolve_left (by decide)
     rw[this] at e;cases e
  ·cases A:c.abs with
   | true=>exact .inr rfl
   | false=>
    rw[A] at j
    refine .inl fun m d e=>?_
    have:=(j m d).1.2.resolve_right (by decide)
    rw[this] at e;cases e
  ·exact fun f g=>(h6 f g).1
 ·rintro ⟨⟨⟨⟨⟨⟨⟨⟨n,o⟩,s⟩,a⟩,q,h6⟩,t⟩,j⟩,r⟩,b⟩
  refine ⟨⟨⟨⟨⟨⟨n _ (.inl rfl),n _ (.inr (.inl rfl))⟩,o _ (.inl rfl)⟩,fun x hx=>⟨n x (.inr (.inr hx)),fun e=>o x (.inr hx) e.symm⟩,s⟩,fun f g=>⟨r f g,?_⟩,t⟩,fun m d=>⟨⟨b m d,?_⟩,?_⟩,j⟩,?_,q⟩
  ·rcases a with a | ⟨⟨_,a⟩,_⟩
   ·exact a
   ·rw[a] at g;simp at g
  ·rcases h6 with h6 | h6
   ·left;exact eq_false_of_ne_true (h6 m d)
   ·exact .inr h6
  ·rcases a with a | ⟨_,a⟩
   ·exact .inl a
   ·right
    cases hx:m.abs with
    | true=>rfl
    | false=>exact absurd hx (a m d)
  ·rcases a with a | ⟨⟨a,_⟩,_⟩
   ·exact .inl a
   ·exact .inr a
set_option maxHeartbeats 4000000 in
theorem Q9K {c:Cla} {cs:List Value} (hs:X2 w σ) (hc:V0 σ c cs) (h: ∀w' σ',Stp w σ w' σ'→K (.bool (Q61 c)) w'):Q1 P F.bs [.agg cs.toArray] w K:=Pn (by
 unfold Nk
 obtain ⟨lv,fv,mv,rfl,f1,f2,f3,f4,f5⟩:=hc
 have ct:c.name.length≤140737488355328:=by simp only[U0] at f4;omega
 have c0:c.super.length≤140737488355328:=by simp only[U0] at f5;omega
 refine Y9 hs fun q w1 σ1 br hq=>?_
 have g1:=f1.up br
 have g2:=f2.up br
 have g3:=f3.up br
 have cc:=br.sat
 have ci: ∀ok:Bool,ok=(M7 c.name&&M7 c.super&& !decide (c.name=c.super))→_:=fun ok e=>
  X0Q (w1:=w1) (σ1:=σ1) (ok:=ok) cc hq (J:=fun v w=>lp (α:=Value×Value) (v,(.int .i64 0)) w fun b0 o d_ w=>
   fieldAddr P T.b (.pointer (some q)) 6 w fun cw w=>
   Q2 P T.k cw w fun db w=>
   X3 P .len [T.k] T.e [false] [db] w fun cu w=>
   Q3 P .lss T.e (.tmp 71) (.tmp 74) o.2 cu w fun cx w=>
   X1 cx (
    Q0 o.1 true w (fieldAddr P T.b (.pointer (some q)) 6) fun c2 w=>
    Q0 o.1 true w (Q2 P T.k c2) fun dd w=>
    Q0 o.1 true w (fun w J=>J o.2 w) fun dc w=>
    Q0 o.1 true w (indexAddr P T.k dd dc) fun c8 w=>
    Q0 o.1 true w (fieldAddr P T.n c8 0) fun cv w=>
    Q0 o.1 true w (Q2 P T.c cv) fun da w=>
    Q0 o.1 true w (Q1 P F.v [da]) fun c5 w=>
    pick P o.1 c5 (.bool false) w fun am w=>
    Q0 am true w (fieldAddr P T.b (.pointer (some q)) 6) fun cq w=>
    Q0 am true w (Q2 P T.k cq) fun c6 w=>
    Q0 am true w (fun w J=>J o.2 w) fun cr w=>
    Q0 am true w (indexAddr P T.k c6 cr) fun c1 w=>
    Q0 am true w (fieldAddr P T.n c1 1) fun c4 w=>
    Q0 am true w (Q2 P T.c c4) fun c3 w=>
    Q0 am true w (Q1 P F.e [c3]) fun c9 w=>
    pick P am c9 (.bool false) w fun cd w=>
    Q0 cd true w (fieldAddr P T.b (.pointer (some q)) 3) fun cy w=>
    Q0 cd true w (Q2 P T.u cy) fun cz w=>
    Q0 cd true w (J8 P .not cz) fun cn w=>
    pick P cd cn (.bool false) w fun cp w=>
    lp (α:=Value×Value) (cp,(.int .i64 0)) w fun bf l d_ w=>
     Q3 P .lss T.e (.tmp 102) (.tmp 103) l.2 o.2 w fun cl w=>
     X1 cl (
      dr w fun d n=>
      Q5 d (fun a1=> ∀w:World,n w→Q0 l.1 true w (fieldAddr P T.b (.pointer (some q)) 6) (dk d a1 w)) fun a1=>
      Q5 d (fun av=> ∀w:World,n w→Q0 l.1 true w (fun w J=>J l.2 w) (dk d av w)) fun av=>
      Q5 d (fun a9=> ∀w:World,n w→Q0 l.1 true w (fieldAddr P T.b (.pointer (some q)) 6) (dk d a9 w)) fun a9=>
      Q5 d (fun aq=> ∀w:World,n w→Q0 l.1 true w (fun w J=>J o.2 w) (dk d aq w)) fun aq=>
      Q5 d (fun a6=> ∀ax:Value,∀w:World,n w→a1 ax w→Q0 l.1 true w (Q2 P T.k ax) (dk d a6 w)) fun a6=>
      Q5 d (fun ay=> ∀ap:Value,∀a7:Value,∀w:World,n w→a6 ap w→av a7 w→Q0 l.1 true w (indexAddr P T.k ap a7) (dk d ay w)) fun ay=>
      Q5 d (fun a2=> ∀a5:Value,∀w:World,n w→ay a5 w→Q0 l.1 true w (fieldAddr P T.n a5 0) (dk d a2 w)) fun a2=>
      Q5 d (fun b6=> ∀ba:Value,∀w:World,n w→a2 ba w→Q0 l.1 true w (Q2 P T.c ba) (dk d b6 w)) fun b6=>
      Q5 d (fun a8=> ∀ao:Value,∀w:World,n w→a9 ao w→Q0 l.1 true w (Q2 P T.k ao) (dk d a8 w)) fun a8=>
      Q5 d (fun aw=> ∀a3:Value,∀az:Value,∀w:World,n w→a8 a3 w→aq az w→Q0 l.1 true w (indexAddr P T.k a3 az) (dk d aw w)) fun aw=>
      Q5 d (fun a4=> ∀a0:Value,∀w:World,n w→aw a0 w→Q0 l.1 true w (fieldAddr P T.n a0 0) (dk d a4 w)) fun a4=>
      Q5 d (fun ca=> ∀ar:Value,∀w:World,n w→a4 ar w→Q0 l.1 true w (Q2 P T.c ar) (dk d ca w)) fun ca=>
      ∀ax:Value,∀a7:Value,∀ao:Value,∀az:Value,∀ap:Value,∀a5:Value,∀ba:Value,∀cg:Value,∀a3:Value,∀a0:Value,∀ar:Value,∀cf:Value,∀w:World,n w→a1 ax w→av a7 w→a9 ao w→aq az w→a6 ap w→ay a5 w→a2 ba w→b6 cg w→a8 a3 w→aw a0 w→a4 ar w→ca cf w→
      Q0 l.1 true w (Q3 P .neq T.c (.tmp 114) (.tmp 120) cg cf) fun ck w=>
      pick P l.1 ck (.bool false) w fun co w=>
      Q3 P .add T.e (.tmp 105) (.const (.int .i64 1)) l.2 (.int .i64 1) w fun cj w=>
      bf (co,cj) w) (
      Q3 P .add T.e (.tmp 76) (.const (.int .i64 1)) o.2 (.int .i64 1) w fun de w=>
      b0 (l.1,de) w)) (
    lp (α:=Value×Value) (o.1,(.int .i64 0)) w fun L f d_ w=>
     fieldAddr P T.b (.pointer (some q)) 7 w fun bv w=>
     Q2 P T.j bv w fun b1 w=>
     X3 P .len [T.j] T.e [false] [b1] w fun bi w=>
     Q3 P .lss T.e (.tmp 123) (.tmp 126) f.2 bi w fun bu w=>
     X1 bu (
      fieldAddr P T.b (.pointer (some q)) 7 w fun bc w=>
      Q2 P T.j bc w fun be w=>
      indexAddr P T.j be f.2 w fun bj w=>
      Q2 P T.d bj w fun bx w=>
      V8 P T.d w fun t9 w=>
      Y0 P T.d t9 bx w fun _u w=>
      Q0 f.1 true w (Q2 P T.d t9) fun bq w=>
      Q0 f.1 true w (Q1 P F.a4 [bq]) fun bm w=>
      pick P f.1 bm (.bool false) w fun j w=>
      Q0 j true w (fieldAddr P T.d t9 3) fun b5 w=>
      Q0 j true w (Q2 P T.u b5) fun bh w=>
      Q0 j true w (J8 P .not bh) fun bs w=>
      Q0 j true w (fun w J=>J bs w) fun M w=>
      Q0 M false w (fieldAddr P T.b (.pointer (some q)) 4) fun bo w=>
      Q0 M false w (Q2 P T.u bo) fun bd w=>
      Q0 j true w (pick P M (.bool true) bd) fun bn w=>
      pick P j bn (.bool false) w fun k w=>
      Q0 k true w (fieldAddr P T.b (.pointer (some q)) 3) fun b9 w=>
      Q0 k true w (Q2 P T.u b9) fun bg w=>
      Q0 k true w (J8 P .not bg) fun bb w=>
      Q0 k true w (fun w J=>J bb w) fun H w=>
      Q0 H false w (fieldAddr P T.d t9 3) fun b8 w=>
      Q0 H false w (Q2 P T.u b8) fun bw w=>
      Q0 k true w (pick P H (.bool true) bw) fun b2 w=>
      pick P k b2 (.bool false) w fun cb w=>
      lp (α:=Value×Value) (cb,(.int .i64 0)) w fun Q b d_ w=>
       Q3 P .lss T.e (.tmp 158) (.tmp 159) b.2 f.2 w fun b3 w=>
       X1 b3 (
        dr w fun d n=>
        Q5 d (fun A=> ∀w:World,n w→Q0 b.1 true w (fieldAddr P T.b (.pointer (some q)) 7) (dk d A w)) fun A=>
        Q5 d (fun E=> ∀w:World,n w→Q0 b.1 true w (fun w J=>J b.2 w) (dk d E w)) fun E=>
        Q5 d (fun u=> ∀w:World,n w→Q0 b.1 true w (fieldAddr P T.d t9 0) (dk d u w)) fun u=>
        Q5 d (fun r=> ∀s:Value,∀w:World,n w→A s w→Q0 b.1 true w (Q2 P T.j s) (dk d r w)) fun r=>
        Q5 d (fun p=> ∀B:Value,∀D:Value,∀w:World,n w→r B w→E D w→Q0 b.1 true w (indexAddr P T.j B D) (dk d p w)) fun p=>
        Q5 d (fun C=> ∀t:Value,∀w:World,n w→p t w→Q0 b.1 true w (fieldAddr P T.d t 0) (dk d C w)) fun C=>
        Q5 d (fun N=> ∀z:Value,∀w:World,n w→C z w→Q0 b.1 true w (Q2 P T.c z) (dk d N w)) fun N=>
        Q5 d (fun O=> ∀y:Value,∀w:World,n w→u y w→Q0 b.1 true w (Q2 P T.c y) (dk d O w)) fun O=>
        ∀s:Value,∀D:Value,∀y:Value,∀B:Value,∀t:Value,∀z:Value,∀ai:Value,∀ak:Value,∀w:World,n w→A s w→E D w→u y w→r B w→p t w→C z w→N ai w→O ak w→
        Q0 b.1 true w (Q3 P .neq T.c (.tmp 170) (.tmp 172) ai ak) fun bp w=>
        pick P b.1 bp (.bool false) w fun bk w=>
        Q3 P .add T.e (.tmp 161) (.const (.int .i64 1)) b.2 (.int .i64 1) w fun b7 w=>
        Q (bk,b7) w) (
        Q3 P .add T.e (.tmp 128) (.const (.int .i64 1)) f.2 (.int .i64 1) w fun bz w=>
        L (b.1,bz) w)) (
      Q0 f.1 true w (fieldAddr P T.b (.pointer (some q)) 3) fun ag w=>
      Q0 f.1 true w (Q2 P T.u ag) fun af w=>
      Q0 f.1 true w (J8 P .not af) fun V w=>
      Q0 f.1 true w (fun w J=>J V w) fun g w=>
      Q0 g false w (fieldAddr P T.b (.pointer (some q)) 4) fun al w=>
      Q0 g false w (Q2 P T.u al) fun ab w=>
      Q0 g false w (fun w J=>J ab w) fun i w=>
      Q0 i true w (fieldAddr P T.b (.pointer (some q)) 1) fun Z w=>
      Q0 i true w (Q2 P T.c Z) fun ah w=>
      Q0 i true w (Q3 P .eql T.c (.tmp 185) (.const (.string ⟨#[79,98,106,101,99,116]⟩)) ah (.string ⟨#[79,98,106,101,99,116]⟩)) fun ad w=>
      Q0 g false w (pick P i ad (.bool false)) fun Y w=>
      Q0 f.1 true w (pick P g (.bool true) Y) fun R w=>
      pick P f.1 R (.bool false) w fun a w=>
      Q0 a true w (fieldAddr P T.b (.pointer (some q)) 4) fun U w=>
      Q0 a true w (Q2 P T.u U) fun ae w=>
      Q0 a true w (fun w J=>J ae w) fun m w=>
      Q0 m true w (fieldAddr P T.b (.pointer (some q)) 5) fun aa w=>
      Q0 m true w (Q2 P T.u aa) fun W w=>
      Q0 a true w (pick P m W (.bool false)) fun aj w=>
      Q0 a true w (J8 P .not aj) fun ac w=>
      pick P a ac (.bool false) w fun X w=>
      K X w))) f4 g1 fun w2 σ2 an=>
  X2g (J:=fun v w=>lp (α:=Value×Value) (v,(.int .i64 0)) w fun L f d_ w=>
   fieldAddr P T.b (.pointer (some q)) 7 w fun bv w=>
   Q2 P T.j bv w fun b1 w=>
   X3 P .len [T.j] T.e [false] [b1] w fun bi w=>
   Q3 P .lss T.e (.tmp 123) (.tmp 126) f.2 bi w fun bu w=>
   X1 bu (
    fieldAddr P T.b (.pointer (some q)) 7 w fun bc w=>
    Q2 P T.j bc w fun be w=>
    indexAddr P T.j be f.2 w fun bj w=>
    Q2 P T.d bj w fun bx w=>
    V8 P T.d w fun t9 w=>
    Y0 P T.d t9 bx w fun _u w=>
    Q0 f.1 true w (Q2 P T.d t9) fun bq w=>
    Q0 f.1 true w (Q1 P F.a4 [bq]) fun bm w=>
    pick P f.1 bm (.bool false) w fun j w=>
    Q0 j true w (fieldAddr P T.d t9 3) fun b5 w=>
    Q0 j true w (Q2 P T.u b5) fun bh w=>
    Q0 j true w (J8 P .not bh) fun bs w=>
    Q0 j true w (fun w J=>J bs w) fun M w=>
    Q0 M false w (fieldAddr P T.b (.pointer (some q)) 4) fun bo w=>
    Q0 M false w (Q2 P T.u bo) fun bd w=>
    Q0 j true w (pick P M (.bool true) bd) fun bn w=>
    pick P j bn (.bool false) w fun k w=>
    Q0 k true w (fieldAddr P T.b (.pointer (some q)) 3) fun b9 w=>
    Q0 k true w (Q2 P T.u b9) fun bg w=>
    Q0 k true w (J8 P .not bg) fun bb w=>
    Q0 k true w (fun w J=>J bb w) fun H w=>
    Q0 H false w (fieldAddr P T.d t9 3) fun b8 w=>
    Q0 H false w (Q2 P T.u b8) fun bw w=>
    Q0 k true w (pick P H (.bool true) bw) fun b2 w=>
    pick P k b2 (.bool false) w fun cb w=>
    lp (α:=Value×Value) (cb,(.int .i64 0)) w fun Q b d_ w=>
     Q3 P .lss T.e (.tmp 158) (.tmp 159) b.2 f.2 w fun b3 w=>
     X1 b3 (
      dr w fun d n=>
      Q5 d (fun A=> ∀w:World,n w→Q0 b.1 true w (fieldAddr P T.b (.pointer (some q)) 7) (dk d A w)) fun A=>
      Q5 d (fun E=> ∀w:World,n w→Q0 b.1 true w (fun w J=>J b.2 w) (dk d E w)) fun E=>
      Q5 d (fun u=> ∀w:World,n w→Q0 b.1 true w (fieldAddr P T.d t9 0) (dk d u w)) fun u=>
      Q5 d (fun r=> ∀s:Value,∀w:World,n w→A s w→Q0 b.1 true w (Q2 P T.j s) (dk d r w)) fun r=>
      Q5 d (fun p=> ∀B:Value,∀D:Value,∀w:World,n w→r B w→E D w→Q0 b.1 true w (indexAddr P T.j B D) (dk d p w)) fun p=>
      Q5 d (fun C=> ∀t:Value,∀w:World,n w→p t w→Q0 b.1 true w (fieldAddr P T.d t 0) (dk d C w)) fun C=>
      Q5 d (fun N=> ∀z:Value,∀w:World,n w→C z w→Q0 b.1 true w (Q2 P T.c z) (dk d N w)) fun N=>
      Q5 d (fun O=> ∀y:Value,∀w:World,n w→u y w→Q0 b.1 true w (Q2 P T.c y) (dk d O w)) fun O=>
      ∀s:Value,∀D:Value,∀y:Value,∀B:Value,∀t:Value,∀z:Value,∀ai:Value,∀ak:Value,∀w:World,n w→A s w→E D w→u y w→r B w→p t w→C z w→N ai w→O ak w→
      Q0 b.1 true w (Q3 P .neq T.c (.tmp 170) (.tmp 172) ai ak) fun bp w=>
      pick P b.1 bp (.bool false) w fun bk w=>
      Q3 P .add T.e (.tmp 161) (.const (.int .i64 1)) b.2 (.int .i64 1) w fun b7 w=>
      Q (bk,b7) w) (
      Q3 P .add T.e (.tmp 128) (.const (.int .i64 1)) f.2 (.int .i64 1) w fun bz w=>
      L (b.1,bz) w)) (
    Q0 f.1 true w (fieldAddr P T.b (.pointer (some q)) 3) fun ag w=>
    Q0 f.1 true w (Q2 P T.u ag) fun af w=>
    Q0 f.1 true w (J8 P .not af) fun V w=>
    Q0 f.1 true w (fun w J=>J V w) fun g w=>
    Q0 g false w (fieldAddr P T.b (.pointer (some q)) 4) fun al w=>
    Q0 g false w (Q2 P T.u al) fun ab w=>
    Q0 g false w (fun w J=>J ab w) fun i w=>
    Q0 i true w (fieldAddr P T.b (.pointer (some q)) 1) fun Z w=>
    Q0 i true w (Q2 P T.c Z) fun ah w=>
    Q0 i true w (Q3 P .eql T.c (.tmp 185) (.const (.string ⟨#[79,98,106,101,99,116]⟩)) ah (.string ⟨#[79,98,106,101,99,116]⟩)) fun ad w=>
    Q0 g false w (pick P i ad (.bool false)) fun Y w=>
    Q0 f.1 true w (pick P g (.bool true) Y) fun R w=>
    pick P f.1 R (.bool false) w fun a w=>
    Q0 a true w (fieldAddr P T.b (.pointer (some q)) 4) fun U w=>
    Q0 a true w (Q2 P T.u U) fun ae w=>
    Q0 a true w (fun w J=>J ae w) fun m w=>
    Q0 m true w (fieldAddr P T.b (.pointer (some q)) 5) fun aa w=>
    Q0 m true w (Q2 P T.u aa) fun W w=>
    Q0 a true w (pick P m W (.bool false)) fun aj w=>
    Q0 a true w (J8 P .not aj) fun ac w=>
    pick P a ac (.bool false) w fun X w=>
    K X w)) an.sat (hq.up an) (g2.up an) fun w3 σ3 b4=>
  X2s (J:=fun v w=>Q0 v true w (fieldAddr P T.b (.pointer (some q)) 3) fun ag w=>
   Q0 v true w (Q2 P T.u ag) fun af w=>
   Q0 v true w (J8 P .not af) fun V w=>
   Q0 v true w (fun w J=>J V w) fun g w=>
   Q0 g false w (fieldAddr P T.b (.pointer (some q)) 4) fun al w=>
   Q0 g false w (Q2 P T.u al) fun ab w=>
   Q0 g false w (fun w J=>J ab w) fun i w=>
   Q0 i true w (fieldAddr P T.b (.pointer (some q)) 1) fun Z w=>
   Q0 i true w (Q2 P T.c Z) fun ah w=>
   Q0 i true w (Q3 P .eql T.c (.tmp 185) (.const (.string ⟨#[79,98,106,101,99,116]⟩)) ah (.string ⟨#[79,98,106,101,99,116]⟩)) fun ad w=>
   Q0 g false w (pick P i ad (.bool false)) fun Y w=>
   Q0 v true w (pick P g (.bool true) Y) fun R w=>
   pick P v R (.bool false) w fun a w=>
   Q0 a true w (fieldAddr P T.b (.pointer (some q)) 4) fun U w=>
   Q0 a true w (Q2 P T.u U) fun ae w=>
   Q0 a true w (fun w J=>J ae w) fun m w=>
   Q0 m true w (fieldAddr P T.b (.pointer (some q)) 5) fun aa w=>
   Q0 m true w (Q2 P T.u aa) fun W w=>
   Q0 a true w (pick P m W (.bool false)) fun aj w=>
   Q0 a true w (J8 P .not aj) fun ac w=>
   pick P a ac (.bool false) w fun X w=>
   K X w) b4.sat ((hq.up an).up b4) ((g3.up an).up b4) fun w4 σ4 ch=>
  X2o (K:=K) ch.sat (((hq.up an).up b4).up ch) (by rw[e];exact h _ _ (br.trans (an.trans (b4.trans ch))))
 (repeat refine Hd.h ?_)
 refine ld cc hq rfl ?_
 refine Yj c.name ct ?_
 cases d1:M7 c.name with
 | false=>(repeat refine Hd.h ?_);exact ci false (by rw[d1];rfl)
 | true=>
  (repeat refine Hd.h ?_)
  refine ld cc hq rfl ?_
  (repeat refine Hd.h ?_)
  refine Yj c.super c0 ?_
  cases d2:M7 c.super with
  | false=>(repeat refine Hd.h ?_);exact ci false (by rw[d1,d2];rfl)
  | true=>
   (repeat refine Hd.h ?_)
   refine ld cc hq rfl ?_
   (repeat refine Hd.h ?_)
   refine ld cc hq rfl ?_
   (repeat refine Hd.h ?_)
   refine Ja ?_
   (repeat refine Hd.h ?_)
   exact ci _ (by rw[d1,d2];rfl))
theorem Q42 {c:Cla} {cs:List Value} (r:X2 w σ) (d:V0 σ c cs) (h: ∀w' m,Stp w σ w' m→K (I (D6 c)) w'):Q1 P F.bq [.agg cs.toArray] w K:=Kl (by
 unfold Lx
 have g:=Rep.one (R:=V0) d
 obtain ⟨p,k,mv,rfl,o,n,l,t,s⟩:=d
 have d:V0 σ c _:=⟨p,k,mv,rfl,o,n,l,t,s⟩
 refine Y9 r fun q w1 σ1 b j=>?_
 unfold D6 at h
 refine Y5 b.sat j rfl ?_
 refine X0U b.sat (RCl_lift d ⟨b.le⟩) fun y z a=>?_
 cases i:Zx c with
 | true=>simp only[i,if_true] at h;(try simp only[↓M1,M1,Mb,reduceIte]);exact h _ _ (b.trans a)
 | false=>
  simp only[i,Bool.false_eq_true,if_false] at h
  (try simp only[↓M1,M1,Mb,reduceIte])
  refine Y5 a.sat (j.up a) rfl ?_
  refine Q9K a.sat (RCl_lift d ⟨(b.trans a).le⟩) fun v u e=>?_
  rw[X0z]
  cases f:Mu c with
  | true=>simp only[f,if_true] at h;(try simp only[↓M1,M1,Mb,reduceIte]);exact h _ _ (b.trans (a.trans e))
  | false=>simp only[f,Bool.false_eq_true,if_false] at h;(try simp only[↓M1,M1,Mb,reduceIte]);exact h _ _ (b.trans (a.trans e)))
end Go.Proofs.YtjdiakhipmggjaaGreatDoor

namespace Go.Hm
open Go.Kd
structure Alike (l m : List Cla) : Prop where
  lk : lk l = lk m
  len : l.length = m.length
  weigh : weigh l [] = weigh m []
section
variable {l m : List Cla} (h : Alike l m)
include h
end
theorem X2p {l:List Cla} {frm:Nat}: ∀(f:Nat) (a:List Nat) (i:Nat),∀y∈A8 l frm f a i,y∈a∨frm≤y:=by
 intro f
 induction f with
 | zero=>intro a i y hy;exact .inl hy
 | succ f c=>
  intro a i y hy
  simp only[A8] at hy
  split at hy
  ·exact .inl hy
  ·split at hy
   ·exact .inl hy
   ·rename_i e _
    rcases List.mem_append.1 hy with hy | hy
    ·exact Lj (p:=fun y=>frm≤y) _ _ (fun b x _ z d=>c b _ z d) y hy
    ·simp at hy;omega
theorem X0x {a:List Cla} (i:T7 a): ∀j∈W0 a 8,8≤j∧j<a.length:=by
 intro j d
 unfold W0 at d
 have f:=Lj (p:=fun y=>8≤y) _ _ (fun b x _ z c=>X2p _ b x z c) j d
 have e:=Lj (p:=fun y=>y<a.length) _ _ (fun b x g z c=>(Q6x i (by omega) _ b x (by
  have:=List.mem_of_mem_drop g
  simpa using this) z c).imp id (·.1)) j d
 exact ⟨f.resolve_left (by simp),e.resolve_left (by simp)⟩
end Go.Hm
namespace Go.Proofs.YtjdiakhipmggjaaGreatDoor
open Go.Emb Go.RowKit Go.Kd Go.Hm
end Go.Proofs.YtjdiakhipmggjaaGreatDoor
