/- Parts of a proof about the given program: its functions as texts of their own, what each computes, plain laws of that. The conditions of each stand in its statement. -/
import Derived.Test.YtjdiakhipmggjaaGreatDoorB4
import Derived.Laws.OwnMore
import Derived.Laws.CopyRow
import Derived.Test.YtjdiakhipmggjaaGreatDoorB3
import Derived.Lib.TrimUEq
set_option linter.unnecessarySimpa false
set_option linter.defProp false
set_option linter.unusedSectionVars false
set_option linter.unusedVariables false
set_option linter.unusedSimpArgs false
namespace Go.Proofs.YtjdiakhipmggjaaGreatDoor
open Go.Emb Go.RowKit Go.Kd Go.Hm
variable {w w' : World} {K : Value → World → Prop} {σ σ' : Q6} {hp tv : Value} {room : Int} {cs : List Cel} {l : List Cla}
theorem X0m (j:X3 w σ) (u:Glb σ) (hh:R0 σ hp tv room cs) (m:Tab σ tv l) (ok:Ok l) {v:Val} {k:X0} (t:v.s.length≤U2) (r:k.length≤U2) (h: ∀w' σ',Stp w σ w' σ'→K (.bool (F4 W7 l cs v k)) w'):Q1 P F.aB [hp, .agg [I v.sort,I v.n,S v.s,I v.ref].toArray,S k] w K:=Q1m (by
 unfold Er
 refine Z1 j fun q w1 σ1 c o=>?_
 refine Y4 c.sat o rfl ?_
 refine X4D c.sat (u.lift ⟨c.le⟩) (hh.lift ⟨c.le⟩) t fun z A g=>?_
 have b:=c.trans g
 refine Jh ?_
 unfold F4 at h
 have d:=X20 hh v
 generalize P8 W7 cs v=p at*
 by_cases e:p=[]
 ·rw[decide_eq_true e] at h⊢
  (try simp only[↓M1,M1,Mb,reduceIte])
  exact h _ _ b
 ·rw[decide_eq_false e] at h⊢
  obtain ⟨a,B,rfl,i,D⟩:=hh
  (try simp only[↓M1,M1,Mb,reduceIte])
  refine ld b.sat (i.lift ⟨b.le⟩) rfl ?_
  refine X4k b.sat (m.lift ⟨b.le⟩) ok d r fun y C f=>?_
  (try simp only[↓M1,M1,Mb,reduceIte])
  exact h _ _ (b.trans f))
theorem X0j (u:X3 w σ) (hh:R0 σ hp tv room cs) (z:Tab σ tv l) (ok:Ok l) {k:X0} {n:Value} {i:Nat} (B:k.length≤U2) (M:n.cells= #[n]∧n.oneCell'=true) (o:elem k=[]→i<(Y6 l k).length)
 (h: ∀w' σ',Stp w σ w' σ'→K (S (Xl l k i)) w'):Q1 P F.aC [hp, .agg [S k,n].toArray,I i] w K:=Q1p (by
 unfold Hf
 refine Z1 u fun q w1 σ1 b s=>?_
 (try simp only[↓M1,M1,Mb,reduceIte])
 refine X7 b.sat s rfl ?_
 refine Q5l k (Nat.le_trans B (by decide)) fun H p=>?_
 have d:=Stp.of_below b.sat p
 have c:=b.trans d
 refine Jh ?_
 unfold Xl at h
 by_cases e:elem k=[]
 ·simp only[if_pos e] at h
  rw[decide_eq_true e]
  (try simp only[↓M1,M1,Mb,reduceIte])
  obtain ⟨a,N,rfl,t,Q⟩:=hh
  have r:=d.sat
  have D:=s.up d
  have v:=t.lift ⟨c.le⟩
  refine U0 r ?_
  (repeat refine Z9 Qa ?_)
  (intros;(repeat (rename_i A;subst A));(try simp only[↓M2,M2,Mb,reduceIte]))
  rename_i E f
  have j:=c.trans f.stp
  refine Tg f.sat (z.lift ⟨j.le⟩) ok.acy ok.len ok.sm fun L O J g m=>?_
  refine Y1 m (o e) ?_
  obtain ⟨y,_⟩:=m.elF (o e)
  (try simp only[↓M1,M1,Mb,reduceIte])
  refine ld g.sat y rfl ?_
  have C:(Y6 l k).getD i Fld.zero=(Y6 l k)[i]'(o e):=by rw[List.getD_eq_getElem?_getD,List.getElem?_eq_getElem (o e)];rfl
  rw[C] at h
  exact h _ _ (j.trans g)
 ·simp only[if_neg e] at h
  rw[decide_eq_false e]
  (try simp only[↓M1,M1,Mb,reduceIte])
  exact h _ _ c)
set_option maxHeartbeats 1000000 in
theorem Q4i {w1:World} {q:Addr} {c:Cel} {vv:Value} (hk1:Stp w σ w1 σ') (hg:Glb σ) (hh:R0 σ hp tv room cs) (ht:Tab σ tv l) (ok:Ok l) (hq:Z6 σ' q [S c.kind,vv]) (hv1:Sl 4 O3 σ' vv c.vals) (hkl:c.kind.length≤U2) (hfk: ∀i,(Xl l c.kind i).length≤U2) (good:GoodC W7 l cs c) (h: ∀w' σ',Stp w σ w' σ'→K (.bool true) w'):
 lp (α:=Value) (.int .i64 0) w1 fun again6 x6 d_ w=>
  Q3 P .lss T.e (.tmp 38) (.tmp 37) x6 (I c.vals.length) w fun t39 w=>
  X1 t39 (
   indexAddr P T.l vv x6 w fun t41 w=>
   Q2 P T.g t41 w fun t42 w=>
   V6 P T.g w fun v_v_6 w=>
   X9 P T.g v_v_6 t42 w fun _u w=>
   dr w fun Tr Br=>
   Q5 Tr (fun φ44=> ∀w,Br w→Q2 P T.g v_v_6 w (dk Tr φ44 w)) fun φ44=>
   Q5 Tr (fun φ46=> ∀w,Br w→Q2 P T.m (.pointer (some q)) w (dk Tr φ46 w)) fun φ46=>
   Q5 Tr (fun φ48=> ∀t46 w,Br w→φ46 t46 w→Q1 P F.aC [hp,t46,x6] w (dk Tr φ48 w)) fun φ48=>
   ∀t44 t46 t48 w,Br w→φ44 t44 w→φ46 t46 w→φ48 t48 w→
   Q1 P F.aB [hp,t44,t48] w fun t49 w=>
   J8 P .not t49 w fun t50 w=>
   X1 t50 (
    K (.bool false) w) (
    Q3 P .add T.e (.tmp 38) (.const (.int .i64 1)) x6 (.int .i64 1) w fun t51 w=>
    again6 t51 w)) (
   dr w fun Tr Br=>
   Q5 Tr (fun φ53=> ∀w,Br w→nilCheck P hp w (dk Tr φ53 w)) fun φ53=>
   Q5 Tr (fun φ54=> ∀t53 w,Br w→φ53 t53 w→fieldAddr P T.p t53 0 w (dk Tr φ54 w)) fun φ54=>
   Q5 Tr (fun φ56=> ∀w,Br w→fieldAddr P T.m (.pointer (some q)) 0 w (dk Tr φ56 w)) fun φ56=>
   Q5 Tr (fun φ55=> ∀t54 w,Br w→φ54 t54 w→Q2 P T.r t54 w (dk Tr φ55 w)) fun φ55=>
   Q5 Tr (fun φ57=> ∀t56 w,Br w→φ56 t56 w→Q2 P T.c t56 w (dk Tr φ57 w)) fun φ57=>
   ∀t53 t54 t56 t55 t57 w,Br w→φ53 t53 w→φ54 t54 w→φ56 t56 w→φ55 t55 w→φ57 t57 w→
   Q1 P F.s [t55,t57] w fun t58 w=>
   K t58 w):=by
 have hone:vv.cells= #[vv]∧vv.oneCell'=true:=by obtain ⟨a,c,rfl,_⟩:=hv1;exact ⟨rfl,rfl⟩
 refine U3 c.vals.length (fun n w'=> ∃σ2,Stp w σ w' σ2∧SLe σ' σ2) ⟨σ',hk1,SLe.refl _⟩ fun n w2 d hn hinv=>?_
 obtain ⟨σ2,hS2,le2⟩:=hinv
 have hv2:=hv1.lift le2
 have hq2:=hq.lift le2
 have hh2:=hh.lift ⟨hS2.le⟩
 have ht2:=ht.lift ⟨hS2.le⟩
 refine Y9 ?_
 refine Q7 (fun hc=>?_) (fun hc=>?_)
 ·have hn':n<c.vals.length:=by simpa using hc
  obtain ⟨p1,r1⟩:=Sl.elV hv2 hn'
  refine Y1 hv2 hn' ?_
  refine Y4 hS2.sat p1 rfl ?_
  refine Y8 hS2.sat (by rfl) rfl (Rep.one r1) fun q3 w3 σ3 hk3 hq3=>?_
  have hS3:=hS2.trans hk3
  have hs3:=hk3.sat
  have hq23:=hq2.up hk3
  have hh3:=hh2.lift ⟨hk3.le⟩
  have ht3:=ht2.lift ⟨hk3.le⟩
  have hif:elem c.kind=[]→n<(Y6 l c.kind).length:=fun e=>by
   rcases good.is with h | h
   ·exact absurd e h
   ·rw[←h.2];exact hn'
  refine U0 hs3 ?_
  (repeat (apply Z9;(· intros;(repeat (rename_i hx;subst hx));(repeat' (first | (with_reducible exact L7 rfl) | (with_reducible exact R9 (Stp.bel (by (repeat (first | exact Stp.refl (by (first | assumption | exact Stp.sat (by assumption) | exact Hst.sat (by assumption))) | assumption | refine Stp.trans ?_ (by first | assumption | exact Hst.stp (by assumption)))))) rfl) | (with_reducible intro _) | (simp only[↓M2,M2,Mb,reduceIte]) | (with_reducible show Q2 _ _ _ _ _;first | refine X7 aS aL aR ?_ | refine Y4 aS aL aR ?_ | refine ld aS aL aR ?_) | (with_reducible show indexAddr _ _ _ _ _ _;refine Y1 aL au ?_) | (with_reducible show X2 _ _ _ _ _ _ _ _;refine Q8 aL ?_) | (with_reducible show B7 _ _ _ _ _ _;refine J3 aR ?_) | (with_reducible show pick _ _ _ _ _ _;refine M3 ?_) | (with_reducible show Q1 _ _ _ _ _;first | refine X0j au au au au au au au ?_) | (apply B8;intro hh;(try simp only[hh,reduceIte,↓M2,M2,Mb,reduceIte]))));done)))
  (intros;(repeat (rename_i hx;subst hx));(try simp only[↓M2,M2,Mb,reduceIte]))
  rename_i w4 hb4
  have hS4:=hS3.trans hb4.stp
  refine X0m hb4.sat (hg.lift ⟨hS4.le⟩) (hh.lift ⟨hS4.le⟩) (ht.lift ⟨hS4.le⟩) ok r1.2.2.2.1 (hfk n) fun w5 σ5 hk5=>?_
  rw[good.fits n hn']
  (try simp only[↓M1,M1,Mb,reduceIte])
  exact Y5 hv1.max hn' ⟨σ5,hS4.trans hk5,le2.more ⟨(hk3.trans (hb4.stp.trans hk5)).le⟩⟩
 ·obtain ⟨a,lv,rfl,la,ls⟩:=hh2
  have hs2:=hS2.sat
  refine U0 hs2 ?_
  (repeat refine Z9 Qa ?_)
  (intros;(repeat (rename_i hx;subst hx));(try simp only[↓M2,M2,Mb,reduceIte]))
  rename_i w3 hb3
  refine Q1n hb3.sat ht2 hkl fun w4 σ4 hk4=>?_
  rw[good.kd]
  exact h _ _ ((hS2.trans hb3.stp).trans hk4)
set_option maxHeartbeats 1000000 in
theorem X0y (hs:X3 w σ) (hg:Glb σ) (hh:R0 σ hp tv room cs) (ht:Tab σ tv l) (ok:Ok l) {c:Cel} {ds:List Value} (hc:E4 σ c ds) (hfk: ∀i,(Xl l c.kind i).length≤U2) (good:GoodC W7 l cs c) (h: ∀w' σ',Stp w σ w' σ'→K (.bool true) w'):Q1 P F.bC [hp, .agg ds.toArray] w K:=Q0i (by
 obtain ⟨vv,rfl,hvv,hkl⟩:=hc
 have hone:vv.cells= #[vv]∧vv.oneCell'=true:=by obtain ⟨a,c,rfl,_⟩:=hvv;exact ⟨rfl,rfl⟩
 have hh0:=hh
 obtain ⟨a,lv,rfl,la,ls⟩:=hh
 unfold Dl
 refine Z1 hs fun q w1 σ1 hk1 hq=>?_
 have hs1:=hk1.sat
 have la1:=la.lift ⟨hk1.le⟩
 have ht1:=ht.lift ⟨hk1.le⟩
 have hv1:=hvv.up hk1
 have hkl':c.kind.length≤140737488355328:=Nat.le_trans hkl (by decide)
 have acy:=ok.acy
 have olen:=ok.len
 have osm:=ok.sm
 refine U0 hs1 ?_
 (repeat (apply Z9;(· intros;(repeat (rename_i hx;subst hx));(repeat' (first | (with_reducible exact L7 rfl) | (with_reducible exact R9 (Stp.bel (by (repeat (first | exact Stp.refl (by (first | assumption | exact Stp.sat (by assumption) | exact Hst.sat (by assumption))) | assumption | refine Stp.trans ?_ (by first | assumption | exact Hst.stp (by assumption)))))) rfl) | (with_reducible intro _) | (simp only[↓M2,M2,Mb,reduceIte]) | (with_reducible show Q2 _ _ _ _ _;first | refine X7 aS aL aR ?_ | refine Y4 aS aL aR ?_ | refine ld aS aL aR ?_) | (with_reducible show indexAddr _ _ _ _ _ _;refine Y1 aL au ?_) | (with_reducible show X2 _ _ _ _ _ _ _ _;refine Q8 aL ?_) | (with_reducible show B7 _ _ _ _ _ _;refine J3 aR ?_) | (with_reducible show pick _ _ _ _ _ _;refine M3 ?_) | (with_reducible show Q1 _ _ _ _ _;first | refine Q5l _ au (W8 aS ?_)) | (apply B8;intro hh;(try simp only[hh,reduceIte,↓M2,M2,Mb,reduceIte]))));done)))
 by_cases e:elem c.kind=[]
 ·have hd:decide (elem c.kind=[])=true:=decide_eq_true e
  obtain ⟨hobj,hlen⟩:A9 l c.kind=true∧c.vals.length=(Y6 l c.kind).length:=by
   rcases good.is with h | h
   ·exact absurd e h
   ·exact h
  simp only[hd,reduceIte]
  (repeat (apply Z9;(· intros;(repeat (rename_i hx;subst hx));(repeat' (first | (with_reducible exact L7 rfl) | (with_reducible exact R9 (Stp.bel (by (repeat (first | exact Stp.refl (by (first | assumption | exact Stp.sat (by assumption) | exact Hst.sat (by assumption))) | assumption | refine Stp.trans ?_ (by first | assumption | exact Hst.stp (by assumption)))))) rfl) | (with_reducible intro _) | (simp only[↓M2,M2,Mb,reduceIte]) | (with_reducible show Q2 _ _ _ _ _;first | refine X7 aS aL aR ?_ | refine Y4 aS aL aR ?_ | refine ld aS aL aR ?_) | (with_reducible show indexAddr _ _ _ _ _ _;refine Y1 aL au ?_) | (with_reducible show X2 _ _ _ _ _ _ _ _;refine Q8 aL ?_) | (with_reducible show B7 _ _ _ _ _ _;refine J3 aR ?_) | (with_reducible show pick _ _ _ _ _ _;refine M3 ?_) | (with_reducible show Q1 _ _ _ _ _;first | refine Q4S au au ?_) | (apply B8;intro hh;(try simp only[hh,reduceIte,↓M2,M2,Mb,reduceIte]))));done)))
  simp only[hobj,Bool.not_true,reduceIte]
  (repeat refine Z9 Qa ?_)
  refine Uv (w:=w1) (σ:=σ1) (Φ:=fun σ' v=>Sl 3 S5 σ' v (Y6 l c.kind)) (fun t20 t27 t29 w hb e1 e2 e3=>?_) ?_
  ·subst e1;subst e2;subst e3
   simp only[↓M2,M2,Mb,reduceIte]
   exact Tg hb.sat ht1 acy olen osm fun v' w' σ' hk hv'=>Hr hb hk hv'
  refine Z9 (V:=I (Y6 l c.kind).length) (fun t20 t30 w hb e1 e2=>?_) ?_
  ·subst e1
   obtain ⟨σ',hk,hv'⟩:=e2
   simp only[↓M2,M2,Mb,reduceIte]
   exact Q8 hv' (L7 rfl)
  rintro t7 t8 t9 t10 t12 t13 t14 t16 t15 t17 t18 t19 t20 t21 t24 t25 t26 t28 t22 t23 t27 t29 t30 t31 w2 hb2 rfl rfl rfl rfl rfl rfl rfl rfl rfl rfl rfl rfl rfl rfl rfl rfl rfl rfl rfl rfl rfl rfl _ rfl
  rw[hlen]
  simp only[O7,E1,S6,W5,W9]
  refine Za ?_
  rw[decide_eq_true (show ((Y6 l c.kind).length:Int)=(Y6 l c.kind).length from rfl)]
  simp only[Bool.not_true,L1,M8,M7]
  refine W3 ?_
  refine ld hb2.sat hq rfl ?_
  refine Q8 hv1 ?_
  exact Q4i (hk1.trans hb2.stp) hg hh0 ht ok hq hv1 hkl hfk good h
 ·have hd:decide (elem c.kind=[])=false:=decide_eq_false e
  simp only[hd,Bool.false_eq_true,reduceIte]
  (repeat refine Z9 Qa ?_)
  (intros;(repeat (rename_i hx;subst hx)))
  rename_i w2 hb2
  simp only[O7,E1,S6,W5,W9,L1,M8,M7]
  refine W3 ?_
  refine ld hb2.sat hq rfl ?_
  refine Q8 hv1 ?_
  exact Q4i (hk1.trans hb2.stp) hg hh0 ht ok hq hv1 hkl hfk good h)
end Go.Proofs.YtjdiakhipmggjaaGreatDoor

namespace Go.Emb
open Go.RowKit Go.Hm
variable {P : Program} {w w0 w1 w' w'' : World} {K : Value → World → Prop} {σ σ0 σ1 σ' : Q6}
theorem Q5a (a:Array Value) (n i:Nat) (c:i<n) (g:0<a.size):((madeCells a (n*a.size)).toList.drop (i*a.size)).take a.size=a.toList:=by
 have d:i*a.size+a.size≤n*a.size:=by rw[←Nat.succ_mul];exact Nat.mul_le_mul_right _ c
 refine List.ext_getElem (by simp[madeCells];omega) fun j f e=>?_
 have b:j<a.size:=by simpa using e
 simp only[List.getElem_take,List.getElem_drop,madeCells,Array.toList_map,List.getElem_map,Array.toList_range,List.getElem_range,Array.getElem_toList]
 have:(i*a.size+j) % a.size=j:=by rw[Nat.add_comm,Nat.add_mul_mod_self_right];exact Nat.mod_eq_of_lt b
 rw[this]
 simp[b]
theorem Q9j {α:Type} {R:Q6→α→List Value→Prop} {t e:TypeId} {sz a n:Nat} {z:Value} [ts:TS P t e] [tz:TZ P e sz a z] (x0:α) (r:X3 w σ) (u:z.cells.size=sz) (c:0<sz) (y:R σ x0 z.cells.toList) (D:n*sz≤16777216) (C:a*n≤281474976710656)
 (h: ∀v w',Stp w σ w' σ→V7 w.heap.size e sz R σ w' v (List.replicate n x0)→(∀k,v.ownBlock=some k→w.heap.size≤k)→K v w'):Li P t (I n) (I n) w K:=by
 obtain ⟨i,B,d,g,b⟩:=tz.info
 have q:(i.bytes:Int)*(n:Int)≤281474976710656:=by
  rw[g]
  have:((a*n:Nat):Int)≤281474976710656:=by omega
  rwa [Int.natCast_mul] at this
 have A:n≤16777216:=by
  have:n*1≤n*sz:=Nat.mul_le_mul_left _ c
  omega
 have m:=run_makeSlice (P:=P) w t e i z ts.h B b .i64 .i64 (n:Int) (n:Int) (by omega) (Int.le_refl _) (by rw[d];simp only[Int.toNat_natCast];omega) q (by omega)
 unfold Li
 rw[Y0 m]
 simp only[Int.toNat_natCast,d]
 refine h _ _ (Stp.own r _) ⟨(madeCells z.cells (n*sz)).toList,⟨by simp[madeCells], .inr ⟨w.heap.size,n,madeCells z.cells (n*sz),?_,Nat.le_refl _,heap_alloc_new w _,?_,?_,?_,?_⟩⟩,?_,fun j x f=>?_⟩ ?_
 ·simp
 ·simp
 ·simp[maxLen];omega
 ·simp[madeCells]
 ·rw[List.take_of_length_le (by simp[madeCells])]
 ·intro k o;cases o;exact r.none (Nat.le_refl _)
 ·have s:j<n:=by have:=(List.getElem?_eq_some_iff.1 f).1;simpa using this
  have p:x=x0:=by
   rw[List.getElem?_replicate] at f
   rw[if_pos s] at f
   exact (Option.some.inj f).symm
  subst p
  subst u
  rw[Q5a z.cells n j s c]
  exact y
 ·intro k o;cases o;exact Nat.le_refl _
theorem Q4Z (w:World) (p u q elem:TypeId) (sz g o n d:Nat) (a:Addr) (e:Nat) (b:Array Value) (t:TypeId) (cs:List Value)
 (s:P.underlying p=some (.slice elem)) (m:(P.info? elem).map (·.size)=some sz)
 (B:w.heap[g]? =some (.cells b t (0,0))) (A:cs.length=n*sz)
 (c: ∀j v,cs[j]? =some v→w.cell? (a.add j)=some v) (f:o+cs.length≤b.size) (r: ∀v∈cs,v.oneCell'=true):
 (Builtin.copy_ #[p,u] q #[.slice (some ⟨g,o,none⟩) n d, .slice (some a) n e]).run P w=
  .ok (goInt n) (w.setRow g (b.toList.take o++cs++b.toList.drop (o+cs.length)).toArray):=by
 have y:=run_loadCells_list (P:=P) w a cs c
 have k:=run_storeCells_at P g o t cs 0 b w B (by simpa using f) r
 cases h:P.info? elem with
 | none=>simp[h] at m
 | some i=>
  have z:i.size=sz:=by simpa [h] using m
  simp[Builtin.copy_,run_underlying s,Builtin.lenOf,Builtin.firstCells,sizeOf,typeInfo,h,z,←A,y,k]
theorem Q59 (w:World) (f k g elem:TypeId) (sz:Nat) (d a:Option Addr) (c b:Nat) (h:P.underlying f=some (.slice elem)) (j:(P.info? elem).map (·.size)=some sz):
 (Builtin.copy_ #[f,k] g #[.slice d 0 c, .slice a 0 b]).run P w= .ok (goInt 0) w:=by
 cases e:P.info? elem with
 | none=>simp[e] at j
 | some i=>
  have m: ∀(x:Addr),(loadCells x 0).run P w= .ok #[] w:=fun x=>by simpa using run_loadCells_list (P:=P) w x [] (by simp)
  cases d<;>cases a<;>simp[Builtin.copy_,run_underlying h,Builtin.lenOf,Builtin.firstCells,sizeOf,typeInfo,e,storeCells,m]
end Go.Emb
namespace Go.Proofs.YtjdiakhipmggjaaGreatDoor
open Go.Emb Go.RowKit Go.Kd Go.Hm
variable {w w' : World} {K : Value → World → Prop} {σ σ' : Q6} {hp tv : Value} {room : Int} {cs : List Cel} {l : List Cla}
theorem Q2L (ok:Ok l) {k:X0} (d:k.length≤U2) (i:Nat):(Xl l k i).length≤U2:=by
 unfold Xl
 split
 ·cases h:(Y6 l k)[i]? with
  | none=>rw[List.getD_eq_getElem?_getD,h];exact Nat.zero_le _
  | some f=>
   rw[List.getD_eq_getElem?_getD,h]
   have a:=List.mem_of_getElem? h
   unfold Y6 at a
   obtain ⟨c,b,a⟩:=List.mem_flatMap.1 a
   have:=((ok.nm c (Bf (by simpa using b))).2.1 f a).2
   exact Nat.le_trans this (by decide)
 ·unfold elem
  split
  ·unfold Kd.cutA;rw[List.length_take];omega
  ·exact Nat.zero_le _
theorem X2j (u:X3 w σ) (D:Glb σ) (hh:R0 σ hp tv room cs) (v:Tab σ tv l) (ok:Ok l) (g: ∀c∈cs,GoodC W7 l cs c) (h: ∀w' σ',Stp w σ w' σ'→K (.bool true) w'):Q1 P F.bz [hp] w K:=Az (by
 unfold Dn
 have n:=hh
 obtain ⟨a,J,rfl,t,C⟩:=hh
 refine U6 u rfl fun q w1 σ1 b r=>?_
 refine X7 b.sat r rfl ?_
 rw[L8,fa]
 refine ld b.sat (t.lift ⟨b.le⟩) rfl ?_
 rw[Qi]
 refine Bb (fun _=>false) b.sat (C.up b) (fun c ds y K A k s f z=>Z8 (first:=[]) (caps:=[.pointer (some q)]) (Gr ?_)) fun y p=>?_
 ·unfold Ld
  refine Z1 k fun M E B d o=>?_
  refine X7 d.sat (r.up d) rfl ?_
  refine Y4 d.sat o f ?_
  have e:SLe σ B:=SLe.more ⟨b.le⟩ ⟨d.le⟩
  refine X0y d.sat (D.lift e) (n.lift e) (v.lift e) ok (X0k s ⟨d.le⟩) (fun i=>Q2L ok (by obtain ⟨_,_,_,h⟩:=s;exact h) i) (g c A) fun L H m=>?_
  refine Jj ?_
  exact z _ (d.trans m).bel
 ·have j:=b.trans (Stp.of_below b.sat p)
  have:cs.any (fun _=>false)=false:=by simp
  rw[this]
  refine Jj ?_
  exact h _ _ j)
theorem Q9M {B:Nat} {D:Nat→Prop} {m v:Value} {vals:List Val} {k:X0} {ty:TypeId} {cb:List Bool} {A:Value→Value→World→Prop} (hs:X3 w σ) (hB:B≤w.heap.size) (h:RowsIs B D σ w m cs) (U:J9 B T.g 4 O3 σ w v vals) (hd: ∀j,v.ownBlock=some j→ ¬D j) (hk:k.length≤U2) (hl:cs.length≤10000000)
 (hh: ∀s d w' σ' D',Nxt (fun j=>m.ownBlock=some j) w σ w' σ'→(∀j,m.ownBlock=some j→D j)→RowsIs B D' σ' w' d (cs++[⟨k,vals⟩])→(∀j,D' j→D j∨v.ownBlock=some j∨w.heap.size≤j)→(∀j,D j→m.ownBlock≠some j→D' j)→A s d w'):
 buildSlice P T.f 1 [(0, .agg #[S k,v])] w (fun s w=>X2 P .append [T.f,T.f] ty cb [m,s] w (fun v' w=>A s v' w)):=by
 obtain ⟨vs,hq,o,ha,hD⟩:=h.ex
 obtain ⟨a,W,z,_⟩:=(id U:J9 B T.g 4 O3 σ w v vals)
 have ah:v.cells= #[v]:=by rw[z];rfl
 refine T4 (R:=Q3Z) (sz:=2) hs [.agg #[S k,v]] [(k,v)] rfl rfl (by simp[Value.cells]) rfl ⟨(⟨rfl,hk,a,_,W,z⟩:Q3Z σ (k,v) [S k,v]),trivial⟩ fun s w1 σ1 c L=>?_
 refine Q8b c.sat (Nat.le_trans hB c.bel.size) (hq.up c) L rfl (by rw[Du o.1];simp;omega) (by rw[Du o.1];simp;omega) fun d H O N Y V=>?_
 have g: ∀j,m.ownBlock=some j→D j:=fun j b=>(hD j).2 ⟨m,by simp,b⟩
 have J:Nxt (fun j=>m.ownBlock=some j) w σ H σ1:=
  ⟨(Kpt.of_below c.bel).trans (O.mono fun j _ b=>b.1),⟨c.le⟩,c.old,N⟩
 have t: ∀j,v.ownBlock=some j→m.ownBlock≠some j:=fun j b e=>hd j b (g j e)
 have f: ∀j,d.ownBlock=some j→m.ownBlock=some j∨w1.heap.size≤j:=fun j b=>by
  rcases V with ⟨a',ab,e1,e2⟩ | ⟨_,hn⟩
  ·left;rw[e1];rw[e2] at b;cases a'<;>exact b
  ·exact .inr (hn j b)
 obtain ⟨y,M⟩:=List.pairwise_cons.1 ha
 have E: ∀i (p:i<vs.length) (q:i<cs.length),J9 B T.g 4 O3 σ1 H vs[i] cs[i].vals:=fun i p q=>(o.2 i p q).nx J fun j b e=>y _ (List.getElem_mem p) j e b
 have Q:J9 B T.g 4 O3 σ1 H v vals:=U.nx J fun j b e=>t j b e
 have X: ∀u∈vs,∀j,u.ownBlock=some j→j<w.heap.size:=fun u hu j b=>by
  obtain ⟨i,p,rfl⟩:=List.getElem_of_mem hu
  exact ((o.2 i p (by rw[←o.1];exact p)).mem b).2.1
 refine hh s d H σ1 (fun j=> ∃u∈d::(vs++[v]),u.ownBlock=some j) J g ⟨vs++[v],?_,⟨by simp[o.1],fun i p q=>?_⟩,?_,fun j=>Iff.rfl⟩ ?_ ?_
 ·have e:Xa (vs++[v]) (cs++[⟨k,vals⟩])=Xa vs cs++[(k,v)]:=by
   unfold Xa
   rw[List.zipWith_append o.1];rfl
  rw[e];exact Y
 ·by_cases n:i<vs.length
  ·have r:i<cs.length:=by rw[←o.1];exact n
   rw[List.getElem_append_left n,List.getElem_append_left r]
   exact E i n r
  ·have r: ¬i<cs.length:=by rw[←o.1];exact n
   have e1:i=vs.length:=by simp at p;omega
   rw[List.getElem_append_right (by omega),List.getElem_append_right (by omega)]
   simp only[List.getElem_singleton]
   exact Q
 ·refine List.pairwise_cons.2 ⟨fun u hu j b e=>?_,List.pairwise_append.2 ⟨M,List.pairwise_singleton _ _,fun u hu u2 C j b e=>?_⟩⟩
  ·rcases List.mem_append.1 hu with hu | hu
   ·rcases f j b with h1 | h1
    ·exact y u hu j h1 e
    ·have:=X u hu j e;have:=c.bel.size;omega
   ·simp at hu;subst hu
    rcases f j b with h1 | h1
    ·exact t j e h1
    ·have:=(U.mem e).2.1;have:=c.bel.size;omega
  ·simp at C;subst C
   exact hd j e ((hD j).2 ⟨u,by simp[hu],b⟩)
 ·rintro j ⟨u,hu,b⟩
  rcases List.mem_cons.1 hu with rfl | hu
  ·rcases f j b with h1 | h1
   ·exact .inl (g j h1)
   ·right;right;have:=c.bel.size;omega
  ·rcases List.mem_append.1 hu with hu | hu
   ·exact .inl ((hD j).2 ⟨u,by simp[hu],b⟩)
   ·simp at hu;subst hu;exact .inr (.inl b)
 ·intro j b Z
  obtain ⟨u,hu,b⟩:=(hD j).1 b
  rcases List.mem_cons.1 hu with rfl | hu
  ·exact absurd b Z
  ·exact ⟨u,by simp[hu],b⟩
end Go.Proofs.YtjdiakhipmggjaaGreatDoor

namespace Go.Proofs.YtjdiakhipmggjaaGreatDoor
open Go.Emb Go.RowKit Go.Kd Go.Hm
variable {w : World} {K : Value → World → Prop} {σ : Q6}
end Go.Proofs.YtjdiakhipmggjaaGreatDoor

namespace Go.Proofs.YtjdiakhipmggjaaGreatDoor
open Go.Emb Go.RowKit Go.Kd Go.Hm
variable {w : World} {K : Value → World → Prop} {σ : Q6} {l : List Cla} {v : Value}
theorem K0 {n:X0} (q:X3 w σ) (o:Sl 8 U9 σ v l) (h:K (I (L6 (Z3 l n))) w):Q1 P F.b [v,S n] w K:=Q0f (by
 unfold Ou
 refine U3 l.length (fun k w'=>w'=w∧ ∀j (g:j<l.length),j<k→ ¬l[j].name=n) ⟨rfl,fun j _ h=>by omega⟩ fun k w1 d E u=>?_
 obtain ⟨rfl,f⟩:=u
 refine Q8 o ?_
 refine Y9 ?_
 refine Q7 (fun i=>?_) (fun i=>?_)
 ·have a:k<l.length:=by simpa using i
  refine N0 o a fun p cells m t r=>?_
  obtain ⟨C,z,mv,rfl,y,D,H,A,B⟩:=r
  rw[fa]
  refine ld q m rfl ?_
  refine P6 ?_
  refine Q7 (fun b=>?_) (fun b=>?_)
  ·have b:l[k].name=n:=by simpa using b
   have:Z3 l n=some k:=by
    unfold Z3
    rw[List.findIdx?_eq_some_iff_getElem]
    exact ⟨a,by simpa using b,fun j g=>by simpa using f j (by omega) g⟩
   rw[this] at h
   exact h
  ·have b: ¬l[k].name=n:=by simpa using b
   refine N3 ?_
   refine Y5 o.max a ⟨rfl,fun j g s=>?_⟩
   by_cases e:j=k
   ·subst e;exact b
   ·exact f j g (by omega)
 ·have a: ¬k<l.length:=by simpa using i
  have:Z3 l n=none:=by
   unfold Z3
   rw[List.findIdx?_eq_none_iff]
   intro c i
   obtain ⟨j,g,rfl⟩:=List.getElem_of_mem i
   simpa using f j g (by omega)
  rw[this] at h
  exact h)
end Go.Proofs.YtjdiakhipmggjaaGreatDoor

namespace Go.Proofs.YtjdiakhipmggjaaGreatDoor
open Go.Emb Go.RowKit Go.Kd Go.Hm
variable {w : World} {K : Value → World → Prop} {σ : Q6} {l : List Cla} {v : Value}
theorem Q6o {a:X0} (d:a.length≤U2) (h:K (S (base a).1) w):Q1 P F.aX [S a] w K:=Ae (by
 unfold Di
 have c:=Q1L a
 have b:a.length≤140737488355328:=by simp only[U2] at d;omega
 rw[S1 X8]
 refine Cm a b ?_
 (try simp only[↓Mr,Mr,Mb,reduceIte])
 rw[G7 (n:=2*((base a).2:Int)) (by omega) (by omega),G7 (by omega) (by omega),T8 X8 (by omega) (by omega)]
 rw[show ((a.length:Int)-2*((base a).2:Int)).toNat=a.length-2*(base a).2 from by omega,Q4y]
 exact h)
theorem Dy {s:X0} (f:X3 w σ) (g:Sl 8 U9 σ v l) (c:s.length≤U2) (h:K (.bool (N1 l s)) w):Q1 P F.a1 [v,S s] w K:=Q05 (by
 unfold Ol
 have b:s.length≤140737488355328:=by simp only[U2] at c;omega
 unfold N1 at h
 refine P6 ?_
 by_cases a:s=H8
 ·have:decide (s=[110,117,108,108])=true:=by rw[decide_eq_true_eq];exact a
  simp only[this,↓M1,M1,Mb,reduceIte]
  simp only[a,decide_true,Bool.true_or] at h
  exact h
 ·have:decide (s=[110,117,108,108])=false:=by rw[decide_eq_false_iff_not];exact a
  simp only[this,↓M1,M1,Mb,reduceIte]
  simp only[a,decide_false,Bool.false_or] at h
  refine Us s b ?_
  cases d:right s with
  | false=>(try simp only[↓M1,M1,Mb,reduceIte]);simpa [d] using h
  | true=>
   (try simp only[↓M1,M1,Mb,reduceIte])
   refine Q6o c ?_
   (try simp only[↓M1,M1,Mb,reduceIte])
   refine Ee _ ?_
   simp only[d,Bool.true_and] at h
   cases e:plain (base s).1 with
   | true=>(try simp only[↓M1,M1,Mb,reduceIte]);simpa [e] using h
   | false=>
    (try simp only[↓M1,M1,Mb,reduceIte])
    refine Q6o c ?_
    (try simp only[↓M1,M1,Mb,reduceIte])
    refine K0 f g ?_
    refine P7 ?_
    rw[A5]
    (try simp only[↓M1,M1,Mb,reduceIte])
    simpa [e,Q1r] using h)
end Go.Proofs.YtjdiakhipmggjaaGreatDoor

namespace Go.Proofs.YtjdiakhipmggjaaGreatDoor
open Go.Emb Go.RowKit Go.Kd Go.Hm
variable {w : World} {K : Value → World → Prop} {σ : Q6} {l : List Cla} {v : Value}
theorem X07 {s:X0} (b:X3 w σ) (c:Sl 8 U9 σ v l) (d:s.length≤U2) (h:K (.bool (O8 l s)) w):Q1 P F.bs [v,S s] w K:=Km (by
 unfold Ml
 unfold O8 at h
 refine Jh ?_
 have e:decide (s=[110,117,108,108])=decide (s=H8):=rfl
 rw[e]
 cases a:decide (s=H8) with
 | true=>
  rw[a] at h
  (try simp only[↓M1,M1,Mb,reduceIte])
  exact h
 | false=>
  rw[a] at h
  (try simp only[↓M1,M1,Mb,reduceIte])
  refine Dy b c d ?_
  (try simp only[↓M1,M1,Mb,reduceIte])
  simpa using h)
end Go.Proofs.YtjdiakhipmggjaaGreatDoor

namespace Go.Proofs.YtjdiakhipmggjaaGreatDoor
open Go.Emb Go.RowKit Go.Kd Go.Hm
variable {w : World} {K : Value → World → Prop} {σ : Q6} {l : List Cla} {v : Value}
def Sj (c:Cla) (n:X0):Option Nat:=c.methods.findIdx? fun m=>decide (m.name=n)
theorem Q7Z {c:Cla} {cs:List Value} {n:X0} (y:X3 w σ) (o:U9 σ c cs) (h: ∀w' u,Stp w σ w' u→K (I (L6 (Sj c n))) w'):Q1 P F.b2 [.agg cs.toArray,S n] w K:=Q1b (by
 unfold Ep
 obtain ⟨R,J,mv,rfl,E,U,r,L,Q⟩:=o
 refine Z1 y fun q w0 σ0 a t=>?_
 have r:=r.up a
 refine U3 c.methods.length (fun k w'=>w'=w0∧ ∀j (i:j<c.methods.length),j<k→ ¬c.methods[j].name=n) ⟨rfl,fun j _ h=>by omega⟩ fun k w1 d V D=>?_
 obtain ⟨rfl,g⟩:=D
 rw[fa]
 refine ld a.sat t rfl ?_
 refine Q8 r ?_
 refine Y9 ?_
 refine Q7 (fun o=>?_) (fun o=>?_)
 ·have b:k<c.methods.length:=by simpa using o
  rw[fa]
  refine ld a.sat t rfl ?_
  refine N0 r b fun p cells s C z=>?_
  obtain ⟨pv,Y,O,rfl,W,X,H,N,M⟩:=z
  rw[fa]
  refine ld a.sat s rfl ?_
  refine P6 ?_
  refine Q7 (fun f=>?_) (fun f=>?_)
  ·have f:c.methods[k].name=n:=by simpa using f
   have:Sj c n=some k:=by
    unfold Sj
    rw[List.findIdx?_eq_some_iff_getElem]
    exact ⟨b,by simpa using f,fun j i=>by simpa using g j (by omega) i⟩
   rw[this] at h
   exact h _ _ a
  ·have f: ¬c.methods[k].name=n:=by simpa using f
   refine N3 ?_
   refine Y5 r.max b ⟨rfl,fun j i B=>?_⟩
   by_cases e:j=k
   ·subst e;exact f
   ·exact g j i (by omega)
 ·have b: ¬k<c.methods.length:=by simpa using o
  have:Sj c n=none:=by
   unfold Sj
   rw[List.findIdx?_eq_none_iff]
   intro m A
   obtain ⟨j,i,rfl⟩:=List.getElem_of_mem A
   simpa using g j i (by omega)
  rw[this] at h
  exact h _ _ a)
end Go.Proofs.YtjdiakhipmggjaaGreatDoor

namespace Go.Proofs.YtjdiakhipmggjaaGreatDoor
open Go.Emb Go.RowKit Go.Kd Go.Hm
variable {w : World} {K : Value → World → Prop} {σ : Q6} {l : List Cla} {v : Value}
theorem Bk {n:X0} {d:Cla} (b:X3 w σ) (e:Sl 8 U9 σ v l) (c:lk l n=some d) (h: ∀i:Nat,l[i]? =some d→Z3 l n=some i→K (I i) w):Q1 P F.b [v,S n] w K:=by
 obtain ⟨_,_,i,a,f⟩:=V3 c
 refine K0 b e ?_
 rw[a];exact h i f a
theorem Q0p {n:X0} (b:X3 w σ) (f:Sl 8 U9 σ v l) (e:lk l n=none) (h:K (I (-1)) w):Q1 P F.b [v,S n] w K:=by
 refine K0 b f ?_
 cases d:Z3 l n with
 | none=>exact h
 | some i=>obtain ⟨c,a,_⟩:=Zk d;rw[e] at a;cases a
end Go.Proofs.YtjdiakhipmggjaaGreatDoor

namespace Go.Proofs.YtjdiakhipmggjaaGreatDoor
open Go.Emb Go.RowKit Go.Kd Go.Hm
variable {w : World} {K : Value → World → Prop} {σ : Q6} {l : List Cla} {v : Value}
theorem X0I:decide ((-1:Int)<0)=true:=by decide
theorem Q61 (i:Nat):decide ((i:Int)<0)=false:=by rw[decide_eq_false_iff_not];omega
theorem Q8t {c:Cla} {cs:List Value} (W:X3 w σ) (hl:Sl 8 U9 σ v l) (C:U9 σ c cs) (h: ∀w' V,Stp w σ w' V→K (I (D2 l c)) w'):Q1 P F.be [v, .agg cs.toArray] w K:=Ic (by
 unfold Lf
 obtain ⟨lv,fv,mv,rfl,z,f2,f3,f4,f5⟩:=C
 refine Z1 W fun q w0 σ0 o N=>?_
 have z:=z.up o
 have b:=hl.up o
 have a:=o.sat
 have y: ∀n:Nat,D2 l c=n→K (I n) w0:=fun n e=>by rw[←e];exact h _ _ o
 clear h
 (try simp only[↓M1,M1,Mb,reduceIte])
 refine ld a N rfl ?_
 have m:Qy l c.super=true→K (I (61:Nat)) w0:=fun e=>y 61 (by unfold D2;rw[if_pos e])
 cases L:lk l c.super with
 | none=>
  refine Q0p a b L ?_
  simp only[X0I,↓M1,M1,Mb,reduceIte]
  exact m (by unfold Qy;rw[L])
 | some d=>
  refine Bk a b L fun i hi hf=>?_
  obtain ⟨s,R⟩:=List.getElem?_eq_some_iff.1 hi
  simp only[Q61,↓M1,M1,Mb,reduceIte]
  refine Y1 b s ?_
  obtain ⟨ah,ag,ae,Q,r1⟩:=b.elC s
  rw[R] at Q
  (try simp only[↓M1,M1,Mb,reduceIte])
  refine ld a Q rfl ?_
  have f:Qy l c.super=(d.iface||d.fin):=by unfold Qy;rw[L]
  cases H:d.iface with
  | true=>
   rw[H] at f
   (try simp only[↓M1,M1,Mb,reduceIte])
   exact m (by rw[f];rfl)
  | false=>
   rw[H] at f
   (try simp only[↓M1,M1,Mb,reduceIte])
   refine Y1 b s ?_
   (try simp only[↓M1,M1,Mb,reduceIte])
   refine ld a Q rfl ?_
   cases B:d.fin with
   | true=>
    rw[B] at f
    (try simp only[↓M1,M1,Mb,reduceIte])
    exact m (by rw[f];rfl)
   | false=>
    rw[B] at f
    have A:Qy l c.super=false:=f
    (try simp only[↓M1,M1,Mb,reduceIte])
    refine U3 c.like.length (fun k w'=>w'=w0∧(c.like.take k).any (R5 l)=false) ⟨rfl,rfl⟩ fun k w1 d1 hk M=>?_
    obtain ⟨hw,u⟩:=M
    subst hw
    (try simp only[↓M1,M1,Mb,reduceIte])
    refine ld a N rfl ?_
    refine Q8 z ?_
    refine Y9 ?_
    refine Q7 (fun C=>?_) (fun C=>?_)
    ·have g:k<c.like.length:=by simpa using C
     have r:R5 l c.like[k]=true→K (I (62:Nat)) w1:=fun e=>y 62 (by
      unfold D2;rw[A,C0 g e];rfl)
     have t:R5 l c.like[k]=false→(c.like.take (k+1)).any (R5 l)=false:=fun e=>by rw[L2 g,u,e];rfl
     (try simp only[↓M1,M1,Mb,reduceIte])
     refine ld a N rfl ?_
     refine Y1 z g ?_
     obtain ⟨Z,_⟩:=z.elS g
     refine X7 a Z rfl ?_
     cases J:lk l c.like[k] with
     | none=>
      refine Q0p a b J ?_
      simp only[X0I,↓M1,M1,Mb,reduceIte]
      exact r (by unfold R5;rw[J])
     | some e=>
      refine Bk a b J fun j hj aa=>?_
      obtain ⟨E,O⟩:=List.getElem?_eq_some_iff.1 hj
      simp only[Q61,↓M1,M1,Mb,reduceIte]
      refine Y1 b E ?_
      obtain ⟨X,Y,ai,U,r3⟩:=b.elC E
      rw[O] at U
      (try simp only[↓M1,M1,Mb,reduceIte])
      refine ld a U rfl ?_
      have p:R5 l c.like[k]= !e.iface:=by unfold R5;rw[J]
      cases D:e.iface with
      | true=>
       rw[D] at p
       (try simp only[↓M1,M1,Mb,reduceIte])
       exact Y5 z.max g ⟨rfl,t p⟩
      | false=>
       rw[D] at p
       (try simp only[↓M1,M1,Mb,reduceIte])
       exact r p
    ·have g: ¬k<c.like.length:=by simpa using C
     rw[E0 g] at u
     exact y 0 (by unfold D2;rw[A,u];rfl))
end Go.Proofs.YtjdiakhipmggjaaGreatDoor

namespace Go.Proofs.YtjdiakhipmggjaaGreatDoor
open Go.Emb Go.RowKit Go.Kd Go.Hm
variable {w : World} {K : Value → World → Prop} {σ : Q6} {l : List Cla} {v : Value}
theorem Q7p {n:X0} (h:lk l n=none):Y6 l n=[]:=by unfold Y6;rw[Ym h];rfl
theorem Q7f (a:Jc l) {n:X0} {c:Cla} (h:lk l n=some c):Y6 l n=Y6 l c.super++c.fields:=by
 unfold Y6
 rw[Qc a,h]
 simp
theorem Q3I (a: ∀c∈l,Qs c) (n:X0):(Y6 l n).length≤(l.length+1)*1000000:=by
 unfold Y6
 have b:=Wg (fun c:Cla=>c.fields) 1000000 (chain l n).reverse fun c d=>(a c (Bf (by simpa using d))).2.1
 have e:=Bi l n
 rw[List.length_reverse] at b
 exact Nat.le_trans b (Nat.mul_le_mul_right _ e)
theorem Q2r {n:X0} (c:lk l n=none) (b:X3 w σ) (e:Sl 8 U9 σ v l) (h: ∀d w' a,Stp w σ w' a→Sl 3 S5 a d (Y6 l n)→K d w'):Q1 P F.p [v,S n] w K:=Lv (by
 unfold Xv
 refine Q0p b e c ?_
 simp only[X0I,↓M1,M1,Mb,reduceIte]
 exact h _ _ _ (Stp.refl b) (by rw[Q7p c];exact Sl.nil))
theorem Q7o (p:Jc l) (hl:l.length≤1000) (m: ∀c∈l,Qs c): ∀(k:Nat) {n:X0} {w:World} {σ:Q6} {K:Value→World→Prop},(lk l n=none∨K8 l n<k)→X3 w σ→Sl 8 U9 σ v l→
 (∀j w' f,Stp w σ w' f→Sl 3 S5 f j (Y6 l n)→K j w')→Q1 P F.p [v,S n] w K:=by
 intro k
 induction k with
 | zero=>
  intro n w σ K hk g a h
  rcases hk with hk | hk
  ·exact Q2r hk g a h
  ·omega
 | succ k ih=>
  intro n w σ K hk g a h
  cases b:lk l n with
  | none=>exact Q2r b g a h
  | some c=>
   have hk:K8 l n<k+1:=by
    rcases hk with hk | hk
    ·rw[b] at hk;cases hk
    ·exact hk
   refine Lv ?_
   unfold Xv
   refine Bk g a b fun i hi hf=>?_
   obtain ⟨q,J⟩:=List.getElem?_eq_some_iff.1 hi
   simp only[Q61,↓M1,M1,Mb,reduceIte]
   obtain ⟨lv,fv,mv,p1,N⟩:=a.elC q
   rw[J] at p1 N
   obtain ⟨_,g2,_,_,_⟩:=N.parts
   have D:lk l c.super=none∨K8 l c.super<k:=by
    cases Y:lk l c.super with
    | none=>exact .inl rfl
    | some d=>
     have:=Yb p b (u:=c.super) (by simp[U4]) Y
     right;omega
   have U:=Q3I m c.super
   have ae:=(m c (V3 b).2.1).2.1
   have O:(l.length+1)*1000000≤1001*1000000:=Nat.mul_le_mul_right _ (by omega)
   refine U0 g ?_
   (repeat refine Z9 Qa ?_)
   refine Q37 (R:=S5) (by decide) ?_
   (repeat refine Z9 Qa ?_)
   refine Uv (w:=w) (σ:=σ) (Φ:=fun f v=>Sl 3 S5 f v (Y6 l c.super)) (fun t w o e=>?_) ?_
   ·subst e;exact ih D o.sat a fun j w' f hk E=>Hr o hk E
   refine Q1P (w:=w) (σ:=σ) (R:=S5) (sz:=3) (e:=T.o) (Y6 l c.super) (fun C B w o s M=>?_) ?_
   ·obtain ⟨k1,W,e1⟩:=s
    obtain ⟨σ2,k2,s2⟩:=M
    exact Q7M k1 W e1 k2.sat s2 (fun _ _ h=>h) rfl (by omega) (by omega) fun j w' hk p=>Q3h o hk p
   (repeat refine Z9 Qa ?_)
   rintro V am aa ad C X B ac ak w2 Q rfl rfl rfl rfl _ rfl _ ⟨A,z⟩ rfl
   refine Wm A z g2 rfl (by omega) (by omega) fun j w3 Z H r _=>?_
   obtain ⟨σ4,y,L,_⟩:=r.keep H
   exact h _ _ _ y (by rw[Q7f p b];exact L)
theorem Kn {n:X0} (e:X3 w σ) (i:Sl 8 U9 σ v l) (g:Jc l) (f:l.length≤1000) (a: ∀c∈l,Qs c) (h: ∀d w' b,Stp w σ w' b→Sl 3 S5 b d (Y6 l n)→K d w'):Q1 P F.p [v,S n] w K:=
 Q7o g f a _ (.inr (Nat.lt_succ_self _)) e i h
theorem Q9U {n f:X0} (z:X3 w σ) (C:Sl 8 U9 σ v l) (J:Jc l) (E:l.length≤1000) (u: ∀c∈l,Qs c) (h: ∀w' y,Stp w σ w' y→K (I (L6 (Ju l n f))) w'):Q1 P F.br [v,S n,S f] w K:=Il (by
 unfold Md
 refine Kn z C J E u fun O w1 σ1 r a=>?_
 have s: ∀o,Ju l n f=o→K (I (L6 o)) w1:=fun o e=>by rw[←e];exact h _ _ r
 unfold Ju at s
 generalize Y6 l n=i at a s
 refine U3 i.length (fun k w'=>w'=w1∧ ∀j (q:j<i.length),j<k→ ¬i[j].name=f) ⟨rfl,fun j _ h=>by omega⟩ fun k M d N L=>?_
 obtain ⟨D,p⟩:=L
 subst D
 refine Q8 a ?_
 refine Y9 ?_
 refine Q7 (fun t=>?_) (fun t=>?_)
 ·have b:k<i.length:=by simpa using t
  refine Y1 a b ?_
  obtain ⟨H,_⟩:=a.elF b
  (try simp only[↓M1,M1,Mb,reduceIte])
  refine ld r.sat H rfl ?_
  refine P6 ?_
  refine Q7 (fun g=>?_) (fun g=>?_)
  ·have g:i[k].name=f:=by simpa using g
   exact s (some k) (by
    rw[List.findIdx?_eq_some_iff_getElem]
    exact ⟨b,by simpa using g,fun j q=>by simpa using p j (by omega) q⟩)
  ·have g: ¬i[k].name=f:=by simpa using g
   (try simp only[↓M1,M1,Mb,reduceIte])
   refine Y5 a.max b ⟨rfl,fun j q B=>?_⟩
   by_cases e:j=k
   ·subst e;exact g
   ·exact p j q (by omega)
 ·have b: ¬k<i.length:=by simpa using t
  exact s none (by
   rw[List.findIdx?_eq_none_iff]
   intro m A
   obtain ⟨j,q,rfl⟩:=List.getElem_of_mem A
   simpa using p j q (by omega)))
end Go.Proofs.YtjdiakhipmggjaaGreatDoor

namespace Go.Emb
open Go.RowKit Go.Hm
variable {w w' : World} {σ σ' : Q6}
theorem Nxt.of_upd {b:Nat} (c:X3 w σ) (a:Upd w b w') (d:σ b=none):Nxt (fun j=>j=b) w σ w' σ:=
 ⟨Kpt.of_upd a rfl,SLe.refl _,fun _ _=>rfl,(Kpt.of_upd (D:=fun j=>j=b) a rfl).sat c fun k e=>e▸d⟩
theorem Nxt.chain {D E:Nat→Prop} {w1 d:World} {σ1 b:Q6} (h:Nxt D w σ w1 σ1) (k:Nxt E w1 σ1 d b) (f: ∀j,j<w.heap.size→E j→D j):Nxt D w σ d b:=
 ⟨⟨k.kp.os.trans h.kp.os,k.kp.tape.trans h.kp.tape,k.kp.output.trans h.kp.output,Nat.le_trans h.kp.size k.kp.size,fun j a c=>(k.kp.block j (Nat.lt_of_lt_of_le a h.kp.size) fun e=>c (f j a e)).trans (h.kp.block j a c)⟩,h.le.more k.le,fun j a=>(k.old j (Nat.lt_of_lt_of_le a h.kp.size)).trans (h.old j a),k.sat⟩
end Go.Emb
namespace Go.Proofs.YtjdiakhipmggjaaGreatDoor
open Go.Emb Go.RowKit Go.Kd Go.Hm
variable {w w' : World} {K : Value → World → Prop} {σ σ' : Q6} {hp tv : Value} {room : Int} {cs : List Cel} {l : List Cla}
theorem RowsIs.shape {B:Nat} {D:Nat→Prop} {b:Value} (h:RowsIs B D σ w b cs):b.cells= #[b]∧b.oneCell'=true:=by
 obtain ⟨vs,d,_⟩:=h.ex
 obtain ⟨a,c,rfl,_⟩:=d
 exact ⟨rfl,rfl⟩
theorem RowsIs.len {B:Nat} {D:Nat→Prop} {c:Value} (h:RowsIs B D σ w c cs): ∃a b,c= .slice a cs.length b:=by
 obtain ⟨vs,d,e,_⟩:=h.ex
 obtain ⟨a,b,rfl,_⟩:=d
 exact ⟨a,b,by rw[Du e.1]⟩
theorem X1I {B:Nat} {D:Nat→Prop} {v:Value} {vals:List Val} {k:X0} (X:X3 w σ) (hB:B≤w.heap.size) (h:HeapIs B D σ w hp tv room cs) (L:J9 B T.g 4 O3 σ w v vals) (O: ∀j,v.ownBlock=some j→ ¬D j) (hk:k.length≤U2) (hl:Z0 cs+(1+(vals.length:Int))≤1048576)
 (hh: ∀w' σ' D',Nxt D w σ w' σ'→HeapIs B D' σ' w' hp tv room (cs++[⟨k,vals⟩])→(∀j,D' j→D j∨v.ownBlock=some j∨w.heap.size≤j)→K (.tuple #[I cs.length,I 0]) w'):Q1 P F.b6 [hp,S k,v] w K:=Q25 (by
 obtain ⟨b,lv,E,rfl,A,t,hr,hE,hD⟩:=h.ex
 have ac:=T6 cs
 have Y:=M4 cs
 have c:D b:=(hD b).2 (.inl rfl)
 have J: ∃a f,v= .slice a vals.length f:=by obtain ⟨a,f,e,_⟩:=L;exact ⟨a,f,e⟩
 have V:=t.lt
 unfold Hy
 rw[L8,fa]
 refine Yi t rfl ?_
 refine Q1v L ?_
 refine Xw ⟨by omega,by omega⟩ ?_
 refine Xw ⟨by omega,by omega⟩ ?_
 rw[L8,fa]
 refine Jz t (by simp) rfl rfl fun w1 r m=>?_
 have u:=Nxt.of_upd X r t.1
 have M:=hr.nx u fun j hj e=>hE (e▸hj)
 have y:=L.nx u fun j hj e=>O j hj (e▸c)
 have C:=u.sat
 rw[L8,fa]
 refine Yi m rfl ?_
 refine W1 (cells:= #[S k,v]) (by obtain ⟨a,f,rfl⟩:=J;kernel_rfl) ?_
 refine Q9M C (by rw[r.size];exact hB) M y (fun j hj e=>O j hj ((hD j).2 (.inr e))) hk (by omega) fun s ah w2 W z H g d o af=>?_
 have q: ∀j,lv.ownBlock=some j→j≠b:=fun j hj e=>hE (e▸g j hj)
 have n:=m.nx H fun e=>q b e rfl
 have i: ¬z b:=fun e=>by
  rcases o b e with e | e | e
  ·exact hE e
  ·exact O b e c
  ·rw[r.size] at e;omega
 rw[L8,fa]
 refine Jz n (by simp) d.shape.1 d.shape.2 fun Q u3 p=>?_
 have R:=Nxt.of_upd H.sat u3 n.1
 have N:=d.nx R fun j hj e=>i (e▸hj)
 rw[L8,fa]
 refine Yi p rfl ?_
 obtain ⟨a2,U,rfl⟩:=d.len
 rw[Q1K]
 refine Zp ⟨by simp only[List.length_append,List.length_cons,List.length_nil];omega,by simp only[List.length_append,List.length_cons,List.length_nil];omega⟩ ?_
 have Z:(((cs++[(⟨k,vals⟩:Cel)]).length:Nat):Int)-1=cs.length:=by simp
 rw[Z]
 have e2:Z0 (cs++[(⟨k,vals⟩:Cel)])=Z0 cs+(1+(vals.length:Int)):=by rw[T7];simp[Z0]
 have NN:Nxt D w σ Q W:=((u.mono fun j _ e=>e▸c).chain H fun j _ e=>(hD j).2 (.inr (g j e))).chain R fun j _ e=>e▸c
 refine hh Q W (fun j=>j=b∨z j) NN ⟨b,_,z,rfl,A,?_,N,i,fun j=>Iff.rfl⟩ fun j hj=>?_
 ·rw[e2];exact p
 ·rcases hj with rfl | hj
  ·exact .inl c
  ·rcases o j hj with e | e | e
   ·exact .inl ((hD j).2 (.inr e))
   ·exact .inr (.inl e)
   ·rw[r.size] at e;exact .inr (.inr e))
theorem HeapIs.tab {B:Nat} {D:Nat→Prop} (h:HeapIs B D σ w hp tv room cs): ∃b a E,hp= .pointer (some ⟨b,0,none⟩)∧Y2 σ w b [tv,I room,I (Z0 cs),a]∧RowsIs B E σ w a cs:=by
 obtain ⟨b,a,E,e,c,f,d,hE,hD⟩:=h.ex
 exact ⟨b,a,E,e,f,d⟩
theorem Q5o {B:Nat} {D:Nat→Prop} (b:X3 w σ) (h:HeapIs B D σ w hp tv room cs) (g:0≤W6 room cs) (c:room≤1048576) (f: ∀w',Stp w σ w' σ→K (I (W6 room cs)) w'):Q1 P F.v [hp] w K:=by
 obtain ⟨j,e,d,a,_⟩:=h.freeze b
 exact Q3N e a g c fun w' i=>f w' (Stp.of_below b i)
theorem Gu (k:X0) {σ:Q6}:O3 σ (M5 k) (Value.agg [I (M5 k).sort,I (M5 k).n,S (M5 k).s,I (M5 k).ref].toArray).cells.toList:=by
 refine ⟨rfl,?_⟩
 unfold M5
 split
 ·decide
 split
 ·decide
 split
 ·decide
 ·decide
theorem Q0W (a: ∀c∈l,Qs c) (b:l.length≤100000) (n:X0):(Y6 l n).length≤1000000000000:=by
 have h:=Q3I a n
 have:(l.length+1)*1000000≤100001*1000000:=Nat.mul_le_mul_right _ (by omega)
 omega
def atM (cs:List Cel) (e:Int):Int:=if e=0 then cs.length else 0
set_option maxHeartbeats 1000000 in
theorem Q6h {B:Nat} {D:Nat→Prop} {k:X0} (hs:X3 w σ) (hB:B≤w.heap.size) (h:HeapIs B D σ w hp tv room cs) (ht:Tab σ tv l) (ok:Ok l) (hk:k.length≤U2) (h0:0≤W6 room cs) (h1:room≤1048576)
 (hh: ∀w' σ' D',Nxt D w σ w' σ'→HeapIs B D' σ' w' hp tv room (Zt l room cs k).1→(∀j,D' j→D j∨w.heap.size≤j)→K (.tuple #[I (atM cs (Zt l room cs k).2),I (Zt l room cs k).2]) w'):Q1 P F.aJ [hp,S k] w K:=Im (by
 obtain ⟨b,lv,E,rfl,hm,hr⟩:=h.tab
 unfold Np
 rw[L8,fa]
 refine Yi (i:=0) hm rfl ?_
 refine Q4S hs ht fun w1 σ1 c=>?_
 refine Jj ?_
 unfold Zt at hh
 have W:=ht.lift ⟨c.le⟩
 cases ho:A9 l k with
 | false=>
  rw[ho] at hh
  simp only[if_pos] at hh
  refine J7 ?_
  exact hh w1 σ1 D (.of_stp c) (h.up c) fun j r=> .inl r
 | true=>
  rw[ho] at hh
  simp only[Bool.true_eq_false,if_false] at hh
  refine Z7 ?_
  rw[L8,fa]
  refine Yi (i:=0) (hm.up c) rfl ?_
  refine Tg c.sat W ok.acy ok.len ok.sm fun fv w2 σ2 C O=>?_
  have v:=c.trans C
  have Q:=O.max
  refine Q8 O ?_
  have af:=Q0W ok.sm ok.len k
  refine Xw ⟨by omega,by omega⟩ ?_
  refine Q5o C.sat (h.up v) h0 h1 fun N z=>?_
  have p:=v.trans z
  have H:=O.up z
  rw[Rt]
  by_cases M:W6 room cs<1+((Y6 l k).length:Int)
  ·rw[if_pos M] at hh
   have e:decide (1+((Y6 l k).length:Int)>W6 room cs)=true:=decide_eq_true M
   rw[e]
   refine J7 ?_
   exact hh N σ2 D (.of_stp p) (h.up p) fun j r=> .inl r
  rw[if_neg M] at hh
  have e:decide (1+((Y6 l k).length:Int)>W6 room cs)=false:=decide_eq_false M
  rw[e]
  refine Z7 ?_
  refine Q8 H ?_
  have t:=p.bel.size
  refine E2 (Y6 l k).length (fun n x w'=> ∃σ',Stp N σ2 w' σ'∧V7 N.heap.size T.g 4 O3 σ' w' x (((Y6 l k).take n).map fun f=>M5 f.kind)) ⟨σ2,Stp.refl z.sat,V7.nil⟩ fun n x w4 d hn L=>?_
  obtain ⟨σ4,g,u⟩:=L
  refine Y9 ?_
  refine Q7 (fun U=>?_) (fun U=>?_)
  ·have m:n<(Y6 l k).length:=by simpa using U
   have A:=H.up g
   refine Y1 A m ?_
   obtain ⟨p1,r1⟩:=A.elF m
   refine Y4 g.sat p1 rfl ?_
   refine Y8 g.sat (by rfl) rfl (Rep.one (R:=S5) r1) fun q w5 σ5 o ad=>?_
   rw[fa]
   refine ld o.sat ad rfl ?_
   refine X00 o.sat fun w6 σ6 J=>?_
   have Z:=(g.trans o).trans J
   have ab:=(u.up o).up J
   refine Jp (R:=O3) (x:=M5 (Y6 l k)[n].kind) Z ab (Gu _) rfl rfl rfl (by rw[List.length_map,List.length_take];omega) (by rw[List.length_map,List.length_take];omega) fun s v' w7 V al Y X _=>?_
   refine N3 ?_
   refine J5 Q m ⟨V,Y,?_⟩
   rw[List.take_add_one,List.getElem?_eq_getElem m,List.map_append]
   exact X
  ·have m: ¬n<(Y6 l k).length:=by simpa using U
   rw[List.take_of_length_le (by omega)] at u
   have a:=p.trans g
   have y: ∀j,x.ownBlock=some j→N.heap.size≤j:=fun j r=>(u.mem j r).1
   refine X1I g.sat (Nat.le_trans hB a.bel.size) (h.up a) ((J9.of_acc u).mono (Nat.le_trans hB t)) (fun j r hD=>by
    have:=(h.mem hD).2.1;have:=y j r;omega) hk (by rw[List.length_map];unfold W6 at*;omega) fun w7 V D' N7 h7 aa=>?_
   refine J4 (vs:=[_,_]) rfl ?_
   refine J4 (vs:=[_,_]) rfl ?_
   refine hh w7 V D' ((Nxt.of_stp a).chain N7 fun j _ e=>e) h7 fun j r=>?_
   rcases aa j r with e | e | e
   ·exact .inl e
   ·right;have:=y j e;omega
   ·right;have:=a.bel.size;omega)
end Go.Proofs.YtjdiakhipmggjaaGreatDoor

namespace Go.Proofs.YtjdiakhipmggjaaGreatDoor
open Go.Emb Go.RowKit Go.Kd Go.Hm
variable {w w' : World} {K : Value → World → Prop} {σ σ' : Q6} {hp tv : Value} {room : Int} {cs : List Cel} {l : List Cla}
def part (m n:Nat) (z:Val):List Val:=(List.range m).map fun i=>if i<n then z else Val.zero
theorem Q9Y (m:Nat) (z:Val):part m 0 z=List.replicate m Val.zero:=by
 refine List.ext_getElem (by simp[part]) fun i a b=>by simp[part]
theorem X1d (m:Nat) (z:Val):part m m z=List.replicate m z:=by
 refine List.ext_getElem (by simp[part]) fun i a b=>?_
 have:i<m:=by simpa [part] using a
 simp[part,this]
theorem X11 {m n:Nat} (z:Val):(part m n z).set n z=part m (n+1) z:=by
 refine List.ext_getElem (by simp[part]) fun i a b=>?_
 simp only[part,List.getElem_set,List.getElem_map,List.getElem_range]
 by_cases e:n=i
 ·subst e;simp
 ·rw[if_neg e]
  by_cases h:i<n
  ·simp[h,Nat.lt_succ_of_lt h]
  ·have: ¬i<n+1:=by omega
   simp[h,this]
theorem Q5U {e:X0} (h:G3 l e=true):right e=true:=by
 simp only[G3,Bool.and_eq_true,Bool.not_eq_true',decide_eq_false_iff_not] at h
 have:=h.1.2
 simp only[N1,Bool.or_eq_true,Bool.and_eq_true,decide_eq_true_eq] at this
 rcases this with h1 | h1
 ·exact absurd h1 h.1.1
 ·exact h1.1
theorem X2p {e:X0} (h:right e=true):Xt e≤3:=by
 unfold Xt
 rw[if_pos h]
 simp only[right,Bool.and_eq_true,decide_eq_true_eq] at h
 exact h.1
set_option maxHeartbeats 1000000 in
theorem Q7z {B:Nat} {D:Nat→Prop} {e:X0} {n:Int} (hs:X3 w σ) (hB:B≤w.heap.size) (h:HeapIs B D σ w hp tv room cs) (ht:Tab σ tv l) (hk:e.length≤U2) (h0:0≤W6 room cs) (h1:room≤1048576)
 (hh: ∀w' σ' D',Nxt D w σ w' σ'→HeapIs B D' σ' w' hp tv room (Zu l room cs e n).1→(∀j,D' j→D j∨w.heap.size≤j)→K (.tuple #[I (atM cs (Zu l room cs e n).2),I (Zu l room cs e n).2]) w'):Q1 P F.aQ [hp,S e,I n] w K:=Q03 (by
 obtain ⟨b,lv,E,rfl,hm,hr⟩:=h.tab
 unfold Oz
 refine X4B e (Nat.le_trans hk (by decide)) fun w1 ab=>?_
 have y:=Stp.of_below hs ab
 unfold Zu at hh
 have k: ∀{L H},Stp w σ L H→G3 l e=false→K (.tuple #[I 0,I 91]) L:=fun {L H} hS X=>by
  rw[X] at hh
  simp only[if_pos] at hh
  exact hh L H D (.of_stp hS) (h.up hS) fun j r=> .inl r
 cases z:(right e&&decide (Xt e≠3)) with
 | false=>
  have X:G3 l e=false:=by
   cases hx:G3 l e with
   | false=>rfl
   | true=>
    have hr:=Q5U hx
    simp only[G3,Bool.and_eq_true,decide_eq_true_eq] at hx
    rw[hr,Bool.true_and,decide_eq_false_iff_not] at z
    omega
  simp only[Bool.false_eq_true,if_false]
  (try simp only[↓M1,M1,Mb,reduceIte])
  simp only[show decide ((30:Int)=0)=false from by decide,Bool.not_false,↓M1,M1,Mb,reduceIte]
  exact k y X
 | true=>
  simp only[if_true]
  (try simp only[↓M1,M1,Mb,reduceIte])
  simp only[decide_true,Bool.not_true,↓M1,M1,Mb,reduceIte]
  refine Yi (i:=0) (hm.up y) rfl ?_
  refine Q1n y.sat ht hk fun L H V=>?_
  have a:=y.trans V
  simp only[Bool.and_eq_true,decide_eq_true_eq] at z
  have a2:=X2p z.1
  have o:G3 l e=(!decide (e=H8)&&N1 l e):=by
   unfold G3
   have:decide (Xt e≤2)=true:=decide_eq_true (by omega)
   rw[this,Bool.and_true]
  have en:decide (e=[110,117,108,108])=decide (e=H8):=rfl
  cases M:N1 l e with
  | false=>
   (try simp only[↓M1,M1,Mb,reduceIte])
   exact k a (by rw[o,M,Bool.and_false])
  | true=>
   (try simp only[↓M1,M1,Mb,reduceIte])
   by_cases c:e=H8
   ·have:decide (e=[110,117,108,108])=true:=decide_eq_true c
    rw[this]
    (try simp only[↓M1,M1,Mb,reduceIte])
    exact k a (by rw[o,decide_eq_true c];rfl)
   have:decide (e=[110,117,108,108])=false:=decide_eq_false c
   rw[this]
   (try simp only[↓M1,M1,Mb,reduceIte])
   have X:G3 l e=true:=by rw[o,M,decide_eq_false c];rfl
   rw[X] at hh
   simp only[Bool.true_eq_false,if_false] at hh
   by_cases g:n<0
   ·rw[if_pos g] at hh
    rw[decide_eq_true g]
    (try simp only[↓M1,M1,Mb,reduceIte])
    exact hh L H D (.of_stp a) (h.up a) fun j r=> .inl r
   rw[if_neg g] at hh
   rw[decide_eq_false g]
   (try simp only[↓M1,M1,Mb,reduceIte])
   refine Q5o V.sat (h.up a) h0 h1 fun w3 O=>?_
   have q:=a.trans O
   refine P7 ?_
   by_cases U:W6 room cs≤n
   ·rw[if_pos U] at hh
    rw[decide_eq_true U]
    refine J7 ?_
    exact hh w3 H D (.of_stp q) (h.up q) fun j r=> .inl r
   rw[if_neg U] at hh
   rw[decide_eq_false U]
   refine Z7 ?_
   obtain ⟨m,rfl⟩:=Int.eq_ofNat_of_zero_le (Int.not_lt.1 g)
   have Z:(m:Int)<W6 room cs:=Int.not_le.1 U
   have av:=M4 cs
   unfold W6 at Z h0
   have t:=q.bel.size
   have ap:=Gc z.1
   refine Q9j (sz:=4) (R:=O3) (x0:=Val.zero) O.sat rfl (by decide) ⟨rfl,by decide⟩ (by omega) (by omega) fun v w4 ac af C=>?_
   have N:=J9.of_acc af
   refine Q1v N ?_
   rw[List.length_replicate]
   refine U3 m (fun i w'=> ∃σ',Stp w3 H w' σ'∧J9 w3.heap.size T.g 4 O3 σ' w' v (part m i (M5 e))) ⟨H,ac,by rw[Q9Y];exact N⟩ fun i w5 d hi Y=>?_
   obtain ⟨σ5,A,J⟩:=Y
   refine Y9 ?_
   refine Q7 (fun hc=>?_) (fun hc=>?_)
   ·have s:i<m:=by simpa using hc
    refine X00 A.sat fun w6 σ6 W=>?_
    have ae:=A.trans W
    refine Q2W (x:=M5 e) ae (J.up W) (by simpa [part] using s) rfl (Gu e) (Rep.one (R:=O3) (Gu (σ:=σ6) e)) fun p u w7 a0 ad Q=>?_
    refine N3 ?_
    rw[X11] at Q
    exact Y5 (by omega) s ⟨σ6,ad.stp,Q⟩
   ·have s:i=m:=by
     have: ¬i<m:=by simpa using hc
     omega
    subst s
    rw[X1d] at J
    have f:=q.trans A
    refine X1I A.sat (Nat.le_trans hB f.bel.size) (h.up f) (J.mono (Nat.le_trans hB t)) (fun j r hD=>by
     have:=(h.mem hD).2.1;have:=C j r;omega) (Nat.le_trans (show (e++[91,93]).length≤40 by simp only[List.length_append,List.length_cons,List.length_nil];omega) (by decide)) (by rw[List.length_replicate];omega) fun w7 σ7 D' N7 h7 ag=>?_
    refine J4 (vs:=[_,_]) rfl ?_
    refine J4 (vs:=[_,_]) rfl ?_
    rw[Int.toNat_natCast] at hh
    refine hh w7 σ7 D' ((Nxt.of_stp f).chain N7 fun j _ e=>e) h7 fun j r=>?_
    rcases ag j r with e | e | e
    ·exact .inl e
    ·right;have:=C j e;omega
    ·right;have:=f.bel.size;omega)
end Go.Proofs.YtjdiakhipmggjaaGreatDoor

namespace Go.Proofs.YtjdiakhipmggjaaGreatDoor
open Go.Emb Go.RowKit Go.Kd Go.Hm
variable {w : World} {K : Value → World → Prop} {σ : Q6} {v : Value}
def Q3F:List Cla:=[⟨U1,[],[],false,false,false,[],[]⟩,⟨L5,U1,[],false,false,false,[⟨Qm,D0,false⟩],[]⟩]
def gMk (n:X0):Cla:=⟨n,L5,[],false,false,true,[],[]⟩
theorem Q7c:I2=Q3F++U5.map gMk:=rfl
theorem X0l (L:X3 w σ) (h: ∀A w' g,Stp w σ w' g→V7 w.heap.size T.b 8 U9 g w' A I2→K A w'):Q1 P F.bn [] w K:=Ko (by
 unfold Nl
 refine W1 (cells:= #[S U1,S [], .slice none 0 0, .bool false, .bool false, .bool false, .slice none 0 0, .slice none 0 0]) (by kernel_rfl) ?_
 refine W1 (cells:= #[S Qm,S D0, .bool false]) (by kernel_rfl) ?_
 refine T4 (R:=S5) (sz:=3) L [.agg #[S Qm,S D0, .bool false]] [⟨Qm,D0,false⟩] rfl rfl (by simp;rfl) rfl ⟨⟨rfl,by decide,by decide⟩,trivial⟩ fun v1 w1 σ1 j i=>?_
 have l:=i
 obtain ⟨E,b,rfl,_⟩:=l
 refine W1 (cells:= #[S L5,S U1, .slice none 0 0, .bool false, .bool false, .bool false, .slice E 1 b, .slice none 0 0]) (by kernel_rfl) ?_
 refine Zf (R:=U9) (sz:=8) j [.agg #[S U1,S [], .slice none 0 0, .bool false, .bool false, .bool false, .slice none 0 0, .slice none 0 0], .agg #[S L5,S U1, .slice none 0 0, .bool false, .bool false, .bool false, .slice E 1 b, .slice none 0 0]]
  Q3F rfl rfl (by simp;exact ⟨rfl,rfl⟩) rfl ⟨⟨_,_,_,rfl,Sl.nil,Sl.nil,Sl.nil,by decide,by decide⟩,⟨_,_,_,rfl,Sl.nil,i,Sl.nil,by decide,by decide⟩,trivial⟩ fun X Y r u _=>?_
 refine T4 (R:=U8) (sz:=1) r.sat (U5.map S) U5 rfl rfl (by decide) rfl ⟨⟨rfl,by decide⟩,⟨rfl,by decide⟩,⟨rfl,by decide⟩,⟨rfl,by decide⟩,⟨rfl,by decide⟩,⟨rfl,by decide⟩,trivial⟩ fun v3 W J m q=>?_
 have C:=(j.trans r).trans m
 have V:U5.length=6:=rfl
 refine E2 U5.length (fun n x w'=> ∃g,Stp w σ w' g∧SLe J g∧V7 w.heap.size T.b 8 U9 g w' x (Q3F++(U5.take n).map gMk)) ⟨J,C,SLe.refl _,u.up m⟩ fun n x w4 d hn o=>?_
 obtain ⟨O,e,c,f⟩:=o
 refine Q8 (q.lift c) ?_
 refine Y9 ?_
 refine Q7 (fun B=>?_) (fun B=>?_)
 ·have a:n<U5.length:=by simpa using B
  have p:=q.lift c
  refine Y1 p a ?_
  obtain ⟨U,H⟩:=p.elS a
  refine X7 e.sat U rfl ?_
  have M:(Q3F++(U5.take n).map gMk).length≤8:=by
   rw[List.length_append,List.length_map,List.length_take,show Q3F.length=2 from rfl];omega
  have k:(U5.take (n+1)).map gMk=(U5.take n).map gMk++[gMk U5[n]]:=by
   rw[List.take_add_one,List.getElem?_eq_getElem a,List.map_append];rfl
  generalize U5[n]=t at H k
  refine W1 (cells:= #[S t,S L5, .slice none 0 0, .bool false, .bool false, .bool true, .slice none 0 0, .slice none 0 0]) (by kernel_rfl) ?_
  have N:U9 O (gMk t) [S t,S L5, .slice none 0 0, .bool false, .bool false, .bool true, .slice none 0 0, .slice none 0 0]:=⟨_,_,_,rfl,Sl.nil,Sl.nil,Sl.nil,H,(by decide:L5.length≤U2)⟩
  refine Jp (x:=gMk t) e f N rfl rfl rfl (by omega) (by omega) fun s A Z Q D y z _=>?_
  refine N3 ?_
  refine J5 (by omega) a ⟨Q,y,c.more D.le,?_⟩
  rw[k,←List.append_assoc];exact z
 ·have a: ¬n<U5.length:=by simpa using B
  rw[List.take_of_length_le (by omega),←Q7c] at f
  exact h _ _ _ e f)
end Go.Proofs.YtjdiakhipmggjaaGreatDoor

namespace Go.Proofs.YtjdiakhipmggjaaGreatDoor
open Go.Emb Go.RowKit Go.Kd Go.Hm
variable {w : World} {K : Value → World → Prop} {σ : Q6}
end Go.Proofs.YtjdiakhipmggjaaGreatDoor

namespace Go.Hm
open Go.Kd
def Edge (l:List Cla) (i j:Nat):Prop:= ∃c,l[i]? =some c∧ ∃u∈U4 c,Z3 l u=some j
inductive Thr (E : Nat → Nat → Prop) (n : Nat) : Nat → Nat → Prop
  | one {i j : Nat} : E i j → Thr E n i j
  | more {i m j : Nat} : E i m → m < n → Thr E n m j → Thr E n i j
theorem Thr.cut {E:Nat→Nat→Prop} {n i j:Nat} (h:Thr E (n+1) i j):Thr E n i j∨(Thr E n i n∧Thr E n n j):=by
 induction h with
 | one h=>exact .inl (.one h)
 | @more i m j d f _ c=>
  by_cases e:m<n
  ·rcases c with c | ⟨a,b⟩
   ·exact .inl (.more d e c)
   ·exact .inr ⟨.more d e a,b⟩
  ·obtain rfl:m=n:=by omega
   rcases c with c | ⟨a,b⟩
   ·exact .inr ⟨.one d,c⟩
   ·exact .inr ⟨.one d,b⟩
theorem Thr.join {E:Nat→Nat→Prop} {n i k j:Nat} (h:Thr E n i k) (a:k<n) (g:Thr E n k j):Thr E n i j:=by
 induction h with
 | one h=>exact .more h a g
 | more c d _ b=>exact .more c d (b a g)
theorem Q4C {l:List Cla} (f:T9 l) {i j:Nat} (e:i<l.length):Edge l i j↔j<l.length∧ ∃u∈U4 l[i],u=Y3 l j∧Z3 l u=some j:=by
 unfold Edge
 rw[List.getElem?_eq_getElem e]
 constructor
 ·rintro ⟨c,d,u,b,a⟩
  cases d
  exact ⟨(S8 a).1,u,b,(S8 a).2.symm,a⟩
 ·rintro ⟨_,u,b,_,a⟩
  exact ⟨_,rfl,u,b,a⟩
theorem X1m {l:List Cla} (b:T9 l) {i:Nat} (a:i<l.length):lk l (Y3 l i)=some l[i]:=by
 have:=Yh b a
 rwa [List.getD_eq_getElem?_getD,List.getElem?_eq_getElem a] at this
theorem X1l {l:List Cla} (a:T9 l) {i j:Nat} (b:i<l.length) (h:Thr (Edge l) l.length i j):j<l.length∧Ww (lk l) (Y3 l i) (Y3 l j):=by
 induction h with
 | one h=>
  obtain ⟨d,u,e,f,g⟩:=(Q4C a b).1 h
  obtain ⟨c,n,_⟩:=Zk g
  refine ⟨d,_,X1m a b,u,e,?_⟩
  subst f;exact .refl n
 | more d p _ k=>
  obtain ⟨o,m⟩:=k p
  obtain ⟨_,u,e,f,g⟩:=(Q4C a b).1 d
  refine ⟨o,_,X1m a b,u,e,?_⟩
  subst f;exact m.reach
theorem Q9m {l:List Cla} (y:T9 l) {a b:X0} (h:Hm.Reach (lk l) a b): ∀i j,Z3 l a=some i→Z3 l b=some j→i=j∨Thr (Edge l) l.length i j:=by
 induction h with
 | refl _=>
  intro i j m f;rw[m] at f;cases f;exact .inl rfl
 | step r p q t=>
  rename_i a u b c
  intro i j m f
  obtain ⟨d,v⟩:=q.left
  obtain ⟨_,_,k,n,s⟩:=V3 v
  obtain ⟨w,e,g,_⟩:=Zk m
  rw[r] at e;cases e
  have o:Edge l i k:=⟨c,g,u,p,n⟩
  rcases t k j n f with rfl | hT
  ·exact .inr (.one o)
  ·exact .inr (.more o (S8 n).1 hT)
theorem X0S {l:List Cla} (a:T9 l) {i j:Nat} (n:i<l.length) (o:j<l.length) (h:Ww (lk l) (Y3 l i) (Y3 l j)):Thr (Edge l) l.length i j:=by
 obtain ⟨c,m,u,p,g⟩:=h
 rw[X1m a n] at m;cases m
 obtain ⟨d,q⟩:=g.left
 obtain ⟨_,_,k,e,r⟩:=V3 q
 have f:Edge l i k:=⟨_,List.getElem?_eq_getElem n,u,p,e⟩
 have b:Z3 l (Y3 l j)=some j:=by
  have:=a.find (List.getElem?_eq_getElem o)
  unfold Y3
  rw[List.getD_eq_getElem?_getD,List.getElem?_eq_getElem o];exact this
 rcases Q9m a g k j e b with rfl | hT
 ·exact .one f
 ·exact .more f (S8 e).1 hT
theorem X24 {l:List Cla} (b:T9 l) {i j:Nat} (a:i<l.length) (c:j<l.length):Thr (Edge l) l.length i j↔Xi l (Y3 l i) (Y3 l j)=true:=by
 rw[Uc]
 exact ⟨fun h=>(X1l b a h).2,X0S b a c⟩
def I7 (l:List Cla):List (List Bool):=(List.range l.length).map fun i=>(List.range l.length).map fun j=>Xi l (Y3 l i) (Y3 l j)
def Fj (m:Nat→Nat→Bool) (i j:Nat) (b:Bool):Nat→Nat→Bool:=fun x y=>if x=i∧y=j then b else m x y
structure Clos (E : Nat → Nat → Prop) (n k i j : Nat) (m : Nat → Nat → Bool) : Prop where
  sound : ∀ a b, m a b = true → Thr E n a b
  full : ∀ a b, a < n → b < n → Thr E k a b → m a b = true
  done : ∀ a b, a < n → b < n → (a < i ∨ (a = i ∧ b < j)) → Thr E (k + 1) a b → m a b = true
theorem Clos.next {E:Nat→Nat→Prop} {n k i j:Nat} {m:Nat→Nat→Bool} (h:Clos E n k i j m) (o:k<n) (s:i<n) (t:j<n):Clos E n k i (j+1) (Fj m i j (m i j||(m i k&&m k j))):=by
 have f: ∀a b,m a b=true→Fj m i j (m i j||(m i k&&m k j)) a b=true:=by
  intro a b c
  unfold Fj
  split
  ·rename_i e;rw[←e.1,←e.2,c];rfl
  ·exact c
 refine ⟨fun a b c=>?_,fun a b q p g=>f a b (h.full a b q p g),fun a b q p r g=>?_⟩
 ·unfold Fj at c
  split at c
  ·rename_i e
   obtain ⟨rfl,rfl⟩:=e
   simp only[Bool.or_eq_true,Bool.and_eq_true] at c
   rcases c with d | ⟨d,l⟩
   ·exact h.sound _ _ d
   ·exact (h.sound _ _ d).join o (h.sound _ _ l)
  ·exact h.sound _ _ c
 ·by_cases e:a=i∧b=j
  ·obtain ⟨rfl,rfl⟩:=e
   unfold Fj
   rw[if_pos ⟨rfl,rfl⟩]
   rcases g.cut with d | ⟨d,l⟩
   ·rw[h.full _ _ s t d];rfl
   ·rw[h.full _ _ s o d,h.full _ _ o t l];simp
  ·refine f a b (h.done a b q p ?_ g)
   rcases r with d | ⟨d,l⟩
   ·exact .inl d
   ·right;refine ⟨d,?_⟩
    have:b≠j:=fun u=>e ⟨d,u⟩
    omega
theorem Clos.row {E:Nat→Nat→Prop} {n k i:Nat} {m:Nat→Nat→Bool} (h:Clos E n k i n m):Clos E n k (i+1) 0 m:=
 ⟨h.sound,h.full,fun a b f d e c=>h.done a b f d (by omega) c⟩
theorem Clos.round {E:Nat→Nat→Prop} {n k:Nat} {m:Nat→Nat→Bool} (h:Clos E n k n 0 m):Clos E n (k+1) 0 0 m:=
 ⟨h.sound,fun a b c e d=>h.done a b c e (.inl c) d,fun a b c e f d=>by omega⟩
theorem Clos.start {E:Nat→Nat→Prop} {n:Nat} {m:Nat→Nat→Bool} (h: ∀a b,a<n→(m a b=true↔E a b)) (j: ∀a b,n≤a→m a b=false):Clos E n 0 0 0 m:=by
 refine ⟨fun a b c=>?_,fun a b d g f=>?_,fun a b d g i f=>by omega⟩
 ·by_cases d:a<n
  ·exact .one ((h a b d).1 c)
  ·rw[j a b (by omega)] at c;cases c
 ·cases f with
  | one e=>exact (h a b d).2 e
  | more _ k _=>omega
theorem Clos.all {l:List Cla} (c:T9 l) {m:Nat→Nat→Bool} (h:Clos (Edge l) l.length l.length 0 0 m) {i j:Nat} (a:i<l.length) (b:j<l.length):m i j=Xi l (Y3 l i) (Y3 l j):=by
 rw[Bool.eq_iff_iff,←X24 c a b]
 exact ⟨h.sound i j,h.full i j a b⟩
end Go.Hm

namespace Go.Emb
open Go.RowKit Go.Hm
variable {P : Program} {w w0 w1 w' w'' : World} {K : Value → World → Prop} {σ σ0 σ1 σ' : Q6}
theorem X3d {t e:TypeId} {a n:Nat} {z:Value} [ts:TS P t e] [tz:TZ P e 1 a z] (j:X3 w σ) (k:z.cells= #[z]) (p:n≤1000000) (o:a*n≤281474976710656)
 (h: ∀b w',w.heap.size≤b→Stp w σ w' σ→Y2 σ w' b (List.replicate n z)→K (.slice (some ⟨b,0,none⟩) n n) w'):Li P t (I n) (I n) w K:=by
 obtain ⟨i,m,d,f,c⟩:=tz.info
 have g:(i.bytes:Int)*(n:Int)≤281474976710656:=by
  rw[f]
  have:((a*n:Nat):Int)≤281474976710656:=by omega
  rwa [Int.natCast_mul] at this
 have l:=run_makeSlice (P:=P) w t e i z ts.h m c .i64 .i64 (n:Int) (n:Int) (by omega) (Int.le_refl _) (by rw[d];simp only[Int.toNat_natCast];omega) g (by omega)
 unfold Li
 rw[Y0 l]
 simp only[Int.toNat_natCast,d,Nat.mul_one]
 refine h _ _ (Nat.le_refl _) (Stp.own j _) ⟨j.none (Nat.le_refl _),e,?_⟩
 rw[heap_alloc_new,k]
 have:madeCells #[z] n=(List.replicate n z).toArray:=by rw[←toList_madeCells_one,Array.toArray_toList]
 rw[this]
def Q5M (n:Nat) (_:Q6) (b:Nat) (cs:List Value):Prop:=cs=[.slice (some ⟨b,0,none⟩) n n]
instance (n:Nat):Rep (Q5M n):=⟨fun _ h=>h,fun h u hu=>by rw[h] at hu;simp at hu;subst hu;rfl⟩
def Q5L (σ:Q6) (xs:List Bool) (cs:List Value):Prop:= ∃v,cs=[v]∧Sl 1 Q3f σ v xs
instance:Rep Q5L:=⟨fun k h=>by obtain ⟨v,h1,h2⟩:=h;exact ⟨v,h1,h2.le k⟩,fun h u hu=>by
 obtain ⟨v,rfl,a,cap,rfl,_⟩:=h
 simp at hu;subst hu;rfl⟩
def bools (n:Nat) (f:Nat→Bool):List Value:=(List.range n).map fun j=> .bool (f j)
theorem Q14 {n:Nat} {f:Nat→Bool}:(bools n f).length=n:=by simp[bools]
theorem Q4z {n j:Nat} {f:Nat→Bool} (h:j<n):(bools n f)[j]? =some (.bool (f j)):=by simp[bools,h]
theorem Q4w {n j:Nat} {f:Nat→Bool} {b:Bool}:(bools n f).set j (.bool b)=bools n (fun x=>if x=j then b else f x):=by
 apply List.ext_getElem?
 intro k
 rw[List.getElem?_set]
 by_cases a:k<n
 ·by_cases e:j=k
  ·subst e;simp[bools,a]
  ·have c: ¬k=j:=fun h=>e h.symm
   simp[bools,a,e,c]
 ·simp[bools,a]
  intro e;omega
theorem Q7l {n:Nat}:List.replicate n (Value.bool false)=bools n fun _=>false:=by
 apply List.ext_getElem?
 intro k
 by_cases a:k<n<;>simp[bools,a]
def Xb (σ:Q6) (w:World) (a:List Nat) (n:Nat) (m:Nat→Nat→Bool):Prop:=a.Nodup∧ ∀i (h:i<a.length),Y2 σ w a[i] (bools n (m i))
theorem Xb.up {a:List Nat} {n:Nat} {m:Nat→Nat→Bool} (h:Xb σ w a n m) (k:Stp w σ w' σ'):Xb σ' w' a n m:=⟨h.1,fun i b=>(h.2 i b).up k⟩
theorem Xb.kp {a:List Nat} {n:Nat} {m:Nat→Nat→Bool} {D:Nat→Prop} (h:Xb σ w a n m) (k:Kpt D w w') (d: ∀b∈a,¬D b):Xb σ w' a n m:=⟨h.1,fun i c=>(h.2 i c).kp k (d _ (List.getElem_mem c))⟩
theorem Xb.lt {c:List Nat} {n:Nat} {m:Nat→Nat→Bool} (h:Xb σ w c n m) {b:Nat} (d:b∈c):b<w.heap.size∧σ b=none:=by
 obtain ⟨i,a,rfl⟩:=List.getElem_of_mem d
 exact ⟨(h.2 i a).lt,(h.2 i a).1⟩
theorem Xb.snoc {d:List Nat} {n b:Nat} {m:Nat→Nat→Bool} {f:Nat→Bool} (h:Xb σ w d n m) (l:b∉d) (p:Y2 σ w b (bools n f)):Xb σ w (d++[b]) n (fun x=>if x=d.length then f else m x):=by
 refine ⟨by rw[List.nodup_append];exact ⟨h.1,by simp,fun a o c g e=>by simp at g;subst g;subst e;exact l o⟩,fun i k=>?_⟩
 rw[List.length_append,List.length_singleton] at k
 by_cases j:i<d.length
 ·rw[List.getElem_append_left j]
  simp only[if_neg (show¬i=d.length by omega)]
  exact h.2 i j
 ·obtain rfl:i=d.length:=by omega
  simp only[List.getElem_concat_length,if_true]
  exact p
theorem Xb.congr {a:List Nat} {n:Nat} {m m':Nat→Nat→Bool} (h:Xb σ w a n m) (c: ∀i,i<a.length→m i=m' i):Xb σ w a n m':=⟨h.1,fun i b=>c i b▸h.2 i b⟩
theorem Xb.keep {a:List Nat} {n:Nat} {m:Nat→Nat→Bool} (V:0<n) (s:n≤1000000): ∀{σ:Q6},Xb σ w a n m→Stp w0 σ0 w σ→(∀b∈a,w0.heap.size≤b)→ ∃σ',Stp w0 σ0 w σ'∧SLe σ σ'∧ ∀i (h:i<a.length),Sl 1 Q3f σ' (.slice (some ⟨a[i],0,none⟩) n n) ((List.range n).map (m i)):=by
 intro σ h Q H
 have key: ∀k,k≤a.length→ ∃σ',Stp w0 σ0 w σ'∧SLe σ σ'∧(∀i (h:i<a.length),i<k→Z6 σ' ⟨a[i],0,none⟩ (bools n (m i)))∧ ∀i (h:i<a.length),k≤i→σ' a[i]=none:=by
  intro k
  induction k with
  | zero=>intro _;exact ⟨σ,Q,SLe.refl _,fun i _ h=>by omega,fun i c _=>(h.2 i c).1⟩
  | succ k J=>
   intro U
   obtain ⟨σ1,g,q,f,t⟩:=J (by omega)
   have d:k<a.length:=by omega
   have B:Y2 σ1 w a[k] (bools n (m k)):=⟨t k d (Nat.le_refl _),(h.2 k d).2⟩
   obtain ⟨C,L,M,r,A⟩:=B.keep g (H _ (List.getElem_mem d))
   refine ⟨C,L,q.more ⟨r⟩,fun i c E=>?_,fun i c z=>?_⟩
   ·by_cases e:i=k
    ·subst e;exact M
    ·exact (f i c (by omega)).le r
   ·rw[A]
    ·exact t i c (by omega)
    ·intro e
     have:=List.nodup_iff_pairwise_ne.1 h.1
     rw[List.pairwise_iff_getElem] at this
     exact this k i d c (by omega) e.symm
 obtain ⟨σ1,g,q,f,_⟩:=key a.length (Nat.le_refl _)
 refine ⟨σ1,g,q,fun i c=>⟨some ⟨a[i],0,none⟩,n,by simp,by simp,by simp only[maxLen];omega,fun e=>(by cases e),?_⟩⟩
 intro b y
 obtain rfl:=Option.some.inj y
 refine ⟨fun _=>rfl,fun j x p=>?_⟩
 have u:j<n:=by have:=(List.getElem?_eq_some_iff.1 p).1;simpa using this
 obtain ⟨R,arr,e,O,D,N⟩:=f i c c
 have o:x=m i j:=by simp[u] at p;exact p.symm
 refine ⟨[.bool x],⟨I8 rfl _,arr,e,O,by rw[S9];exact D,fun k v l=>?_⟩,rfl,rfl⟩
 obtain rfl:k=0:=by cases k with
  | zero=>rfl
  | succ k=>simp at l
 simp at l
 rw[Qh,←l,o]
 have:=N j _ (Q4z u)
 simpa using this
end Go.Emb

namespace Go.Emb
open Go.RowKit Go.Hm
variable {P : Program} {w w0 w1 w' w'' : World} {K : Value → World → Prop} {σ σ0 σ1 σ' : Q6}
theorem Q1z {t e:TypeId} {sz c:Nat} {z:Value} [ts:TS P t e] [tz:TZ P e sz c z] {a:Addr} {n b i:Nat} (f:i<n) (d:K (.pointer (some (a.add (i*sz)))) w):indexAddr P t (.slice (some a) n b) (I i) w K:=by
 rw[Sr (by omega) (by omega)]
 simpa using d
theorem Xb.nx {D:Nat→Prop} {a:List Nat} {n:Nat} {m:Nat→Nat→Bool} (h:Xb σ w a n m) (k:Nxt D w σ w' σ') (d: ∀b∈a,¬D b):Xb σ' w' a n m:=
 ⟨h.1,fun i c=>(h.2 i c).nx k (d _ (List.getElem_mem c))⟩
theorem Xb.set {a:List Nat} {n i j:Nat} {b:Bool} {m:Nat→Nat→Bool} (h:Xb σ w a n m) (f:i<a.length) (o:Upd w a[i] w') (g:Y2 σ w' a[i] ((bools n (m i)).set j (.bool b))):Xb σ w' a n (Fj m i j b):=by
 refine ⟨h.1,fun k c=>?_⟩
 by_cases e:k=i
 ·subst e
  rw[Q4w] at g
  have:Fj m k j b k=fun x=>if x=j then b else m k x:=by funext x;simp[Fj]
  rw[this];exact g
 ·have:Fj m i j b k=m k:=by funext x;simp[Fj,e]
  rw[this]
  refine (h.2 k c).upd o fun d=>e ?_
  rcases Nat.lt_trichotomy k i with hlt | hlt | hlt
  ·have:=List.nodup_iff_pairwise_ne.1 h.1
   rw[List.pairwise_iff_getElem] at this
   exact absurd d (this k i c f hlt)
  ·exact hlt
  ·have:=List.nodup_iff_pairwise_ne.1 h.1
   rw[List.pairwise_iff_getElem] at this
   exact absurd d.symm (this i k f c hlt)
end Go.Emb
namespace Go.Proofs.YtjdiakhipmggjaaGreatDoor
open Go.Emb Go.RowKit Go.Kd Go.Hm
variable {w : World} {K : Value → World → Prop} {σ : Q6} {l : List Cla} {v : Value}
def Nj (l:List Cla) (i j:Nat):Bool:=match l[i]? with
 | none=>false
 | some c=>(U4 c).any fun u=>decide (Z3 l u=some j)
theorem Q9B (l:List Cla) (i j:Nat):Nj l i j=true↔Hm.Edge l i j:=by
 unfold Nj Hm.Edge
 cases h:l[i]? with
 | none=>simp
 | some c=>simp[List.any_eq_true]
theorem X0o {l:List Cla} {i j:Nat} (h:l.length≤i):Nj l i j=false:=by
 unfold Nj
 rw[List.getElem?_eq_none h]
set_option maxHeartbeats 4000000 in
theorem Q17 (hs:X3 w σ) (hl:Sl 8 U9 σ v l) (ho:T9 l) (hpos:0<l.length) (hlen:l.length≤1000) (hsm: ∀c∈l,Qs c)
 (h: ∀v' w' σ',Stp w σ w' σ'→Sl 1 Q5L σ' v' (I7 l)→K v' w'):Q1 P F.aj [v] w K:=Tb (by
 unfold Ms
 refine Ej (R:=Q5M l.length) (e:=T.a6) (Stp.refl hs) (by decide) fun x0 w1 hk1 ha1 _=>?_
 refine E2 l.length (fun n x w'=> ∃σ' bs,Stp w σ w' σ'∧V7 w.heap.size T.a6 1 (Q5M l.length) σ' w' x bs∧Xb σ' w' bs l.length (Nj l)∧bs.length=n∧ ∀b∈bs,w.heap.size≤b∧x.ownBlock≠some b) ⟨σ,[],hk1,ha1,⟨List.nodup_nil,by simp⟩,rfl,by simp⟩ fun n x w2 d hn hinv=>?_
 obtain ⟨σ2,bs,hS2,ha2,hM2,hbl,hb2⟩:=hinv
 refine Q8 (hl.up hS2) ?_
 refine Y9 ?_
 refine Q7 (fun hc=>?_) (fun hc=>?_)
 ·have hn':n<l.length:=by simpa using hc
  have hl2:=hl.up hS2
  refine Q8 hl2 ?_
  refine X3d hS2.sat rfl (by omega) (by omega) fun b w3 hb3 hk3 hm3=>?_
  rw[Q7l] at hm3
  obtain ⟨lv,fv,mv,p1,r1⟩:=hl2.elC hn'
  obtain ⟨g1,_,_,g4,g5⟩:=r1.parts
  have hsmc:=hsm _ (List.getElem_mem hn')
  have hs3:=hk3.sat
  refine U0 hs3 ?_
  (repeat refine Z9 Qa ?_)
  refine Q1P (w:=w3) (σ:=σ2) (R:=U8) (sz:=1) (e:=T.c) [l[n].super] (fun t w hb e=>?_) ?_
  ·subst e;exact Zf hb.stp [_] [l[n].super] rfl rfl (by simp;rfl) rfl ⟨⟨rfl,g5⟩,trivial⟩ fun v' w' hk ha _=>Q3h hb hk ha
  (repeat refine Z9 Qa ?_)
  rintro t24 t25 t30 t31 t26 t27 t32 w4 hb4 rfl rfl rfl rfl rfl ⟨f27,a27⟩ rfl
  refine Wm f27 a27 g1 rfl (by simp;have:=hsmc.1;omega) (by simp;have:=hsmc.1;omega) fun v5 w5 hn5 hS5 ha5 hat5=>?_
  obtain ⟨σ6,hS6,hv6,le6,_⟩:=ha5.keep hS5
  have hv6:Sl 1 U8 σ6 v5 (U4 l[n]):=hv6
  have hb3w:w.heap.size≤b:=Nat.le_trans hS2.bel.size hb3
  have hm6:=hm3.up hS6
  have ha6:=(ha2.up hk3).up hS6
  have hM6:=(hM2.up hk3).up hS6
  have hS26:=(hS2.trans hk3).trans hS6
  have hxb: ∀k,x.ownBlock=some k→k≠b:=fun k e=>by have:=(ha2.mem k e).2.1;omega
  have hbbs:b∉bs:=fun e=>by have:=(hM2.lt e).1;omega
  clear hm3 ha2 hM2 hS6 hS5 ha5 a27 f27 hn5 hat5
  refine U3 (U4 l[n]).length (fun k w'=>Stp w σ w' σ6∧V7 w.heap.size T.a6 1 (Q5M l.length) σ6 w' x bs∧Xb σ6 w' bs l.length (Nj l)∧Y2 σ6 w' b (bools l.length fun j=>((U4 l[n]).take k).any fun u=>decide (Z3 l u=some j)))
   ⟨hS26,ha6,hM6,hm6⟩ fun k w7 d7 hk hinv=>?_
  obtain ⟨hS7,ha7,hM7,hm7⟩:=hinv
  refine Q8 hv6 ?_
  refine Y9 ?_
  refine Q7 (fun hc=>?_) (fun hc=>?_)
  ·have hk':k<(U4 l[n]).length:=by simpa using hc
   refine V0 ?_
   refine Y1 hv6 hk' ?_
   obtain ⟨p2,p3⟩:=hv6.elS hk'
   refine X7 hS7.sat p2 rfl ?_
   refine K0 hS7.sat (hl.up hS7) ?_
   refine P7 ?_
   rw[A5]
   have hnx: ∀f:Nat→Bool,(∀j,f j=(((U4 l[n]).take k).any (fun u=>decide (Z3 l u=some j))||decide (Z3 l (U4 l[n])[k]=some j)))→f=fun j=>((U4 l[n]).take (k+1)).any fun u=>decide (Z3 l u=some j):=by
    intro f hf;funext j;rw[hf,L2 hk']
   cases hfc:Z3 l (U4 l[n])[k] with
   | none=>
    simp only[Option.isSome_none,↓M1,M1,Mb,reduceIte]
    intro d
    refine Y5 hv6.max hk' ⟨hS7,ha7,hM7,?_⟩
    rw[←hnx (fun j=>((U4 l[n]).take k).any fun u=>decide (Z3 l u=some j)) (fun j=>by rw[hfc];simp)]
    exact hm7
   | some j=>
    have hj:=(S8 hfc).1
    simp only[Option.isSome_some,L6,↓M1,M1,Mb,reduceIte]
    refine Q1z hj ?_
    rw[Nat.mul_one]
    refine Jz hm7 (by rw[Q14];exact hj) (by rfl) (by rfl) fun w8 u8 hm8=>?_
    intro d
    rw[Q4w] at hm8
    refine Y5 hv6.max hk' ⟨u8.stp hS7 hb3w hm7.1,ha7.kp (D:=(· =b)) (.of_upd u8 rfl) hxb,hM7.kp (D:=(· =b)) (.of_upd u8 rfl) (fun c hc e=>hbbs (e▸hc)),?_⟩
    rw[←hnx (fun x=>if x=j then true else _) (fun i=>?_)]
    ·exact hm8
    ·rw[hfc]
     by_cases e:i=j
     ·subst e;simp
     ·have: ¬j=i:=fun e'=>e e'.symm
      simp[e,this]
  ·have hk': ¬k<(U4 l[n]).length:=by simpa using hc
   have hk0:k=(U4 l[n]).length:=by omega
   subst hk0
   rw[List.take_of_length_le (Nat.le_refl _)] at hm7
   have hef:(fun j=>(U4 l[n]).any fun u=>decide (Z3 l u=some j))=Nj l n:=by
    funext j;unfold Nj;rw[List.getElem?_eq_getElem hn']
   rw[hef] at hm7
   have hM8:=(hM7.snoc hbbs hm7).congr (m':=Nj l) (fun i _=>by
    by_cases e:i=bs.length
    ·rw[if_pos e,e,hbl]
    ·rw[if_neg e])
   refine Jp (R:=Q5M l.length) (x:=b) hS7 ha7 rfl rfl rfl rfl (by omega) (by omega) fun s v' w9 σ9 hnx hS9 ha9 hat=>?_
   have hdis: ∀c∈bs++[b],w.heap.size≤c∧x.ownBlock≠some c:=by
    intro c hc
    rcases List.mem_append.1 hc with hc | hc
    ·exact hb2 c hc
    ·simp at hc;subst hc;exact ⟨hb3w,fun e=>hxb _ e rfl⟩
   have hlt9: ∀c∈bs++[b],c<w7.heap.size:=fun c hc=>(hM8.lt hc).1
   refine N3 ?_
   refine J5 (by omega) hn' ⟨σ9,bs++[b],hS9,ha9,hM8.nx hnx (fun c hc=>(hdis c hc).2),by rw[List.length_append,hbl];rfl,fun c hc=>⟨(hdis c hc).1,fun e=>?_⟩⟩
   rcases hat with hat | hat
   ·exact (hdis c hc).2 (hat▸e)
   ·have:=hat c e;have:=hlt9 c hc;omega
 ·have hn0:n=l.length:=by
   have: ¬n<l.length:=by simpa using hc
   omega
  obtain ⟨σ8,hS8,hv8,le8,old8⟩:=ha2.keep hS2
  have hlb:bs.length=l.length:=by omega
  have hM8:Xb σ8 w2 bs l.length (Nj l):=⟨hM2.1,fun i hi=>⟨(old8 _ (fun e=>(hb2 _ (List.getElem_mem hi)).2 e.symm)).trans (hM2.2 i hi).1,(hM2.2 i hi).2⟩⟩
  have hpx: ∀i (hi:i<bs.length),Z6 σ8 (Wj 1 x i) [.slice (some ⟨bs[i],0,none⟩) l.length l.length]:=fun i hi=>by
   obtain ⟨cs,h1,_,h2⟩:=hv8.el hi
   have h2:cs=_:=h2
   subst h2;exact h1
  clear ha2 hM2 hS2 le8 old8
  refine U3 l.length (fun k w'=> ∃m,Stp w σ w' σ8∧Xb σ8 w' bs l.length m∧Clos (Hm.Edge l) l.length k 0 0 m) ⟨Nj l,hS8,hM8,Clos.start (fun a b _=>Q9B l a b) (fun a b h=>X0o h)⟩ fun k w3 d3 hk3 hinv=>?_
  obtain ⟨m3,hS3,hM3,hC3⟩:=hinv
  refine Q8 (hl.up hS3) ?_
  refine Y9 ?_
  refine Q7 (fun hc=>?_) (fun hc=>?_)
  ·have hk':k<l.length:=by simpa using hc
   refine U3 l.length (fun i w'=> ∃m,Stp w σ w' σ8∧Xb σ8 w' bs l.length m∧Clos (Hm.Edge l) l.length k i 0 m) ⟨m3,hS3,hM3,hC3⟩ fun i w4 d4 hi4 hinv=>?_
   obtain ⟨m4,hS4,hM4,hC4⟩:=hinv
   refine Q8 (hl.up hS4) ?_
   refine Y9 ?_
   refine Q7 (fun hc=>?_) (fun hc=>?_)
   ·have hi':i<l.length:=by simpa using hc
    refine U3 l.length (fun j w'=> ∃m,Stp w σ w' σ8∧Xb σ8 w' bs l.length m∧Clos (Hm.Edge l) l.length k i j m) ⟨m4,hS4,hM4,hC4⟩ fun j w5 d5 hj5 hinv=>?_
    obtain ⟨m5,hS5,hM5,hC5⟩:=hinv
    refine Q8 (hl.up hS5) ?_
    refine Y9 ?_
    refine Q7 (fun hc=>?_) (fun hc=>?_)
    ·have hj':j<l.length:=by simpa using hc
     have hi6:i<bs.length:=by omega
     have hk6:k<bs.length:=by omega
     have px_i:=hpx i hi6
     have px_k:=hpx k hk6
     have hrd: ∀{w':World} {K:Value→World→Prop} {a b:Nat} {ha:a<bs.length},Hst w5 σ8 w' σ8→b<l.length→K (.bool (m5 a b)) w'→Q2 P T.u (.pointer (some ((⟨bs[a],0,none⟩:Addr).add (b*1)))) w' K:=fun hst hb hK=>by
      rw[Nat.mul_one]
      exact Qg (((hM5.up hst.stp).2 _ _).cell (Q4z hb)) hK
     refine U0 hS5.sat ?_
     (repeat (apply Z9;(· intros;(repeat (rename_i hx;subst hx));(repeat' (first | (with_reducible exact L7 rfl) | (with_reducible exact R9 (Stp.bel (by (repeat (first | exact Stp.refl (by (first | assumption | exact Stp.sat (by assumption) | exact Hst.sat (by assumption))) | assumption | refine Stp.trans ?_ (by first | assumption | exact Hst.stp (by assumption)))))) rfl) | (with_reducible intro _) | (simp only[↓M2,M2,Mb,reduceIte]) | (with_reducible refine Q1z au ?_) | (with_reducible refine hrd au au ?_) | (with_reducible show Q2 _ _ _ _ _;first | refine X7 aS aL aR ?_ | refine Y4 aS aL aR ?_ | refine ld aS aL aR ?_) | (with_reducible show indexAddr _ _ _ _ _ _;refine Y1 aL au ?_) | (with_reducible show X2 _ _ _ _ _ _ _ _;refine Q8 aL ?_) | (with_reducible show B7 _ _ _ _ _ _;refine J3 aR ?_) | (with_reducible show pick _ _ _ _ _ _;refine M3 ?_) | (apply B8;intro hh;(try simp only[hh,reduceIte,↓M2,M2,Mb,reduceIte]))));done)))
     cases h1:m5 i j
     ·simp only[reduceIte]
      (repeat (apply Z9;(· intros;(repeat (rename_i hx;subst hx));(repeat' (first | (with_reducible exact L7 rfl) | (with_reducible exact R9 (Stp.bel (by (repeat (first | exact Stp.refl (by (first | assumption | exact Stp.sat (by assumption) | exact Hst.sat (by assumption))) | assumption | refine Stp.trans ?_ (by first | assumption | exact Hst.stp (by assumption)))))) rfl) | (with_reducible intro _) | (simp only[↓M2,M2,Mb,reduceIte]) | (with_reducible refine Q1z au ?_) | (with_reducible refine hrd au au ?_) | (with_reducible show Q2 _ _ _ _ _;first | refine X7 aS aL aR ?_ | refine Y4 aS aL aR ?_ | refine ld aS aL aR ?_) | (with_reducible show indexAddr _ _ _ _ _ _;refine Y1 aL au ?_) | (with_reducible show X2 _ _ _ _ _ _ _ _;refine Q8 aL ?_) | (with_reducible show B7 _ _ _ _ _ _;refine J3 aR ?_) | (with_reducible show pick _ _ _ _ _ _;refine M3 ?_) | (apply B8;intro hh;(try simp only[hh,reduceIte,↓M2,M2,Mb,reduceIte]))));done)))
      (intros;(repeat (rename_i hx;subst hx));(try simp only[↓M2,M2,Mb,reduceIte]))
      rename_i w6 hb6
      refine Q1z hj' ?_
      rw[Nat.mul_one]
      refine Eq.subst (motive:=fun V=>X9 P T.u (.pointer (some ((⟨bs[i],0,none⟩:Addr).add j))) V w6 _) (show Value.bool (m5 i j||(m5 i k&&m5 k j))=_ from by cases h2:m5 i k<;>simp[h1,h2]) ?_
      refine Jz ((hM5.up hb6.stp).2 i hi6) (by rw[Q14];exact hj') (by rfl) (by rfl) fun w7 u7 hm7=>?_
      (try simp only[↓M1,M1,Mb,reduceIte])
      exact Y5 (by omega) hj' ⟨_,u7.stp (hS5.trans hb6.stp) (hb2 _ (List.getElem_mem hi6)).1 hm7.1,(hM5.up hb6.stp).set hi6 u7 hm7,hC5.next hk' hi' hj'⟩
     ·simp only[Bool.true_eq_false,reduceIte]
      (repeat (apply Z9;(· intros;(repeat (rename_i hx;subst hx));(repeat' (first | (with_reducible exact L7 rfl) | (with_reducible exact R9 (Stp.bel (by (repeat (first | exact Stp.refl (by (first | assumption | exact Stp.sat (by assumption) | exact Hst.sat (by assumption))) | assumption | refine Stp.trans ?_ (by first | assumption | exact Hst.stp (by assumption)))))) rfl) | (with_reducible intro _) | (simp only[↓M2,M2,Mb,reduceIte]) | (with_reducible refine Q1z au ?_) | (with_reducible refine hrd au au ?_) | (with_reducible show Q2 _ _ _ _ _;first | refine X7 aS aL aR ?_ | refine Y4 aS aL aR ?_ | refine ld aS aL aR ?_) | (with_reducible show indexAddr _ _ _ _ _ _;refine Y1 aL au ?_) | (with_reducible show X2 _ _ _ _ _ _ _ _;refine Q8 aL ?_) | (with_reducible show B7 _ _ _ _ _ _;refine J3 aR ?_) | (with_reducible show pick _ _ _ _ _ _;refine M3 ?_) | (apply B8;intro hh;(try simp only[hh,reduceIte,↓M2,M2,Mb,reduceIte]))));done)))
      (intros;(repeat (rename_i hx;subst hx));(try simp only[↓M2,M2,Mb,reduceIte]))
      rename_i w6 hb6
      refine Q1z hj' ?_
      rw[Nat.mul_one]
      refine Eq.subst (motive:=fun V=>X9 P T.u (.pointer (some ((⟨bs[i],0,none⟩:Addr).add j))) V w6 _) (show Value.bool (m5 i j||(m5 i k&&m5 k j))=_ from by simp[h1]) ?_
      refine Jz ((hM5.up hb6.stp).2 i hi6) (by rw[Q14];exact hj') (by rfl) (by rfl) fun w7 u7 hm7=>?_
      (try simp only[↓M1,M1,Mb,reduceIte])
      exact Y5 (by omega) hj' ⟨_,u7.stp (hS5.trans hb6.stp) (hb2 _ (List.getElem_mem hi6)).1 hm7.1,(hM5.up hb6.stp).set hi6 u7 hm7,hC5.next hk' hi' hj'⟩
    ·have hj0:j=l.length:=by
      have: ¬j<l.length:=by simpa using hc
      omega
     subst hj0
     refine N3 ?_
     exact Y5 (by omega) hi' ⟨m5,hS5,hM5,hC5.row⟩
   ·have hi0:i=l.length:=by
     have: ¬i<l.length:=by simpa using hc
     omega
    subst hi0
    refine N3 ?_
    exact Y5 (by omega) hk' ⟨m4,hS4,hM4,hC4.round⟩
  ·have hk0:k=l.length:=by
    have: ¬k<l.length:=by simpa using hc
    omega
   subst hk0
   obtain ⟨σ9,hS9,le9,hrows⟩:=hM3.keep hpos (by omega) hS3 (fun b hb=>(hb2 b hb).1)
   refine h _ _ _ hS9 ((hv8.lift le9).conv (by simp[I7,hlb]) fun i hi hj cs hcs=>?_)
   have hcs:cs=_:=hcs
   subst hcs
   refine ⟨_,rfl,?_⟩
   have:=hrows i hi
   have he:(I7 l)[i]=(List.range l.length).map (m3 i):=by
    have hi':i<l.length:=by omega
    simp only[I7,List.getElem_map,List.getElem_range]
    apply List.map_congr_left
    intro j hj
    exact (Clos.all ho hC3 hi' (by simpa using hj)).symm
   rw[he];exact this)
end Go.Proofs.YtjdiakhipmggjaaGreatDoor

namespace Go.Emb
open Go.RowKit Go.Hm
end Go.Emb
namespace Go.Hm
end Go.Hm
namespace Go.Proofs.YtjdiakhipmggjaaGreatDoor
open Go.Emb Go.RowKit Go.Kd Go.Hm
variable {w : World} {K : Value → World → Prop} {σ : Q6} {l : List Cla}
end Go.Proofs.YtjdiakhipmggjaaGreatDoor

namespace Go.Emb
open Go.RowKit Go.Hm
variable {w w0 w1 w' w'' : World} {σ σ0 σ1 σ2 σ' : Q6}
theorem Stp.weak (h:Stp w σ1 w' σ2) (a: ∀b o,σ b=some o→σ1 b=some o):Stp w σ w' σ:=
 ⟨h.bel,fun b o e=>h.sat b o (h.le b o (a b o e)),fun _ _ e=>e,fun _ _=>rfl⟩
end Go.Emb
namespace Go.Proofs.YtjdiakhipmggjaaGreatDoor
open Go.Emb Go.RowKit Go.Kd Go.Hm
variable {w : World} {K : Value → World → Prop} {σ : Q6}
end Go.Proofs.YtjdiakhipmggjaaGreatDoor

namespace Go.Emb
open Go.RowKit Go.Hm
variable {w w' : World} {σ σ' : Q6}
theorem J9.raise {α:Type} {R:Q6→α→List Value→Prop} {B B' sz:Nat} {e:TypeId} {v:Value} {xs:List α} (h:J9 B' e sz R σ w v xs) (m: ∀k,v.ownBlock=some k→B≤k):J9 B e sz R σ w v xs:=by
 obtain ⟨a,j,rfl,o,r,d,n⟩:=h
 refine ⟨a,j,rfl,o,r,fun b c=>⟨(d b c).1,m _ (by subst c;rfl),(d b c).2.2⟩,fun p=>?_⟩
 obtain ⟨g,f,i,rfl,s,q⟩:=n p
 exact ⟨g,f,i,rfl,m g rfl,q⟩
end Go.Emb
namespace Go.Proofs.YtjdiakhipmggjaaGreatDoor
open Go.Emb Go.RowKit Go.Kd Go.Hm
variable {w w' : World} {K : Value → World → Prop} {σ σ' : Q6} {hp tv : Value} {room : Int} {cs : List Cel} {l : List Cla}
theorem RowsIs.rows {B:Nat} {D:Nat→Prop} {m:Value} (h:RowsIs B D σ w m cs) (y:X3 w σ): ∃vs σ',vs.length=cs.length∧X3 w σ'∧SLe σ σ'∧Sl 2 Q3Z σ' m (Xa vs cs)∧(∀i (h:i<vs.length) (z:i<cs.length),J9 B T.g 4 O3 σ w vs[i] cs[i].vals∧ ∀k,vs[i].ownBlock=some k→D k)∧(∀k,¬D k→σ' k=σ k)∧
 ∀i (h:i<vs.length) (z:i<cs.length) vals' f,Kpt (fun k=>vs[i].ownBlock=some k) w f→J9 B T.g 4 O3 σ f vs[i] vals'→RowsIs B D σ f m (cs.set i ⟨cs[i].kind,vals'⟩):=by
 obtain ⟨vs,t,g,u,hD⟩:=h.ex
 obtain ⟨p,o⟩:=List.pairwise_cons.1 u
 obtain ⟨σ',C,A,v,o1⟩:=t.freeze y
 refine ⟨vs,σ',g.1,C,A,v,fun i c d=>⟨g.2 i c d,fun k b=>(hD k).2 ⟨vs[i],by simp[List.getElem_mem c],b⟩⟩,fun k b=>o1 k fun e=>b ((hD k).2 ⟨m,by simp,e.symm⟩),fun i c d vals' f b E=>⟨vs,?_,⟨by simpa using g.1,fun j r q=>?_⟩,u,hD⟩⟩
 ·have e:Xa vs (cs.set i ⟨cs[i].kind,vals'⟩)=Xa vs cs:=by
   refine List.ext_getElem (by simp[Xa]) fun j H J=>?_
   simp only[Xa,List.getElem_zipWith,List.getElem_set]
   split
   ·rename_i e;subst e;rfl
   ·rfl
  rw[e]
  exact t.kp b fun k a n=>p _ (List.getElem_mem c) k a n
 ·have s:j<cs.length:=by simpa using q
  simp only[List.getElem_set]
  by_cases e:i=j
  ·subst e;simp only[if_pos];exact E
  ·simp only[if_neg e]
   refine (g.2 j r s).kp b fun k a n=>?_
   have hp:=List.pairwise_iff_getElem.1 o
   rcases Nat.lt_or_gt_of_ne e with hlt | hlt
   ·exact hp i j c r hlt k n a
   ·exact hp j i r c hlt k a n
theorem Q9n {i:Nat} (a:i<cs.length) {vals':List Val} (h:vals'.length=cs[i].vals.length):Z0 (cs.set i ⟨cs[i].kind,vals'⟩)=Z0 cs:=by
 unfold Z0
 rw[List.map_set]
 simp only[h]
 have b:1+(cs[i].vals.length:Int)=(cs.map (fun c=>1+(c.vals.length:Int)))[i]'(by simpa using a):=by simp
 rw[b,List.set_getElem_self]
set_option maxHeartbeats 1000000 in
theorem X1F {B:Nat} {D:Nat→Prop} {r i:Int} {v:Val} (hs:X3 w σ) (hg:Glb σ) (h:HeapIs B D σ w hp tv room cs) (ht:Tab σ tv l) (ok:Ok l) (good: ∀c∈cs,GoodC W7 l cs c) (hv:O3 σ v [I v.sort,I v.n,S v.s,I v.ref])
 (hh: ∀w' σ',Nxt D w σ w' σ'→HeapIs B D σ' w' hp tv room (H7 W7 l cs r i v).1→K (I (H7 W7 l cs r i v).2) w'):Q1 P F.b4 [hp,I r,I i, .agg [I v.sort,I v.n,S v.s,I v.ref].toArray] w K:=Q2a (by
 unfold Ra
 refine Z1 hs fun q w1 σ1 hk1 hq=>?_
 have h1:=h.up hk1
 have hs1:=hk1.sat
 obtain ⟨σf,sf,lef,hsl,_⟩:=h1.freeze hs1
 refine Q7R sf hsl ?_
 unfold H7 at hh
 refine Za ?_
 by_cases h0:E3 cs r i=0
 case neg=>
  have e:decide (E3 cs r i=0)=false:=decide_eq_false h0
  rw[if_pos h0] at hh
  rw[e]
  refine J7 ?_
  exact hh _ _ (.of_stp hk1) h1
 have e:decide (E3 cs r i=0)=true:=decide_eq_true h0
 rw[if_neg (fun hn=>hn h0)] at hh
 rw[e]
 refine Z7 ?_
 obtain ⟨j,m,rfl,rfl,hj,hm⟩:=Lw h0
 rw[L4 hj,Int.toNat_natCast] at hh
 have hsl0:=hsl
 obtain ⟨a,lv,rfl,la,ls⟩:=hsl
 obtain ⟨vv,p1,p2,p3⟩:=Sl.elO ls hj
 have hqf:=hq.lift lef
 have lesf:SLe σ σf:=SLe.more ⟨hk1.le⟩ lef
 have htf:=ht.lift lesf
 have hone:vv.cells= #[vv]∧vv.oneCell'=true:=by obtain ⟨a,c,rfl,_⟩:=p2;exact ⟨rfl,rfl⟩
 have hgc:=good cs[j] (List.getElem_mem hj)
 have hif:elem cs[j].kind=[]→m<(Y6 l cs[j].kind).length:=fun e=>by
  rcases hgc.is with h | h
  ·exact absurd e h
  ·rw[←h.2];exact hm
 refine U0 sf ?_
 (repeat (apply Z9;(· intros;(repeat (rename_i hx;subst hx));(repeat' (first | (with_reducible exact L7 rfl) | (with_reducible exact R9 (Stp.bel (by (repeat (first | exact Stp.refl (by (first | assumption | exact Stp.sat (by assumption) | exact Hst.sat (by assumption))) | assumption | refine Stp.trans ?_ (by first | assumption | exact Hst.stp (by assumption)))))) rfl) | (with_reducible intro _) | (simp only[↓M2,M2,Mb,reduceIte]) | (with_reducible show Q2 _ _ _ _ _;first | refine X7 aS aL aR ?_ | refine Y4 aS aL aR ?_ | refine ld aS aL aR ?_) | (with_reducible show indexAddr _ _ _ _ _ _;refine Y1 aL au ?_) | (with_reducible show X2 _ _ _ _ _ _ _ _;refine Q8 aL ?_) | (with_reducible show B7 _ _ _ _ _ _;refine J3 aR ?_) | (with_reducible show pick _ _ _ _ _ _;refine M3 ?_) | (with_reducible show Q1 _ _ _ _ _;first | refine X0j au au au au au au au ?_) | (apply B8;intro hh;(try simp only[hh,reduceIte,↓M2,M2,Mb,reduceIte]))));done)))
 (intros;(repeat (rename_i hx;subst hx)))
 rename_i w2 hb2
 refine X0m hb2.sat (hg.lift lesf) hsl0 htf ok hv.2.2.2.1 (Q2L ok p3 m) fun w3 σ3 hk3=>?_
 have hk13:=(hb2.stp.trans hk3).weak lef.le
 have h3:=h1.up hk13
 have hS3:=hk1.trans hk13
 have hs3:=hk13.sat
 refine Jj ?_
 cases hf:F4 W7 l cs v (Xl l cs[j].kind m) with
 | false=>
  rw[hf] at hh
  simp only[Bool.false_eq_true,if_false] at hh
  refine J7 ?_
  exact hh _ _ (.of_stp hS3) h3
 | true=>
  rw[hf] at hh
  simp only[if_true] at hh
  refine Z7 ?_
  obtain ⟨b,lv',E,hpe,hbB,hm3,hr3,hE,hD⟩:=h3.ex
  obtain ⟨vs,σg,hvl,sg,leg,slg,hrow,hog,hset⟩:=hr3.rows hs3
  obtain ⟨σh,sh,leh,lih,_⟩:=(show Y2 σg w3 b _ from ⟨(hog b hE).trans hm3.1,hm3.2⟩).freeze sg
  cases hpe
  have slh:=slg.lift leh
  have hqh:=(hq.up hk13).lift (leg.more leh)
  have hjv:j<vs.length:=by rw[hvl];exact hj
  have hjo:j<(Xa vs cs).length:=by rw[Du hvl];exact hj
  obtain ⟨cs5,p5,_,r5⟩:=slh.el hjo
  have eo:(Xa vs cs)[j]=(cs[j].kind,vs[j]):=by simp[Xa]
  rw[eo] at r5
  obtain ⟨rfl,_⟩:=r5
  refine U0 sh ?_
  (repeat refine Z9 Qa ?_)
  (intros;(repeat (rename_i hx;subst hx)))
  rename_i w4 hb4
  have hk34:=Stp.of_below hs3 hb4.stp.bel
  have N34:Nxt (fun _=>False) w3 σ1 w4 σ1:= .of_stp hk34
  obtain ⟨hrj,hrD⟩:=hrow j hjv hj
  have hrj4:=hrj.up hk34
  have hv1:O3 σ1 v [I v.sort,I v.n,S v.s,I v.ref]:=hv
  refine Q2W (w0:=Pj w4) (σ0:=fun _=>none) (x:=v) (Yt hk34.sat) (hrj4.mono (Nat.zero_le B)) hm rfl hv1 (Rep.one hv1) fun p u w5 hkp hb5 hq5=>?_
  have hkp5:Kpt (fun k=>vs[j].ownBlock=some k) w3 w5:=(Kpt.of_below hk34.bel).trans hkp
  have hr5:=hset j hjv hj _ w5 hkp5 (hq5.raise fun k hk=>(hrj.mem hk).1)
  have N35:Nxt (fun k=>vs[j].ownBlock=some k) w3 σ1 w5 σ1:=⟨hkp5,SLe.refl _,fun _ _=>rfl,hb5.sat⟩
  have hm5:=hm3.nx N35 fun e=>hE (hrD b e)
  have hsv:F6 cs j m v=cs.set j ⟨cs[j].kind,cs[j].vals.set m v⟩:=by unfold F6;rw[L4 hj,Int.toNat_natCast,Int.toNat_natCast]
  rw[hsv] at hh
  have htk:=Q9n hj (vals':=cs[j].vals.set m v) (by simp)
  refine hh w5 σ1 ((Nxt.of_stp hS3).chain N35 fun k _ e=>(hD k).2 (.inr (hrD k e))) ⟨b,lv',E,rfl,hbB,?_,hr5,hE,hD⟩
  rw[htk];exact hm5)
end Go.Proofs.YtjdiakhipmggjaaGreatDoor

namespace Go.Emb
open Go.RowKit Go.Hm
variable {P : Program} {w w' : World} {K : Value → World → Prop} {σ σ' : Q6}
theorem X3Y {c:List TypeId} {t:TypeId} {cs:List Bool} {k:IntKind} {a b:Int} (h:K (.int k (max a b)) w):X2 P .max c t cs [.int k a, .int k b] w K:=by
 have d:(builtin .max c.toArray t cs.toArray #[.int k a, .int k b]).run P w= .ok (.value (.int k (max a b))) w:=by
  have:=run_max_int2 (P:=P) (w:=w) c.toArray t k k a b
  have e:(if b>a then b else a)=max a b:=by split<;>omega
  rw[e] at this
  simp[builtin,this]
 unfold X2
 rw[T3];unfold P5
 rw[d];exact h
theorem X41 {c:List TypeId} {t:TypeId} {cs:List Bool} {k:IntKind} {a b:Int} (h:K (.int k (min a b)) w):X2 P .min c t cs [.int k a, .int k b] w K:=by
 have d:(builtin .min c.toArray t cs.toArray #[.int k a, .int k b]).run P w= .ok (.value (.int k (min a b))) w:=by
  have:=run_min_int2 (P:=P) (w:=w) c.toArray t k k a b
  have e:(if b<a then b else a)=min a b:=by split<;>omega
  rw[e] at this
  simp[builtin,this]
 unfold X2
 rw[T3];unfold P5
 rw[d];exact h
theorem X3X {α:Type} {R:Q6→α→List Value→Prop} {B sz:Nat} {e:TypeId} {v:Value} {xs ys:List α} {t:TypeId} {d:Nat} {z:Value} [ts:TS P t e] [tz:TZ P e sz d z] (h:J9 B e sz R σ w v (xs++ys))
 (n: ∀f,J9 B e sz R σ w f xs→f.ownBlock=v.ownBlock→K f w):S4 P t v none (some (I xs.length)) none w K:=by
 have k:=h
 obtain ⟨a,b,rfl,i,p,g,o⟩:=k
 rw[List.length_append] at i
 have c:J9 B e sz R σ w (.slice a xs.length b) xs:=h.pre rfl
 generalize (xs++ys).length=N at*
 have hh: ∀w:World,(Instr.sliceBounds true N b none (some (I xs.length)) none).run P w= .ok (0,xs.length,b) w:=by
  intro w
  have q:(xs.length:Int)≤b:=by omega
  have m:xs.length≤b:=by omega
  simp[Instr.sliceBounds,Instr.sliceBound,asIntOf,m]
  try (intros;omega)
 unfold S4
 have:(Instr.sliceAt t (.slice a N b) none (some (I xs.length)) none).run P w= .ok (.slice (if b=0 then a else a.map (·.add (0*sz))) (xs.length-0) (b-0)) w:=by
  simp[Instr.sliceAt,run_underlying ts.h,Instr.slice,hh,L3 tz]
 rw[Y0 this]
 have j:(if b=0 then a else a.map (·.add (0*sz)))=a:=by
  split
  ·rfl
  ·cases a<;>simp[add_zero]
 rw[j,Nat.sub_zero,Nat.sub_zero]
 exact n _ c (by cases a<;>rfl)
end Go.Emb
namespace Go.Proofs.YtjdiakhipmggjaaGreatDoor
open Go.Emb Go.RowKit Go.Kd Go.Hm
variable {w w' : World} {K : Value → World → Prop} {σ σ' : Q6} {hp tv : Value} {room : Int} {cs : List Cel} {l : List Cla}
theorem X2T {v:Val} {ds:List Value} {n:Int} {q:Addr} (d:X3 w σ) (f:O3 σ v ds) (c:Z6 σ q [I n]) (h: ∀w',Below w.heap.size w w'→K (.bool (G4 n v)) w'):Q1 P F.bF [.agg ds.toArray, .pointer (some q)] w K:=Am (by
 obtain ⟨rfl,_⟩:=f
 unfold Ow
 refine Z1 d fun g w1 σ1 a b=>?_
 unfold G4 at h
 refine W3 ?_
 refine ld a.sat b rfl ?_
 refine P4 ?_
 by_cases e:v.sort=4
 ·rw[decide_eq_true e] at h⊢
  (try simp only[↓M1,M1,Mb,reduceIte])
  refine ld a.sat b rfl ?_
  refine X7 a.sat (c.up a) rfl ?_
  (try simp only[↓M1,M1,Mb,reduceIte])
  exact h _ a.bel
 ·rw[decide_eq_false e] at h⊢
  (try simp only[↓M1,M1,Mb,reduceIte])
  exact h _ a.bel)
theorem Q9a {vs:List Value} {c:Cel} (h:vs.length=cs.length+1): ∃v,Xa vs (cs++[c])=Xa (vs.take cs.length) cs++[(c.kind,v)]:=by
 refine ⟨vs[cs.length],?_⟩
 have e:vs=vs.take cs.length++[vs[cs.length]]:=by
  rw[List.take_append_getElem (by omega)]
  rw[List.take_of_length_le (by omega)]
 conv=>lhs;rw[e]
 unfold Xa
 rw[List.zipWith_append (by simp;omega)]
 rfl
theorem X3S {B n:Nat} {D:Nat→Prop} {p:Value} {c:Cel} (A:n=cs.length) (h:RowsIs B D σ w p (cs++[c])) (y: ∀a D',RowsIs B D' σ w a cs→(∀j,D' j→D j)→K a w):S4 P T.f p none (some (I n)) none w K:=by
 subst A
 obtain ⟨vs,q,s,z,hD⟩:=h.ex
 have b:vs.length=cs.length+1:=by rw[s.1];simp
 obtain ⟨C,t⟩:=Q9a (c:=c) b
 rw[t] at q
 have u:cs.length=(Xa (vs.take cs.length) cs).length:=by rw[Du (by simp[b])]
 rw[u]
 refine X3X q fun a m r=>?_
 refine y a (fun k=> ∃v∈a::vs.take cs.length,v.ownBlock=some k) ⟨vs.take cs.length,m,⟨by simp[b],fun i E e=>?_⟩,?_,fun k=>Iff.rfl⟩ ?_
 ·have g:i<vs.length:=by omega
  have:=s.2 i g (by simp;omega)
  rw[List.getElem_append_left e] at this
  simpa using this
 ·obtain ⟨o,f⟩:=List.pairwise_cons.1 z
  exact List.pairwise_cons.2 ⟨fun v hv k d=>o v (List.mem_of_mem_take hv) k (r▸d),f.sublist (List.take_sublist _ _)⟩
 ·rintro k ⟨v,hv,d⟩
  rcases List.mem_cons.1 hv with rfl | hv
  ·exact (hD k).2 ⟨p,by simp,r▸d⟩
  ·exact (hD k).2 ⟨v,by simp[List.mem_of_mem_take hv],d⟩
set_option maxHeartbeats 2000000 in
theorem X45 {B:Nat} {D:Nat→Prop} {n:Int} (hs:X3 w σ) (h:HeapIs B D σ w hp tv room cs) (hl:Z0 cs≤1048576) (hn:Yn n)
 (hh: ∀w' σ' D',Nxt D w σ w' σ'→HeapIs B D' σ' w' hp tv room (Iz cs n)→(∀j,D' j→D j)→K (.tuple #[]) w'):Q1 P F.c4 [hp,I n] w K:=Q1W (by
 have hcl:=T6 cs
 unfold Hw
 refine Q5W hs fun b0 w1 hb0 hk1 hm1=>?_
 have hm1:Y2 σ w1 b0 [I n]:=hm1
 refine Q8N hm1 rfl ?_
 refine X3Y ?_
 refine st0 hm1 (by simp) rfl rfl fun w2 u2 hm2=>?_
 have hm2:Y2 σ w2 b0 [I (max n 0)]:=hm2
 unfold Iz at hh
 obtain ⟨m,hmE⟩:=Int.eq_ofNat_of_zero_le (show 0≤max n 0 by omega)
 rw[hmE] at hm2 hh
 have hmx:(m:Int)≤9223372036854775807:=by have:=hn.2;omega
 have hk2:Stp w σ w2 σ:=u2.stp hk1 hb0 hm1.1
 obtain ⟨σ2,hS2,hq2,le2,_⟩:=hm2.keep hk2 hb0
 have h2:=h.up hS2
 have hs2:=hS2.sat
 obtain ⟨σf,sf,lef,hsl,_⟩:=h2.freeze hs2
 rw[Int.toNat_natCast] at hh
 obtain ⟨a,lv,rfl,la,ls⟩:=hsl
 have hqf:=hq2.le lef.le
 refine U0 sf ?_
 (repeat (apply Z9;(· intros;(repeat (rename_i hx;subst hx));(repeat' (first | (with_reducible exact L7 rfl) | (with_reducible exact R9 (Stp.bel (by (repeat (first | exact Stp.refl (by (first | assumption | exact Stp.sat (by assumption) | exact Hst.sat (by assumption))) | assumption | refine Stp.trans ?_ (by first | assumption | exact Hst.stp (by assumption)))))) rfl) | (with_reducible intro _) | (simp only[↓M2,M2,Mb,reduceIte]) | (with_reducible refine X41 ?_) | (with_reducible show Q2 _ _ _ _ _;first | refine X7 aS aL aR ?_ | refine Y4 aS aL aR ?_ | refine ld aS aL aR ?_) | (with_reducible show indexAddr _ _ _ _ _ _;refine Y1 aL au ?_) | (with_reducible show X2 _ _ _ _ _ _ _ _;refine Q8 aL ?_) | (with_reducible show B7 _ _ _ _ _ _;refine J3 aR ?_) | (with_reducible show pick _ _ _ _ _ _;refine M3 ?_) | (apply B8;intro hh;(try simp only[hh,reduceIte,↓M2,M2,Mb,reduceIte]))));done)))
 (intros;(repeat (rename_i hx;subst hx)))
 rename_i w3 hb3
 have hmin:min (m:Int) (cs.length:Int)=((min m cs.length:Nat):Int):=by omega
 rw[hmin]
 refine Et ls none (some (I (min m cs.length:Nat))) 0 (min m cs.length) (.inl ⟨rfl,rfl⟩) (.inr rfl) (Nat.zero_le _) (Nat.min_le_right _ _) fun v3 hv3=>?_
 rw[List.drop_zero,Nat.sub_zero,List.take_eq_take_min.symm] at hv3
 refine Q8 hv3 ?_
 have hk23: ∀{w' σ'},Stp w3 σf w' σ'→Stp w2 σ2 w' σ2:=fun hk=>(hb3.stp.trans hk).weak lef.le
 refine U3 (cs.take m).length (fun i w'=> ∃σ',Stp w3 σf w' σ'∧((cs.take m).take i).any (fun c=>c.vals.any (G4 m))=false) ⟨σf,Stp.refl hb3.sat,rfl⟩ fun i w4 d hi hinv=>?_
 obtain ⟨σ4,hk4,hno⟩:=hinv
 refine Y9 ?_
 refine Q7 (fun hc=>?_) (fun hc=>?_)
 ·have hi':i<(cs.take m).length:=by simpa using hc
  have hv4:=hv3.up hk4
  obtain ⟨vv,p1,p2,p3⟩:=Sl.elO hv4 hi'
  refine Y1 hv4 hi' ?_
  refine Y4 hk4.sat p1 rfl ?_
  refine Y8 hk4.sat (by rfl) rfl (Rep.one (R:=E4) ⟨vv,rfl,p2,p3⟩) fun q5 w5 σ5 hk5 hq5=>?_
  rw[fa]
  refine ld hk5.sat hq5 rfl ?_
  rw[Qi]
  have hq5f:=hqf.lift (SLe.more ⟨hk4.le⟩ ⟨hk5.le⟩)
  refine Sg (G4 m) hk5.sat (p2.up hk5) (fun v ds w6 K hv hs6 hr hlen hK=>Z8 (first:=[]) (caps:=[.pointer (some ⟨b0,0,none⟩)]) (X2T hs6 hr hq5f hK)) fun w6 hb6=>?_
  have hk6:=(hk4.trans hk5).trans (Stp.of_below hk5.sat hb6)
  have hnx:=L2 (p:=fun c:Cel=>c.vals.any (G4 m)) hi'
  cases hany:(cs.take m)[i].vals.any (G4 m) with
  | true=>
   refine J7 ?_
   rw[if_pos (C0 hi' hany)] at hh
   have hS:=hS2.trans (hk23 hk6)
   exact hh _ _ D (.of_stp hS) (h.up hS) fun j hj=>hj
  | false=>
   refine Z7 ?_
   refine N3 ?_
   refine Y5 hv3.max hi' ⟨σ5,hk6,?_⟩
   rw[hnx,hno,hany];rfl
 have hi': ¬i<(cs.take m).length:=by simpa using hc
 rw[E0 hi'] at hno
 rw[if_neg (by rw[hno];simp)] at hh
 have hS4:=hS2.trans (hk23 hk4)
 have h4:=h.up hS4
 refine Pf (fun k (_:Unit) w'=> ∃D',Nxt D w σ w' σ2∧HeapIs B D' σ2 w' (.pointer (some a)) tv room (cs.take k)∧(∀j,D' j→D j)∧k≤cs.length∧(m≤k∨k=cs.length)) cs.length ⟨D, .of_stp hS4,by rw[List.take_length];exact h4,fun j hj=>hj,Nat.le_refl _, .inr rfl⟩ ?_
 rintro again k x d w5 ⟨D5,N5,h5,hD5,hkl,hmk⟩ hag
 have hs5:=N5.sat
 have htk:Z0 (cs.take k)≤1048576:=by
  have e:Z0 cs=Z0 (cs.take k)+Z0 (cs.drop k):=by rw[←T7,List.take_append_drop]
  have:=M4 (cs.drop k)
  omega
 obtain ⟨σg,sg,leg,hslg,_⟩:=h5.freeze hs5
 obtain ⟨ag,lvg,hpe,lag,lsg⟩:=hslg
 cases hpe
 have hqg:=(show Z6 σ2 ⟨b0,0,none⟩ [I (m:Int)] from hq2).lift leg
 have hlk:(cs.take k).length=k:=by rw[List.length_take];omega
 refine U0 sg ?_
 (repeat refine Z9 Qa ?_)
 (intros;(repeat (rename_i hx;subst hx)))
 rename_i w6 hb6
 have hk56:Stp w5 σ2 w6 σ2:=hb6.stp.weak leg.le
 have h6:=h5.up hk56
 have N6:=N5.chain (Nxt.of_stp (D:=fun _=>False) hk56) fun j _ e=>e.elim
 rw[hlk]
 refine Q1G ?_
 by_cases hgt:m<k
 case neg=>
  rw[decide_eq_false (show¬(m:Int)<(k:Int) by omega)]
  refine Z7 ?_
  have e:cs.take m=cs.take k:=by
   rcases hmk with e | e
   ·rw[show m=k by omega]
   ·rw[e,List.take_length,List.take_of_length_le (by omega)]
  rw[e] at hh
  exact hh w6 σ2 D5 N6 h6 hD5
 rw[decide_eq_true (show (m:Int)<(k:Int) by omega)]
 refine J7 ?_
 obtain ⟨k1,rfl⟩: ∃k1,k=k1+1:=⟨k-1,by omega⟩
 have hk1l:k1<cs.length:=by omega
 have esnoc:cs.take (k1+1)=cs.take k1++[cs[k1]]:=by rw[List.take_append_getElem hk1l]
 have hk1t:(cs.take k1).length=k1:=by rw[List.length_take];omega
 obtain ⟨σh,sh,leh,hslh,_⟩:=h6.freeze hk56.sat
 obtain ⟨b,lv6,E6,hpb,hbB,hm6,hr6,hE6,hDe6⟩:=h6.ex
 cases hpb
 obtain ⟨ah,lvh,hpe,lah,lsh⟩:=hslh
 cases hpe
 rw[L8,fa]
 refine Yi hm6 rfl ?_
 obtain ⟨al,capl,hle⟩:=hr6.len
 rw[hlk] at hle
 subst hle
 rw[Q1K]
 refine Zp ⟨by omega,by omega⟩ ?_
 have ek:((k1+1:Nat):Int)-1=(k1:Int):=by omega
 rw[ek]
 have hkk:k1<(cs.take (k1+1)).length:=by omega
 obtain ⟨vvk,pk,pk2,_⟩:=Sl.elO lsh hkk
 have evk:((cs.take (k1+1))[k1]'hkk).vals=cs[k1].vals:=by simp
 rw[evk] at pk2
 refine U0 sh ?_
 (repeat refine Z9 Qa ?_)
 (intros;(repeat (rename_i hx;subst hx)))
 rename_i w7 hb7
 have hk67:Stp w6 σ2 w7 σ2:=hb7.stp.weak leh.le
 have htn:=M4 (cs.take k1)
 have etk:Z0 (cs.take (k1+1))=Z0 (cs.take k1)+(1+(cs[k1].vals.length:Int)):=by
  rw[esnoc,T7];simp[Z0]
 rw[G7 (by omega) (by omega)]
 refine Zp ⟨by omega,by omega⟩ ?_
 have eu:Z0 (cs.take (k1+1))-(1+(cs[k1].vals.length:Int))=Z0 (cs.take k1):=by omega
 rw[eu]
 have hm7:=hm6.up hk67
 have hr7:=hr6.up hk67
 rw[L8,fa]
 refine Jz hm7 (by simp) rfl rfl fun w8 u8 hm8=>?_
 have N78:=Nxt.of_upd hk67.sat u8 hm7.1
 have hr8:=hr7.nx N78 fun j hj e=>hE6 (e▸hj)
 rw[L8,fa]
 refine Yi hm8 rfl ?_
 rw[esnoc] at hr8
 refine X3S hk1t.symm hr8 fun lv9 E9 hr9 hE9=>?_
 rw[L8,fa]
 refine Jz hm8 (by simp) hr9.shape.1 hr9.shape.2 fun w9 u9 hm9=>?_
 have N89:=Nxt.of_upd N78.sat u9 hm8.1
 have hE9b: ¬E9 b:=fun e=>hE6 (hE9 b e)
 have hr9':=hr9.nx N89 fun j hj e=>hE9b (e▸hj)
 have hDb:D5 b:=(hDe6 b).2 (.inl rfl)
 have N9:Nxt D w σ w9 σ2:=((N6.chain (Nxt.of_stp (D:=fun _=>False) hk67) fun j _ e=>e.elim).chain N78 fun j _ e=>e▸hD5 b hDb).chain N89 fun j _ e=>e▸hD5 b hDb
 refine hag k1 _ _ (Nat.lt_succ_self _) ⟨fun j=>j=b∨E9 j,N9,⟨b,lv9,E9,rfl,hbB,hm9,hr9',hE9b,fun j=>Iff.rfl⟩,fun j hj=>?_,by omega, .inl (by omega)⟩
 rcases hj with rfl | hj
 ·exact hD5 _ hDb
 ·exact hD5 j ((hDe6 j).2 (.inr (hE9 j hj))))
end Go.Proofs.YtjdiakhipmggjaaGreatDoor

namespace Go.Emb
open Go.RowKit Go.Hm
variable {P : Program} {w w' w0 : World} {K : Value → World → Prop} {σ σ' σ0 : Q6}
theorem Q5O {a:List TypeId} {t:TypeId} {b:List Bool} {xs:List Value} {v:Value} (h:(Builtin.copy_ a.toArray t xs.toArray).run P w= .ok v w') (d:K v w'):X2 P .copy a t b xs w K:=by
 have c:(builtin .copy a.toArray t b.toArray xs.toArray).run P w= .ok (.value v) w':=by simp[builtin,h]
 unfold X2
 rw[T3];unfold P5
 rw[c];exact d
theorem X3z {α:Type} {R:Q6→α→List Value→Prop} {sz:Nat} {e:TypeId} {v u:Value} {xs ys:List α} {t N J:TypeId} {cb:List Bool} {C:Nat} {z:Value} [hr:Rep R] [ts:TS P t e] [tz:TZ P e sz C z] (H:Stp w0 σ0 w σ) (ha:J9 w0.heap.size e sz R σ w v xs) (O:Sl sz R σ u ys) (B:ys.length=xs.length)
 (h: ∀w',Kpt (fun k=>v.ownBlock=some k) w w'→Stp w0 σ0 w' σ→J9 w0.heap.size e sz R σ w' v ys→K (I ys.length) w'):X2 P .copy [t,N] J cb [v,u] w K:=by
 obtain ⟨i,hi,L,aj,D⟩:=tz.info
 have f:(P.info? e).map (·.size)=some sz:=by rw[hi];simp[L]
 obtain ⟨a,n,rfl,U,X,o,c3⟩:=ha
 have E:=O
 obtain ⟨Y,p,rfl,k1,k2,k3,k4⟩:=O
 by_cases h0:ys.length=0
 ·have s:ys=[]:=List.eq_nil_of_length_eq_zero h0
  subst s
  have hx:xs=[]:=List.eq_nil_of_length_eq_zero (by rw[←B];rfl)
  subst hx
  refine Q5O (Q59 w t N J e sz a Y n p ts.h f) ?_
  exact h w Kpt.refl H ⟨a,n,rfl,U,X,o,c3⟩
 ·obtain ⟨a2,Q,d,he,n1,n2,n3,n4,n5⟩:=E.cells H.sat
  injection he with e1 _ e3
  subst e1;subst e3
  cases Y with
  | none=>have:=k3 rfl;omega
  | some Z=>
   obtain ⟨g,c,m,rfl,q1,V,W,q4,q5⟩:=c3 (by omega)
   have ap:ys.length*sz≤n*sz:=Nat.mul_le_mul_right _ (by omega)
   have r:=Q4Z (P:=P) w t N J e sz g c ys.length n Z p m e d ts.h f W n2 (fun j v hv=>n3 Z rfl j v hv) (by rw[n2];omega) n4
   obtain ⟨q,M⟩:=Uy (cs:=(m.toList.take c++d++m.toList.drop (c+d.length)).toArray) W
   rw[←B]
   refine Q5O r ?_
   have av:=Array.length_toList (xs:=m)
   refine h _ (Kpt.of_upd q rfl) (q.stp H q1 V) ⟨_,n,(by rw[B]),by rw[B];exact U,X,fun b A=>⟨(o b A).1,(o b A).2.1,by rw[q.size];exact (o b A).2.2.1,(o b A).2.2.2⟩,fun _=>⟨g,c,_,rfl,q1,V,M,?_,fun j y s=>?_⟩⟩
   ·simp;omega
   ·have hj:j<ys.length:=(List.getElem?_eq_some_iff.1 s).1
    have ax:j*sz+sz≤ys.length*sz:=by rw[←Nat.succ_mul];exact Nat.mul_le_mul_right _ hj
    have:=n5 j y s
    rw[List.toList_toArray,List.append_assoc,List.drop_append,List.drop_eq_nil_of_le (by rw[List.length_take];omega),List.nil_append,List.length_take,show c+j*sz-min c m.toList.length=j*sz by omega,List.drop_append_of_le_length (by omega),List.take_append_of_le_length (by rw[List.length_drop];omega)]
    exact this
theorem Nxt.stp' {D:Nat→Prop} (N:Nxt D w σ w' σ') (a:Stp w0 σ0 w σ) (f: ∀k,D k→w0.heap.size≤k):Stp w0 σ0 w' σ':=
 ⟨⟨N.kp.os.trans a.bel.os,N.kp.tape.trans a.bel.tape,N.kp.output.trans a.bel.output,Nat.le_trans a.bel.size N.kp.size,fun k c=>(N.kp.block k (Nat.lt_of_lt_of_le c a.bel.size) fun h=>absurd (f k h) (by omega)).trans (a.bel.block k c)⟩,N.sat,fun b o e=>N.le.le b o (a.le b o e),fun b d=>(N.old b (Nat.lt_of_lt_of_le d a.bel.size)).trans (a.old b d)⟩
end Go.Emb
namespace Go.Proofs.YtjdiakhipmggjaaGreatDoor
open Go.Emb Go.RowKit Go.Kd Go.Hm
variable {w w' : World} {K : Value → World → Prop} {σ σ' : Q6} {hp tv : Value} {room : Int} {cs : List Cel} {l : List Cla}
theorem RowsIs.nil {B:Nat}:RowsIs B (fun _=>False) σ w (.slice none 0 0) []:=
 ⟨[],J9.of_acc V7.nil,⟨rfl,fun i h=>absurd h (Nat.not_lt_zero i)⟩,List.pairwise_singleton _ _,fun k=>by simp[Value.ownBlock]⟩
set_option maxHeartbeats 1000000 in
theorem X2l (X:X3 w σ) (hh:R0 σ hp tv room cs) (hl:Z0 cs≤1048576)
 (h: ∀v w' σ' D,Stp w σ w' σ'→RowsIs w.heap.size D σ' w' v cs→K v w'):Q1 P F.ap [hp] w K:=Ax (by
 obtain ⟨a,lv,rfl,la,ls⟩:=hh
 have ak:=T6 cs
 unfold Oq
 rw[L8,fa]
 refine ld X la rfl ?_
 refine Q8 ls ?_
 refine E2 cs.length (fun n x w'=> ∃σ' D,Stp w σ w' σ'∧RowsIs w.heap.size D σ' w' x (cs.take n)) ⟨σ,_,Stp.refl X,RowsIs.nil⟩ fun n x w1 d hn y=>?_
 obtain ⟨σ1,D1,m,H⟩:=y
 refine Y9 ?_
 refine Q7 (fun N=>?_) (fun N=>?_)
 ·have b:n<cs.length:=by simpa using N
  have B:=ls.up m
  obtain ⟨vv,p1,Z,p3⟩:=Sl.elO B b
  have ai:(cs[n].vals.length:Int)≤1048576:=by
   have e:Z0 cs=Z0 (cs.take n)+Z0 (cs.drop n):=by rw[←T7,List.take_append_drop]
   have e2:Z0 (cs.drop n)=(1+(cs[n].vals.length:Int))+Z0 (cs.drop (n+1)):=by
    rw[List.drop_eq_getElem_cons b];simp only[Z0,List.map_cons,List.sum_cons]
   have W:=M4 (cs.take n)
   have J:=M4 (cs.drop (n+1))
   omega
  refine Y1 B b ?_
  refine Y4 m.sat p1 rfl ?_
  refine Y8 m.sat (by rfl) rfl (Rep.one (R:=E4) ⟨vv,rfl,Z,p3⟩) fun q w2 σ2 c o=>?_
  have r:=m.trans c
  have z:=Z.up c
  rw[fa]
  refine ld c.sat o rfl ?_
  refine Q8 z ?_
  refine Q9j (sz:=4) (R:=O3) (x0:=Val.zero) c.sat rfl (by decide) ⟨rfl,by decide⟩ (by omega) (by omega) fun Q w3 g L A=>?_
  have U:=r.trans g
  rw[fa]
  refine ld g.sat (o.up g) rfl ?_
  have V:=(J9.of_acc L).mono (B':=w.heap.size) r.bel.size
  refine X3z U V (z.up g) (by simp) fun w4 O f u=>?_
  have W:=(H.up c).up g
  have t: ∀j,Q.ownBlock=some j→ ¬D1 j:=fun j C hD=>by
   have:=((H.up c).mem hD).2.1;have:=A j C;omega
  have N4:Nxt (fun k=>Q.ownBlock=some k) w3 σ2 w4 σ2:=⟨O,SLe.refl _,fun _ _=>rfl,f.sat⟩
  have J:=W.nx N4 fun j C e=>t j e C
  rw[fa]
  refine ld (i:=0) f.sat o rfl ?_
  have p:=u
  obtain ⟨a3,Y,M,_⟩:=p
  refine W1 (cells:= #[S cs[n].kind,Q]) (by rw[M];kernel_rfl) ?_
  refine Q9M f.sat f.bel.size J u t p3 (by rw[List.length_take];omega) fun s aq w5 σ5 D5 N5 E h5 _ _=>?_
  refine N3 ?_
  refine J5 (by omega) b ⟨σ5,D5,N5.stp' f fun j C=>(J.mem (E j C)).1,?_⟩
  rw[List.take_add_one,List.getElem?_eq_getElem b]
  exact h5
 ·have b: ¬n<cs.length:=by simpa using N
  rw[List.take_of_length_le (by omega)] at H
  exact h _ _ _ _ m H)
end Go.Proofs.YtjdiakhipmggjaaGreatDoor

namespace Go.Proofs.YtjdiakhipmggjaaGreatDoor
open Go.Emb Go.RowKit Go.Kd Go.Hm
variable {w : World} {K : Value → World → Prop} {σ : Q6} {l : List Cla} {v : Value}
theorem Q4R {c:Cla} {n:X0} (h:Sj c n=none):F7 c n=none:=by
 unfold F7 Sj at*
 rw[List.findIdx?_eq_none_iff] at h
 rw[List.find?_eq_none]
 intro m a
 have:=h m a
 simpa using this
theorem Q7I {c:Cla} {n:X0} {i:Nat} (h:Sj c n=some i): ∃a:i<c.methods.length,F7 c n=some c.methods[i]:=by
 unfold F7 Sj at*
 obtain ⟨a,d,e⟩:=List.findIdx?_eq_some_iff_getElem.1 h
 refine ⟨a,List.find?_eq_some_iff_getElem.2 ⟨d,i,a,rfl,fun j b=>?_⟩⟩
 have:=e j b
 simpa using this
theorem Q1j {n:X0} (h:lk l n=none):Z3 l n=none:=by
 cases b:Z3 l n with
 | none=>rfl
 | some i=>obtain ⟨c,a,_⟩:=Zk b;rw[h] at a;cases a
set_option maxHeartbeats 1000000 in
theorem X04 {n:X0} (ok:Ok l): ∀(k:Nat) {c:Cla} {cs:List Value} {w:World} {σ:Q6} {K:Value→World→Prop},K8 l c.name<k→lk l c.name=some c→X3 w σ→Sl 8 U9 σ v l→U9 σ c cs→
 (∀pv cv hv w' Z,Stp w σ w' Z→E7 Z (o2 (V5 l c n)) [S (o2 (V5 l c n)).name,pv,S (o2 (V5 l c n)).result, .bool (o2 (V5 l c n)).abs,I (o2 (V5 l c n)).locals,cv,hv]→
  K (.tuple #[S (o1 (V5 l c n)), .agg [S (o2 (V5 l c n)).name,pv,S (o2 (V5 l c n)).result, .bool (o2 (V5 l c n)).abs,I (o2 (V5 l c n)).locals,cv,hv].toArray, .bool (V5 l c n).isSome]) w')→
 Q1 P F.aN [v, .agg cs.toArray,S n] w K:=by
 intro k
 induction k with
 | zero=>
  intro c cs w σ K hk
  omega
 | succ k ih=>
  intro c cs w σ K hk hc hs hv hr h
  refine Iw ?_
  obtain ⟨lv,fv,mv,rfl,g1,g2,g3,g4,g5⟩:=hr
  have E:=Q4v ok.acy hc n
  generalize hf:(fun u=>match lk l u with | none=>none | some d=>match F7 d n with | some m=>some (u,m) | none=>V5 l d n)=f at E
  unfold Nr
  refine Z1 hs fun a w1 σ1 H ao=>?_
  refine M0 H.sat fun b w2 σ2 hb W a7=>?_
  have O:w.heap.size≤b:=L9 hb H
  have aw:=ao.up W
  have g1:=(g1.up H).up W
  refine U3 c.like.length (fun i w'=> ∃Z,Stp w σ w' Z∧SLe σ2 Z∧Y2 Z w' b [S [], .slice none 0 0,S [], .bool false,I 0, .slice none 0 0, .slice none 0 0]∧(c.like.take i).findSome? f=none) ⟨σ2,H.trans W,SLe.refl _,a7,rfl⟩ fun i w3 d hi aj=>?_
  obtain ⟨σ3,e,X,ab,z⟩:=aj
  have R:=hv.up e
  have L:=aw.lift X
  have C:=g1.lift X
  (try simp only[↓M1,M1,Mb,reduceIte])
  refine ld e.sat L rfl ?_
  refine Q8 C ?_
  refine Y9 ?_
  refine Q7 (fun hh=>?_) (fun hh=>?_)
  ·have g:i<c.like.length:=by simpa using hh
   (try simp only[↓M1,M1,Mb,reduceIte])
   refine ld e.sat L rfl ?_
   refine Y1 C g ?_
   obtain ⟨p0,_⟩:=C.elS g
   refine X7 e.sat p0 rfl ?_
   obtain ⟨d,hd⟩:=ok.full c (V3 hc).2.1 _ (List.getElem_mem g)
   obtain ⟨Q,bq,_⟩:=V3 hd
   have t:f c.like[i]=match F7 d n with | some m=>some (c.like[i],m) | none=>V5 l d n:=by rw[←hf];simp only[hd]
   refine Bk e.sat R hd fun j hj bx=>?_
   obtain ⟨ak,a3⟩:=List.getElem?_eq_some_iff.1 hj
   refine Y1 R ak ?_
   obtain ⟨bz,bp,bn,p1,r1⟩:=R.elC ak
   rw[a3] at p1 r1
   refine Y4 e.sat p1 rfl ?_
   refine Y8 e.sat (by rfl) rfl (Rep.one r1) fun q w4 σ4 o M=>?_
   refine Y4 o.sat M rfl ?_
   refine Q7Z o.sat (RCl_lift r1 ⟨o.le⟩) fun w5 σ5 p=>?_
   refine P7 ?_
   rw[A5]
   have B:=(e.trans o).trans p
   have D:=(ab.step o).step p
   have a9:=M.up p
   have r5:=RCl_lift r1 ⟨(o.trans p).le⟩
   have U:=p.sat
   have a2:SLe σ2 σ5:=X.more ⟨(o.trans p).le⟩
   clear M p1 r1 p0 L C o p
   cases ho:Sj d n with
   | some i2=>
    obtain ⟨a1,ay⟩:=Q7I ho
    rw[ay] at t
    simp only[Option.isSome_some,L6,↓M1,M1,Mb,reduceIte]
    obtain ⟨_,_,a0,_,_⟩:=r5.parts
    obtain ⟨pv,cv,bo,p2,r2⟩:=a0.elM a1
    refine U0 U ?_
    (repeat refine Z9 Qa ?_)
    (intros;(repeat (rename_i hx;subst hx));(try simp only[↓M2,M2,Mb,reduceIte]))
    rename_i w6 ad
    refine G8 (D.step ad.stp) (B.trans ad.stp) O rfl rfl (Rep.one r2) fun w8 a4 a8=>?_
    refine V2 a8 rfl ?_
    have Y:=E.trans (Xn g z t)
    rw[Y] at h
    rw[Q]
    exact h _ _ _ w8 σ5 a4.stp r2
   | none=>
    rw[Q4R ho] at t
    simp only[Option.isSome_none,↓M1,M1,Mb,reduceIte]
    refine Y4 U a9 rfl ?_
    have bk:=Yb ok.acy hc (by simp[U4,List.getElem_mem g]:c.like[i]∈U4 c) hd
    refine ih (by rw[Q];omega) (by rw[Q];exact hd) U (hv.up B) r5 fun pv cv bv w8 σ8 A N=>?_
    refine J4 (vs:=[_,_,_]) rfl ?_
    refine J4 (vs:=[_,_,_]) rfl ?_
    refine J4 (vs:=[_,_,_]) rfl ?_
    refine Y8 A.sat (by rfl) rfl (Rep.one N) fun q w9 σ9 y a5=>?_
    have ae:=(B.trans A).trans y
    have ai:=(D.step A).step y
    have V:=RMe_lift N ⟨y.le⟩
    have az:SLe σ2 σ9:=a2.more ⟨(A.trans y).le⟩
    have av:=y.sat
    cases Y:V5 l d n with
    | some r=>
     obtain ⟨s,m⟩:=r
     rw[Y] at t V a5
     clear N A y
     simp only[Y,Option.isSome_some,↓M1,M1,Mb,reduceIte]
     refine U0 av ?_
     (repeat refine Z9 Qa ?_)
     (intros;(repeat (rename_i hx;subst hx));(try simp only[↓M2,M2,Mb,reduceIte]))
     rename_i b0 J
     refine G8 (ai.step J.stp) (ae.trans J.stp) O rfl rfl (Rep.one V) fun ar ag ah=>?_
     refine V2 ah rfl ?_
     have ax:=E.trans (Xn g z t)
     rw[ax] at h
     exact h _ _ _ ar σ9 ag.stp V
    | none=>
     rw[Y] at t
     simp only[Option.isSome_none,↓M1,M1,Mb,reduceIte]
     refine Y5 (by have:=g1.max;omega) g ⟨σ9,ae,az,ai,?_⟩
     rw[Xx g z];exact t
  ·have g: ¬i<c.like.length:=by simpa using hh
   rw[List.take_of_length_le (by omega)] at z
   refine Gy ?_
   refine G8 ab e O rfl rfl (Rep.one (Qx (σ:=σ3))) fun w5 B D=>?_
   refine V2 D rfl ?_
   have Y:=E.trans z
   rw[Y] at h
   exact h _ _ _ w5 σ3 B.stp Qx
set_option maxHeartbeats 1000000 in
theorem Q8B {k n:X0} (hs:X3 w σ) (hv:Sl 8 U9 σ v l) (ok:Ok l)
 (h: ∀pv cv hv w' M,Stp w σ w' M→E7 M (o2 (V4 l k n)) [S (o2 (V4 l k n)).name,pv,S (o2 (V4 l k n)).result, .bool (o2 (V4 l k n)).abs,I (o2 (V4 l k n)).locals,cv,hv]→
  K (.tuple #[S (o1 (V4 l k n)), .agg [S (o2 (V4 l k n)).name,pv,S (o2 (V4 l k n)).result, .bool (o2 (V4 l k n)).abs,I (o2 (V4 l k n)).locals,cv,hv].toArray, .bool (V4 l k n).isSome]) w'):
 Q1 P F.bf [v,S k,S n] w K:=Gj (by
 unfold Ll
 refine M0 hs fun b w1 σ1 hb Z a1=>?_
 refine K0 Z.sat (hv.up Z) ?_
 unfold V4 at h
 generalize hF:(fun c:Cla=>(F7 c n).map (c.name,·))=F1 at h
 have am: ∀c,F1 c=(F7 c n).map (c.name,·):=fun c=>by rw[←hF]
 refine Pf (fun m x w'=> ∃s E M,m=(chain l s).length∧x=I (L6 (Z3 l s))∧chain l k=E++chain l s∧Stp w σ w' M∧Y2 M w' b [S [], .slice none 0 0,S [], .bool false,I 0, .slice none 0 0, .slice none 0 0]∧E.findSome? F1=none)
  (chain l k).length ⟨k,[],σ1,rfl,rfl,rfl,Z,a1,rfl⟩ ?_
 rintro Q m x d w2 ⟨s,E,σ2,rfl,rfl,f,B,aj,e⟩ C
 have D:=hv.up B
 have R:=B.sat
 refine P7 ?_
 rw[A5]
 cases A:lk l s with
 | some c=>
  obtain ⟨ai,a3,i,aa,Y⟩:=V3 A
  obtain ⟨j,ac⟩:=List.getElem?_eq_some_iff.1 Y
  simp only[aa,Option.isSome_some,L6,↓M1,M1,Mb,reduceIte]
  refine Y1 D j ?_
  obtain ⟨lv,fv,mv,z,L⟩:=D.elC j
  rw[ac] at z L
  refine Y4 R z rfl ?_
  refine Q7Z R L fun w3 σ3 o=>?_
  refine P7 ?_
  rw[A5]
  have g:=B.trans o
  have t:=D.up o
  have y:=aj.step o
  have u:=o.sat
  replace z:=z.up o
  replace L:=RCl_lift L ⟨o.le⟩
  have p:chain l s=c::chain l c.super:=by rw[Qc ok.acy s,A]
  cases ho:Sj c n with
  | some i2=>
   obtain ⟨av,a5⟩:=Q7I ho
   simp only[Option.isSome_some,L6,↓M1,M1,Mb,reduceIte]
   obtain ⟨_,_,ar,_,_⟩:=L.parts
   obtain ⟨pv,cv,be,p2,r2⟩:=ar.elM av
   clear o
   refine U0 u ?_
   (repeat refine Z9 Qa ?_)
   (intros;(repeat (rename_i hx;subst hx));(try simp only[↓M2,M2,Mb,reduceIte]))
   rename_i w4 af
   refine G8 (y.step af.stp) (g.trans af.stp) hb rfl rfl (Rep.one r2) fun w8 aw a2=>?_
   refine V2 a2 rfl ?_
   have J:(chain l k).findSome? F1=some (c.name,c.methods[i2]):=by
    rw[f,List.findSome?_append,e,p,List.findSome?_cons,am,a5];rfl
   rw[J] at h
   exact h _ _ _ w8 σ3 aw.stp r2
  | none=>
   simp only[Option.isSome_none,↓M1,M1,Mb,reduceIte]
   refine Y1 t j ?_
   (try simp only[↓M1,M1,Mb,reduceIte])
   refine ld u z rfl ?_
   refine K0 u t ?_
   refine C (chain l c.super).length _ _ (by rw[p,List.length_cons];omega) ⟨c.super,E++[c],σ3,rfl,rfl,by rw[f,p];simp,g,y,?_⟩
   rw[List.findSome?_append,e]
   simp[am,Q4R ho]
 | none=>
  rw[Q1j A]
  simp only[Option.isSome_none,↓M1,M1,Mb,reduceIte]
  have ae:(chain l k).findSome? F1=none:=by rw[f,Ym A,List.append_nil];exact e
  rw[ae] at h
  clear C e f
  refine K0 R D ?_
  refine Pf (fun m x w'=> ∃s E M,m=(chain l s).length∧x=I (L6 (Z3 l s))∧chain l k=E++chain l s∧Stp w σ w' M∧Y2 M w' b [S [], .slice none 0 0,S [], .bool false,I 0, .slice none 0 0, .slice none 0 0]∧E.findSome? (fun c=>V5 l c n)=none)
   (chain l k).length ⟨k,[],σ2,rfl,rfl,rfl,B,aj,rfl⟩ ?_
  rintro Q m x d w3 ⟨s,E,σ3,rfl,rfl,f,g,y,e⟩ C
  have t:=hv.up g
  have u:=g.sat
  refine P7 ?_
  rw[A5]
  cases A:lk l s with
  | some c=>
   obtain ⟨ai,a3,i,aa,Y⟩:=V3 A
   obtain ⟨j,ac⟩:=List.getElem?_eq_some_iff.1 Y
   simp only[aa,Option.isSome_some,L6,↓M1,M1,Mb,reduceIte]
   refine Y1 t j ?_
   obtain ⟨lv,fv,mv,z,L⟩:=t.elC j
   rw[ac] at z L
   refine Y4 u z rfl ?_
   have p:chain l s=c::chain l c.super:=by rw[Qc ok.acy s,A]
   refine X04 ok _ (Nat.lt_succ_self _) (by rw[ai];exact A) u t L fun pv cv bd w8 σ8 V W=>?_
   refine J4 (vs:=[_,_,_]) rfl ?_
   refine J4 (vs:=[_,_,_]) rfl ?_
   refine J4 (vs:=[_,_,_]) rfl ?_
   refine Y8 V.sat (by rfl) rfl (Rep.one W) fun q w9 σ9 H ax=>?_
   have a:=V.trans H
   have ao:=g.trans a
   have al:=y.step a
   have U:=RMe_lift W ⟨H.le⟩
   have X:=H.sat
   have ah:=t.up a
   replace z:=z.up a
   cases ho:V5 l c n with
   | some r=>
    obtain ⟨s,m⟩:=r
    rw[ho] at U ax
    clear W V H a
    simp only[ho,Option.isSome_some,↓M1,M1,Mb,reduceIte]
    refine U0 X ?_
    (repeat refine Z9 Qa ?_)
    (intros;(repeat (rename_i hx;subst hx));(try simp only[↓M2,M2,Mb,reduceIte]))
    rename_i bj N
    refine G8 (al.step N.stp) (ao.trans N.stp) hb rfl rfl (Rep.one U) fun az ag ak=>?_
    refine V2 ak rfl ?_
    have J:(chain l k).findSome? (fun c=>V5 l c n)=some (s,m):=by
     rw[f,List.findSome?_append,e,p,List.findSome?_cons,ho];rfl
    unfold V5 at J
    rw[J] at h
    exact h _ _ _ az σ9 ag.stp U
   | none=>
    simp only[Option.isSome_none,↓M1,M1,Mb,reduceIte]
    refine Y1 ah j ?_
    (try simp only[↓M1,M1,Mb,reduceIte])
    refine ld X z rfl ?_
    refine K0 X ah ?_
    refine C (chain l c.super).length _ _ (by rw[p,List.length_cons];omega) ⟨c.super,E++[c],σ9,rfl,rfl,by rw[f,p];simp,ao,al,?_⟩
    rw[List.findSome?_append,e]
    simp[ho]
  | none=>
   rw[Q1j A]
   simp only[Option.isSome_none,↓M1,M1,Mb,reduceIte]
   have O:(chain l k).findSome? (fun c=>V5 l c n)=none:=by rw[f,Ym A,List.append_nil];exact e
   refine Gy ?_
   refine G8 y g hb rfl rfl (Rep.one (Qx (σ:=σ3))) fun w7 a4 a6=>?_
   refine V2 a6 rfl ?_
   unfold V5 at O
   rw[O] at h
   exact h _ _ _ w7 σ3 a4.stp Qx)
end Go.Proofs.YtjdiakhipmggjaaGreatDoor

namespace Go.Hm
open Go.Kd
theorem Q2h: ∀(xs:List X0) (x:X0),xs≠[]→H9 (xs++[x])=H9 xs++[44]++x
 | [],_,h=>absurd rfl h
 | [a],x,_=>by simp[H9]
 | a::b::r,x,_=>by
  have:=Q2h (b::r) x (by simp)
  simp only[List.cons_append] at this⊢
  simp only[H9,this]
  simp
theorem Q2f {xs:List X0} {n:Nat} (h:n<xs.length):H9 (xs.take (n+1))=H9 (xs.take n)++(if 0<n then [44] else [])++xs[n]:=by
 rw[List.take_add_one,List.getElem?_eq_getElem h]
 simp only[Option.toList_some]
 cases n with
 | zero=>simp[H9]
 | succ n=>
  rw[Q2h _ _ (by intro e;have:=congrArg List.length e;simp only[List.length_take,List.length_nil] at this;omega)]
  simp
end Go.Hm
namespace Go.Proofs.YtjdiakhipmggjaaGreatDoor
open Go.Emb Go.RowKit Go.Kd Go.Hm
variable {w : World} {K : Value → World → Prop} {σ : Q6} {l : List Cla} {v : Value}
theorem Q5j {m:Hm.Met} {cs:List Value} (z:X3 w σ) (B:E7 σ m cs) (s:SmM m) (r:NmM m) (h: ∀w' y,Stp w σ w' y→K (S (Qw m)) w'):Q1 P F.aW [.agg cs.toArray] w K:=Q08 (by
 obtain ⟨pv,U,O,rfl,f,Q,H,N,M,R⟩:=B
 unfold Dm
 refine Z1 z fun q w1 σ1 g j=>?_
 have f:=f.up g
 have D: ∀n,(H9 (m.params.take n)).length≤101000000:=fun n=>by
  have:=Rj (m.params.take n) fun x t=>r.2 x (List.mem_of_mem_take t)
  have E:(m.params.take n).length≤1000000:=by rw[List.length_take];have:=s.1;omega
  have J:(m.params.take n).length*101≤1000000*101:=Nat.mul_le_mul_right _ E
  omega
 have c:=g.sat
 refine E2 m.params.length (fun n a w'=>w'=w1∧a=S ([40]++H9 (m.params.take n))) ⟨rfl,by simp[H9]⟩ fun n a L d A i=>?_
 obtain ⟨C,rfl⟩:=i
 subst C
 have o:=D n
 (try simp only[↓M1,M1,Mb,reduceIte])
 refine ld c j rfl ?_
 refine Q8 f ?_
 refine Y9 ?_
 refine Q7 (fun p=>?_) (fun p=>?_)
 ·have b:n<m.params.length:=by simpa using p
  have t:=r.2 _ (List.getElem_mem b)
  refine V0 ?_
  obtain ⟨u,_⟩:=f.elS b
  refine Q7 (fun k=>?_) (fun k=>?_)
  ·have e:0<n:=by have:=of_decide_eq_true k;omega
   refine Rk (by simp only[List.length_append,List.length_cons,List.length_nil];omega) ?_
   intro d
   (try simp only[↓M1,M1,Mb,reduceIte])
   refine ld c j rfl ?_
   refine Y1 f b ?_
   refine X7 c u rfl ?_
   refine Rk (by simp only[List.length_append,List.length_cons,List.length_nil];omega) ?_
   (try simp only[↓M1,M1,Mb,reduceIte])
   refine J5 f.max b ⟨rfl,?_⟩
   rw[Q2f b,if_pos e];simp
  ·have e: ¬0<n:=by have:=of_decide_eq_false k;omega
   intro d
   (try simp only[↓M1,M1,Mb,reduceIte])
   refine ld c j rfl ?_
   refine Y1 f b ?_
   refine X7 c u rfl ?_
   refine Rk (by simp only[List.length_append,List.length_cons,List.length_nil];omega) ?_
   (try simp only[↓M1,M1,Mb,reduceIte])
   refine J5 f.max b ⟨rfl,?_⟩
   rw[Q2f b,if_neg e];simp
 ·have b: ¬n<m.params.length:=by simpa using p
  rw[List.take_of_length_le (by omega)] at o⊢
  refine Rk (by simp only[List.length_append,List.length_cons,List.length_nil];omega) ?_
  (try simp only[↓M1,M1,Mb,reduceIte])
  refine ld c j rfl ?_
  refine Rk (by simp only[List.length_append,List.length_cons,List.length_nil];have:=r.1;omega) ?_
  exact h _ _ g)
end Go.Proofs.YtjdiakhipmggjaaGreatDoor

namespace Go.Emb
open Go.RowKit Go.Hm
structure FinT (B : Nat) (F : Option Obj → Prop) (w w' : World) : Prop where
  os : w'.os = w.os
  tape : w'.tape = w.tape
  output : w'.output = w.output
  size : w.heap.size ≤ w'.heap.size
  old : ∀ k, k < w.heap.size → k < B → w'.heap[k]? = w.heap[k]?
  new : ∀ k, k < w.heap.size → w'.heap[k]? = w.heap[k]? ∨ F (w'.heap[k]?)
section
variable {P : Program} {B : Nat} {F : Option Obj → Prop} {w w' w0 : World} {σ : Q6} {v V : Value} {K : Value → World → Prop}
theorem FinT.of_below (h:Below w.heap.size w w'):FinT B F w w':=⟨h.os,h.tape,h.output,h.size,fun k a _=>h.block k a,fun k a=> .inl (h.block k a)⟩
theorem FinT.of_upd {b:Nat} (h:Upd w b w') (c:B≤b) (hF:F (w'.heap[b]?)):FinT B F w w':=
 ⟨h.os,h.tape,h.output,by rw[h.size];exact Nat.le_refl _,fun k a hB=>h.block k (by omega),fun k a=>by
  by_cases e:k=b
  ·subst e;exact .inr hF
  ·exact .inl (h.block k e)⟩
theorem FinT.hst (h:FinT w0.heap.size F w w') (c:X3 w0 σ) (a:Hst w0 σ w σ):Hst w0 σ w' σ:=
 ⟨Stp.of_below c ⟨h.os.trans a.stp.bel.os,h.tape.trans a.stp.bel.tape,h.output.trans a.stp.bel.output,Nat.le_trans a.stp.bel.size h.size,fun k b=>(h.old k (Nat.lt_of_lt_of_le b a.stp.bel.size) b).trans (a.stp.bel.block k b)⟩⟩
theorem X3w {A:(World→World→Prop)→(World→Prop)→Prop} (F:Option Obj→Prop) (a:X3 w σ) (h:A (FinT w.heap.size F) (fun w'=>Hst w σ w' σ)):dr w A:=
 Ph _ _ ⟨Stp.of_below a (Below.refl _ _).drew⟩ (fun _ _ b c=>c.hst a b) h
theorem Q5x (h:V=v):dk (FinT B F) (fun v _=>V=v) w v w:=⟨.of_below (Below.refl _ _),h⟩
theorem X2i (a:Below w.heap.size w w') (h:V=v):dk (FinT B F) (fun v _=>V=v) w v w':=⟨.of_below a,h⟩
def X2R (B n:Nat) (F:Option Obj→Prop) (v:Value) (w:World):Prop:= ∃g,v= .pointer (some ⟨g,0,none⟩)∧B≤g∧((∃cs:List Value,∃e,cs.length=n∧w.heap[g]? =some (.cells cs.toArray e (0,0)))∨F (w.heap[g]?))
def X3q (B:Nat) (F:Option Obj→Prop) (v:Value) (w:World):Prop:= ∃g,v= .pointer (some ⟨g,0,none⟩)∧B≤g∧F (w.heap[g]?)
theorem Tf {w:World} {g:Nat} {o:Obj} (h:w.heap[g]? =some o):g<w.heap.size:=(Array.getElem?_eq_some_iff.1 h).1
theorem Q87 {n:Nat} (hF: ¬F none):Sw (FinT B F) (X2R B n F):=by
 rintro v w w' ⟨g,rfl,hB,c⟩ d
 have a:g<w.heap.size:=by
  rcases c with ⟨cs,e,_,h⟩ | h
  ·exact Tf h
  ·cases b:w.heap[g]? with
   | none=>rw[b] at h;exact absurd h hF
   | some o=>exact Tf b
 rcases d.new g a with h | h
 ·exact ⟨g,rfl,hB,by rw[h];exact c⟩
 ·exact ⟨g,rfl,hB, .inr h⟩
theorem Q86 (hF: ¬F none):Sw (FinT B F) (X3q B F):=by
 rintro v w w' ⟨g,rfl,hB,b⟩ d
 have a:g<w.heap.size:=by
  cases c:w.heap[g]? with
  | none=>rw[c] at b;exact absurd b hF
  | some o=>exact Tf c
 rcases d.new g a with h | h
 ·exact ⟨g,rfl,hB,by rw[h];exact b⟩
 ·exact ⟨g,rfl,hB,h⟩
end
end Go.Emb
namespace Go.Hm
open Go.Kd
theorem Q79 {a b:List Hm.Met} (h: ∀m,m∈a↔m∈b):Nt a=Nt b:=by
 rw[Bool.eq_iff_iff]
 simp only[Nt,List.any_eq_true]
 constructor
 ·rintro ⟨x,c,y,d,e⟩;exact ⟨x,(h x).1 c,y,(h y).1 d,e⟩
 ·rintro ⟨x,c,y,d,e⟩;exact ⟨x,(h x).2 c,y,(h y).2 d,e⟩
theorem X0v {α:Type} {a b:List α} {p:α→Bool} (h: ∀m,m∈a↔m∈b):a.any p=b.any p:=by
 rw[Bool.eq_iff_iff]
 simp only[List.any_eq_true]
 constructor
 ·rintro ⟨x,c,y⟩;exact ⟨x,(h x).1 c,y⟩
 ·rintro ⟨x,c,y⟩;exact ⟨x,(h x).2 c,y⟩
def Zi (m:Hm.Met):List X0:=m.params++if m.result=[] then [] else [m.result]
def Jn (c:Cla):List X0:=c.fields.map (·.kind)++c.methods.flatMap Zi
theorem Q9i {l:List Cla} {c:Cla}:(Jn c).any (fun s=> !O8 l s)=B6 l c:=by
 unfold Jn B6 Zi
 rw[List.any_append,List.any_map,List.any_flatMap]
 congr 1
 congr 1
 funext m
 rw[List.any_append]
 by_cases e:m.result=[]
 ·simp[e]
 ·simp[e,Bool.or_comm]
def upB (l:List Cla) (i k:Nat):Bool:=decide (k=i)||Xi l (Y3 l i) (Y3 l k)
def Xk (l:List Cla) (i n:Nat):List Hm.Met:=(List.range n).flatMap fun k=>if upB l i k then (l.getD k Cla.zero).methods else []
theorem Q8C {l:List Cla} {i n:Nat}:Xk l i (n+1)=Xk l i n++if upB l i n then (l.getD n Cla.zero).methods else []:=by
 unfold Xk
 rw[List.range_succ,List.flatMap_append]
 simp
theorem Q4J {l:List Cla} (o:T9 l) {i:Nat} (n:i<l.length) (m:Hm.Met):m∈Xk l i l.length↔m∈Lk l (Y3 l i):=by
 unfold Xk Lk
 simp only[List.mem_flatMap,List.mem_range]
 have b: ∀k,k<l.length→lk l (Y3 l k)=some (l.getD k Cla.zero):=fun k g=>Yh o g
 constructor
 ·rintro ⟨k,g,d⟩
  split at d
  ·rename_i hu
   refine ⟨Y3 l k,?_,by rw[b k g];exact d⟩
   rw[Vc,Q0B]
   simp only[upB,Bool.or_eq_true,decide_eq_true_eq,Uc] at hu
   rcases hu with rfl | hu
   ·exact .inl ⟨rfl,_,b _ g⟩
   ·exact .inr hu
  ·simp at d
 ·rintro ⟨u,hu,d⟩
  rw[Vc] at hu
  obtain ⟨c,p⟩:=hu.right
  obtain ⟨z,r,j,A,a⟩:=V3 p
  obtain ⟨h,y⟩:=List.getElem?_eq_some_iff.1 a
  have f:Y3 l j=u:=by
   unfold Y3;rw[List.getD_eq_getElem?_getD,a];exact z
  refine ⟨j,h,?_⟩
  rw[p] at d
  have:upB l i j=true:=by
   simp only[upB,Bool.or_eq_true,decide_eq_true_eq,Uc]
   rw[Q0B] at hu
   rcases hu with ⟨e,_⟩ | hu
   ·left
    have t:=b i n
    rw[e,←f] at t
    have q:=T9.find o (i:=i) (c:=l[i]) (List.getElem?_eq_getElem n)
    have s:l[i].name=Y3 l i:=by unfold Y3;rw[List.getD_eq_getElem?_getD,List.getElem?_eq_getElem n];rfl
    rw[s,e,A] at q
    simpa using q
   ·right;rw[f];exact hu
  rw[if_pos this,List.getD_eq_getElem?_getD,a]
  exact d
theorem Q9D {l:List Cla} {i n:Nat} {m:Hm.Met} (h:m∈Xk l i n) (d:n≤l.length): ∃c∈l,m∈c.methods:=by
 unfold Xk at h
 simp only[List.mem_flatMap,List.mem_range] at h
 obtain ⟨k,e,a⟩:=h
 split at a
 ·have b:k<l.length:=by omega
  rw[List.getD_eq_getElem?_getD,List.getElem?_eq_getElem b] at a
  exact ⟨l[k],List.getElem_mem _,a⟩
 ·simp at a
def A6 (a:List Hm.Met) (x y:Nat):Bool:=decide ((a.getD x Hm.Met.zero).name=(a.getD y Hm.Met.zero).name)&& !decide (Qw (a.getD x Hm.Met.zero)=Qw (a.getD y Hm.Met.zero))
theorem Bq {α:Type} {l:List α} {d:α} {n:Nat} (h:n<l.length):l.getD n d=l[n]:=by rw[List.getD_eq_getElem?_getD,List.getElem?_eq_getElem h];rfl
theorem Q9R {a:List Hm.Met} {x y:Nat} (b:x<a.length) (c:y<a.length) (h:A6 a x y=true):Nt a=true:=by
 unfold Nt
 rw[List.any_eq_true]
 refine ⟨a[x],List.getElem_mem _,?_⟩
 rw[List.any_eq_true]
 refine ⟨a[y],List.getElem_mem _,?_⟩
 unfold A6 at h
 rwa [Bq b,Bq c] at h
theorem X16 {d:List Hm.Met} (h: ∀x y,x<d.length→y<x→A6 d x y=false):Nt d=false:=by
 unfold Nt
 rw[List.any_eq_false]
 intro a j
 rw[List.any_eq_true]
 rintro ⟨b,k,e⟩
 obtain ⟨x,g,rfl⟩:=List.getElem_of_mem j
 obtain ⟨y,i,rfl⟩:=List.getElem_of_mem k
 have f:A6 d y x=A6 d x y:=by
  unfold A6
  congr 1
  ·rw[Bool.eq_iff_iff];simp[eq_comm]
  ·congr 1;rw[Bool.eq_iff_iff];simp[eq_comm]
 have c:A6 d x y=true:=by unfold A6;rw[Bq g,Bq i];exact e
 rcases Nat.lt_trichotomy x y with hlt | heq | hlt
 ·rw[←f,h y x i hlt] at c;cases c
 ·subst heq;simp[A6] at c
 ·rw[h x y g hlt] at c;cases c
end Go.Hm
namespace Go.Proofs.YtjdiakhipmggjaaGreatDoor
open Go.Emb Go.RowKit Go.Kd Go.Hm
variable {w : World} {K : Value → World → Prop} {σ : Q6} {l : List Cla} {v : Value}
theorem Iv {c:Cla} (h:Zw c=false):c.fields.length≤32∧c.methods.length≤32∧ ∀m∈c.methods,m.params.length≤32:=by
 simp only[Zw,Bool.or_eq_false_iff,decide_eq_false_iff_not,List.any_eq_false] at h
 obtain ⟨⟨⟨a,f⟩,d⟩,e⟩:=h
 refine ⟨by omega,by omega,fun m b=>?_⟩
 have:=a m b
 simp only[Wr,Bool.or_eq_true,decide_eq_true_eq,not_or] at this
 omega
set_option maxHeartbeats 8000000 in
theorem Q71 {i:Nat} (hs:X3 w σ) (hv:Sl 8 U9 σ v l) (ok:Ok l) (own:T9 l) (hlen:l.length≤1000) (hmn: ∀c∈l,Zw c=false) (hi:i<l.length)
 (h: ∀w' σ',Stp w σ w' σ'→K (I (V9 l l[i])) w'):Q1 P F.b9 [v,I i] w K:=Fa (by
 unfold Wa
 obtain ⟨lv,fv,mv,p0,r0⟩:=hv.elC hi
 refine Y1 hv hi ?_
 refine Y4 hs p0 rfl ?_
 refine Y8 hs (by rfl) rfl (Rep.one r0) fun q w1 σ1 hk1 hq1=>?_
 have r1:=RCl_lift r0 ⟨hk1.le⟩
 obtain ⟨_,gf,gm,g4,_⟩:=r1.parts
 have hv1:=hv.up hk1
 have hnm:=ok.nm _ (List.getElem_mem hi)
 have hcm:=hmn _ (List.getElem_mem hi)
 have hname:Y3 l i=l[i].name:=Ta hi
 generalize hcE:l[i]=c at*
 obtain ⟨mf,mm,mp⟩:=Iv hcm
 have e64:Yx l c=true→V9 l c=64:=fun e=>by unfold V9;simp[e]
 have e65:Yx l c=false→B6 l c=true→V9 l c=65:=fun e e2=>by unfold V9;simp[e,e2]
 have e66:Yx l c=false→B6 l c=false→Zj l c=true→V9 l c=66:=fun e e2 e3=>by unfold V9;simp[e,e2,e3]
 have e67:Yx l c=false→B6 l c=false→Zj l c=false→Dv l c=true→V9 l c=67:=fun e e2 e3 e4=>by unfold V9;simp[e,e2,e3,e4]
 have e0:Yx l c=false→B6 l c=false→Zj l c=false→Dv l c=false→V9 l c=0:=fun e e2 e3 e4=>by unfold V9;simp[e,e2,e3,e4]
 generalize V9 l c=R at*
 clear p0 r0 r1 hcm
 refine U3 c.fields.length (fun n w'=> ∃σ',Stp w σ w' σ'∧SLe σ1 σ'∧(c.fields.take n).any (fun f=>(Ju l c.super f.name).isSome)=false) ⟨σ1,hk1,SLe.refl _,rfl⟩ fun n w2 d hn hinv=>?_
 obtain ⟨σ2,hS2,le2,hno⟩:=hinv
 have hq2:=hq1.lift le2
 have gf2:=gf.lift le2
 (try simp only[↓M1,M1,Mb,reduceIte])
 refine ld hS2.sat hq2 rfl ?_
 refine Q8 gf2 ?_
 refine Y9 ?_
 refine Q7 (fun hc=>?_) (fun hc=>?_)
 ·have hn':n<c.fields.length:=by simpa using hc
  obtain ⟨pf,_⟩:=gf2.elF hn'
  have hs2:=hS2.sat
  refine U0 hs2 ?_
  (repeat refine Z9 Qa ?_)
  (intros;(repeat (rename_i hx;subst hx));(try simp only[↓M2,M2,Mb,reduceIte]))
  rename_i w3 hb3
  refine Q9U hb3.sat (hv.up (hS2.trans hb3.stp)) ok.acy hlen ok.sm fun w4 σ4 hk4=>?_
  refine P7 ?_
  rw[A5]
  have hnx:=L2 (p:=fun f:Fld=>(Ju l c.super f.name).isSome) hn'
  cases hp:(Ju l c.super c.fields[n].name).isSome with
  | true=>
   (try simp only[↓M1,M1,Mb,reduceIte])
   rw[hp,Bool.or_true] at hnx
   have:R=64:=e64 (C0 hn' hp)
   subst this
   exact h _ _ ((hS2.trans hb3.stp).trans hk4)
  | false=>
   (try simp only[↓M1,M1,Mb,reduceIte])
   exact Y5 gf.max hn' ⟨σ4,(hS2.trans hb3.stp).trans hk4,le2.more ⟨(hb3.stp.trans hk4).le⟩,by rw[hnx,hno,hp];rfl⟩
 have hA:Yx l c=false:=by
  have hn': ¬n<c.fields.length:=by simpa using hc
  rw[E0 hn'] at hno;exact hno
 clear hno hc hn e64
 refine Ej (R:=U8) (e:=T.c) hS2 (by decide) fun x3 w3 hk3 ha3 _=>?_
 have hS3:=hS2.trans hk3
 refine E2 c.fields.length (fun n x w'=> ∃σ',Stp w σ w' σ'∧SLe σ1 σ'∧V7 w.heap.size T.c 1 U8 σ' w' x ((c.fields.take n).map (·.kind))) ⟨σ2,hS3,le2,ha3⟩ fun n x w4 d hn hinv=>?_
 obtain ⟨σ4,hS4,le4,ha4⟩:=hinv
 have hq4:=hq1.lift le4
 have gf4:=gf.lift le4
 (try simp only[↓M1,M1,Mb,reduceIte])
 refine ld hS4.sat hq4 rfl ?_
 refine Q8 gf4 ?_
 refine Y9 ?_
 refine Q7 (fun hc=>?_) (fun hc=>?_)
 ·have hn':n<c.fields.length:=by simpa using hc
  obtain ⟨pf,rf⟩:=gf4.elF hn'
  have hkl:=(hnm.2.1 _ (List.getElem_mem hn')).2
  (try simp only[↓M1,M1,Mb,reduceIte])
  refine ld hS4.sat hq4 rfl ?_
  refine Y1 gf4 hn' ?_
  (try simp only[↓M1,M1,Mb,reduceIte])
  refine ld hS4.sat pf rfl ?_
  refine Jp (R:=U8) (x:=c.fields[n].kind) hS4 ha4 ⟨rfl,Nat.le_trans hkl (by decide)⟩ rfl rfl rfl (by rw[List.length_map,List.length_take];omega) (by rw[List.length_map,List.length_take];omega) fun s v' w5 σ5 hnx hS5 ha5 _=>?_
  (try simp only[↓M1,M1,Mb,reduceIte])
  refine J5 gf.max hn' ⟨σ5,hS5,le4.more hnx.le,?_⟩
  rw[List.take_add_one,List.getElem?_eq_getElem hn',List.map_append]
  exact ha5
 rw[List.take_of_length_le (by
  have: ¬n<c.fields.length:=by simpa using hc
  omega)] at ha4
 clear hc hn hk3 ha3 hS3 hS2 le2 hq2 gf2 hq4 gf4
 have hkl: ∀n,(c.fields.map (·.kind)++(c.methods.take n).flatMap Zi).length≤2000:=fun n=>by
  have h1:=Wg Zi 33 (c.methods.take n) fun m hm=>by
   have:=mp m (List.mem_of_mem_take hm)
   unfold Zi
   split<;>simp<;>omega
  have h2:(c.methods.take n).length≤32:=by rw[List.length_take];omega
  have h3:(c.methods.take n).length*33≤32*33:=Nat.mul_le_mul_right _ h2
  rw[List.length_append,List.length_map];omega
 refine E2 c.methods.length (fun n x w'=> ∃σ',Stp w σ w' σ'∧SLe σ1 σ'∧V7 w.heap.size T.c 1 U8 σ' w' x (c.fields.map (·.kind)++(c.methods.take n).flatMap Zi)) ⟨σ4,hS4,le4,by simpa using ha4⟩ fun n x w5 d hn hinv=>?_
 clear ha4 hS4 le4
 obtain ⟨σ5,hS5,le5,ha5⟩:=hinv
 have hq5:=hq1.lift le5
 have gm5:=gm.lift le5
 have hkn:=hkl n
 (try simp only[↓M1,M1,Mb,reduceIte])
 refine ld hS5.sat hq5 rfl ?_
 refine Q8 gm5 ?_
 refine Y9 ?_
 refine Q7 (fun hc=>?_) (fun hc=>?_)
 ·have hn':n<c.methods.length:=by simpa using hc
  obtain ⟨pv,cv,hv',pm,rm⟩:=gm5.elM hn'
  obtain ⟨gp,_,_,_,gr,_⟩:=rm.parts
  have hpn:=mp _ (List.getElem_mem hn')
  have hrl:=(hnm.2.2 _ (List.getElem_mem hn')).1
  have hnx:(c.methods.take (n+1)).flatMap Zi=(c.methods.take n).flatMap Zi++Zi c.methods[n]:=by
   rw[List.take_add_one,List.getElem?_eq_getElem hn',List.flatMap_append];simp
  refine V0 ?_
  (try simp only[↓M1,M1,Mb,reduceIte])
  refine ld hS5.sat hq5 rfl ?_
  refine Y1 gm5 hn' ?_
  (try simp only[↓M1,M1,Mb,reduceIte])
  refine ld hS5.sat pm rfl ?_
  refine Wm hS5 ha5 gp rfl (by omega) (by omega) fun v6 w6 hn6 hS6 ha6 _=>?_
  (try simp only[↓M1,M1,Mb,reduceIte])
  refine ld hS6.sat hq5 rfl ?_
  refine Y1 gm5 hn' ?_
  (try simp only[↓M1,M1,Mb,reduceIte])
  refine ld hS6.sat pm rfl ?_
  refine Jh ?_
  by_cases he:c.methods[n].result=[]
  ·simp only[he,decide_true,Bool.not_true,↓M1,M1,Mb,reduceIte]
   intro d
   refine J5 gm.max hn' ⟨σ5,hS6,le5,?_⟩
   rw[hnx]
   unfold Zi
   rw[if_pos he,List.append_nil,←List.append_assoc]
   exact ha6
  ·simp only[he,decide_false,Bool.not_false,↓M1,M1,Mb,reduceIte]
   refine ld hS6.sat hq5 rfl ?_
   refine Y1 gm5 hn' ?_
   (try simp only[↓M1,M1,Mb,reduceIte])
   refine ld hS6.sat pm rfl ?_
   refine Jp (R:=U8) (x:=c.methods[n].result) hS6 ha6 ⟨rfl,Nat.le_trans hrl (by decide)⟩ rfl rfl rfl (by rw[List.length_append];omega) (by rw[List.length_append];omega) fun s v' w7 σ7 hn7 hS7 ha7 _=>?_
   intro d
   (try simp only[↓M1,M1,Mb,reduceIte])
   refine J5 gm.max hn' ⟨σ7,hS7,le5.more hn7.le,?_⟩
   rw[hnx]
   unfold Zi at ha7⊢
   rw[if_neg he]
   simpa only[List.append_assoc] using ha7
 rw[List.take_of_length_le (by
  have: ¬n<c.methods.length:=by simpa using hc
  omega)] at ha5
 have hkn:=hkl c.methods.length
 rw[List.take_of_length_le (Nat.le_refl _)] at hkn
 have hkE:B6 l c=(Jn c).any (fun s=> !O8 l s):=Q9i.symm
 have hkb: ∀s∈Jn c,s.length≤U2:=fun s hs=>by
  unfold Jn at hs
  rcases List.mem_append.1 hs with hs | hs
  ·obtain ⟨f,hf,rfl⟩:=List.mem_map.1 hs
   exact Nat.le_trans (hnm.2.1 f hf).2 (by decide)
  ·obtain ⟨m,hm,hs⟩:=List.mem_flatMap.1 hs
   unfold Zi at hs
   rcases List.mem_append.1 hs with hs | hs
   ·exact Nat.le_trans ((hnm.2.2 m hm).2 s hs) (by decide)
   ·split at hs
    ·simp at hs
    ·simp at hs;subst hs;exact Nat.le_trans (hnm.2.2 m hm).1 (by decide)
 obtain ⟨σ6,hS6,hv6,lee6,_⟩:=ha5.keep hS5
 have le6:=le5.more ⟨lee6⟩
 clear ha5 hq5 gm5 hc hn
 change Sl 1 U8 σ6 x (Jn c) at hv6
 refine U3 (Jn c).length (fun n w'=>Stp w σ w' σ6∧((Jn c).take n).any (fun s=> !O8 l s)=false) ⟨hS6,rfl⟩ fun n w7 d hn hinv=>?_
 obtain ⟨hS7,hno⟩:=hinv
 refine Q8 hv6 ?_
 refine Y9 ?_
 refine Q7 (fun hc=>?_) (fun hc=>?_)
 ·have hn':n<(Jn c).length:=by simpa using hc
  refine Y1 hv6 hn' ?_
  obtain ⟨pk,_⟩:=hv6.elS hn'
  refine X7 hS7.sat pk rfl ?_
  refine X07 hS7.sat (hv.up hS7) (hkb _ (List.getElem_mem hn')) ?_
  have hnx:=L2 (p:=fun s=> !O8 l s) hn'
  cases hp:O8 l (Jn c)[n] with
  | false=>
   (try simp only[↓M1,M1,Mb,reduceIte])
   have:R=65:=e65 hA (by rw[hkE];exact C0 hn' (by simp[hp]))
   subst this
   exact h _ _ hS7
  | true=>
   (try simp only[↓M1,M1,Mb,reduceIte])
   exact Y5 hv6.max hn' ⟨hS7,by rw[hnx,hno,hp];rfl⟩
 have hB:B6 l c=false:=by
  have hn': ¬n<(Jn c).length:=by simpa using hc
  rw[E0 hn'] at hno;rw[hkE];exact hno
 clear hno hc hn e65 hkE hkb hkn hkl hS5 le5 lee6 hv6
 refine Q17 hS7.sat (hv.up hS7) own (by omega) hlen ok.sm fun vb w8 σ8 hk8 hb8=>?_
 have hS8:=hS7.trans hk8
 refine Ej (R:=E7) (e:=T.d) hS8 (by decide) fun x9 w9 hk9 ha9 _=>?_
 have hml: ∀n,n≤l.length→(Xk l i n).length≤32000:=fun n hn=>by
  unfold Xk
  have h1:=Wg (fun k=>if upB l i k then (l.getD k Cla.zero).methods else []) 32 (List.range n) fun k hk=>by
   have hk':k<l.length:=by have:=List.mem_range.1 hk;omega
   split
   ·rw[Bq hk'];exact (Iv (hmn _ (List.getElem_mem _))).2.1
   ·simp
  rw[List.length_range] at h1
  have h3:n*32≤1000*32:=Nat.mul_le_mul_right _ (by omega)
  omega
 have hbl:(I7 l).length=l.length:=by simp[I7]
 refine E2 l.length (fun n x w'=> ∃σ',Stp w σ w' σ'∧SLe σ1 σ'∧SLe σ8 σ'∧V7 w.heap.size T.d 7 E7 σ' w' x (Xk l i n)) ⟨σ8,hS8.trans hk9,le6.more ⟨hk8.le⟩,SLe.refl _,ha9⟩ fun n x w10 d hn hinv=>?_
 clear ha9 hk9 hS7 hS8 le6 hS6 hk8
 obtain ⟨σ10,hS10,le10,leb,ha10⟩:=hinv
 have hv10:=hv.up hS10
 refine Q8 hv10 ?_
 refine Y9 ?_
 refine Q7 (fun hc=>?_) (fun hc=>?_)
 ·have hn':n<l.length:=by simpa using hc
  have hmn1:=hml n hn
  have hsuc:=Q8C (l:=l) (i:=i) (n:=n)
  rw[Bq hn'] at hsuc
  obtain ⟨lv2,fv2,mv2,p2,r2⟩:=hv10.elC hn'
  obtain ⟨_,_,g3,_,_⟩:=r2.parts
  have hmn2:=(Iv (hmn _ (List.getElem_mem hn'))).2.1
  refine Zy (fun z w'=>Stp w σ w' σ10∧V7 w.heap.size T.d 7 E7 σ10 w' z (Xk l i (n+1))) ?_ (fun z d w' hz=>?_)
  ·refine P4 ?_
   have happ: ∀{J:Value→World→Prop},upB l i n=true→(∀z w',Stp w σ w' σ10→V7 w.heap.size T.d 7 E7 σ10 w' z (Xk l i (n+1))→J z w')→
    X2 P .append [T.j,T.j] T.j [false,false] [x,mv2] w10 J:=fun hu hJ=>
    Wm hS10 ha10 g3 rfl (by omega) (by omega) fun v' w' _ hS' ha' _=>hJ v' w' hS' (by rw[hsuc,if_pos hu];exact ha')
   by_cases e:n=i
   ·have e1:decide ((n:Int)=(i:Int))=true:=by simp[e]
    rw[e1]
    (try simp only[↓M1,M1,Mb,reduceIte])
    refine Y1 hv10 hn' ?_
    (try simp only[↓M1,M1,Mb,reduceIte])
    refine ld hS10.sat p2 rfl ?_
    exact happ (by simp[upB,e]) fun z w' h1 h2=>⟨h1,h2⟩
   ·have e1:decide ((n:Int)=(i:Int))=false:=by rw[decide_eq_false_iff_not];omega
    rw[e1]
    obtain ⟨cs1,pb,_,rv,rfl,rb⟩:=(hb8.lift leb).el (i:=i) (by rw[hbl];exact hi)
    have hrow:(I7 l)[i]'(by rw[hbl];exact hi)=(List.range l.length).map fun j=>Xi l (Y3 l i) (Y3 l j):=by simp[I7]
    rw[hrow] at rb
    obtain ⟨cs2,pb2,_,hcs2⟩:=rb.el (i:=n) (by simpa using hn')
    have hcs2:cs2=_:=hcs2
    subst hcs2
    simp only[List.getElem_map,List.getElem_range] at pb2
    (try simp only[↓M1,M1,Mb,reduceIte])
    refine Y1 (hb8.lift leb) (by rw[hbl];exact hi) ?_
    refine X7 hS10.sat pb rfl ?_
    refine Y1 rb (by simpa using hn') ?_
    refine X7 hS10.sat pb2 rfl ?_
    (try simp only[↓M1,M1,Mb,reduceIte])
    cases ho:Xi l (Y3 l i) (Y3 l n) with
    | true=>
     (try simp only[↓M1,M1,Mb,reduceIte])
     refine Y1 hv10 hn' ?_
     (try simp only[↓M1,M1,Mb,reduceIte])
     refine ld hS10.sat p2 rfl ?_
     exact happ (by simp[upB,ho]) fun z w' h1 h2=>⟨h1,h2⟩
    | false=>
     (try simp only[↓M1,M1,Mb,reduceIte])
     refine ⟨hS10,?_⟩
     have:upB l i n=false:=by simp[upB,ho,e]
     rw[hsuc,this]
     simpa using ha10
  ·obtain ⟨hS',ha'⟩:=hz
   (try simp only[↓M1,M1,Mb,reduceIte])
   exact J5 (by omega) hn' ⟨σ10,hS',le10,leb,ha'⟩
 have hn0:n=l.length:=by
  have: ¬n<l.length:=by simpa using hc
  omega
 subst hn0
 obtain ⟨σ11,hS11,hv11,lee11,_⟩:=ha10.keep hS10
 have le11:=le10.more ⟨lee11⟩
 have hml2:=hml _ (Nat.le_refl l.length)
 have hov:Zj l c=Nt (Xk l i l.length):=by
  unfold Zj
  refine (Q79 fun m=>?_).symm
  rw[Q4J own hi,hname]
 have hlk:Dv l c=(!c.abs&&(Xk l i l.length).any fun m=>Zh l c.name m.name):=by
  unfold Dv
  congr 1
  refine (X0v fun m=>?_).symm
  rw[Q4J own hi,hname]
 have hsn: ∀m∈Xk l i l.length,SmM m∧NmM m:=fun m hm=>by
  obtain ⟨c2,hc2,hm2⟩:=Q9D hm (Nat.le_refl _)
  exact ⟨(ok.sm c2 hc2).2.2.2 m hm2,(ok.nm c2 hc2).2.2 m hm2⟩
 generalize Xk l i l.length=ms at hov hlk hsn hml2 hv11
 clear ha10 lee11 hS10 le10 leb hv10 hml hc hb8 hbl
 refine U3 ms.length (fun n w'=> ∃σ',Stp w σ w' σ'∧SLe σ11 σ'∧ ∀a b,a<n→b<a→A6 ms a b=false) ⟨σ11,hS11,SLe.refl _,fun a b h=>by omega⟩ fun n w12 d hn hinv=>?_
 obtain ⟨σ12,hS12,le12,hno⟩:=hinv
 have hv12:=hv11.lift le12
 refine Q8 hv12 ?_
 refine Y9 ?_
 refine Q7 (fun hc=>?_) (fun hc=>?_)
 ·have hn':n<ms.length:=by simpa using hc
  refine U3 n (fun m w'=> ∃σ',Stp w σ w' σ'∧SLe σ11 σ'∧ ∀b,b<m→A6 ms n b=false) ⟨σ12,hS12,le12,fun b h=>by omega⟩ fun m w13 d hm hinv=>?_
  obtain ⟨σ13,hS13,le13,hno2⟩:=hinv
  have hv13:=hv11.lift le13
  refine Y9 ?_
  refine Q7 (fun hc=>?_) (fun hc=>?_)
  ·have hm':m<n:=by simpa using hc
   have hm2:m<ms.length:=by omega
   obtain ⟨pv1,cv1,hv1',pn,rn⟩:=hv13.elM hn'
   obtain ⟨pv2,cv2,hv2',pm,rm⟩:=hv13.elM hm2
   obtain ⟨sn1,sn2⟩:=hsn _ (List.getElem_mem hn')
   obtain ⟨sm1,sm2⟩:=hsn _ (List.getElem_mem hm2)
   have hat:A6 ms n m=(decide (ms[n].name=ms[m].name)&& !decide (Qw ms[n]=Qw ms[m])):=by
    unfold A6;rw[Bq hn',Bq hm2]
   have hs13:=hS13.sat
   have hnx:A6 ms n m=false→ ∀b,b<m+1→A6 ms n b=false:=fun e b hb=>by
    by_cases e2:b=m
    ·subst e2;exact e
    ·exact hno2 b (by omega)
   refine U0 hs13 ?_
   (repeat refine Z9 Qa ?_)
   by_cases he:ms[n].name=ms[m].name
   ·have hd:decide (ms[n].name=ms[m].name)=true:=by simp[he]
    simp only[hd,reduceIte]
    (repeat (apply Z9;(· intros;(repeat (rename_i hx;subst hx));(repeat' (first | (with_reducible exact L7 rfl) | (with_reducible exact R9 (Stp.bel (by (repeat (first | exact Stp.refl (by (first | assumption | exact Stp.sat (by assumption) | exact Hst.sat (by assumption))) | assumption | refine Stp.trans ?_ (by first | assumption | exact Hst.stp (by assumption)))))) rfl) | (with_reducible intro _) | (simp only[↓M2,M2,Mb,reduceIte]) | (with_reducible show Q2 _ _ _ _ _;first | refine X7 aS aL aR ?_ | refine Y4 aS aL aR ?_ | refine ld aS aL aR ?_) | (with_reducible show indexAddr _ _ _ _ _ _;refine Y1 aL au ?_) | (with_reducible show X2 _ _ _ _ _ _ _ _;refine Q8 aL ?_) | (with_reducible show B7 _ _ _ _ _ _;refine J3 aR ?_) | (with_reducible show pick _ _ _ _ _ _;refine M3 ?_) | (with_reducible show Q1 _ _ _ _ _;first | refine Q5j au au au au ?_) | (apply B8;intro hh;(try simp only[hh,reduceIte,↓M2,M2,Mb,reduceIte]))));done)))
    (intros;(repeat (rename_i hx;subst hx));(try simp only[↓M2,M2,Mb,reduceIte]))
    rename_i w14 hb14
    refine Q5j hb14.sat rm sm1 sm2 fun w15 σ15 hk15=>?_
    refine Jh ?_
    (try simp only[↓M1,M1,Mb,reduceIte])
    have hS15:=(hS13.trans hb14.stp).trans hk15
    by_cases hsg:Qw ms[n]=Qw ms[m]
    ·simp only[hsg,decide_true,Bool.not_true,↓M1,M1,Mb,reduceIte]
     refine Y5 (by omega) hm' ⟨σ15,hS15,le13.more ⟨(hb14.stp.trans hk15).le⟩,hnx ?_⟩
     rw[hat,hsg];simp
    ·simp only[hsg,decide_false,Bool.not_false,↓M1,M1,Mb,reduceIte]
     have:R=66:=e66 hA hB (by rw[hov];exact Q9R hn' hm2 (by rw[hat];simp[he,hsg]))
     subst this
     exact h _ _ hS15
   ·have hd:decide (ms[n].name=ms[m].name)=false:=by simp[he]
    simp only[hd,Bool.false_eq_true,reduceIte]
    (repeat refine Z9 Qa ?_)
    (intros;(repeat (rename_i hx;subst hx));(try simp only[↓M2,M2,Mb,reduceIte]))
    rename_i w14 hb14
    (try simp only[↓M1,M1,Mb,reduceIte])
    refine Y5 (by omega) hm' ⟨σ13,hS13.trans hb14.stp,le13,hnx ?_⟩
    rw[hat];simp[he]
  ·have hm0:m=n:=by
    have: ¬m<n:=by simpa using hc
    omega
   subst hm0
   (try simp only[↓M1,M1,Mb,reduceIte])
   refine Y5 hv11.max hn' ⟨σ13,hS13,le13,fun a b ha hb=>?_⟩
   by_cases e:a=m
   ·subst e;exact hno2 b hb
   ·exact hno a b (by omega) hb
 have hC:Zj l c=false:=by
  rw[hov]
  have: ¬n<ms.length:=by simpa using hc
  exact X16 fun x y hx hy=>hno x y (by omega) hy
 clear hno hc hn hv12 hov e66
 refine U3 ms.length (fun n w'=> ∃σ',Stp w σ w' σ'∧SLe σ11 σ'∧(c.abs=true→n=0)∧(ms.take n).any (fun m=>Zh l c.name m.name)=false) ⟨σ12,hS12,le12,fun _=>rfl,rfl⟩ fun n w13 d hn hinv=>?_
 clear hS12 le12
 obtain ⟨σ13,hS13,le13,hab,hno⟩:=hinv
 have hv13:=hv11.lift le13
 have hq13:=hq1.lift (le11.more le13)
 refine Q8 hv13 ?_
 refine Y9 ?_
 by_cases hn':n<ms.length
 ·have e1:decide ((n:Int)<(ms.length:Int))=true:=by simpa using hn'
  rw[e1]
  (try simp only[↓M1,M1,Mb,reduceIte])
  refine ld hS13.sat hq13 rfl ?_
  refine Jj ?_
  (try simp only[↓M1,M1,Mb,reduceIte])
  cases hca:c.abs with
  | true=>
   (try simp only[↓M1,M1,Mb,reduceIte])
   have:R=0:=e0 hA hB hC (by rw[hlk,hca];rfl)
   subst this
   exact h _ _ hS13
  | false=>
   (try simp only[↓M1,M1,Mb,reduceIte])
   obtain ⟨pvn,cvn,hvn,pn,rn⟩:=hv13.elM hn'
   have hs13:=hS13.sat
   have hnx:=L2 (p:=fun m:Hm.Met=>Zh l c.name m.name) hn'
   have hla:Zh l c.name ms[n].name=(!(V4 l c.name ms[n].name).isSome||(o2 (V4 l c.name ms[n].name)).abs):=by
    unfold Zh
    cases V4 l c.name ms[n].name<;>rfl
   generalize hF:(fun o:Option Obj=> ∃cs:List Value,∃e,o=some (.cells cs.toArray e (0,0))∧cs.length=7∧cs[3]? =some (.bool (o2 (V4 l c.name ms[n].name)).abs))=F
   have hFn: ¬F none:=by rw[←hF];rintro ⟨_,_,h,_⟩;cases h
   refine X3w F hs13 ?_
   (repeat (apply Z9;(· intros;(repeat (rename_i hx;subst hx));(repeat' (first | (with_reducible exact Q5x rfl) | (with_reducible exact X2i (Stp.bel (by (repeat (first | exact Stp.refl (by (first | assumption | exact Stp.sat (by assumption) | exact Hst.sat (by assumption))) | assumption | refine Stp.trans ?_ (by first | assumption | exact Hst.stp (by assumption)))))) rfl) | (with_reducible intro _) | (simp only[↓M2,M2,Mb,reduceIte]) | (with_reducible show Q2 _ _ _ _ _;first | refine X7 aS aL aR ?_ | refine Y4 aS aL aR ?_ | refine ld aS aL aR ?_) | (with_reducible show indexAddr _ _ _ _ _ _;refine Y1 aL au ?_) | (with_reducible show X2 _ _ _ _ _ _ _ _;refine Q8 aL ?_) | (with_reducible show B7 _ _ _ _ _ _;refine J3 aR ?_) | (with_reducible show pick _ _ _ _ _ _;refine M3 ?_)));done)))
   refine E8 (fun v _=> ∃s,∃ds:List Value,v= .tuple #[s, .agg ds.toArray, .bool (V4 l c.name ms[n].name).isSome]∧ds.length=7∧ds[3]? =some (.bool (o2 (V4 l c.name ms[n].name)).abs)∧ ∀u∈ds,u.oneCell'=true) (fun _ _ _ h _=>h) (fun t180 t185 w hb e1 e2=>?_) ?_
   ·subst e1;subst e2
    refine Q8B hb.sat (hv.up (hS13.trans hb.stp)) ok fun pv cv hv w' σ' hk hr=>⟨.of_below hk.bel,_,_,rfl,rfl,rfl,Rep.one hr⟩
   refine E8 (fun _ _=>True) (fun _ _ _ _ _=>trivial) (fun t186 w hb e=>?_) ?_
   ·obtain ⟨s,ds,rfl,_⟩:=e
    exact J4 (vs:=[_,_,_]) rfl ⟨.of_below (Below.refl _ _),trivial⟩
   refine E8 (fun v _=> ∃ds:List Value,v= .agg ds.toArray∧ds.length=7∧ds[3]? =some (.bool (o2 (V4 l c.name ms[n].name)).abs)∧ ∀u∈ds,u.oneCell'=true) (fun _ _ _ h _=>h) (fun t186 w hb e=>?_) ?_
   ·obtain ⟨s,ds,rfl,h7⟩:=e
    exact J4 (vs:=[_,_,_]) rfl ⟨.of_below (Below.refl _ _),ds,rfl,h7⟩
   refine Z9 (V:= .bool (V4 l c.name ms[n].name).isSome) (fun t186 w hb e=>?_) ?_
   ·obtain ⟨s,ds,rfl,h7⟩:=e
    exact J4 (vs:=[_,_,_]) rfl (Q5x rfl)
   refine E8 (X2R w13.heap.size 7 F) (Q87 hFn) (fun w hb=>?_) ?_
   ·exact Ti hb.sat fun b w' hb2 hk hm=>⟨.of_below hk.bel,b,rfl,Nat.le_trans hb.stp.bel.size hb2, .inl ⟨_,hm.2.choose,rfl,hm.2.choose_spec⟩⟩
   refine Q41 (fun xs _ w=>X3q w13.heap.size F (xs.headD undef) w) (fun xs _ w w' h hT=>Q86 hFn _ w w' h hT) (fun t18 t188 w hb e1 e2=>?_) ?_
   ·obtain ⟨g,rfl,hg,hd⟩:=e1
    obtain ⟨ds,rfl,h7,h3,h1⟩:=e2
    obtain ⟨cs,e,hl7,hh⟩: ∃cs:List Value,∃e,cs.length=7∧w.heap[g]? =some (.cells cs.toArray e (0,0)):=by
     rcases hd with h | h
     ·exact h
     ·rw[←hF] at h
      obtain ⟨cs,e,h4,h5,_⟩:=h
      exact ⟨cs,e,h5,h4⟩
    refine Wc (σ:=fun _=>none) (cs:=cs) (ds:=ds) ⟨rfl,e,hh⟩ hl7 h7 (by rw[List.all_toArray];exact List.all_eq_true.2 h1) fun w' hu hm=>?_
    have hFg:F (w'.heap[g]?):=by
     obtain ⟨_,e',hm'⟩:=hm
     rw[hm',←hF]
     exact ⟨ds,e',rfl,h7,h3⟩
    exact ⟨FinT.of_upd hu hg hFg,g,rfl,hg,hFg⟩
   rintro t179 t183 t184 t180 t185 t186 t187 t188 t189 t18 u15 w14 hb14 rfl rfl rfl rfl rfl _ _ _ rfl _ ⟨g,e,hg,hd⟩
   have e:t18=_:=e
   subst e
   rw[←hF] at hd
   obtain ⟨cs,ty,hh,hl7,h3⟩:=hd
   have hS14:=hS13.trans hb14.stp
   refine Jj ?_
   cases hsm:(V4 l c.name ms[n].name).isSome with
   | false=>
    (try simp only[↓M1,M1,Mb,reduceIte])
    have:R=67:=e67 hA hB hC (by rw[hlk,hca];exact C0 hn' (by rw[hla,hsm];rfl))
    subst this
    exact h _ _ hS14
   | true=>
    (try simp only[↓M1,M1,Mb,reduceIte])
    refine Yi (σ:=fun _=>none) ⟨rfl,ty,hh⟩ h3 ?_
    (try simp only[↓M1,M1,Mb,reduceIte])
    cases hma:(o2 (V4 l c.name ms[n].name)).abs with
    | true=>
     (try simp only[↓M1,M1,Mb,reduceIte])
     have:R=67:=e67 hA hB hC (by rw[hlk,hca];exact C0 hn' (by rw[hla,hma,Bool.or_true]))
     subst this
     exact h _ _ hS14
    | false=>
     (try simp only[↓M1,M1,Mb,reduceIte])
     refine Y5 hv11.max hn' ⟨σ13,hS14,le13,fun e=>False.elim (by simpa using e),?_⟩
     rw[hnx,hno,hla,hsm,hma];rfl
 ·have e1:decide ((n:Int)<(ms.length:Int))=false:=by simpa using hn'
  rw[e1]
  (try simp only[↓M1,M1,Mb,reduceIte])
  rw[E0 hn'] at hno
  have:R=0:=e0 hA hB hC (by rw[hlk,hno,Bool.and_false])
  subst this
  exact h _ _ hS13)
end Go.Proofs.YtjdiakhipmggjaaGreatDoor

namespace Go.Proofs.YtjdiakhipmggjaaGreatDoor
open Go.Emb Go.RowKit Go.Kd Go.Hm
variable {w : World} {K : Value → World → Prop} {σ : Q6} {l : List Cla} {v : Value}
theorem X1Q {w0:World} {σ0:Q6} {frm:Nat} (Z:Jc l) (ho:T9 l) (hl:l.length≤1000) (a0: ∀c∈l,Qs c) (hf:0<frm) (ax: ∀i (E:i<l.length),frm≤i→ ∀u∈U4 l[i],∃j,Z3 l u=some j): ∀(k:Nat) {i:Nat} {b:List Nat} {x:Value} {w:World} {σ:Q6} {K:Value→World→Prop},i<l.length→K8 l (Y3 l i)<k→Few l b→Stp w0 σ0 w σ→Sl 8 U9 σ v l→V7 w0.heap.size T.e 1 Wx σ w x (ints b)→
 (∀x' w' J,Stp w0 σ0 w' J→SLe σ J→V7 w0.heap.size T.e 1 Wx J w' x' (ints (Xq l frm b i))→K x' w')→Q1 P F.b1 [v,x,I frm,I i] w K:=by
 intro k
 induction k with
 | zero=>intro i b x w σ K E hk;omega
 | succ k ih=>
  intro i b x w σ K E hk B hS hv Y h
  refine Q1a ?_
  unfold Ha
  rw[Q7r Z ho hf b E] at h
  refine Y9 ?_
  refine Q7 (fun Q=>?_) (fun Q=>?_)
  ·have Q:i<frm:=by have:=of_decide_eq_true Q;omega
   rw[if_pos Q] at h
   exact h _ _ _ hS (SLe.refl _) Y
  have Q: ¬i<frm:=by have:=of_decide_eq_false Q;omega
  rw[if_neg Q] at h
  have bm:=B.len
  refine U3 b.length (fun n w'=>w'=w∧ ∀m (hm:m<b.length),m<n→b[m]≠i) ⟨rfl,fun m _ h=>by omega⟩ fun n w2 d hn p=>?_
  obtain ⟨hw,N⟩:=p
  subst hw
  refine Q8z Y ?_
  rw[show (ints b).length=b.length from by simp]
  refine Y9 ?_
  refine Q7 (fun D=>?_) (fun D=>?_)
  ·have f:n<b.length:=by simpa using D
   refine Q5K (J9.of_acc Y) (n:=n) (by simpa using f) fun a cs ar ba hr=>?_
   obtain ⟨rfl,_⟩:=hr
   refine Qg (by have:=ar 0 _ rfl;rwa [add_zero] at this) ?_
   simp only[List.getElem_map]
   refine P4 ?_
   by_cases e:b[n]=i
   ·have:decide ((b[n]:Int)=i)=true:=by simp[e]
    rw[this]
    refine J7 ?_
    rw[if_pos (e▸List.getElem_mem f)] at h
    exact h _ _ _ hS (SLe.refl _) Y
   ·have:decide ((b[n]:Int)=i)=false:=by rw[decide_eq_false_iff_not];omega
    rw[this]
    refine Z7 ?_
    refine N3 ?_
    refine Y5 (by omega) f ⟨rfl,fun m hm bi=>?_⟩
    by_cases e2:m=n
    ·subst e2;exact e
    ·exact N m hm (by omega)
  ·have f: ¬n<b.length:=by simpa using D
   have C:i∉b:=fun ap=>by
    obtain ⟨m,hm,e⟩:=List.getElem_of_mem ap
    exact N m hm (by omega) e
   rw[if_neg C] at h
   have af:l.getD i Cla.zero=l[i]:=by rw[List.getD_eq_getElem?_getD,List.getElem?_eq_getElem E];rfl
   rw[af] at h
   have an:=ax i E (by omega)
   obtain ⟨lv,fv,mv,p1,r1⟩:=hv.elC E
   obtain ⟨g1,_,_,_,g5⟩:=r1.parts
   have H:=a0 _ (List.getElem_mem E)
   clear N C D hn
   refine U0 hS.sat ?_
   (repeat refine Z9 Qa ?_)
   refine Q1P (w:=w2) (σ:=σ) (R:=U8) (sz:=1) (e:=T.c) [l[i].super] (fun t w hb e=>?_) ?_
   ·subst e;exact Zf hb.stp [_] [l[i].super] rfl rfl (by simp;rfl) rfl ⟨⟨rfl,g5⟩,trivial⟩ fun v' w' hk Z _=>Q3h hb hk Z
   (repeat refine Z9 Qa ?_)
   rintro bk br bh bw bv bd bo w4 ao rfl rfl rfl rfl rfl ⟨ad,ag⟩ rfl
   refine Wm ad ag g1 rfl (by simp;have:=H.1;omega) (by simp;have:=H.1;omega) fun v5 w5 ay ab ac W=>?_
   obtain ⟨σ6,r,O,bg,_⟩:=ac.keep ab
   have O:Sl 1 U8 σ6 v5 (U4 l[i]):=O
   have am:=Y.up r
   have V:=hv.up r
   have X:=hS.trans r
   have ah:SLe σ σ6:=⟨r.le⟩
   clear ay W ac ag ad ao ab
   refine E2 (U4 l[i]).length (fun n x w'=> ∃J o,Stp w0 σ0 w' J∧SLe σ6 J∧V7 w0.heap.size T.e 1 Wx J w' x (ints o)∧Few l o∧o=((U4 l[i]).take n).foldl (fun b n=>Xq l frm b ((Z3 l n).getD 0)) b) ⟨σ6,b,X,SLe.refl _,am,B,rfl⟩ fun n x7 w7 d hn p=>?_
   obtain ⟨σ7,a6,z,q,aa,g,L⟩:=p
   have y:=O.lift q
   refine Q8 y ?_
   refine Y9 ?_
   refine Q7 (fun D=>?_) (fun D=>?_)
   ·have f:n<(U4 l[i]).length:=by simpa using D
    refine Y1 y f ?_
    obtain ⟨p7,_⟩:=y.elS f
    refine X7 z.sat p7 rfl ?_
    have A:=V.lift q
    refine K0 z.sat A ?_
    obtain ⟨j,hj⟩:=an _ (List.getElem_mem f)
    have a9:=Q1I Z ho E (by rw[af];exact List.getElem_mem f) hj
    have ae:=(S8 hj).1
    simp only[hj,L6]
    refine ih ae (by omega) g z A aa fun x8 w8 σ8 M az U=>?_
    refine N3 ?_
    refine J5 y.max f ⟨σ8,_,M,q.more az,U,Ip Z ho hf _ _ _ ae g,?_⟩
    rw[List.take_add_one,List.getElem?_eq_getElem f,List.foldl_append,←L]
    simp[hj]
   ·have f: ¬n<(U4 l[i]).length:=by simpa using D
    rw[List.take_of_length_le (by omega)] at L
    have bq:=g.len
    refine Jp (R:=Wx) (x:=(i:Int)) z aa ⟨rfl,by omega,by omega⟩ rfl rfl rfl (by simp;omega) (by simp;omega) fun s x8 w8 σ8 av M U _=>?_
    refine h _ _ _ M ((ah.more q).more av.le) ?_
    rw[←L]
    simpa [ints] using U
end Go.Proofs.YtjdiakhipmggjaaGreatDoor

namespace Go.Hm
open Go.Kd
def C5 (n i b:Nat):Bool:=decide (i<n)&&decide (128≤b)&&decide (b<192)
def Jl (n a b c d:Nat):Nat:=
 if a<128 then 1
 else if (decide (194≤a)&&decide (a<224)&&C5 n 1 b)=true then 2
 else if (decide (224≤a)&&decide (a<240)&&C5 n 1 b&&C5 n 2 c)=true then
  (if 2048≤a % 16*4096+b % 64*64+c % 64∧(a % 16*4096+b % 64*64+c % 64<55296∨57343<a % 16*4096+b % 64*64+c % 64) then 3 else 0)
 else if (decide (240≤a)&&decide (a<245)&&C5 n 1 b&&C5 n 2 c&&C5 n 3 d)=true then
  (if 65536≤a % 8*262144+b % 64*4096+c % 64*64+d % 64∧a % 8*262144+b % 64*4096+c % 64*64+d % 64≤1114111 then 4 else 0)
 else 0
theorem X0q (n a b c d:Nat) (q:a<256) (r:b<256) (t:c<256) (p:d<256):
 Jl n a b c d=if (Lib.decodeN n a b c d).1=65533∧(Lib.decodeN n a b c d).2=1 then 0 else (Lib.decodeN n a b c d).2:=by
 have key: ∀v k:Nat,Lib.decodeN n a b c d=(v,k)→ ¬k=1→Jl n a b c d=k→Jl n a b c d=if (Lib.decodeN n a b c d).1=65533∧(Lib.decodeN n a b c d).2=1 then 0 else (Lib.decodeN n a b c d).2:=by
  intro v k h o m
  rw[h,m,if_neg (fun e=>o e.2)]
 have f:Lib.decodeN n a b c d=(65533,1)→Jl n a b c d=0→Jl n a b c d=if (Lib.decodeN n a b c d).1=65533∧(Lib.decodeN n a b c d).2=1 then 0 else (Lib.decodeN n a b c d).2:=by
  intro h m
  rw[h,m];simp
 by_cases c0:a<128
 ·have h:Lib.decodeN n a b c d=(a,1):=by unfold Lib.decodeN;rw[if_pos c0]
  rw[h,if_neg (by simp only;omega)]
  unfold Jl;rw[if_pos c0]
 by_cases i:a / 32=6∧(1<n∧b / 64=2)
 ·by_cases g:a % 32*64+b % 64≥128
  ·refine key _ 2 (by unfold Lib.decodeN;rw[if_neg c0,if_pos i,if_pos g]) (by decide) ?_
   unfold Jl C5
   simp only[Bool.and_eq_true,decide_eq_true_eq]
   rw[if_neg c0,if_pos (by omega)]
  ·refine f (by unfold Lib.decodeN;rw[if_neg c0,if_pos i,if_neg g]) ?_
   unfold Jl C5
   simp only[Bool.and_eq_true,decide_eq_true_eq]
   rw[if_neg c0,if_neg (by omega),if_neg (by omega),if_neg (by omega)]
 by_cases j:a / 16=14∧(1<n∧b / 64=2)∧(2<n∧c / 64=2)
 ·by_cases g:2048≤a % 16*4096+b % 64*64+c % 64∧(a % 16*4096+b % 64*64+c % 64<55296∨57343<a % 16*4096+b % 64*64+c % 64)
  ·refine key _ 3 (by unfold Lib.decodeN;rw[if_neg c0,if_neg i,if_pos j,if_pos (by omega)]) (by decide) ?_
   unfold Jl C5
   simp only[Bool.and_eq_true,decide_eq_true_eq]
   rw[if_neg c0,if_neg (by omega),if_pos (by omega),if_pos g]
  ·refine f (by unfold Lib.decodeN;rw[if_neg c0,if_neg i,if_pos j,if_neg (by omega)]) ?_
   unfold Jl C5
   simp only[Bool.and_eq_true,decide_eq_true_eq]
   rw[if_neg c0,if_neg (by omega),if_pos (by omega),if_neg g]
 by_cases l:a / 8=30∧(1<n∧b / 64=2)∧(2<n∧c / 64=2)∧(3<n∧d / 64=2)
 ·by_cases g:65536≤a % 8*262144+b % 64*4096+c % 64*64+d % 64∧a % 8*262144+b % 64*4096+c % 64*64+d % 64≤1114111
  ·refine key _ 4 (by unfold Lib.decodeN;rw[if_neg c0,if_neg i,if_neg j,if_pos l,if_pos (by omega)]) (by decide) ?_
   unfold Jl C5
   simp only[Bool.and_eq_true,decide_eq_true_eq]
   rw[if_neg c0,if_neg (by omega),if_neg (by omega),if_pos (by omega),if_pos g]
  ·refine f (by unfold Lib.decodeN;rw[if_neg c0,if_neg i,if_neg j,if_pos l,if_neg (by omega)]) ?_
   unfold Jl C5
   simp only[Bool.and_eq_true,decide_eq_true_eq]
   rw[if_neg c0,if_neg (by omega),if_neg (by omega)]
   by_cases s:a<245
   ·rw[if_pos (by omega),if_neg g]
   ·rw[if_neg (by omega)]
 ·refine f (by unfold Lib.decodeN;rw[if_neg c0,if_neg i,if_neg j,if_neg l]) ?_
  unfold Jl C5
  simp only[Bool.and_eq_true,decide_eq_true_eq]
  rw[if_neg c0,if_neg (by omega),if_neg (by omega),if_neg (by omega)]
def X5 (l:X0) (i:Nat):Nat:=(l.getD i 0).toNat
theorem Yj (l:X0) (i:Nat):X5 l i<256:=(l.getD i 0).toNat_lt
def Zz (l:X0):Nat:=Jl l.length (X5 l 0) (X5 l 1) (X5 l 2) (X5 l 3)
theorem Q6k (l:X0):Zz l=if (Lib.decodeL l).1=65533∧(Lib.decodeL l).2=1 then 0 else (Lib.decodeL l).2:=by
 rw[Lib.decodeL_N]
 exact X0q _ _ _ _ _ (Yj l 0) (Yj l 1) (Yj l 2) (Yj l 3)
theorem Q99 {l:X0} (a:l≠[]) (h:Zz l≠0):1≤Zz l∧Zz l≤l.length:=by
 have b:=Lib.decodeL_le l a
 have c:=Lib.decodeL_width l
 rw[Q6k] at h⊢
 split at h
 ·exact absurd rfl h
 ·rw[if_neg (by assumption)];omega
theorem Q8e {f:Nat} {l:X0} (a:l≠[]):Lib.validGoD (f+1) l=if Zz l=0 then false else Lib.validGoD f (l.drop (Zz l)):=by
 have b:=Lib.decodeL_width l
 simp only[Lib.validGoD,if_neg a]
 rw[Q6k]
 split
 ·rw[if_pos rfl]
 ·rw[if_neg (by omega)]
end Go.Hm
namespace Go.Emb
open Go.RowKit
theorem Q5p {P:Program} {w:World} {K:Value→World→Prop} {k:IntKind} {t:TypeId} {b d:Operand} {a c:Int} (f:0<c∧0≤a) (h:K (.int k (a % c)) w):Q3 P .rem t b d (.int k a) (.int k c) w K:=by
 have e:Q3 P .rem t b d (.int k a) (.int k c) w K=K (.int k (a.tmod c)) w:=Y0 (by simp[eqGuard,Go.binOp,Op.intDiv];intro e;omega)
 rw[e,Int.tmod_eq_emod_of_nonneg f.2];exact h
end Go.Emb
namespace Go.Proofs.YtjdiakhipmggjaaGreatDoor
open Go.Emb Go.RowKit Go.Kd Go.Hm
variable {w : World} {K : Value → World → Prop} {σ : Q6}
theorem Ng {a:X0} {i:Nat} (b:i<a.length) (h:K (.int .u8 (X5 a i)) w):C4 P T.c (S a) (I i) w K:=by
 rw[Xu X8 (by omega) (by simpa using b)]
 have:(a[(i:Int).toNat]'(by simpa using b)).toNat=X5 a i:=by
  unfold X5
  rw[List.getD_eq_getElem?_getD,List.getElem?_eq_getElem b];rfl
 rw[this];exact h
theorem Q3L {n:Int} (a:0≤n∧n<256) (h:K (I n) w):conv P T.a3 T.e (.int .u8 n) w K:=by
 rw[Ke Q3X Q1C,G7 (by omega) (by omega)];exact h
theorem Lh {a:X0} {i:Nat} (h:K (.bool (C5 a.length i (X5 a i))) w):Q1 P F.r [S a,I i] w K:=Kt (by
 unfold Mi
 unfold C5 at h
 simp only[↓M1,M1,Mb,reduceIte]
 by_cases b:i<a.length
 ·have d:decide ((i:Int)<a.length)=true:=by rw[decide_eq_true_eq];omega
  have c:decide (i<a.length)=true:=by simpa using b
  rw[c] at h
  simp only[d,↓M1,M1,Mb,reduceIte]
  refine Ng b ?_
  (try simp only[↓M1,M1,Mb,reduceIte])
  have f:decide ((128:Int)≤(X5 a i:Int))=decide (128≤X5 a i):=by rw[Bool.eq_iff_iff,decide_eq_true_eq,decide_eq_true_eq];omega
  have g:decide ((X5 a i:Int)<192)=decide (X5 a i<192):=by rw[Bool.eq_iff_iff,decide_eq_true_eq,decide_eq_true_eq];omega
  rw[f]
  cases e:decide (128≤X5 a i) with
  | true=>
   rw[e] at h
   simp only[↓M1,M1,Mb,reduceIte]
   refine Ng b ?_
   simp only[g,↓M1,M1,Mb,reduceIte]
   simpa using h
  | false=>
   rw[e] at h
   simp only[↓M1,M1,Mb,reduceIte]
   simpa using h
 ·have d:decide ((i:Int)<a.length)=false:=by rw[decide_eq_false_iff_not];omega
  have c:decide (i<a.length)=false:=by simpa using b
  rw[c] at h
  simp only[d,↓M1,M1,Mb,reduceIte]
  simpa using h)
def Ud (a:X0):Nat:=X5 a 0 % 16*4096+X5 a 1 % 64*64+X5 a 2 % 64
def Sk (a:X0):Nat:=X5 a 0 % 8*262144+X5 a 1 % 64*4096+X5 a 2 % 64*64+X5 a 3 % 64
theorem Q9O (a:X0):Zz a=if X5 a 0<128 then 1
 else if (decide (194≤X5 a 0)&&decide (X5 a 0<224)&&C5 a.length 1 (X5 a 1))=true then 2
 else if (decide (224≤X5 a 0)&&decide (X5 a 0<240)&&C5 a.length 1 (X5 a 1)&&C5 a.length 2 (X5 a 2))=true then
  (if 2048≤Ud a∧(Ud a<55296∨57343<Ud a) then 3 else 0)
 else if (decide (240≤X5 a 0)&&decide (X5 a 0<245)&&C5 a.length 1 (X5 a 1)&&C5 a.length 2 (X5 a 2)&&C5 a.length 3 (X5 a 3))=true then
  (if 65536≤Sk a∧Sk a≤1114111 then 4 else 0)
 else 0:=rfl
set_option maxHeartbeats 2000000 in
theorem X19 {a:X0} (hne:a≠[]) (hs:X3 w σ) (h: ∀w',Below w.heap.size w w'→K (I (Zz a)) w'):Q1 P F.bG [S a] w K:=Q01 (by
 unfold Dk
 have hl:0<a.length:=List.length_pos_iff.2 hne
 have b0:=Yj a 0
 have b1:=Yj a 1
 have b2:=Yj a 2
 have b3:=Yj a 3
 refine Ng (i:=0) hl ?_
 refine Q3L (by omega) ?_
 refine Zy (fun _ w'=>Below w.heap.size w w'∧Zz a=0) ?_ (fun _ d w' hx=>by
  have:=h w' hx.1
  rw[hx.2] at this
  exact this)
 have hK: ∀n w',Below w.heap.size w w'→Zz a=n→K (I n) w':=fun n w' hb e=>by rw[←e];exact h w' hb
 clear h
 have hcm:=Q9O a
 simp only[↓M1,M1,Mb,reduceIte]
 refine Q7 (fun h1=>?_) (fun h1=>?_)
 ·have:X5 a 0<128:=by have:=of_decide_eq_true h1;omega
  exact hK 1 _ (Below.refl _ _) (by rw[hcm,if_pos this])
 have c0: ¬X5 a 0<128:=by have:=of_decide_eq_false h1;omega
 rw[if_neg c0] at hcm
 by_cases c1:X5 a 0<194
 ·have i1:decide ((194:Int)≤X5 a 0)=false:=by rw[decide_eq_false_iff_not];omega
  have n1:decide (194≤X5 a 0)=false:=by rw[decide_eq_false_iff_not];omega
  have i2:decide ((X5 a 0:Int)<224)=true:=by rw[decide_eq_true_eq];omega
  have n2:decide (X5 a 0<224)=true:=by rw[decide_eq_true_eq];omega
  have i3:decide ((224:Int)≤X5 a 0)=false:=by rw[decide_eq_false_iff_not];omega
  have n3:decide (224≤X5 a 0)=false:=by rw[decide_eq_false_iff_not];omega
  have i4:decide ((X5 a 0:Int)<240)=true:=by rw[decide_eq_true_eq];omega
  have n4:decide (X5 a 0<240)=true:=by rw[decide_eq_true_eq];omega
  have i5:decide ((240:Int)≤X5 a 0)=false:=by rw[decide_eq_false_iff_not];omega
  have n5:decide (240≤X5 a 0)=false:=by rw[decide_eq_false_iff_not];omega
  have i6:decide ((X5 a 0:Int)<245)=true:=by rw[decide_eq_true_eq];omega
  have n6:decide (X5 a 0<245)=true:=by rw[decide_eq_true_eq];omega
  simp only[i1,i2,i3,i4,i5,i6,↓M1,M1,Mb,reduceIte]
  exact ⟨Below.refl _ _,by rw[hcm];simp only[n1,n2,n3,n4,n5,n6,Bool.and_true,Bool.true_and,Bool.false_and,Bool.and_false,Bool.false_eq_true,if_true,if_false,reduceIte]⟩
 by_cases c2:X5 a 0<224
 ·have i1:decide ((194:Int)≤X5 a 0)=true:=by rw[decide_eq_true_eq];omega
  have n1:decide (194≤X5 a 0)=true:=by rw[decide_eq_true_eq];omega
  have i2:decide ((X5 a 0:Int)<224)=true:=by rw[decide_eq_true_eq];omega
  have n2:decide (X5 a 0<224)=true:=by rw[decide_eq_true_eq];omega
  have i3:decide ((224:Int)≤X5 a 0)=false:=by rw[decide_eq_false_iff_not];omega
  have n3:decide (224≤X5 a 0)=false:=by rw[decide_eq_false_iff_not];omega
  have i4:decide ((X5 a 0:Int)<240)=true:=by rw[decide_eq_true_eq];omega
  have n4:decide (X5 a 0<240)=true:=by rw[decide_eq_true_eq];omega
  have i5:decide ((240:Int)≤X5 a 0)=false:=by rw[decide_eq_false_iff_not];omega
  have n5:decide (240≤X5 a 0)=false:=by rw[decide_eq_false_iff_not];omega
  have i6:decide ((X5 a 0:Int)<245)=true:=by rw[decide_eq_true_eq];omega
  have n6:decide (X5 a 0<245)=true:=by rw[decide_eq_true_eq];omega
  simp only[i1,i2,i3,i4,i5,i6,↓M1,M1,Mb,reduceIte]
  refine Lh (i:=1) ?_
  cases A1:C5 a.length 1 (X5 a 1) with
  | true=>simp only[↓M1,M1,Mb,reduceIte];exact hK 2 _ (Below.refl _ _) (by rw[hcm];simp only[A1,n1,n2,n3,n4,n5,n6,Bool.and_true,Bool.true_and,Bool.false_and,Bool.and_false,Bool.false_eq_true,if_true,if_false,reduceIte])
  | false=>simp only[↓M1,M1,Mb,reduceIte];exact ⟨Below.refl _ _,by rw[hcm];simp only[A1,n1,n2,n3,n4,n5,n6,Bool.and_true,Bool.true_and,Bool.false_and,Bool.and_false,Bool.false_eq_true,if_true,if_false,reduceIte]⟩
 by_cases c3:X5 a 0<240
 ·have i1:decide ((194:Int)≤X5 a 0)=true:=by rw[decide_eq_true_eq];omega
  have n1:decide (194≤X5 a 0)=true:=by rw[decide_eq_true_eq];omega
  have i2:decide ((X5 a 0:Int)<224)=false:=by rw[decide_eq_false_iff_not];omega
  have n2:decide (X5 a 0<224)=false:=by rw[decide_eq_false_iff_not];omega
  have i3:decide ((224:Int)≤X5 a 0)=true:=by rw[decide_eq_true_eq];omega
  have n3:decide (224≤X5 a 0)=true:=by rw[decide_eq_true_eq];omega
  have i4:decide ((X5 a 0:Int)<240)=true:=by rw[decide_eq_true_eq];omega
  have n4:decide (X5 a 0<240)=true:=by rw[decide_eq_true_eq];omega
  have i5:decide ((240:Int)≤X5 a 0)=false:=by rw[decide_eq_false_iff_not];omega
  have n5:decide (240≤X5 a 0)=false:=by rw[decide_eq_false_iff_not];omega
  have i6:decide ((X5 a 0:Int)<245)=true:=by rw[decide_eq_true_eq];omega
  have n6:decide (X5 a 0<245)=true:=by rw[decide_eq_true_eq];omega
  simp only[i1,i2,i3,i4,i5,i6,↓M1,M1,Mb,reduceIte]
  refine Lh (i:=1) ?_
  cases A1:C5 a.length 1 (X5 a 1) with
  | false=>simp only[↓M1,M1,Mb,reduceIte];exact ⟨Below.refl _ _,by rw[hcm];simp only[A1,n1,n2,n3,n4,n5,n6,Bool.and_true,Bool.true_and,Bool.false_and,Bool.and_false,Bool.false_eq_true,if_true,if_false,reduceIte]⟩
  | true=>
  simp only[↓M1,M1,Mb,reduceIte]
  refine Lh (i:=2) ?_
  cases A2:C5 a.length 2 (X5 a 2) with
  | false=>simp only[↓M1,M1,Mb,reduceIte];exact ⟨Below.refl _ _,by rw[hcm];simp only[A1,A2,n1,n2,n3,n4,n5,n6,Bool.and_true,Bool.true_and,Bool.false_and,Bool.and_false,Bool.false_eq_true,if_true,if_false,reduceIte]⟩
  | true=>
  simp only[↓M1,M1,Mb,reduceIte]
  simp only[A1,A2,n1,n2,n3,n4,n5,n6,Bool.and_true,Bool.true_and,Bool.false_and,Bool.and_false,Bool.false_eq_true,if_true,if_false,reduceIte] at hcm
  have hl1:1<a.length:=by unfold C5 at A1;simp only[Bool.and_eq_true,decide_eq_true_eq] at A1;exact A1.1.1
  have hl2:2<a.length:=by unfold C5 at A2;simp only[Bool.and_eq_true,decide_eq_true_eq] at A2;exact A2.1.1
  have hw:IntKind.i64.wrap (IntKind.i64.wrap (IntKind.i64.wrap ((X5 a 0:Int) % 16*4096)+IntKind.i64.wrap ((X5 a 1:Int) % 64*64))+(X5 a 2:Int) % 64)=((Ud a:Nat):Int):=by
   rw[G7 (n:=(X5 a 0:Int) % 16*4096) (by omega) (by omega),G7 (n:=(X5 a 1:Int) % 64*64) (by omega) (by omega),G7 (n:=_+(X5 a 1:Int) % 64*64) (by omega) (by omega),G7 (by omega) (by omega)]
   unfold Ud;omega
  refine U0 hs ?_
  have hx1: ∀{w':World} {K:Value→World→Prop},K (.int .u8 (X5 a 1)) w'→C4 P T.c (S a) (.int .i64 1) w' K:=fun hK=>Ng (i:=1) hl1 hK
  have hx2: ∀{w':World} {K:Value→World→Prop},K (.int .u8 (X5 a 2)) w'→C4 P T.c (S a) (.int .i64 2) w' K:=fun hK=>Ng (i:=2) hl2 hK
  (repeat (apply Z9;(· intros;(repeat (rename_i hx;subst hx));(repeat' (first | (with_reducible exact L7 rfl) | (with_reducible exact R9 (Stp.bel (by (repeat (first | exact Stp.refl (by (first | assumption | exact Stp.sat (by assumption) | exact Hst.sat (by assumption))) | assumption | refine Stp.trans ?_ (by first | assumption | exact Hst.stp (by assumption)))))) rfl) | (with_reducible intro _) | (simp only[↓M2,M2,Mb,reduceIte]) | (with_reducible refine Q5p au ?_) | (with_reducible refine Q3L au ?_) | (with_reducible refine hx1 ?_) | (with_reducible refine hx2 ?_) | (with_reducible show Q2 _ _ _ _ _;first | refine X7 aS aL aR ?_ | refine Y4 aS aL aR ?_ | refine ld aS aL aR ?_) | (with_reducible show indexAddr _ _ _ _ _ _;refine Y1 aL au ?_) | (with_reducible show X2 _ _ _ _ _ _ _ _;refine Q8 aL ?_) | (with_reducible show B7 _ _ _ _ _ _;refine J3 aR ?_) | (with_reducible show pick _ _ _ _ _ _;refine M3 ?_) | (apply B8;intro hh;(try simp only[hh,reduceIte,↓M2,M2,Mb,reduceIte]))));done)))
  (intros;(repeat (rename_i hx;subst hx));(try simp only[↓M2,M2,Mb,reduceIte]))
  rename_i w2 hb2
  simp only[hw]
  have hb:=hb2.stp.bel
  by_cases e1:2048≤Ud a
  ·by_cases e2:Ud a<55296
   ·simp only[(show decide ((2048:Int)≤(Ud a:Int))=true by rw[decide_eq_true_eq];omega),(show decide ((Ud a:Int)<55296)=true by rw[decide_eq_true_eq];omega),↓M1,M1,Mb,reduceIte]
    exact hK 3 _ hb (by rw[hcm,if_pos ⟨e1, .inl e2⟩])
   ·by_cases e3:57343<Ud a
    ·simp only[(show decide ((2048:Int)≤(Ud a:Int))=true by rw[decide_eq_true_eq];omega),(show decide ((Ud a:Int)<55296)=false by rw[decide_eq_false_iff_not];omega),(show decide ((57343:Int)<(Ud a:Int))=true by rw[decide_eq_true_eq];omega),↓M1,M1,Mb,reduceIte]
     exact hK 3 _ hb (by rw[hcm,if_pos ⟨e1, .inr e3⟩])
    ·simp only[(show decide ((2048:Int)≤(Ud a:Int))=true by rw[decide_eq_true_eq];omega),(show decide ((Ud a:Int)<55296)=false by rw[decide_eq_false_iff_not];omega),(show decide ((57343:Int)<(Ud a:Int))=false by rw[decide_eq_false_iff_not];omega),↓M1,M1,Mb,reduceIte]
     exact ⟨hb,by rw[hcm,if_neg (by omega)]⟩
  ·simp only[(show decide ((2048:Int)≤(Ud a:Int))=false by rw[decide_eq_false_iff_not];omega),↓M1,M1,Mb,reduceIte]
   exact ⟨hb,by rw[hcm,if_neg (by omega)]⟩
 by_cases c4:X5 a 0<245
 ·have i1:decide ((194:Int)≤X5 a 0)=true:=by rw[decide_eq_true_eq];omega
  have n1:decide (194≤X5 a 0)=true:=by rw[decide_eq_true_eq];omega
  have i2:decide ((X5 a 0:Int)<224)=false:=by rw[decide_eq_false_iff_not];omega
  have n2:decide (X5 a 0<224)=false:=by rw[decide_eq_false_iff_not];omega
  have i3:decide ((224:Int)≤X5 a 0)=true:=by rw[decide_eq_true_eq];omega
  have n3:decide (224≤X5 a 0)=true:=by rw[decide_eq_true_eq];omega
  have i4:decide ((X5 a 0:Int)<240)=false:=by rw[decide_eq_false_iff_not];omega
  have n4:decide (X5 a 0<240)=false:=by rw[decide_eq_false_iff_not];omega
  have i5:decide ((240:Int)≤X5 a 0)=true:=by rw[decide_eq_true_eq];omega
  have n5:decide (240≤X5 a 0)=true:=by rw[decide_eq_true_eq];omega
  have i6:decide ((X5 a 0:Int)<245)=true:=by rw[decide_eq_true_eq];omega
  have n6:decide (X5 a 0<245)=true:=by rw[decide_eq_true_eq];omega
  simp only[i1,i2,i3,i4,i5,i6,↓M1,M1,Mb,reduceIte]
  refine Lh (i:=1) ?_
  cases A1:C5 a.length 1 (X5 a 1) with
  | false=>simp only[↓M1,M1,Mb,reduceIte];exact ⟨Below.refl _ _,by rw[hcm];simp only[A1,n1,n2,n3,n4,n5,n6,Bool.and_true,Bool.true_and,Bool.false_and,Bool.and_false,Bool.false_eq_true,if_true,if_false,reduceIte]⟩
  | true=>
  simp only[↓M1,M1,Mb,reduceIte]
  refine Lh (i:=2) ?_
  cases A2:C5 a.length 2 (X5 a 2) with
  | false=>simp only[↓M1,M1,Mb,reduceIte];exact ⟨Below.refl _ _,by rw[hcm];simp only[A1,A2,n1,n2,n3,n4,n5,n6,Bool.and_true,Bool.true_and,Bool.false_and,Bool.and_false,Bool.false_eq_true,if_true,if_false,reduceIte]⟩
  | true=>
  simp only[↓M1,M1,Mb,reduceIte]
  refine Lh (i:=3) ?_
  cases A3:C5 a.length 3 (X5 a 3) with
  | false=>simp only[↓M1,M1,Mb,reduceIte];exact ⟨Below.refl _ _,by rw[hcm];simp only[A1,A2,A3,n1,n2,n3,n4,n5,n6,Bool.and_true,Bool.true_and,Bool.false_and,Bool.and_false,Bool.false_eq_true,if_true,if_false,reduceIte]⟩
  | true=>
  simp only[↓M1,M1,Mb,reduceIte]
  simp only[A1,A2,A3,n1,n2,n3,n4,n5,n6,Bool.and_true,Bool.true_and,Bool.false_and,Bool.and_false,Bool.false_eq_true,if_true,if_false,reduceIte] at hcm
  have hl1:1<a.length:=by unfold C5 at A1;simp only[Bool.and_eq_true,decide_eq_true_eq] at A1;exact A1.1.1
  have hl2:2<a.length:=by unfold C5 at A2;simp only[Bool.and_eq_true,decide_eq_true_eq] at A2;exact A2.1.1
  have hl3:3<a.length:=by unfold C5 at A3;simp only[Bool.and_eq_true,decide_eq_true_eq] at A3;exact A3.1.1
  have hw:IntKind.i64.wrap (IntKind.i64.wrap (IntKind.i64.wrap (IntKind.i64.wrap ((X5 a 0:Int) % 8*262144)+IntKind.i64.wrap ((X5 a 1:Int) % 64*4096))+IntKind.i64.wrap ((X5 a 2:Int) % 64*64))+(X5 a 3:Int) % 64)=((Sk a:Nat):Int):=by
   rw[G7 (n:=(X5 a 0:Int) % 8*262144) (by omega) (by omega),G7 (n:=(X5 a 1:Int) % 64*4096) (by omega) (by omega),G7 (n:=(X5 a 2:Int) % 64*64) (by omega) (by omega),G7 (n:=_+(X5 a 1:Int) % 64*4096) (by omega) (by omega),G7 (n:=_+(X5 a 2:Int) % 64*64) (by omega) (by omega),G7 (by omega) (by omega)]
   unfold Sk;omega
  refine U0 hs ?_
  have hx1: ∀{w':World} {K:Value→World→Prop},K (.int .u8 (X5 a 1)) w'→C4 P T.c (S a) (.int .i64 1) w' K:=fun hK=>Ng (i:=1) hl1 hK
  have hx2: ∀{w':World} {K:Value→World→Prop},K (.int .u8 (X5 a 2)) w'→C4 P T.c (S a) (.int .i64 2) w' K:=fun hK=>Ng (i:=2) hl2 hK
  have hx3: ∀{w':World} {K:Value→World→Prop},K (.int .u8 (X5 a 3)) w'→C4 P T.c (S a) (.int .i64 3) w' K:=fun hK=>Ng (i:=3) hl3 hK
  (repeat (apply Z9;(· intros;(repeat (rename_i hx;subst hx));(repeat' (first | (with_reducible exact L7 rfl) | (with_reducible exact R9 (Stp.bel (by (repeat (first | exact Stp.refl (by (first | assumption | exact Stp.sat (by assumption) | exact Hst.sat (by assumption))) | assumption | refine Stp.trans ?_ (by first | assumption | exact Hst.stp (by assumption)))))) rfl) | (with_reducible intro _) | (simp only[↓M2,M2,Mb,reduceIte]) | (with_reducible refine Q5p au ?_) | (with_reducible refine Q3L au ?_) | (with_reducible refine hx1 ?_) | (with_reducible refine hx2 ?_) | (with_reducible refine hx3 ?_) | (with_reducible show Q2 _ _ _ _ _;first | refine X7 aS aL aR ?_ | refine Y4 aS aL aR ?_ | refine ld aS aL aR ?_) | (with_reducible show indexAddr _ _ _ _ _ _;refine Y1 aL au ?_) | (with_reducible show X2 _ _ _ _ _ _ _ _;refine Q8 aL ?_) | (with_reducible show B7 _ _ _ _ _ _;refine J3 aR ?_) | (with_reducible show pick _ _ _ _ _ _;refine M3 ?_) | (apply B8;intro hh;(try simp only[hh,reduceIte,↓M2,M2,Mb,reduceIte]))));done)))
  (intros;(repeat (rename_i hx;subst hx));(try simp only[↓M2,M2,Mb,reduceIte]))
  rename_i w2 hb2
  simp only[hw]
  have hb:=hb2.stp.bel
  by_cases e1:65536≤Sk a
  ·by_cases e2:Sk a≤1114111
   ·simp only[(show decide ((65536:Int)≤(Sk a:Int))=true by rw[decide_eq_true_eq];omega),(show decide ((Sk a:Int)≤1114111)=true by rw[decide_eq_true_eq];omega),↓M1,M1,Mb,reduceIte]
    exact hK 4 _ hb (by rw[hcm,if_pos ⟨e1,e2⟩])
   ·simp only[(show decide ((65536:Int)≤(Sk a:Int))=true by rw[decide_eq_true_eq];omega),(show decide ((Sk a:Int)≤1114111)=false by rw[decide_eq_false_iff_not];omega),↓M1,M1,Mb,reduceIte]
    exact ⟨hb,by rw[hcm,if_neg (by omega)]⟩
  ·simp only[(show decide ((65536:Int)≤(Sk a:Int))=false by rw[decide_eq_false_iff_not];omega),↓M1,M1,Mb,reduceIte]
   exact ⟨hb,by rw[hcm,if_neg (by omega)]⟩
 have i1:decide ((194:Int)≤X5 a 0)=true:=by rw[decide_eq_true_eq];omega
 have n1:decide (194≤X5 a 0)=true:=by rw[decide_eq_true_eq];omega
 have i2:decide ((X5 a 0:Int)<224)=false:=by rw[decide_eq_false_iff_not];omega
 have n2:decide (X5 a 0<224)=false:=by rw[decide_eq_false_iff_not];omega
 have i3:decide ((224:Int)≤X5 a 0)=true:=by rw[decide_eq_true_eq];omega
 have n3:decide (224≤X5 a 0)=true:=by rw[decide_eq_true_eq];omega
 have i4:decide ((X5 a 0:Int)<240)=false:=by rw[decide_eq_false_iff_not];omega
 have n4:decide (X5 a 0<240)=false:=by rw[decide_eq_false_iff_not];omega
 have i5:decide ((240:Int)≤X5 a 0)=true:=by rw[decide_eq_true_eq];omega
 have n5:decide (240≤X5 a 0)=true:=by rw[decide_eq_true_eq];omega
 have i6:decide ((X5 a 0:Int)<245)=false:=by rw[decide_eq_false_iff_not];omega
 have n6:decide (X5 a 0<245)=false:=by rw[decide_eq_false_iff_not];omega
 simp only[i1,i2,i3,i4,i5,i6,↓M1,M1,Mb,reduceIte]
 exact ⟨Below.refl _ _,by rw[hcm];simp only[n1,n2,n3,n4,n5,n6,Bool.and_true,Bool.true_and,Bool.false_and,Bool.and_false,Bool.false_eq_true,if_true,if_false,reduceIte]⟩)
theorem Q4n {s:X0} (u:s.length≤U2) (p:X3 w σ) (h: ∀w',Below w.heap.size w w'→K (.bool (Lib.validD s)) w'):Q1 P F.aK [S s] w K:=Iq (by
 unfold Mo
 refine Pf (fun f x w'=> ∃r,x=S r∧r.length≤f∧r.length≤U2∧Below w.heap.size w w'∧Lib.validD s=Lib.validGoD f r) s.length ⟨s,rfl,Nat.le_refl _,u,Below.refl _ _,rfl⟩ ?_
 rintro j f x d w1 ⟨r,rfl,t,q,b,i⟩ m
 refine Jh ?_
 by_cases a:r=[]
 ·have e:decide (r=[])=true:=by simpa using a
  simp only[e,↓M1,M1,Mb,reduceIte]
  subst a
  have:Lib.validGoD f []=true:=by cases f<;>simp[Lib.validGoD]
  rw[i,this] at h
  exact h _ b
 ·have e:decide (r=[])=false:=by simpa using a
  simp only[e,↓M1,M1,Mb,reduceIte]
  have o:0<r.length:=List.length_pos_iff.2 a
  obtain ⟨f,rfl⟩: ∃g,f=g+1:=⟨f-1,by omega⟩
  rw[Q8e a] at i
  refine X19 a (p.below b) fun v n=>?_
  have c:=b.trans (n.mono b.size)
  refine P4 ?_
  by_cases l:Zz r=0
  ·have k:decide ((Zz r:Int)=0)=true:=by rw[decide_eq_true_eq];omega
   simp only[k,↓M1,M1,Mb,reduceIte]
   rw[i,if_pos l] at h
   exact h _ c
  ·have k:decide ((Zz r:Int)=0)=false:=by rw[decide_eq_false_iff_not];omega
   simp only[k,↓M1,M1,Mb,reduceIte]
   obtain ⟨z,y⟩:=Q99 a l
   rw[Vb X8 (by omega) (by omega)]
   rw[if_neg l] at i
   refine m f _ _ (by omega) ⟨r.drop (Zz r),by simp,by rw[List.length_drop];omega,by rw[List.length_drop];omega,c,i⟩)
end Go.Proofs.YtjdiakhipmggjaaGreatDoor

namespace Go.Proofs.YtjdiakhipmggjaaGreatDoor
open Go.Emb Go.RowKit Go.Kd Go.Hm
variable {w : World} {K : Value → World → Prop} {σ : Q6}
theorem Q65 {σ:Q6}: ∀(xs:List X0),(∀x∈xs,x.length≤U2)→Q0t U8 σ (xs.map S) xs
 | [],_=>trivial
 | x::r,h=>⟨⟨rfl,h x (by simp)⟩,Q65 r fun y a=>h y (by simp[a])⟩
def Uw:List X0:=Uf.map (·.name)
set_option maxRecDepth 100000 in
theorem X2h (c:X3 w σ) (h: ∀v w' a,Stp w σ w' a→Sl 1 U8 a v Uw→K v w'):Q1 P F.bW [] w K:=Q1o (by
 unfold Eo
 exact T4 (R:=U8) (sz:=1) c (Uw.map S) Uw rfl rfl (by intro v b;obtain ⟨x,_,rfl⟩:=List.mem_map.1 b;rfl) rfl (Q65 _ (by decide)) fun v w' a d b=>h v w' a d b)
theorem Q8T {a:X0} (u:X3 w σ) (h: ∀w' t,Stp w σ w' t→K (I (L6 (Qv a))) w'):Q1 P F.bg [S a] w K:=Fu (by
 unfold Ls
 refine X2h u fun v w1 σ1 n p=>?_
 have r:Qv a=Uw.findIdx? fun x=>decide (x=a):=by
  unfold Qv Uw
  rw[List.findIdx?_map];rfl
 have q: ∀o,Qv a=o→K (I (L6 o)) w1:=fun o e=>by rw[←e];exact h _ _ n
 rw[r] at q
 have l:Uw.length=42:=rfl
 generalize Uw=g at p q l
 refine U3 g.length (fun k w'=>w'=w1∧ ∀j (i:j<g.length),j<k→ ¬g[j]=a) ⟨rfl,fun j _ h=>by omega⟩ fun k D d E C=>?_
 obtain ⟨A,f⟩:=C
 subst A
 refine Q8 p ?_
 refine Y9 ?_
 refine Q7 (fun s=>?_) (fun s=>?_)
 ·have b:k<g.length:=by simpa using s
  refine Y1 p b ?_
  obtain ⟨B,_⟩:=p.elS b
  refine X7 n.sat B rfl ?_
  refine P6 ?_
  refine Q7 (fun c=>?_) (fun c=>?_)
  ·have c:g[k]=a:=by simpa using c
   exact q (some k) (by
    rw[List.findIdx?_eq_some_iff_getElem]
    exact ⟨b,by simpa using c,fun j i=>by simpa using f j (by omega) i⟩)
  ·have c: ¬g[k]=a:=by simpa using c
   (try simp only[↓M1,M1,Mb,reduceIte])
   refine Y5 p.max b ⟨rfl,fun j i z=>?_⟩
   by_cases e:j=k
   ·subst e;exact c
   ·exact f j i (by omega)
 ·have b: ¬k<g.length:=by simpa using s
  exact q none (by
   rw[List.findIdx?_eq_none_iff]
   intro m y
   obtain ⟨j,i,rfl⟩:=List.getElem_of_mem y
   simpa using f j i (by omega)))
theorem X21 {o:Option Nat}:decide (L6 o<0)= !o.isSome:=by
 cases o with
 | none=>rfl
 | some i=>
  have: ¬(i:Int)<0:=by omega
  exact decide_eq_false this
def Nq (a:X0):Bool:=decide (a=[105,110,116])||decide (a=[108,111,97,100])||decide (a=[115,116,111,114,101])||decide (a=[106,117,109,112])||decide (a=[98,114,97,110,99,104])
def Wl (a:X0):Bool:=decide (a=[119,111,114,100])||decide (a=[110,101,119])||decide (a=[103,101,116])||decide (a=[112,117,116])||decide (a=[99,97,108,108])||decide (a=[97,114,114,97,121])||decide (a=[105,115])||decide (a=[99,97,115,116])
theorem X1b (a:X0):takes a=(Nq a,Wl a,(Qv a).isSome):=by
 unfold takes
 cases g:Qv a with
 | none=>
  have c:=List.findIdx?_eq_none_iff.1 g
  have f: ∀x∈Uw,¬x=a:=by
   intro x d
   obtain ⟨o,k,rfl⟩:=List.mem_map.1 d
   have:=c o k
   simpa using this
  have b: ∀x∈Uw,decide (a=x)=false:=fun x d=>by rw[decide_eq_false_iff_not];exact fun e=>f x d e.symm
  have l:Nq a=false:=by
   unfold Nq
   rw[b _ (by decide),b _ (by decide),b _ (by decide),b _ (by decide),b _ (by decide)];rfl
  have p:Wl a=false:=by
   unfold Wl
   rw[b _ (by decide),b _ (by decide),b _ (by decide),b _ (by decide),b _ (by decide),b _ (by decide),b _ (by decide),b _ (by decide)];rfl
  simp[l,p]
 | some i=>
  obtain ⟨h,r,_⟩:=List.findIdx?_eq_some_iff_getElem.1 g
  have n:Uf[i].name=a:=by simpa using r
  have q:Uf.getD i ⟨[],false,false⟩=Uf[i]:=by rw[List.getD_eq_getElem?_getD,List.getElem?_eq_getElem h];rfl
  have c: ∀o∈Uf,o.number=Nq o.name∧o.text=Wl o.name:=by decide
  obtain ⟨j,m⟩:=c _ (List.getElem_mem h)
  simp only[q,Option.isSome_some]
  rw[j,m,n]
def Ei (a:X0):Int:=if Nq a then 1 else if Wl a then 2 else if (Qv a).isSome then 0 else-1
theorem Q9X {a:X0} (c:X3 w σ) (h: ∀w' l,Stp w σ w' l→K (I (Ei a)) w'):Q1 P F.bv [S a] w K:=Pp (by
 unfold Nx
 refine Zy (fun x w'=>w'=w∧x= .bool (Nq a)) ?_ (fun x d w' e=>?_)
 ·unfold Nq
  simp only[↓M1,M1,Mb,reduceIte]
  repeat' (refine Q7 (fun hh=>?_) (fun hh=>?_))
  all_goals (refine ⟨by trivial,?_⟩;congr 1;simp_all)
 ·obtain ⟨rfl,rfl⟩:=e
  cases g:Nq a with
  | true=>
   (try simp only[↓M1,M1,Mb,reduceIte])
   have:=h _ _ (Stp.refl c)
   unfold Ei at this
   simpa [g] using this
  | false=>
   (try simp only[↓M1,M1,Mb,reduceIte])
   refine Zy (fun x b=>b=w'∧x= .bool (Wl a)) ?_ (fun x d b e=>?_)
   ·unfold Wl
    simp only[↓M1,M1,Mb,reduceIte]
    repeat' (refine Q7 (fun hh=>?_) (fun hh=>?_))
    all_goals (refine ⟨by trivial,?_⟩;congr 1;simp_all)
   ·obtain ⟨rfl,rfl⟩:=e
    cases k:Wl a with
    | true=>
     (try simp only[↓M1,M1,Mb,reduceIte])
     have:=h _ _ (Stp.refl c)
     unfold Ei at this
     simpa [g,k] using this
    | false=>
     (try simp only[↓M1,M1,Mb,reduceIte])
     refine Q8T c fun w1 σ1 f=>?_
     have:=h _ _ f
     unfold Ei at this
     simp only[g,k,Bool.false_eq_true,if_false] at this
     simp only[X21,↓M1,M1,Mb,reduceIte]
     cases j:Qv a with
     | none=>rw[j] at this;simp only[Option.isSome_none,↓M1,M1,Mb,reduceIte];simpa using this
     | some i=>rw[j] at this;simp only[Option.isSome_some,↓M1,M1,Mb,reduceIte];simpa using this)
theorem Q6e (a:X0):decide (Ei a<0)= !(takes a).2.2∧decide (Ei a=1)=(takes a).1∧decide (Ei a=2)=(takes a).2.1:=by
 rw[X1b]
 have c:Nq a=true→Wl a=false∧(Qv a).isSome=true:=by
  intro h
  unfold Nq at h
  simp only[Bool.or_eq_true,decide_eq_true_eq] at h
  rcases h with (((h | h) | h) | h) | h<;>(subst h;decide)
 have g:Wl a=true→(Qv a).isSome=true:=by
  intro h
  unfold Wl at h
  simp only[Bool.or_eq_true,decide_eq_true_eq] at h
  rcases h with ((((((h | h) | h) | h) | h) | h) | h) | h<;>(subst h;decide)
 unfold Ei
 cases f:Nq a with
 | true=>obtain ⟨d,e⟩:=c f;rw[d,e];decide
 | false=>
  cases b:Wl a with
  | true=>rw[g b];decide
  | false=>cases (Qv a).isSome<;>decide
theorem X4y (s:X0) (c:UInt8):decide (0≤Lib.indexByte s c)=s.any fun b=>decide (b=c):=by
 induction s with
 | nil=>rfl
 | cons b r f=>
  simp only[Lib.indexByte,List.any_cons,←f]
  by_cases e:b=c
  ·simp[e]
  ·have a:(b==c)=false:=by simpa using e
   have g:=Lib.indexByte_ge r c
   simp only[a,e,decide_false,Bool.false_or,Bool.false_eq_true,if_false]
   by_cases d:Lib.indexByte r c= -1
   ·simp[d]
   ·have:(Lib.indexByte r c== -1)=false:=by simpa using d
    simp only[this,Bool.false_eq_true,if_false]
    rw[Bool.eq_iff_iff,decide_eq_true_eq,decide_eq_true_eq];omega
def JB (w:World) (σ:Q6) (b:Bool) (x:Value) (w':World):Prop:= ∃a,Stp w σ w' a∧x= .bool b
theorem JB.mk {w w':World} {σ a:Q6} {b:Bool} (h:Stp w σ w' a):JB w σ b (.bool b) w':=⟨a,h,rfl⟩
theorem JB.of {w w':World} {σ a:Q6} {b c:Bool} (h:Stp w σ w' a) (e:c=b):JB w σ b (.bool c) w':=⟨a,h,by rw[e]⟩
theorem X3D {s:X0} {n:Nat} (h:n<s.length):decide ((X5 s n:Int)=10)=decide (s[n]=10):=by
 unfold X5
 rw[List.getD_eq_getElem?_getD,List.getElem?_eq_getElem h,Bool.eq_iff_iff,decide_eq_true_eq,decide_eq_true_eq]
 simp only[Option.getD_some]
 rw[←UInt8.toNat_inj]
 constructor
 ·intro e;have:s[n].toNat=10:=by omega
  rw[this];rfl
 ·intro e;rw[e];rfl
theorem Ux {α:Type} {xs:List α} {p:α→Bool} {n:Nat} (h:n<xs.length):(xs.take (n+1)).all p=((xs.take n).all p&&p xs[n]):=by
 rw[List.take_add_one,List.getElem?_eq_getElem h,List.all_append];simp
set_option maxHeartbeats 2000000 in
theorem Q88 {i:Ins} {cs:List Value} (hs:X3 w σ) (hi:Qp σ i cs) (h: ∀w' m,Stp w σ w' m→K (I (H4 i)) w'):Q1 P F.bu [.agg cs.toArray] w K:=Pg (by
 obtain ⟨rfl,h1,h2,h3⟩:=hi
 unfold Ny
 refine Z1 hs fun q w1 σ1 O hq=>?_
 have Q:=O.sat
 (try simp only[↓M1,M1,Mb,reduceIte])
 refine ld Q hq rfl ?_
 refine Q9X Q fun Z σ2 W=>?_
 obtain ⟨t1,X,H⟩:=Q6e i.op
 have f:=O.trans W
 have g:=hq.up W
 have e:=f.sat
 have p:i.s.length≤140737488355328:=by simp only[U2] at h3;omega
 simp only[t1,↓M1,M1,Mb,reduceIte]
 unfold H4 at h
 cases e1:(takes i.op).2.2 with
 | false=>
  simp only[e1,Bool.not_false,if_true] at h
  (try simp only[↓M1,M1,Mb,reduceIte])
  exact h _ _ f
 | true=>
 simp only[e1,Bool.not_true,Bool.false_eq_true,if_false] at h
 simp only[X,H,↓M1,M1,Mb,reduceIte]
 have k: ∀(b:Bool) (w':World) (m:Q6),Stp w σ w' m→b=(!((!(takes i.op).1&&decide (i.n≠0))||(!(takes i.op).2.1&&decide (i.s≠[]))||((takes i.op).2.1&& !txt i.op i.s)))→
  X1 (.bool (!b)) (K (.int .i64 41) w') (K (.int .i64 0) w'):=by
  intro b w' m u D
  subst D
  rw[Bool.not_not]
  cases D:((!(takes i.op).1&&decide (i.n≠0))||(!(takes i.op).2.1&&decide (i.s≠[]))||((takes i.op).2.1&& !txt i.op i.s)) with
  | true=>simp only[D,if_true] at h;(try simp only[↓M1,M1,Mb,reduceIte]);exact h _ _ u
  | false=>simp only[D,Bool.false_eq_true,if_false] at h;(try simp only[↓M1,M1,Mb,reduceIte]);exact h _ _ u
 clear h
 have ae:(takes i.op).2.1=true→(takes i.op).1=false:=by
  intro U
  rw[←X,decide_eq_false_iff_not]
  rw[←H,decide_eq_true_eq] at U
  omega
 cases B:(takes i.op).2.1 with
 | false=>
  rw[B] at k H
  cases v:(takes i.op).1 with
  | true=>
   rw[v] at k X
   (try simp only[↓M1,M1,Mb,reduceIte])
   simp only[H,↓M1,M1,Mb,reduceIte]
   refine ld e g rfl ?_
   (try simp only[↓M1,M1,Mb,reduceIte])
   refine V0 ?_
   intro d
   simp only[↓M1,M1,Mb,reduceIte]
   exact k _ _ _ f (by simp)
  | false=>
   rw[v] at k X
   (try simp only[↓M1,M1,Mb,reduceIte])
   refine ld e g rfl ?_
   (try simp only[↓M1,M1,Mb,reduceIte])
   by_cases M:i.n=0
   ·have d0:decide (i.n=0)=true:=by simpa using M
    simp only[d0,H,↓M1,M1,Mb,reduceIte]
    refine ld e g rfl ?_
    (try simp only[↓M1,M1,Mb,reduceIte])
    refine V0 ?_
    intro d
    simp only[↓M1,M1,Mb,reduceIte]
    exact k _ _ _ f (by simp[M])
   ·have d0:decide (i.n=0)=false:=by simpa using M
    simp only[d0,↓M1,M1,Mb,reduceIte]
    refine V0 ?_
    intro d
    have E:=k false _ _ f (by simp[M])
    (try simp only[↓M1,M1,Mb,reduceIte] at E⊢)
    exact E
 | true=>
  have v:=ae B
  rw[B,v] at k
  rw[B] at H
  rw[v] at X⊢
  (try simp only[↓M1,M1,Mb,reduceIte])
  refine ld e g rfl ?_
  (try simp only[↓M1,M1,Mb,reduceIte])
  have o: ∀(b c:Bool) (w':World) (m:Q6),decide (i.n=0)=b→Stp w σ w' m→c=(b&&txt i.op i.s)→X1 (.bool (!c)) (K (.int .i64 41) w') (K (.int .i64 0) w'):=by
   intro b c w' m D u r
   refine k c w' m u ?_
   rw[r,←D]
   by_cases M:i.n=0<;>simp[M]
  clear k
  cases D:decide (i.n=0) with
  | false=>
   have y:=fun w' m u=>o false false w' m D u rfl
   clear o
   simp only[H,↓M1,M1,Mb,reduceIte]
   refine Zy (JB w σ false) ?_ (fun x d w' U=>?_)
   ·refine ld e g rfl ?_
    (try simp only[↓M1,M1,Mb,reduceIte])
    refine Q7 (fun hh=>?_) (fun hh=>?_)
    ·refine E2 (a:=Value.bool false) i.s.length (fun n x w'=>w'=Z∧x=Value.bool false) ⟨rfl,rfl⟩ fun n x w3 d hn l=>?_
     obtain ⟨C,rfl⟩:=l
     subst C
     (try simp only[↓M1,M1,Mb,reduceIte])
     refine ld e g rfl ?_
     (try simp only[↓M1,M1,Mb,reduceIte])
     refine Q7 (fun r=>?_) (fun r=>?_)
     ·have j:n<i.s.length:=by simpa using r
      (try simp only[↓M1,M1,Mb,reduceIte])
      exact J5 (by omega) j ⟨rfl,rfl⟩
     ·exact .mk f
    refine Q7 (fun hh=>?_) (fun hh=>?_)
    ·exact .mk f
    refine Zy (fun x w'=>w'=Z∧ ∃b:Bool,x=Value.bool b) ?_ (fun z d w' hz=>?_)
    ·refine Q7 (fun hh=>?_) (fun hh=>?_)
     ·exact ⟨rfl,_,rfl⟩
     ·exact ⟨rfl,_,rfl⟩
    obtain ⟨C,b,rfl⟩:=hz
    subst C
    refine Q7 (fun hh=>?_) (fun hh=>?_)
    ·exact .mk f
    refine Q7 (fun hh=>?_) (fun hh=>?_)
    ·exact .mk f
    refine ld e g rfl ?_
    refine Q4D i.s p fun w4 t=>?_
    by_cases N:(Xc i.s).2.2=true
    ·simp only[N,if_true,↓M1,M1,Mb,reduceIte]
     exact .mk (f.trans (Stp.of_below e t))
    ·simp only[N,if_false,↓M1,M1,Mb,reduceIte]
     exact .mk (f.trans (Stp.of_below e t))
   ·obtain ⟨m,u,rfl⟩:=U
    have E:=y w' m u
    (try simp only[↓M1,M1,Mb,reduceIte] at E⊢)
    exact E
  | true=>
   have y:=fun c w' m u r=>o true c w' m D u r
   clear o
   simp only[H,↓M1,M1,Mb,reduceIte]
   refine Zy (JB w σ (txt i.op i.s)) ?_ (fun x d w' U=>?_)
   ·refine ld e g rfl ?_
    (try simp only[↓M1,M1,Mb,reduceIte])
    unfold txt
    by_cases o1:i.op=[119,111,114,100]
    ·simp only[if_pos o1,decide_eq_true o1,↓M1,M1,Mb,reduceIte]
     refine ld e g rfl ?_
     (try simp only[↓M1,M1,Mb,reduceIte])
     have ad:decide ((i.s.length:Int)≤64)=decide (i.s.length≤64):=by rw[Bool.eq_iff_iff,decide_eq_true_eq,decide_eq_true_eq];omega
     rw[ad,X4y,List.not_any_eq_all_not]
     cases av:decide (i.s.length≤64) with
     | false=>
      (try simp only[↓M1,M1,Mb,reduceIte])
      refine E2 (a:=Value.bool false) i.s.length (fun n x w'=>w'=Z∧x=Value.bool false) ⟨rfl,rfl⟩ fun n x w3 d hn l=>?_
      obtain ⟨C,rfl⟩:=l
      subst C
      (try simp only[↓M1,M1,Mb,reduceIte])
      refine ld e g rfl ?_
      (try simp only[↓M1,M1,Mb,reduceIte])
      refine Q7 (fun r=>?_) (fun r=>?_)
      ·have j:n<i.s.length:=by simpa using r
       (try simp only[↓M1,M1,Mb,reduceIte])
       exact J5 (by omega) j ⟨rfl,rfl⟩
      ·exact .of f (by simp)
     | true=>
      (try simp only[↓M1,M1,Mb,reduceIte])
      refine ld e g rfl ?_
      refine Q4n h3 e fun w4 t=>?_
      have L:=Stp.of_below e t
      have V:=g.up L
      have R:=L.sat
      have A:=f.trans L
      (try simp only[↓M1,M1,Mb,reduceIte])
      refine E2 (a:=Value.bool (Lib.validD i.s)) i.s.length (fun n x w'=>w'=w4∧x=Value.bool (Lib.validD i.s&&(i.s.take n).all fun c=> !decide (c=10))) ⟨rfl,by simp⟩ fun n x w3 d hn l=>?_
      obtain ⟨C,rfl⟩:=l
      subst C
      (try simp only[↓M1,M1,Mb,reduceIte])
      refine ld R V rfl ?_
      (try simp only[↓M1,M1,Mb,reduceIte])
      refine Q7 (fun r=>?_) (fun r=>?_)
      ·have j:n<i.s.length:=by simpa using r
       have J:(Lib.validD i.s&&(i.s.take (n+1)).all fun c=> !decide (c=10))=((Lib.validD i.s&&(i.s.take n).all fun c=> !decide (c=10))&& !decide (i.s[n]=10)):=by rw[Ux j,Bool.and_assoc]
       generalize ah:(Lib.validD i.s&&(i.s.take n).all fun c=> !decide (c=10))=ag at J⊢
       cases ag with
       | false=>(try simp only[↓M1,M1,Mb,reduceIte]);exact J5 (by omega) j ⟨rfl,by rw[J];rfl⟩
       | true=>
        (try simp only[↓M1,M1,Mb,reduceIte])
        refine ld R V rfl ?_
        refine Ng j ?_
        simp only[X3D j,↓M1,M1,Mb,reduceIte]
        exact J5 (by omega) j ⟨rfl,by rw[J];rfl⟩
      ·have j: ¬n<i.s.length:=by simpa using r
       rw[List.take_of_length_le (by omega)]
       exact .of A (by simp)
    ·simp only[if_neg o1,decide_eq_false o1,↓M1,M1,Mb,reduceIte]
     by_cases o2:i.op=[110,101,119]
     ·simp only[if_pos o2,decide_eq_true o2,↓M1,M1,Mb,reduceIte]
      refine ld e g rfl ?_
      refine Yg i.s p ?_
      (try simp only[↓M1,M1,Mb,reduceIte])
      exact .mk f
     ·simp only[if_neg o2,decide_eq_false o2,↓M1,M1,Mb,reduceIte]
      refine Zy (fun x w'=>w'=Z∧x=Value.bool (decide (i.op=[105,115]∨i.op=[99,97,115,116]))) ?_ (fun z d w' hz=>?_)
      ·refine Q7 (fun hh=>?_) (fun hh=>?_)
       ·exact ⟨rfl,by simp_all⟩
       ·exact ⟨rfl,by simp_all⟩
      obtain ⟨C,rfl⟩:=hz
      subst C
      by_cases o3:i.op=[105,115]∨i.op=[99,97,115,116]
      ·simp only[if_pos o3,decide_eq_true o3,↓M1,M1,Mb,reduceIte]
       refine ld e g rfl ?_
       refine Us i.s p ?_
       cases hr:right i.s with
       | false=>(try simp only[↓M1,M1,Mb,reduceIte]);exact .mk f
       | true=>
        (try simp only[↓M1,M1,Mb,reduceIte])
        refine ld e g rfl ?_
        refine Ee i.s ?_
        (try simp only[↓M1,M1,Mb,reduceIte])
        exact .mk f
      ·simp only[if_neg o3,decide_eq_false o3,↓M1,M1,Mb,reduceIte]
       by_cases Y:i.op=[97,114,114,97,121]
       ·simp only[if_pos Y,decide_eq_true Y,↓M1,M1,Mb,reduceIte]
        refine ld e g rfl ?_
        refine Us i.s p ?_
        cases hr:right i.s with
        | false=>(try simp only[↓M1,M1,Mb,reduceIte]);exact .mk f
        | true=>
         (try simp only[↓M1,M1,Mb,reduceIte])
         refine ld e g rfl ?_
         refine Cm i.s p ?_
         (try simp only[↓M1,M1,Mb,reduceIte])
         have e3:decide (((base i.s).2:Int)<3)=decide (Xt i.s<3):=by
          unfold Xt;rw[if_pos hr,Bool.eq_iff_iff,decide_eq_true_eq,decide_eq_true_eq];omega
         rw[e3]
         exact .mk f
       ·simp only[if_neg Y,decide_eq_false Y,↓M1,M1,Mb,reduceIte]
        refine ld e g rfl ?_
        refine Q4D i.s p fun w4 t=>?_
        have A:=f.trans (Stp.of_below e t)
        by_cases N:(Xc i.s).2.2=true
        ·simp only[N,if_true,↓M1,M1,Mb,reduceIte]
         exact .mk A
        ·have:Zq i.s=false:=by unfold Zq;rw[eq_false_of_ne_true N];rfl
         simp only[N,if_false,↓M1,M1,Mb,reduceIte]
         exact .of A this.symm
   ·obtain ⟨m,u,rfl⟩:=U
    have E:=y _ w' m u rfl
    simp only[Bool.true_and] at E
    (try simp only[↓M1,M1,Mb,reduceIte])
    exact E)
end Go.Proofs.YtjdiakhipmggjaaGreatDoor

namespace Go.Emb
theorem X2y {w:World} {K:Value→World→Prop} {v:Value} (h:K v w):Q0 (.bool true) true w (fun w J=>J v w) K:=by rw[W5];exact h
theorem X2A {w:World} {K:Value→World→Prop} {v:Value} (h:K v w):Q0 (.bool false) false w (fun w J=>J v w) K:=by rw[W9];exact h
theorem X32 {w:World} {K:Value→World→Prop} {b:Bool} {run:World→(Value→World→Prop)→Prop} (h:K undef w):Q0 undef b w run K:=by rw[O7];exact h
class Hd (p : Prop) (q : outParam Prop) : Prop where
  h : q → p
section
variable {P : Program} {w : World} {K : Value → World → Prop} {run : World → (Value → World → Prop) → Prop} {v u : Value} {b : Bool}
instance:Hd (J8 P .not (.bool b) w K) (K (.bool (!b)) w):=⟨Jj⟩
instance:Hd (Q0 undef b w run K) (K undef w):=⟨X32⟩
instance {t:TypeId} {k off:Nat} {ft:TypeId} {sz by_:Nat} {z:Value} {a:Addr} [tf:TF P t k off ft] [tz:TZ P ft sz by_ z] [nz:NZ sz]:Hd (fieldAddr P t (.pointer (some a)) k w K) (K (.pointer (some (a.add off))) w):=⟨W3⟩
instance:Hd (pick P (.bool false) v u w K) (K u w):=⟨X1P⟩
instance:Hd (pick P (.bool true) v u w K) (K v w):=⟨X2t⟩
instance:Hd (Q0 (.bool false) false w run K) (run w K):=⟨X3C⟩
instance:Hd (Q0 (.bool true) true w run K) (run w K):=⟨X3x⟩
instance:Hd (Q0 (.bool false) true w run K) (K undef w):=⟨X2q⟩
instance:Hd (Q0 (.bool true) false w run K) (K undef w):=⟨X22⟩
instance:Hd (Q0 (.bool false) false w (fun w J=>J v w) K) (K v w):=⟨X2A⟩
instance:Hd (Q0 (.bool true) true w (fun w J=>J v w) K) (K v w):=⟨X2y⟩
end
end Go.Emb
namespace Go.Proofs.YtjdiakhipmggjaaGreatDoor
open Go.Emb Go.RowKit Go.Kd Go.Hm
variable {w : World} {K : Value → World → Prop} {σ : Q6}
theorem X2D {xs:List Ins} {v:Value} (q:X3 w σ) (o:Sl 3 Qp σ v xs) (h: ∀e w' l,Stp w σ w' l→decide (e=0)=xs.all (fun i=>decide (H4 i=0))→K (I e) w'):Q1 P F.b3 [v] w K:=Q0z (by
 unfold Ek
 refine U3 xs.length (fun n w'=> ∃l,Stp w σ w' l∧(xs.take n).all (fun i=>decide (H4 i=0))=true) ⟨σ,Stp.refl q,rfl⟩ fun n w1 d z j=>?_
 obtain ⟨σ1,a,f⟩:=j
 have g:=o.up a
 refine Q8 g ?_
 refine Y9 ?_
 refine Q7 (fun m=>?_) (fun m=>?_)
 ·have c:n<xs.length:=by simpa using m
  refine Y1 g c ?_
  obtain ⟨t,p⟩:=g.elI c
  refine Y4 a.sat t rfl ?_
  refine Q88 a.sat p fun y r k=>?_
  refine Za ?_
  by_cases e:H4 xs[n]=0
  ·have:decide (H4 xs[n]=0)=true:=by simpa using e
   simp only[this,↓M1,M1,Mb,reduceIte]
   exact Y5 o.max c ⟨r,a.trans k,by rw[Ux c,f];simpa using e⟩
  ·have:decide (H4 xs[n]=0)=false:=by simpa using e
   simp only[this,↓M1,M1,Mb,reduceIte]
   refine h _ _ _ (a.trans k) ?_
   rw[this]
   symm
   rw[←Bool.not_eq_true,List.all_eq_true]
   intro s
   have:=s _ (List.getElem_mem c)
   simp at this
   exact e this
 ·have c: ¬n<xs.length:=by simpa using m
  rw[List.take_of_length_le (by omega)] at f
  exact h 0 _ _ a (by rw[f];rfl))
theorem X1c {c:Cla} {cs:List Value} (hs:X3 w σ) (hc:U9 σ c cs) (h: ∀w' σ',Stp w σ w' σ'→K (.bool (Zw c)) w'):Q1 P F.bJ [.agg cs.toArray] w K:=Ab (by
 unfold Oj
 obtain ⟨lv,fv,mv,rfl,f1,f2,f3,f4,f5⟩:=hc
 refine Z1 hs fun q w1 σ1 hk1 hq=>?_
 have f1:=f1.up hk1
 have f2:=f2.up hk1
 have f3:=f3.up hk1
 refine U3 c.methods.length (fun n w'=> ∃σ',Stp w1 σ1 w' σ'∧(c.methods.take n).any Wr=false) ⟨σ1,Stp.refl hk1.sat,rfl⟩ fun n w2 d hn hinv=>?_
 obtain ⟨σ2,hk2,hno⟩:=hinv
 have hq2:=hq.up hk2
 have f32:=f3.up hk2
 have f12:=f1.up hk2
 have f22:=f2.up hk2
 have hs2:=hk2.sat
 (try simp only[↓M1,M1,Mb,reduceIte])
 refine ld hs2 hq2 rfl ?_
 refine Q8 f32 ?_
 refine Y9 ?_
 refine Q7 (fun hc=>?_) (fun hc=>?_)
 ·have hn':n<c.methods.length:=by simpa using hc
  (try simp only[↓M1,M1,Mb,reduceIte])
  refine ld hs2 hq2 rfl ?_
  refine Y1 f32 hn' ?_
  obtain ⟨pv,cv,hv,p1,r1⟩:=f32.elM hn'
  refine Y4 hs2 p1 rfl ?_
  refine Y8 hs2 (by rfl) rfl (Rep.one r1) fun q3 w3 σ3 hk3 hq3=>?_
  obtain ⟨g1,g2,g3,_,_,_⟩:=(RMe_lift r1 ⟨hk3.le⟩).parts
  have hS3:=hk1.trans (hk2.trans hk3)
  have hyes:Wr c.methods[n]=true→K (.bool true) w3:=fun e=>by
   have:=h _ _ hS3
   have hm:Zw c=true:=by unfold Zw;rw[C0 hn' e];rfl
   rwa [hm] at this
  have hk23:=hk2.trans hk3
  clear h hk2 hk3 hS3
  have hmax:=f3.max
  (repeat' (first | (with_reducible intro _) | (with_reducible refine V0 ?_) | (simp only[↓M2,M2,Mb,reduceIte]) | (with_reducible first | refine ld aS aL aR ?_ | refine X7 aS aL aR ?_ | refine Y4 aS aL aR ?_ | refine Q8 aL ?_ | refine J3 aR ?_ | refine Z1 aS ?_ | refine N2 aS aL ?_ | refine U6 aS aR ?_ | refine Y8 aS aR aR (Rep.one (by assumption)) ?_ | refine U7 aS aR aR aR ?_ | (refine J0 (fun hh=>?_) (fun hh=>?_)<;>(try simp only[hh,Bool.not_true,Bool.not_false,↓M2,M2,Mb,reduceIte])) | (refine Q7 (fun hh=>?_) (fun hh=>?_)<;>(try simp only[hh,Bool.not_true,Bool.not_false,↓M2,M2,Mb,reduceIte])))))
  all_goals clear hq hq2 f1 f2 f3 f32 f12 f22 hs hs2 p1 r1 g1 g2 g3 hk1 f4 f5 hq3
  all_goals first
   | (refine hyes ?_;clear hyes hk23;unfold Wr;simp only[Bool.not_false,Bool.not_true,Bool.or_eq_true,decide_eq_true_eq,decide_eq_false_iff_not] at*;omega)
   | (
    have hnx:(c.methods.take (n+1)).any Wr=false:=by
     rw[L2 hn',hno,Bool.false_or];clear hyes hk23;unfold Wr;simp only[Bool.or_eq_false_iff,decide_eq_false_iff_not] at*;omega
    exact Y5 hmax hn' ⟨_,hk23,hnx⟩)
 ·have hn': ¬n<c.methods.length:=by simpa using hc
  rw[E0 hn'] at hno
  have hS2:=hk1.trans hk2
  have hm:Zw c=(decide (32<c.like.length)||decide (32<c.fields.length)||decide (32<c.methods.length)):=by unfold Zw;rw[hno];simp
  rw[hm] at h
  have hK:=h _ _ hS2
  clear h hk2
  (try simp only[↓M1,M1,Mb,reduceIte])
  refine ld hs2 hq2 rfl ?_
  refine Q8 f12 ?_
  have d32: ∀k:Nat,decide ((32:Int)<(k:Int))=decide (32<k):=fun k=>by rw[Bool.eq_iff_iff,decide_eq_true_eq,decide_eq_true_eq];omega
  simp only[d32,↓M1,M1,Mb,reduceIte]
  cases e1:decide (32<c.like.length) with
  | true=>rw[e1] at hK;(try simp only[↓M1,M1,Mb,reduceIte]);simpa using hK
  | false=>
   rw[e1] at hK
   (try simp only[↓M1,M1,Mb,reduceIte])
   refine ld hs2 hq2 rfl ?_
   refine Q8 f22 ?_
   simp only[d32,↓M1,M1,Mb,reduceIte]
   cases e2:decide (32<c.fields.length) with
   | true=>rw[e2] at hK;(try simp only[↓M1,M1,Mb,reduceIte]);simpa using hK
   | false=>
    rw[e2] at hK
    (try simp only[↓M1,M1,Mb,reduceIte])
    refine ld hs2 hq2 rfl ?_
    refine Q8 f32 ?_
    simp only[d32,↓M1,M1,Mb,reduceIte]
    simpa using hK)
theorem Q7J {α:Type} {xs:List α} {p:α→Bool} {n:Nat} (h: ¬n<xs.length):(xs.take n).all p=xs.all p:=by rw[List.take_of_length_le (by omega)]
set_option maxHeartbeats 4000000 in
theorem Q0u {m:Hm.Met} {pv cv hv:Value} {w1:World} {σ1:Q6} {q:Addr} {r:Bool} (hs:X3 w σ) (ag:Stp w σ w1 σ1) (hq:Z6 σ1 q [S m.name,pv,S m.result, .bool m.abs,I m.locals,cv,hv]) (g1:Sl 1 U8 σ1 pv m.params) (g2:Sl 3 Qp σ1 cv m.code) (g3:Sl 4 Um σ1 hv m.catches)
 (h: ∀w' M,Stp w σ w' M→K (.bool ((r&&m.params.all right)&&if m.abs then decide (m.locals=0)&&decide (m.code=[])&&decide (m.catches=[])
  else decide (m.code≠[])&&decide ((m.params.length:Int)<m.locals)&&m.code.all (fun i=>decide (H4 i=0))&&m.catches.all (I3 m.code.length))) w'):
 lp (α:=Value×Value) (Value.bool r,(.int .i64 0)) w1 fun W C d_ w=>
  fieldAddr P T.d (.pointer (some q)) 1 w fun cj w=>
  Q2 P T.h cj w fun c6 w=>
  X2 P .len [T.h] T.e [false] [c6] w fun b1 w=>
  Q3 P .lss T.e (.tmp 21) (.tmp 24) C.2 b1 w fun cs w=>
  X1 cs (
   Q0 C.1 true w (fieldAddr P T.d (.pointer (some q)) 1) fun cf w=>
   Q0 C.1 true w (Q2 P T.h cf) fun cx w=>
   Q0 C.1 true w (fun w J=>J C.2 w) fun bx w=>
   Q0 C.1 true w (indexAddr P T.h cx bx) fun da w=>
   Q0 C.1 true w (Q2 P T.c da) fun cn w=>
   Q0 C.1 true w (Q1 P F.e [cn]) fun br w=>
   pick P C.1 br (.bool false) w fun cl w=>
   Q3 P .add T.e (.tmp 26) (.const (.int .i64 1)) C.2 (.int .i64 1) w fun bu w=>
   W (cl,bu) w) (
   fieldAddr P T.d (.pointer (some q)) 3 w fun cu w=>
   Q2 P T.u cu w fun b5 w=>
   X1 b5 (
    Q0 C.1 true w (fieldAddr P T.d (.pointer (some q)) 4) fun b4 w=>
    Q0 C.1 true w (Q2 P T.e b4) fun ca w=>
    Q0 C.1 true w (Q3 P .eql T.e (.tmp 42) (.const (.int .i64 0)) ca (.int .i64 0)) fun c8 w=>
    pick P C.1 c8 (.bool false) w fun N w=>
    Q0 N true w (fieldAddr P T.d (.pointer (some q)) 5) fun ct w=>
    Q0 N true w (Q2 P T.q ct) fun cp w=>
    Q0 N true w (X2 P .len [T.q] T.e [false] [cp]) fun bl w=>
    Q0 N true w (Q3 P .eql T.e (.tmp 48) (.const (.int .i64 0)) bl (.int .i64 0)) fun bz w=>
    pick P N bz (.bool false) w fun O w=>
    Q0 O true w (fieldAddr P T.d (.pointer (some q)) 6) fun cd w=>
    Q0 O true w (Q2 P T.s cd) fun b9 w=>
    Q0 O true w (X2 P .len [T.s] T.e [false] [b9]) fun cr w=>
    Q0 O true w (Q3 P .eql T.e (.tmp 54) (.const (.int .i64 0)) cr (.int .i64 0)) fun ce w=>
    pick P O ce (.bool false) w fun bs w=>
    K bs w) (
    fieldAddr P T.d (.pointer (some q)) 5 w fun cy w=>
    Q2 P T.q cy w fun bk w=>
    X2 P .len [T.q] T.e [false] [bk] w fun af w=>
    lp (α:=Value×Value) (C.1,(.int .i64 0)) w fun Q j d_ w=>
     fieldAddr P T.d (.pointer (some q)) 6 w fun bh w=>
     Q2 P T.s bh w fun ch w=>
     X2 P .len [T.s] T.e [false] [ch] w fun ck w=>
     Q3 P .lss T.e (.tmp 60) (.tmp 63) j.2 ck w fun dd w=>
     X1 dd (
      fieldAddr P T.d (.pointer (some q)) 6 w fun b6 w=>
      Q2 P T.s b6 w fun co w=>
      indexAddr P T.s co j.2 w fun c5 w=>
      Q2 P T.t c5 w fun bi w=>
      V6 P T.t w fun t7 w=>
      X9 P T.t t7 bi w fun _u w=>
      Q0 j.1 true w (fieldAddr P T.t t7 0) fun dc w=>
      Q0 j.1 true w (Q2 P T.e dc) fun b3 w=>
      Q0 j.1 true w (Q3 P .geq T.e (.tmp 75) (.const (.int .i64 0)) b3 (.int .i64 0)) fun c7 w=>
      pick P j.1 c7 (.bool false) w fun E w=>
      Q0 E true w (fieldAddr P T.t t7 0) fun bp w=>
      Q0 E true w (Q2 P T.e bp) fun bo w=>
      Q0 E true w (fieldAddr P T.t t7 1) fun b7 w=>
      Q0 E true w (Q2 P T.e b7) fun bv w=>
      Q0 E true w (Q3 P .lss T.e (.tmp 80) (.tmp 82) bo bv) fun c4 w=>
      pick P E c4 (.bool false) w fun L w=>
      Q0 L true w (fieldAddr P T.t t7 1) fun bm w=>
      Q0 L true w (Q2 P T.e bm) fun cc w=>
      Q0 L true w (fun w J=>J af w) fun b0 w=>
      Q0 L true w (Q3 P .leq T.e (.tmp 87) (.tmp 88) cc b0) fun cz w=>
      pick P L cz (.bool false) w fun V w=>
      Q0 V true w (fieldAddr P T.t t7 2) fun bj w=>
      Q0 V true w (Q2 P T.e bj) fun bw w=>
      Q0 V true w (Q3 P .geq T.e (.tmp 93) (.const (.int .i64 0)) bw (.int .i64 0)) fun bq w=>
      pick P V bq (.bool false) w fun U w=>
      Q0 U true w (fieldAddr P T.t t7 2) fun db w=>
      Q0 U true w (Q2 P T.e db) fun cw w=>
      Q0 U true w (fun w J=>J af w) fun bn w=>
      Q0 U true w (Q3 P .lss T.e (.tmp 98) (.tmp 99) cw bn) fun ao w=>
      pick P U ao (.bool false) w fun D w=>
      Q0 D true w (fieldAddr P T.t t7 3) fun ba w=>
      Q0 D true w (Q2 P T.c ba) fun az w=>
      Q0 D true w (Q1 P F.d [az]) fun ap w=>
      pick P D ap (.bool false) w fun a1 w=>
      Q3 P .add T.e (.tmp 65) (.const (.int .i64 1)) j.2 (.int .i64 1) w fun ci w=>
      Q (a1,ci) w) (
      Q0 j.1 true w (fun w J=>J af w) fun a6 w=>
      Q0 j.1 true w (Q3 P .gtr T.e (.tmp 109) (.const (.int .i64 0)) a6 (.int .i64 0)) fun a3 w=>
      pick P j.1 a3 (.bool false) w fun g w=>
      Q0 g true w (fieldAddr P T.d (.pointer (some q)) 4) fun bd w=>
      Q0 g true w (Q2 P T.e bd) fun a2 w=>
      Q0 g true w (fieldAddr P T.d (.pointer (some q)) 1) fun a4 w=>
      Q0 g true w (Q2 P T.h a4) fun al w=>
      Q0 g true w (X2 P .len [T.h] T.e [false] [al]) fun aj w=>
      Q0 g true w (Q3 P .gtr T.e (.tmp 114) (.tmp 117) a2 aj) fun a9 w=>
      pick P g a9 (.bool false) w fun s w=>
      Q0 s true w (fieldAddr P T.d (.pointer (some q)) 5) fun a7 w=>
      Q0 s true w (Q2 P T.q a7) fun av w=>
      Q0 s true w (Q1 P F.b3 [av]) fun a8 w=>
      Q0 s true w (Q3 P .eql T.y (.tmp 123) (.const (.int .i64 0)) a8 (.int .i64 0)) fun ax w=>
      pick P s ax (.bool false) w fun a0 w=>
      K a0 w))):=by
 have cg:=ag.sat
 have c0:decide ((m.code.length:Int)=0)=decide (m.code=[]):=by cases m.code<;>simp;omega
 have c1:decide ((m.catches.length:Int)=0)=decide (m.catches=[]):=by cases m.catches<;>simp;omega
 have c2:decide ((0:Int)<m.code.length)=decide (m.code≠[]):=by cases m.code<;>simp
 refine E2 (a:=Value.bool r) m.params.length (fun n x w'=> ∃M,Stp w1 σ1 w' M∧x=Value.bool (r&&(m.params.take n).all right)) ⟨σ1,Stp.refl cg,by simp⟩ fun n x w2 d hn R=>?_
 obtain ⟨σ2,o,rfl⟩:=R
 have l:=hq.up o
 have Y:=g1.up o
 have k:=o.sat
 (try simp only[↓M1,M1,Mb,reduceIte])
 refine ld k l rfl ?_
 refine Q8 Y ?_
 refine Y9 ?_
 refine Q7 (fun hc=>?_) (fun hc=>?_)
 ·have c:n<m.params.length:=by simpa using hc
  have p:(r&&(m.params.take (n+1)).all right)=((r&&(m.params.take n).all right)&&right m.params[n]):=by rw[Ux c,Bool.and_assoc]
  generalize (r&&(m.params.take n).all right)=f at p⊢
  cases f with
  | false=>(try simp only[↓M1,M1,Mb,reduceIte]);exact J5 g1.max c ⟨σ2,o,by rw[p];rfl⟩
  | true=>
   (try simp only[↓M1,M1,Mb,reduceIte])
   refine ld k l rfl ?_
   (try simp only[↓M1,M1,Mb,reduceIte])
   refine Y1 Y c ?_
   obtain ⟨p1,p2⟩:=Y.elS c
   refine X7 k p1 rfl ?_
   refine Us _ (by simp only[U2] at p2;omega) ?_
   (try simp only[↓M1,M1,Mb,reduceIte])
   exact J5 g1.max c ⟨σ2,o,by rw[p];rfl⟩
 ·have c: ¬n<m.params.length:=by simpa using hc
  rw[Q7J c]
  have ak:=ag.trans o
  have ah:=g2.up o
  have aa:=g3.up o
  clear ag o hq g1 g2 g3 hn hc
  generalize (r&&m.params.all right)=f at h⊢
  refine ld k l rfl ?_
  cases bc:m.abs with
  | true=>
   simp only[bc,if_true] at h
   have hK:=h _ _ ak
   clear h
   (try simp only[↓M1,M1,Mb,reduceIte])
   cases f with
   | false=>(try simp only[↓M1,M1,Mb,reduceIte]);simpa using hK
   | true=>
    (try simp only[↓M1,M1,Mb,reduceIte])
    refine ld k l rfl ?_
    (try simp only[↓M1,M1,Mb,reduceIte])
    cases a5:decide (m.locals=0) with
    | false=>rw[a5] at hK;(try simp only[↓M1,M1,Mb,reduceIte]);simpa using hK
    | true=>
     rw[a5] at hK
     (try simp only[↓M1,M1,Mb,reduceIte])
     refine ld k l rfl ?_
     refine Q8 ah ?_
     simp only[c0,↓M1,M1,Mb,reduceIte]
     cases ar:decide (m.code=[]) with
     | false=>rw[ar] at hK;(try simp only[↓M1,M1,Mb,reduceIte]);simpa using hK
     | true=>
      rw[ar] at hK
      (try simp only[↓M1,M1,Mb,reduceIte])
      refine ld k l rfl ?_
      refine Q8 aa ?_
      simp only[c1,↓M1,M1,Mb,reduceIte]
      simpa using hK
  | false=>
   simp only[bc,Bool.false_eq_true,if_false] at h
   (try simp only[↓M1,M1,Mb,reduceIte])
   refine ld k l rfl ?_
   refine Q8 ah ?_
   refine E2 (a:=Value.bool f) m.catches.length (fun n x w'=> ∃M,Stp w2 σ2 w' M∧x=Value.bool (f&&(m.catches.take n).all (I3 m.code.length))) ⟨σ2,Stp.refl k,by simp⟩ fun n x w4 d hn R=>?_
   obtain ⟨σ4,t,rfl⟩:=R
   have H:=l.up t
   have X:=aa.up t
   have z:=t.sat
   (try simp only[↓M1,M1,Mb,reduceIte])
   refine ld z H rfl ?_
   refine Q8 X ?_
   refine Y9 ?_
   refine Q7 (fun hc=>?_) (fun hc=>?_)
   ·have c:n<m.catches.length:=by simpa using hc
    have p:(f&&(m.catches.take (n+1)).all (I3 m.code.length))=((f&&(m.catches.take n).all (I3 m.code.length))&&I3 m.code.length m.catches[n]):=by rw[Ux c,Bool.and_assoc]
    generalize (f&&(m.catches.take n).all (I3 m.code.length))=c9 at p⊢
    (try simp only[↓M1,M1,Mb,reduceIte])
    refine ld z H rfl ?_
    refine Y1 X c ?_
    obtain ⟨p1,r1⟩:=X.elK c
    have aw:m.catches[n].cls.length≤140737488355328:=by have:=r1.2.2.2.2;simp only[U2] at this;omega
    refine Y4 z p1 rfl ?_
    refine Y8 z (by rfl) rfl (Rep.one r1) fun q5 w5 σ5 an A=>?_
    have B:=an.sat
    have ae:=t.trans an
    cases c9 with
    | false=>(try simp only[↓M1,M1,Mb,reduceIte]);exact J5 aa.max c ⟨σ5,ae,by rw[p];rfl⟩
    | true=>
     have y: ∀b,I3 m.code.length m.catches[n]=b→Fs m.catches.length (fun n x w'=> ∃M,Stp w2 σ2 w' M∧x=Value.bool (f&&(m.catches.take n).all (I3 m.code.length))) (Value.bool b, .int .i64 (IntKind.i64.wrap (n+1))) w5∧Ns m.catches.length (Value.bool b, .int .i64 (IntKind.i64.wrap (n+1)))<Ns m.catches.length (Value.bool true,I n):=fun b e=>J5 aa.max c ⟨σ5,ae,by rw[p,e];rfl⟩
     unfold I3 at y
     generalize m.catches[n]=x at A y aw
     clear p p1 r1 H l X h
     (try simp only[↓M1,M1,Mb,reduceIte])
     refine ld B A rfl ?_
     (try simp only[↓M1,M1,Mb,reduceIte])
     cases d1:decide (0≤x.frm) with
     | false=>(try simp only[↓M1,M1,Mb,reduceIte]);exact y _ (by simp[d1])
     | true=>
     (try simp only[↓M1,M1,Mb,reduceIte])
     refine ld B A rfl ?_
     (try simp only[↓M1,M1,Mb,reduceIte])
     refine ld B A rfl ?_
     (try simp only[↓M1,M1,Mb,reduceIte])
     cases d2:decide (x.frm<x.to) with
     | false=>(try simp only[↓M1,M1,Mb,reduceIte]);exact y _ (by simp[d1,d2])
     | true=>
     (try simp only[↓M1,M1,Mb,reduceIte])
     refine ld B A rfl ?_
     (try simp only[↓M1,M1,Mb,reduceIte])
     cases d3:decide (x.to≤(m.code.length:Int)) with
     | false=>(try simp only[↓M1,M1,Mb,reduceIte]);exact y _ (by simp[d1,d2,d3])
     | true=>
     (try simp only[↓M1,M1,Mb,reduceIte])
     refine ld B A rfl ?_
     (try simp only[↓M1,M1,Mb,reduceIte])
     cases d4:decide (0≤x.at_) with
     | false=>(try simp only[↓M1,M1,Mb,reduceIte]);exact y _ (by simp[d1,d2,d3,d4])
     | true=>
     (try simp only[↓M1,M1,Mb,reduceIte])
     refine ld B A rfl ?_
     (try simp only[↓M1,M1,Mb,reduceIte])
     cases d5:decide (x.at_<(m.code.length:Int)) with
     | false=>(try simp only[↓M1,M1,Mb,reduceIte]);exact y _ (by simp[d1,d2,d3,d4,d5])
     | true=>
     (try simp only[↓M1,M1,Mb,reduceIte])
     refine ld B A rfl ?_
     refine Yg x.cls aw ?_
     (try simp only[↓M1,M1,Mb,reduceIte])
     exact y _ (by simp[d1,d2,d3,d4,d5])
   ·have c: ¬n<m.catches.length:=by simpa using hc
    rw[Q7J c]
    have Z:=ak.trans t
    have cb:=ah.up t
    have b2:=Y.up t
    have hh: ∀w' M,Stp w σ w' M→K (.bool ((f&&m.catches.all (I3 m.code.length))&&(decide (m.code≠[])&&decide ((m.params.length:Int)<m.locals)&&m.code.all (fun i=>decide (H4 i=0))))) w':=by
     intro w' M hk
     have:=h w' M hk
     refine Eq.subst (motive:=fun b=>K (.bool b) w') ?_ this
     cases f<;>cases m.catches.all (I3 m.code.length)<;>simp
    clear h t
    generalize (f&&m.catches.all (I3 m.code.length))=cm at hh⊢
    cases cm with
    | false=>(try simp only[↓M1,M1,Mb,reduceIte]);simpa using hh _ _ Z
    | true=>
     (try simp only[↓M1,M1,Mb,reduceIte])
     simp only[c2,↓M1,M1,Mb,reduceIte]
     cases aq:decide (m.code≠[]) with
     | false=>rw[aq] at hh;(try simp only[↓M1,M1,Mb,reduceIte]);simpa using hh _ _ Z
     | true=>
      rw[aq] at hh
      (try simp only[↓M1,M1,Mb,reduceIte])
      refine ld z H rfl ?_
      (try simp only[↓M1,M1,Mb,reduceIte])
      refine ld z H rfl ?_
      refine Q8 b2 ?_
      (try simp only[↓M1,M1,Mb,reduceIte])
      cases ay:decide ((m.params.length:Int)<m.locals) with
      | false=>rw[ay] at hh;(try simp only[↓M1,M1,Mb,reduceIte]);simpa using hh _ _ Z
      | true=>
       rw[ay] at hh
       (try simp only[↓M1,M1,Mb,reduceIte])
       refine ld z H rfl ?_
       refine X2D z cb fun e w6 σ6 c3 he=>?_
       simp only[he,↓M1,M1,Mb,reduceIte]
       simpa using hh _ _ (Z.trans c3)
set_option maxHeartbeats 2000000 in
theorem Q91 {m:Hm.Met} {cs:List Value} (n:X3 w σ) (B:E7 σ m cs) (h: ∀w' z,Stp w σ w' z→K (.bool (I9 m)) w'):Q1 P F.a5 [.agg cs.toArray] w K:=Gz (by
 unfold Lj
 obtain ⟨pv,L,H,rfl,y,D,E,A,C,J⟩:=B
 have p:m.name.length≤140737488355328:=by simp only[U2] at A;omega
 have r:m.result.length≤140737488355328:=by simp only[U2] at C;omega
 refine Z1 n fun q w1 σ1 a g=>?_
 have s:=y.up a
 have t:=D.up a
 have o:=E.up a
 have e:=a.sat
 obtain ⟨d,c⟩: ∃b,b=(D7 m.name&&(decide (m.result=[])||right m.result)):=⟨_,rfl⟩
 have k:I9 m=((d&&m.params.all right)&&if m.abs then decide (m.locals=0)&&decide (m.code=[])&&decide (m.catches=[])
  else decide (m.code≠[])&&decide ((m.params.length:Int)<m.locals)&&m.code.all (fun i=>decide (H4 i=0))&&m.catches.all (I3 m.code.length)):=by
  rw[c];unfold I9
  cases D7 m.name<;>cases m.params.all right<;>cases decide (m.result=[])<;>cases right m.result<;>rfl
 rw[k] at h
 clear k
 (repeat refine Hd.h ?_)
 refine ld e g rfl ?_
 refine Tm m.name p ?_
 cases f:D7 m.name with
 | false=>
  have j:d=false:=by rw[c,f];rfl
  (repeat refine Hd.h ?_)
  refine Eq.subst (motive:=fun b=>lp (α:=Value×Value) (Value.bool b, .int .i64 0) w1 _) j ?_
  exact Q0u n a g s t o h
 | true=>
  (repeat refine Hd.h ?_)
  refine ld e g rfl ?_
  (repeat refine Hd.h ?_)
  refine P6 ?_
  cases l:decide (m.result=[]) with
  | true=>
   have j:d=true:=by rw[c,f,l];rfl
   (repeat refine Hd.h ?_)
   refine Eq.subst (motive:=fun b=>lp (α:=Value×Value) (Value.bool b, .int .i64 0) w1 _) j ?_
   exact Q0u n a g s t o h
  | false=>
   (repeat refine Hd.h ?_)
   refine ld e g rfl ?_
   (repeat refine Hd.h ?_)
   refine Us m.result r ?_
   have j:d=right m.result:=by rw[c,f,l];rfl
   (repeat refine Hd.h ?_)
   refine Eq.subst (motive:=fun b=>lp (α:=Value×Value) (Value.bool b, .int .i64 0) w1 _) j ?_
   exact Q0u n a g s t o h)
end Go.Proofs.YtjdiakhipmggjaaGreatDoor

namespace Go.Hm
open Go.Kd
def Ni (c:Cla) (i:Nat):Bool:=M9 (c.like.getD i [])&& !decide (c.like.getD i []=c.name)
def Qe (c:Cla) (i k:Nat):Bool:= !decide (c.like.getD k []=c.like.getD i [])
def Bs (c:Cla) (i:Nat):Fld:=c.fields.getD i Fld.zero
def Rs (c:Cla) (i:Nat):Hm.Met:=c.methods.getD i Hm.Met.zero
def Eb (c:Cla) (i:Nat):Bool:=D7 (Bs c i).name&&right (Bs c i).kind&& !c.iface
def Xr (c:Cla) (i k:Nat):Bool:= !decide ((Bs c k).name=(Bs c i).name)
def Q8W (c:Cla):Bool:=(!c.iface||(c.abs&&decide (c.super=U1)))&& !(c.abs&&c.fin)
def Xz (c:Cla) (i k:Nat):Bool:= !decide ((Rs c k).name=(Rs c i).name)
theorem Ly {p:Nat→Bool} {n:Nat}:(List.range (n+1)).all p=((List.range n).all p&&p n):=by rw[List.range_succ,List.all_append];simp
theorem C3 {α:Type} {xs:List α} {i:Nat} {d:α} (h:i<xs.length):xs.getD i d=xs[i]:=by rw[List.getD_eq_getElem?_getD,List.getElem?_eq_getElem h];rfl
end Go.Hm
namespace Go.Proofs.YtjdiakhipmggjaaGreatDoor
open Go.Emb Go.RowKit Go.Kd Go.Hm
variable {w : World} {K : Value → World → Prop} {σ : Q6}
def Mv (c:Cla) (i:Nat):Bool:=I9 (Rs c i)&&(!(Rs c i).abs||c.abs)&&(!c.iface||(Rs c i).abs)
set_option maxHeartbeats 2000000 in
theorem Q3S {c:Cla} {lv fv mv:Value} {w1:World} {σ1:Q6} {q:Addr} {ok:Bool} (Z:X3 w1 σ1) (hq:Z6 σ1 q [S c.name,S c.super,lv, .bool c.iface, .bool c.abs, .bool c.fin,fv,mv]) {i:Nat} {N m0:Nat} {Q:Nat→Value→World→Prop} (g1:Sl 1 U8 σ1 lv c.like) (hi:i<c.like.length)
 (h: ∀w' Y,Stp w1 σ1 w' Y→Fs N Q (Value.bool (ok&&(List.range i).all (Qe c i)), .int .i64 (IntKind.i64.wrap (i+1))) w'∧Ns N (Value.bool (ok&&(List.range i).all (Qe c i)), .int .i64 (IntKind.i64.wrap (i+1)))<m0):
 lp (
  α:=Value×Value) (Value.bool ok,(.int .i64 0)) w1 fun f b d_ w=>
  Q3 P .lss T.e (.tmp 52) (.tmp 53) b.2 (I i) w fun ab w=>
  X1 ab (
   dr w fun e g=>
   Q5 e (fun u=> ∀w:World,g w→Q0 b.1 true w (fieldAddr P T.b (.pointer (some q)) 2) (dk e u w)) fun u=>
   Q5 e (fun C=> ∀w:World,g w→Q0 b.1 true w (fun w J=>J b.2 w) (dk e C w)) fun C=>
   Q5 e (fun m=> ∀w:World,g w→Q0 b.1 true w (fieldAddr P T.b (.pointer (some q)) 2) (dk e m w)) fun m=>
   Q5 e (fun o=> ∀w:World,g w→Q0 b.1 true w (fun w J=>J (I i) w) (dk e o w)) fun o=>
   Q5 e (fun z=> ∀s:Value,∀w:World,g w→u s w→Q0 b.1 true w (Q2 P T.h s) (dk e z w)) fun z=>
   Q5 e (fun t=> ∀p:Value,∀l:Value,∀w:World,g w→z p w→C l w→Q0 b.1 true w (indexAddr P T.h p l) (dk e t w)) fun t=>
   Q5 e (fun H=> ∀n:Value,∀w:World,g w→t n w→Q0 b.1 true w (Q2 P T.c n) (dk e H w)) fun H=>
   Q5 e (fun y=> ∀B:Value,∀w:World,g w→m B w→Q0 b.1 true w (Q2 P T.h B) (dk e y w)) fun y=>
   Q5 e (fun v=> ∀D:Value,∀r:Value,∀w:World,g w→y D w→o r w→Q0 b.1 true w (indexAddr P T.h D r) (dk e v w)) fun v=>
   Q5 e (fun L=> ∀A:Value,∀w:World,g w→v A w→Q0 b.1 true w (Q2 P T.c A) (dk e L w)) fun L=>
   ∀s:Value,∀l:Value,∀B:Value,∀r:Value,∀p:Value,∀n:Value,∀M:Value,∀D:Value,∀A:Value,∀O:Value,∀w:World,g w→u s w→C l w→m B w→o r w→z p w→t n w→H M w→y D w→v A w→L O w→
   Q0 b.1 true w (Q3 P .neq T.c (.tmp 63) (.tmp 68) M O) fun ae w=>
   pick P b.1 ae (.bool false) w fun af w=>
   Q3 P .add T.e (.tmp 55) (.const (.int .i64 1)) b.2 (.int .i64 1) w fun ag w=>
   f (af,ag) w) (
   Q3 P .add T.e (.tmp 31) (.const (.int .i64 1)) (I i) (.int .i64 1) w fun W w=>
   (Fs N Q (b.1,W) w∧Ns N (b.1,W)<m0)):=by
 have an:=g1.max
 refine E2 (a:=Value.bool ok) i (fun k x w'=> ∃Y,Stp w1 σ1 w' Y∧x=Value.bool (ok&&(List.range k).all (Qe c i))) ⟨σ1,Stp.refl Z,by simp⟩ fun k x w2 d hk V=>?_
 obtain ⟨σ2,j,rfl⟩:=V
 have av:=hq.up j
 have R:=g1.up j
 have aa:=j.sat
 refine Y9 ?_
 refine Q7 (fun X=>?_) (fun X=>?_)
 ·have ac:k<i:=by simpa using X
  have U:k<c.like.length:=by omega
  have E:(ok&&(List.range (k+1)).all (Qe c i))=((ok&&(List.range k).all (Qe c i))&&Qe c i k):=by rw[Ly,Bool.and_assoc]
  have hQ:Qe c i k= !decide (c.like[k]=c.like[i]):=by unfold Qe;rw[C3 U,C3 hi]
  rw[hQ] at E
  obtain ⟨p1,_⟩:=R.elS U
  obtain ⟨p2,_⟩:=R.elS hi
  generalize (ok&&(List.range k).all (Qe c i))=ai at E⊢
  clear h hQ X
  cases ai
  all_goals
   refine U0 aa ?_
   (repeat refine Z9 Qa ?_)
   (intros;(repeat (rename_i hx;subst hx));(try simp only[↓M2,M2,Mb,reduceIte]))
   rename_i w3 ad
   exact J5 (by omega) ac ⟨σ2,j.trans ad.stp,by rw[E];rfl⟩
 ·have ah:k=i:=by
   have: ¬k<i:=by simpa using X
   omega
  subst ah
  (try simp only[↓M1,M1,Mb,reduceIte])
  exact h _ _ j
set_option maxHeartbeats 4000000 in
theorem X15 {c:Cla} {lv fv mv:Value} {w1:World} {σ1:Q6} {q:Addr} {ok:Bool} (hs1:X3 w1 σ1) (hq:Z6 σ1 q [S c.name,S c.super,lv, .bool c.iface, .bool c.abs, .bool c.fin,fv,mv]) {J:Value→World→Prop} (hn:c.name.length≤U2) (g1:Sl 1 U8 σ1 lv c.like)
 (h: ∀w' σ',Stp w1 σ1 w' σ'→J (.bool (ok&&(List.range c.like.length).all fun i=>Ni c i&&(List.range i).all (Qe c i))) w'):
 lp (α:=Value×Value) (Value.bool ok,(.int .i64 0)) w1 fun again4 x4 d_ w=>
 fieldAddr P T.b (.pointer (some q)) 2 w fun t27 w=>
 Q2 P T.h t27 w fun t28 w=>
 X2 P .len [T.h] T.e [false] [t28] w fun t29 w=>
 Q3 P .lss T.e (.tmp 26) (.tmp 29) x4.2 t29 w fun t30 w=>
 X1 t30 (
  dr w fun Tr Br=>
  Q5 Tr (fun φ35=> ∀w:World,Br w→Q0 x4.1 true w (fieldAddr P T.b (.pointer (some q)) 2) (dk Tr φ35 w)) fun φ35=>
  Q5 Tr (fun φ37=> ∀w:World,Br w→Q0 x4.1 true w (fun w J=>J x4.2 w) (dk Tr φ37 w)) fun φ37=>
  Q5 Tr (fun φ36=> ∀t35:Value,∀w:World,Br w→φ35 t35 w→Q0 x4.1 true w (Q2 P T.h t35) (dk Tr φ36 w)) fun φ36=>
  Q5 Tr (fun φ38=> ∀t36:Value,∀t37:Value,∀w:World,Br w→φ36 t36 w→φ37 t37 w→Q0 x4.1 true w (indexAddr P T.h t36 t37) (dk Tr φ38 w)) fun φ38=>
  Q5 Tr (fun φ39=> ∀t38:Value,∀w:World,Br w→φ38 t38 w→Q0 x4.1 true w (Q2 P T.c t38) (dk Tr φ39 w)) fun φ39=>
  Q5 Tr (fun φ40=> ∀t39:Value,∀w:World,Br w→φ39 t39 w→Q0 x4.1 true w (Q1 P F.d [t39]) (dk Tr φ40 w)) fun φ40=>
  Q5 Tr (fun φ41=> ∀t40:Value,∀w:World,Br w→φ40 t40 w→pick P x4.1 t40 (.bool false) w (dk Tr φ41 w)) fun φ41=>
  Q5 Tr (fun φ43=> ∀t41:Value,∀w:World,Br w→φ41 t41 w→Q0 t41 true w (fieldAddr P T.b (.pointer (some q)) 2) (dk Tr φ43 w)) fun φ43=>
  Q5 Tr (fun φ45=> ∀t41:Value,∀w:World,Br w→φ41 t41 w→Q0 t41 true w (fun w J=>J x4.2 w) (dk Tr φ45 w)) fun φ45=>
  Q5 Tr (fun φ48=> ∀t41:Value,∀w:World,Br w→φ41 t41 w→Q0 t41 true w (fieldAddr P T.b (.pointer (some q)) 0) (dk Tr φ48 w)) fun φ48=>
  Q5 Tr (fun φ44=> ∀t41:Value,∀t43:Value,∀w:World,Br w→φ41 t41 w→φ43 t43 w→Q0 t41 true w (Q2 P T.h t43) (dk Tr φ44 w)) fun φ44=>
  Q5 Tr (fun φ46=> ∀t41:Value,∀t44:Value,∀t45:Value,∀w:World,Br w→φ41 t41 w→φ44 t44 w→φ45 t45 w→Q0 t41 true w (indexAddr P T.h t44 t45) (dk Tr φ46 w)) fun φ46=>
  Q5 Tr (fun φ47=> ∀t41:Value,∀t46:Value,∀w:World,Br w→φ41 t41 w→φ46 t46 w→Q0 t41 true w (Q2 P T.c t46) (dk Tr φ47 w)) fun φ47=>
  Q5 Tr (fun φ49=> ∀t41:Value,∀t48:Value,∀w:World,Br w→φ41 t41 w→φ48 t48 w→Q0 t41 true w (Q2 P T.c t48) (dk Tr φ49 w)) fun φ49=>
  ∀t35:Value,∀t37:Value,∀t36:Value,∀t38:Value,∀t39:Value,∀t40:Value,∀t41:Value,∀t43:Value,∀t45:Value,∀t48:Value,∀t44:Value,∀t46:Value,∀t47:Value,∀t49:Value,∀w:World,Br w→φ35 t35 w→φ37 t37 w→φ36 t36 w→φ38 t38 w→φ39 t39 w→φ40 t40 w→φ41 t41 w→φ43 t43 w→φ45 t45 w→φ48 t48 w→φ44 t44 w→φ46 t46 w→φ47 t47 w→φ49 t49 w→
  Q0 t41 true w (Q3 P .neq T.c (.tmp 47) (.tmp 49) t47 t49) fun t50 w=>
  pick P t41 t50 (.bool false) w fun t51 w=>
  lp (α:=Value×Value) (t51,(.int .i64 0)) w fun again10 x10 d_ w=>
   Q3 P .lss T.e (.tmp 52) (.tmp 53) x10.2 x4.2 w fun t54 w=>
   X1 t54 (
    dr w fun Tr Br=>
    Q5 Tr (fun φ59=> ∀w:World,Br w→Q0 x10.1 true w (fieldAddr P T.b (.pointer (some q)) 2) (dk Tr φ59 w)) fun φ59=>
    Q5 Tr (fun φ61=> ∀w:World,Br w→Q0 x10.1 true w (fun w J=>J x10.2 w) (dk Tr φ61 w)) fun φ61=>
    Q5 Tr (fun φ64=> ∀w:World,Br w→Q0 x10.1 true w (fieldAddr P T.b (.pointer (some q)) 2) (dk Tr φ64 w)) fun φ64=>
    Q5 Tr (fun φ66=> ∀w:World,Br w→Q0 x10.1 true w (fun w J=>J x4.2 w) (dk Tr φ66 w)) fun φ66=>
    Q5 Tr (fun φ60=> ∀t59:Value,∀w:World,Br w→φ59 t59 w→Q0 x10.1 true w (Q2 P T.h t59) (dk Tr φ60 w)) fun φ60=>
    Q5 Tr (fun φ62=> ∀t60:Value,∀t61:Value,∀w:World,Br w→φ60 t60 w→φ61 t61 w→Q0 x10.1 true w (indexAddr P T.h t60 t61) (dk Tr φ62 w)) fun φ62=>
    Q5 Tr (fun φ63=> ∀t62:Value,∀w:World,Br w→φ62 t62 w→Q0 x10.1 true w (Q2 P T.c t62) (dk Tr φ63 w)) fun φ63=>
    Q5 Tr (fun φ65=> ∀t64:Value,∀w:World,Br w→φ64 t64 w→Q0 x10.1 true w (Q2 P T.h t64) (dk Tr φ65 w)) fun φ65=>
    Q5 Tr (fun φ67=> ∀t65:Value,∀t66:Value,∀w:World,Br w→φ65 t65 w→φ66 t66 w→Q0 x10.1 true w (indexAddr P T.h t65 t66) (dk Tr φ67 w)) fun φ67=>
    Q5 Tr (fun φ68=> ∀t67:Value,∀w:World,Br w→φ67 t67 w→Q0 x10.1 true w (Q2 P T.c t67) (dk Tr φ68 w)) fun φ68=>
    ∀t59:Value,∀t61:Value,∀t64:Value,∀t66:Value,∀t60:Value,∀t62:Value,∀t63:Value,∀t65:Value,∀t67:Value,∀t68:Value,∀w:World,Br w→φ59 t59 w→φ61 t61 w→φ64 t64 w→φ66 t66 w→φ60 t60 w→φ62 t62 w→φ63 t63 w→φ65 t65 w→φ67 t67 w→φ68 t68 w→
    Q0 x10.1 true w (Q3 P .neq T.c (.tmp 63) (.tmp 68) t63 t68) fun t69 w=>
    pick P x10.1 t69 (.bool false) w fun t70 w=>
    Q3 P .add T.e (.tmp 55) (.const (.int .i64 1)) x10.2 (.int .i64 1) w fun t56 w=>
    again10 (t70,t56) w) (
    Q3 P .add T.e (.tmp 31) (.const (.int .i64 1)) x4.2 (.int .i64 1) w fun t32 w=>
    again4 (x10.1,t32) w)) (
  J x4.1 w):=by
 have hmax:=g1.max
 refine E2 (a:=Value.bool ok) c.like.length (fun n x w'=> ∃σ',Stp w1 σ1 w' σ'∧x=Value.bool (ok&&(List.range n).all fun i=>Ni c i&&(List.range i).all (Qe c i))) ⟨σ1,Stp.refl hs1,by simp⟩ fun n x w2 d hn2 hinv=>?_
 obtain ⟨σ2,hk2,rfl⟩:=hinv
 have hq2:=hq.up hk2
 have g12:=g1.up hk2
 have hs2:=hk2.sat
 (repeat refine Hd.h ?_)
 refine ld hs2 hq2 rfl ?_
 refine Q8 g12 ?_
 refine Y9 ?_
 refine Q7 (fun hc=>?_) (fun hc=>?_)
 ·have hn':n<c.like.length:=by simpa using hc
  have hnx:(ok&&(List.range (n+1)).all fun i=>Ni c i&&(List.range i).all (Qe c i))=((ok&&(List.range n).all fun i=>Ni c i&&(List.range i).all (Qe c i))&&(Ni c n&&(List.range n).all (Qe c n))):=by rw[Ly,Bool.and_assoc]
  have hP:Ni c n=(M9 c.like[n]&& !decide (c.like[n]=c.name)):=by unfold Ni;rw[C3 hn']
  obtain ⟨p1,p2⟩:=g12.elS hn'
  have p2:c.like[n].length≤140737488355328:=by simp only[U2] at p2;omega
  generalize (ok&&(List.range n).all fun i=>Ni c i&&(List.range i).all (Qe c i))=acc at hnx⊢
  clear h hc
  cases hacc:acc with
  | false=>
   refine U0 hs2 ?_
   (repeat refine Z9 Qa ?_)
   intros;(repeat (rename_i hx;subst hx))
   rename_i w3 hb3
   (repeat refine Hd.h ?_)
   refine Q3S hb3.sat hq2 g12 hn' fun w4 σ4 hk4=>?_
   exact J5 hmax hn' ⟨σ4,hk2.trans (hb3.stp.trans hk4),by rw[hnx,hacc];rfl⟩
  | true=>
   cases hcl:M9 c.like[n] with
   | false=>
    refine U0 hs2 ?_
    have hrc: ∀{w':World} {K:Value→World→Prop},K (.bool false) w'→Q1 P F.d [S c.like[n]] w' K:=fun hK=>Yg _ p2 (by rw[hcl];exact hK)
    (repeat (apply Z9;(· intros;(repeat (rename_i hx;subst hx));(repeat' (first | (with_reducible exact L7 rfl) | (with_reducible exact R9 (Stp.bel (by (repeat (first | exact Stp.refl (by (first | assumption | exact Stp.sat (by assumption) | exact Hst.sat (by assumption))) | assumption | refine Stp.trans ?_ (by first | assumption | exact Hst.stp (by assumption)))))) rfl) | (with_reducible intro _) | (simp only[↓M2,M2,Mb,reduceIte]) | (with_reducible refine hrc ?_) | (with_reducible show Q2 _ _ _ _ _;first | refine X7 aS aL aR ?_ | refine Y4 aS aL aR ?_ | refine ld aS aL aR ?_) | (with_reducible show indexAddr _ _ _ _ _ _;refine Y1 aL au ?_) | (with_reducible show X2 _ _ _ _ _ _ _ _;refine Q8 aL ?_) | (with_reducible show B7 _ _ _ _ _ _;refine J3 aR ?_) | (with_reducible show pick _ _ _ _ _ _;refine M3 ?_) | (apply B8;intro hh;(try simp only[hh,reduceIte,↓M2,M2,Mb,reduceIte]))));done)))
    intros;(repeat (rename_i hx;subst hx))
    rename_i w3 hb3
    (repeat refine Hd.h ?_)
    refine Q3S hb3.sat hq2 g12 hn' fun w4 σ4 hk4=>?_
    exact J5 hmax hn' ⟨σ4,hk2.trans (hb3.stp.trans hk4),by rw[hnx,hacc,hP,hcl];rfl⟩
   | true=>
    refine U0 hs2 ?_
    have hrc: ∀{w':World} {K:Value→World→Prop},K (.bool true) w'→Q1 P F.d [S c.like[n]] w' K:=fun hK=>Yg _ p2 (by rw[hcl];exact hK)
    (repeat (apply Z9;(· intros;(repeat (rename_i hx;subst hx));(repeat' (first | (with_reducible exact L7 rfl) | (with_reducible exact R9 (Stp.bel (by (repeat (first | exact Stp.refl (by (first | assumption | exact Stp.sat (by assumption) | exact Hst.sat (by assumption))) | assumption | refine Stp.trans ?_ (by first | assumption | exact Hst.stp (by assumption)))))) rfl) | (with_reducible intro _) | (simp only[↓M2,M2,Mb,reduceIte]) | (with_reducible refine hrc ?_) | (with_reducible show Q2 _ _ _ _ _;first | refine X7 aS aL aR ?_ | refine Y4 aS aL aR ?_ | refine ld aS aL aR ?_) | (with_reducible show indexAddr _ _ _ _ _ _;refine Y1 aL au ?_) | (with_reducible show X2 _ _ _ _ _ _ _ _;refine Q8 aL ?_) | (with_reducible show B7 _ _ _ _ _ _;refine J3 aR ?_) | (with_reducible show pick _ _ _ _ _ _;refine M3 ?_) | (apply B8;intro hh;(try simp only[hh,reduceIte,↓M2,M2,Mb,reduceIte]))));done)))
    intros;(repeat (rename_i hx;subst hx))
    rename_i w3 hb3
    (repeat refine Hd.h ?_)
    refine Jh ?_
    (repeat refine Hd.h ?_)
    refine Q3S hb3.sat hq2 g12 hn' fun w4 σ4 hk4=>?_
    exact J5 hmax hn' ⟨σ4,hk2.trans (hb3.stp.trans hk4),by rw[hnx,hacc,hP,hcl];simp⟩
 ·have hn': ¬n<c.like.length:=by simpa using hc
  obtain rfl:n=c.like.length:=by omega
  exact h _ _ hk2
set_option maxHeartbeats 2000000 in
theorem Q3v {c:Cla} {lv fv mv:Value} {w1:World} {σ1:Q6} {q:Addr} {ok:Bool} (ah:X3 w1 σ1) (hq:Z6 σ1 q [S c.name,S c.super,lv, .bool c.iface, .bool c.abs, .bool c.fin,fv,mv]) {i:Nat} {N m0:Nat} {Z:Nat→Value→World→Prop} (g2:Sl 3 S5 σ1 fv c.fields) (hi:i<c.fields.length)
 (h: ∀w' σ',Stp w1 σ1 w' σ'→Fs N Z (Value.bool (ok&&(List.range i).all (Xr c i)), .int .i64 (IntKind.i64.wrap (i+1))) w'∧Ns N (Value.bool (ok&&(List.range i).all (Xr c i)), .int .i64 (IntKind.i64.wrap (i+1)))<m0):
 lp (α:=Value×Value) (Value.bool ok,(.int .i64 0)) w1 fun M b d_ w=>
  Q3 P .lss T.e (.tmp 102) (.tmp 103) b.2 (I i) w fun X w=>
  X1 X (
   dr w fun e H=>
   Q5 e (fun t=> ∀w:World,H w→Q0 b.1 true w (fieldAddr P T.b (.pointer (some q)) 6) (dk e t w)) fun t=>
   Q5 e (fun f=> ∀w:World,H w→Q0 b.1 true w (fun w J=>J b.2 w) (dk e f w)) fun f=>
   Q5 e (fun E=> ∀w:World,H w→Q0 b.1 true w (fieldAddr P T.b (.pointer (some q)) 6) (dk e E w)) fun E=>
   Q5 e (fun j=> ∀w:World,H w→Q0 b.1 true w (fun w J=>J (I i) w) (dk e j w)) fun j=>
   Q5 e (fun o=> ∀s:Value,∀w:World,H w→t s w→Q0 b.1 true w (Q2 P T.k s) (dk e o w)) fun o=>
   Q5 e (fun A=> ∀l:Value,∀B:Value,∀w:World,H w→o l w→f B w→Q0 b.1 true w (indexAddr P T.k l B) (dk e A w)) fun A=>
   Q5 e (fun D=> ∀p:Value,∀w:World,H w→A p w→Q0 b.1 true w (fieldAddr P T.o p 0) (dk e D w)) fun D=>
   Q5 e (fun L=> ∀C:Value,∀w:World,H w→D C w→Q0 b.1 true w (Q2 P T.c C) (dk e L w)) fun L=>
   Q5 e (fun y=> ∀n:Value,∀w:World,H w→E n w→Q0 b.1 true w (Q2 P T.k n) (dk e y w)) fun y=>
   Q5 e (fun u=> ∀m:Value,∀g:Value,∀w:World,H w→y m w→j g w→Q0 b.1 true w (indexAddr P T.k m g) (dk e u w)) fun u=>
   Q5 e (fun r=> ∀z:Value,∀w:World,H w→u z w→Q0 b.1 true w (fieldAddr P T.o z 0) (dk e r w)) fun r=>
   Q5 e (fun Q=> ∀v:Value,∀w:World,H w→r v w→Q0 b.1 true w (Q2 P T.c v) (dk e Q w)) fun Q=>
   ∀s:Value,∀B:Value,∀n:Value,∀g:Value,∀l:Value,∀p:Value,∀C:Value,∀U:Value,∀m:Value,∀z:Value,∀v:Value,∀R:Value,∀w:World,H w→t s w→f B w→E n w→j g w→o l w→A p w→D C w→L U w→y m w→u z w→r v w→Q R w→
   Q0 b.1 true w (Q3 P .neq T.c (.tmp 114) (.tmp 120) U R) fun aa w=>
   pick P b.1 aa (.bool false) w fun ac w=>
   Q3 P .add T.e (.tmp 105) (.const (.int .i64 1)) b.2 (.int .i64 1) w fun Y w=>
   M (ac,Y) w) (
   Q3 P .add T.e (.tmp 76) (.const (.int .i64 1)) (I i) (.int .i64 1) w fun W w=>
   (Fs N Z (b.1,W) w∧Ns N (b.1,W)<m0)):=by
 have ar:=g2.max
 refine E2 (a:=Value.bool ok) i (fun k x w'=> ∃σ',Stp w1 σ1 w' σ'∧x=Value.bool (ok&&(List.range k).all (Xr c i))) ⟨σ1,Stp.refl ah,by simp⟩ fun k x w2 d hk ae=>?_
 obtain ⟨σ2,O,rfl⟩:=ae
 have az:=hq.up O
 have ab:=g2.up O
 have ai:=O.sat
 refine Y9 ?_
 refine Q7 (fun hc=>?_) (fun hc=>?_)
 ·have aj:k<i:=by simpa using hc
  have ad:k<c.fields.length:=by omega
  have V:(ok&&(List.range (k+1)).all (Xr c i))=((ok&&(List.range k).all (Xr c i))&&Xr c i k):=by rw[Ly,Bool.and_assoc]
  have hQ:Xr c i k= !decide (c.fields[k].name=c.fields[i].name):=by unfold Xr Bs;rw[C3 ad,C3 hi]
  rw[hQ] at V
  obtain ⟨p1,_⟩:=ab.elF ad
  obtain ⟨p2,_⟩:=ab.elF hi
  generalize (ok&&(List.range k).all (Xr c i))=am at V⊢
  clear h hQ hc
  cases am
  all_goals
   refine U0 ai ?_
   (repeat refine Z9 Qa ?_)
   (intros;(repeat (rename_i hx;subst hx));(try simp only[↓M2,M2,Mb,reduceIte]))
   rename_i w3 ak
   exact J5 (by omega) aj ⟨σ2,O.trans ak.stp,by rw[V];rfl⟩
 ·have al:k=i:=by
   have: ¬k<i:=by simpa using hc
   omega
  subst al
  (try simp only[↓M1,M1,Mb,reduceIte])
  exact h _ _ O
set_option maxHeartbeats 4000000 in
theorem X2c {c:Cla} {lv fv mv:Value} {w1:World} {σ1:Q6} {q:Addr} {ok:Bool} (ax:X3 w1 σ1) (hq:Z6 σ1 q [S c.name,S c.super,lv, .bool c.iface, .bool c.abs, .bool c.fin,fv,mv]) {J:Value→World→Prop} (g2:Sl 3 S5 σ1 fv c.fields)
 (h: ∀w' σ',Stp w1 σ1 w' σ'→J (.bool (ok&&(List.range c.fields.length).all fun i=>Eb c i&&(List.range i).all (Xr c i))) w'):
 lp (
  α:=Value×Value) (Value.bool ok,(.int .i64 0)) w1 fun ad g d_ w=>
  fieldAddr P T.b (.pointer (some q)) 6 w fun az w=>
  Q2 P T.k az w fun a5 w=>
  X2 P .len [T.k] T.e [false] [a5] w fun bh w=>
  Q3 P .lss T.e (.tmp 71) (.tmp 74) g.2 bh w fun bg w=>
  X1 bg (
   Q0 g.1 true w (fieldAddr P T.b (.pointer (some q)) 6) fun a6 w=>
   Q0 g.1 true w (Q2 P T.k a6) fun bj w=>
   Q0 g.1 true w (fun w J=>J g.2 w) fun bd w=>
   Q0 g.1 true w (indexAddr P T.k bj bd) fun bb w=>
   Q0 g.1 true w (fieldAddr P T.o bb 0) fun ar w=>
   Q0 g.1 true w (Q2 P T.c ar) fun ay w=>
   Q0 g.1 true w (Q1 P F.u [ay]) fun a1 w=>
   pick P g.1 a1 (.bool false) w fun m w=>
   Q0 m true w (fieldAddr P T.b (.pointer (some q)) 6) fun ba w=>
   Q0 m true w (Q2 P T.k ba) fun a4 w=>
   Q0 m true w (fun w J=>J g.2 w) fun bc w=>
   Q0 m true w (indexAddr P T.k a4 bc) fun a0 w=>
   Q0 m true w (fieldAddr P T.o a0 1) fun be w=>
   Q0 m true w (Q2 P T.c be) fun a9 w=>
   Q0 m true w (Q1 P F.e [a9]) fun bi w=>
   pick P m bi (.bool false) w fun ae w=>
   Q0 ae true w (fieldAddr P T.b (.pointer (some q)) 3) fun a8 w=>
   Q0 ae true w (Q2 P T.u a8) fun a2 w=>
   Q0 ae true w (J8 P .not a2) fun al w=>
   pick P ae al (.bool false) w fun ap w=>
   lp (α:=Value×Value) (ap,(.int .i64 0)) w fun Z f d_ w=>
    Q3 P .lss T.e (.tmp 102) (.tmp 103) f.2 g.2 w fun aj w=>
    X1 aj (
     dr w fun k Y=>
     Q5 k (fun H=> ∀w:World,Y w→Q0 f.1 true w (fieldAddr P T.b (.pointer (some q)) 6) (dk k H w)) fun H=>
     Q5 k (fun t=> ∀w:World,Y w→Q0 f.1 true w (fun w J=>J f.2 w) (dk k t w)) fun t=>
     Q5 k (fun X=> ∀w:World,Y w→Q0 f.1 true w (fieldAddr P T.b (.pointer (some q)) 6) (dk k X w)) fun X=>
     Q5 k (fun v=> ∀w:World,Y w→Q0 f.1 true w (fun w J=>J g.2 w) (dk k v w)) fun v=>
     Q5 k (fun B=> ∀E:Value,∀w:World,Y w→H E w→Q0 f.1 true w (Q2 P T.k E) (dk k B w)) fun B=>
     Q5 k (fun R=> ∀y:Value,∀U:Value,∀w:World,Y w→B y w→t U w→Q0 f.1 true w (indexAddr P T.k y U) (dk k R w)) fun R=>
     Q5 k (fun W=> ∀C:Value,∀w:World,Y w→R C w→Q0 f.1 true w (fieldAddr P T.o C 0) (dk k W w)) fun W=>
     Q5 k (fun aa=> ∀V:Value,∀w:World,Y w→W V w→Q0 f.1 true w (Q2 P T.c V) (dk k aa w)) fun aa=>
     Q5 k (fun N=> ∀A:Value,∀w:World,Y w→X A w→Q0 f.1 true w (Q2 P T.k A) (dk k N w)) fun N=>
     Q5 k (fun L=> ∀z:Value,∀u:Value,∀w:World,Y w→N z w→v u w→Q0 f.1 true w (indexAddr P T.k z u) (dk k L w)) fun L=>
     Q5 k (fun D=> ∀Q:Value,∀w:World,Y w→L Q w→Q0 f.1 true w (fieldAddr P T.o Q 0) (dk k D w)) fun D=>
     Q5 k (fun ac=> ∀M:Value,∀w:World,Y w→D M w→Q0 f.1 true w (Q2 P T.c M) (dk k ac w)) fun ac=>
     ∀E:Value,∀U:Value,∀A:Value,∀u:Value,∀y:Value,∀C:Value,∀V:Value,∀ag:Value,∀z:Value,∀Q:Value,∀M:Value,∀af:Value,∀w:World,Y w→H E w→t U w→X A w→v u w→B y w→R C w→W V w→aa ag w→N z w→L Q w→D M w→ac af w→
     Q0 f.1 true w (Q3 P .neq T.c (.tmp 114) (.tmp 120) ag af) fun am w=>
     pick P f.1 am (.bool false) w fun an w=>
     Q3 P .add T.e (.tmp 105) (.const (.int .i64 1)) f.2 (.int .i64 1) w fun ak w=>
     Z (an,ak) w) (
     Q3 P .add T.e (.tmp 76) (.const (.int .i64 1)) g.2 (.int .i64 1) w fun av w=>
     ad (f.1,av) w)) (
   J g.1 w):=by
 have O:=g2.max
 refine E2 (a:=Value.bool ok) c.fields.length (fun n x w'=> ∃σ',Stp w1 σ1 w' σ'∧x=Value.bool (ok&&(List.range n).all fun i=>Eb c i&&(List.range i).all (Xr c i))) ⟨σ1,Stp.refl ax,by simp⟩ fun n x w2 d bq ao=>?_
 obtain ⟨σ2,p,rfl⟩:=ao
 have o:=hq.up p
 have r:=g2.up p
 have l:=p.sat
 (repeat refine Hd.h ?_)
 refine ld l o rfl ?_
 refine Q8 r ?_
 refine Y9 ?_
 refine Q7 (fun hc=>?_) (fun hc=>?_)
 ·have j:n<c.fields.length:=by simpa using hc
  have ab:(ok&&(List.range (n+1)).all fun i=>Eb c i&&(List.range i).all (Xr c i))=((ok&&(List.range n).all fun i=>Eb c i&&(List.range i).all (Xr c i))&&(Eb c n&&(List.range n).all (Xr c n))):=by rw[Ly,Bool.and_assoc]
  have hP:Eb c n=(D7 c.fields[n].name&&right c.fields[n].kind&& !c.iface):=by unfold Eb Bs;rw[C3 j]
  obtain ⟨p1,r1⟩:=r.elF j
  have b1:c.fields[n].name.length≤140737488355328:=by have:=r1.2.1;simp only[U2] at this;omega
  have b2:c.fields[n].kind.length≤140737488355328:=by have:=r1.2.2;simp only[U2] at this;omega
  generalize (ok&&(List.range n).all fun i=>Eb c i&&(List.range i).all (Xr c i))=ai at ab⊢
  clear h hc
  have step: ∀b,b=(ai&&Eb c n)→(ai&&(Eb c n&&(List.range n).all (Xr c n)))=(b&&(List.range n).all (Xr c n)):=fun b e=>by rw[e,Bool.and_assoc]
  cases ai with
  | false=>
   (repeat refine Hd.h ?_)
   refine Q3v l o r j fun w4 σ4 s=>?_
   exact J5 O j ⟨σ4,p.trans s,by rw[ab];rfl⟩
  | true=>
   (repeat refine Hd.h ?_)
   refine ld l o rfl ?_
   (repeat refine Hd.h ?_)
   refine Y1 r j ?_
   (repeat refine Hd.h ?_)
   refine ld l p1 rfl ?_
   (repeat refine Hd.h ?_)
   refine Tm _ b1 ?_
   cases d1:D7 c.fields[n].name with
   | false=>
    (repeat refine Hd.h ?_)
    refine Q3v l o r j fun w4 σ4 s=>?_
    exact J5 O j ⟨σ4,p.trans s,by rw[ab,step false (by rw[hP,d1];rfl)]⟩
   | true=>
    (repeat refine Hd.h ?_)
    refine ld l o rfl ?_
    (repeat refine Hd.h ?_)
    refine Y1 r j ?_
    (repeat refine Hd.h ?_)
    refine ld l p1 rfl ?_
    (repeat refine Hd.h ?_)
    refine Us _ b2 ?_
    cases d2:right c.fields[n].kind with
    | false=>
     (repeat refine Hd.h ?_)
     refine Q3v l o r j fun w4 σ4 s=>?_
     exact J5 O j ⟨σ4,p.trans s,by rw[ab,step false (by rw[hP,d1,d2];rfl)]⟩
    | true=>
     (repeat refine Hd.h ?_)
     refine ld l o rfl ?_
     (repeat refine Hd.h ?_)
     refine Q3v l o r j fun w4 σ4 s=>?_
     exact J5 O j ⟨σ4,p.trans s,by rw[ab,step (!c.iface) (by rw[hP,d1,d2];rfl)]⟩
 ·have j: ¬n<c.fields.length:=by simpa using hc
  obtain rfl:n=c.fields.length:=by omega
  exact h _ _ p
set_option maxHeartbeats 2000000 in
theorem Sd {c:Cla} {lv fv mv:Value} {w1:World} {σ1:Q6} {q:Addr} {ok:Bool} (Y:X3 w1 σ1) (hq:Z6 σ1 q [S c.name,S c.super,lv, .bool c.iface, .bool c.abs, .bool c.fin,fv,mv]) {i:Nat} {q9:Addr} {pv cv hv:Value} {N m0:Nat} {Q:Nat→Value→World→Prop} (g3:Sl 7 E7 σ1 mv c.methods) (hi:i<c.methods.length) (aa:Z6 σ1 q9 [S c.methods[i].name,pv,S c.methods[i].result, .bool c.methods[i].abs,I c.methods[i].locals,cv,hv])
 (h: ∀w' X,Stp w1 σ1 w' X→Fs N Q (Value.bool (ok&&(List.range i).all (Xz c i)), .int .i64 (IntKind.i64.wrap (i+1))) w'∧Ns N (Value.bool (ok&&(List.range i).all (Xz c i)), .int .i64 (IntKind.i64.wrap (i+1)))<m0):
 lp (α:=Value×Value) (Value.bool ok,(.int .i64 0)) w1 fun A b d_ w=>
  Q3 P .lss T.e (.tmp 158) (.tmp 159) b.2 (I i) w fun O w=>
  X1 O (
   dr w fun e B=>
   Q5 e (fun o=> ∀w:World,B w→Q0 b.1 true w (fieldAddr P T.b (.pointer (some q)) 7) (dk e o w)) fun o=>
   Q5 e (fun p=> ∀w:World,B w→Q0 b.1 true w (fun w J=>J b.2 w) (dk e p w)) fun p=>
   Q5 e (fun n=> ∀w:World,B w→Q0 b.1 true w (fieldAddr P T.d (.pointer (some q9)) 0) (dk e n w)) fun n=>
   Q5 e (fun f=> ∀s:Value,∀w:World,B w→o s w→Q0 b.1 true w (Q2 P T.j s) (dk e f w)) fun f=>
   Q5 e (fun g=> ∀j:Value,∀t:Value,∀w:World,B w→f j w→p t w→Q0 b.1 true w (indexAddr P T.j j t) (dk e g w)) fun g=>
   Q5 e (fun l=> ∀r:Value,∀w:World,B w→g r w→Q0 b.1 true w (fieldAddr P T.d r 0) (dk e l w)) fun l=>
   Q5 e (fun y=> ∀m:Value,∀w:World,B w→l m w→Q0 b.1 true w (Q2 P T.c m) (dk e y w)) fun y=>
   Q5 e (fun z=> ∀u:Value,∀w:World,B w→n u w→Q0 b.1 true w (Q2 P T.c u) (dk e z w)) fun z=>
   ∀s:Value,∀t:Value,∀u:Value,∀j:Value,∀r:Value,∀m:Value,∀C:Value,∀D:Value,∀w:World,B w→o s w→p t w→n u w→f j w→g r w→l m w→y C w→z D w→
   Q0 b.1 true w (Q3 P .neq T.c (.tmp 170) (.tmp 172) C D) fun M w=>
   pick P b.1 M (.bool false) w fun V w=>
   Q3 P .add T.e (.tmp 161) (.const (.int .i64 1)) b.2 (.int .i64 1) w fun L w=>
   A (V,L) w) (
   Q3 P .add T.e (.tmp 128) (.const (.int .i64 1)) (I i) (.int .i64 1) w fun E w=>
   (Fs N Q (b.1,E) w∧Ns N (b.1,E)<m0)):=by
 have ak:=g3.max
 refine E2 (a:=Value.bool ok) i (fun k x w'=> ∃X,Stp w1 σ1 w' X∧x=Value.bool (ok&&(List.range k).all (Xz c i))) ⟨σ1,Stp.refl Y,by simp⟩ fun k x w2 d hk U=>?_
 obtain ⟨σ2,v,rfl⟩:=U
 have ay:=hq.up v
 have al:=aa.up v
 have ae:=g3.up v
 have Z:=v.sat
 refine Y9 ?_
 refine Q7 (fun W=>?_) (fun W=>?_)
 ·have ab:k<i:=by simpa using W
  have R:k<c.methods.length:=by omega
  have H:(ok&&(List.range (k+1)).all (Xz c i))=((ok&&(List.range k).all (Xz c i))&&Xz c i k):=by rw[Ly,Bool.and_assoc]
  have hQ:Xz c i k= !decide (c.methods[k].name=c.methods[i].name):=by unfold Xz Rs;rw[C3 R,C3 hi]
  rw[hQ] at H
  obtain ⟨aw,av,am,p1,_⟩:=ae.elM R
  generalize (ok&&(List.range k).all (Xz c i))=af at H⊢
  clear h hQ W
  cases af
  all_goals
   refine U0 Z ?_
   (repeat refine Z9 Qa ?_)
   (intros;(repeat (rename_i hx;subst hx));(try simp only[↓M2,M2,Mb,reduceIte]))
   rename_i w3 ac
   exact J5 (by omega) ab ⟨σ2,v.trans ac.stp,by rw[H];rfl⟩
 ·have ad:k=i:=by
   have: ¬k<i:=by simpa using W
   omega
  subst ad
  (try simp only[↓M1,M1,Mb,reduceIte])
  exact h _ _ v
set_option maxHeartbeats 4000000 in
theorem X2K {c:Cla} {lv fv mv:Value} {w1:World} {σ1:Q6} {q:Addr} {ok:Bool} (bu:X3 w1 σ1) (hq:Z6 σ1 q [S c.name,S c.super,lv, .bool c.iface, .bool c.abs, .bool c.fin,fv,mv]) {J:Value→World→Prop} (g3:Sl 7 E7 σ1 mv c.methods)
 (h: ∀w' σ',Stp w1 σ1 w' σ'→J (.bool (ok&&(List.range c.methods.length).all fun i=>Mv c i&&(List.range i).all (Xz c i))) w'):
 lp (α:=Value×Value) (Value.bool ok,(.int .i64 0)) w1 fun Z v d_ w=>
  fieldAddr P T.b (.pointer (some q)) 7 w fun a2 w=>
  Q2 P T.j a2 w fun a3 w=>
  X2 P .len [T.j] T.e [false] [a3] w fun a7 w=>
  Q3 P .lss T.e (.tmp 123) (.tmp 126) v.2 a7 w fun a5 w=>
  X1 a5 (
   fieldAddr P T.b (.pointer (some q)) 7 w fun bm w=>
   Q2 P T.j bm w fun aw w=>
   indexAddr P T.j aw v.2 w fun a9 w=>
   Q2 P T.d a9 w fun bk w=>
   V6 P T.d w fun t9 w=>
   X9 P T.d t9 bk w fun _u w=>
   Q0 v.1 true w (Q2 P T.d t9) fun bl w=>
   Q0 v.1 true w (Q1 P F.a5 [bl]) fun ba w=>
   pick P v.1 ba (.bool false) w fun r w=>
   Q0 r true w (fieldAddr P T.d t9 3) fun bg w=>
   Q0 r true w (Q2 P T.u bg) fun a6 w=>
   Q0 r true w (J8 P .not a6) fun bh w=>
   Q0 r true w (fun w J=>J bh w) fun ab w=>
   Q0 ab false w (fieldAddr P T.b (.pointer (some q)) 4) fun ay w=>
   Q0 ab false w (Q2 P T.u ay) fun bd w=>
   Q0 r true w (pick P ab (.bool true) bd) fun be w=>
   pick P r be (.bool false) w fun s w=>
   Q0 s true w (fieldAddr P T.b (.pointer (some q)) 3) fun bi w=>
   Q0 s true w (Q2 P T.u bi) fun bo w=>
   Q0 s true w (J8 P .not bo) fun ar w=>
   Q0 s true w (fun w J=>J ar w) fun Y w=>
   Q0 Y false w (fieldAddr P T.d t9 3) fun bc w=>
   Q0 Y false w (Q2 P T.u bc) fun a8 w=>
   Q0 s true w (pick P Y (.bool true) a8) fun a0 w=>
   pick P s a0 (.bool false) w fun aq w=>
   lp (α:=Value×Value) (aq,(.int .i64 0)) w fun W k d_ w=>
    Q3 P .lss T.e (.tmp 158) (.tmp 159) k.2 v.2 w fun ax w=>
    X1 ax (
     dr w fun y Br=>
     Q5 y (fun B=> ∀w:World,Br w→Q0 k.1 true w (fieldAddr P T.b (.pointer (some q)) 7) (dk y B w)) fun B=>
     Q5 y (fun C=> ∀w:World,Br w→Q0 k.1 true w (fun w J=>J k.2 w) (dk y C w)) fun C=>
     Q5 y (fun M=> ∀w:World,Br w→Q0 k.1 true w (fieldAddr P T.d t9 0) (dk y M w)) fun M=>
     Q5 y (fun E=> ∀N:Value,∀w:World,Br w→B N w→Q0 k.1 true w (Q2 P T.j N) (dk y E w)) fun E=>
     Q5 y (fun H=> ∀z:Value,∀O:Value,∀w:World,Br w→E z w→C O w→Q0 k.1 true w (indexAddr P T.j z O) (dk y H w)) fun H=>
     Q5 y (fun L=> ∀D:Value,∀w:World,Br w→H D w→Q0 k.1 true w (fieldAddr P T.d D 0) (dk y L w)) fun L=>
     Q5 y (fun aa=> ∀A:Value,∀w:World,Br w→L A w→Q0 k.1 true w (Q2 P T.c A) (dk y aa w)) fun aa=>
     Q5 y (fun ac=> ∀Q:Value,∀w:World,Br w→M Q w→Q0 k.1 true w (Q2 P T.c Q) (dk y ac w)) fun ac=>
     ∀N:Value,∀O:Value,∀Q:Value,∀z:Value,∀D:Value,∀A:Value,∀aj:Value,∀ai:Value,∀w:World,Br w→B N w→C O w→M Q w→E z w→H D w→L A w→aa aj w→ac ai w→
     Q0 k.1 true w (Q3 P .neq T.c (.tmp 170) (.tmp 172) aj ai) fun a4 w=>
     pick P k.1 a4 (.bool false) w fun a1 w=>
     Q3 P .add T.e (.tmp 161) (.const (.int .i64 1)) k.2 (.int .i64 1) w fun av w=>
     W (a1,av) w) (
     Q3 P .add T.e (.tmp 128) (.const (.int .i64 1)) v.2 (.int .i64 1) w fun az w=>
     Z (k.1,az) w)) (
   J v.1 w):=by
 have o:=g3.max
 refine E2 (a:=Value.bool ok) c.methods.length (fun n x w'=> ∃σ',Stp w1 σ1 w' σ'∧x=Value.bool (ok&&(List.range n).all fun i=>Mv c i&&(List.range i).all (Xz c i))) ⟨σ1,Stp.refl bu,by simp⟩ fun n x w2 d b3 bj=>?_
 obtain ⟨σ2,ad,rfl⟩:=bj
 have am:=hq.up ad
 have ag:=g3.up ad
 have ae:=ad.sat
 (repeat refine Hd.h ?_)
 refine ld ae am rfl ?_
 refine Q8 ag ?_
 refine Y9 ?_
 refine Q7 (fun hc=>?_) (fun hc=>?_)
 ·have f:n<c.methods.length:=by simpa using hc
  have u:(ok&&(List.range (n+1)).all fun i=>Mv c i&&(List.range i).all (Xz c i))=((ok&&(List.range n).all fun i=>Mv c i&&(List.range i).all (Xz c i))&&(Mv c n&&(List.range n).all (Xz c n))):=by rw[Ly,Bool.and_assoc]
  have hP:Mv c n=(I9 c.methods[n]&&(!c.methods[n].abs||c.abs)&&(!c.iface||c.methods[n].abs)):=by unfold Mv Rs;rw[C3 f]
  obtain ⟨pv,cv,hv,p1,r1⟩:=ag.elM f
  generalize (ok&&(List.range n).all fun i=>Mv c i&&(List.range i).all (Xz c i))=an at u⊢
  clear h hc
  have step: ∀b,b=(an&&Mv c n)→(an&&(Mv c n&&(List.range n).all (Xz c n)))=(b&&(List.range n).all (Xz c n)):=fun b e=>by rw[e,Bool.and_assoc]
  (repeat refine Hd.h ?_)
  refine ld ae am rfl ?_
  refine Y1 ag f ?_
  refine Y4 ae p1 rfl ?_
  refine Y8 ae (by rfl) rfl (Rep.one r1) fun q9 w3 σ3 X ao=>?_
  have ak:=X.sat
  have bp:=am.up X
  have bn:=ag.up X
  have r3:=RMe_lift r1 ⟨X.le⟩
  have ah:=ad.trans X
  cases an with
  | false=>
   (repeat refine Hd.h ?_)
   refine Sd ak bp bn f ao fun w4 R l=>?_
   exact J5 o f ⟨R,ah.trans l,by rw[u];rfl⟩
  | true=>
   (repeat refine Hd.h ?_)
   refine Y4 ak ao rfl ?_
   (repeat refine Hd.h ?_)
   refine Q91 ak r3 fun w5 σ5 V=>?_
   have m:=V.sat
   have t:=bp.up V
   have g:=ao.up V
   have U:=bn.up V
   have p:=ah.trans V
   cases d1:I9 c.methods[n] with
   | false=>
    (repeat refine Hd.h ?_)
    refine Sd m t U f g fun w4 R l=>?_
    exact J5 o f ⟨R,p.trans l,by rw[u,step false (by rw[hP,d1];rfl)]⟩
   | true=>
    (repeat refine Hd.h ?_)
    refine ld m g rfl ?_
    (repeat refine Hd.h ?_)
    have j: ∀b1:Bool,b1=(!c.methods[n].abs||c.abs)→Mv c n=(b1&&(!c.iface||c.methods[n].abs)):=fun b1 e=>by rw[hP,d1,e];rfl
    cases d2:c.methods[n].abs with
    | false=>
     rw[d2] at j g
     simp only[Bool.not_true,Bool.not_false]
     (repeat refine Hd.h ?_)
     refine ld m t rfl ?_
     (repeat refine Hd.h ?_)
     cases d4:c.iface with
     | false=>
      simp only[Bool.not_true,Bool.not_false]
      (repeat refine Hd.h ?_)
      refine Sd m t U f (by rw[d2];exact g) fun w4 R l=>?_
      exact J5 o f ⟨R,p.trans l,by rw[u,step true (by rw[j true rfl,d4];rfl)]⟩
     | true=>
      simp only[Bool.not_true,Bool.not_false]
      (repeat refine Hd.h ?_)
      refine ld m g rfl ?_
      (repeat refine Hd.h ?_)
      refine Sd m t U f (by rw[d2];exact g) fun w4 R l=>?_
      exact J5 o f ⟨R,p.trans l,by rw[u,step false (by rw[j true rfl,d4];rfl)]⟩
    | true=>
     rw[d2] at j g
     simp only[Bool.not_true,Bool.not_false]
     (repeat refine Hd.h ?_)
     refine ld m t rfl ?_
     cases d3:c.abs with
     | false=>
      (repeat refine Hd.h ?_)
      refine Sd m t U f (by rw[d2];exact g) fun w4 R l=>?_
      exact J5 o f ⟨R,p.trans l,by rw[u,step false (by rw[j false (by rw[d3];rfl)];rfl)]⟩
     | true=>
      (repeat refine Hd.h ?_)
      refine ld m t rfl ?_
      (repeat refine Hd.h ?_)
      cases d4:c.iface with
      | false=>
       simp only[Bool.not_true,Bool.not_false]
       (repeat refine Hd.h ?_)
       refine Sd m t U f (by rw[d2];exact g) fun w4 R l=>?_
       exact J5 o f ⟨R,p.trans l,by rw[u,step true (by rw[j true (by rw[d3];rfl),d4];rfl)]⟩
      | true=>
       simp only[Bool.not_true,Bool.not_false]
       (repeat refine Hd.h ?_)
       refine ld m g rfl ?_
       (repeat refine Hd.h ?_)
       refine Sd m t U f (by rw[d2];exact g) fun w4 R l=>?_
       exact J5 o f ⟨R,p.trans l,by rw[u,step true (by rw[j true (by rw[d3];rfl),d4];rfl)]⟩
 ·have f: ¬n<c.methods.length:=by simpa using hc
  obtain rfl:n=c.methods.length:=by omega
  exact h _ _ ad
theorem X2M {c:Cla} {L H mv:Value} {w1:World} {σ1:Q6} {q:Addr} {ok:Bool} (d:X3 w1 σ1) (g:Z6 σ1 q [S c.name,S c.super,L, .bool c.iface, .bool c.abs, .bool c.fin,H,mv]) (h:K (.bool (ok&&Q8W c)) w1):
 Q0 (Value.bool ok) true w1 (fieldAddr P T.b (.pointer (some q)) 3) fun s w=>
  Q0 (Value.bool ok) true w (Q2 P T.u s) fun t w=>
  Q0 (Value.bool ok) true w (J8 P .not t) fun k w=>
  Q0 (Value.bool ok) true w (fun w J=>J k w) fun b w=>
  Q0 b false w (fieldAddr P T.b (.pointer (some q)) 4) fun m w=>
  Q0 b false w (Q2 P T.u m) fun p w=>
  Q0 b false w (fun w J=>J p w) fun e w=>
  Q0 e true w (fieldAddr P T.b (.pointer (some q)) 1) fun v w=>
  Q0 e true w (Q2 P T.c v) fun y w=>
  Q0 e true w (Q3 P .eql T.c (.tmp 185) (.const (.string ⟨#[79,98,106,101,99,116]⟩)) y (.string ⟨#[79,98,106,101,99,116]⟩)) fun A w=>
  Q0 b false w (pick P e A (.bool false)) fun n w=>
  Q0 (Value.bool ok) true w (pick P b (.bool true) n) fun r w=>
  pick P (Value.bool ok) r (.bool false) w fun a w=>
  Q0 a true w (fieldAddr P T.b (.pointer (some q)) 4) fun u w=>
  Q0 a true w (Q2 P T.u u) fun j w=>
  Q0 a true w (fun w J=>J j w) fun f w=>
  Q0 f true w (fieldAddr P T.b (.pointer (some q)) 5) fun o w=>
  Q0 f true w (Q2 P T.u o) fun C w=>
  Q0 a true w (pick P f C (.bool false)) fun B w=>
  Q0 a true w (J8 P .not B) fun l w=>
  pick P a l (.bool false) w fun z w=>
  K z w:=by
 unfold Q8W at h
 have M:decide (c.super=U1)=decide (c.super=[79,98,106,101,99,116]):=rfl
 rw[M] at h
 cases ok with
 | false=>(try simp only[↓M1,M1,Mb,reduceIte]);simpa using h
 | true=>
  (try simp only[↓M1,M1,Mb,reduceIte])
  refine ld d g rfl ?_
  (try simp only[↓M1,M1,Mb,reduceIte])
  cases E:c.iface with
  | false=>
   rw[E] at h
   (try simp only[↓M1,M1,Mb,reduceIte])
   refine ld d g rfl ?_
   cases i:c.abs with
   | false=>rw[i] at h;(try simp only[↓M1,M1,Mb,reduceIte]);simpa using h
   | true=>
    rw[i] at h
    (try simp only[↓M1,M1,Mb,reduceIte])
    refine ld d g rfl ?_
    (try simp only[↓M1,M1,Mb,reduceIte])
    simpa using h
  | true=>
   rw[E] at h
   (try simp only[↓M1,M1,Mb,reduceIte])
   refine ld d g rfl ?_
   cases i:c.abs with
   | false=>rw[i] at h;(try simp only[↓M1,M1,Mb,reduceIte]);simpa using h
   | true=>
    rw[i] at h
    (try simp only[↓M1,M1,Mb,reduceIte])
    refine ld d g rfl ?_
    (try simp only[↓M1,M1,Mb,reduceIte])
    cases D:decide (c.super=[79,98,106,101,99,116]) with
    | false=>rw[D] at h;(try simp only[↓M1,M1,Mb,reduceIte]);simpa using h
    | true=>
     rw[D] at h
     (try simp only[↓M1,M1,Mb,reduceIte])
     refine ld d g rfl ?_
     simp only[i,↓M1,M1,Mb,reduceIte]
     refine ld d g rfl ?_
     (try simp only[↓M1,M1,Mb,reduceIte])
     simpa using h
end Go.Proofs.YtjdiakhipmggjaaGreatDoor

namespace Go.Proofs.YtjdiakhipmggjaaGreatDoor
open Go.Emb Go.RowKit Go.Kd Go.Hm
variable {w : World} {K : Value → World → Prop} {σ : Q6}
def Q5D (c:Cla):Bool:=((((M9 c.name&&M9 c.super&& !decide (c.name=c.super))&&(List.range c.like.length).all fun i=>Ni c i&&(List.range i).all (Qe c i))&&(List.range c.fields.length).all fun i=>Eb c i&&(List.range i).all (Xr c i))&&(List.range c.methods.length).all fun i=>Mv c i&&(List.range i).all (Xz c i))&&Q8W c
theorem X0J {α:Type} {f:α→X0}: ∀(xs a:List α),B0 f a xs=true↔(xs.map f).Nodup∧ ∀x∈xs,∀y∈a,f y≠f x:=by
 intro xs
 induction xs with
 | nil=>intro a;simp[B0]
 | cons x r h=>
  intro a
  simp only[B0,Bool.and_eq_true,h,Bool.not_eq_true',List.map_cons,List.nodup_cons]
  rw[←Bool.not_eq_true,List.any_eq_true]
  simp only[decide_eq_true_eq,not_exists,not_and,List.mem_append,List.mem_cons,List.not_mem_nil,or_false,List.mem_map]
  constructor
  ·rintro ⟨d,g,c⟩
   refine ⟨⟨fun y hy e=>c y hy x (.inr rfl) e.symm,g⟩,fun y hy z b=>?_⟩
   rcases hy with rfl | hy
   ·exact d z b
   ·exact c y hy z (.inl b)
  ·rintro ⟨⟨d,g⟩,c⟩
   refine ⟨fun y hy=>c x (.inl rfl) y hy,g,fun y hy z b=>?_⟩
   rcases b with b | rfl
   ·exact c y (.inr hy) z b
   ·exact fun e=>d y hy e.symm
theorem Q1c {α:Type} {f:α→X0} {xs:List α} {p:α→Bool} {P:Nat→Bool} {Q:Nat→Nat→Bool} (d: ∀i (h:i<xs.length),P i=p xs[i]) (c: ∀i (h:i<xs.length) k (o:k<xs.length),Q i k= !decide (f xs[k]=f xs[i])):
 ((List.range xs.length).all fun i=>P i&&(List.range i).all (Q i))=true↔(∀x∈xs,p x=true)∧B0 f [] xs=true:=by
 rw[X0J,List.all_eq_true]
 simp only[List.mem_range,Bool.and_eq_true,List.all_eq_true,List.not_mem_nil,false_implies,implies_true,and_true]
 rw[List.nodup_iff_pairwise_ne,List.pairwise_iff_getElem]
 simp only[List.length_map,List.getElem_map]
 constructor
 ·intro h
  refine ⟨fun x l=>?_,fun i j a e b=>?_⟩
  ·obtain ⟨i,a,rfl⟩:=List.getElem_of_mem l
   rw[←d i a];exact (h i a).1
  ·have:=(h j e).2 i b
   rw[c j e i a] at this
   simpa using this
 ·rintro ⟨g,n⟩ i a
  refine ⟨by rw[d i a];exact g _ (List.getElem_mem a),fun k m=>?_⟩
  rw[c i a k (by omega)]
  simpa using n k i (by omega) a m
theorem X18 (c:Cla):Q5D c=Mu c:=by
 have v:=Q1c (f:=id) (xs:=c.like) (p:=fun y=>M9 y&& !decide (y=c.name)) (P:=Ni c) (Q:=Qe c) (fun i h=>by unfold Ni;rw[C3 h]) (fun i h k n=>by unfold Qe;rw[C3 h,C3 n];rfl)
 have g:=Q1c (f:=Fld.name) (xs:=c.fields) (p:=fun f=>D7 f.name&&right f.kind&& !c.iface) (P:=Eb c) (Q:=Xr c) (fun i h=>by unfold Eb Bs;rw[C3 h]) (fun i h k n=>by unfold Xr Bs;rw[C3 h,C3 n])
 have d:=Q1c (f:=Hm.Met.name) (xs:=c.methods) (p:=fun m=>I9 m&&(!m.abs||c.abs)&&(!c.iface||m.abs)) (P:=Mv c) (Q:=Xz c) (fun i h=>by unfold Mv Rs;rw[C3 h]) (fun i h k n=>by unfold Xz Rs;rw[C3 h,C3 n])
 rw[Bool.eq_iff_iff]
 unfold Q5D Mu Q8W
 simp only[Bool.and_eq_true,v,g,d]
 simp only[Bool.and_eq_true,Bool.not_eq_true',Bool.or_eq_true,Bool.and_eq_false_iff,Bool.or_eq_false_iff,decide_eq_true_eq,decide_eq_false_iff_not,List.all_eq_true,List.mem_cons,List.any_eq_false,Ey,Bool.not_eq_false']
 constructor
 ·rintro ⟨⟨⟨⟨⟨⟨l,o⟩,q⟩,a,s⟩,h6,r⟩,j,u⟩,b,t⟩
  refine ⟨⟨⟨⟨⟨⟨⟨⟨?_,?_⟩,s⟩,?_⟩,t,?_⟩,r⟩,u⟩,?_⟩,fun m d=>(j m d).1.1⟩
  ·rintro x (rfl | rfl | hx)
   ·exact l
   ·exact o
   ·exact (a x hx).1
  ·rintro x (rfl | hx)
   ·exact q
   ·exact fun e=>(a x hx).2 e.symm
  ·cases A:c.iface with
   | false=>exact .inl rfl
   | true=>
    rw[A] at b h6 j
    have b:=b.resolve_left (by decide)
    refine .inr ⟨⟨b,?_⟩,fun m d e=>?_⟩
    ·rw[List.eq_nil_iff_forall_not_mem]
     intro f g
     exact absurd (h6 f g).2 (by decide)
    ·have:=(j m d).2.resolve_left (by decide)
     rw[this] at e;cases e
  ·cases z:c.abs with
   | true=>exact .inr rfl
   | false=>
    rw[z] at j
    refine .inl fun m d e=>?_
    have:=(j m d).1.2.resolve_right (by decide)
    rw[this] at e;cases e
  ·exact fun f g=>(h6 f g).1
 ·rintro ⟨⟨⟨⟨⟨⟨⟨⟨l,o⟩,q⟩,a⟩,s,h6⟩,r⟩,j⟩,u⟩,b⟩
  refine ⟨⟨⟨⟨⟨⟨l _ (.inl rfl),l _ (.inr (.inl rfl))⟩,o _ (.inl rfl)⟩,fun x hx=>⟨l x (.inr (.inr hx)),fun e=>o x (.inr hx) e.symm⟩,q⟩,fun f g=>⟨u f g,?_⟩,r⟩,fun m d=>⟨⟨b m d,?_⟩,?_⟩,j⟩,?_,s⟩
  ·rcases a with a | ⟨⟨_,a⟩,_⟩
   ·exact a
   ·rw[a] at g;simp at g
  ·rcases h6 with h6 | h6
   ·left;exact eq_false_of_ne_true (h6 m d)
   ·exact .inr h6
  ·rcases a with a | ⟨_,a⟩
   ·exact .inl a
   ·right
    cases hx:m.abs with
    | true=>rfl
    | false=>exact absurd hx (a m d)
  ·rcases a with a | ⟨⟨a,_⟩,_⟩
   ·exact .inl a
   ·exact .inr a
set_option maxHeartbeats 4000000 in
theorem Q9d {c:Cla} {cs:List Value} (hs:X3 w σ) (hc:U9 σ c cs) (h: ∀w' σ',Stp w σ w' σ'→K (.bool (Q5D c)) w'):Q1 P F.bq [.agg cs.toArray] w K:=Kl (by
 unfold Nu
 obtain ⟨lv,fv,mv,rfl,f1,f2,f3,f4,f5⟩:=hc
 have c9:c.name.length≤140737488355328:=by simp only[U2] at f4;omega
 have dc:c.super.length≤140737488355328:=by simp only[U2] at f5;omega
 refine Z1 hs fun q w1 σ1 b6 hq=>?_
 have g1:=f1.up b6
 have g2:=f2.up b6
 have g3:=f3.up b6
 have bq:=b6.sat
 have ci: ∀ok:Bool,ok=(M9 c.name&&M9 c.super&& !decide (c.name=c.super))→_:=fun ok e=>
  X15 (w1:=w1) (σ1:=σ1) (ok:=ok) bq hq (J:=fun v w=>lp (α:=Value×Value) (v,(.int .i64 0)) w fun b3 o d_ w=>
   fieldAddr P T.b (.pointer (some q)) 6 w fun cu w=>
   Q2 P T.k cu w fun c7 w=>
   X2 P .len [T.k] T.e [false] [c7] w fun dd w=>
   Q3 P .lss T.e (.tmp 71) (.tmp 74) o.2 dd w fun c5 w=>
   X1 c5 (
    Q0 o.1 true w (fieldAddr P T.b (.pointer (some q)) 6) fun cz w=>
    Q0 o.1 true w (Q2 P T.k cz) fun c6 w=>
    Q0 o.1 true w (fun w J=>J o.2 w) fun c3 w=>
    Q0 o.1 true w (indexAddr P T.k c6 c3) fun db w=>
    Q0 o.1 true w (fieldAddr P T.o db 0) fun cq w=>
    Q0 o.1 true w (Q2 P T.c cq) fun ct w=>
    Q0 o.1 true w (Q1 P F.u [ct]) fun cw w=>
    pick P o.1 cw (.bool false) w fun ac w=>
    Q0 ac true w (fieldAddr P T.b (.pointer (some q)) 6) fun da w=>
    Q0 ac true w (Q2 P T.k da) fun cy w=>
    Q0 ac true w (fun w J=>J o.2 w) fun c2 w=>
    Q0 ac true w (indexAddr P T.k cy c2) fun cv w=>
    Q0 ac true w (fieldAddr P T.o cv 1) fun c4 w=>
    Q0 ac true w (Q2 P T.c c4) fun c1 w=>
    Q0 ac true w (Q1 P F.e [c1]) fun de w=>
    pick P ac de (.bool false) w fun cd w=>
    Q0 cd true w (fieldAddr P T.b (.pointer (some q)) 3) fun c8 w=>
    Q0 cd true w (Q2 P T.u c8) fun cx w=>
    Q0 cd true w (J8 P .not cx) fun ck w=>
    pick P cd ck (.bool false) w fun cm w=>
    lp (α:=Value×Value) (cm,(.int .i64 0)) w fun bf l d_ w=>
     Q3 P .lss T.e (.tmp 102) (.tmp 103) l.2 o.2 w fun cn w=>
     X1 cn (
      dr w fun d n=>
      Q5 d (fun a5=> ∀w:World,n w→Q0 l.1 true w (fieldAddr P T.b (.pointer (some q)) 6) (dk d a5 w)) fun a5=>
      Q5 d (fun ao=> ∀w:World,n w→Q0 l.1 true w (fun w J=>J l.2 w) (dk d ao w)) fun ao=>
      Q5 d (fun ba=> ∀w:World,n w→Q0 l.1 true w (fieldAddr P T.b (.pointer (some q)) 6) (dk d ba w)) fun ba=>
      Q5 d (fun aq=> ∀w:World,n w→Q0 l.1 true w (fun w J=>J o.2 w) (dk d aq w)) fun aq=>
      Q5 d (fun a3=> ∀a6:Value,∀w:World,n w→a5 a6 w→Q0 l.1 true w (Q2 P T.k a6) (dk d a3 w)) fun a3=>
      Q5 d (fun az=> ∀a1:Value,∀a8:Value,∀w:World,n w→a3 a1 w→ao a8 w→Q0 l.1 true w (indexAddr P T.k a1 a8) (dk d az w)) fun az=>
      Q5 d (fun a0=> ∀a4:Value,∀w:World,n w→az a4 w→Q0 l.1 true w (fieldAddr P T.o a4 0) (dk d a0 w)) fun a0=>
      Q5 d (fun bg=> ∀a9:Value,∀w:World,n w→a0 a9 w→Q0 l.1 true w (Q2 P T.c a9) (dk d bg w)) fun bg=>
      Q5 d (fun ay=> ∀a2:Value,∀w:World,n w→ba a2 w→Q0 l.1 true w (Q2 P T.k a2) (dk d ay w)) fun ay=>
      Q5 d (fun aw=> ∀ar:Value,∀ap:Value,∀w:World,n w→ay ar w→aq ap w→Q0 l.1 true w (indexAddr P T.k ar ap) (dk d aw w)) fun aw=>
      Q5 d (fun av=> ∀a7:Value,∀w:World,n w→aw a7 w→Q0 l.1 true w (fieldAddr P T.o a7 0) (dk d av w)) fun av=>
      Q5 d (fun bk=> ∀ax:Value,∀w:World,n w→av ax w→Q0 l.1 true w (Q2 P T.c ax) (dk d bk w)) fun bk=>
      ∀a6:Value,∀a8:Value,∀a2:Value,∀ap:Value,∀a1:Value,∀a4:Value,∀a9:Value,∀cf:Value,∀ar:Value,∀a7:Value,∀ax:Value,∀ce:Value,∀w:World,n w→a5 a6 w→ao a8 w→ba a2 w→aq ap w→a3 a1 w→az a4 w→a0 a9 w→bg cf w→ay ar w→aw a7 w→av ax w→bk ce w→
      Q0 l.1 true w (Q3 P .neq T.c (.tmp 114) (.tmp 120) cf ce) fun cp w=>
      pick P l.1 cp (.bool false) w fun cl w=>
      Q3 P .add T.e (.tmp 105) (.const (.int .i64 1)) l.2 (.int .i64 1) w fun co w=>
      bf (cl,co) w) (
      Q3 P .add T.e (.tmp 76) (.const (.int .i64 1)) o.2 (.int .i64 1) w fun cr w=>
      b3 (l.1,cr) w)) (
    lp (α:=Value×Value) (o.1,(.int .i64 0)) w fun M f d_ w=>
     fieldAddr P T.b (.pointer (some q)) 7 w fun bo w=>
     Q2 P T.j bo w fun bp w=>
     X2 P .len [T.j] T.e [false] [bp] w fun bv w=>
     Q3 P .lss T.e (.tmp 123) (.tmp 126) f.2 bv w fun bs w=>
     X1 bs (
      fieldAddr P T.b (.pointer (some q)) 7 w fun cb w=>
      Q2 P T.j cb w fun be w=>
      indexAddr P T.j be f.2 w fun bx w=>
      Q2 P T.d bx w fun b9 w=>
      V6 P T.d w fun t9 w=>
      X9 P T.d t9 b9 w fun _u w=>
      Q0 f.1 true w (Q2 P T.d t9) fun ca w=>
      Q0 f.1 true w (Q1 P F.a5 [ca]) fun bz w=>
      pick P f.1 bz (.bool false) w fun j w=>
      Q0 j true w (fieldAddr P T.d t9 3) fun b5 w=>
      Q0 j true w (Q2 P T.u b5) fun bu w=>
      Q0 j true w (J8 P .not bu) fun b7 w=>
      Q0 j true w (fun w J=>J b7 w) fun O w=>
      Q0 O false w (fieldAddr P T.b (.pointer (some q)) 4) fun bi w=>
      Q0 O false w (Q2 P T.u bi) fun b1 w=>
      Q0 j true w (pick P O (.bool true) b1) fun b2 w=>
      pick P j b2 (.bool false) w fun k w=>
      Q0 k true w (fieldAddr P T.b (.pointer (some q)) 3) fun b8 w=>
      Q0 k true w (Q2 P T.u b8) fun cc w=>
      Q0 k true w (J8 P .not cc) fun bc w=>
      Q0 k true w (fun w J=>J bc w) fun L w=>
      Q0 L false w (fieldAddr P T.d t9 3) fun b0 w=>
      Q0 L false w (Q2 P T.u b0) fun bw w=>
      Q0 k true w (pick P L (.bool true) bw) fun bl w=>
      pick P k bl (.bool false) w fun bb w=>
      lp (α:=Value×Value) (bb,(.int .i64 0)) w fun H b d_ w=>
       Q3 P .lss T.e (.tmp 158) (.tmp 159) b.2 f.2 w fun bh w=>
       X1 bh (
        dr w fun d n=>
        Q5 d (fun s=> ∀w:World,n w→Q0 b.1 true w (fieldAddr P T.b (.pointer (some q)) 7) (dk d s w)) fun s=>
        Q5 d (fun t=> ∀w:World,n w→Q0 b.1 true w (fun w J=>J b.2 w) (dk d t w)) fun t=>
        Q5 d (fun B=> ∀w:World,n w→Q0 b.1 true w (fieldAddr P T.d t9 0) (dk d B w)) fun B=>
        Q5 d (fun y=> ∀C:Value,∀w:World,n w→s C w→Q0 b.1 true w (Q2 P T.j C) (dk d y w)) fun y=>
        Q5 d (fun z=> ∀p:Value,∀D:Value,∀w:World,n w→y p w→t D w→Q0 b.1 true w (indexAddr P T.j p D) (dk d z w)) fun z=>
        Q5 d (fun A=> ∀u:Value,∀w:World,n w→z u w→Q0 b.1 true w (fieldAddr P T.d u 0) (dk d A w)) fun A=>
        Q5 d (fun N=> ∀r:Value,∀w:World,n w→A r w→Q0 b.1 true w (Q2 P T.c r) (dk d N w)) fun N=>
        Q5 d (fun Q=> ∀E:Value,∀w:World,n w→B E w→Q0 b.1 true w (Q2 P T.c E) (dk d Q w)) fun Q=>
        ∀C:Value,∀D:Value,∀E:Value,∀p:Value,∀u:Value,∀r:Value,∀ad:Value,∀R:Value,∀w:World,n w→s C w→t D w→B E w→y p w→z u w→A r w→N ad w→Q R w→
        Q0 b.1 true w (Q3 P .neq T.c (.tmp 170) (.tmp 172) ad R) fun br w=>
        pick P b.1 br (.bool false) w fun bn w=>
        Q3 P .add T.e (.tmp 161) (.const (.int .i64 1)) b.2 (.int .i64 1) w fun bd w=>
        H (bn,bd) w) (
        Q3 P .add T.e (.tmp 128) (.const (.int .i64 1)) f.2 (.int .i64 1) w fun bj w=>
        M (b.1,bj) w)) (
      Q0 f.1 true w (fieldAddr P T.b (.pointer (some q)) 3) fun Y w=>
      Q0 f.1 true w (Q2 P T.u Y) fun ak w=>
      Q0 f.1 true w (J8 P .not ak) fun ag w=>
      Q0 f.1 true w (fun w J=>J ag w) fun g w=>
      Q0 g false w (fieldAddr P T.b (.pointer (some q)) 4) fun ah w=>
      Q0 g false w (Q2 P T.u ah) fun ae w=>
      Q0 g false w (fun w J=>J ae w) fun i w=>
      Q0 i true w (fieldAddr P T.b (.pointer (some q)) 1) fun al w=>
      Q0 i true w (Q2 P T.c al) fun am w=>
      Q0 i true w (Q3 P .eql T.c (.tmp 185) (.const (.string ⟨#[79,98,106,101,99,116]⟩)) am (.string ⟨#[79,98,106,101,99,116]⟩)) fun Z w=>
      Q0 g false w (pick P i Z (.bool false)) fun ai w=>
      Q0 f.1 true w (pick P g (.bool true) ai) fun aj w=>
      pick P f.1 aj (.bool false) w fun a w=>
      Q0 a true w (fieldAddr P T.b (.pointer (some q)) 4) fun af w=>
      Q0 a true w (Q2 P T.u af) fun ab w=>
      Q0 a true w (fun w J=>J ab w) fun m w=>
      Q0 m true w (fieldAddr P T.b (.pointer (some q)) 5) fun X w=>
      Q0 m true w (Q2 P T.u X) fun V w=>
      Q0 a true w (pick P m V (.bool false)) fun aa w=>
      Q0 a true w (J8 P .not aa) fun W w=>
      pick P a W (.bool false) w fun U w=>
      K U w))) f4 g1 fun w2 σ2 an=>
  X2c (J:=fun v w=>lp (α:=Value×Value) (v,(.int .i64 0)) w fun M f d_ w=>
   fieldAddr P T.b (.pointer (some q)) 7 w fun bo w=>
   Q2 P T.j bo w fun bp w=>
   X2 P .len [T.j] T.e [false] [bp] w fun bv w=>
   Q3 P .lss T.e (.tmp 123) (.tmp 126) f.2 bv w fun bs w=>
   X1 bs (
    fieldAddr P T.b (.pointer (some q)) 7 w fun cb w=>
    Q2 P T.j cb w fun be w=>
    indexAddr P T.j be f.2 w fun bx w=>
    Q2 P T.d bx w fun b9 w=>
    V6 P T.d w fun t9 w=>
    X9 P T.d t9 b9 w fun _u w=>
    Q0 f.1 true w (Q2 P T.d t9) fun ca w=>
    Q0 f.1 true w (Q1 P F.a5 [ca]) fun bz w=>
    pick P f.1 bz (.bool false) w fun j w=>
    Q0 j true w (fieldAddr P T.d t9 3) fun b5 w=>
    Q0 j true w (Q2 P T.u b5) fun bu w=>
    Q0 j true w (J8 P .not bu) fun b7 w=>
    Q0 j true w (fun w J=>J b7 w) fun O w=>
    Q0 O false w (fieldAddr P T.b (.pointer (some q)) 4) fun bi w=>
    Q0 O false w (Q2 P T.u bi) fun b1 w=>
    Q0 j true w (pick P O (.bool true) b1) fun b2 w=>
    pick P j b2 (.bool false) w fun k w=>
    Q0 k true w (fieldAddr P T.b (.pointer (some q)) 3) fun b8 w=>
    Q0 k true w (Q2 P T.u b8) fun cc w=>
    Q0 k true w (J8 P .not cc) fun bc w=>
    Q0 k true w (fun w J=>J bc w) fun L w=>
    Q0 L false w (fieldAddr P T.d t9 3) fun b0 w=>
    Q0 L false w (Q2 P T.u b0) fun bw w=>
    Q0 k true w (pick P L (.bool true) bw) fun bl w=>
    pick P k bl (.bool false) w fun bb w=>
    lp (α:=Value×Value) (bb,(.int .i64 0)) w fun H b d_ w=>
     Q3 P .lss T.e (.tmp 158) (.tmp 159) b.2 f.2 w fun bh w=>
     X1 bh (
      dr w fun d n=>
      Q5 d (fun s=> ∀w:World,n w→Q0 b.1 true w (fieldAddr P T.b (.pointer (some q)) 7) (dk d s w)) fun s=>
      Q5 d (fun t=> ∀w:World,n w→Q0 b.1 true w (fun w J=>J b.2 w) (dk d t w)) fun t=>
      Q5 d (fun B=> ∀w:World,n w→Q0 b.1 true w (fieldAddr P T.d t9 0) (dk d B w)) fun B=>
      Q5 d (fun y=> ∀C:Value,∀w:World,n w→s C w→Q0 b.1 true w (Q2 P T.j C) (dk d y w)) fun y=>
      Q5 d (fun z=> ∀p:Value,∀D:Value,∀w:World,n w→y p w→t D w→Q0 b.1 true w (indexAddr P T.j p D) (dk d z w)) fun z=>
      Q5 d (fun A=> ∀u:Value,∀w:World,n w→z u w→Q0 b.1 true w (fieldAddr P T.d u 0) (dk d A w)) fun A=>
      Q5 d (fun N=> ∀r:Value,∀w:World,n w→A r w→Q0 b.1 true w (Q2 P T.c r) (dk d N w)) fun N=>
      Q5 d (fun Q=> ∀E:Value,∀w:World,n w→B E w→Q0 b.1 true w (Q2 P T.c E) (dk d Q w)) fun Q=>
      ∀C:Value,∀D:Value,∀E:Value,∀p:Value,∀u:Value,∀r:Value,∀ad:Value,∀R:Value,∀w:World,n w→s C w→t D w→B E w→y p w→z u w→A r w→N ad w→Q R w→
      Q0 b.1 true w (Q3 P .neq T.c (.tmp 170) (.tmp 172) ad R) fun br w=>
      pick P b.1 br (.bool false) w fun bn w=>
      Q3 P .add T.e (.tmp 161) (.const (.int .i64 1)) b.2 (.int .i64 1) w fun bd w=>
      H (bn,bd) w) (
      Q3 P .add T.e (.tmp 128) (.const (.int .i64 1)) f.2 (.int .i64 1) w fun bj w=>
      M (b.1,bj) w)) (
    Q0 f.1 true w (fieldAddr P T.b (.pointer (some q)) 3) fun Y w=>
    Q0 f.1 true w (Q2 P T.u Y) fun ak w=>
    Q0 f.1 true w (J8 P .not ak) fun ag w=>
    Q0 f.1 true w (fun w J=>J ag w) fun g w=>
    Q0 g false w (fieldAddr P T.b (.pointer (some q)) 4) fun ah w=>
    Q0 g false w (Q2 P T.u ah) fun ae w=>
    Q0 g false w (fun w J=>J ae w) fun i w=>
    Q0 i true w (fieldAddr P T.b (.pointer (some q)) 1) fun al w=>
    Q0 i true w (Q2 P T.c al) fun am w=>
    Q0 i true w (Q3 P .eql T.c (.tmp 185) (.const (.string ⟨#[79,98,106,101,99,116]⟩)) am (.string ⟨#[79,98,106,101,99,116]⟩)) fun Z w=>
    Q0 g false w (pick P i Z (.bool false)) fun ai w=>
    Q0 f.1 true w (pick P g (.bool true) ai) fun aj w=>
    pick P f.1 aj (.bool false) w fun a w=>
    Q0 a true w (fieldAddr P T.b (.pointer (some q)) 4) fun af w=>
    Q0 a true w (Q2 P T.u af) fun ab w=>
    Q0 a true w (fun w J=>J ab w) fun m w=>
    Q0 m true w (fieldAddr P T.b (.pointer (some q)) 5) fun X w=>
    Q0 m true w (Q2 P T.u X) fun V w=>
    Q0 a true w (pick P m V (.bool false)) fun aa w=>
    Q0 a true w (J8 P .not aa) fun W w=>
    pick P a W (.bool false) w fun U w=>
    K U w)) an.sat (hq.up an) (g2.up an) fun w3 σ3 bm=>
  X2K (J:=fun v w=>Q0 v true w (fieldAddr P T.b (.pointer (some q)) 3) fun Y w=>
   Q0 v true w (Q2 P T.u Y) fun ak w=>
   Q0 v true w (J8 P .not ak) fun ag w=>
   Q0 v true w (fun w J=>J ag w) fun g w=>
   Q0 g false w (fieldAddr P T.b (.pointer (some q)) 4) fun ah w=>
   Q0 g false w (Q2 P T.u ah) fun ae w=>
   Q0 g false w (fun w J=>J ae w) fun i w=>
   Q0 i true w (fieldAddr P T.b (.pointer (some q)) 1) fun al w=>
   Q0 i true w (Q2 P T.c al) fun am w=>
   Q0 i true w (Q3 P .eql T.c (.tmp 185) (.const (.string ⟨#[79,98,106,101,99,116]⟩)) am (.string ⟨#[79,98,106,101,99,116]⟩)) fun Z w=>
   Q0 g false w (pick P i Z (.bool false)) fun ai w=>
   Q0 v true w (pick P g (.bool true) ai) fun aj w=>
   pick P v aj (.bool false) w fun a w=>
   Q0 a true w (fieldAddr P T.b (.pointer (some q)) 4) fun af w=>
   Q0 a true w (Q2 P T.u af) fun ab w=>
   Q0 a true w (fun w J=>J ab w) fun m w=>
   Q0 m true w (fieldAddr P T.b (.pointer (some q)) 5) fun X w=>
   Q0 m true w (Q2 P T.u X) fun V w=>
   Q0 a true w (pick P m V (.bool false)) fun aa w=>
   Q0 a true w (J8 P .not aa) fun W w=>
   pick P a W (.bool false) w fun U w=>
   K U w) bm.sat ((hq.up an).up bm) ((g3.up an).up bm) fun w4 σ4 ch=>
  X2M (K:=K) ch.sat (((hq.up an).up bm).up ch) (by rw[e];exact h _ _ (b6.trans (an.trans (bm.trans ch))))
 (repeat refine Hd.h ?_)
 refine ld bq hq rfl ?_
 refine Yg c.name c9 ?_
 cases d1:M9 c.name with
 | false=>(repeat refine Hd.h ?_);exact ci false (by rw[d1];rfl)
 | true=>
  (repeat refine Hd.h ?_)
  refine ld bq hq rfl ?_
  (repeat refine Hd.h ?_)
  refine Yg c.super dc ?_
  cases d2:M9 c.super with
  | false=>(repeat refine Hd.h ?_);exact ci false (by rw[d1,d2];rfl)
  | true=>
   (repeat refine Hd.h ?_)
   refine ld bq hq rfl ?_
   (repeat refine Hd.h ?_)
   refine ld bq hq rfl ?_
   (repeat refine Hd.h ?_)
   refine Jh ?_
   (repeat refine Hd.h ?_)
   exact ci _ (by rw[d1,d2];rfl))
theorem Q3W {c:Cla} {cs:List Value} (m:X3 w σ) (e:U9 σ c cs) (h: ∀w' l,Stp w σ w' l→K (I (D3 c)) w'):Q1 P F.bo [.agg cs.toArray] w K:=Pk (by
 unfold Nk
 have i:=Rep.one (R:=U9) e
 obtain ⟨p,n,mv,rfl,k,r,t,o,s⟩:=e
 have e:U9 σ c _:=⟨p,n,mv,rfl,k,r,t,o,s⟩
 refine Z1 m fun q w1 σ1 a f=>?_
 unfold D3 at h
 refine Y4 a.sat f rfl ?_
 refine X1c a.sat (RCl_lift e ⟨a.le⟩) fun v y b=>?_
 cases j:Zw c with
 | true=>simp only[j,if_true] at h;(try simp only[↓M1,M1,Mb,reduceIte]);exact h _ _ (a.trans b)
 | false=>
  simp only[j,Bool.false_eq_true,if_false] at h
  (try simp only[↓M1,M1,Mb,reduceIte])
  refine Y4 b.sat (f.up b) rfl ?_
  refine Q9d b.sat (RCl_lift e ⟨(a.trans b).le⟩) fun u z d=>?_
  rw[X18]
  cases g:Mu c with
  | true=>simp only[g,if_true] at h;(try simp only[↓M1,M1,Mb,reduceIte]);exact h _ _ (a.trans (b.trans d))
  | false=>simp only[g,Bool.false_eq_true,if_false] at h;(try simp only[↓M1,M1,Mb,reduceIte]);exact h _ _ (a.trans (b.trans d)))
end Go.Proofs.YtjdiakhipmggjaaGreatDoor
