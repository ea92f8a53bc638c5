/- Parts of a proof about the given program: its functions as texts of their own, what each computes, plain laws of that. The conditions of each stand in its statement. -/
import Derived.Test.YtjdiakhipmggjaaGreatDoorB4
import Derived.Laws.OwnMore
import Derived.Laws.CopyRow
import Derived.Test.YtjdiakhipmggjaaGreatDoorB3
import Derived.Lib.TrimUEq
set_option linter.unnecessarySimpa false
set_option linter.defProp false
set_option linter.unusedSectionVars false
set_option linter.unusedVariables false
set_option linter.unusedSimpArgs false
namespace Go.Proofs.YtjdiakhipmggjaaGreatDoor
open Go.Emb Go.RowKit Go.Kd Go.Hm
variable {w w' : World} {K : Value → World → Prop} {σ σ' : Q6} {hp tv : Value} {room : Int} {cs : List Cel} {l : List Cla}
theorem Q8T (t:X3 w σ) (r:Glb σ) (hh:S5 σ hp tv room cs) (p:Tab σ tv l) (ok:Ok l) {v:Val} {k:X0} (j:v.s.length≤U1) (m:k.length≤U1) (h: ∀w' σ',Stp w σ w' σ'→K (.bool (C7 W6 l cs v k)) w'):Q1 P F.aC [hp, .agg [I v.sort,I v.n,S v.s,I v.ref].toArray,S k] w K:=Q0B (by
 unfold Ei
 refine Z0 t fun q w1 σ1 c i=>?_
 refine Y4 c.sat i rfl ?_
 refine X47 c.sat (r.lift ⟨c.le⟩) (hh.lift ⟨c.le⟩) j fun z D g=>?_
 have b:=c.trans g
 refine Jf ?_
 unfold C7 at h
 have d:=X1D hh v
 generalize K3 W6 cs v=o at*
 by_cases e:o=[]
 ·rw[decide_eq_true e] at h⊢
  (try simp only[↓M1,M1,Mb,reduceIte])
  exact h _ _ b
 ·rw[decide_eq_false e] at h⊢
  obtain ⟨a,A,rfl,u,y⟩:=hh
  (try simp only[↓M1,M1,Mb,reduceIte])
  refine ld b.sat (u.lift ⟨b.le⟩) rfl ?_
  refine X3E b.sat (p.lift ⟨b.le⟩) ok d m fun B C f=>?_
  (try simp only[↓M1,M1,Mb,reduceIte])
  exact h _ _ (b.trans f))
theorem Q9J (C:X3 w σ) (hh:S5 σ hp tv room cs) (B:Tab σ tv l) (ok:Ok l) {k:X0} {n:Value} {i:Nat} (z:k.length≤U1) (O:n.cells= #[n]∧n.oneCell'=true) (o:elem k=[]→i<(Y6 l k).length)
 (h: ∀w' σ',Stp w σ w' σ'→K (S (Xl l k i)) w'):Q1 P F.aD [hp, .agg [S k,n].toArray,I i] w K:=Q0X (by
 unfold Er
 refine Z0 C fun q w1 σ1 c s=>?_
 (try simp only[↓M1,M1,Mb,reduceIte])
 refine X7 c.sat s rfl ?_
 refine Q5f k (Nat.le_trans z (by decide)) fun H p=>?_
 have d:=Stp.of_below c.sat p
 have b:=c.trans d
 refine Jf ?_
 unfold Xl at h
 by_cases e:elem k=[]
 ·simp only[if_pos e] at h
  rw[decide_eq_true e]
  (try simp only[↓M1,M1,Mb,reduceIte])
  obtain ⟨a,L,rfl,D,E⟩:=hh
  have r:=d.sat
  have t:=s.up d
  have A:=D.lift ⟨b.le⟩
  refine U0 r ?_
  (repeat refine J4 Qc ?_)
  (intros;(repeat (rename_i v;subst v));(try simp only[↓M2,M2,Mb,reduceIte]))
  rename_i M f
  have m:=b.trans f.stp
  refine Iv f.sat (B.lift ⟨m.le⟩) ok.acy ok.len ok.sm fun Q J N g j=>?_
  refine Y0 j (o e) ?_
  obtain ⟨y,_⟩:=j.elF (o e)
  (try simp only[↓M1,M1,Mb,reduceIte])
  refine ld g.sat y rfl ?_
  have u:(Y6 l k).getD i Fld.zero=(Y6 l k)[i]'(o e):=by rw[List.getD_eq_getElem?_getD,List.getElem?_eq_getElem (o e)];rfl
  rw[u] at h
  exact h _ _ (m.trans g)
 ·simp only[if_neg e] at h
  rw[decide_eq_false e]
  (try simp only[↓M1,M1,Mb,reduceIte])
  exact h _ _ b)
set_option maxHeartbeats 1000000 in
theorem Q4C {w1:World} {q:Addr} {c:Cel} {vv:Value} (hk1:Stp w σ w1 σ') (hg:Glb σ) (hh:S5 σ hp tv room cs) (ht:Tab σ tv l) (ok:Ok l) (hq:Z5 σ' q [S c.kind,vv]) (hv1:Sl 4 N3 σ' vv c.vals) (hkl:c.kind.length≤U1) (hfk: ∀i,(Xl l c.kind i).length≤U1) (good:GoodC W6 l cs c) (h: ∀w' σ',Stp w σ w' σ'→K (.bool true) w'):
 lp (α:=Value) (.int .i64 0) w1 fun again6 x6 d_ w=>
  Q3 P .lss T.e (.tmp 38) (.tmp 37) x6 (I c.vals.length) w fun t39 w=>
  X1 t39 (
   indexAddr P T.l vv x6 w fun t41 w=>
   Q2 P T.g t41 w fun t42 w=>
   W0 P T.g w fun v_v_6 w=>
   Y1 P T.g v_v_6 t42 w fun _u w=>
   dr w fun Tr Br=>
   Q5 Tr (fun φ44=> ∀w,Br w→Q2 P T.g v_v_6 w (dk Tr φ44 w)) fun φ44=>
   Q5 Tr (fun φ46=> ∀w,Br w→Q2 P T.n (.pointer (some q)) w (dk Tr φ46 w)) fun φ46=>
   Q5 Tr (fun φ48=> ∀t46 w,Br w→φ46 t46 w→Q1 P F.aD [hp,t46,x6] w (dk Tr φ48 w)) fun φ48=>
   ∀t44 t46 t48 w,Br w→φ44 t44 w→φ46 t46 w→φ48 t48 w→
   Q1 P F.aC [hp,t44,t48] w fun t49 w=>
   J8 P .not t49 w fun t50 w=>
   X1 t50 (
    K (.bool false) w) (
    Q3 P .add T.e (.tmp 38) (.const (.int .i64 1)) x6 (.int .i64 1) w fun t51 w=>
    again6 t51 w)) (
   dr w fun Tr Br=>
   Q5 Tr (fun φ53=> ∀w,Br w→nilCheck P hp w (dk Tr φ53 w)) fun φ53=>
   Q5 Tr (fun φ54=> ∀t53 w,Br w→φ53 t53 w→fieldAddr P T.p t53 0 w (dk Tr φ54 w)) fun φ54=>
   Q5 Tr (fun φ56=> ∀w,Br w→fieldAddr P T.n (.pointer (some q)) 0 w (dk Tr φ56 w)) fun φ56=>
   Q5 Tr (fun φ55=> ∀t54 w,Br w→φ54 t54 w→Q2 P T.s t54 w (dk Tr φ55 w)) fun φ55=>
   Q5 Tr (fun φ57=> ∀t56 w,Br w→φ56 t56 w→Q2 P T.c t56 w (dk Tr φ57 w)) fun φ57=>
   ∀t53 t54 t56 t55 t57 w,Br w→φ53 t53 w→φ54 t54 w→φ56 t56 w→φ55 t55 w→φ57 t57 w→
   Q1 P F.t [t55,t57] w fun t58 w=>
   K t58 w):=by
 have hone:vv.cells= #[vv]∧vv.oneCell'=true:=by obtain ⟨a,c,rfl,_⟩:=hv1;exact ⟨rfl,rfl⟩
 refine U2 c.vals.length (fun n w'=> ∃σ2,Stp w σ w' σ2∧SLe σ' σ2) ⟨σ',hk1,SLe.refl _⟩ fun n w2 d hn hinv=>?_
 obtain ⟨σ2,hS2,le2⟩:=hinv
 have hv2:=hv1.lift le2
 have hq2:=hq.lift le2
 have hh2:=hh.lift ⟨hS2.le⟩
 have ht2:=ht.lift ⟨hS2.le⟩
 refine Y9 ?_
 refine Q7 (fun hc=>?_) (fun hc=>?_)
 ·have hn':n<c.vals.length:=by simpa using hc
  obtain ⟨p1,r1⟩:=Sl.elV hv2 hn'
  refine Y0 hv2 hn' ?_
  refine Y4 hS2.sat p1 rfl ?_
  refine Y8 hS2.sat (by rfl) rfl (Rep.one r1) fun q3 w3 σ3 hk3 hq3=>?_
  have hS3:=hS2.trans hk3
  have hs3:=hk3.sat
  have hq23:=hq2.up hk3
  have hh3:=hh2.lift ⟨hk3.le⟩
  have ht3:=ht2.lift ⟨hk3.le⟩
  have hif:elem c.kind=[]→n<(Y6 l c.kind).length:=fun e=>by
   rcases good.is with h | h
   ·exact absurd e h
   ·rw[←h.2];exact hn'
  refine U0 hs3 ?_
  (repeat (apply J4;(· intros;(repeat (rename_i hx;subst hx));(repeat' (first | (with_reducible exact O3 rfl) | (with_reducible exact S4 (Stp.bel (by (repeat (first | exact Stp.refl (by (first | assumption | exact Stp.sat (by assumption) | exact Hst.sat (by assumption))) | assumption | refine Stp.trans ?_ (by first | assumption | exact Hst.stp (by assumption)))))) rfl) | (with_reducible intro _) | (simp only[↓M2,M2,Mb,reduceIte]) | (with_reducible show Q2 _ _ _ _ _;first | refine X7 aS aL aR ?_ | refine Y4 aS aL aR ?_ | refine ld aS aL aR ?_) | (with_reducible show indexAddr _ _ _ _ _ _;refine Y0 aL au ?_) | (with_reducible show X2 _ _ _ _ _ _ _ _;refine Q8 aL ?_) | (with_reducible show F5 _ _ _ _ _ _;refine J0 aR ?_) | (with_reducible show pick _ _ _ _ _ _;refine M3 ?_) | (with_reducible show Q1 _ _ _ _ _;first | refine Q9J au au au au au au au ?_) | (apply G8;intro hh;(try simp only[hh,reduceIte,↓M2,M2,Mb,reduceIte]))));done)))
  (intros;(repeat (rename_i hx;subst hx));(try simp only[↓M2,M2,Mb,reduceIte]))
  rename_i w4 hb4
  have hS4:=hS3.trans hb4.stp
  refine Q8T hb4.sat (hg.lift ⟨hS4.le⟩) (hh.lift ⟨hS4.le⟩) (ht.lift ⟨hS4.le⟩) ok r1.2.2.2.1 (hfk n) fun w5 σ5 hk5=>?_
  rw[good.fits n hn']
  (try simp only[↓M1,M1,Mb,reduceIte])
  exact Y5 hv1.max hn' ⟨σ5,hS4.trans hk5,le2.more ⟨(hk3.trans (hb4.stp.trans hk5)).le⟩⟩
 ·obtain ⟨a,lv,rfl,la,ls⟩:=hh2
  have hs2:=hS2.sat
  refine U0 hs2 ?_
  (repeat refine J4 Qc ?_)
  (intros;(repeat (rename_i hx;subst hx));(try simp only[↓M2,M2,Mb,reduceIte]))
  rename_i w3 hb3
  refine Q1a hb3.sat ht2 hkl fun w4 σ4 hk4=>?_
  rw[good.kd]
  exact h _ _ ((hS2.trans hb3.stp).trans hk4)
set_option maxHeartbeats 1000000 in
theorem X0P (hs:X3 w σ) (hg:Glb σ) (hh:S5 σ hp tv room cs) (ht:Tab σ tv l) (ok:Ok l) {c:Cel} {ds:List Value} (hc:H0 σ c ds) (hfk: ∀i,(Xl l c.kind i).length≤U1) (good:GoodC W6 l cs c) (h: ∀w' σ',Stp w σ w' σ'→K (.bool true) w'):Q1 P F.bE [hp, .agg ds.toArray] w K:=Aj (by
 obtain ⟨vv,rfl,hvv,hkl⟩:=hc
 have hone:vv.cells= #[vv]∧vv.oneCell'=true:=by obtain ⟨a,c,rfl,_⟩:=hvv;exact ⟨rfl,rfl⟩
 have hh0:=hh
 obtain ⟨a,lv,rfl,la,ls⟩:=hh
 unfold Di
 refine Z0 hs fun q w1 σ1 hk1 hq=>?_
 have hs1:=hk1.sat
 have la1:=la.lift ⟨hk1.le⟩
 have ht1:=ht.lift ⟨hk1.le⟩
 have hv1:=hvv.up hk1
 have hkl':c.kind.length≤140737488355328:=Nat.le_trans hkl (by decide)
 have acy:=ok.acy
 have olen:=ok.len
 have osm:=ok.sm
 refine U0 hs1 ?_
 (repeat (apply J4;(· intros;(repeat (rename_i hx;subst hx));(repeat' (first | (with_reducible exact O3 rfl) | (with_reducible exact S4 (Stp.bel (by (repeat (first | exact Stp.refl (by (first | assumption | exact Stp.sat (by assumption) | exact Hst.sat (by assumption))) | assumption | refine Stp.trans ?_ (by first | assumption | exact Hst.stp (by assumption)))))) rfl) | (with_reducible intro _) | (simp only[↓M2,M2,Mb,reduceIte]) | (with_reducible show Q2 _ _ _ _ _;first | refine X7 aS aL aR ?_ | refine Y4 aS aL aR ?_ | refine ld aS aL aR ?_) | (with_reducible show indexAddr _ _ _ _ _ _;refine Y0 aL au ?_) | (with_reducible show X2 _ _ _ _ _ _ _ _;refine Q8 aL ?_) | (with_reducible show F5 _ _ _ _ _ _;refine J0 aR ?_) | (with_reducible show pick _ _ _ _ _ _;refine M3 ?_) | (with_reducible show Q1 _ _ _ _ _;first | refine Q5f _ au (W8 aS ?_)) | (apply G8;intro hh;(try simp only[hh,reduceIte,↓M2,M2,Mb,reduceIte]))));done)))
 by_cases e:elem c.kind=[]
 ·have hd:decide (elem c.kind=[])=true:=decide_eq_true e
  obtain ⟨hobj,hlen⟩:A9 l c.kind=true∧c.vals.length=(Y6 l c.kind).length:=by
   rcases good.is with h | h
   ·exact absurd e h
   ·exact h
  simp only[hd,reduceIte]
  (repeat (apply J4;(· intros;(repeat (rename_i hx;subst hx));(repeat' (first | (with_reducible exact O3 rfl) | (with_reducible exact S4 (Stp.bel (by (repeat (first | exact Stp.refl (by (first | assumption | exact Stp.sat (by assumption) | exact Hst.sat (by assumption))) | assumption | refine Stp.trans ?_ (by first | assumption | exact Hst.stp (by assumption)))))) rfl) | (with_reducible intro _) | (simp only[↓M2,M2,Mb,reduceIte]) | (with_reducible show Q2 _ _ _ _ _;first | refine X7 aS aL aR ?_ | refine Y4 aS aL aR ?_ | refine ld aS aL aR ?_) | (with_reducible show indexAddr _ _ _ _ _ _;refine Y0 aL au ?_) | (with_reducible show X2 _ _ _ _ _ _ _ _;refine Q8 aL ?_) | (with_reducible show F5 _ _ _ _ _ _;refine J0 aR ?_) | (with_reducible show pick _ _ _ _ _ _;refine M3 ?_) | (with_reducible show Q1 _ _ _ _ _;first | refine Q4q au au ?_) | (apply G8;intro hh;(try simp only[hh,reduceIte,↓M2,M2,Mb,reduceIte]))));done)))
  simp only[hobj,Bool.not_true,reduceIte]
  (repeat refine J4 Qc ?_)
  refine Wm (w:=w1) (σ:=σ1) (Φ:=fun σ' v=>Sl 3 S2 σ' v (Y6 l c.kind)) (fun t20 t27 t29 w hb e1 e2 e3=>?_) ?_
  ·subst e1;subst e2;subst e3
   simp only[↓M2,M2,Mb,reduceIte]
   exact Iv hb.sat ht1 acy olen osm fun v' w' σ' hk hv'=>Sf hb hk hv'
  refine J4 (V:=I (Y6 l c.kind).length) (fun t20 t30 w hb e1 e2=>?_) ?_
  ·subst e1
   obtain ⟨σ',hk,hv'⟩:=e2
   simp only[↓M2,M2,Mb,reduceIte]
   exact Q8 hv' (O3 rfl)
  rintro t7 t8 t9 t10 t12 t13 t14 t16 t15 t17 t18 t19 t20 t21 t24 t25 t26 t28 t22 t23 t27 t29 t30 t31 w2 hb2 rfl rfl rfl rfl rfl rfl rfl rfl rfl rfl rfl rfl rfl rfl rfl rfl rfl rfl rfl rfl rfl rfl _ rfl
  rw[hlen]
  simp only[O7,E2,S6,W3,W7]
  refine Xh ?_
  rw[decide_eq_true (show ((Y6 l c.kind).length:Int)=(Y6 l c.kind).length from rfl)]
  simp only[Bool.not_true,W9,M4,M5]
  refine W2 ?_
  refine ld hb2.sat hq rfl ?_
  refine Q8 hv1 ?_
  exact Q4C (hk1.trans hb2.stp) hg hh0 ht ok hq hv1 hkl hfk good h
 ·have hd:decide (elem c.kind=[])=false:=decide_eq_false e
  simp only[hd,Bool.false_eq_true,reduceIte]
  (repeat refine J4 Qc ?_)
  (intros;(repeat (rename_i hx;subst hx)))
  rename_i w2 hb2
  simp only[O7,E2,S6,W3,W7,W9,M4,M5]
  refine W2 ?_
  refine ld hb2.sat hq rfl ?_
  refine Q8 hv1 ?_
  exact Q4C (hk1.trans hb2.stp) hg hh0 ht ok hq hv1 hkl hfk good h)
end Go.Proofs.YtjdiakhipmggjaaGreatDoor

namespace Go.Emb
open Go.RowKit Go.Hm
variable {P : Program} {w w0 w1 w' w'' : World} {K : Value → World → Prop} {σ σ0 σ1 σ' : Q6}
theorem Q4P (a:Array Value) (n i:Nat) (e:i<n) (f:0<a.size):((madeCells a (n*a.size)).toList.drop (i*a.size)).take a.size=a.toList:=by
 have d:i*a.size+a.size≤n*a.size:=by rw[←Nat.succ_mul];exact Nat.mul_le_mul_right _ e
 refine List.ext_getElem (by simp[madeCells];omega) fun j g c=>?_
 have b:j<a.size:=by simpa using c
 simp only[List.getElem_take,List.getElem_drop,madeCells,Array.toList_map,List.getElem_map,Array.toList_range,List.getElem_range,Array.getElem_toList]
 have:(i*a.size+j) % a.size=j:=by rw[Nat.add_comm,Nat.add_mul_mod_self_right];exact Nat.mod_eq_of_lt b
 rw[this]
 simp[b]
theorem Q9D {α:Type} {R:Q6→α→List Value→Prop} {t e:TypeId} {sz b n:Nat} {z:Value} [ts:TS P t e] [tz:TZ P e sz b z] (x0:α) (r:X3 w σ) (y:z.cells.size=sz) (c:0<sz) (u:R σ x0 z.cells.toList) (D:n*sz≤16777216) (C:b*n≤281474976710656)
 (h: ∀v w',Stp w σ w' σ→V6 w.heap.size e sz R σ w' v (List.replicate n x0)→(∀k,v.ownBlock=some k→w.heap.size≤k)→K v w'):Lg P t (I n) (I n) w K:=by
 obtain ⟨i,A,d,g,a⟩:=tz.info
 have o:(i.bytes:Int)*(n:Int)≤281474976710656:=by
  rw[g]
  have:((b*n:Nat):Int)≤281474976710656:=by omega
  rwa [Int.natCast_mul] at this
 have B:n≤16777216:=by
  have:n*1≤n*sz:=Nat.mul_le_mul_left _ c
  omega
 have m:=run_makeSlice (P:=P) w t e i z ts.h A a .i64 .i64 (n:Int) (n:Int) (by omega) (Int.le_refl _) (by rw[d];simp only[Int.toNat_natCast];omega) o (by omega)
 unfold Lg
 rw[X9 m]
 simp only[Int.toNat_natCast,d]
 refine h _ _ (Stp.own r _) ⟨(madeCells z.cells (n*sz)).toList,⟨by simp[madeCells], .inr ⟨w.heap.size,n,madeCells z.cells (n*sz),?_,Nat.le_refl _,heap_alloc_new w _,?_,?_,?_,?_⟩⟩,?_,fun j x f=>?_⟩ ?_
 ·simp
 ·simp
 ·simp[maxLen];omega
 ·simp[madeCells]
 ·rw[List.take_of_length_le (by simp[madeCells])]
 ·intro k p;cases p;exact r.none (Nat.le_refl _)
 ·have s:j<n:=by have:=(List.getElem?_eq_some_iff.1 f).1;simpa using this
  have q:x=x0:=by
   rw[List.getElem?_replicate] at f
   rw[if_pos s] at f
   exact (Option.some.inj f).symm
  subst q
  subst y
  rw[Q4P z.cells n j s c]
  exact u
 ·intro k p;cases p;exact Nat.le_refl _
theorem Q4R (w:World) (m r z elem:TypeId) (sz g o n c:Nat) (a:Addr) (e:Nat) (b:Array Value) (t:TypeId) (cs:List Value)
 (q:P.underlying m=some (.slice elem)) (p:(P.info? elem).map (·.size)=some sz)
 (u:w.heap[g]? =some (.cells b t (0,0))) (A:cs.length=n*sz)
 (d: ∀j v,cs[j]? =some v→w.cell? (a.add j)=some v) (f:o+cs.length≤b.size) (y: ∀v∈cs,v.oneCell'=true):
 (Builtin.copy_ #[m,r] z #[.slice (some ⟨g,o,none⟩) n c, .slice (some a) n e]).run P w=
  .ok (goInt n) (w.setRow g (b.toList.take o++cs++b.toList.drop (o+cs.length)).toArray):=by
 have s:=run_loadCells_list (P:=P) w a cs d
 have k:=run_storeCells_at P g o t cs 0 b w u (by simpa using f) y
 cases h:P.info? elem with
 | none=>simp[h] at p
 | some i=>
  have B:i.size=sz:=by simpa [h] using p
  simp[Builtin.copy_,run_underlying q,Builtin.lenOf,Builtin.firstCells,sizeOf,typeInfo,h,B,←A,s,k]
theorem Q4V (w:World) (f g k elem:TypeId) (sz:Nat) (d a:Option Addr) (c b:Nat) (j:P.underlying f=some (.slice elem)) (m:(P.info? elem).map (·.size)=some sz):
 (Builtin.copy_ #[f,g] k #[.slice d 0 c, .slice a 0 b]).run P w= .ok (goInt 0) w:=by
 cases e:P.info? elem with
 | none=>simp[e] at m
 | some i=>
  have h: ∀(x:Addr),(loadCells x 0).run P w= .ok #[] w:=fun x=>by simpa using run_loadCells_list (P:=P) w x [] (by simp)
  cases d<;>cases a<;>simp[Builtin.copy_,run_underlying j,Builtin.lenOf,Builtin.firstCells,sizeOf,typeInfo,e,storeCells,h]
end Go.Emb
namespace Go.Proofs.YtjdiakhipmggjaaGreatDoor
open Go.Emb Go.RowKit Go.Kd Go.Hm
variable {w w' : World} {K : Value → World → Prop} {σ σ' : Q6} {hp tv : Value} {room : Int} {cs : List Cel} {l : List Cla}
theorem Q2F (ok:Ok l) {k:X0} (d:k.length≤U1) (i:Nat):(Xl l k i).length≤U1:=by
 unfold Xl
 split
 ·cases h:(Y6 l k)[i]? with
  | none=>rw[List.getD_eq_getElem?_getD,h];exact Nat.zero_le _
  | some f=>
   rw[List.getD_eq_getElem?_getD,h]
   have a:=List.mem_of_getElem? h
   unfold Y6 at a
   obtain ⟨c,b,a⟩:=List.mem_flatMap.1 a
   have:=((ok.nm c (Bl (by simpa using b))).2.1 f a).2
   exact Nat.le_trans this (by decide)
 ·unfold elem
  split
  ·unfold Kd.cutA;rw[List.length_take];omega
  ·exact Nat.zero_le _
theorem X2l (B:X3 w σ) (A:Glb σ) (hh:S5 σ hp tv room cs) (z:Tab σ tv l) (ok:Ok l) (g: ∀c∈cs,GoodC W6 l cs c) (h: ∀w' σ',Stp w σ w' σ'→K (.bool true) w'):Q1 P F.bB [hp] w K:=An (by
 unfold Dk
 have n:=hh
 obtain ⟨a,H,rfl,D,t⟩:=hh
 refine U5 B rfl fun q w1 σ1 b r=>?_
 refine X7 b.sat r rfl ?_
 rw[L8,fa]
 refine ld b.sat (D.lift ⟨b.le⟩) rfl ?_
 rw[Qh]
 refine Cv (fun _=>false) b.sat (t.up b) (fun c ds u K v p s f y=>Z7 (first:=[]) (caps:=[.pointer (some q)]) (Gg ?_)) fun u m=>?_
 ·unfold La
  refine Z0 p fun M J C d k=>?_
  refine X7 d.sat (r.up d) rfl ?_
  refine Y4 d.sat k f ?_
  have e:SLe σ C:=SLe.more ⟨b.le⟩ ⟨d.le⟩
  refine X0P d.sat (A.lift e) (n.lift e) (z.lift e) ok (Q9C s ⟨d.le⟩) (fun i=>Q2F ok (by obtain ⟨_,_,_,h⟩:=s;exact h) i) (g c v) fun E L o=>?_
  refine Wj ?_
  exact y _ (d.trans o).bel
 ·have j:=b.trans (Stp.of_below b.sat m)
  have:cs.any (fun _=>false)=false:=by simp
  rw[this]
  refine Wj ?_
  exact h _ _ j)
theorem Q9I {B:Nat} {D:Nat→Prop} {m v:Value} {vals:List Val} {k:X0} {ty:TypeId} {cb:List Bool} {A:Value→Value→World→Prop} (hs:X3 w σ) (hB:B≤w.heap.size) (h:RowsIs B D σ w m cs) (Y:J7 B T.g 4 N3 σ w v vals) (hd: ∀j,v.ownBlock=some j→ ¬D j) (hk:k.length≤U1) (hl:cs.length≤10000000)
 (hh: ∀s d w' σ' D',Nxt (fun j=>m.ownBlock=some j) w σ w' σ'→(∀j,m.ownBlock=some j→D j)→RowsIs B D' σ' w' d (cs++[⟨k,vals⟩])→(∀j,D' j→D j∨v.ownBlock=some j∨w.heap.size≤j)→(∀j,D j→m.ownBlock≠some j→D' j)→A s d w'):
 buildSlice P T.f 1 [(0, .agg #[S k,v])] w (fun s w=>X2 P .append [T.f,T.f] ty cb [m,s] w (fun v' w=>A s v' w)):=by
 obtain ⟨vs,hq,n,ha,hD⟩:=h.ex
 obtain ⟨a,O,z,_⟩:=(id Y:J7 B T.g 4 N3 σ w v vals)
 have ak:v.cells= #[v]:=by rw[z];rfl
 refine T5 (R:=Q3D) (sz:=2) hs [.agg #[S k,v]] [(k,v)] rfl rfl (by simp[Value.cells]) rfl ⟨(⟨rfl,hk,a,_,O,z⟩:Q3D σ (k,v) [S k,v]),trivial⟩ fun s w1 σ1 c W=>?_
 refine Q8F c.sat (Nat.le_trans hB c.bel.size) (hq.up c) W rfl (by rw[Du n.1];simp;omega) (by rw[Du n.1];simp;omega) fun d H Z V L X=>?_
 have g: ∀j,m.ownBlock=some j→D j:=fun j b=>(hD j).2 ⟨m,by simp,b⟩
 have U:Nxt (fun j=>m.ownBlock=some j) w σ H σ1:=
  ⟨(Kpt.of_below c.bel).trans (Z.mono fun j _ b=>b.1),⟨c.le⟩,c.old,V⟩
 have t: ∀j,v.ownBlock=some j→m.ownBlock≠some j:=fun j b e=>hd j b (g j e)
 have f: ∀j,d.ownBlock=some j→m.ownBlock=some j∨w1.heap.size≤j:=fun j b=>by
  rcases X with ⟨a',aa,e1,e2⟩ | ⟨_,hn⟩
  ·left;rw[e1];rw[e2] at b;cases a'<;>exact b
  ·exact .inr (hn j b)
 obtain ⟨E,Q⟩:=List.pairwise_cons.1 ha
 have y: ∀i (p:i<vs.length) (r:i<cs.length),J7 B T.g 4 N3 σ1 H vs[i] cs[i].vals:=fun i p r=>(n.2 i p r).nx U fun j b e=>E _ (List.getElem_mem p) j e b
 have J:J7 B T.g 4 N3 σ1 H v vals:=Y.nx U fun j b e=>t j b e
 have M: ∀u∈vs,∀j,u.ownBlock=some j→j<w.heap.size:=fun u hu j b=>by
  obtain ⟨i,p,rfl⟩:=List.getElem_of_mem hu
  exact ((n.2 i p (by rw[←n.1];exact p)).mem b).2.1
 refine hh s d H σ1 (fun j=> ∃u∈d::(vs++[v]),u.ownBlock=some j) U g ⟨vs++[v],?_,⟨by simp[n.1],fun i p r=>?_⟩,?_,fun j=>Iff.rfl⟩ ?_ ?_
 ·have e:Qy (vs++[v]) (cs++[⟨k,vals⟩])=Qy vs cs++[(k,v)]:=by
   unfold Qy
   rw[List.zipWith_append n.1];rfl
  rw[e];exact L
 ·by_cases o:i<vs.length
  ·have q:i<cs.length:=by rw[←n.1];exact o
   rw[List.getElem_append_left o,List.getElem_append_left q]
   exact y i o q
  ·have q: ¬i<cs.length:=by rw[←n.1];exact o
   have e1:i=vs.length:=by simp at p;omega
   rw[List.getElem_append_right (by omega),List.getElem_append_right (by omega)]
   simp only[List.getElem_singleton]
   exact J
 ·refine List.pairwise_cons.2 ⟨fun u hu j b e=>?_,List.pairwise_append.2 ⟨Q,List.pairwise_singleton _ _,fun u hu u2 C j b e=>?_⟩⟩
  ·rcases List.mem_append.1 hu with hu | hu
   ·rcases f j b with h1 | h1
    ·exact E u hu j h1 e
    ·have:=M u hu j e;have:=c.bel.size;omega
   ·simp at hu;subst hu
    rcases f j b with h1 | h1
    ·exact t j e h1
    ·have:=(Y.mem e).2.1;have:=c.bel.size;omega
  ·simp at C;subst C
   exact hd j e ((hD j).2 ⟨u,by simp[hu],b⟩)
 ·rintro j ⟨u,hu,b⟩
  rcases List.mem_cons.1 hu with rfl | hu
  ·rcases f j b with h1 | h1
   ·exact .inl (g j h1)
   ·right;right;have:=c.bel.size;omega
  ·rcases List.mem_append.1 hu with hu | hu
   ·exact .inl ((hD j).2 ⟨u,by simp[hu],b⟩)
   ·simp at hu;subst hu;exact .inr (.inl b)
 ·intro j b N
  obtain ⟨u,hu,b⟩:=(hD j).1 b
  rcases List.mem_cons.1 hu with rfl | hu
  ·exact absurd b N
  ·exact ⟨u,by simp[hu],b⟩
end Go.Proofs.YtjdiakhipmggjaaGreatDoor

namespace Go.Proofs.YtjdiakhipmggjaaGreatDoor
open Go.Emb Go.RowKit Go.Kd Go.Hm
variable {w : World} {K : Value → World → Prop} {σ : Q6}
end Go.Proofs.YtjdiakhipmggjaaGreatDoor

namespace Go.Proofs.YtjdiakhipmggjaaGreatDoor
open Go.Emb Go.RowKit Go.Kd Go.Hm
variable {w : World} {K : Value → World → Prop} {σ : Q6} {l : List Cla} {v : Value}
theorem I8 {n:X0} (t:X3 w σ) (m:Sl 8 V0 σ v l) (h:K (I (L5 (Z2 l n))) w):Q1 P F.b [v,S n] w K:=Ts (by
 unfold On
 refine U2 l.length (fun k w'=>w'=w∧ ∀j (g:j<l.length),j<k→ ¬l[j].name=n) ⟨rfl,fun j _ h=>by omega⟩ fun k w1 d E u=>?_
 obtain ⟨rfl,b⟩:=u
 refine Q8 m ?_
 refine Y9 ?_
 refine Q7 (fun i=>?_) (fun i=>?_)
 ·have a:k<l.length:=by simpa using i
  refine M7 m a fun p cells o r q=>?_
  obtain ⟨B,z,mv,rfl,D,C,A,y,H⟩:=q
  rw[fa]
  refine ld t o rfl ?_
  refine P7 ?_
  refine Q7 (fun f=>?_) (fun f=>?_)
  ·have f:l[k].name=n:=by simpa using f
   have:Z2 l n=some k:=by
    unfold Z2
    rw[List.findIdx?_eq_some_iff_getElem]
    exact ⟨a,by simpa using f,fun j g=>by simpa using b j (by omega) g⟩
   rw[this] at h
   exact h
  ·have f: ¬l[k].name=n:=by simpa using f
   refine N0 ?_
   refine Y5 m.max a ⟨rfl,fun j g s=>?_⟩
   by_cases e:j=k
   ·subst e;exact f
   ·exact b j g (by omega)
 ·have a: ¬k<l.length:=by simpa using i
  have:Z2 l n=none:=by
   unfold Z2
   rw[List.findIdx?_eq_none_iff]
   intro c i
   obtain ⟨j,g,rfl⟩:=List.getElem_of_mem i
   simpa using b j g (by omega)
  rw[this] at h
  exact h)
end Go.Proofs.YtjdiakhipmggjaaGreatDoor

namespace Go.Proofs.YtjdiakhipmggjaaGreatDoor
open Go.Emb Go.RowKit Go.Kd Go.Hm
variable {w : World} {K : Value → World → Prop} {σ : Q6} {l : List Cla} {v : Value}
theorem Q5n {a:X0} (d:a.length≤U1) (h:K (S (base a).1) w):Q1 P F.aZ [S a] w K:=Am (by
 unfold Ol
 have c:=Q1x a
 have b:a.length≤140737488355328:=by simp only[U1] at d;omega
 rw[R9 X8]
 refine Rt a b ?_
 (try simp only[↓Mr,Mr,Mb,reduceIte])
 rw[G1 (n:=2*((base a).2:Int)) (by omega) (by omega),G1 (by omega) (by omega),T3 X8 (by omega) (by omega)]
 rw[show ((a.length:Int)-2*((base a).2:Int)).toNat=a.length-2*(base a).2 from by omega,Q4F]
 exact h)
theorem Dv {s:X0} (g:X3 w σ) (f:Sl 8 V0 σ v l) (c:s.length≤U1) (h:K (.bool (N1 l s)) w):Q1 P F.a2 [v,S s] w K:=Q01 (by
 unfold Db
 have b:s.length≤140737488355328:=by simp only[U1] at c;omega
 unfold N1 at h
 refine P7 ?_
 by_cases a:s=H9
 ·have:decide (s=[110,117,108,108])=true:=by rw[decide_eq_true_eq];exact a
  simp only[this,↓M1,M1,Mb,reduceIte]
  simp only[a,decide_true,Bool.true_or] at h
  exact h
 ·have:decide (s=[110,117,108,108])=false:=by rw[decide_eq_false_iff_not];exact a
  simp only[this,↓M1,M1,Mb,reduceIte]
  simp only[a,decide_false,Bool.false_or] at h
  refine Jn s b ?_
  cases d:right s with
  | false=>(try simp only[↓M1,M1,Mb,reduceIte]);simpa [d] using h
  | true=>
   (try simp only[↓M1,M1,Mb,reduceIte])
   refine Q5n c ?_
   (try simp only[↓M1,M1,Mb,reduceIte])
   refine Hb _ ?_
   simp only[d,Bool.true_and] at h
   cases e:plain (base s).1 with
   | true=>(try simp only[↓M1,M1,Mb,reduceIte]);simpa [e] using h
   | false=>
    (try simp only[↓M1,M1,Mb,reduceIte])
    refine Q5n c ?_
    (try simp only[↓M1,M1,Mb,reduceIte])
    refine I8 g f ?_
    refine K9 ?_
    rw[A0]
    (try simp only[↓M1,M1,Mb,reduceIte])
    simpa [e,Q0t] using h)
end Go.Proofs.YtjdiakhipmggjaaGreatDoor

namespace Go.Proofs.YtjdiakhipmggjaaGreatDoor
open Go.Emb Go.RowKit Go.Kd Go.Hm
variable {w : World} {K : Value → World → Prop} {σ : Q6} {l : List Cla} {v : Value}
theorem Q9S {s:X0} (d:X3 w σ) (b:Sl 8 V0 σ v l) (c:s.length≤U1) (h:K (.bool (O8 l s)) w):Q1 P F.bu [v,S s] w K:=Pm (by
 unfold Mx
 unfold O8 at h
 refine Jf ?_
 have e:decide (s=[110,117,108,108])=decide (s=H9):=rfl
 rw[e]
 cases a:decide (s=H9) with
 | true=>
  rw[a] at h
  (try simp only[↓M1,M1,Mb,reduceIte])
  exact h
 | false=>
  rw[a] at h
  (try simp only[↓M1,M1,Mb,reduceIte])
  refine Dv d b c ?_
  (try simp only[↓M1,M1,Mb,reduceIte])
  simpa using h)
end Go.Proofs.YtjdiakhipmggjaaGreatDoor

namespace Go.Proofs.YtjdiakhipmggjaaGreatDoor
open Go.Emb Go.RowKit Go.Kd Go.Hm
variable {w : World} {K : Value → World → Prop} {σ : Q6} {l : List Cla} {v : Value}
def Ch (c:Cla) (n:X0):Option Nat:=c.methods.findIdx? fun m=>decide (m.name=n)
theorem Q7s {c:Cla} {cs:List Value} {n:X0} (B:X3 w σ) (o:V0 σ c cs) (h: ∀w' y,Stp w σ w' y→K (I (L5 (Ch c n))) w'):Q1 P F.b4 [.agg cs.toArray,S n] w K:=Q1e (by
 unfold Ey
 obtain ⟨N,J,mv,rfl,R,O,r,E,X⟩:=o
 refine Z0 B fun q w0 σ0 a t=>?_
 have r:=r.up a
 refine U2 c.methods.length (fun k w'=>w'=w0∧ ∀j (i:j<c.methods.length),j<k→ ¬c.methods[j].name=n) ⟨rfl,fun j _ h=>by omega⟩ fun k w1 d U D=>?_
 obtain ⟨rfl,f⟩:=D
 rw[fa]
 refine ld a.sat t rfl ?_
 refine Q8 r ?_
 refine Y9 ?_
 refine Q7 (fun o=>?_) (fun o=>?_)
 ·have b:k<c.methods.length:=by simpa using o
  rw[fa]
  refine ld a.sat t rfl ?_
  refine M7 r b fun p cells s z u=>?_
  obtain ⟨pv,W,Q,rfl,H,M,Y,V,L⟩:=u
  rw[fa]
  refine ld a.sat s rfl ?_
  refine P7 ?_
  refine Q7 (fun g=>?_) (fun g=>?_)
  ·have g:c.methods[k].name=n:=by simpa using g
   have:Ch c n=some k:=by
    unfold Ch
    rw[List.findIdx?_eq_some_iff_getElem]
    exact ⟨b,by simpa using g,fun j i=>by simpa using f j (by omega) i⟩
   rw[this] at h
   exact h _ _ a
  ·have g: ¬c.methods[k].name=n:=by simpa using g
   refine N0 ?_
   refine Y5 r.max b ⟨rfl,fun j i A=>?_⟩
   by_cases e:j=k
   ·subst e;exact g
   ·exact f j i (by omega)
 ·have b: ¬k<c.methods.length:=by simpa using o
  have:Ch c n=none:=by
   unfold Ch
   rw[List.findIdx?_eq_none_iff]
   intro m C
   obtain ⟨j,i,rfl⟩:=List.getElem_of_mem C
   simpa using f j i (by omega)
  rw[this] at h
  exact h _ _ a)
end Go.Proofs.YtjdiakhipmggjaaGreatDoor

namespace Go.Proofs.YtjdiakhipmggjaaGreatDoor
open Go.Emb Go.RowKit Go.Kd Go.Hm
variable {w : World} {K : Value → World → Prop} {σ : Q6} {l : List Cla} {v : Value}
theorem Ba {n:X0} {d:Cla} (f:X3 w σ) (b:Sl 8 V0 σ v l) (e:lk l n=some d) (h: ∀i:Nat,l[i]? =some d→Z2 l n=some i→K (I i) w):Q1 P F.b [v,S n] w K:=by
 obtain ⟨_,_,i,a,c⟩:=V3 e
 refine I8 f b ?_
 rw[a];exact h i c a
theorem Q0T {n:X0} (f:X3 w σ) (d:Sl 8 V0 σ v l) (e:lk l n=none) (h:K (I (-1)) w):Q1 P F.b [v,S n] w K:=by
 refine I8 f d ?_
 cases b:Z2 l n with
 | none=>exact h
 | some i=>obtain ⟨c,a,_⟩:=Zm b;rw[e] at a;cases a
end Go.Proofs.YtjdiakhipmggjaaGreatDoor

namespace Go.Proofs.YtjdiakhipmggjaaGreatDoor
open Go.Emb Go.RowKit Go.Kd Go.Hm
variable {w : World} {K : Value → World → Prop} {σ : Q6} {l : List Cla} {v : Value}
theorem X0y:decide ((-1:Int)<0)=true:=by decide
theorem Q6r (i:Nat):decide ((i:Int)<0)=false:=by rw[decide_eq_false_iff_not];omega
theorem Q8N {c:Cla} {cs:List Value} (hs:X3 w σ) (Y:Sl 8 V0 σ v l) (B:V0 σ c cs) (h: ∀w' W,Stp w σ w' W→K (I (D0 l c)) w'):Q1 P F.bg [v, .agg cs.toArray] w K:=Gr (by
 unfold Lm
 obtain ⟨lv,fv,mv,rfl,z,f2,f3,f4,f5⟩:=B
 refine Z0 hs fun q w0 σ0 o N=>?_
 have z:=z.up o
 have b:=Y.up o
 have a:=o.sat
 have y: ∀n:Nat,D0 l c=n→K (I n) w0:=fun n e=>by rw[←e];exact h _ _ o
 clear h
 (try simp only[↓M1,M1,Mb,reduceIte])
 refine ld a N rfl ?_
 have m:Qx l c.super=true→K (I (61:Nat)) w0:=fun e=>y 61 (by unfold D0;rw[if_pos e])
 cases L:lk l c.super with
 | none=>
  refine Q0T a b L ?_
  simp only[X0y,↓M1,M1,Mb,reduceIte]
  exact m (by unfold Qx;rw[L])
 | some d=>
  refine Ba a b L fun i hi hf=>?_
  obtain ⟨s,O⟩:=List.getElem?_eq_some_iff.1 hi
  simp only[Q6r,↓M1,M1,Mb,reduceIte]
  refine Y0 b s ?_
  obtain ⟨ae,ag,aa,R,r1⟩:=b.elC s
  rw[O] at R
  (try simp only[↓M1,M1,Mb,reduceIte])
  refine ld a R rfl ?_
  have g:Qx l c.super=(d.iface||d.fin):=by unfold Qx;rw[L]
  cases E:d.iface with
  | true=>
   rw[E] at g
   (try simp only[↓M1,M1,Mb,reduceIte])
   exact m (by rw[g];rfl)
  | false=>
   rw[E] at g
   (try simp only[↓M1,M1,Mb,reduceIte])
   refine Y0 b s ?_
   (try simp only[↓M1,M1,Mb,reduceIte])
   refine ld a R rfl ?_
   cases A:d.fin with
   | true=>
    rw[A] at g
    (try simp only[↓M1,M1,Mb,reduceIte])
    exact m (by rw[g];rfl)
   | false=>
    rw[A] at g
    have D:Qx l c.super=false:=g
    (try simp only[↓M1,M1,Mb,reduceIte])
    refine U2 c.like.length (fun k w'=>w'=w0∧(c.like.take k).any (R6 l)=false) ⟨rfl,rfl⟩ fun k w1 d1 hk Q=>?_
    obtain ⟨X,u⟩:=Q
    subst X
    (try simp only[↓M1,M1,Mb,reduceIte])
    refine ld a N rfl ?_
    refine Q8 z ?_
    refine Y9 ?_
    refine Q7 (fun B=>?_) (fun B=>?_)
    ·have f:k<c.like.length:=by simpa using B
     have r:R6 l c.like[k]=true→K (I (62:Nat)) w1:=fun e=>y 62 (by
      unfold D0;rw[D,C2 f e];rfl)
     have t:R6 l c.like[k]=false→(c.like.take (k+1)).any (R6 l)=false:=fun e=>by rw[L2 f,u,e];rfl
     (try simp only[↓M1,M1,Mb,reduceIte])
     refine ld a N rfl ?_
     refine Y0 z f ?_
     obtain ⟨Z,_⟩:=z.elS f
     refine X7 a Z rfl ?_
     cases J:lk l c.like[k] with
     | none=>
      refine Q0T a b J ?_
      simp only[X0y,↓M1,M1,Mb,reduceIte]
      exact r (by unfold R6;rw[J])
     | some e=>
      refine Ba a b J fun j hj V=>?_
      obtain ⟨H,M⟩:=List.getElem?_eq_some_iff.1 hj
      simp only[Q6r,↓M1,M1,Mb,reduceIte]
      refine Y0 b H ?_
      obtain ⟨ac,ah,ad,U,r3⟩:=b.elC H
      rw[M] at U
      (try simp only[↓M1,M1,Mb,reduceIte])
      refine ld a U rfl ?_
      have p:R6 l c.like[k]= !e.iface:=by unfold R6;rw[J]
      cases C:e.iface with
      | true=>
       rw[C] at p
       (try simp only[↓M1,M1,Mb,reduceIte])
       exact Y5 z.max f ⟨rfl,t p⟩
      | false=>
       rw[C] at p
       (try simp only[↓M1,M1,Mb,reduceIte])
       exact r p
    ·have f: ¬k<c.like.length:=by simpa using B
     rw[E3 f] at u
     exact y 0 (by unfold D0;rw[D,u];rfl))
end Go.Proofs.YtjdiakhipmggjaaGreatDoor

namespace Go.Proofs.YtjdiakhipmggjaaGreatDoor
open Go.Emb Go.RowKit Go.Kd Go.Hm
variable {w : World} {K : Value → World → Prop} {σ : Q6} {l : List Cla} {v : Value}
theorem Q70 {n:X0} (h:lk l n=none):Y6 l n=[]:=by unfold Y6;rw[Yp h];rfl
theorem Q75 (a:Ja l) {n:X0} {c:Cla} (h:lk l n=some c):Y6 l n=Y6 l c.super++c.fields:=by
 unfold Y6
 rw[A6 a,h]
 simp
theorem Q3h (a: ∀c∈l,Qj c) (n:X0):(Y6 l n).length≤(l.length+1)*1000000:=by
 unfold Y6
 have b:=Vt (fun c:Cla=>c.fields) 1000000 (chain l n).reverse fun c d=>(a c (Bl (by simpa using d))).2.1
 have e:=Cz l n
 rw[List.length_reverse] at b
 exact Nat.le_trans b (Nat.mul_le_mul_right _ e)
theorem Q2n {n:X0} (c:lk l n=none) (d:X3 w σ) (e:Sl 8 V0 σ v l) (h: ∀a w' b,Stp w σ w' b→Sl 3 S2 b a (Y6 l n)→K a w'):Q1 P F.p [v,S n] w K:=Lv (by
 unfold Xt
 refine Q0T d e c ?_
 simp only[X0y,↓M1,M1,Mb,reduceIte]
 exact h _ _ _ (Stp.refl d) (by rw[Q70 c];exact Sl.nil))
theorem Q6t (o:Ja l) (hl:l.length≤1000) (m: ∀c∈l,Qj c): ∀(k:Nat) {n:X0} {w:World} {σ:Q6} {K:Value→World→Prop},(lk l n=none∨P1 l n<k)→X3 w σ→Sl 8 V0 σ v l→
 (∀f w' g,Stp w σ w' g→Sl 3 S2 g f (Y6 l n)→K f w')→Q1 P F.p [v,S n] w K:=by
 intro k
 induction k with
 | zero=>
  intro n w σ K hk j a h
  rcases hk with hk | hk
  ·exact Q2n hk j a h
  ·omega
 | succ k ih=>
  intro n w σ K hk j a h
  cases b:lk l n with
  | none=>exact Q2n b j a h
  | some c=>
   have hk:P1 l n<k+1:=by
    rcases hk with hk | hk
    ·rw[b] at hk;cases hk
    ·exact hk
   refine Lv ?_
   unfold Xt
   refine Ba j a b fun i hi hf=>?_
   obtain ⟨z,D⟩:=List.getElem?_eq_some_iff.1 hi
   simp only[Q6r,↓M1,M1,Mb,reduceIte]
   obtain ⟨lv,fv,mv,p1,N⟩:=a.elC z
   rw[D] at p1 N
   obtain ⟨_,Z,_,_,_⟩:=N.parts
   have L:lk l c.super=none∨P1 l c.super<k:=by
    cases V:lk l c.super with
    | none=>exact .inl rfl
    | some d=>
     have:=Xq o b (u:=c.super) (by simp[U3]) V
     right;omega
   have al:=Q3h m c.super
   have ag:=(m c (V3 b).2.1).2.1
   have O:(l.length+1)*1000000≤1001*1000000:=Nat.mul_le_mul_right _ (by omega)
   refine U0 j ?_
   (repeat refine J4 Qc ?_)
   refine Q30 (R:=S2) (by decide) ?_
   (repeat refine J4 Qc ?_)
   refine Wm (w:=w) (σ:=σ) (Φ:=fun g v=>Sl 3 S2 g v (Y6 l c.super)) (fun t w p e=>?_) ?_
   ·subst e;exact ih L p.sat a fun f w' g hk B=>Sf p hk B
   refine Q1C (w:=w) (σ:=σ) (R:=S2) (sz:=3) (e:=T.o) (Y6 l c.super) (fun A C w p y q=>?_) ?_
   ·obtain ⟨k1,a1,e1⟩:=y
    obtain ⟨σ2,k2,Q⟩:=q
    exact Q7b k1 a1 e1 k2.sat Q (fun _ _ h=>h) rfl (by omega) (by omega) fun f w' hk o=>Q3t p hk o
   (repeat refine J4 Qc ?_)
   rintro ah aj ab U A ak C Y ac w2 W rfl rfl rfl rfl _ rfl _ ⟨E,H⟩ rfl
   refine Wh E H Z rfl (by omega) (by omega) fun f w3 X M r _=>?_
   obtain ⟨σ4,s,J,_⟩:=r.keep M
   exact h _ _ _ s (by rw[Q75 o b];exact J)
theorem Kj {n:X0} (i:X3 w σ) (e:Sl 8 V0 σ v l) (g:Ja l) (f:l.length≤1000) (a: ∀c∈l,Qj c) (h: ∀b w' d,Stp w σ w' d→Sl 3 S2 d b (Y6 l n)→K b w'):Q1 P F.p [v,S n] w K:=
 Q6t g f a _ (.inr (Nat.lt_succ_self _)) i e h
theorem X04 {n f:X0} (E:X3 w σ) (C:Sl 8 V0 σ v l) (y:Ja l) (B:l.length≤1000) (u: ∀c∈l,Qj c) (h: ∀w' z,Stp w σ w' z→K (I (L5 (Uf l n f))) w'):Q1 P F.bt [v,S n,S f] w K:=Pe (by
 unfold Nn
 refine Kj E C y B u fun M w1 σ1 r b=>?_
 have s: ∀o,Uf l n f=o→K (I (L5 o)) w1:=fun o e=>by rw[←e];exact h _ _ r
 unfold Uf at s
 generalize Y6 l n=g at b s
 refine U2 g.length (fun k w'=>w'=w1∧ ∀j (q:j<g.length),j<k→ ¬g[j].name=f) ⟨rfl,fun j _ h=>by omega⟩ fun k N d O L=>?_
 obtain ⟨A,i⟩:=L
 subst A
 refine Q8 b ?_
 refine Y9 ?_
 refine Q7 (fun t=>?_) (fun t=>?_)
 ·have a:k<g.length:=by simpa using t
  refine Y0 b a ?_
  obtain ⟨J,_⟩:=b.elF a
  (try simp only[↓M1,M1,Mb,reduceIte])
  refine ld r.sat J rfl ?_
  refine P7 ?_
  refine Q7 (fun p=>?_) (fun p=>?_)
  ·have p:g[k].name=f:=by simpa using p
   exact s (some k) (by
    rw[List.findIdx?_eq_some_iff_getElem]
    exact ⟨a,by simpa using p,fun j q=>by simpa using i j (by omega) q⟩)
  ·have p: ¬g[k].name=f:=by simpa using p
   (try simp only[↓M1,M1,Mb,reduceIte])
   refine Y5 b.max a ⟨rfl,fun j q D=>?_⟩
   by_cases e:j=k
   ·subst e;exact p
   ·exact i j q (by omega)
 ·have a: ¬k<g.length:=by simpa using t
  exact s none (by
   rw[List.findIdx?_eq_none_iff]
   intro m H
   obtain ⟨j,q,rfl⟩:=List.getElem_of_mem H
   simpa using i j q (by omega)))
end Go.Proofs.YtjdiakhipmggjaaGreatDoor

namespace Go.Emb
open Go.RowKit Go.Hm
variable {w w' : World} {σ σ' : Q6}
theorem Nxt.of_upd {b:Nat} (d:X3 w σ) (a:Upd w b w') (c:σ b=none):Nxt (fun j=>j=b) w σ w' σ:=
 ⟨Kpt.of_upd a rfl,SLe.refl _,fun _ _=>rfl,(Kpt.of_upd (D:=fun j=>j=b) a rfl).sat d fun k e=>e▸c⟩
theorem Nxt.chain {D E:Nat→Prop} {w1 b:World} {σ1 c:Q6} (h:Nxt D w σ w1 σ1) (k:Nxt E w1 σ1 b c) (f: ∀j,j<w.heap.size→E j→D j):Nxt D w σ b c:=
 ⟨⟨k.kp.os.trans h.kp.os,k.kp.tape.trans h.kp.tape,k.kp.output.trans h.kp.output,Nat.le_trans h.kp.size k.kp.size,fun j a d=>(k.kp.block j (Nat.lt_of_lt_of_le a h.kp.size) fun e=>d (f j a e)).trans (h.kp.block j a d)⟩,h.le.more k.le,fun j a=>(k.old j (Nat.lt_of_lt_of_le a h.kp.size)).trans (h.old j a),k.sat⟩
end Go.Emb
namespace Go.Proofs.YtjdiakhipmggjaaGreatDoor
open Go.Emb Go.RowKit Go.Kd Go.Hm
variable {w w' : World} {K : Value → World → Prop} {σ σ' : Q6} {hp tv : Value} {room : Int} {cs : List Cel} {l : List Cla}
theorem RowsIs.shape {B:Nat} {D:Nat→Prop} {b:Value} (h:RowsIs B D σ w b cs):b.cells= #[b]∧b.oneCell'=true:=by
 obtain ⟨vs,d,_⟩:=h.ex
 obtain ⟨a,c,rfl,_⟩:=d
 exact ⟨rfl,rfl⟩
theorem RowsIs.len {B:Nat} {D:Nat→Prop} {c:Value} (h:RowsIs B D σ w c cs): ∃a b,c= .slice a cs.length b:=by
 obtain ⟨vs,e,d,_⟩:=h.ex
 obtain ⟨a,b,rfl,_⟩:=e
 exact ⟨a,b,by rw[Du d.1]⟩
theorem X1i {B:Nat} {D:Nat→Prop} {v:Value} {vals:List Val} {k:X0} (hs:X3 w σ) (hB:B≤w.heap.size) (h:HeapIs B D σ w hp tv room cs) (C:J7 B T.g 4 N3 σ w v vals) (L: ∀j,v.ownBlock=some j→ ¬D j) (hk:k.length≤U1) (hl:Z1 cs+(1+(vals.length:Int))≤1048576)
 (hh: ∀w' σ' D',Nxt D w σ w' σ'→HeapIs B D' σ' w' hp tv room (cs++[⟨k,vals⟩])→(∀j,D' j→D j∨v.ownBlock=some j∨w.heap.size≤j)→K (.tuple #[I cs.length,I 0]) w'):Q1 P F.b8 [hp,S k,v] w K:=Q1W (by
 obtain ⟨b,lv,E,rfl,M,t,hr,hE,hD⟩:=h.ex
 have ae:=K5 cs
 have Y:=M0 cs
 have c:D b:=(hD b).2 (.inl rfl)
 have H: ∃a d,v= .slice a vals.length d:=by obtain ⟨a,d,e,_⟩:=C;exact ⟨a,d,e⟩
 have W:=t.lt
 unfold Ho
 rw[L8,fa]
 refine Yg t rfl ?_
 refine Q1t C ?_
 refine Xu ⟨by omega,by omega⟩ ?_
 refine Xu ⟨by omega,by omega⟩ ?_
 rw[L8,fa]
 refine Jv t (by simp) rfl rfl fun w1 r p=>?_
 have u:=Nxt.of_upd hs r t.1
 have y:=hr.nx u fun j hj e=>hE (e▸hj)
 have A:=C.nx u fun j hj e=>L j hj (e▸c)
 have N:=u.sat
 rw[L8,fa]
 refine Yg p rfl ?_
 refine V8 (cells:= #[S k,v]) (by obtain ⟨a,d,rfl⟩:=H;kernel_rfl) ?_
 refine Q9I N (by rw[r.size];exact hB) y A (fun j hj e=>L j hj ((hD j).2 (.inr e))) hk (by omega) fun s ah w2 V O z i f q X=>?_
 have m: ∀j,lv.ownBlock=some j→j≠b:=fun j hj e=>hE (e▸i j hj)
 have o:=p.nx z fun e=>m b e rfl
 have g: ¬O b:=fun e=>by
  rcases q b e with e | e | e
  ·exact hE e
  ·exact L b e c
  ·rw[r.size] at e;omega
 rw[L8,fa]
 refine Jv o (by simp) f.shape.1 f.shape.2 fun R Z n=>?_
 have U:=Nxt.of_upd z.sat Z o.1
 have J:=f.nx U fun j hj e=>g (e▸hj)
 rw[L8,fa]
 refine Yg n rfl ?_
 obtain ⟨a2,Q,rfl⟩:=f.len
 rw[Q1p]
 refine Zp ⟨by simp only[List.length_append,List.length_cons,List.length_nil];omega,by simp only[List.length_append,List.length_cons,List.length_nil];omega⟩ ?_
 have e1:(((cs++[(⟨k,vals⟩:Cel)]).length:Nat):Int)-1=cs.length:=by simp
 rw[e1]
 have e2:Z1 (cs++[(⟨k,vals⟩:Cel)])=Z1 cs+(1+(vals.length:Int)):=by rw[T4];simp[Z1]
 have NN:Nxt D w σ R V:=((u.mono fun j _ e=>e▸c).chain z fun j _ e=>(hD j).2 (.inr (i j e))).chain U fun j _ e=>e▸c
 refine hh R V (fun j=>j=b∨O j) NN ⟨b,_,O,rfl,M,?_,J,g,fun j=>Iff.rfl⟩ fun j hj=>?_
 ·rw[e2];exact n
 ·rcases hj with rfl | hj
  ·exact .inl c
  ·rcases q j hj with e | e | e
   ·exact .inl ((hD j).2 (.inr e))
   ·exact .inr (.inl e)
   ·rw[r.size] at e;exact .inr (.inr e))
theorem HeapIs.tab {B:Nat} {D:Nat→Prop} (h:HeapIs B D σ w hp tv room cs): ∃b a E,hp= .pointer (some ⟨b,0,none⟩)∧Y2 σ w b [tv,I room,I (Z1 cs),a]∧RowsIs B E σ w a cs:=by
 obtain ⟨b,a,E,e,f,d,c,hE,hD⟩:=h.ex
 exact ⟨b,a,E,e,d,c⟩
theorem Q5j {B:Nat} {D:Nat→Prop} (b:X3 w σ) (h:HeapIs B D σ w hp tv room cs) (f:0≤W1 room cs) (g:room≤1048576) (c: ∀w',Stp w σ w' σ→K (I (W1 room cs)) w'):Q1 P F.q [hp] w K:=by
 obtain ⟨j,e,d,a,_⟩:=h.freeze b
 exact Q1o e a f g fun w' i=>c w' (Stp.of_below b i)
theorem Fo (k:X0) {σ:Q6}:N3 σ (L9 k) (Value.agg [I (L9 k).sort,I (L9 k).n,S (L9 k).s,I (L9 k).ref].toArray).cells.toList:=by
 refine ⟨rfl,?_⟩
 unfold L9
 split
 ·decide
 split
 ·decide
 split
 ·decide
 ·decide
theorem Q0u (a: ∀c∈l,Qj c) (b:l.length≤100000) (n:X0):(Y6 l n).length≤1000000000000:=by
 have h:=Q3h a n
 have:(l.length+1)*1000000≤100001*1000000:=Nat.mul_le_mul_right _ (by omega)
 omega
def atM (cs:List Cel) (e:Int):Int:=if e=0 then cs.length else 0
set_option maxHeartbeats 1000000 in
theorem Q5I {B:Nat} {D:Nat→Prop} {k:X0} (hs:X3 w σ) (hB:B≤w.heap.size) (h:HeapIs B D σ w hp tv room cs) (ht:Tab σ tv l) (ok:Ok l) (hk:k.length≤U1) (h0:0≤W1 room cs) (h1:room≤1048576)
 (hh: ∀w' σ' D',Nxt D w σ w' σ'→HeapIs B D' σ' w' hp tv room (Yq l room cs k).1→(∀j,D' j→D j∨w.heap.size≤j)→K (.tuple #[I (atM cs (Yq l room cs k).2),I (Yq l room cs k).2]) w'):Q1 P F.aK [hp,S k] w K:=Pb (by
 obtain ⟨b,lv,E,rfl,hm,hr⟩:=h.tab
 unfold Np
 rw[L8,fa]
 refine Yg (i:=0) hm rfl ?_
 refine Q4q hs ht fun w1 σ1 g=>?_
 refine Wj ?_
 unfold Yq at hh
 have ac:=ht.lift ⟨g.le⟩
 cases ho:A9 l k with
 | false=>
  rw[ho] at hh
  simp only[if_pos] at hh
  refine Z9 ?_
  exact hh w1 σ1 D (.of_stp g) (h.up g) fun j o=> .inl o
 | true=>
  rw[ho] at hh
  simp only[Bool.true_eq_false,if_false] at hh
  refine Z4 ?_
  rw[L8,fa]
  refine Yg (i:=0) (hm.up g) rfl ?_
  refine Iv g.sat ac ok.acy ok.len ok.sm fun fv w2 σ2 H U=>?_
  have v:=g.trans H
  have ad:=U.max
  refine Q8 U ?_
  have ag:=Q0u ok.sm ok.len k
  refine Xu ⟨by omega,by omega⟩ ?_
  refine Q5j H.sat (h.up v) h0 h1 fun M z=>?_
  have u:=v.trans z
  have L:=U.up z
  rw[Rm]
  by_cases N:W1 room cs<1+((Y6 l k).length:Int)
  ·rw[if_pos N] at hh
   have e:decide (1+((Y6 l k).length:Int)>W1 room cs)=true:=decide_eq_true N
   rw[e]
   refine Z9 ?_
   exact hh M σ2 D (.of_stp u) (h.up u) fun j o=> .inl o
  rw[if_neg N] at hh
  have e:decide (1+((Y6 l k).length:Int)>W1 room cs)=false:=decide_eq_false N
  rw[e]
  refine Z4 ?_
  refine Q8 L ?_
  have p:=u.bel.size
  refine E5 (Y6 l k).length (fun n x w'=> ∃σ',Stp M σ2 w' σ'∧V6 M.heap.size T.g 4 N3 σ' w' x (((Y6 l k).take n).map fun f=>L9 f.kind)) ⟨σ2,Stp.refl z.sat,V6.nil⟩ fun n x w4 d hn C=>?_
  obtain ⟨σ4,c,r⟩:=C
  refine Y9 ?_
  refine Q7 (fun O=>?_) (fun O=>?_)
  ·have m:n<(Y6 l k).length:=by simpa using O
   have A:=L.up c
   refine Y0 A m ?_
   obtain ⟨p1,r1⟩:=A.elF m
   refine Y4 c.sat p1 rfl ?_
   refine Y8 c.sat (by rfl) rfl (Rep.one (R:=S2) r1) fun q w5 σ5 t Z=>?_
   rw[fa]
   refine ld t.sat Z rfl ?_
   refine Q9u t.sat fun w6 σ6 J=>?_
   have V:=(c.trans t).trans J
   have Q:=(r.up t).up J
   refine Ug (R:=N3) (x:=L9 (Y6 l k)[n].kind) V Q (Fo _) rfl rfl rfl (by rw[List.length_map,List.length_take];omega) (by rw[List.length_map,List.length_take];omega) fun s v' w7 σ7 am Y W _=>?_
   refine N0 ?_
   refine J3 ad m ⟨σ7,Y,?_⟩
   rw[List.take_add_one,List.getElem?_eq_getElem m,List.map_append]
   exact W
  ·have m: ¬n<(Y6 l k).length:=by simpa using O
   rw[List.take_of_length_le (by omega)] at r
   have a:=u.trans c
   have y: ∀j,x.ownBlock=some j→M.heap.size≤j:=fun j o=>(r.mem j o).1
   refine X1i c.sat (Nat.le_trans hB a.bel.size) (h.up a) ((J7.of_acc r).mono (Nat.le_trans hB p)) (fun j o hD=>by
    have:=(h.mem hD).2.1;have:=y j o;omega) hk (by rw[List.length_map];unfold W1 at*;omega) fun w7 σ7 D' N7 h7 X=>?_
   refine J6 (vs:=[_,_]) rfl ?_
   refine J6 (vs:=[_,_]) rfl ?_
   refine hh w7 σ7 D' ((Nxt.of_stp a).chain N7 fun j _ e=>e) h7 fun j o=>?_
   rcases X j o with e | e | e
   ·exact .inl e
   ·right;have:=y j e;omega
   ·right;have:=a.bel.size;omega)
end Go.Proofs.YtjdiakhipmggjaaGreatDoor

namespace Go.Proofs.YtjdiakhipmggjaaGreatDoor
open Go.Emb Go.RowKit Go.Kd Go.Hm
variable {w w' : World} {K : Value → World → Prop} {σ σ' : Q6} {hp tv : Value} {room : Int} {cs : List Cel} {l : List Cla}
def part (m n:Nat) (z:Val):List Val:=(List.range m).map fun i=>if i<n then z else Val.zero
theorem Q9U (m:Nat) (z:Val):part m 0 z=List.replicate m Val.zero:=by
 refine List.ext_getElem (by simp[part]) fun i b a=>by simp[part]
theorem X0x (m:Nat) (z:Val):part m m z=List.replicate m z:=by
 refine List.ext_getElem (by simp[part]) fun i a b=>?_
 have:i<m:=by simpa [part] using a
 simp[part,this]
theorem X0a {m n:Nat} (z:Val):(part m n z).set n z=part m (n+1) z:=by
 refine List.ext_getElem (by simp[part]) fun i b a=>?_
 simp only[part,List.getElem_set,List.getElem_map,List.getElem_range]
 by_cases e:n=i
 ·subst e;simp
 ·rw[if_neg e]
  by_cases h:i<n
  ·simp[h,Nat.lt_succ_of_lt h]
  ·have: ¬i<n+1:=by omega
   simp[h,this]
theorem Q54 {e:X0} (h:G0 l e=true):right e=true:=by
 simp only[G0,Bool.and_eq_true,Bool.not_eq_true',decide_eq_false_iff_not] at h
 have:=h.1.2
 simp only[N1,Bool.or_eq_true,Bool.and_eq_true,decide_eq_true_eq] at this
 rcases this with h1 | h1
 ·exact absurd h1 h.1.1
 ·exact h1.1
theorem X1U {e:X0} (h:right e=true):Yc e≤3:=by
 unfold Yc
 rw[if_pos h]
 simp only[right,Bool.and_eq_true,decide_eq_true_eq] at h
 exact h.1
set_option maxHeartbeats 1000000 in
theorem Q7l {B:Nat} {D:Nat→Prop} {e:X0} {n:Int} (hs:X3 w σ) (hB:B≤w.heap.size) (h:HeapIs B D σ w hp tv room cs) (ht:Tab σ tv l) (hk:e.length≤U1) (h0:0≤W1 room cs) (h1:room≤1048576)
 (hh: ∀w' σ' D',Nxt D w σ w' σ'→HeapIs B D' σ' w' hp tv room (Zc l room cs e n).1→(∀j,D' j→D j∨w.heap.size≤j)→K (.tuple #[I (atM cs (Zc l room cs e n).2),I (Zc l room cs e n).2]) w'):Q1 P F.aR [hp,S e,I n] w K:=Q09 (by
 obtain ⟨b,lv,E,rfl,hm,hr⟩:=h.tab
 unfold Oz
 refine X4e e (Nat.le_trans hk (by decide)) fun w1 ad=>?_
 have y:=Stp.of_below hs ad
 unfold Zc at hh
 have g: ∀{L H},Stp w σ L H→G0 l e=false→K (.tuple #[I 0,I 91]) L:=fun {L H} hS Y=>by
  rw[Y] at hh
  simp only[if_pos] at hh
  exact hh L H D (.of_stp hS) (h.up hS) fun j q=> .inl q
 cases t:(right e&&decide (Yc e≠3)) with
 | false=>
  have Y:G0 l e=false:=by
   cases hx:G0 l e with
   | false=>rfl
   | true=>
    have hr:=Q54 hx
    simp only[G0,Bool.and_eq_true,decide_eq_true_eq] at hx
    rw[hr,Bool.true_and,decide_eq_false_iff_not] at t
    omega
  simp only[Bool.false_eq_true,if_false]
  (try simp only[↓M1,M1,Mb,reduceIte])
  simp only[show decide ((30:Int)=0)=false from by decide,Bool.not_false,↓M1,M1,Mb,reduceIte]
  exact g y Y
 | true=>
  simp only[if_true]
  (try simp only[↓M1,M1,Mb,reduceIte])
  simp only[decide_true,Bool.not_true,↓M1,M1,Mb,reduceIte]
  refine Yg (i:=0) (hm.up y) rfl ?_
  refine Q1a y.sat ht hk fun L H V=>?_
  have a:=y.trans V
  simp only[Bool.and_eq_true,decide_eq_true_eq] at t
  have a0:=X1U t.1
  have k:G0 l e=(!decide (e=H9)&&N1 l e):=by
   unfold G0
   have:decide (Yc e≤2)=true:=decide_eq_true (by omega)
   rw[this,Bool.and_true]
  have en:decide (e=[110,117,108,108])=decide (e=H9):=rfl
  cases M:N1 l e with
  | false=>
   (try simp only[↓M1,M1,Mb,reduceIte])
   exact g a (by rw[k,M,Bool.and_false])
  | true=>
   (try simp only[↓M1,M1,Mb,reduceIte])
   by_cases c:e=H9
   ·have:decide (e=[110,117,108,108])=true:=decide_eq_true c
    rw[this]
    (try simp only[↓M1,M1,Mb,reduceIte])
    exact g a (by rw[k,decide_eq_true c];rfl)
   have:decide (e=[110,117,108,108])=false:=decide_eq_false c
   rw[this]
   (try simp only[↓M1,M1,Mb,reduceIte])
   have Y:G0 l e=true:=by rw[k,M,decide_eq_false c];rfl
   rw[Y] at hh
   simp only[Bool.true_eq_false,if_false] at hh
   by_cases o:n<0
   ·rw[if_pos o] at hh
    rw[decide_eq_true o]
    (try simp only[↓M1,M1,Mb,reduceIte])
    exact hh L H D (.of_stp a) (h.up a) fun j q=> .inl q
   rw[if_neg o] at hh
   rw[decide_eq_false o]
   (try simp only[↓M1,M1,Mb,reduceIte])
   refine Q5j V.sat (h.up a) h0 h1 fun w3 U=>?_
   have A:=a.trans U
   refine K9 ?_
   by_cases N:W1 room cs≤n
   ·rw[if_pos N] at hh
    rw[decide_eq_true N]
    refine Z9 ?_
    exact hh w3 H D (.of_stp A) (h.up A) fun j q=> .inl q
   rw[if_neg N] at hh
   rw[decide_eq_false N]
   refine Z4 ?_
   obtain ⟨m,rfl⟩:=Int.eq_ofNat_of_zero_le (Int.not_lt.1 o)
   have ag:(m:Int)<W1 room cs:=Int.not_le.1 N
   have aq:=M0 cs
   unfold W1 at ag h0
   have r:=A.bel.size
   have ak:=Gs t.1
   refine Q9D (sz:=4) (R:=N3) (x0:=Val.zero) U.sat rfl (by decide) ⟨rfl,by decide⟩ (by omega) (by omega) fun v w4 Z ac C=>?_
   have Q:=J7.of_acc ac
   refine Q1t Q ?_
   rw[List.length_replicate]
   refine U2 m (fun i w'=> ∃σ',Stp w3 H w' σ'∧J7 w3.heap.size T.g 4 N3 σ' w' v (part m i (L9 e))) ⟨H,Z,by rw[Q9U];exact Q⟩ fun i w5 d hi O=>?_
   obtain ⟨σ5,s,J⟩:=O
   refine Y9 ?_
   refine Q7 (fun hc=>?_) (fun hc=>?_)
   ·have z:i<m:=by simpa using hc
    refine Q9u s.sat fun w6 σ6 X=>?_
    have ae:=s.trans X
    refine Q3o (x:=L9 e) ae (J.up X) (by simpa [part] using z) rfl (Fo e) (Rep.one (R:=N3) (Fo (σ:=σ6) e)) fun p u w7 ar af W=>?_
    refine N0 ?_
    rw[X0a] at W
    exact Y5 (by omega) z ⟨σ6,af.stp,W⟩
   ·have z:i=m:=by
     have: ¬i<m:=by simpa using hc
     omega
    subst z
    rw[X0x] at J
    have f:=A.trans s
    refine X1i s.sat (Nat.le_trans hB f.bel.size) (h.up f) (J.mono (Nat.le_trans hB r)) (fun j q hD=>by
     have:=(h.mem hD).2.1;have:=C j q;omega) (Nat.le_trans (show (e++[91,93]).length≤40 by simp only[List.length_append,List.length_cons,List.length_nil];omega) (by decide)) (by rw[List.length_replicate];omega) fun w7 σ7 D' N7 h7 ah=>?_
    refine J6 (vs:=[_,_]) rfl ?_
    refine J6 (vs:=[_,_]) rfl ?_
    rw[Int.toNat_natCast] at hh
    refine hh w7 σ7 D' ((Nxt.of_stp f).chain N7 fun j _ e=>e) h7 fun j q=>?_
    rcases ah j q with e | e | e
    ·exact .inl e
    ·right;have:=C j e;omega
    ·right;have:=f.bel.size;omega)
end Go.Proofs.YtjdiakhipmggjaaGreatDoor

namespace Go.Proofs.YtjdiakhipmggjaaGreatDoor
open Go.Emb Go.RowKit Go.Kd Go.Hm
variable {w : World} {K : Value → World → Prop} {σ : Q6} {v : Value}
def Q3b:List Cla:=[⟨J9,[],[],false,false,false,[],[]⟩,⟨L6,J9,[],false,false,false,[⟨Qr,D2,false⟩],[]⟩]
def gMk (n:X0):Cla:=⟨n,L6,[],false,false,true,[],[]⟩
theorem Q6y:I0=Q3b++U4.map gMk:=rfl
theorem Q9N (U:X3 w σ) (h: ∀z w' g,Stp w σ w' g→V6 w.heap.size T.b 8 V0 g w' z I0→K z w'):Q1 P F.bp [] w K:=Kh (by
 unfold Ns
 refine V8 (cells:= #[S J9,S [], .slice none 0 0, .bool false, .bool false, .bool false, .slice none 0 0, .slice none 0 0]) (by kernel_rfl) ?_
 refine V8 (cells:= #[S Qr,S D2, .bool false]) (by kernel_rfl) ?_
 refine T5 (R:=S2) (sz:=3) U [.agg #[S Qr,S D2, .bool false]] [⟨Qr,D2,false⟩] rfl rfl (by simp;rfl) rfl ⟨⟨rfl,by decide,by decide⟩,trivial⟩ fun W w1 σ1 j l=>?_
 have q:=l
 obtain ⟨H,b,rfl,_⟩:=q
 refine V8 (cells:= #[S L6,S J9, .slice none 0 0, .bool false, .bool false, .bool false, .slice H 1 b, .slice none 0 0]) (by kernel_rfl) ?_
 refine Zh (R:=V0) (sz:=8) j [.agg #[S J9,S [], .slice none 0 0, .bool false, .bool false, .bool false, .slice none 0 0, .slice none 0 0], .agg #[S L6,S J9, .slice none 0 0, .bool false, .bool false, .bool false, .slice H 1 b, .slice none 0 0]]
  Q3b rfl rfl (by simp;exact ⟨rfl,rfl⟩) rfl ⟨⟨_,_,_,rfl,Sl.nil,Sl.nil,Sl.nil,by decide,by decide⟩,⟨_,_,_,rfl,Sl.nil,l,Sl.nil,by decide,by decide⟩,trivial⟩ fun X w2 o y _=>?_
 refine T5 (R:=U8) (sz:=1) o.sat (U4.map S) U4 rfl rfl (by decide) rfl ⟨⟨rfl,by decide⟩,⟨rfl,by decide⟩,⟨rfl,by decide⟩,⟨rfl,by decide⟩,⟨rfl,by decide⟩,⟨rfl,by decide⟩,trivial⟩ fun Y w3 J k i=>?_
 have D:=(j.trans o).trans k
 have Q:U4.length=6:=rfl
 refine E5 U4.length (fun n x w'=> ∃g,Stp w σ w' g∧SLe J g∧V6 w.heap.size T.b 8 V0 g w' x (Q3b++(U4.take n).map gMk)) ⟨J,D,SLe.refl _,y.up k⟩ fun n x w4 d hn m=>?_
 obtain ⟨N,c,e,f⟩:=m
 refine Q8 (i.lift e) ?_
 refine Y9 ?_
 refine Q7 (fun A=>?_) (fun A=>?_)
 ·have a:n<U4.length:=by simpa using A
  have p:=i.lift e
  refine Y0 p a ?_
  obtain ⟨V,E⟩:=p.elS a
  refine X7 c.sat V rfl ?_
  have M:(Q3b++(U4.take n).map gMk).length≤8:=by
   rw[List.length_append,List.length_map,List.length_take,show Q3b.length=2 from rfl];omega
  have r:(U4.take (n+1)).map gMk=(U4.take n).map gMk++[gMk U4[n]]:=by
   rw[List.take_add_one,List.getElem?_eq_getElem a,List.map_append];rfl
  generalize U4[n]=t at E r
  refine V8 (cells:= #[S t,S L6, .slice none 0 0, .bool false, .bool false, .bool true, .slice none 0 0, .slice none 0 0]) (by kernel_rfl) ?_
  have L:V0 N (gMk t) [S t,S L6, .slice none 0 0, .bool false, .bool false, .bool true, .slice none 0 0, .slice none 0 0]:=⟨_,_,_,rfl,Sl.nil,Sl.nil,Sl.nil,E,(by decide:L6.length≤U1)⟩
  refine Ug (x:=gMk t) c f L rfl rfl rfl (by omega) (by omega) fun s z Z O C u B _=>?_
  refine N0 ?_
  refine J3 (by omega) a ⟨O,u,e.more C.le,?_⟩
  rw[r,←List.append_assoc];exact B
 ·have a: ¬n<U4.length:=by simpa using A
  rw[List.take_of_length_le (by omega),←Q6y] at f
  exact h _ _ _ c f)
end Go.Proofs.YtjdiakhipmggjaaGreatDoor

namespace Go.Proofs.YtjdiakhipmggjaaGreatDoor
open Go.Emb Go.RowKit Go.Kd Go.Hm
variable {w : World} {K : Value → World → Prop} {σ : Q6}
end Go.Proofs.YtjdiakhipmggjaaGreatDoor

namespace Go.Hm
open Go.Kd
def Edge (l:List Cla) (i j:Nat):Prop:= ∃c,l[i]? =some c∧ ∃u∈U3 c,Z2 l u=some j
inductive Thr (E : Nat → Nat → Prop) (n : Nat) : Nat → Nat → Prop
  | one {i j : Nat} : E i j → Thr E n i j
  | more {i m j : Nat} : E i m → m < n → Thr E n m j → Thr E n i j
theorem Thr.cut {E:Nat→Nat→Prop} {n i j:Nat} (h:Thr E (n+1) i j):Thr E n i j∨(Thr E n i n∧Thr E n n j):=by
 induction h with
 | one h=>exact .inl (.one h)
 | @more i m j d f _ c=>
  by_cases e:m<n
  ·rcases c with c | ⟨a,b⟩
   ·exact .inl (.more d e c)
   ·exact .inr ⟨.more d e a,b⟩
  ·obtain rfl:m=n:=by omega
   rcases c with c | ⟨a,b⟩
   ·exact .inr ⟨.one d,c⟩
   ·exact .inr ⟨.one d,b⟩
theorem Thr.join {E:Nat→Nat→Prop} {n i k j:Nat} (h:Thr E n i k) (a:k<n) (g:Thr E n k j):Thr E n i j:=by
 induction h with
 | one h=>exact .more h a g
 | more c b _ d=>exact .more c b (d a g)
theorem Q4s {l:List Cla} (f:T9 l) {i j:Nat} (e:i<l.length):Edge l i j↔j<l.length∧ ∃u∈U3 l[i],u=Y3 l j∧Z2 l u=some j:=by
 unfold Edge
 rw[List.getElem?_eq_getElem e]
 constructor
 ·rintro ⟨c,d,u,b,a⟩
  cases d
  exact ⟨(S7 a).1,u,b,(S7 a).2.symm,a⟩
 ·rintro ⟨_,u,b,_,a⟩
  exact ⟨_,rfl,u,b,a⟩
theorem X0N {l:List Cla} (b:T9 l) {i:Nat} (a:i<l.length):lk l (Y3 l i)=some l[i]:=by
 have:=Yh b a
 rwa [List.getD_eq_getElem?_getD,List.getElem?_eq_getElem a] at this
theorem X0J {l:List Cla} (a:T9 l) {i j:Nat} (b:i<l.length) (h:Thr (Edge l) l.length i j):j<l.length∧Wo (lk l) (Y3 l i) (Y3 l j):=by
 induction h with
 | one h=>
  obtain ⟨f,u,e,d,g⟩:=(Q4s a b).1 h
  obtain ⟨c,o,_⟩:=Zm g
  refine ⟨f,_,X0N a b,u,e,?_⟩
  subst d;exact .refl o
 | more f p _ m=>
  obtain ⟨n,k⟩:=m p
  obtain ⟨_,u,e,d,g⟩:=(Q4s a b).1 f
  refine ⟨n,_,X0N a b,u,e,?_⟩
  subst d;exact k.reach
theorem Q9M {l:List Cla} (w:T9 l) {a b:X0} (h:Hm.Reach (lk l) a b): ∀i j,Z2 l a=some i→Z2 l b=some j→i=j∨Thr (Edge l) l.length i j:=by
 induction h with
 | refl _=>
  intro i j n f;rw[n] at f;cases f;exact .inl rfl
 | step r p q t=>
  rename_i a u b c
  intro i j n f
  obtain ⟨d,s⟩:=q.left
  obtain ⟨_,_,k,m,v⟩:=V3 s
  obtain ⟨y,e,g,_⟩:=Zm n
  rw[r] at e;cases e
  have o:Edge l i k:=⟨c,g,u,p,m⟩
  rcases t k j m f with rfl | hT
  ·exact .inr (.one o)
  ·exact .inr (.more o (S7 m).1 hT)
theorem X0s {l:List Cla} (e:T9 l) {i j:Nat} (o:i<l.length) (n:j<l.length) (h:Wo (lk l) (Y3 l i) (Y3 l j)):Thr (Edge l) l.length i j:=by
 obtain ⟨c,g,u,p,f⟩:=h
 rw[X0N e o] at g;cases g
 obtain ⟨d,q⟩:=f.left
 obtain ⟨_,_,k,b,r⟩:=V3 q
 have m:Edge l i k:=⟨_,List.getElem?_eq_getElem o,u,p,b⟩
 have a:Z2 l (Y3 l j)=some j:=by
  have:=e.find (List.getElem?_eq_getElem n)
  unfold Y3
  rw[List.getD_eq_getElem?_getD,List.getElem?_eq_getElem n];exact this
 rcases Q9M e f k j b a with rfl | hT
 ·exact .one m
 ·exact .more m (S7 b).1 hT
theorem X1A {l:List Cla} (a:T9 l) {i j:Nat} (b:i<l.length) (c:j<l.length):Thr (Edge l) l.length i j↔Xj l (Y3 l i) (Y3 l j)=true:=by
 rw[Jq]
 exact ⟨fun h=>(X0J a b h).2,X0s a b c⟩
def I3 (l:List Cla):List (List Bool):=(List.range l.length).map fun i=>(List.range l.length).map fun j=>Xj l (Y3 l i) (Y3 l j)
def Fc (m:Nat→Nat→Bool) (i j:Nat) (b:Bool):Nat→Nat→Bool:=fun x y=>if x=i∧y=j then b else m x y
structure Clos (E : Nat → Nat → Prop) (n k i j : Nat) (m : Nat → Nat → Bool) : Prop where
  sound : ∀ a b, m a b = true → Thr E n a b
  full : ∀ a b, a < n → b < n → Thr E k a b → m a b = true
  done : ∀ a b, a < n → b < n → (a < i ∨ (a = i ∧ b < j)) → Thr E (k + 1) a b → m a b = true
theorem Clos.next {E:Nat→Nat→Prop} {n k i j:Nat} {m:Nat→Nat→Bool} (h:Clos E n k i j m) (r:k<n) (t:i<n) (s:j<n):Clos E n k i (j+1) (Fc m i j (m i j||(m i k&&m k j))):=by
 have f: ∀a b,m a b=true→Fc m i j (m i j||(m i k&&m k j)) a b=true:=by
  intro a b c
  unfold Fc
  split
  ·rename_i e;rw[←e.1,←e.2,c];rfl
  ·exact c
 refine ⟨fun a b c=>?_,fun a b p q g=>f a b (h.full a b p q g),fun a b p q o g=>?_⟩
 ·unfold Fc at c
  split at c
  ·rename_i e
   obtain ⟨rfl,rfl⟩:=e
   simp only[Bool.or_eq_true,Bool.and_eq_true] at c
   rcases c with d | ⟨d,l⟩
   ·exact h.sound _ _ d
   ·exact (h.sound _ _ d).join r (h.sound _ _ l)
  ·exact h.sound _ _ c
 ·by_cases e:a=i∧b=j
  ·obtain ⟨rfl,rfl⟩:=e
   unfold Fc
   rw[if_pos ⟨rfl,rfl⟩]
   rcases g.cut with d | ⟨d,l⟩
   ·rw[h.full _ _ t s d];rfl
   ·rw[h.full _ _ t r d,h.full _ _ r s l];simp
  ·refine f a b (h.done a b p q ?_ g)
   rcases o with d | ⟨d,l⟩
   ·exact .inl d
   ·right;refine ⟨d,?_⟩
    have:b≠j:=fun u=>e ⟨d,u⟩
    omega
theorem Clos.row {E:Nat→Nat→Prop} {n k i:Nat} {m:Nat→Nat→Bool} (h:Clos E n k i n m):Clos E n k (i+1) 0 m:=
 ⟨h.sound,h.full,fun a b e f c d=>h.done a b e f (by omega) d⟩
theorem Clos.round {E:Nat→Nat→Prop} {n k:Nat} {m:Nat→Nat→Bool} (h:Clos E n k n 0 m):Clos E n (k+1) 0 0 m:=
 ⟨h.sound,fun a b c e d=>h.done a b c e (.inl c) d,fun a b c e f d=>by omega⟩
theorem Clos.start {E:Nat→Nat→Prop} {n:Nat} {m:Nat→Nat→Bool} (h: ∀a b,a<n→(m a b=true↔E a b)) (i: ∀a b,n≤a→m a b=false):Clos E n 0 0 0 m:=by
 refine ⟨fun a b c=>?_,fun a b d j f=>?_,fun a b d j g f=>by omega⟩
 ·by_cases d:a<n
  ·exact .one ((h a b d).1 c)
  ·rw[i a b (by omega)] at c;cases c
 ·cases f with
  | one e=>exact (h a b d).2 e
  | more _ k _=>omega
theorem Clos.all {l:List Cla} (c:T9 l) {m:Nat→Nat→Bool} (h:Clos (Edge l) l.length l.length 0 0 m) {i j:Nat} (b:i<l.length) (a:j<l.length):m i j=Xj l (Y3 l i) (Y3 l j):=by
 rw[Bool.eq_iff_iff,←X1A c b a]
 exact ⟨h.sound i j,h.full i j b a⟩
end Go.Hm

namespace Go.Emb
open Go.RowKit Go.Hm
variable {P : Program} {w w0 w1 w' w'' : World} {K : Value → World → Prop} {σ σ0 σ1 σ' : Q6}
theorem X2Z {t e:TypeId} {c n:Nat} {z:Value} [ts:TS P t e] [tz:TZ P e 1 c z] (j:X3 w σ) (l:z.cells= #[z]) (p:n≤1000000) (o:c*n≤281474976710656)
 (h: ∀b w',w.heap.size≤b→Stp w σ w' σ→Y2 σ w' b (List.replicate n z)→K (.slice (some ⟨b,0,none⟩) n n) w'):Lg P t (I n) (I n) w K:=by
 obtain ⟨i,m,d,f,a⟩:=tz.info
 have g:(i.bytes:Int)*(n:Int)≤281474976710656:=by
  rw[f]
  have:((c*n:Nat):Int)≤281474976710656:=by omega
  rwa [Int.natCast_mul] at this
 have k:=run_makeSlice (P:=P) w t e i z ts.h m a .i64 .i64 (n:Int) (n:Int) (by omega) (Int.le_refl _) (by rw[d];simp only[Int.toNat_natCast];omega) g (by omega)
 unfold Lg
 rw[X9 k]
 simp only[Int.toNat_natCast,d,Nat.mul_one]
 refine h _ _ (Nat.le_refl _) (Stp.own j _) ⟨j.none (Nat.le_refl _),e,?_⟩
 rw[heap_alloc_new,l]
 have:madeCells #[z] n=(List.replicate n z).toArray:=by rw[←toList_madeCells_one,Array.toArray_toList]
 rw[this]
def Q5m (n:Nat) (_:Q6) (b:Nat) (cs:List Value):Prop:=cs=[.slice (some ⟨b,0,none⟩) n n]
instance (n:Nat):Rep (Q5m n):=⟨fun _ h=>h,fun h u hu=>by rw[h] at hu;simp at hu;subst hu;rfl⟩
def Q5x (σ:Q6) (xs:List Bool) (cs:List Value):Prop:= ∃v,cs=[v]∧Sl 1 Q3a σ v xs
instance:Rep Q5x:=⟨fun k h=>by obtain ⟨v,h1,h2⟩:=h;exact ⟨v,h1,h2.le k⟩,fun h u hu=>by
 obtain ⟨v,rfl,a,cap,rfl,_⟩:=h
 simp at hu;subst hu;rfl⟩
def bools (n:Nat) (f:Nat→Bool):List Value:=(List.range n).map fun j=> .bool (f j)
theorem Q1d {n:Nat} {f:Nat→Bool}:(bools n f).length=n:=by simp[bools]
theorem Q4c {n j:Nat} {f:Nat→Bool} (h:j<n):(bools n f)[j]? =some (.bool (f j)):=by simp[bools,h]
theorem Q4i {n j:Nat} {f:Nat→Bool} {b:Bool}:(bools n f).set j (.bool b)=bools n (fun x=>if x=j then b else f x):=by
 apply List.ext_getElem?
 intro k
 rw[List.getElem?_set]
 by_cases a:k<n
 ·by_cases e:j=k
  ·subst e;simp[bools,a]
  ·have c: ¬k=j:=fun h=>e h.symm
   simp[bools,a,e,c]
 ·simp[bools,a]
  intro e;omega
theorem Q6T {n:Nat}:List.replicate n (Value.bool false)=bools n fun _=>false:=by
 apply List.ext_getElem?
 intro k
 by_cases a:k<n<;>simp[bools,a]
def Xb (σ:Q6) (w:World) (a:List Nat) (n:Nat) (m:Nat→Nat→Bool):Prop:=a.Nodup∧ ∀i (h:i<a.length),Y2 σ w a[i] (bools n (m i))
theorem Xb.up {a:List Nat} {n:Nat} {m:Nat→Nat→Bool} (h:Xb σ w a n m) (k:Stp w σ w' σ'):Xb σ' w' a n m:=⟨h.1,fun i b=>(h.2 i b).up k⟩
theorem Xb.kp {a:List Nat} {n:Nat} {m:Nat→Nat→Bool} {D:Nat→Prop} (h:Xb σ w a n m) (k:Kpt D w w') (d: ∀b∈a,¬D b):Xb σ w' a n m:=⟨h.1,fun i c=>(h.2 i c).kp k (d _ (List.getElem_mem c))⟩
theorem Xb.lt {a:List Nat} {n:Nat} {m:Nat→Nat→Bool} (h:Xb σ w a n m) {b:Nat} (d:b∈a):b<w.heap.size∧σ b=none:=by
 obtain ⟨i,c,rfl⟩:=List.getElem_of_mem d
 exact ⟨(h.2 i c).lt,(h.2 i c).1⟩
theorem Xb.snoc {d:List Nat} {n b:Nat} {m:Nat→Nat→Bool} {f:Nat→Bool} (h:Xb σ w d n m) (o:b∉d) (k:Y2 σ w b (bools n f)):Xb σ w (d++[b]) n (fun x=>if x=d.length then f else m x):=by
 refine ⟨by rw[List.nodup_append];exact ⟨h.1,by simp,fun a l c g e=>by simp at g;subst g;subst e;exact o l⟩,fun i p=>?_⟩
 rw[List.length_append,List.length_singleton] at p
 by_cases j:i<d.length
 ·rw[List.getElem_append_left j]
  simp only[if_neg (show¬i=d.length by omega)]
  exact h.2 i j
 ·obtain rfl:i=d.length:=by omega
  simp only[List.getElem_concat_length,if_true]
  exact k
theorem Xb.congr {a:List Nat} {n:Nat} {m m':Nat→Nat→Bool} (h:Xb σ w a n m) (c: ∀i,i<a.length→m i=m' i):Xb σ w a n m':=⟨h.1,fun i b=>c i b▸h.2 i b⟩
theorem Xb.keep {a:List Nat} {n:Nat} {m:Nat→Nat→Bool} (V:0<n) (s:n≤1000000): ∀{σ:Q6},Xb σ w a n m→Stp w0 σ0 w σ→(∀b∈a,w0.heap.size≤b)→ ∃σ',Stp w0 σ0 w σ'∧SLe σ σ'∧ ∀i (h:i<a.length),Sl 1 Q3a σ' (.slice (some ⟨a[i],0,none⟩) n n) ((List.range n).map (m i)):=by
 intro σ h C z
 have key: ∀k,k≤a.length→ ∃σ',Stp w0 σ0 w σ'∧SLe σ σ'∧(∀i (h:i<a.length),i<k→Z5 σ' ⟨a[i],0,none⟩ (bools n (m i)))∧ ∀i (h:i<a.length),k≤i→σ' a[i]=none:=by
  intro k
  induction k with
  | zero=>intro _;exact ⟨σ,C,SLe.refl _,fun i _ h=>by omega,fun i d _=>(h.2 i d).1⟩
  | succ k H=>
   intro U
   obtain ⟨σ1,p,g,f,r⟩:=H (by omega)
   have c:k<a.length:=by omega
   have M:Y2 σ1 w a[k] (bools n (m k)):=⟨r k c (Nat.le_refl _),(h.2 k c).2⟩
   obtain ⟨N,Q,A,u,D⟩:=M.keep p (z _ (List.getElem_mem c))
   refine ⟨N,Q,g.more ⟨u⟩,fun i d E=>?_,fun i d O=>?_⟩
   ·by_cases e:i=k
    ·subst e;exact A
    ·exact (f i d (by omega)).le u
   ·rw[D]
    ·exact r i d (by omega)
    ·intro e
     have:=List.nodup_iff_pairwise_ne.1 h.1
     rw[List.pairwise_iff_getElem] at this
     exact this k i c d (by omega) e.symm
 obtain ⟨σ1,p,g,f,_⟩:=key a.length (Nat.le_refl _)
 refine ⟨σ1,p,g,fun i d=>⟨some ⟨a[i],0,none⟩,n,by simp,by simp,by simp only[maxLen];omega,fun e=>(by cases e),?_⟩⟩
 intro b J
 obtain rfl:=Option.some.inj J
 refine ⟨fun _=>rfl,fun j x l=>?_⟩
 have t:j<n:=by have:=(List.getElem?_eq_some_iff.1 l).1;simpa using this
 obtain ⟨R,arr,e,B,y,L⟩:=f i d d
 have q:x=m i j:=by simp[t] at l;exact l.symm
 refine ⟨[.bool x],⟨K1 rfl _,arr,e,B,by rw[S9];exact y,fun k v o=>?_⟩,rfl,rfl⟩
 obtain rfl:k=0:=by cases k with
  | zero=>rfl
  | succ k=>simp at o
 simp at o
 rw[Qe,←o,q]
 have:=L j _ (Q4c t)
 simpa using this
end Go.Emb

namespace Go.Emb
open Go.RowKit Go.Hm
variable {P : Program} {w w0 w1 w' w'' : World} {K : Value → World → Prop} {σ σ0 σ1 σ' : Q6}
theorem Q1l {t e:TypeId} {sz b:Nat} {z:Value} [ts:TS P t e] [tz:TZ P e sz b z] {a:Addr} {n c i:Nat} (f:i<n) (d:K (.pointer (some (a.add (i*sz)))) w):indexAddr P t (.slice (some a) n c) (I i) w K:=by
 rw[Ss (by omega) (by omega)]
 simpa using d
theorem Xb.nx {D:Nat→Prop} {a:List Nat} {n:Nat} {m:Nat→Nat→Bool} (h:Xb σ w a n m) (k:Nxt D w σ w' σ') (d: ∀b∈a,¬D b):Xb σ' w' a n m:=
 ⟨h.1,fun i c=>(h.2 i c).nx k (d _ (List.getElem_mem c))⟩
theorem Xb.set {a:List Nat} {n i j:Nat} {b:Bool} {m:Nat→Nat→Bool} (h:Xb σ w a n m) (g:i<a.length) (o:Upd w a[i] w') (d:Y2 σ w' a[i] ((bools n (m i)).set j (.bool b))):Xb σ w' a n (Fc m i j b):=by
 refine ⟨h.1,fun k c=>?_⟩
 by_cases e:k=i
 ·subst e
  rw[Q4i] at d
  have:Fc m k j b k=fun x=>if x=j then b else m k x:=by funext x;simp[Fc]
  rw[this];exact d
 ·have:Fc m i j b k=m k:=by funext x;simp[Fc,e]
  rw[this]
  refine (h.2 k c).upd o fun f=>e ?_
  rcases Nat.lt_trichotomy k i with hlt | hlt | hlt
  ·have:=List.nodup_iff_pairwise_ne.1 h.1
   rw[List.pairwise_iff_getElem] at this
   exact absurd f (this k i c g hlt)
  ·exact hlt
  ·have:=List.nodup_iff_pairwise_ne.1 h.1
   rw[List.pairwise_iff_getElem] at this
   exact absurd f.symm (this i k g c hlt)
end Go.Emb
namespace Go.Proofs.YtjdiakhipmggjaaGreatDoor
open Go.Emb Go.RowKit Go.Kd Go.Hm
variable {w : World} {K : Value → World → Prop} {σ : Q6} {l : List Cla} {v : Value}
def Mf (l:List Cla) (i j:Nat):Bool:=match l[i]? with
 | none=>false
 | some c=>(U3 c).any fun u=>decide (Z2 l u=some j)
theorem Q9t (l:List Cla) (i j:Nat):Mf l i j=true↔Hm.Edge l i j:=by
 unfold Mf Hm.Edge
 cases h:l[i]? with
 | none=>simp
 | some c=>simp[List.any_eq_true]
theorem Q9x {l:List Cla} {i j:Nat} (h:l.length≤i):Mf l i j=false:=by
 unfold Mf
 rw[List.getElem?_eq_none h]
set_option maxHeartbeats 4000000 in
theorem Q0D (hs:X3 w σ) (hl:Sl 8 V0 σ v l) (ho:T9 l) (hpos:0<l.length) (hlen:l.length≤1000) (hsm: ∀c∈l,Qj c)
 (h: ∀v' w' σ',Stp w σ w' σ'→Sl 1 Q5x σ' v' (I3 l)→K v' w'):Q1 P F.al [v] w K:=Kz (by
 unfold Mo
 refine Ej (R:=Q5m l.length) (e:=T.a6) (Stp.refl hs) (by decide) fun x0 w1 hk1 ha1 _=>?_
 refine E5 l.length (fun n x w'=> ∃σ' bs,Stp w σ w' σ'∧V6 w.heap.size T.a6 1 (Q5m l.length) σ' w' x bs∧Xb σ' w' bs l.length (Mf l)∧bs.length=n∧ ∀b∈bs,w.heap.size≤b∧x.ownBlock≠some b) ⟨σ,[],hk1,ha1,⟨List.nodup_nil,by simp⟩,rfl,by simp⟩ fun n x w2 d hn hinv=>?_
 obtain ⟨σ2,bs,hS2,ha2,hM2,hbl,hb2⟩:=hinv
 refine Q8 (hl.up hS2) ?_
 refine Y9 ?_
 refine Q7 (fun hc=>?_) (fun hc=>?_)
 ·have hn':n<l.length:=by simpa using hc
  have hl2:=hl.up hS2
  refine Q8 hl2 ?_
  refine X2Z hS2.sat rfl (by omega) (by omega) fun b w3 hb3 hk3 hm3=>?_
  rw[Q6T] at hm3
  obtain ⟨lv,fv,mv,p1,r1⟩:=hl2.elC hn'
  obtain ⟨g1,_,_,g4,g5⟩:=r1.parts
  have hsmc:=hsm _ (List.getElem_mem hn')
  have hs3:=hk3.sat
  refine U0 hs3 ?_
  (repeat refine J4 Qc ?_)
  refine Q1C (w:=w3) (σ:=σ2) (R:=U8) (sz:=1) (e:=T.c) [l[n].super] (fun t w hb e=>?_) ?_
  ·subst e;exact Zh hb.stp [_] [l[n].super] rfl rfl (by simp;rfl) rfl ⟨⟨rfl,g5⟩,trivial⟩ fun v' w' hk ha _=>Q3t hb hk ha
  (repeat refine J4 Qc ?_)
  rintro t24 t25 t30 t31 t26 t27 t32 w4 hb4 rfl rfl rfl rfl rfl ⟨f27,a27⟩ rfl
  refine Wh f27 a27 g1 rfl (by simp;have:=hsmc.1;omega) (by simp;have:=hsmc.1;omega) fun v5 w5 hn5 hS5 ha5 hat5=>?_
  obtain ⟨σ6,hS6,hv6,le6,_⟩:=ha5.keep hS5
  have hv6:Sl 1 U8 σ6 v5 (U3 l[n]):=hv6
  have hb3w:w.heap.size≤b:=Nat.le_trans hS2.bel.size hb3
  have hm6:=hm3.up hS6
  have ha6:=(ha2.up hk3).up hS6
  have hM6:=(hM2.up hk3).up hS6
  have hS26:=(hS2.trans hk3).trans hS6
  have hxb: ∀k,x.ownBlock=some k→k≠b:=fun k e=>by have:=(ha2.mem k e).2.1;omega
  have hbbs:b∉bs:=fun e=>by have:=(hM2.lt e).1;omega
  clear hm3 ha2 hM2 hS6 hS5 ha5 a27 f27 hn5 hat5
  refine U2 (U3 l[n]).length (fun k w'=>Stp w σ w' σ6∧V6 w.heap.size T.a6 1 (Q5m l.length) σ6 w' x bs∧Xb σ6 w' bs l.length (Mf l)∧Y2 σ6 w' b (bools l.length fun j=>((U3 l[n]).take k).any fun u=>decide (Z2 l u=some j)))
   ⟨hS26,ha6,hM6,hm6⟩ fun k w7 d7 hk hinv=>?_
  obtain ⟨hS7,ha7,hM7,hm7⟩:=hinv
  refine Q8 hv6 ?_
  refine Y9 ?_
  refine Q7 (fun hc=>?_) (fun hc=>?_)
  ·have hk':k<(U3 l[n]).length:=by simpa using hc
   refine U6 ?_
   refine Y0 hv6 hk' ?_
   obtain ⟨p2,p3⟩:=hv6.elS hk'
   refine X7 hS7.sat p2 rfl ?_
   refine I8 hS7.sat (hl.up hS7) ?_
   refine K9 ?_
   rw[A0]
   have hnx: ∀f:Nat→Bool,(∀j,f j=(((U3 l[n]).take k).any (fun u=>decide (Z2 l u=some j))||decide (Z2 l (U3 l[n])[k]=some j)))→f=fun j=>((U3 l[n]).take (k+1)).any fun u=>decide (Z2 l u=some j):=by
    intro f hf;funext j;rw[hf,L2 hk']
   cases hfc:Z2 l (U3 l[n])[k] with
   | none=>
    simp only[Option.isSome_none,↓M1,M1,Mb,reduceIte]
    intro d
    refine Y5 hv6.max hk' ⟨hS7,ha7,hM7,?_⟩
    rw[←hnx (fun j=>((U3 l[n]).take k).any fun u=>decide (Z2 l u=some j)) (fun j=>by rw[hfc];simp)]
    exact hm7
   | some j=>
    have hj:=(S7 hfc).1
    simp only[Option.isSome_some,L5,↓M1,M1,Mb,reduceIte]
    refine Q1l hj ?_
    rw[Nat.mul_one]
    refine Jv hm7 (by rw[Q1d];exact hj) (by rfl) (by rfl) fun w8 u8 hm8=>?_
    intro d
    rw[Q4i] at hm8
    refine Y5 hv6.max hk' ⟨u8.stp hS7 hb3w hm7.1,ha7.kp (D:=(· =b)) (.of_upd u8 rfl) hxb,hM7.kp (D:=(· =b)) (.of_upd u8 rfl) (fun c hc e=>hbbs (e▸hc)),?_⟩
    rw[←hnx (fun x=>if x=j then true else _) (fun i=>?_)]
    ·exact hm8
    ·rw[hfc]
     by_cases e:i=j
     ·subst e;simp
     ·have: ¬j=i:=fun e'=>e e'.symm
      simp[e,this]
  ·have hk': ¬k<(U3 l[n]).length:=by simpa using hc
   have hk0:k=(U3 l[n]).length:=by omega
   subst hk0
   rw[List.take_of_length_le (Nat.le_refl _)] at hm7
   have hef:(fun j=>(U3 l[n]).any fun u=>decide (Z2 l u=some j))=Mf l n:=by
    funext j;unfold Mf;rw[List.getElem?_eq_getElem hn']
   rw[hef] at hm7
   have hM8:=(hM7.snoc hbbs hm7).congr (m':=Mf l) (fun i _=>by
    by_cases e:i=bs.length
    ·rw[if_pos e,e,hbl]
    ·rw[if_neg e])
   refine Ug (R:=Q5m l.length) (x:=b) hS7 ha7 rfl rfl rfl rfl (by omega) (by omega) fun s v' w9 σ9 hnx hS9 ha9 hat=>?_
   have hdis: ∀c∈bs++[b],w.heap.size≤c∧x.ownBlock≠some c:=by
    intro c hc
    rcases List.mem_append.1 hc with hc | hc
    ·exact hb2 c hc
    ·simp at hc;subst hc;exact ⟨hb3w,fun e=>hxb _ e rfl⟩
   have hlt9: ∀c∈bs++[b],c<w7.heap.size:=fun c hc=>(hM8.lt hc).1
   refine N0 ?_
   refine J3 (by omega) hn' ⟨σ9,bs++[b],hS9,ha9,hM8.nx hnx (fun c hc=>(hdis c hc).2),by rw[List.length_append,hbl];rfl,fun c hc=>⟨(hdis c hc).1,fun e=>?_⟩⟩
   rcases hat with hat | hat
   ·exact (hdis c hc).2 (hat▸e)
   ·have:=hat c e;have:=hlt9 c hc;omega
 ·have hn0:n=l.length:=by
   have: ¬n<l.length:=by simpa using hc
   omega
  obtain ⟨σ8,hS8,hv8,le8,old8⟩:=ha2.keep hS2
  have hlb:bs.length=l.length:=by omega
  have hM8:Xb σ8 w2 bs l.length (Mf l):=⟨hM2.1,fun i hi=>⟨(old8 _ (fun e=>(hb2 _ (List.getElem_mem hi)).2 e.symm)).trans (hM2.2 i hi).1,(hM2.2 i hi).2⟩⟩
  have hpx: ∀i (hi:i<bs.length),Z5 σ8 (Vs 1 x i) [.slice (some ⟨bs[i],0,none⟩) l.length l.length]:=fun i hi=>by
   obtain ⟨cs,h1,_,h2⟩:=hv8.el hi
   have h2:cs=_:=h2
   subst h2;exact h1
  clear ha2 hM2 hS2 le8 old8
  refine U2 l.length (fun k w'=> ∃m,Stp w σ w' σ8∧Xb σ8 w' bs l.length m∧Clos (Hm.Edge l) l.length k 0 0 m) ⟨Mf l,hS8,hM8,Clos.start (fun a b _=>Q9t l a b) (fun a b h=>Q9x h)⟩ fun k w3 d3 hk3 hinv=>?_
  obtain ⟨m3,hS3,hM3,hC3⟩:=hinv
  refine Q8 (hl.up hS3) ?_
  refine Y9 ?_
  refine Q7 (fun hc=>?_) (fun hc=>?_)
  ·have hk':k<l.length:=by simpa using hc
   refine U2 l.length (fun i w'=> ∃m,Stp w σ w' σ8∧Xb σ8 w' bs l.length m∧Clos (Hm.Edge l) l.length k i 0 m) ⟨m3,hS3,hM3,hC3⟩ fun i w4 d4 hi4 hinv=>?_
   obtain ⟨m4,hS4,hM4,hC4⟩:=hinv
   refine Q8 (hl.up hS4) ?_
   refine Y9 ?_
   refine Q7 (fun hc=>?_) (fun hc=>?_)
   ·have hi':i<l.length:=by simpa using hc
    refine U2 l.length (fun j w'=> ∃m,Stp w σ w' σ8∧Xb σ8 w' bs l.length m∧Clos (Hm.Edge l) l.length k i j m) ⟨m4,hS4,hM4,hC4⟩ fun j w5 d5 hj5 hinv=>?_
    obtain ⟨m5,hS5,hM5,hC5⟩:=hinv
    refine Q8 (hl.up hS5) ?_
    refine Y9 ?_
    refine Q7 (fun hc=>?_) (fun hc=>?_)
    ·have hj':j<l.length:=by simpa using hc
     have hi6:i<bs.length:=by omega
     have hk6:k<bs.length:=by omega
     have px_i:=hpx i hi6
     have px_k:=hpx k hk6
     have hrd: ∀{w':World} {K:Value→World→Prop} {a b:Nat} {ha:a<bs.length},Hst w5 σ8 w' σ8→b<l.length→K (.bool (m5 a b)) w'→Q2 P T.v (.pointer (some ((⟨bs[a],0,none⟩:Addr).add (b*1)))) w' K:=fun hst hb hK=>by
      rw[Nat.mul_one]
      exact Qf (((hM5.up hst.stp).2 _ _).cell (Q4c hb)) hK
     refine U0 hS5.sat ?_
     (repeat (apply J4;(· intros;(repeat (rename_i hx;subst hx));(repeat' (first | (with_reducible exact O3 rfl) | (with_reducible exact S4 (Stp.bel (by (repeat (first | exact Stp.refl (by (first | assumption | exact Stp.sat (by assumption) | exact Hst.sat (by assumption))) | assumption | refine Stp.trans ?_ (by first | assumption | exact Hst.stp (by assumption)))))) rfl) | (with_reducible intro _) | (simp only[↓M2,M2,Mb,reduceIte]) | (with_reducible refine Q1l au ?_) | (with_reducible refine hrd au au ?_) | (with_reducible show Q2 _ _ _ _ _;first | refine X7 aS aL aR ?_ | refine Y4 aS aL aR ?_ | refine ld aS aL aR ?_) | (with_reducible show indexAddr _ _ _ _ _ _;refine Y0 aL au ?_) | (with_reducible show X2 _ _ _ _ _ _ _ _;refine Q8 aL ?_) | (with_reducible show F5 _ _ _ _ _ _;refine J0 aR ?_) | (with_reducible show pick _ _ _ _ _ _;refine M3 ?_) | (apply G8;intro hh;(try simp only[hh,reduceIte,↓M2,M2,Mb,reduceIte]))));done)))
     cases h1:m5 i j
     ·simp only[reduceIte]
      (repeat (apply J4;(· intros;(repeat (rename_i hx;subst hx));(repeat' (first | (with_reducible exact O3 rfl) | (with_reducible exact S4 (Stp.bel (by (repeat (first | exact Stp.refl (by (first | assumption | exact Stp.sat (by assumption) | exact Hst.sat (by assumption))) | assumption | refine Stp.trans ?_ (by first | assumption | exact Hst.stp (by assumption)))))) rfl) | (with_reducible intro _) | (simp only[↓M2,M2,Mb,reduceIte]) | (with_reducible refine Q1l au ?_) | (with_reducible refine hrd au au ?_) | (with_reducible show Q2 _ _ _ _ _;first | refine X7 aS aL aR ?_ | refine Y4 aS aL aR ?_ | refine ld aS aL aR ?_) | (with_reducible show indexAddr _ _ _ _ _ _;refine Y0 aL au ?_) | (with_reducible show X2 _ _ _ _ _ _ _ _;refine Q8 aL ?_) | (with_reducible show F5 _ _ _ _ _ _;refine J0 aR ?_) | (with_reducible show pick _ _ _ _ _ _;refine M3 ?_) | (apply G8;intro hh;(try simp only[hh,reduceIte,↓M2,M2,Mb,reduceIte]))));done)))
      (intros;(repeat (rename_i hx;subst hx));(try simp only[↓M2,M2,Mb,reduceIte]))
      rename_i w6 hb6
      refine Q1l hj' ?_
      rw[Nat.mul_one]
      refine Eq.subst (motive:=fun V=>Y1 P T.v (.pointer (some ((⟨bs[i],0,none⟩:Addr).add j))) V w6 _) (show Value.bool (m5 i j||(m5 i k&&m5 k j))=_ from by cases h2:m5 i k<;>simp[h1,h2]) ?_
      refine Jv ((hM5.up hb6.stp).2 i hi6) (by rw[Q1d];exact hj') (by rfl) (by rfl) fun w7 u7 hm7=>?_
      (try simp only[↓M1,M1,Mb,reduceIte])
      exact Y5 (by omega) hj' ⟨_,u7.stp (hS5.trans hb6.stp) (hb2 _ (List.getElem_mem hi6)).1 hm7.1,(hM5.up hb6.stp).set hi6 u7 hm7,hC5.next hk' hi' hj'⟩
     ·simp only[Bool.true_eq_false,reduceIte]
      (repeat (apply J4;(· intros;(repeat (rename_i hx;subst hx));(repeat' (first | (with_reducible exact O3 rfl) | (with_reducible exact S4 (Stp.bel (by (repeat (first | exact Stp.refl (by (first | assumption | exact Stp.sat (by assumption) | exact Hst.sat (by assumption))) | assumption | refine Stp.trans ?_ (by first | assumption | exact Hst.stp (by assumption)))))) rfl) | (with_reducible intro _) | (simp only[↓M2,M2,Mb,reduceIte]) | (with_reducible refine Q1l au ?_) | (with_reducible refine hrd au au ?_) | (with_reducible show Q2 _ _ _ _ _;first | refine X7 aS aL aR ?_ | refine Y4 aS aL aR ?_ | refine ld aS aL aR ?_) | (with_reducible show indexAddr _ _ _ _ _ _;refine Y0 aL au ?_) | (with_reducible show X2 _ _ _ _ _ _ _ _;refine Q8 aL ?_) | (with_reducible show F5 _ _ _ _ _ _;refine J0 aR ?_) | (with_reducible show pick _ _ _ _ _ _;refine M3 ?_) | (apply G8;intro hh;(try simp only[hh,reduceIte,↓M2,M2,Mb,reduceIte]))));done)))
      (intros;(repeat (rename_i hx;subst hx));(try simp only[↓M2,M2,Mb,reduceIte]))
      rename_i w6 hb6
      refine Q1l hj' ?_
      rw[Nat.mul_one]
      refine Eq.subst (motive:=fun V=>Y1 P T.v (.pointer (some ((⟨bs[i],0,none⟩:Addr).add j))) V w6 _) (show Value.bool (m5 i j||(m5 i k&&m5 k j))=_ from by simp[h1]) ?_
      refine Jv ((hM5.up hb6.stp).2 i hi6) (by rw[Q1d];exact hj') (by rfl) (by rfl) fun w7 u7 hm7=>?_
      (try simp only[↓M1,M1,Mb,reduceIte])
      exact Y5 (by omega) hj' ⟨_,u7.stp (hS5.trans hb6.stp) (hb2 _ (List.getElem_mem hi6)).1 hm7.1,(hM5.up hb6.stp).set hi6 u7 hm7,hC5.next hk' hi' hj'⟩
    ·have hj0:j=l.length:=by
      have: ¬j<l.length:=by simpa using hc
      omega
     subst hj0
     refine N0 ?_
     exact Y5 (by omega) hi' ⟨m5,hS5,hM5,hC5.row⟩
   ·have hi0:i=l.length:=by
     have: ¬i<l.length:=by simpa using hc
     omega
    subst hi0
    refine N0 ?_
    exact Y5 (by omega) hk' ⟨m4,hS4,hM4,hC4.round⟩
  ·have hk0:k=l.length:=by
    have: ¬k<l.length:=by simpa using hc
    omega
   subst hk0
   obtain ⟨σ9,hS9,le9,hrows⟩:=hM3.keep hpos (by omega) hS3 (fun b hb=>(hb2 b hb).1)
   refine h _ _ _ hS9 ((hv8.lift le9).conv (by simp[I3,hlb]) fun i hi hj cs hcs=>?_)
   have hcs:cs=_:=hcs
   subst hcs
   refine ⟨_,rfl,?_⟩
   have:=hrows i hi
   have he:(I3 l)[i]=(List.range l.length).map (m3 i):=by
    have hi':i<l.length:=by omega
    simp only[I3,List.getElem_map,List.getElem_range]
    apply List.map_congr_left
    intro j hj
    exact (Clos.all ho hC3 hi' (by simpa using hj)).symm
   rw[he];exact this)
end Go.Proofs.YtjdiakhipmggjaaGreatDoor

namespace Go.Emb
open Go.RowKit Go.Hm
end Go.Emb
namespace Go.Hm
end Go.Hm
namespace Go.Proofs.YtjdiakhipmggjaaGreatDoor
open Go.Emb Go.RowKit Go.Kd Go.Hm
variable {w : World} {K : Value → World → Prop} {σ : Q6} {l : List Cla}
end Go.Proofs.YtjdiakhipmggjaaGreatDoor

namespace Go.Emb
open Go.RowKit Go.Hm
variable {w w0 w1 w' w'' : World} {σ σ0 σ1 σ2 σ' : Q6}
theorem Stp.weak (h:Stp w σ1 w' σ2) (a: ∀b o,σ b=some o→σ1 b=some o):Stp w σ w' σ:=
 ⟨h.bel,fun b o e=>h.sat b o (h.le b o (a b o e)),fun _ _ e=>e,fun _ _=>rfl⟩
end Go.Emb
namespace Go.Proofs.YtjdiakhipmggjaaGreatDoor
open Go.Emb Go.RowKit Go.Kd Go.Hm
variable {w : World} {K : Value → World → Prop} {σ : Q6}
end Go.Proofs.YtjdiakhipmggjaaGreatDoor

namespace Go.Emb
open Go.RowKit Go.Hm
variable {w w' : World} {σ σ' : Q6}
theorem J7.raise {α:Type} {R:Q6→α→List Value→Prop} {B B' sz:Nat} {e:TypeId} {v:Value} {xs:List α} (h:J7 B' e sz R σ w v xs) (m: ∀k,v.ownBlock=some k→B≤k):J7 B e sz R σ w v xs:=by
 obtain ⟨a,j,rfl,r,p,d,n⟩:=h
 refine ⟨a,j,rfl,r,p,fun b c=>⟨(d b c).1,m _ (by subst c;rfl),(d b c).2.2⟩,fun o=>?_⟩
 obtain ⟨g,i,f,rfl,s,q⟩:=n o
 exact ⟨g,i,f,rfl,m g rfl,q⟩
end Go.Emb
namespace Go.Proofs.YtjdiakhipmggjaaGreatDoor
open Go.Emb Go.RowKit Go.Kd Go.Hm
variable {w w' : World} {K : Value → World → Prop} {σ σ' : Q6} {hp tv : Value} {room : Int} {cs : List Cel} {l : List Cla}
theorem RowsIs.rows {B:Nat} {D:Nat→Prop} {n:Value} (h:RowsIs B D σ w n cs) (C:X3 w σ): ∃vs σ',vs.length=cs.length∧X3 w σ'∧SLe σ σ'∧Sl 2 Q3D σ' n (Qy vs cs)∧(∀i (h:i<vs.length) (v:i<cs.length),J7 B T.g 4 N3 σ w vs[i] cs[i].vals∧ ∀k,vs[i].ownBlock=some k→D k)∧(∀k,¬D k→σ' k=σ k)∧
 ∀i (h:i<vs.length) (v:i<cs.length) vals' m,Kpt (fun k=>vs[i].ownBlock=some k) w m→J7 B T.g 4 N3 σ m vs[i] vals'→RowsIs B D σ m n (cs.set i ⟨cs[i].kind,vals'⟩):=by
 obtain ⟨vs,t,g,u,hD⟩:=h.ex
 obtain ⟨r,o⟩:=List.pairwise_cons.1 u
 obtain ⟨σ',y,A,z,o1⟩:=t.freeze C
 refine ⟨vs,σ',g.1,y,A,z,fun i c d=>⟨g.2 i c d,fun k b=>(hD k).2 ⟨vs[i],by simp[List.getElem_mem c],b⟩⟩,fun k b=>o1 k fun e=>b ((hD k).2 ⟨n,by simp,e.symm⟩),fun i c d vals' m b E=>⟨vs,?_,⟨by simpa using g.1,fun j s q=>?_⟩,u,hD⟩⟩
 ·have e:Qy vs (cs.set i ⟨cs[i].kind,vals'⟩)=Qy vs cs:=by
   refine List.ext_getElem (by simp[Qy]) fun j J H=>?_
   simp only[Qy,List.getElem_zipWith,List.getElem_set]
   split
   ·rename_i e;subst e;rfl
   ·rfl
  rw[e]
  exact t.kp b fun k a f=>r _ (List.getElem_mem c) k a f
 ·have p:j<cs.length:=by simpa using q
  simp only[List.getElem_set]
  by_cases e:i=j
  ·subst e;simp only[if_pos];exact E
  ·simp only[if_neg e]
   refine (g.2 j s p).kp b fun k a f=>?_
   have hp:=List.pairwise_iff_getElem.1 o
   rcases Nat.lt_or_gt_of_ne e with hlt | hlt
   ·exact hp i j c s hlt k f a
   ·exact hp j i s c hlt k a f
theorem Q9F {i:Nat} (a:i<cs.length) {vals':List Val} (h:vals'.length=cs[i].vals.length):Z1 (cs.set i ⟨cs[i].kind,vals'⟩)=Z1 cs:=by
 unfold Z1
 rw[List.map_set]
 simp only[h]
 have b:1+(cs[i].vals.length:Int)=(cs.map (fun c=>1+(c.vals.length:Int)))[i]'(by simpa using a):=by simp
 rw[b,List.set_getElem_self]
set_option maxHeartbeats 1000000 in
theorem X1u {B:Nat} {D:Nat→Prop} {r i:Int} {v:Val} (hs:X3 w σ) (hg:Glb σ) (h:HeapIs B D σ w hp tv room cs) (ht:Tab σ tv l) (ok:Ok l) (good: ∀c∈cs,GoodC W6 l cs c) (hv:N3 σ v [I v.sort,I v.n,S v.s,I v.ref])
 (hh: ∀w' σ',Nxt D w σ w' σ'→HeapIs B D σ' w' hp tv room (H2 W6 l cs r i v).1→K (I (H2 W6 l cs r i v).2) w'):Q1 P F.b6 [hp,I r,I i, .agg [I v.sort,I v.n,S v.s,I v.ref].toArray] w K:=Q1T (by
 unfold Hq
 refine Z0 hs fun q w1 σ1 hk1 hq=>?_
 have h1:=h.up hk1
 have hs1:=hk1.sat
 obtain ⟨σf,sf,lef,hsl,_⟩:=h1.freeze hs1
 refine Q7j sf hsl ?_
 unfold H2 at hh
 refine Xh ?_
 by_cases h0:E4 cs r i=0
 case neg=>
  have e:decide (E4 cs r i=0)=false:=decide_eq_false h0
  rw[if_pos h0] at hh
  rw[e]
  refine Z9 ?_
  exact hh _ _ (.of_stp hk1) h1
 have e:decide (E4 cs r i=0)=true:=decide_eq_true h0
 rw[if_neg (fun hn=>hn h0)] at hh
 rw[e]
 refine Z4 ?_
 obtain ⟨j,m,rfl,rfl,hj,hm⟩:=Lp h0
 rw[L4 hj,Int.toNat_natCast] at hh
 have hsl0:=hsl
 obtain ⟨a,lv,rfl,la,ls⟩:=hsl
 obtain ⟨vv,p1,p2,p3⟩:=Sl.elO ls hj
 have hqf:=hq.lift lef
 have lesf:SLe σ σf:=SLe.more ⟨hk1.le⟩ lef
 have htf:=ht.lift lesf
 have hone:vv.cells= #[vv]∧vv.oneCell'=true:=by obtain ⟨a,c,rfl,_⟩:=p2;exact ⟨rfl,rfl⟩
 have hgc:=good cs[j] (List.getElem_mem hj)
 have hif:elem cs[j].kind=[]→m<(Y6 l cs[j].kind).length:=fun e=>by
  rcases hgc.is with h | h
  ·exact absurd e h
  ·rw[←h.2];exact hm
 refine U0 sf ?_
 (repeat (apply J4;(· intros;(repeat (rename_i hx;subst hx));(repeat' (first | (with_reducible exact O3 rfl) | (with_reducible exact S4 (Stp.bel (by (repeat (first | exact Stp.refl (by (first | assumption | exact Stp.sat (by assumption) | exact Hst.sat (by assumption))) | assumption | refine Stp.trans ?_ (by first | assumption | exact Hst.stp (by assumption)))))) rfl) | (with_reducible intro _) | (simp only[↓M2,M2,Mb,reduceIte]) | (with_reducible show Q2 _ _ _ _ _;first | refine X7 aS aL aR ?_ | refine Y4 aS aL aR ?_ | refine ld aS aL aR ?_) | (with_reducible show indexAddr _ _ _ _ _ _;refine Y0 aL au ?_) | (with_reducible show X2 _ _ _ _ _ _ _ _;refine Q8 aL ?_) | (with_reducible show F5 _ _ _ _ _ _;refine J0 aR ?_) | (with_reducible show pick _ _ _ _ _ _;refine M3 ?_) | (with_reducible show Q1 _ _ _ _ _;first | refine Q9J au au au au au au au ?_) | (apply G8;intro hh;(try simp only[hh,reduceIte,↓M2,M2,Mb,reduceIte]))));done)))
 (intros;(repeat (rename_i hx;subst hx)))
 rename_i w2 hb2
 refine Q8T hb2.sat (hg.lift lesf) hsl0 htf ok hv.2.2.2.1 (Q2F ok p3 m) fun w3 σ3 hk3=>?_
 have hk13:=(hb2.stp.trans hk3).weak lef.le
 have h3:=h1.up hk13
 have hS3:=hk1.trans hk13
 have hs3:=hk13.sat
 refine Wj ?_
 cases hf:C7 W6 l cs v (Xl l cs[j].kind m) with
 | false=>
  rw[hf] at hh
  simp only[Bool.false_eq_true,if_false] at hh
  refine Z9 ?_
  exact hh _ _ (.of_stp hS3) h3
 | true=>
  rw[hf] at hh
  simp only[if_true] at hh
  refine Z4 ?_
  obtain ⟨b,lv',E,hpe,hbB,hm3,hr3,hE,hD⟩:=h3.ex
  obtain ⟨vs,σg,hvl,sg,leg,slg,hrow,hog,hset⟩:=hr3.rows hs3
  obtain ⟨σh,sh,leh,lih,_⟩:=(show Y2 σg w3 b _ from ⟨(hog b hE).trans hm3.1,hm3.2⟩).freeze sg
  cases hpe
  have slh:=slg.lift leh
  have hqh:=(hq.up hk13).lift (leg.more leh)
  have hjv:j<vs.length:=by rw[hvl];exact hj
  have hjo:j<(Qy vs cs).length:=by rw[Du hvl];exact hj
  obtain ⟨cs5,p5,_,r5⟩:=slh.el hjo
  have eo:(Qy vs cs)[j]=(cs[j].kind,vs[j]):=by simp[Qy]
  rw[eo] at r5
  obtain ⟨rfl,_⟩:=r5
  refine U0 sh ?_
  (repeat refine J4 Qc ?_)
  (intros;(repeat (rename_i hx;subst hx)))
  rename_i w4 hb4
  have hk34:=Stp.of_below hs3 hb4.stp.bel
  have N34:Nxt (fun _=>False) w3 σ1 w4 σ1:= .of_stp hk34
  obtain ⟨hrj,hrD⟩:=hrow j hjv hj
  have hrj4:=hrj.up hk34
  have hv1:N3 σ1 v [I v.sort,I v.n,S v.s,I v.ref]:=hv
  refine Q3o (w0:=Ku w4) (σ0:=fun _=>none) (x:=v) (Yu hk34.sat) (hrj4.mono (Nat.zero_le B)) hm rfl hv1 (Rep.one hv1) fun p u w5 hkp hb5 hq5=>?_
  have hkp5:Kpt (fun k=>vs[j].ownBlock=some k) w3 w5:=(Kpt.of_below hk34.bel).trans hkp
  have hr5:=hset j hjv hj _ w5 hkp5 (hq5.raise fun k hk=>(hrj.mem hk).1)
  have N35:Nxt (fun k=>vs[j].ownBlock=some k) w3 σ1 w5 σ1:=⟨hkp5,SLe.refl _,fun _ _=>rfl,hb5.sat⟩
  have hm5:=hm3.nx N35 fun e=>hE (hrD b e)
  have hsv:B8 cs j m v=cs.set j ⟨cs[j].kind,cs[j].vals.set m v⟩:=by unfold B8;rw[L4 hj,Int.toNat_natCast,Int.toNat_natCast]
  rw[hsv] at hh
  have htk:=Q9F hj (vals':=cs[j].vals.set m v) (by simp)
  refine hh w5 σ1 ((Nxt.of_stp hS3).chain N35 fun k _ e=>(hD k).2 (.inr (hrD k e))) ⟨b,lv',E,rfl,hbB,?_,hr5,hE,hD⟩
  rw[htk];exact hm5)
end Go.Proofs.YtjdiakhipmggjaaGreatDoor

namespace Go.Emb
open Go.RowKit Go.Hm
variable {P : Program} {w w' : World} {K : Value → World → Prop} {σ σ' : Q6}
theorem X40 {c:List TypeId} {t:TypeId} {cs:List Bool} {k:IntKind} {a b:Int} (h:K (.int k (max a b)) w):X2 P .max c t cs [.int k a, .int k b] w K:=by
 have d:(builtin .max c.toArray t cs.toArray #[.int k a, .int k b]).run P w= .ok (.value (.int k (max a b))) w:=by
  have:=run_max_int2 (P:=P) (w:=w) c.toArray t k k a b
  have e:(if b>a then b else a)=max a b:=by split<;>omega
  rw[e] at this
  simp[builtin,this]
 unfold X2
 rw[T7];unfold P8
 rw[d];exact h
theorem X3Q {c:List TypeId} {t:TypeId} {cs:List Bool} {k:IntKind} {a b:Int} (h:K (.int k (min a b)) w):X2 P .min c t cs [.int k a, .int k b] w K:=by
 have d:(builtin .min c.toArray t cs.toArray #[.int k a, .int k b]).run P w= .ok (.value (.int k (min a b))) w:=by
  have:=run_min_int2 (P:=P) (w:=w) c.toArray t k k a b
  have e:(if b<a then b else a)=min a b:=by split<;>omega
  rw[e] at this
  simp[builtin,this]
 unfold X2
 rw[T7];unfold P8
 rw[d];exact h
theorem X3u {α:Type} {R:Q6→α→List Value→Prop} {B sz:Nat} {e:TypeId} {v:Value} {xs ys:List α} {t:TypeId} {f:Nat} {z:Value} [ts:TS P t e] [tz:TZ P e sz f z] (h:J7 B e sz R σ w v (xs++ys))
 (i: ∀d,J7 B e sz R σ w d xs→d.ownBlock=v.ownBlock→K d w):S1 P t v none (some (I xs.length)) none w K:=by
 have g:=h
 obtain ⟨a,b,rfl,k,p,m,o⟩:=g
 rw[List.length_append] at k
 have c:J7 B e sz R σ w (.slice a xs.length b) xs:=h.pre rfl
 generalize (xs++ys).length=N at*
 have hh: ∀w:World,(Instr.sliceBounds true N b none (some (I xs.length)) none).run P w= .ok (0,xs.length,b) w:=by
  intro w
  have q:(xs.length:Int)≤b:=by omega
  have j:xs.length≤b:=by omega
  simp[Instr.sliceBounds,Instr.sliceBound,asIntOf,j]
  try (intros;omega)
 unfold S1
 have:(Instr.sliceAt t (.slice a N b) none (some (I xs.length)) none).run P w= .ok (.slice (if b=0 then a else a.map (·.add (0*sz))) (xs.length-0) (b-0)) w:=by
  simp[Instr.sliceAt,run_underlying ts.h,Instr.slice,hh,L3 tz]
 rw[X9 this]
 have n:(if b=0 then a else a.map (·.add (0*sz)))=a:=by
  split
  ·rfl
  ·cases a<;>simp[add_zero]
 rw[n,Nat.sub_zero,Nat.sub_zero]
 exact i _ c (by cases a<;>rfl)
end Go.Emb
namespace Go.Proofs.YtjdiakhipmggjaaGreatDoor
open Go.Emb Go.RowKit Go.Kd Go.Hm
variable {w w' : World} {K : Value → World → Prop} {σ σ' : Q6} {hp tv : Value} {room : Int} {cs : List Cel} {l : List Cla}
theorem X3m {v:Val} {ds:List Value} {n:Int} {q:Addr} (f:X3 w σ) (c:N3 σ v ds) (d:Z5 σ q [I n]) (h: ∀w',Below w.heap.size w w'→K (.bool (C6 n v)) w'):Q1 P F.bH [.agg ds.toArray, .pointer (some q)] w K:=Aa (by
 obtain ⟨rfl,_⟩:=c
 unfold Dl
 refine Z0 f fun g w1 σ1 a b=>?_
 unfold C6 at h
 refine W2 ?_
 refine ld a.sat b rfl ?_
 refine I1 ?_
 by_cases e:v.sort=4
 ·rw[decide_eq_true e] at h⊢
  (try simp only[↓M1,M1,Mb,reduceIte])
  refine ld a.sat b rfl ?_
  refine X7 a.sat (d.up a) rfl ?_
  (try simp only[↓M1,M1,Mb,reduceIte])
  exact h _ a.bel
 ·rw[decide_eq_false e] at h⊢
  (try simp only[↓M1,M1,Mb,reduceIte])
  exact h _ a.bel)
theorem Q8Y {vs:List Value} {c:Cel} (h:vs.length=cs.length+1): ∃v,Qy vs (cs++[c])=Qy (vs.take cs.length) cs++[(c.kind,v)]:=by
 refine ⟨vs[cs.length],?_⟩
 have e:vs=vs.take cs.length++[vs[cs.length]]:=by
  rw[List.take_append_getElem (by omega)]
  rw[List.take_of_length_le (by omega)]
 conv=>lhs;rw[e]
 unfold Qy
 rw[List.zipWith_append (by simp;omega)]
 rfl
theorem X3Y {B n:Nat} {D:Nat→Prop} {f:Value} {c:Cel} (z:n=cs.length) (h:RowsIs B D σ w f (cs++[c])) (y: ∀a D',RowsIs B D' σ w a cs→(∀j,D' j→D j)→K a w):S1 P T.f f none (some (I n)) none w K:=by
 subst z
 obtain ⟨vs,q,r,t,hD⟩:=h.ex
 have b:vs.length=cs.length+1:=by rw[r.1];simp
 obtain ⟨C,u⟩:=Q8Y (c:=c) b
 rw[u] at q
 have A:cs.length=(Qy (vs.take cs.length) cs).length:=by rw[Du (by simp[b])]
 rw[A]
 refine X3u q fun a g s=>?_
 refine y a (fun k=> ∃v∈a::vs.take cs.length,v.ownBlock=some k) ⟨vs.take cs.length,g,⟨by simp[b],fun i E o=>?_⟩,?_,fun k=>Iff.rfl⟩ ?_
 ·have p:i<vs.length:=by omega
  have:=r.2 i p (by simp;omega)
  rw[List.getElem_append_left o] at this
  simpa using this
 ·obtain ⟨m,e⟩:=List.pairwise_cons.1 t
  exact List.pairwise_cons.2 ⟨fun v hv k d=>m v (List.mem_of_mem_take hv) k (s▸d),e.sublist (List.take_sublist _ _)⟩
 ·rintro k ⟨v,hv,d⟩
  rcases List.mem_cons.1 hv with rfl | hv
  ·exact (hD k).2 ⟨f,by simp,s▸d⟩
  ·exact (hD k).2 ⟨v,by simp[List.mem_of_mem_take hv],d⟩
set_option maxHeartbeats 2000000 in
theorem X11 {B:Nat} {D:Nat→Prop} {n:Int} (hs:X3 w σ) (h:HeapIs B D σ w hp tv room cs) (hl:Z1 cs≤1048576) (hn:Yw n)
 (hh: ∀w' σ' D',Nxt D w σ w' σ'→HeapIs B D' σ' w' hp tv room (Sr cs n)→(∀j,D' j→D j)→K (.tuple #[]) w'):Q1 P F.aG [hp,I n] w K:=Q23 (by
 have hcl:=K5 cs
 unfold Hr
 refine Q5w hs fun b0 w1 hb0 hk1 hm1=>?_
 have hm1:Y2 σ w1 b0 [I n]:=hm1
 refine Q8w hm1 rfl ?_
 refine X40 ?_
 refine st0 hm1 (by simp) rfl rfl fun w2 u2 hm2=>?_
 have hm2:Y2 σ w2 b0 [I (max n 0)]:=hm2
 unfold Sr at hh
 obtain ⟨m,hmE⟩:=Int.eq_ofNat_of_zero_le (show 0≤max n 0 by omega)
 rw[hmE] at hm2 hh
 have hmx:(m:Int)≤9223372036854775807:=by have:=hn.2;omega
 have hk2:Stp w σ w2 σ:=u2.stp hk1 hb0 hm1.1
 obtain ⟨σ2,hS2,hq2,le2,_⟩:=hm2.keep hk2 hb0
 have h2:=h.up hS2
 have hs2:=hS2.sat
 obtain ⟨σf,sf,lef,hsl,_⟩:=h2.freeze hs2
 rw[Int.toNat_natCast] at hh
 obtain ⟨a,lv,rfl,la,ls⟩:=hsl
 have hqf:=hq2.le lef.le
 refine U0 sf ?_
 (repeat (apply J4;(· intros;(repeat (rename_i hx;subst hx));(repeat' (first | (with_reducible exact O3 rfl) | (with_reducible exact S4 (Stp.bel (by (repeat (first | exact Stp.refl (by (first | assumption | exact Stp.sat (by assumption) | exact Hst.sat (by assumption))) | assumption | refine Stp.trans ?_ (by first | assumption | exact Hst.stp (by assumption)))))) rfl) | (with_reducible intro _) | (simp only[↓M2,M2,Mb,reduceIte]) | (with_reducible refine X3Q ?_) | (with_reducible show Q2 _ _ _ _ _;first | refine X7 aS aL aR ?_ | refine Y4 aS aL aR ?_ | refine ld aS aL aR ?_) | (with_reducible show indexAddr _ _ _ _ _ _;refine Y0 aL au ?_) | (with_reducible show X2 _ _ _ _ _ _ _ _;refine Q8 aL ?_) | (with_reducible show F5 _ _ _ _ _ _;refine J0 aR ?_) | (with_reducible show pick _ _ _ _ _ _;refine M3 ?_) | (apply G8;intro hh;(try simp only[hh,reduceIte,↓M2,M2,Mb,reduceIte]))));done)))
 (intros;(repeat (rename_i hx;subst hx)))
 rename_i w3 hb3
 have hmin:min (m:Int) (cs.length:Int)=((min m cs.length:Nat):Int):=by omega
 rw[hmin]
 refine Ec ls none (some (I (min m cs.length:Nat))) 0 (min m cs.length) (.inl ⟨rfl,rfl⟩) (.inr rfl) (Nat.zero_le _) (Nat.min_le_right _ _) fun v3 hv3=>?_
 rw[List.drop_zero,Nat.sub_zero,List.take_eq_take_min.symm] at hv3
 refine Q8 hv3 ?_
 have hk23: ∀{w' σ'},Stp w3 σf w' σ'→Stp w2 σ2 w' σ2:=fun hk=>(hb3.stp.trans hk).weak lef.le
 refine U2 (cs.take m).length (fun i w'=> ∃σ',Stp w3 σf w' σ'∧((cs.take m).take i).any (fun c=>c.vals.any (C6 m))=false) ⟨σf,Stp.refl hb3.sat,rfl⟩ fun i w4 d hi hinv=>?_
 obtain ⟨σ4,hk4,hno⟩:=hinv
 refine Y9 ?_
 refine Q7 (fun hc=>?_) (fun hc=>?_)
 ·have hi':i<(cs.take m).length:=by simpa using hc
  have hv4:=hv3.up hk4
  obtain ⟨vv,p1,p2,p3⟩:=Sl.elO hv4 hi'
  refine Y0 hv4 hi' ?_
  refine Y4 hk4.sat p1 rfl ?_
  refine Y8 hk4.sat (by rfl) rfl (Rep.one (R:=H0) ⟨vv,rfl,p2,p3⟩) fun q5 w5 σ5 hk5 hq5=>?_
  rw[fa]
  refine ld hk5.sat hq5 rfl ?_
  rw[Qh]
  have hq5f:=hqf.lift (SLe.more ⟨hk4.le⟩ ⟨hk5.le⟩)
  refine Rw (C6 m) hk5.sat (p2.up hk5) (fun v ds w6 K hv hs6 hr hlen hK=>Z7 (first:=[]) (caps:=[.pointer (some ⟨b0,0,none⟩)]) (X3m hs6 hr hq5f hK)) fun w6 hb6=>?_
  have hk6:=(hk4.trans hk5).trans (Stp.of_below hk5.sat hb6)
  have hnx:=L2 (p:=fun c:Cel=>c.vals.any (C6 m)) hi'
  cases hany:(cs.take m)[i].vals.any (C6 m) with
  | true=>
   refine Z9 ?_
   rw[if_pos (C2 hi' hany)] at hh
   have hS:=hS2.trans (hk23 hk6)
   exact hh _ _ D (.of_stp hS) (h.up hS) fun j hj=>hj
  | false=>
   refine Z4 ?_
   refine N0 ?_
   refine Y5 hv3.max hi' ⟨σ5,hk6,?_⟩
   rw[hnx,hno,hany];rfl
 have hi': ¬i<(cs.take m).length:=by simpa using hc
 rw[E3 hi'] at hno
 rw[if_neg (by rw[hno];simp)] at hh
 have hS4:=hS2.trans (hk23 hk4)
 have h4:=h.up hS4
 refine Pd (fun k (_:Unit) w'=> ∃D',Nxt D w σ w' σ2∧HeapIs B D' σ2 w' (.pointer (some a)) tv room (cs.take k)∧(∀j,D' j→D j)∧k≤cs.length∧(m≤k∨k=cs.length)) cs.length ⟨D, .of_stp hS4,by rw[List.take_length];exact h4,fun j hj=>hj,Nat.le_refl _, .inr rfl⟩ ?_
 rintro again k x d w5 ⟨D5,N5,h5,hD5,hkl,hmk⟩ hag
 have hs5:=N5.sat
 have htk:Z1 (cs.take k)≤1048576:=by
  have e:Z1 cs=Z1 (cs.take k)+Z1 (cs.drop k):=by rw[←T4,List.take_append_drop]
  have:=M0 (cs.drop k)
  omega
 obtain ⟨σg,sg,leg,hslg,_⟩:=h5.freeze hs5
 obtain ⟨ag,lvg,hpe,lag,lsg⟩:=hslg
 cases hpe
 have hqg:=(show Z5 σ2 ⟨b0,0,none⟩ [I (m:Int)] from hq2).lift leg
 have hlk:(cs.take k).length=k:=by rw[List.length_take];omega
 refine U0 sg ?_
 (repeat refine J4 Qc ?_)
 (intros;(repeat (rename_i hx;subst hx)))
 rename_i w6 hb6
 have hk56:Stp w5 σ2 w6 σ2:=hb6.stp.weak leg.le
 have h6:=h5.up hk56
 have N6:=N5.chain (Nxt.of_stp (D:=fun _=>False) hk56) fun j _ e=>e.elim
 rw[hlk]
 refine Q1z ?_
 by_cases hgt:m<k
 case neg=>
  rw[decide_eq_false (show¬(m:Int)<(k:Int) by omega)]
  refine Z4 ?_
  have e:cs.take m=cs.take k:=by
   rcases hmk with e | e
   ·rw[show m=k by omega]
   ·rw[e,List.take_length,List.take_of_length_le (by omega)]
  rw[e] at hh
  exact hh w6 σ2 D5 N6 h6 hD5
 rw[decide_eq_true (show (m:Int)<(k:Int) by omega)]
 refine Z9 ?_
 obtain ⟨k1,rfl⟩: ∃k1,k=k1+1:=⟨k-1,by omega⟩
 have hk1l:k1<cs.length:=by omega
 have esnoc:cs.take (k1+1)=cs.take k1++[cs[k1]]:=by rw[List.take_append_getElem hk1l]
 have hk1t:(cs.take k1).length=k1:=by rw[List.length_take];omega
 obtain ⟨σh,sh,leh,hslh,_⟩:=h6.freeze hk56.sat
 obtain ⟨b,lv6,E6,hpb,hbB,hm6,hr6,hE6,hDe6⟩:=h6.ex
 cases hpb
 obtain ⟨ah,lvh,hpe,lah,lsh⟩:=hslh
 cases hpe
 rw[L8,fa]
 refine Yg hm6 rfl ?_
 obtain ⟨al,capl,hle⟩:=hr6.len
 rw[hlk] at hle
 subst hle
 rw[Q1p]
 refine Zp ⟨by omega,by omega⟩ ?_
 have ek:((k1+1:Nat):Int)-1=(k1:Int):=by omega
 rw[ek]
 have hkk:k1<(cs.take (k1+1)).length:=by omega
 obtain ⟨vvk,pk,pk2,_⟩:=Sl.elO lsh hkk
 have evk:((cs.take (k1+1))[k1]'hkk).vals=cs[k1].vals:=by simp
 rw[evk] at pk2
 refine U0 sh ?_
 (repeat refine J4 Qc ?_)
 (intros;(repeat (rename_i hx;subst hx)))
 rename_i w7 hb7
 have hk67:Stp w6 σ2 w7 σ2:=hb7.stp.weak leh.le
 have htn:=M0 (cs.take k1)
 have etk:Z1 (cs.take (k1+1))=Z1 (cs.take k1)+(1+(cs[k1].vals.length:Int)):=by
  rw[esnoc,T4];simp[Z1]
 rw[G1 (by omega) (by omega)]
 refine Zp ⟨by omega,by omega⟩ ?_
 have eu:Z1 (cs.take (k1+1))-(1+(cs[k1].vals.length:Int))=Z1 (cs.take k1):=by omega
 rw[eu]
 have hm7:=hm6.up hk67
 have hr7:=hr6.up hk67
 rw[L8,fa]
 refine Jv hm7 (by simp) rfl rfl fun w8 u8 hm8=>?_
 have N78:=Nxt.of_upd hk67.sat u8 hm7.1
 have hr8:=hr7.nx N78 fun j hj e=>hE6 (e▸hj)
 rw[L8,fa]
 refine Yg hm8 rfl ?_
 rw[esnoc] at hr8
 refine X3Y hk1t.symm hr8 fun lv9 E9 hr9 hE9=>?_
 rw[L8,fa]
 refine Jv hm8 (by simp) hr9.shape.1 hr9.shape.2 fun w9 u9 hm9=>?_
 have N89:=Nxt.of_upd N78.sat u9 hm8.1
 have hE9b: ¬E9 b:=fun e=>hE6 (hE9 b e)
 have hr9':=hr9.nx N89 fun j hj e=>hE9b (e▸hj)
 have hDb:D5 b:=(hDe6 b).2 (.inl rfl)
 have N9:Nxt D w σ w9 σ2:=((N6.chain (Nxt.of_stp (D:=fun _=>False) hk67) fun j _ e=>e.elim).chain N78 fun j _ e=>e▸hD5 b hDb).chain N89 fun j _ e=>e▸hD5 b hDb
 refine hag k1 _ _ (Nat.lt_succ_self _) ⟨fun j=>j=b∨E9 j,N9,⟨b,lv9,E9,rfl,hbB,hm9,hr9',hE9b,fun j=>Iff.rfl⟩,fun j hj=>?_,by omega, .inl (by omega)⟩
 rcases hj with rfl | hj
 ·exact hD5 _ hDb
 ·exact hD5 j ((hDe6 j).2 (.inr (hE9 j hj))))
end Go.Proofs.YtjdiakhipmggjaaGreatDoor

namespace Go.Emb
open Go.RowKit Go.Hm
variable {P : Program} {w w' w0 : World} {K : Value → World → Prop} {σ σ' σ0 : Q6}
theorem Q6j {a:List TypeId} {t:TypeId} {b:List Bool} {xs:List Value} {v:Value} (h:(Builtin.copy_ a.toArray t xs.toArray).run P w= .ok v w') (d:K v w'):X2 P .copy a t b xs w K:=by
 have c:(builtin .copy a.toArray t b.toArray xs.toArray).run P w= .ok (.value v) w':=by simp[builtin,h]
 unfold X2
 rw[T7];unfold P8
 rw[c];exact d
theorem X2O {α:Type} {R:Q6→α→List Value→Prop} {sz:Nat} {e:TypeId} {v u:Value} {xs ys:List α} {t C N:TypeId} {cb:List Bool} {M:Nat} {z:Value} [hr:Rep R] [ts:TS P t e] [tz:TZ P e sz M z] (L:Stp w0 σ0 w σ) (ha:J7 w0.heap.size e sz R σ w v xs) (W:Sl sz R σ u ys) (B:ys.length=xs.length)
 (h: ∀w',Kpt (fun k=>v.ownBlock=some k) w w'→Stp w0 σ0 w' σ→J7 w0.heap.size e sz R σ w' v ys→K (I ys.length) w'):X2 P .copy [t,C] N cb [v,u] w K:=by
 obtain ⟨i,hi,H,ad,J⟩:=tz.info
 have o:(P.info? e).map (·.size)=some sz:=by rw[hi];simp[H]
 obtain ⟨a,n,rfl,U,c2,m,Z⟩:=ha
 have E:=W
 obtain ⟨Y,p,rfl,k1,k2,k3,k4⟩:=W
 by_cases h0:ys.length=0
 ·have s:ys=[]:=List.eq_nil_of_length_eq_zero h0
  subst s
  have hx:xs=[]:=List.eq_nil_of_length_eq_zero (by rw[←B];rfl)
  subst hx
  refine Q6j (Q4V w t C N e sz a Y n p ts.h o) ?_
  exact h w Kpt.refl L ⟨a,n,rfl,U,c2,m,Z⟩
 ·obtain ⟨a2,ac,d,he,n1,Q,n3,n4,n5⟩:=E.cells L.sat
  injection he with e1 _ e3
  subst e1;subst e3
  cases Y with
  | none=>have:=k3 rfl;omega
  | some V=>
   obtain ⟨g,c,f,rfl,O,q2,X,q4,q5⟩:=Z (by omega)
   have af:ys.length*sz≤n*sz:=Nat.mul_le_mul_right _ (by omega)
   have r:=Q4R (P:=P) w t C N e sz g c ys.length n V p f e d ts.h o X Q (fun j v hv=>n3 V rfl j v hv) (by rw[Q];omega) n4
   obtain ⟨q,D⟩:=Uv (cs:=(f.toList.take c++d++f.toList.drop (c+d.length)).toArray) X
   rw[←B]
   refine Q6j r ?_
   have ar:=Array.length_toList (xs:=f)
   refine h _ (Kpt.of_upd q rfl) (q.stp L O q2) ⟨_,n,(by rw[B]),by rw[B];exact U,c2,fun b A=>⟨(m b A).1,(m b A).2.1,by rw[q.size];exact (m b A).2.2.1,(m b A).2.2.2⟩,fun _=>⟨g,c,_,rfl,O,q2,D,?_,fun j y s=>?_⟩⟩
   ·simp;omega
   ·have hj:j<ys.length:=(List.getElem?_eq_some_iff.1 s).1
    have ag:j*sz+sz≤ys.length*sz:=by rw[←Nat.succ_mul];exact Nat.mul_le_mul_right _ hj
    have:=n5 j y s
    rw[List.toList_toArray,List.append_assoc,List.drop_append,List.drop_eq_nil_of_le (by rw[List.length_take];omega),List.nil_append,List.length_take,show c+j*sz-min c f.toList.length=j*sz by omega,List.drop_append_of_le_length (by omega),List.take_append_of_le_length (by rw[List.length_drop];omega)]
    exact this
theorem Nxt.stp' {D:Nat→Prop} (N:Nxt D w σ w' σ') (a:Stp w0 σ0 w σ) (f: ∀k,D k→w0.heap.size≤k):Stp w0 σ0 w' σ':=
 ⟨⟨N.kp.os.trans a.bel.os,N.kp.tape.trans a.bel.tape,N.kp.output.trans a.bel.output,Nat.le_trans a.bel.size N.kp.size,fun k c=>(N.kp.block k (Nat.lt_of_lt_of_le c a.bel.size) fun h=>absurd (f k h) (by omega)).trans (a.bel.block k c)⟩,N.sat,fun b o e=>N.le.le b o (a.le b o e),fun b d=>(N.old b (Nat.lt_of_lt_of_le d a.bel.size)).trans (a.old b d)⟩
end Go.Emb
namespace Go.Proofs.YtjdiakhipmggjaaGreatDoor
open Go.Emb Go.RowKit Go.Kd Go.Hm
variable {w w' : World} {K : Value → World → Prop} {σ σ' : Q6} {hp tv : Value} {room : Int} {cs : List Cel} {l : List Cla}
theorem RowsIs.nil {B:Nat}:RowsIs B (fun _=>False) σ w (.slice none 0 0) []:=
 ⟨[],J7.of_acc V6.nil,⟨rfl,fun i h=>absurd h (Nat.not_lt_zero i)⟩,List.pairwise_singleton _ _,fun k=>by simp[Value.ownBlock]⟩
set_option maxHeartbeats 1000000 in
theorem X21 (hs:X3 w σ) (hh:S5 σ hp tv room cs) (hl:Z1 cs≤1048576)
 (h: ∀v w' σ' D,Stp w σ w' σ'→RowsIs w.heap.size D σ' w' v cs→K v w'):Q1 P F.ad [hp] w K:=Q02 (by
 obtain ⟨a,lv,rfl,la,W⟩:=hh
 have am:=K5 cs
 unfold Og
 rw[L8,fa]
 refine ld hs la rfl ?_
 refine Q8 W ?_
 refine E5 cs.length (fun n x w'=> ∃σ' D,Stp w σ w' σ'∧RowsIs w.heap.size D σ' w' x (cs.take n)) ⟨σ,_,Stp.refl hs,RowsIs.nil⟩ fun n x w1 d hn A=>?_
 obtain ⟨σ1,D1,m,H⟩:=A
 refine Y9 ?_
 refine Q7 (fun Q=>?_) (fun Q=>?_)
 ·have c:n<cs.length:=by simpa using Q
  have y:=W.up m
  obtain ⟨vv,p1,Z,Y⟩:=Sl.elO y c
  have an:(cs[n].vals.length:Int)≤1048576:=by
   have e:Z1 cs=Z1 (cs.take n)+Z1 (cs.drop n):=by rw[←T4,List.take_append_drop]
   have e2:Z1 (cs.drop n)=(1+(cs[n].vals.length:Int))+Z1 (cs.drop (n+1)):=by
    rw[List.drop_eq_getElem_cons c];simp only[Z1,List.map_cons,List.sum_cons]
   have X:=M0 (cs.take n)
   have N:=M0 (cs.drop (n+1))
   omega
  refine Y0 y c ?_
  refine Y4 m.sat p1 rfl ?_
  refine Y8 m.sat (by rfl) rfl (Rep.one (R:=H0) ⟨vv,rfl,Z,Y⟩) fun q w2 σ2 b o=>?_
  have p:=m.trans b
  have E:=Z.up b
  rw[fa]
  refine ld b.sat o rfl ?_
  refine Q8 E ?_
  refine Q9D (sz:=4) (R:=N3) (x0:=Val.zero) b.sat rfl (by decide) ⟨rfl,by decide⟩ (by omega) (by omega) fun L w3 g J u=>?_
  have V:=p.trans g
  rw[fa]
  refine ld g.sat (o.up g) rfl ?_
  have M:=(J7.of_acc J).mono (B':=w.heap.size) p.bel.size
  refine X2O V M (E.up g) (by simp) fun w4 O f B=>?_
  have X:=(H.up b).up g
  have t: ∀j,L.ownBlock=some j→ ¬D1 j:=fun j C hD=>by
   have:=((H.up b).mem hD).2.1;have:=u j C;omega
  have N4:Nxt (fun k=>L.ownBlock=some k) w3 σ2 w4 σ2:=⟨O,SLe.refl _,fun _ _=>rfl,f.sat⟩
  have N:=X.nx N4 fun j C e=>t j e C
  rw[fa]
  refine ld (i:=0) f.sat o rfl ?_
  have r:=B
  obtain ⟨a3,ab,U,_⟩:=r
  refine V8 (cells:= #[S cs[n].kind,L]) (by rw[U];kernel_rfl) ?_
  refine Q9I f.sat f.bel.size N B t Y (by rw[List.length_take];omega) fun s ap w5 σ5 D5 N5 z h5 _ _=>?_
  refine N0 ?_
  refine J3 (by omega) c ⟨σ5,D5,N5.stp' f fun j C=>(N.mem (z j C)).1,?_⟩
  rw[List.take_add_one,List.getElem?_eq_getElem c]
  exact h5
 ·have c: ¬n<cs.length:=by simpa using Q
  rw[List.take_of_length_le (by omega)] at H
  exact h _ _ _ _ m H)
end Go.Proofs.YtjdiakhipmggjaaGreatDoor

namespace Go.Proofs.YtjdiakhipmggjaaGreatDoor
open Go.Emb Go.RowKit Go.Kd Go.Hm
variable {w : World} {K : Value → World → Prop} {σ : Q6} {l : List Cla} {v : Value}
theorem Q4B {c:Cla} {n:X0} (h:Ch c n=none):F4 c n=none:=by
 unfold F4 Ch at*
 rw[List.findIdx?_eq_none_iff] at h
 rw[List.find?_eq_none]
 intro m a
 have:=h m a
 simpa using this
theorem Q7k {c:Cla} {n:X0} {i:Nat} (h:Ch c n=some i): ∃b:i<c.methods.length,F4 c n=some c.methods[i]:=by
 unfold F4 Ch at*
 obtain ⟨b,e,d⟩:=List.findIdx?_eq_some_iff_getElem.1 h
 refine ⟨b,List.find?_eq_some_iff_getElem.2 ⟨e,i,b,rfl,fun j a=>?_⟩⟩
 have:=d j a
 simpa using this
theorem Q0d {n:X0} (h:lk l n=none):Z2 l n=none:=by
 cases b:Z2 l n with
 | none=>rfl
 | some i=>obtain ⟨c,a,_⟩:=Zm b;rw[h] at a;cases a
set_option maxHeartbeats 1000000 in
theorem Q98 {n:X0} (ok:Ok l): ∀(k:Nat) {c:Cla} {cs:List Value} {w:World} {σ:Q6} {K:Value→World→Prop},P1 l c.name<k→lk l c.name=some c→X3 w σ→Sl 8 V0 σ v l→V0 σ c cs→
 (∀pv cv hv w' Z,Stp w σ w' Z→E8 Z (o2 (V4 l c n)) [S (o2 (V4 l c n)).name,pv,S (o2 (V4 l c n)).result, .bool (o2 (V4 l c n)).abs,I (o2 (V4 l c n)).locals,cv,hv]→
  K (.tuple #[S (o1 (V4 l c n)), .agg [S (o2 (V4 l c n)).name,pv,S (o2 (V4 l c n)).result, .bool (o2 (V4 l c n)).abs,I (o2 (V4 l c n)).locals,cv,hv].toArray, .bool (V4 l c n).isSome]) w')→
 Q1 P F.aO [v, .agg cs.toArray,S n] w K:=by
 intro k
 induction k with
 | zero=>
  intro c cs w σ K hk
  omega
 | succ k ih=>
  intro c cs w σ K hk hc hs hv hr h
  refine Ip ?_
  obtain ⟨lv,fv,mv,rfl,g1,g2,g3,g4,g5⟩:=hr
  have D:=Q4d ok.acy hc n
  generalize hf:(fun u=>match lk l u with | none=>none | some d=>match F4 d n with | some m=>some (u,m) | none=>V4 l d n)=f at D
  unfold Nj
  refine Z0 hs fun a w1 σ1 E a2=>?_
  refine M9 E.sat fun b w2 σ2 hb O a0=>?_
  have Y:w.heap.size≤b:=M8 hb E
  have aq:=a2.up O
  have g1:=(g1.up E).up O
  refine U2 c.like.length (fun i w'=> ∃Z,Stp w σ w' Z∧SLe σ2 Z∧Y2 Z w' b [S [], .slice none 0 0,S [], .bool false,I 0, .slice none 0 0, .slice none 0 0]∧(c.like.take i).findSome? f=none) ⟨σ2,E.trans O,SLe.refl _,a0,rfl⟩ fun i w3 d hi ab=>?_
  obtain ⟨σ3,g,Q,af,B⟩:=ab
  have M:=hv.up g
  have U:=aq.lift Q
  have H:=g1.lift Q
  (try simp only[↓M1,M1,Mb,reduceIte])
  refine ld g.sat U rfl ?_
  refine Q8 H ?_
  refine Y9 ?_
  refine Q7 (fun hh=>?_) (fun hh=>?_)
  ·have e:i<c.like.length:=by simpa using hh
   (try simp only[↓M1,M1,Mb,reduceIte])
   refine ld g.sat U rfl ?_
   refine Y0 H e ?_
   obtain ⟨p0,_⟩:=H.elS e
   refine X7 g.sat p0 rfl ?_
   obtain ⟨d,hd⟩:=ok.full c (V3 hc).2.1 _ (List.getElem_mem e)
   obtain ⟨V,bp,_⟩:=V3 hd
   have t:f c.like[i]=match F4 d n with | some m=>some (c.like[i],m) | none=>V4 l d n:=by rw[←hf];simp only[hd]
   refine Ba g.sat M hd fun j hj bn=>?_
   obtain ⟨ah,a9⟩:=List.getElem?_eq_some_iff.1 hj
   refine Y0 M ah ?_
   obtain ⟨bo,b0,br,p1,r1⟩:=M.elC ah
   rw[a9] at p1 r1
   refine Y4 g.sat p1 rfl ?_
   refine Y8 g.sat (by rfl) rfl (Rep.one r1) fun q w4 σ4 o L=>?_
   refine Y4 o.sat L rfl ?_
   refine Q7s o.sat (RCl_lift r1 ⟨o.le⟩) fun w5 σ5 p=>?_
   refine K9 ?_
   rw[A0]
   have z:=(g.trans o).trans p
   have C:=(af.step o).step p
   have ba:=L.up p
   have r5:=RCl_lift r1 ⟨(o.trans p).le⟩
   have R:=p.sat
   have ax:SLe σ2 σ5:=Q.more ⟨(o.trans p).le⟩
   clear L p1 r1 p0 U H o p
   cases ho:Ch d n with
   | some i2=>
    obtain ⟨a3,a5⟩:=Q7k ho
    rw[a5] at t
    simp only[Option.isSome_some,L5,↓M1,M1,Mb,reduceIte]
    obtain ⟨_,_,ap,_,_⟩:=r5.parts
    obtain ⟨pv,cv,bj,p2,r2⟩:=ap.elM a3
    refine U0 R ?_
    (repeat refine J4 Qc ?_)
    (intros;(repeat (rename_i hx;subst hx));(try simp only[↓M2,M2,Mb,reduceIte]))
    rename_i w6 ae
    refine G7 (C.step ae.stp) (z.trans ae.stp) Y rfl rfl (Rep.one r2) fun w8 a4 a7=>?_
    refine V1 a7 rfl ?_
    have W:=D.trans (Xp e B t)
    rw[W] at h
    rw[V]
    exact h _ _ _ w8 σ5 a4.stp r2
   | none=>
    rw[Q4B ho] at t
    simp only[Option.isSome_none,↓M1,M1,Mb,reduceIte]
    refine Y4 R ba rfl ?_
    have bv:=Xq ok.acy hc (by simp[U3,List.getElem_mem e]:c.like[i]∈U3 c) hd
    refine ih (by rw[V];omega) (by rw[V];exact hd) R (hv.up z) r5 fun pv cv bq w8 σ8 A X=>?_
    refine J6 (vs:=[_,_,_]) rfl ?_
    refine J6 (vs:=[_,_,_]) rfl ?_
    refine J6 (vs:=[_,_,_]) rfl ?_
    refine Y8 A.sat (by rfl) rfl (Rep.one X) fun q w9 σ9 y ar=>?_
    have ai:=(z.trans A).trans y
    have ac:=(C.step A).step y
    have N:=RMe_lift X ⟨y.le⟩
    have a6:SLe σ2 σ9:=ax.more ⟨(A.trans y).le⟩
    have aw:=y.sat
    cases W:V4 l d n with
    | some r=>
     obtain ⟨s,m⟩:=r
     rw[W] at t N ar
     clear X A y
     simp only[W,Option.isSome_some,↓M1,M1,Mb,reduceIte]
     refine U0 aw ?_
     (repeat refine J4 Qc ?_)
     (intros;(repeat (rename_i hx;subst hx));(try simp only[↓M2,M2,Mb,reduceIte]))
     rename_i bu J
     refine G7 (ac.step J.stp) (ai.trans J.stp) Y rfl rfl (Rep.one N) fun az ad ak=>?_
     refine V1 ak rfl ?_
     have a1:=D.trans (Xp e B t)
     rw[a1] at h
     exact h _ _ _ az σ9 ad.stp N
    | none=>
     rw[W] at t
     simp only[Option.isSome_none,↓M1,M1,Mb,reduceIte]
     refine Y5 (by have:=g1.max;omega) e ⟨σ9,ai,a6,ac,?_⟩
     rw[Ya e B];exact t
  ·have e: ¬i<c.like.length:=by simpa using hh
   rw[List.take_of_length_le (by omega)] at B
   refine Fs ?_
   refine G7 af g Y rfl rfl (Rep.one (Qv (σ:=σ3))) fun w5 z C=>?_
   refine V1 C rfl ?_
   have W:=D.trans B
   rw[W] at h
   exact h _ _ _ w5 σ3 z.stp Qv
set_option maxHeartbeats 1000000 in
theorem Q7Y {k n:X0} (hs:X3 w σ) (hv:Sl 8 V0 σ v l) (ok:Ok l)
 (h: ∀pv cv hv w' N,Stp w σ w' N→E8 N (o2 (V2 l k n)) [S (o2 (V2 l k n)).name,pv,S (o2 (V2 l k n)).result, .bool (o2 (V2 l k n)).abs,I (o2 (V2 l k n)).locals,cv,hv]→
  K (.tuple #[S (o1 (V2 l k n)), .agg [S (o2 (V2 l k n)).name,pv,S (o2 (V2 l k n)).result, .bool (o2 (V2 l k n)).abs,I (o2 (V2 l k n)).locals,cv,hv].toArray, .bool (V2 l k n).isSome]) w'):
 Q1 P F.bh [v,S k,S n] w K:=Fm (by
 unfold Ll
 refine M9 hs fun b w1 σ1 hb Q ay=>?_
 refine I8 Q.sat (hv.up Q) ?_
 unfold V2 at h
 generalize hF:(fun c:Cla=>(F4 c n).map (c.name,·))=F1 at h
 have an: ∀c,F1 c=(F4 c n).map (c.name,·):=fun c=>by rw[←hF]
 refine Pd (fun m x w'=> ∃s H N,m=(chain l s).length∧x=I (L5 (Z2 l s))∧chain l k=H++chain l s∧Stp w σ w' N∧Y2 N w' b [S [], .slice none 0 0,S [], .bool false,I 0, .slice none 0 0, .slice none 0 0]∧H.findSome? F1=none)
  (chain l k).length ⟨k,[],σ1,rfl,rfl,rfl,Q,ay,rfl⟩ ?_
 rintro V m x d w2 ⟨s,H,σ2,rfl,rfl,e,B,al,f⟩ D
 have C:=hv.up B
 have Y:=B.sat
 refine K9 ?_
 rw[A0]
 cases A:lk l s with
 | some c=>
  obtain ⟨am,az,i,U,W⟩:=V3 A
  obtain ⟨g,R⟩:=List.getElem?_eq_some_iff.1 W
  simp only[U,Option.isSome_some,L5,↓M1,M1,Mb,reduceIte]
  refine Y0 C g ?_
  obtain ⟨lv,fv,mv,z,L⟩:=C.elC g
  rw[R] at z L
  refine Y4 Y z rfl ?_
  refine Q7s Y L fun w3 σ3 p=>?_
  refine K9 ?_
  rw[A0]
  have t:=B.trans p
  have o:=C.up p
  have y:=al.step p
  have u:=p.sat
  replace z:=z.up p
  replace L:=RCl_lift L ⟨p.le⟩
  have j:chain l s=c::chain l c.super:=by rw[A6 ok.acy s,A]
  cases ho:Ch c n with
  | some i2=>
   obtain ⟨a5,aw⟩:=Q7k ho
   simp only[Option.isSome_some,L5,↓M1,M1,Mb,reduceIte]
   obtain ⟨_,_,ar,_,_⟩:=L.parts
   obtain ⟨pv,cv,bi,p2,r2⟩:=ar.elM a5
   clear p
   refine U0 u ?_
   (repeat refine J4 Qc ?_)
   (intros;(repeat (rename_i hx;subst hx));(try simp only[↓M2,M2,Mb,reduceIte]))
   rename_i w4 ah
   refine G7 (y.step ah.stp) (t.trans ah.stp) hb rfl rfl (Rep.one r2) fun w8 a6 ax=>?_
   refine V1 ax rfl ?_
   have J:(chain l k).findSome? F1=some (c.name,c.methods[i2]):=by
    rw[e,List.findSome?_append,f,j,List.findSome?_cons,an,aw];rfl
   rw[J] at h
   exact h _ _ _ w8 σ3 a6.stp r2
  | none=>
   simp only[Option.isSome_none,↓M1,M1,Mb,reduceIte]
   refine Y0 o g ?_
   (try simp only[↓M1,M1,Mb,reduceIte])
   refine ld u z rfl ?_
   refine I8 u o ?_
   refine D (chain l c.super).length _ _ (by rw[j,List.length_cons];omega) ⟨c.super,H++[c],σ3,rfl,rfl,by rw[e,j];simp,t,y,?_⟩
   rw[List.findSome?_append,f]
   simp[an,Q4B ho]
 | none=>
  rw[Q0d A]
  simp only[Option.isSome_none,↓M1,M1,Mb,reduceIte]
  have af:(chain l k).findSome? F1=none:=by rw[e,Yp A,List.append_nil];exact f
  rw[af] at h
  clear D f e
  refine I8 Y C ?_
  refine Pd (fun m x w'=> ∃s H N,m=(chain l s).length∧x=I (L5 (Z2 l s))∧chain l k=H++chain l s∧Stp w σ w' N∧Y2 N w' b [S [], .slice none 0 0,S [], .bool false,I 0, .slice none 0 0, .slice none 0 0]∧H.findSome? (fun c=>V4 l c n)=none)
   (chain l k).length ⟨k,[],σ2,rfl,rfl,rfl,B,al,rfl⟩ ?_
  rintro V m x d w3 ⟨s,H,σ3,rfl,rfl,e,t,y,f⟩ D
  have o:=hv.up t
  have u:=t.sat
  refine K9 ?_
  rw[A0]
  cases A:lk l s with
  | some c=>
   obtain ⟨am,az,i,U,W⟩:=V3 A
   obtain ⟨g,R⟩:=List.getElem?_eq_some_iff.1 W
   simp only[U,Option.isSome_some,L5,↓M1,M1,Mb,reduceIte]
   refine Y0 o g ?_
   obtain ⟨lv,fv,mv,z,L⟩:=o.elC g
   rw[R] at z L
   refine Y4 u z rfl ?_
   have j:chain l s=c::chain l c.super:=by rw[A6 ok.acy s,A]
   refine Q98 ok _ (Nat.lt_succ_self _) (by rw[am];exact A) u o L fun pv cv bc w8 σ8 ab aa=>?_
   refine J6 (vs:=[_,_,_]) rfl ?_
   refine J6 (vs:=[_,_,_]) rfl ?_
   refine J6 (vs:=[_,_,_]) rfl ?_
   refine Y8 ab.sat (by rfl) rfl (Rep.one aa) fun q w9 σ9 E av=>?_
   have a:=ab.trans E
   have ak:=t.trans a
   have ag:=y.step a
   have Z:=RMe_lift aa ⟨E.le⟩
   have X:=E.sat
   have aj:=o.up a
   replace z:=z.up a
   cases ho:V4 l c n with
   | some r=>
    obtain ⟨s,m⟩:=r
    rw[ho] at Z av
    clear aa ab E a
    simp only[ho,Option.isSome_some,↓M1,M1,Mb,reduceIte]
    refine U0 X ?_
    (repeat refine J4 Qc ?_)
    (intros;(repeat (rename_i hx;subst hx));(try simp only[↓M2,M2,Mb,reduceIte]))
    rename_i bf O
    refine G7 (ag.step O.stp) (ak.trans O.stp) hb rfl rfl (Rep.one Z) fun a4 ai ao=>?_
    refine V1 ao rfl ?_
    have J:(chain l k).findSome? (fun c=>V4 l c n)=some (s,m):=by
     rw[e,List.findSome?_append,f,j,List.findSome?_cons,ho];rfl
    unfold V4 at J
    rw[J] at h
    exact h _ _ _ a4 σ9 ai.stp Z
   | none=>
    simp only[Option.isSome_none,↓M1,M1,Mb,reduceIte]
    refine Y0 aj g ?_
    (try simp only[↓M1,M1,Mb,reduceIte])
    refine ld X z rfl ?_
    refine I8 X aj ?_
    refine D (chain l c.super).length _ _ (by rw[j,List.length_cons];omega) ⟨c.super,H++[c],σ9,rfl,rfl,by rw[e,j];simp,ak,ag,?_⟩
    rw[List.findSome?_append,f]
    simp[ho]
  | none=>
   rw[Q0d A]
   simp only[Option.isSome_none,↓M1,M1,Mb,reduceIte]
   have M:(chain l k).findSome? (fun c=>V4 l c n)=none:=by rw[e,Yp A,List.append_nil];exact f
   refine Fs ?_
   refine G7 y t hb rfl rfl (Rep.one (Qv (σ:=σ3))) fun w7 a2 a0=>?_
   refine V1 a0 rfl ?_
   unfold V4 at M
   rw[M] at h
   exact h _ _ _ w7 σ3 a2.stp Qv)
end Go.Proofs.YtjdiakhipmggjaaGreatDoor

namespace Go.Hm
open Go.Kd
theorem Q24: ∀(xs:List X0) (x:X0),xs≠[]→R5 (xs++[x])=R5 xs++[44]++x
 | [],_,h=>absurd rfl h
 | [a],x,_=>by simp[R5]
 | a::b::r,x,_=>by
  have:=Q24 (b::r) x (by simp)
  simp only[List.cons_append] at this⊢
  simp only[R5,this]
  simp
theorem Q2i {xs:List X0} {n:Nat} (h:n<xs.length):R5 (xs.take (n+1))=R5 (xs.take n)++(if 0<n then [44] else [])++xs[n]:=by
 rw[List.take_add_one,List.getElem?_eq_getElem h]
 simp only[Option.toList_some]
 cases n with
 | zero=>simp[R5]
 | succ n=>
  rw[Q24 _ _ (by intro e;have:=congrArg List.length e;simp only[List.length_take,List.length_nil] at this;omega)]
  simp
end Go.Hm
namespace Go.Proofs.YtjdiakhipmggjaaGreatDoor
open Go.Emb Go.RowKit Go.Kd Go.Hm
variable {w : World} {K : Value → World → Prop} {σ : Q6} {l : List Cla} {v : Value}
theorem Q6p {m:Hm.Met} {cs:List Value} (D:X3 w σ) (E:E8 σ m cs) (s:SmM m) (p:NmM m) (h: ∀w' A,Stp w σ w' A→K (S (Qw m)) w'):Q1 P F.aY [.agg cs.toArray] w K:=Ty (by
 obtain ⟨pv,R,O,rfl,f,N,U,Q,J,M⟩:=E
 unfold Dd
 refine Z0 D fun q w1 σ1 g j=>?_
 have f:=f.up g
 have z: ∀n,(R5 (m.params.take n)).length≤101000000:=fun n=>by
  have:=Re (m.params.take n) fun x t=>p.2 x (List.mem_of_mem_take t)
  have C:(m.params.take n).length≤1000000:=by rw[List.length_take];have:=s.1;omega
  have H:(m.params.take n).length*101≤1000000*101:=Nat.mul_le_mul_right _ C
  omega
 have c:=g.sat
 refine E5 m.params.length (fun n a w'=>w'=w1∧a=S ([40]++R5 (m.params.take n))) ⟨rfl,by simp[R5]⟩ fun n a L d y i=>?_
 obtain ⟨B,rfl⟩:=i
 subst B
 have r:=z n
 (try simp only[↓M1,M1,Mb,reduceIte])
 refine ld c j rfl ?_
 refine Q8 f ?_
 refine Y9 ?_
 refine Q7 (fun o=>?_) (fun o=>?_)
 ·have b:n<m.params.length:=by simpa using o
  have t:=p.2 _ (List.getElem_mem b)
  refine U6 ?_
  obtain ⟨u,_⟩:=f.elS b
  refine Q7 (fun k=>?_) (fun k=>?_)
  ·have e:0<n:=by have:=of_decide_eq_true k;omega
   refine Hy (by simp only[List.length_append,List.length_cons,List.length_nil];omega) ?_
   intro d
   (try simp only[↓M1,M1,Mb,reduceIte])
   refine ld c j rfl ?_
   refine Y0 f b ?_
   refine X7 c u rfl ?_
   refine Hy (by simp only[List.length_append,List.length_cons,List.length_nil];omega) ?_
   (try simp only[↓M1,M1,Mb,reduceIte])
   refine J3 f.max b ⟨rfl,?_⟩
   rw[Q2i b,if_pos e];simp
  ·have e: ¬0<n:=by have:=of_decide_eq_false k;omega
   intro d
   (try simp only[↓M1,M1,Mb,reduceIte])
   refine ld c j rfl ?_
   refine Y0 f b ?_
   refine X7 c u rfl ?_
   refine Hy (by simp only[List.length_append,List.length_cons,List.length_nil];omega) ?_
   (try simp only[↓M1,M1,Mb,reduceIte])
   refine J3 f.max b ⟨rfl,?_⟩
   rw[Q2i b,if_neg e];simp
 ·have b: ¬n<m.params.length:=by simpa using o
  rw[List.take_of_length_le (by omega)] at r⊢
  refine Hy (by simp only[List.length_append,List.length_cons,List.length_nil];omega) ?_
  (try simp only[↓M1,M1,Mb,reduceIte])
  refine ld c j rfl ?_
  refine Hy (by simp only[List.length_append,List.length_cons,List.length_nil];have:=p.1;omega) ?_
  exact h _ _ g)
end Go.Proofs.YtjdiakhipmggjaaGreatDoor

namespace Go.Emb
open Go.RowKit Go.Hm
structure FinT (B : Nat) (F : Option Obj → Prop) (w w' : World) : Prop where
  os : w'.os = w.os
  tape : w'.tape = w.tape
  output : w'.output = w.output
  size : w.heap.size ≤ w'.heap.size
  old : ∀ k, k < w.heap.size → k < B → w'.heap[k]? = w.heap[k]?
  new : ∀ k, k < w.heap.size → w'.heap[k]? = w.heap[k]? ∨ F (w'.heap[k]?)
section
variable {P : Program} {B : Nat} {F : Option Obj → Prop} {w w' w0 : World} {σ : Q6} {v V : Value} {K : Value → World → Prop}
theorem FinT.of_below (h:Below w.heap.size w w'):FinT B F w w':=⟨h.os,h.tape,h.output,h.size,fun k a _=>h.block k a,fun k a=> .inl (h.block k a)⟩
theorem FinT.of_upd {b:Nat} (h:Upd w b w') (c:B≤b) (hF:F (w'.heap[b]?)):FinT B F w w':=
 ⟨h.os,h.tape,h.output,by rw[h.size];exact Nat.le_refl _,fun k a hB=>h.block k (by omega),fun k a=>by
  by_cases e:k=b
  ·subst e;exact .inr hF
  ·exact .inl (h.block k e)⟩
theorem FinT.hst (h:FinT w0.heap.size F w w') (c:X3 w0 σ) (a:Hst w0 σ w σ):Hst w0 σ w' σ:=
 ⟨Stp.of_below c ⟨h.os.trans a.stp.bel.os,h.tape.trans a.stp.bel.tape,h.output.trans a.stp.bel.output,Nat.le_trans a.stp.bel.size h.size,fun k b=>(h.old k (Nat.lt_of_lt_of_le b a.stp.bel.size) b).trans (a.stp.bel.block k b)⟩⟩
theorem X2V {A:(World→World→Prop)→(World→Prop)→Prop} (F:Option Obj→Prop) (a:X3 w σ) (h:A (FinT w.heap.size F) (fun w'=>Hst w σ w' σ)):dr w A:=
 Kf _ _ ⟨Stp.of_below a (Below.refl _ _).drew⟩ (fun _ _ c b=>b.hst a c) h
theorem Q5U (h:V=v):dk (FinT B F) (fun v _=>V=v) w v w:=⟨.of_below (Below.refl _ _),h⟩
theorem X2u (a:Below w.heap.size w w') (h:V=v):dk (FinT B F) (fun v _=>V=v) w v w':=⟨.of_below a,h⟩
def X2B (B n:Nat) (F:Option Obj→Prop) (v:Value) (w:World):Prop:= ∃g,v= .pointer (some ⟨g,0,none⟩)∧B≤g∧((∃cs:List Value,∃e,cs.length=n∧w.heap[g]? =some (.cells cs.toArray e (0,0)))∨F (w.heap[g]?))
def X2Y (B:Nat) (F:Option Obj→Prop) (v:Value) (w:World):Prop:= ∃g,v= .pointer (some ⟨g,0,none⟩)∧B≤g∧F (w.heap[g]?)
theorem Ke {w:World} {g:Nat} {o:Obj} (h:w.heap[g]? =some o):g<w.heap.size:=(Array.getElem?_eq_some_iff.1 h).1
theorem Q8I {n:Nat} (hF: ¬F none):Su (FinT B F) (X2B B n F):=by
 rintro v w w' ⟨g,rfl,hB,b⟩ d
 have a:g<w.heap.size:=by
  rcases b with ⟨cs,e,_,h⟩ | h
  ·exact Ke h
  ·cases c:w.heap[g]? with
   | none=>rw[c] at h;exact absurd h hF
   | some o=>exact Ke c
 rcases d.new g a with h | h
 ·exact ⟨g,rfl,hB,by rw[h];exact b⟩
 ·exact ⟨g,rfl,hB, .inr h⟩
theorem Q8e (hF: ¬F none):Su (FinT B F) (X2Y B F):=by
 rintro v w w' ⟨g,rfl,hB,b⟩ d
 have a:g<w.heap.size:=by
  cases c:w.heap[g]? with
  | none=>rw[c] at b;exact absurd b hF
  | some o=>exact Ke c
 rcases d.new g a with h | h
 ·exact ⟨g,rfl,hB,by rw[h];exact b⟩
 ·exact ⟨g,rfl,hB,h⟩
end
end Go.Emb
namespace Go.Hm
open Go.Kd
theorem Q6A {a b:List Hm.Met} (h: ∀m,m∈a↔m∈b):Mh a=Mh b:=by
 rw[Bool.eq_iff_iff]
 simp only[Mh,List.any_eq_true]
 constructor
 ·rintro ⟨x,d,y,e,c⟩;exact ⟨x,(h x).1 d,y,(h y).1 e,c⟩
 ·rintro ⟨x,d,y,e,c⟩;exact ⟨x,(h x).2 d,y,(h y).2 e,c⟩
theorem X0C {α:Type} {a b:List α} {p:α→Bool} (h: ∀m,m∈a↔m∈b):a.any p=b.any p:=by
 rw[Bool.eq_iff_iff]
 simp only[List.any_eq_true]
 constructor
 ·rintro ⟨x,c,y⟩;exact ⟨x,(h x).1 c,y⟩
 ·rintro ⟨x,c,y⟩;exact ⟨x,(h x).2 c,y⟩
def Zg (m:Hm.Met):List X0:=m.params++if m.result=[] then [] else [m.result]
def Jm (c:Cla):List X0:=c.fields.map (·.kind)++c.methods.flatMap Zg
theorem Q9h {l:List Cla} {c:Cla}:(Jm c).any (fun s=> !O8 l s)=F2 l c:=by
 unfold Jm F2 Zg
 rw[List.any_append,List.any_map,List.any_flatMap]
 congr 1
 congr 1
 funext m
 rw[List.any_append]
 by_cases e:m.result=[]
 ·simp[e]
 ·simp[e,Bool.or_comm]
def upB (l:List Cla) (i k:Nat):Bool:=decide (k=i)||Xj l (Y3 l i) (Y3 l k)
def Xi (l:List Cla) (i n:Nat):List Hm.Met:=(List.range n).flatMap fun k=>if upB l i k then (l.getD k Cla.zero).methods else []
theorem Q8l {l:List Cla} {i n:Nat}:Xi l i (n+1)=Xi l i n++if upB l i n then (l.getD n Cla.zero).methods else []:=by
 unfold Xi
 rw[List.range_succ,List.flatMap_append]
 simp
theorem Q46 {l:List Cla} (r:T9 l) {i:Nat} (n:i<l.length) (m:Hm.Met):m∈Xi l i l.length↔m∈Lu l (Y3 l i):=by
 unfold Xi Lu
 simp only[List.mem_flatMap,List.mem_range]
 have a: ∀k,k<l.length→lk l (Y3 l k)=some (l.getD k Cla.zero):=fun k g=>Yh r g
 constructor
 ·rintro ⟨k,g,d⟩
  split at d
  ·rename_i hu
   refine ⟨Y3 l k,?_,by rw[a k g];exact d⟩
   rw[Ut,Q0G]
   simp only[upB,Bool.or_eq_true,decide_eq_true_eq,Jq] at hu
   rcases hu with rfl | hu
   ·exact .inl ⟨rfl,_,a _ g⟩
   ·exact .inr hu
  ·simp at d
 ·rintro ⟨u,hu,d⟩
  rw[Ut] at hu
  obtain ⟨c,p⟩:=hu.right
  obtain ⟨z,o,j,A,b⟩:=V3 p
  obtain ⟨h,t⟩:=List.getElem?_eq_some_iff.1 b
  have f:Y3 l j=u:=by
   unfold Y3;rw[List.getD_eq_getElem?_getD,b];exact z
  refine ⟨j,h,?_⟩
  rw[p] at d
  have:upB l i j=true:=by
   simp only[upB,Bool.or_eq_true,decide_eq_true_eq,Jq]
   rw[Q0G] at hu
   rcases hu with ⟨e,_⟩ | hu
   ·left
    have y:=a i n
    rw[e,←f] at y
    have q:=T9.find r (i:=i) (c:=l[i]) (List.getElem?_eq_getElem n)
    have s:l[i].name=Y3 l i:=by unfold Y3;rw[List.getD_eq_getElem?_getD,List.getElem?_eq_getElem n];rfl
    rw[s,e,A] at q
    simpa using q
   ·right;rw[f];exact hu
  rw[if_pos this,List.getD_eq_getElem?_getD,b]
  exact d
theorem Q8Z {l:List Cla} {i n:Nat} {m:Hm.Met} (h:m∈Xi l i n) (e:n≤l.length): ∃c∈l,m∈c.methods:=by
 unfold Xi at h
 simp only[List.mem_flatMap,List.mem_range] at h
 obtain ⟨k,d,a⟩:=h
 split at a
 ·have b:k<l.length:=by omega
  rw[List.getD_eq_getElem?_getD,List.getElem?_eq_getElem b] at a
  exact ⟨l[k],List.getElem_mem _,a⟩
 ·simp at a
def A8 (a:List Hm.Met) (x y:Nat):Bool:=decide ((a.getD x Hm.Met.zero).name=(a.getD y Hm.Met.zero).name)&& !decide (Qw (a.getD x Hm.Met.zero)=Qw (a.getD y Hm.Met.zero))
theorem Bd {α:Type} {l:List α} {d:α} {n:Nat} (h:n<l.length):l.getD n d=l[n]:=by rw[List.getD_eq_getElem?_getD,List.getElem?_eq_getElem h];rfl
theorem Q9Y {a:List Hm.Met} {x y:Nat} (b:x<a.length) (c:y<a.length) (h:A8 a x y=true):Mh a=true:=by
 unfold Mh
 rw[List.any_eq_true]
 refine ⟨a[x],List.getElem_mem _,?_⟩
 rw[List.any_eq_true]
 refine ⟨a[y],List.getElem_mem _,?_⟩
 unfold A8 at h
 rwa [Bd b,Bd c] at h
theorem X0W {d:List Hm.Met} (h: ∀x y,x<d.length→y<x→A8 d x y=false):Mh d=false:=by
 unfold Mh
 rw[List.any_eq_false]
 intro a j
 rw[List.any_eq_true]
 rintro ⟨b,k,e⟩
 obtain ⟨x,i,rfl⟩:=List.getElem_of_mem j
 obtain ⟨y,g,rfl⟩:=List.getElem_of_mem k
 have f:A8 d y x=A8 d x y:=by
  unfold A8
  congr 1
  ·rw[Bool.eq_iff_iff];simp[eq_comm]
  ·congr 1;rw[Bool.eq_iff_iff];simp[eq_comm]
 have c:A8 d x y=true:=by unfold A8;rw[Bd i,Bd g];exact e
 rcases Nat.lt_trichotomy x y with hlt | heq | hlt
 ·rw[←f,h y x g hlt] at c;cases c
 ·subst heq;simp[A8] at c
 ·rw[h x y i hlt] at c;cases c
end Go.Hm
namespace Go.Proofs.YtjdiakhipmggjaaGreatDoor
open Go.Emb Go.RowKit Go.Kd Go.Hm
variable {w : World} {K : Value → World → Prop} {σ : Q6} {l : List Cla} {v : Value}
theorem Py {c:Cla} (h:Zv c=false):c.fields.length≤32∧c.methods.length≤32∧ ∀m∈c.methods,m.params.length≤32:=by
 simp only[Zv,Bool.or_eq_false_iff,decide_eq_false_iff_not,List.any_eq_false] at h
 obtain ⟨⟨⟨b,d⟩,e⟩,f⟩:=h
 refine ⟨by omega,by omega,fun m a=>?_⟩
 have:=b m a
 simp only[Wk,Bool.or_eq_true,decide_eq_true_eq,not_or] at this
 omega
set_option maxHeartbeats 8000000 in
theorem Q6U {i:Nat} (hs:X3 w σ) (hv:Sl 8 V0 σ v l) (ok:Ok l) (own:T9 l) (hlen:l.length≤1000) (hmn: ∀c∈l,Zv c=false) (hi:i<l.length)
 (h: ∀w' σ',Stp w σ w' σ'→K (I (V7 l l[i])) w'):Q1 P F.bb [v,I i] w K:=Bt (by
 unfold Vp
 obtain ⟨lv,fv,mv,p0,r0⟩:=hv.elC hi
 refine Y0 hv hi ?_
 refine Y4 hs p0 rfl ?_
 refine Y8 hs (by rfl) rfl (Rep.one r0) fun q w1 σ1 hk1 hq1=>?_
 have r1:=RCl_lift r0 ⟨hk1.le⟩
 obtain ⟨_,gf,gm,g4,_⟩:=r1.parts
 have hv1:=hv.up hk1
 have hnm:=ok.nm _ (List.getElem_mem hi)
 have hcm:=hmn _ (List.getElem_mem hi)
 have hname:Y3 l i=l[i].name:=Pk hi
 generalize hcE:l[i]=c at*
 obtain ⟨mf,mm,mp⟩:=Py hcm
 have e64:Yo l c=true→V7 l c=64:=fun e=>by unfold V7;simp[e]
 have e65:Yo l c=false→F2 l c=true→V7 l c=65:=fun e e2=>by unfold V7;simp[e,e2]
 have e66:Yo l c=false→F2 l c=false→Zl l c=true→V7 l c=66:=fun e e2 e3=>by unfold V7;simp[e,e2,e3]
 have e67:Yo l c=false→F2 l c=false→Zl l c=false→Dn l c=true→V7 l c=67:=fun e e2 e3 e4=>by unfold V7;simp[e,e2,e3,e4]
 have e0:Yo l c=false→F2 l c=false→Zl l c=false→Dn l c=false→V7 l c=0:=fun e e2 e3 e4=>by unfold V7;simp[e,e2,e3,e4]
 generalize V7 l c=R at*
 clear p0 r0 r1 hcm
 refine U2 c.fields.length (fun n w'=> ∃σ',Stp w σ w' σ'∧SLe σ1 σ'∧(c.fields.take n).any (fun f=>(Uf l c.super f.name).isSome)=false) ⟨σ1,hk1,SLe.refl _,rfl⟩ fun n w2 d hn hinv=>?_
 obtain ⟨σ2,hS2,le2,hno⟩:=hinv
 have hq2:=hq1.lift le2
 have gf2:=gf.lift le2
 (try simp only[↓M1,M1,Mb,reduceIte])
 refine ld hS2.sat hq2 rfl ?_
 refine Q8 gf2 ?_
 refine Y9 ?_
 refine Q7 (fun hc=>?_) (fun hc=>?_)
 ·have hn':n<c.fields.length:=by simpa using hc
  obtain ⟨pf,_⟩:=gf2.elF hn'
  have hs2:=hS2.sat
  refine U0 hs2 ?_
  (repeat refine J4 Qc ?_)
  (intros;(repeat (rename_i hx;subst hx));(try simp only[↓M2,M2,Mb,reduceIte]))
  rename_i w3 hb3
  refine X04 hb3.sat (hv.up (hS2.trans hb3.stp)) ok.acy hlen ok.sm fun w4 σ4 hk4=>?_
  refine K9 ?_
  rw[A0]
  have hnx:=L2 (p:=fun f:Fld=>(Uf l c.super f.name).isSome) hn'
  cases hp:(Uf l c.super c.fields[n].name).isSome with
  | true=>
   (try simp only[↓M1,M1,Mb,reduceIte])
   rw[hp,Bool.or_true] at hnx
   have:R=64:=e64 (C2 hn' hp)
   subst this
   exact h _ _ ((hS2.trans hb3.stp).trans hk4)
  | false=>
   (try simp only[↓M1,M1,Mb,reduceIte])
   exact Y5 gf.max hn' ⟨σ4,(hS2.trans hb3.stp).trans hk4,le2.more ⟨(hb3.stp.trans hk4).le⟩,by rw[hnx,hno,hp];rfl⟩
 have hA:Yo l c=false:=by
  have hn': ¬n<c.fields.length:=by simpa using hc
  rw[E3 hn'] at hno;exact hno
 clear hno hc hn e64
 refine Ej (R:=U8) (e:=T.c) hS2 (by decide) fun x3 w3 hk3 ha3 _=>?_
 have hS3:=hS2.trans hk3
 refine E5 c.fields.length (fun n x w'=> ∃σ',Stp w σ w' σ'∧SLe σ1 σ'∧V6 w.heap.size T.c 1 U8 σ' w' x ((c.fields.take n).map (·.kind))) ⟨σ2,hS3,le2,ha3⟩ fun n x w4 d hn hinv=>?_
 obtain ⟨σ4,hS4,le4,ha4⟩:=hinv
 have hq4:=hq1.lift le4
 have gf4:=gf.lift le4
 (try simp only[↓M1,M1,Mb,reduceIte])
 refine ld hS4.sat hq4 rfl ?_
 refine Q8 gf4 ?_
 refine Y9 ?_
 refine Q7 (fun hc=>?_) (fun hc=>?_)
 ·have hn':n<c.fields.length:=by simpa using hc
  obtain ⟨pf,rf⟩:=gf4.elF hn'
  have hkl:=(hnm.2.1 _ (List.getElem_mem hn')).2
  (try simp only[↓M1,M1,Mb,reduceIte])
  refine ld hS4.sat hq4 rfl ?_
  refine Y0 gf4 hn' ?_
  (try simp only[↓M1,M1,Mb,reduceIte])
  refine ld hS4.sat pf rfl ?_
  refine Ug (R:=U8) (x:=c.fields[n].kind) hS4 ha4 ⟨rfl,Nat.le_trans hkl (by decide)⟩ rfl rfl rfl (by rw[List.length_map,List.length_take];omega) (by rw[List.length_map,List.length_take];omega) fun s v' w5 σ5 hnx hS5 ha5 _=>?_
  (try simp only[↓M1,M1,Mb,reduceIte])
  refine J3 gf.max hn' ⟨σ5,hS5,le4.more hnx.le,?_⟩
  rw[List.take_add_one,List.getElem?_eq_getElem hn',List.map_append]
  exact ha5
 rw[List.take_of_length_le (by
  have: ¬n<c.fields.length:=by simpa using hc
  omega)] at ha4
 clear hc hn hk3 ha3 hS3 hS2 le2 hq2 gf2 hq4 gf4
 have hkl: ∀n,(c.fields.map (·.kind)++(c.methods.take n).flatMap Zg).length≤2000:=fun n=>by
  have h1:=Vt Zg 33 (c.methods.take n) fun m hm=>by
   have:=mp m (List.mem_of_mem_take hm)
   unfold Zg
   split<;>simp<;>omega
  have h2:(c.methods.take n).length≤32:=by rw[List.length_take];omega
  have h3:(c.methods.take n).length*33≤32*33:=Nat.mul_le_mul_right _ h2
  rw[List.length_append,List.length_map];omega
 refine E5 c.methods.length (fun n x w'=> ∃σ',Stp w σ w' σ'∧SLe σ1 σ'∧V6 w.heap.size T.c 1 U8 σ' w' x (c.fields.map (·.kind)++(c.methods.take n).flatMap Zg)) ⟨σ4,hS4,le4,by simpa using ha4⟩ fun n x w5 d hn hinv=>?_
 clear ha4 hS4 le4
 obtain ⟨σ5,hS5,le5,ha5⟩:=hinv
 have hq5:=hq1.lift le5
 have gm5:=gm.lift le5
 have hkn:=hkl n
 (try simp only[↓M1,M1,Mb,reduceIte])
 refine ld hS5.sat hq5 rfl ?_
 refine Q8 gm5 ?_
 refine Y9 ?_
 refine Q7 (fun hc=>?_) (fun hc=>?_)
 ·have hn':n<c.methods.length:=by simpa using hc
  obtain ⟨pv,cv,hv',pm,rm⟩:=gm5.elM hn'
  obtain ⟨gp,_,_,_,gr,_⟩:=rm.parts
  have hpn:=mp _ (List.getElem_mem hn')
  have hrl:=(hnm.2.2 _ (List.getElem_mem hn')).1
  have hnx:(c.methods.take (n+1)).flatMap Zg=(c.methods.take n).flatMap Zg++Zg c.methods[n]:=by
   rw[List.take_add_one,List.getElem?_eq_getElem hn',List.flatMap_append];simp
  refine U6 ?_
  (try simp only[↓M1,M1,Mb,reduceIte])
  refine ld hS5.sat hq5 rfl ?_
  refine Y0 gm5 hn' ?_
  (try simp only[↓M1,M1,Mb,reduceIte])
  refine ld hS5.sat pm rfl ?_
  refine Wh hS5 ha5 gp rfl (by omega) (by omega) fun v6 w6 hn6 hS6 ha6 _=>?_
  (try simp only[↓M1,M1,Mb,reduceIte])
  refine ld hS6.sat hq5 rfl ?_
  refine Y0 gm5 hn' ?_
  (try simp only[↓M1,M1,Mb,reduceIte])
  refine ld hS6.sat pm rfl ?_
  refine Jf ?_
  by_cases he:c.methods[n].result=[]
  ·simp only[he,decide_true,Bool.not_true,↓M1,M1,Mb,reduceIte]
   intro d
   refine J3 gm.max hn' ⟨σ5,hS6,le5,?_⟩
   rw[hnx]
   unfold Zg
   rw[if_pos he,List.append_nil,←List.append_assoc]
   exact ha6
  ·simp only[he,decide_false,Bool.not_false,↓M1,M1,Mb,reduceIte]
   refine ld hS6.sat hq5 rfl ?_
   refine Y0 gm5 hn' ?_
   (try simp only[↓M1,M1,Mb,reduceIte])
   refine ld hS6.sat pm rfl ?_
   refine Ug (R:=U8) (x:=c.methods[n].result) hS6 ha6 ⟨rfl,Nat.le_trans hrl (by decide)⟩ rfl rfl rfl (by rw[List.length_append];omega) (by rw[List.length_append];omega) fun s v' w7 σ7 hn7 hS7 ha7 _=>?_
   intro d
   (try simp only[↓M1,M1,Mb,reduceIte])
   refine J3 gm.max hn' ⟨σ7,hS7,le5.more hn7.le,?_⟩
   rw[hnx]
   unfold Zg at ha7⊢
   rw[if_neg he]
   simpa only[List.append_assoc] using ha7
 rw[List.take_of_length_le (by
  have: ¬n<c.methods.length:=by simpa using hc
  omega)] at ha5
 have hkn:=hkl c.methods.length
 rw[List.take_of_length_le (Nat.le_refl _)] at hkn
 have hkE:F2 l c=(Jm c).any (fun s=> !O8 l s):=Q9h.symm
 have hkb: ∀s∈Jm c,s.length≤U1:=fun s hs=>by
  unfold Jm at hs
  rcases List.mem_append.1 hs with hs | hs
  ·obtain ⟨f,hf,rfl⟩:=List.mem_map.1 hs
   exact Nat.le_trans (hnm.2.1 f hf).2 (by decide)
  ·obtain ⟨m,hm,hs⟩:=List.mem_flatMap.1 hs
   unfold Zg at hs
   rcases List.mem_append.1 hs with hs | hs
   ·exact Nat.le_trans ((hnm.2.2 m hm).2 s hs) (by decide)
   ·split at hs
    ·simp at hs
    ·simp at hs;subst hs;exact Nat.le_trans (hnm.2.2 m hm).1 (by decide)
 obtain ⟨σ6,hS6,hv6,lee6,_⟩:=ha5.keep hS5
 have le6:=le5.more ⟨lee6⟩
 clear ha5 hq5 gm5 hc hn
 change Sl 1 U8 σ6 x (Jm c) at hv6
 refine U2 (Jm c).length (fun n w'=>Stp w σ w' σ6∧((Jm c).take n).any (fun s=> !O8 l s)=false) ⟨hS6,rfl⟩ fun n w7 d hn hinv=>?_
 obtain ⟨hS7,hno⟩:=hinv
 refine Q8 hv6 ?_
 refine Y9 ?_
 refine Q7 (fun hc=>?_) (fun hc=>?_)
 ·have hn':n<(Jm c).length:=by simpa using hc
  refine Y0 hv6 hn' ?_
  obtain ⟨pk,_⟩:=hv6.elS hn'
  refine X7 hS7.sat pk rfl ?_
  refine Q9S hS7.sat (hv.up hS7) (hkb _ (List.getElem_mem hn')) ?_
  have hnx:=L2 (p:=fun s=> !O8 l s) hn'
  cases hp:O8 l (Jm c)[n] with
  | false=>
   (try simp only[↓M1,M1,Mb,reduceIte])
   have:R=65:=e65 hA (by rw[hkE];exact C2 hn' (by simp[hp]))
   subst this
   exact h _ _ hS7
  | true=>
   (try simp only[↓M1,M1,Mb,reduceIte])
   exact Y5 hv6.max hn' ⟨hS7,by rw[hnx,hno,hp];rfl⟩
 have hB:F2 l c=false:=by
  have hn': ¬n<(Jm c).length:=by simpa using hc
  rw[E3 hn'] at hno;rw[hkE];exact hno
 clear hno hc hn e65 hkE hkb hkn hkl hS5 le5 lee6 hv6
 refine Q0D hS7.sat (hv.up hS7) own (by omega) hlen ok.sm fun vb w8 σ8 hk8 hb8=>?_
 have hS8:=hS7.trans hk8
 refine Ej (R:=E8) (e:=T.d) hS8 (by decide) fun x9 w9 hk9 ha9 _=>?_
 have hml: ∀n,n≤l.length→(Xi l i n).length≤32000:=fun n hn=>by
  unfold Xi
  have h1:=Vt (fun k=>if upB l i k then (l.getD k Cla.zero).methods else []) 32 (List.range n) fun k hk=>by
   have hk':k<l.length:=by have:=List.mem_range.1 hk;omega
   split
   ·rw[Bd hk'];exact (Py (hmn _ (List.getElem_mem _))).2.1
   ·simp
  rw[List.length_range] at h1
  have h3:n*32≤1000*32:=Nat.mul_le_mul_right _ (by omega)
  omega
 have hbl:(I3 l).length=l.length:=by simp[I3]
 refine E5 l.length (fun n x w'=> ∃σ',Stp w σ w' σ'∧SLe σ1 σ'∧SLe σ8 σ'∧V6 w.heap.size T.d 7 E8 σ' w' x (Xi l i n)) ⟨σ8,hS8.trans hk9,le6.more ⟨hk8.le⟩,SLe.refl _,ha9⟩ fun n x w10 d hn hinv=>?_
 clear ha9 hk9 hS7 hS8 le6 hS6 hk8
 obtain ⟨σ10,hS10,le10,leb,ha10⟩:=hinv
 have hv10:=hv.up hS10
 refine Q8 hv10 ?_
 refine Y9 ?_
 refine Q7 (fun hc=>?_) (fun hc=>?_)
 ·have hn':n<l.length:=by simpa using hc
  have hmn1:=hml n hn
  have hsuc:=Q8l (l:=l) (i:=i) (n:=n)
  rw[Bd hn'] at hsuc
  obtain ⟨lv2,fv2,mv2,p2,r2⟩:=hv10.elC hn'
  obtain ⟨_,_,g3,_,_⟩:=r2.parts
  have hmn2:=(Py (hmn _ (List.getElem_mem hn'))).2.1
  refine Zy (fun z w'=>Stp w σ w' σ10∧V6 w.heap.size T.d 7 E8 σ10 w' z (Xi l i (n+1))) ?_ (fun z d w' hz=>?_)
  ·refine I1 ?_
   have happ: ∀{J:Value→World→Prop},upB l i n=true→(∀z w',Stp w σ w' σ10→V6 w.heap.size T.d 7 E8 σ10 w' z (Xi l i (n+1))→J z w')→
    X2 P .append [T.j,T.j] T.j [false,false] [x,mv2] w10 J:=fun hu hJ=>
    Wh hS10 ha10 g3 rfl (by omega) (by omega) fun v' w' _ hS' ha' _=>hJ v' w' hS' (by rw[hsuc,if_pos hu];exact ha')
   by_cases e:n=i
   ·have e1:decide ((n:Int)=(i:Int))=true:=by simp[e]
    rw[e1]
    (try simp only[↓M1,M1,Mb,reduceIte])
    refine Y0 hv10 hn' ?_
    (try simp only[↓M1,M1,Mb,reduceIte])
    refine ld hS10.sat p2 rfl ?_
    exact happ (by simp[upB,e]) fun z w' h1 h2=>⟨h1,h2⟩
   ·have e1:decide ((n:Int)=(i:Int))=false:=by rw[decide_eq_false_iff_not];omega
    rw[e1]
    obtain ⟨cs1,pb,_,rv,rfl,rb⟩:=(hb8.lift leb).el (i:=i) (by rw[hbl];exact hi)
    have hrow:(I3 l)[i]'(by rw[hbl];exact hi)=(List.range l.length).map fun j=>Xj l (Y3 l i) (Y3 l j):=by simp[I3]
    rw[hrow] at rb
    obtain ⟨cs2,pb2,_,hcs2⟩:=rb.el (i:=n) (by simpa using hn')
    have hcs2:cs2=_:=hcs2
    subst hcs2
    simp only[List.getElem_map,List.getElem_range] at pb2
    (try simp only[↓M1,M1,Mb,reduceIte])
    refine Y0 (hb8.lift leb) (by rw[hbl];exact hi) ?_
    refine X7 hS10.sat pb rfl ?_
    refine Y0 rb (by simpa using hn') ?_
    refine X7 hS10.sat pb2 rfl ?_
    (try simp only[↓M1,M1,Mb,reduceIte])
    cases ho:Xj l (Y3 l i) (Y3 l n) with
    | true=>
     (try simp only[↓M1,M1,Mb,reduceIte])
     refine Y0 hv10 hn' ?_
     (try simp only[↓M1,M1,Mb,reduceIte])
     refine ld hS10.sat p2 rfl ?_
     exact happ (by simp[upB,ho]) fun z w' h1 h2=>⟨h1,h2⟩
    | false=>
     (try simp only[↓M1,M1,Mb,reduceIte])
     refine ⟨hS10,?_⟩
     have:upB l i n=false:=by simp[upB,ho,e]
     rw[hsuc,this]
     simpa using ha10
  ·obtain ⟨hS',ha'⟩:=hz
   (try simp only[↓M1,M1,Mb,reduceIte])
   exact J3 (by omega) hn' ⟨σ10,hS',le10,leb,ha'⟩
 have hn0:n=l.length:=by
  have: ¬n<l.length:=by simpa using hc
  omega
 subst hn0
 obtain ⟨σ11,hS11,hv11,lee11,_⟩:=ha10.keep hS10
 have le11:=le10.more ⟨lee11⟩
 have hml2:=hml _ (Nat.le_refl l.length)
 have hov:Zl l c=Mh (Xi l i l.length):=by
  unfold Zl
  refine (Q6A fun m=>?_).symm
  rw[Q46 own hi,hname]
 have hlk:Dn l c=(!c.abs&&(Xi l i l.length).any fun m=>Zf l c.name m.name):=by
  unfold Dn
  congr 1
  refine (X0C fun m=>?_).symm
  rw[Q46 own hi,hname]
 have hsn: ∀m∈Xi l i l.length,SmM m∧NmM m:=fun m hm=>by
  obtain ⟨c2,hc2,hm2⟩:=Q8Z hm (Nat.le_refl _)
  exact ⟨(ok.sm c2 hc2).2.2.2 m hm2,(ok.nm c2 hc2).2.2 m hm2⟩
 generalize Xi l i l.length=ms at hov hlk hsn hml2 hv11
 clear ha10 lee11 hS10 le10 leb hv10 hml hc hb8 hbl
 refine U2 ms.length (fun n w'=> ∃σ',Stp w σ w' σ'∧SLe σ11 σ'∧ ∀a b,a<n→b<a→A8 ms a b=false) ⟨σ11,hS11,SLe.refl _,fun a b h=>by omega⟩ fun n w12 d hn hinv=>?_
 obtain ⟨σ12,hS12,le12,hno⟩:=hinv
 have hv12:=hv11.lift le12
 refine Q8 hv12 ?_
 refine Y9 ?_
 refine Q7 (fun hc=>?_) (fun hc=>?_)
 ·have hn':n<ms.length:=by simpa using hc
  refine U2 n (fun m w'=> ∃σ',Stp w σ w' σ'∧SLe σ11 σ'∧ ∀b,b<m→A8 ms n b=false) ⟨σ12,hS12,le12,fun b h=>by omega⟩ fun m w13 d hm hinv=>?_
  obtain ⟨σ13,hS13,le13,hno2⟩:=hinv
  have hv13:=hv11.lift le13
  refine Y9 ?_
  refine Q7 (fun hc=>?_) (fun hc=>?_)
  ·have hm':m<n:=by simpa using hc
   have hm2:m<ms.length:=by omega
   obtain ⟨pv1,cv1,hv1',pn,rn⟩:=hv13.elM hn'
   obtain ⟨pv2,cv2,hv2',pm,rm⟩:=hv13.elM hm2
   obtain ⟨sn1,sn2⟩:=hsn _ (List.getElem_mem hn')
   obtain ⟨sm1,sm2⟩:=hsn _ (List.getElem_mem hm2)
   have hat:A8 ms n m=(decide (ms[n].name=ms[m].name)&& !decide (Qw ms[n]=Qw ms[m])):=by
    unfold A8;rw[Bd hn',Bd hm2]
   have hs13:=hS13.sat
   have hnx:A8 ms n m=false→ ∀b,b<m+1→A8 ms n b=false:=fun e b hb=>by
    by_cases e2:b=m
    ·subst e2;exact e
    ·exact hno2 b (by omega)
   refine U0 hs13 ?_
   (repeat refine J4 Qc ?_)
   by_cases he:ms[n].name=ms[m].name
   ·have hd:decide (ms[n].name=ms[m].name)=true:=by simp[he]
    simp only[hd,reduceIte]
    (repeat (apply J4;(· intros;(repeat (rename_i hx;subst hx));(repeat' (first | (with_reducible exact O3 rfl) | (with_reducible exact S4 (Stp.bel (by (repeat (first | exact Stp.refl (by (first | assumption | exact Stp.sat (by assumption) | exact Hst.sat (by assumption))) | assumption | refine Stp.trans ?_ (by first | assumption | exact Hst.stp (by assumption)))))) rfl) | (with_reducible intro _) | (simp only[↓M2,M2,Mb,reduceIte]) | (with_reducible show Q2 _ _ _ _ _;first | refine X7 aS aL aR ?_ | refine Y4 aS aL aR ?_ | refine ld aS aL aR ?_) | (with_reducible show indexAddr _ _ _ _ _ _;refine Y0 aL au ?_) | (with_reducible show X2 _ _ _ _ _ _ _ _;refine Q8 aL ?_) | (with_reducible show F5 _ _ _ _ _ _;refine J0 aR ?_) | (with_reducible show pick _ _ _ _ _ _;refine M3 ?_) | (with_reducible show Q1 _ _ _ _ _;first | refine Q6p au au au au ?_) | (apply G8;intro hh;(try simp only[hh,reduceIte,↓M2,M2,Mb,reduceIte]))));done)))
    (intros;(repeat (rename_i hx;subst hx));(try simp only[↓M2,M2,Mb,reduceIte]))
    rename_i w14 hb14
    refine Q6p hb14.sat rm sm1 sm2 fun w15 σ15 hk15=>?_
    refine Jf ?_
    (try simp only[↓M1,M1,Mb,reduceIte])
    have hS15:=(hS13.trans hb14.stp).trans hk15
    by_cases hsg:Qw ms[n]=Qw ms[m]
    ·simp only[hsg,decide_true,Bool.not_true,↓M1,M1,Mb,reduceIte]
     refine Y5 (by omega) hm' ⟨σ15,hS15,le13.more ⟨(hb14.stp.trans hk15).le⟩,hnx ?_⟩
     rw[hat,hsg];simp
    ·simp only[hsg,decide_false,Bool.not_false,↓M1,M1,Mb,reduceIte]
     have:R=66:=e66 hA hB (by rw[hov];exact Q9Y hn' hm2 (by rw[hat];simp[he,hsg]))
     subst this
     exact h _ _ hS15
   ·have hd:decide (ms[n].name=ms[m].name)=false:=by simp[he]
    simp only[hd,Bool.false_eq_true,reduceIte]
    (repeat refine J4 Qc ?_)
    (intros;(repeat (rename_i hx;subst hx));(try simp only[↓M2,M2,Mb,reduceIte]))
    rename_i w14 hb14
    (try simp only[↓M1,M1,Mb,reduceIte])
    refine Y5 (by omega) hm' ⟨σ13,hS13.trans hb14.stp,le13,hnx ?_⟩
    rw[hat];simp[he]
  ·have hm0:m=n:=by
    have: ¬m<n:=by simpa using hc
    omega
   subst hm0
   (try simp only[↓M1,M1,Mb,reduceIte])
   refine Y5 hv11.max hn' ⟨σ13,hS13,le13,fun a b ha hb=>?_⟩
   by_cases e:a=m
   ·subst e;exact hno2 b hb
   ·exact hno a b (by omega) hb
 have hC:Zl l c=false:=by
  rw[hov]
  have: ¬n<ms.length:=by simpa using hc
  exact X0W fun x y hx hy=>hno x y (by omega) hy
 clear hno hc hn hv12 hov e66
 refine U2 ms.length (fun n w'=> ∃σ',Stp w σ w' σ'∧SLe σ11 σ'∧(c.abs=true→n=0)∧(ms.take n).any (fun m=>Zf l c.name m.name)=false) ⟨σ12,hS12,le12,fun _=>rfl,rfl⟩ fun n w13 d hn hinv=>?_
 clear hS12 le12
 obtain ⟨σ13,hS13,le13,hab,hno⟩:=hinv
 have hv13:=hv11.lift le13
 have hq13:=hq1.lift (le11.more le13)
 refine Q8 hv13 ?_
 refine Y9 ?_
 by_cases hn':n<ms.length
 ·have e1:decide ((n:Int)<(ms.length:Int))=true:=by simpa using hn'
  rw[e1]
  (try simp only[↓M1,M1,Mb,reduceIte])
  refine ld hS13.sat hq13 rfl ?_
  refine Wj ?_
  (try simp only[↓M1,M1,Mb,reduceIte])
  cases hca:c.abs with
  | true=>
   (try simp only[↓M1,M1,Mb,reduceIte])
   have:R=0:=e0 hA hB hC (by rw[hlk,hca];rfl)
   subst this
   exact h _ _ hS13
  | false=>
   (try simp only[↓M1,M1,Mb,reduceIte])
   obtain ⟨pvn,cvn,hvn,pn,rn⟩:=hv13.elM hn'
   have hs13:=hS13.sat
   have hnx:=L2 (p:=fun m:Hm.Met=>Zf l c.name m.name) hn'
   have hla:Zf l c.name ms[n].name=(!(V2 l c.name ms[n].name).isSome||(o2 (V2 l c.name ms[n].name)).abs):=by
    unfold Zf
    cases V2 l c.name ms[n].name<;>rfl
   generalize hF:(fun o:Option Obj=> ∃cs:List Value,∃e,o=some (.cells cs.toArray e (0,0))∧cs.length=7∧cs[3]? =some (.bool (o2 (V2 l c.name ms[n].name)).abs))=F
   have hFn: ¬F none:=by rw[←hF];rintro ⟨_,_,h,_⟩;cases h
   refine X2V F hs13 ?_
   (repeat (apply J4;(· intros;(repeat (rename_i hx;subst hx));(repeat' (first | (with_reducible exact Q5U rfl) | (with_reducible exact X2u (Stp.bel (by (repeat (first | exact Stp.refl (by (first | assumption | exact Stp.sat (by assumption) | exact Hst.sat (by assumption))) | assumption | refine Stp.trans ?_ (by first | assumption | exact Hst.stp (by assumption)))))) rfl) | (with_reducible intro _) | (simp only[↓M2,M2,Mb,reduceIte]) | (with_reducible show Q2 _ _ _ _ _;first | refine X7 aS aL aR ?_ | refine Y4 aS aL aR ?_ | refine ld aS aL aR ?_) | (with_reducible show indexAddr _ _ _ _ _ _;refine Y0 aL au ?_) | (with_reducible show X2 _ _ _ _ _ _ _ _;refine Q8 aL ?_) | (with_reducible show F5 _ _ _ _ _ _;refine J0 aR ?_) | (with_reducible show pick _ _ _ _ _ _;refine M3 ?_)));done)))
   refine H4 (fun v _=> ∃s,∃ds:List Value,v= .tuple #[s, .agg ds.toArray, .bool (V2 l c.name ms[n].name).isSome]∧ds.length=7∧ds[3]? =some (.bool (o2 (V2 l c.name ms[n].name)).abs)∧ ∀u∈ds,u.oneCell'=true) (fun _ _ _ h _=>h) (fun t180 t185 w hb e1 e2=>?_) ?_
   ·subst e1;subst e2
    refine Q7Y hb.sat (hv.up (hS13.trans hb.stp)) ok fun pv cv hv w' σ' hk hr=>⟨.of_below hk.bel,_,_,rfl,rfl,rfl,Rep.one hr⟩
   refine H4 (fun _ _=>True) (fun _ _ _ _ _=>trivial) (fun t186 w hb e=>?_) ?_
   ·obtain ⟨s,ds,rfl,_⟩:=e
    exact J6 (vs:=[_,_,_]) rfl ⟨.of_below (Below.refl _ _),trivial⟩
   refine H4 (fun v _=> ∃ds:List Value,v= .agg ds.toArray∧ds.length=7∧ds[3]? =some (.bool (o2 (V2 l c.name ms[n].name)).abs)∧ ∀u∈ds,u.oneCell'=true) (fun _ _ _ h _=>h) (fun t186 w hb e=>?_) ?_
   ·obtain ⟨s,ds,rfl,h7⟩:=e
    exact J6 (vs:=[_,_,_]) rfl ⟨.of_below (Below.refl _ _),ds,rfl,h7⟩
   refine J4 (V:= .bool (V2 l c.name ms[n].name).isSome) (fun t186 w hb e=>?_) ?_
   ·obtain ⟨s,ds,rfl,h7⟩:=e
    exact J6 (vs:=[_,_,_]) rfl (Q5U rfl)
   refine H4 (X2B w13.heap.size 7 F) (Q8I hFn) (fun w hb=>?_) ?_
   ·exact Iy hb.sat fun b w' hb2 hk hm=>⟨.of_below hk.bel,b,rfl,Nat.le_trans hb.stp.bel.size hb2, .inl ⟨_,hm.2.choose,rfl,hm.2.choose_spec⟩⟩
   refine Q3U (fun xs _ w=>X2Y w13.heap.size F (xs.headD undef) w) (fun xs _ w w' h hT=>Q8e hFn _ w w' h hT) (fun t18 t188 w hb e1 e2=>?_) ?_
   ·obtain ⟨g,rfl,hg,hd⟩:=e1
    obtain ⟨ds,rfl,h7,h3,h1⟩:=e2
    obtain ⟨cs,e,hl7,hh⟩: ∃cs:List Value,∃e,cs.length=7∧w.heap[g]? =some (.cells cs.toArray e (0,0)):=by
     rcases hd with h | h
     ·exact h
     ·rw[←hF] at h
      obtain ⟨cs,e,h4,h5,_⟩:=h
      exact ⟨cs,e,h5,h4⟩
    refine Nt (σ:=fun _=>none) (cs:=cs) (ds:=ds) ⟨rfl,e,hh⟩ hl7 h7 (by rw[List.all_toArray];exact List.all_eq_true.2 h1) fun w' hu hm=>?_
    have hFg:F (w'.heap[g]?):=by
     obtain ⟨_,e',hm'⟩:=hm
     rw[hm',←hF]
     exact ⟨ds,e',rfl,h7,h3⟩
    exact ⟨FinT.of_upd hu hg hFg,g,rfl,hg,hFg⟩
   rintro t179 t183 t184 t180 t185 t186 t187 t188 t189 t18 u15 w14 hb14 rfl rfl rfl rfl rfl _ _ _ rfl _ ⟨g,e,hg,hd⟩
   have e:t18=_:=e
   subst e
   rw[←hF] at hd
   obtain ⟨cs,ty,hh,hl7,h3⟩:=hd
   have hS14:=hS13.trans hb14.stp
   refine Wj ?_
   cases hsm:(V2 l c.name ms[n].name).isSome with
   | false=>
    (try simp only[↓M1,M1,Mb,reduceIte])
    have:R=67:=e67 hA hB hC (by rw[hlk,hca];exact C2 hn' (by rw[hla,hsm];rfl))
    subst this
    exact h _ _ hS14
   | true=>
    (try simp only[↓M1,M1,Mb,reduceIte])
    refine Yg (σ:=fun _=>none) ⟨rfl,ty,hh⟩ h3 ?_
    (try simp only[↓M1,M1,Mb,reduceIte])
    cases hma:(o2 (V2 l c.name ms[n].name)).abs with
    | true=>
     (try simp only[↓M1,M1,Mb,reduceIte])
     have:R=67:=e67 hA hB hC (by rw[hlk,hca];exact C2 hn' (by rw[hla,hma,Bool.or_true]))
     subst this
     exact h _ _ hS14
    | false=>
     (try simp only[↓M1,M1,Mb,reduceIte])
     refine Y5 hv11.max hn' ⟨σ13,hS14,le13,fun e=>False.elim (by simpa using e),?_⟩
     rw[hnx,hno,hla,hsm,hma];rfl
 ·have e1:decide ((n:Int)<(ms.length:Int))=false:=by simpa using hn'
  rw[e1]
  (try simp only[↓M1,M1,Mb,reduceIte])
  rw[E3 hn'] at hno
  have:R=0:=e0 hA hB hC (by rw[hlk,hno,Bool.and_false])
  subst this
  exact h _ _ hS13)
end Go.Proofs.YtjdiakhipmggjaaGreatDoor

namespace Go.Proofs.YtjdiakhipmggjaaGreatDoor
open Go.Emb Go.RowKit Go.Kd Go.Hm
variable {w : World} {K : Value → World → Prop} {σ : Q6} {l : List Cla} {v : Value}
theorem X2p {w0:World} {σ0:Q6} {frm:Nat} (Y:Ja l) (ho:T9 l) (hl:l.length≤1000) (av: ∀c∈l,Qj c) (hf:0<frm) (a0: ∀i (H:i<l.length),frm≤i→ ∀u∈U3 l[i],∃j,Z2 l u=some j): ∀(k:Nat) {i:Nat} {b:List Nat} {x:Value} {w:World} {σ:Q6} {K:Value→World→Prop},i<l.length→P1 l (Y3 l i)<k→Few l b→Stp w0 σ0 w σ→Sl 8 V0 σ v l→V6 w0.heap.size T.e 1 Wr σ w x (ints b)→
 (∀x' w' M,Stp w0 σ0 w' M→SLe σ M→V6 w0.heap.size T.e 1 Wr M w' x' (ints (Xx l frm b i))→K x' w')→Q1 P F.b3 [v,x,I frm,I i] w K:=by
 intro k
 induction k with
 | zero=>intro i b x w σ K H hk;omega
 | succ k ih=>
  intro i b x w σ K H hk C hS hv hx h
  refine Q0y ?_
  unfold Ez
  rw[Q7g Y ho hf b H] at h
  refine Y9 ?_
  refine Q7 (fun O=>?_) (fun O=>?_)
  ·have O:i<frm:=by have:=of_decide_eq_true O;omega
   rw[if_pos O] at h
   exact h _ _ _ hS (SLe.refl _) hx
  have O: ¬i<frm:=by have:=of_decide_eq_false O;omega
  rw[if_neg O] at h
  have bq:=C.len
  refine U2 b.length (fun n w'=>w'=w∧ ∀m (hm:m<b.length),m<n→b[m]≠i) ⟨rfl,fun m _ h=>by omega⟩ fun n w2 d hn o=>?_
  obtain ⟨hw,N⟩:=o
  subst hw
  refine Q8u hx ?_
  rw[show (ints b).length=b.length from by simp]
  refine Y9 ?_
  refine Q7 (fun A=>?_) (fun A=>?_)
  ·have f:n<b.length:=by simpa using A
   refine Q5p (J7.of_acc hx) (n:=n) (by simpa using f) fun a cs ax bo hr=>?_
   obtain ⟨rfl,_⟩:=hr
   refine Qf (by have:=ax 0 _ rfl;rwa [add_zero] at this) ?_
   simp only[List.getElem_map]
   refine I1 ?_
   by_cases e:b[n]=i
   ·have:decide ((b[n]:Int)=i)=true:=by simp[e]
    rw[this]
    refine Z9 ?_
    rw[if_pos (e▸List.getElem_mem f)] at h
    exact h _ _ _ hS (SLe.refl _) hx
   ·have:decide ((b[n]:Int)=i)=false:=by rw[decide_eq_false_iff_not];omega
    rw[this]
    refine Z4 ?_
    refine N0 ?_
    refine Y5 (by omega) f ⟨rfl,fun m hm bl=>?_⟩
    by_cases e2:m=n
    ·subst e2;exact e
    ·exact N m hm (by omega)
  ·have f: ¬n<b.length:=by simpa using A
   have E:i∉b:=fun ao=>by
    obtain ⟨m,hm,e⟩:=List.getElem_of_mem ao
    exact N m hm (by omega) e
   rw[if_neg E] at h
   have af:l.getD i Cla.zero=l[i]:=by rw[List.getD_eq_getElem?_getD,List.getElem?_eq_getElem H];rfl
   rw[af] at h
   have ar:=a0 i H (by omega)
   obtain ⟨lv,fv,mv,p1,r1⟩:=hv.elC H
   obtain ⟨g1,_,_,_,g5⟩:=r1.parts
   have D:=av _ (List.getElem_mem H)
   clear N E A hn
   refine U0 hS.sat ?_
   (repeat refine J4 Qc ?_)
   refine Q1C (w:=w2) (σ:=σ) (R:=U8) (sz:=1) (e:=T.c) [l[i].super] (fun t w hb e=>?_) ?_
   ·subst e;exact Zh hb.stp [_] [l[i].super] rfl rfl (by simp;rfl) rfl ⟨⟨rfl,g5⟩,trivial⟩ fun v' w' hk Y _=>Q3t hb hk Y
   (repeat refine J4 Qc ?_)
   rintro bm bi bd bs bh bk a9 w4 aq rfl rfl rfl rfl rfl ⟨ad,ag⟩ rfl
   refine Wh ad ag g1 rfl (by simp;have:=D.1;omega) (by simp;have:=D.1;omega) fun v5 w5 ay V Z ae=>?_
   obtain ⟨σ6,q,L,bp,_⟩:=Z.keep V
   have L:Sl 1 U8 σ6 v5 (U3 l[i]):=L
   have am:=hx.up q
   have W:=hv.up q
   have aa:=hS.trans q
   have X:SLe σ σ6:=⟨q.le⟩
   clear ay ae Z ag ad aq V
   refine E5 (U3 l[i]).length (fun n x w'=> ∃M p,Stp w0 σ0 w' M∧SLe σ6 M∧V6 w0.heap.size T.e 1 Wr M w' x (ints p)∧Few l p∧p=((U3 l[i]).take n).foldl (fun b n=>Xx l frm b ((Z2 l n).getD 0)) b) ⟨σ6,b,aa,SLe.refl _,am,C,rfl⟩ fun n x7 w7 d hn o=>?_
   obtain ⟨σ7,a5,r,y,ac,g,J⟩:=o
   have z:=L.lift y
   refine Q8 z ?_
   refine Y9 ?_
   refine Q7 (fun A=>?_) (fun A=>?_)
   ·have f:n<(U3 l[i]).length:=by simpa using A
    refine Y0 z f ?_
    obtain ⟨p7,_⟩:=z.elS f
    refine X7 r.sat p7 rfl ?_
    have B:=W.lift y
    refine I8 r.sat B ?_
    obtain ⟨j,hj⟩:=ar _ (List.getElem_mem f)
    have bj:=Q1D Y ho H (by rw[af];exact List.getElem_mem f) hj
    have ab:=(S7 hj).1
    simp only[hj,L5]
    refine ih ab (by omega) g r B ac fun x8 w8 σ8 U an Q=>?_
    refine N0 ?_
    refine J3 z.max f ⟨σ8,_,U,y.more an,Q,Pr Y ho hf _ _ _ ab g,?_⟩
    rw[List.take_add_one,List.getElem?_eq_getElem f,List.foldl_append,←J]
    simp[hj]
   ·have f: ¬n<(U3 l[i]).length:=by simpa using A
    rw[List.take_of_length_le (by omega)] at J
    have be:=g.len
    refine Ug (R:=Wr) (x:=(i:Int)) r ac ⟨rfl,by omega,by omega⟩ rfl rfl rfl (by simp;omega) (by simp;omega) fun s x8 w8 σ8 ap U Q _=>?_
    refine h _ _ _ U ((X.more y).more ap.le) ?_
    rw[←J]
    simpa [ints] using Q
end Go.Proofs.YtjdiakhipmggjaaGreatDoor

namespace Go.Hm
open Go.Kd
def C5 (n i b:Nat):Bool:=decide (i<n)&&decide (128≤b)&&decide (b<192)
def Jh (n a b c d:Nat):Nat:=
 if a<128 then 1
 else if (decide (194≤a)&&decide (a<224)&&C5 n 1 b)=true then 2
 else if (decide (224≤a)&&decide (a<240)&&C5 n 1 b&&C5 n 2 c)=true then
  (if 2048≤a % 16*4096+b % 64*64+c % 64∧(a % 16*4096+b % 64*64+c % 64<55296∨57343<a % 16*4096+b % 64*64+c % 64) then 3 else 0)
 else if (decide (240≤a)&&decide (a<245)&&C5 n 1 b&&C5 n 2 c&&C5 n 3 d)=true then
  (if 65536≤a % 8*262144+b % 64*4096+c % 64*64+d % 64∧a % 8*262144+b % 64*4096+c % 64*64+d % 64≤1114111 then 4 else 0)
 else 0
theorem X0U (n a b c d:Nat) (p:a<256) (s:b<256) (r:c<256) (q:d<256):
 Jh n a b c d=if (Lib.decodeN n a b c d).1=65533∧(Lib.decodeN n a b c d).2=1 then 0 else (Lib.decodeN n a b c d).2:=by
 have key: ∀v k:Nat,Lib.decodeN n a b c d=(v,k)→ ¬k=1→Jh n a b c d=k→Jh n a b c d=if (Lib.decodeN n a b c d).1=65533∧(Lib.decodeN n a b c d).2=1 then 0 else (Lib.decodeN n a b c d).2:=by
  intro v k h o l
  rw[h,l,if_neg (fun e=>o e.2)]
 have f:Lib.decodeN n a b c d=(65533,1)→Jh n a b c d=0→Jh n a b c d=if (Lib.decodeN n a b c d).1=65533∧(Lib.decodeN n a b c d).2=1 then 0 else (Lib.decodeN n a b c d).2:=by
  intro h l
  rw[h,l];simp
 by_cases c0:a<128
 ·have h:Lib.decodeN n a b c d=(a,1):=by unfold Lib.decodeN;rw[if_pos c0]
  rw[h,if_neg (by simp only;omega)]
  unfold Jh;rw[if_pos c0]
 by_cases i:a / 32=6∧(1<n∧b / 64=2)
 ·by_cases g:a % 32*64+b % 64≥128
  ·refine key _ 2 (by unfold Lib.decodeN;rw[if_neg c0,if_pos i,if_pos g]) (by decide) ?_
   unfold Jh C5
   simp only[Bool.and_eq_true,decide_eq_true_eq]
   rw[if_neg c0,if_pos (by omega)]
  ·refine f (by unfold Lib.decodeN;rw[if_neg c0,if_pos i,if_neg g]) ?_
   unfold Jh C5
   simp only[Bool.and_eq_true,decide_eq_true_eq]
   rw[if_neg c0,if_neg (by omega),if_neg (by omega),if_neg (by omega)]
 by_cases j:a / 16=14∧(1<n∧b / 64=2)∧(2<n∧c / 64=2)
 ·by_cases g:2048≤a % 16*4096+b % 64*64+c % 64∧(a % 16*4096+b % 64*64+c % 64<55296∨57343<a % 16*4096+b % 64*64+c % 64)
  ·refine key _ 3 (by unfold Lib.decodeN;rw[if_neg c0,if_neg i,if_pos j,if_pos (by omega)]) (by decide) ?_
   unfold Jh C5
   simp only[Bool.and_eq_true,decide_eq_true_eq]
   rw[if_neg c0,if_neg (by omega),if_pos (by omega),if_pos g]
  ·refine f (by unfold Lib.decodeN;rw[if_neg c0,if_neg i,if_pos j,if_neg (by omega)]) ?_
   unfold Jh C5
   simp only[Bool.and_eq_true,decide_eq_true_eq]
   rw[if_neg c0,if_neg (by omega),if_pos (by omega),if_neg g]
 by_cases m:a / 8=30∧(1<n∧b / 64=2)∧(2<n∧c / 64=2)∧(3<n∧d / 64=2)
 ·by_cases g:65536≤a % 8*262144+b % 64*4096+c % 64*64+d % 64∧a % 8*262144+b % 64*4096+c % 64*64+d % 64≤1114111
  ·refine key _ 4 (by unfold Lib.decodeN;rw[if_neg c0,if_neg i,if_neg j,if_pos m,if_pos (by omega)]) (by decide) ?_
   unfold Jh C5
   simp only[Bool.and_eq_true,decide_eq_true_eq]
   rw[if_neg c0,if_neg (by omega),if_neg (by omega),if_pos (by omega),if_pos g]
  ·refine f (by unfold Lib.decodeN;rw[if_neg c0,if_neg i,if_neg j,if_pos m,if_neg (by omega)]) ?_
   unfold Jh C5
   simp only[Bool.and_eq_true,decide_eq_true_eq]
   rw[if_neg c0,if_neg (by omega),if_neg (by omega)]
   by_cases t:a<245
   ·rw[if_pos (by omega),if_neg g]
   ·rw[if_neg (by omega)]
 ·refine f (by unfold Lib.decodeN;rw[if_neg c0,if_neg i,if_neg j,if_neg m]) ?_
  unfold Jh C5
  simp only[Bool.and_eq_true,decide_eq_true_eq]
  rw[if_neg c0,if_neg (by omega),if_neg (by omega),if_neg (by omega)]
def X5 (l:X0) (i:Nat):Nat:=(l.getD i 0).toNat
theorem Yf (l:X0) (i:Nat):X5 l i<256:=(l.getD i 0).toNat_lt
def Jg (l:X0):Nat:=Jh l.length (X5 l 0) (X5 l 1) (X5 l 2) (X5 l 3)
theorem Q5K (l:X0):Jg l=if (Lib.decodeL l).1=65533∧(Lib.decodeL l).2=1 then 0 else (Lib.decodeL l).2:=by
 rw[Lib.decodeL_N]
 exact X0U _ _ _ _ _ (Yf l 0) (Yf l 1) (Yf l 2) (Yf l 3)
theorem Q9p {l:X0} (a:l≠[]) (h:Jg l≠0):1≤Jg l∧Jg l≤l.length:=by
 have c:=Lib.decodeL_le l a
 have b:=Lib.decodeL_width l
 rw[Q5K] at h⊢
 split at h
 ·exact absurd rfl h
 ·rw[if_neg (by assumption)];omega
theorem Q88 {f:Nat} {l:X0} (a:l≠[]):Lib.validGoD (f+1) l=if Jg l=0 then false else Lib.validGoD f (l.drop (Jg l)):=by
 have b:=Lib.decodeL_width l
 simp only[Lib.validGoD,if_neg a]
 rw[Q5K]
 split
 ·rw[if_pos rfl]
 ·rw[if_neg (by omega)]
end Go.Hm
namespace Go.Emb
open Go.RowKit
theorem Q6m {P:Program} {w:World} {K:Value→World→Prop} {k:IntKind} {t:TypeId} {d b:Operand} {a c:Int} (f:0<c∧0≤a) (h:K (.int k (a % c)) w):Q3 P .rem t d b (.int k a) (.int k c) w K:=by
 have e:Q3 P .rem t d b (.int k a) (.int k c) w K=K (.int k (a.tmod c)) w:=X9 (by simp[eqGuard,Go.binOp,Op.intDiv];intro e;omega)
 rw[e,Int.tmod_eq_emod_of_nonneg f.2];exact h
end Go.Emb
namespace Go.Proofs.YtjdiakhipmggjaaGreatDoor
open Go.Emb Go.RowKit Go.Kd Go.Hm
variable {w : World} {K : Value → World → Prop} {σ : Q6}
theorem Nc {a:X0} {i:Nat} (b:i<a.length) (h:K (.int .u8 (X5 a i)) w):C4 P T.c (S a) (I i) w K:=by
 rw[Xw X8 (by omega) (by simpa using b)]
 have:(a[(i:Int).toNat]'(by simpa using b)).toNat=X5 a i:=by
  unfold X5
  rw[List.getD_eq_getElem?_getD,List.getElem?_eq_getElem b];rfl
 rw[this];exact h
theorem Q41 {n:Int} (a:0≤n∧n<256) (h:K (I n) w):conv P T.a3 T.e (.int .u8 n) w K:=by
 rw[Td Q3W Q1L,G1 (by omega) (by omega)];exact h
theorem Wy {a:X0} {i:Nat} (h:K (.bool (C5 a.length i (X5 a i))) w):Q1 P F.s [S a,I i] w K:=Pn (by
 unfold Oa
 unfold C5 at h
 simp only[↓M1,M1,Mb,reduceIte]
 by_cases b:i<a.length
 ·have c:decide ((i:Int)<a.length)=true:=by rw[decide_eq_true_eq];omega
  have d:decide (i<a.length)=true:=by simpa using b
  rw[d] at h
  simp only[c,↓M1,M1,Mb,reduceIte]
  refine Nc b ?_
  (try simp only[↓M1,M1,Mb,reduceIte])
  have g:decide ((128:Int)≤(X5 a i:Int))=decide (128≤X5 a i):=by rw[Bool.eq_iff_iff,decide_eq_true_eq,decide_eq_true_eq];omega
  have f:decide ((X5 a i:Int)<192)=decide (X5 a i<192):=by rw[Bool.eq_iff_iff,decide_eq_true_eq,decide_eq_true_eq];omega
  rw[g]
  cases e:decide (128≤X5 a i) with
  | true=>
   rw[e] at h
   simp only[↓M1,M1,Mb,reduceIte]
   refine Nc b ?_
   simp only[f,↓M1,M1,Mb,reduceIte]
   simpa using h
  | false=>
   rw[e] at h
   simp only[↓M1,M1,Mb,reduceIte]
   simpa using h
 ·have c:decide ((i:Int)<a.length)=false:=by rw[decide_eq_false_iff_not];omega
  have d:decide (i<a.length)=false:=by simpa using b
  rw[d] at h
  simp only[c,↓M1,M1,Mb,reduceIte]
  simpa using h)
def Um (a:X0):Nat:=X5 a 0 % 16*4096+X5 a 1 % 64*64+X5 a 2 % 64
def Sy (a:X0):Nat:=X5 a 0 % 8*262144+X5 a 1 % 64*4096+X5 a 2 % 64*64+X5 a 3 % 64
theorem Q8S (a:X0):Jg a=if X5 a 0<128 then 1
 else if (decide (194≤X5 a 0)&&decide (X5 a 0<224)&&C5 a.length 1 (X5 a 1))=true then 2
 else if (decide (224≤X5 a 0)&&decide (X5 a 0<240)&&C5 a.length 1 (X5 a 1)&&C5 a.length 2 (X5 a 2))=true then
  (if 2048≤Um a∧(Um a<55296∨57343<Um a) then 3 else 0)
 else if (decide (240≤X5 a 0)&&decide (X5 a 0<245)&&C5 a.length 1 (X5 a 1)&&C5 a.length 2 (X5 a 2)&&C5 a.length 3 (X5 a 3))=true then
  (if 65536≤Sy a∧Sy a≤1114111 then 4 else 0)
 else 0:=rfl
set_option maxHeartbeats 2000000 in
theorem X0m {a:X0} (hne:a≠[]) (hs:X3 w σ) (h: ∀w',Below w.heap.size w w'→K (I (Jg a)) w'):Q1 P F.bI [S a] w K:=Tu (by
 unfold Df
 have hl:0<a.length:=List.length_pos_iff.2 hne
 have b0:=Yf a 0
 have b1:=Yf a 1
 have b2:=Yf a 2
 have b3:=Yf a 3
 refine Nc (i:=0) hl ?_
 refine Q41 (by omega) ?_
 refine Zy (fun _ w'=>Below w.heap.size w w'∧Jg a=0) ?_ (fun _ d w' hx=>by
  have:=h w' hx.1
  rw[hx.2] at this
  exact this)
 have hK: ∀n w',Below w.heap.size w w'→Jg a=n→K (I n) w':=fun n w' hb e=>by rw[←e];exact h w' hb
 clear h
 have hcm:=Q8S a
 simp only[↓M1,M1,Mb,reduceIte]
 refine Q7 (fun h1=>?_) (fun h1=>?_)
 ·have:X5 a 0<128:=by have:=of_decide_eq_true h1;omega
  exact hK 1 _ (Below.refl _ _) (by rw[hcm,if_pos this])
 have c0: ¬X5 a 0<128:=by have:=of_decide_eq_false h1;omega
 rw[if_neg c0] at hcm
 by_cases c1:X5 a 0<194
 ·have i1:decide ((194:Int)≤X5 a 0)=false:=by rw[decide_eq_false_iff_not];omega
  have n1:decide (194≤X5 a 0)=false:=by rw[decide_eq_false_iff_not];omega
  have i2:decide ((X5 a 0:Int)<224)=true:=by rw[decide_eq_true_eq];omega
  have n2:decide (X5 a 0<224)=true:=by rw[decide_eq_true_eq];omega
  have i3:decide ((224:Int)≤X5 a 0)=false:=by rw[decide_eq_false_iff_not];omega
  have n3:decide (224≤X5 a 0)=false:=by rw[decide_eq_false_iff_not];omega
  have i4:decide ((X5 a 0:Int)<240)=true:=by rw[decide_eq_true_eq];omega
  have n4:decide (X5 a 0<240)=true:=by rw[decide_eq_true_eq];omega
  have i5:decide ((240:Int)≤X5 a 0)=false:=by rw[decide_eq_false_iff_not];omega
  have n5:decide (240≤X5 a 0)=false:=by rw[decide_eq_false_iff_not];omega
  have i6:decide ((X5 a 0:Int)<245)=true:=by rw[decide_eq_true_eq];omega
  have n6:decide (X5 a 0<245)=true:=by rw[decide_eq_true_eq];omega
  simp only[i1,i2,i3,i4,i5,i6,↓M1,M1,Mb,reduceIte]
  exact ⟨Below.refl _ _,by rw[hcm];simp only[n1,n2,n3,n4,n5,n6,Bool.and_true,Bool.true_and,Bool.false_and,Bool.and_false,Bool.false_eq_true,if_true,if_false,reduceIte]⟩
 by_cases c2:X5 a 0<224
 ·have i1:decide ((194:Int)≤X5 a 0)=true:=by rw[decide_eq_true_eq];omega
  have n1:decide (194≤X5 a 0)=true:=by rw[decide_eq_true_eq];omega
  have i2:decide ((X5 a 0:Int)<224)=true:=by rw[decide_eq_true_eq];omega
  have n2:decide (X5 a 0<224)=true:=by rw[decide_eq_true_eq];omega
  have i3:decide ((224:Int)≤X5 a 0)=false:=by rw[decide_eq_false_iff_not];omega
  have n3:decide (224≤X5 a 0)=false:=by rw[decide_eq_false_iff_not];omega
  have i4:decide ((X5 a 0:Int)<240)=true:=by rw[decide_eq_true_eq];omega
  have n4:decide (X5 a 0<240)=true:=by rw[decide_eq_true_eq];omega
  have i5:decide ((240:Int)≤X5 a 0)=false:=by rw[decide_eq_false_iff_not];omega
  have n5:decide (240≤X5 a 0)=false:=by rw[decide_eq_false_iff_not];omega
  have i6:decide ((X5 a 0:Int)<245)=true:=by rw[decide_eq_true_eq];omega
  have n6:decide (X5 a 0<245)=true:=by rw[decide_eq_true_eq];omega
  simp only[i1,i2,i3,i4,i5,i6,↓M1,M1,Mb,reduceIte]
  refine Wy (i:=1) ?_
  cases A1:C5 a.length 1 (X5 a 1) with
  | true=>simp only[↓M1,M1,Mb,reduceIte];exact hK 2 _ (Below.refl _ _) (by rw[hcm];simp only[A1,n1,n2,n3,n4,n5,n6,Bool.and_true,Bool.true_and,Bool.false_and,Bool.and_false,Bool.false_eq_true,if_true,if_false,reduceIte])
  | false=>simp only[↓M1,M1,Mb,reduceIte];exact ⟨Below.refl _ _,by rw[hcm];simp only[A1,n1,n2,n3,n4,n5,n6,Bool.and_true,Bool.true_and,Bool.false_and,Bool.and_false,Bool.false_eq_true,if_true,if_false,reduceIte]⟩
 by_cases c3:X5 a 0<240
 ·have i1:decide ((194:Int)≤X5 a 0)=true:=by rw[decide_eq_true_eq];omega
  have n1:decide (194≤X5 a 0)=true:=by rw[decide_eq_true_eq];omega
  have i2:decide ((X5 a 0:Int)<224)=false:=by rw[decide_eq_false_iff_not];omega
  have n2:decide (X5 a 0<224)=false:=by rw[decide_eq_false_iff_not];omega
  have i3:decide ((224:Int)≤X5 a 0)=true:=by rw[decide_eq_true_eq];omega
  have n3:decide (224≤X5 a 0)=true:=by rw[decide_eq_true_eq];omega
  have i4:decide ((X5 a 0:Int)<240)=true:=by rw[decide_eq_true_eq];omega
  have n4:decide (X5 a 0<240)=true:=by rw[decide_eq_true_eq];omega
  have i5:decide ((240:Int)≤X5 a 0)=false:=by rw[decide_eq_false_iff_not];omega
  have n5:decide (240≤X5 a 0)=false:=by rw[decide_eq_false_iff_not];omega
  have i6:decide ((X5 a 0:Int)<245)=true:=by rw[decide_eq_true_eq];omega
  have n6:decide (X5 a 0<245)=true:=by rw[decide_eq_true_eq];omega
  simp only[i1,i2,i3,i4,i5,i6,↓M1,M1,Mb,reduceIte]
  refine Wy (i:=1) ?_
  cases A1:C5 a.length 1 (X5 a 1) with
  | false=>simp only[↓M1,M1,Mb,reduceIte];exact ⟨Below.refl _ _,by rw[hcm];simp only[A1,n1,n2,n3,n4,n5,n6,Bool.and_true,Bool.true_and,Bool.false_and,Bool.and_false,Bool.false_eq_true,if_true,if_false,reduceIte]⟩
  | true=>
  simp only[↓M1,M1,Mb,reduceIte]
  refine Wy (i:=2) ?_
  cases A2:C5 a.length 2 (X5 a 2) with
  | false=>simp only[↓M1,M1,Mb,reduceIte];exact ⟨Below.refl _ _,by rw[hcm];simp only[A1,A2,n1,n2,n3,n4,n5,n6,Bool.and_true,Bool.true_and,Bool.false_and,Bool.and_false,Bool.false_eq_true,if_true,if_false,reduceIte]⟩
  | true=>
  simp only[↓M1,M1,Mb,reduceIte]
  simp only[A1,A2,n1,n2,n3,n4,n5,n6,Bool.and_true,Bool.true_and,Bool.false_and,Bool.and_false,Bool.false_eq_true,if_true,if_false,reduceIte] at hcm
  have hl1:1<a.length:=by unfold C5 at A1;simp only[Bool.and_eq_true,decide_eq_true_eq] at A1;exact A1.1.1
  have hl2:2<a.length:=by unfold C5 at A2;simp only[Bool.and_eq_true,decide_eq_true_eq] at A2;exact A2.1.1
  have hw:IntKind.i64.wrap (IntKind.i64.wrap (IntKind.i64.wrap ((X5 a 0:Int) % 16*4096)+IntKind.i64.wrap ((X5 a 1:Int) % 64*64))+(X5 a 2:Int) % 64)=((Um a:Nat):Int):=by
   rw[G1 (n:=(X5 a 0:Int) % 16*4096) (by omega) (by omega),G1 (n:=(X5 a 1:Int) % 64*64) (by omega) (by omega),G1 (n:=_+(X5 a 1:Int) % 64*64) (by omega) (by omega),G1 (by omega) (by omega)]
   unfold Um;omega
  refine U0 hs ?_
  have hx1: ∀{w':World} {K:Value→World→Prop},K (.int .u8 (X5 a 1)) w'→C4 P T.c (S a) (.int .i64 1) w' K:=fun hK=>Nc (i:=1) hl1 hK
  have hx2: ∀{w':World} {K:Value→World→Prop},K (.int .u8 (X5 a 2)) w'→C4 P T.c (S a) (.int .i64 2) w' K:=fun hK=>Nc (i:=2) hl2 hK
  (repeat (apply J4;(· intros;(repeat (rename_i hx;subst hx));(repeat' (first | (with_reducible exact O3 rfl) | (with_reducible exact S4 (Stp.bel (by (repeat (first | exact Stp.refl (by (first | assumption | exact Stp.sat (by assumption) | exact Hst.sat (by assumption))) | assumption | refine Stp.trans ?_ (by first | assumption | exact Hst.stp (by assumption)))))) rfl) | (with_reducible intro _) | (simp only[↓M2,M2,Mb,reduceIte]) | (with_reducible refine Q6m au ?_) | (with_reducible refine Q41 au ?_) | (with_reducible refine hx1 ?_) | (with_reducible refine hx2 ?_) | (with_reducible show Q2 _ _ _ _ _;first | refine X7 aS aL aR ?_ | refine Y4 aS aL aR ?_ | refine ld aS aL aR ?_) | (with_reducible show indexAddr _ _ _ _ _ _;refine Y0 aL au ?_) | (with_reducible show X2 _ _ _ _ _ _ _ _;refine Q8 aL ?_) | (with_reducible show F5 _ _ _ _ _ _;refine J0 aR ?_) | (with_reducible show pick _ _ _ _ _ _;refine M3 ?_) | (apply G8;intro hh;(try simp only[hh,reduceIte,↓M2,M2,Mb,reduceIte]))));done)))
  (intros;(repeat (rename_i hx;subst hx));(try simp only[↓M2,M2,Mb,reduceIte]))
  rename_i w2 hb2
  simp only[hw]
  have hb:=hb2.stp.bel
  by_cases e1:2048≤Um a
  ·by_cases e2:Um a<55296
   ·simp only[(show decide ((2048:Int)≤(Um a:Int))=true by rw[decide_eq_true_eq];omega),(show decide ((Um a:Int)<55296)=true by rw[decide_eq_true_eq];omega),↓M1,M1,Mb,reduceIte]
    exact hK 3 _ hb (by rw[hcm,if_pos ⟨e1, .inl e2⟩])
   ·by_cases e3:57343<Um a
    ·simp only[(show decide ((2048:Int)≤(Um a:Int))=true by rw[decide_eq_true_eq];omega),(show decide ((Um a:Int)<55296)=false by rw[decide_eq_false_iff_not];omega),(show decide ((57343:Int)<(Um a:Int))=true by rw[decide_eq_true_eq];omega),↓M1,M1,Mb,reduceIte]
     exact hK 3 _ hb (by rw[hcm,if_pos ⟨e1, .inr e3⟩])
    ·simp only[(show decide ((2048:Int)≤(Um a:Int))=true by rw[decide_eq_true_eq];omega),(show decide ((Um a:Int)<55296)=false by rw[decide_eq_false_iff_not];omega),(show decide ((57343:Int)<(Um a:Int))=false by rw[decide_eq_false_iff_not];omega),↓M1,M1,Mb,reduceIte]
     exact ⟨hb,by rw[hcm,if_neg (by omega)]⟩
  ·simp only[(show decide ((2048:Int)≤(Um a:Int))=false by rw[decide_eq_false_iff_not];omega),↓M1,M1,Mb,reduceIte]
   exact ⟨hb,by rw[hcm,if_neg (by omega)]⟩
 by_cases c4:X5 a 0<245
 ·have i1:decide ((194:Int)≤X5 a 0)=true:=by rw[decide_eq_true_eq];omega
  have n1:decide (194≤X5 a 0)=true:=by rw[decide_eq_true_eq];omega
  have i2:decide ((X5 a 0:Int)<224)=false:=by rw[decide_eq_false_iff_not];omega
  have n2:decide (X5 a 0<224)=false:=by rw[decide_eq_false_iff_not];omega
  have i3:decide ((224:Int)≤X5 a 0)=true:=by rw[decide_eq_true_eq];omega
  have n3:decide (224≤X5 a 0)=true:=by rw[decide_eq_true_eq];omega
  have i4:decide ((X5 a 0:Int)<240)=false:=by rw[decide_eq_false_iff_not];omega
  have n4:decide (X5 a 0<240)=false:=by rw[decide_eq_false_iff_not];omega
  have i5:decide ((240:Int)≤X5 a 0)=true:=by rw[decide_eq_true_eq];omega
  have n5:decide (240≤X5 a 0)=true:=by rw[decide_eq_true_eq];omega
  have i6:decide ((X5 a 0:Int)<245)=true:=by rw[decide_eq_true_eq];omega
  have n6:decide (X5 a 0<245)=true:=by rw[decide_eq_true_eq];omega
  simp only[i1,i2,i3,i4,i5,i6,↓M1,M1,Mb,reduceIte]
  refine Wy (i:=1) ?_
  cases A1:C5 a.length 1 (X5 a 1) with
  | false=>simp only[↓M1,M1,Mb,reduceIte];exact ⟨Below.refl _ _,by rw[hcm];simp only[A1,n1,n2,n3,n4,n5,n6,Bool.and_true,Bool.true_and,Bool.false_and,Bool.and_false,Bool.false_eq_true,if_true,if_false,reduceIte]⟩
  | true=>
  simp only[↓M1,M1,Mb,reduceIte]
  refine Wy (i:=2) ?_
  cases A2:C5 a.length 2 (X5 a 2) with
  | false=>simp only[↓M1,M1,Mb,reduceIte];exact ⟨Below.refl _ _,by rw[hcm];simp only[A1,A2,n1,n2,n3,n4,n5,n6,Bool.and_true,Bool.true_and,Bool.false_and,Bool.and_false,Bool.false_eq_true,if_true,if_false,reduceIte]⟩
  | true=>
  simp only[↓M1,M1,Mb,reduceIte]
  refine Wy (i:=3) ?_
  cases A3:C5 a.length 3 (X5 a 3) with
  | false=>simp only[↓M1,M1,Mb,reduceIte];exact ⟨Below.refl _ _,by rw[hcm];simp only[A1,A2,A3,n1,n2,n3,n4,n5,n6,Bool.and_true,Bool.true_and,Bool.false_and,Bool.and_false,Bool.false_eq_true,if_true,if_false,reduceIte]⟩
  | true=>
  simp only[↓M1,M1,Mb,reduceIte]
  simp only[A1,A2,A3,n1,n2,n3,n4,n5,n6,Bool.and_true,Bool.true_and,Bool.false_and,Bool.and_false,Bool.false_eq_true,if_true,if_false,reduceIte] at hcm
  have hl1:1<a.length:=by unfold C5 at A1;simp only[Bool.and_eq_true,decide_eq_true_eq] at A1;exact A1.1.1
  have hl2:2<a.length:=by unfold C5 at A2;simp only[Bool.and_eq_true,decide_eq_true_eq] at A2;exact A2.1.1
  have hl3:3<a.length:=by unfold C5 at A3;simp only[Bool.and_eq_true,decide_eq_true_eq] at A3;exact A3.1.1
  have hw:IntKind.i64.wrap (IntKind.i64.wrap (IntKind.i64.wrap (IntKind.i64.wrap ((X5 a 0:Int) % 8*262144)+IntKind.i64.wrap ((X5 a 1:Int) % 64*4096))+IntKind.i64.wrap ((X5 a 2:Int) % 64*64))+(X5 a 3:Int) % 64)=((Sy a:Nat):Int):=by
   rw[G1 (n:=(X5 a 0:Int) % 8*262144) (by omega) (by omega),G1 (n:=(X5 a 1:Int) % 64*4096) (by omega) (by omega),G1 (n:=(X5 a 2:Int) % 64*64) (by omega) (by omega),G1 (n:=_+(X5 a 1:Int) % 64*4096) (by omega) (by omega),G1 (n:=_+(X5 a 2:Int) % 64*64) (by omega) (by omega),G1 (by omega) (by omega)]
   unfold Sy;omega
  refine U0 hs ?_
  have hx1: ∀{w':World} {K:Value→World→Prop},K (.int .u8 (X5 a 1)) w'→C4 P T.c (S a) (.int .i64 1) w' K:=fun hK=>Nc (i:=1) hl1 hK
  have hx2: ∀{w':World} {K:Value→World→Prop},K (.int .u8 (X5 a 2)) w'→C4 P T.c (S a) (.int .i64 2) w' K:=fun hK=>Nc (i:=2) hl2 hK
  have hx3: ∀{w':World} {K:Value→World→Prop},K (.int .u8 (X5 a 3)) w'→C4 P T.c (S a) (.int .i64 3) w' K:=fun hK=>Nc (i:=3) hl3 hK
  (repeat (apply J4;(· intros;(repeat (rename_i hx;subst hx));(repeat' (first | (with_reducible exact O3 rfl) | (with_reducible exact S4 (Stp.bel (by (repeat (first | exact Stp.refl (by (first | assumption | exact Stp.sat (by assumption) | exact Hst.sat (by assumption))) | assumption | refine Stp.trans ?_ (by first | assumption | exact Hst.stp (by assumption)))))) rfl) | (with_reducible intro _) | (simp only[↓M2,M2,Mb,reduceIte]) | (with_reducible refine Q6m au ?_) | (with_reducible refine Q41 au ?_) | (with_reducible refine hx1 ?_) | (with_reducible refine hx2 ?_) | (with_reducible refine hx3 ?_) | (with_reducible show Q2 _ _ _ _ _;first | refine X7 aS aL aR ?_ | refine Y4 aS aL aR ?_ | refine ld aS aL aR ?_) | (with_reducible show indexAddr _ _ _ _ _ _;refine Y0 aL au ?_) | (with_reducible show X2 _ _ _ _ _ _ _ _;refine Q8 aL ?_) | (with_reducible show F5 _ _ _ _ _ _;refine J0 aR ?_) | (with_reducible show pick _ _ _ _ _ _;refine M3 ?_) | (apply G8;intro hh;(try simp only[hh,reduceIte,↓M2,M2,Mb,reduceIte]))));done)))
  (intros;(repeat (rename_i hx;subst hx));(try simp only[↓M2,M2,Mb,reduceIte]))
  rename_i w2 hb2
  simp only[hw]
  have hb:=hb2.stp.bel
  by_cases e1:65536≤Sy a
  ·by_cases e2:Sy a≤1114111
   ·simp only[(show decide ((65536:Int)≤(Sy a:Int))=true by rw[decide_eq_true_eq];omega),(show decide ((Sy a:Int)≤1114111)=true by rw[decide_eq_true_eq];omega),↓M1,M1,Mb,reduceIte]
    exact hK 4 _ hb (by rw[hcm,if_pos ⟨e1,e2⟩])
   ·simp only[(show decide ((65536:Int)≤(Sy a:Int))=true by rw[decide_eq_true_eq];omega),(show decide ((Sy a:Int)≤1114111)=false by rw[decide_eq_false_iff_not];omega),↓M1,M1,Mb,reduceIte]
    exact ⟨hb,by rw[hcm,if_neg (by omega)]⟩
  ·simp only[(show decide ((65536:Int)≤(Sy a:Int))=false by rw[decide_eq_false_iff_not];omega),↓M1,M1,Mb,reduceIte]
   exact ⟨hb,by rw[hcm,if_neg (by omega)]⟩
 have i1:decide ((194:Int)≤X5 a 0)=true:=by rw[decide_eq_true_eq];omega
 have n1:decide (194≤X5 a 0)=true:=by rw[decide_eq_true_eq];omega
 have i2:decide ((X5 a 0:Int)<224)=false:=by rw[decide_eq_false_iff_not];omega
 have n2:decide (X5 a 0<224)=false:=by rw[decide_eq_false_iff_not];omega
 have i3:decide ((224:Int)≤X5 a 0)=true:=by rw[decide_eq_true_eq];omega
 have n3:decide (224≤X5 a 0)=true:=by rw[decide_eq_true_eq];omega
 have i4:decide ((X5 a 0:Int)<240)=false:=by rw[decide_eq_false_iff_not];omega
 have n4:decide (X5 a 0<240)=false:=by rw[decide_eq_false_iff_not];omega
 have i5:decide ((240:Int)≤X5 a 0)=true:=by rw[decide_eq_true_eq];omega
 have n5:decide (240≤X5 a 0)=true:=by rw[decide_eq_true_eq];omega
 have i6:decide ((X5 a 0:Int)<245)=false:=by rw[decide_eq_false_iff_not];omega
 have n6:decide (X5 a 0<245)=false:=by rw[decide_eq_false_iff_not];omega
 simp only[i1,i2,i3,i4,i5,i6,↓M1,M1,Mb,reduceIte]
 exact ⟨Below.refl _ _,by rw[hcm];simp only[n1,n2,n3,n4,n5,n6,Bool.and_true,Bool.true_and,Bool.false_and,Bool.and_false,Bool.false_eq_true,if_true,if_false,reduceIte]⟩)
theorem Q4E {s:X0} (q:s.length≤U1) (t:X3 w σ) (h: ∀w',Below w.heap.size w w'→K (.bool (Lib.validD s)) w'):Q1 P F.aL [S s] w K:=Kg (by
 unfold Mj
 refine Pd (fun f x w'=> ∃r,x=S r∧r.length≤f∧r.length≤U1∧Below w.heap.size w w'∧Lib.validD s=Lib.validGoD f r) s.length ⟨s,rfl,Nat.le_refl _,q,Below.refl _ _,rfl⟩ ?_
 rintro n f x d w1 ⟨r,rfl,p,u,b,c⟩ m
 refine Jf ?_
 by_cases a:r=[]
 ·have e:decide (r=[])=true:=by simpa using a
  simp only[e,↓M1,M1,Mb,reduceIte]
  subst a
  have:Lib.validGoD f []=true:=by cases f<;>simp[Lib.validGoD]
  rw[c,this] at h
  exact h _ b
 ·have e:decide (r=[])=false:=by simpa using a
  simp only[e,↓M1,M1,Mb,reduceIte]
  have o:0<r.length:=List.length_pos_iff.2 a
  obtain ⟨f,rfl⟩: ∃g,f=g+1:=⟨f-1,by omega⟩
  rw[Q88 a] at c
  refine X0m a (t.below b) fun v k=>?_
  have i:=b.trans (k.mono b.size)
  refine I1 ?_
  by_cases j:Jg r=0
  ·have l:decide ((Jg r:Int)=0)=true:=by rw[decide_eq_true_eq];omega
   simp only[l,↓M1,M1,Mb,reduceIte]
   rw[c,if_pos j] at h
   exact h _ i
  ·have l:decide ((Jg r:Int)=0)=false:=by rw[decide_eq_false_iff_not];omega
   simp only[l,↓M1,M1,Mb,reduceIte]
   obtain ⟨z,y⟩:=Q9p a j
   rw[Ux X8 (by omega) (by omega)]
   rw[if_neg j] at c
   refine m f _ _ (by omega) ⟨r.drop (Jg r),by simp,by rw[List.length_drop];omega,by rw[List.length_drop];omega,i,c⟩)
end Go.Proofs.YtjdiakhipmggjaaGreatDoor

namespace Go.Proofs.YtjdiakhipmggjaaGreatDoor
open Go.Emb Go.RowKit Go.Kd Go.Hm
variable {w : World} {K : Value → World → Prop} {σ : Q6}
theorem Q57 {σ:Q6}: ∀(xs:List X0),(∀x∈xs,x.length≤U1)→Q12 U8 σ (xs.map S) xs
 | [],_=>trivial
 | x::r,h=>⟨⟨rfl,h x (by simp)⟩,Q57 r fun y a=>h y (by simp[a])⟩
def Uu:List X0:=Uq.map (·.name)
set_option maxRecDepth 100000 in
theorem X24 (d:X3 w σ) (h: ∀v w' a,Stp w σ w' a→Sl 1 U8 a v Uu→K v w'):Q1 P F.bX [] w K:=Q0W (by
 unfold Ew
 exact T5 (R:=U8) (sz:=1) d (Uu.map S) Uu rfl rfl (by intro v b;obtain ⟨x,_,rfl⟩:=List.mem_map.1 b;rfl) rfl (Q57 _ (by decide)) fun v w' a c b=>h v w' a c b)
theorem Q7Z {a:X0} (z:X3 w σ) (h: ∀w' t,Stp w σ w' t→K (I (L5 (Qu a))) w'):Q1 P F.bi [S a] w K:=Gy (by
 unfold Ld
 refine X24 z fun v w1 σ1 n p=>?_
 have s:Qu a=Uu.findIdx? fun x=>decide (x=a):=by
  unfold Qu Uu
  rw[List.findIdx?_map];rfl
 have q: ∀o,Qu a=o→K (I (L5 o)) w1:=fun o e=>by rw[←e];exact h _ _ n
 rw[s] at q
 have l:Uu.length=42:=rfl
 generalize Uu=g at p q l
 refine U2 g.length (fun k w'=>w'=w1∧ ∀j (i:j<g.length),j<k→ ¬g[j]=a) ⟨rfl,fun j _ h=>by omega⟩ fun k D d E C=>?_
 obtain ⟨u,c⟩:=C
 subst u
 refine Q8 p ?_
 refine Y9 ?_
 refine Q7 (fun r=>?_) (fun r=>?_)
 ·have b:k<g.length:=by simpa using r
  refine Y0 p b ?_
  obtain ⟨B,_⟩:=p.elS b
  refine X7 n.sat B rfl ?_
  refine P7 ?_
  refine Q7 (fun f=>?_) (fun f=>?_)
  ·have f:g[k]=a:=by simpa using f
   exact q (some k) (by
    rw[List.findIdx?_eq_some_iff_getElem]
    exact ⟨b,by simpa using f,fun j i=>by simpa using c j (by omega) i⟩)
  ·have f: ¬g[k]=a:=by simpa using f
   (try simp only[↓M1,M1,Mb,reduceIte])
   refine Y5 p.max b ⟨rfl,fun j i y=>?_⟩
   by_cases e:j=k
   ·subst e;exact f
   ·exact c j i (by omega)
 ·have b: ¬k<g.length:=by simpa using r
  exact q none (by
   rw[List.findIdx?_eq_none_iff]
   intro m A
   obtain ⟨j,i,rfl⟩:=List.getElem_of_mem A
   simpa using c j i (by omega)))
theorem X2s {o:Option Nat}:decide (L5 o<0)= !o.isSome:=by
 cases o with
 | none=>rfl
 | some i=>
  have: ¬(i:Int)<0:=by omega
  exact decide_eq_false this
def Nu (a:X0):Bool:=decide (a=[105,110,116])||decide (a=[108,111,97,100])||decide (a=[115,116,111,114,101])||decide (a=[106,117,109,112])||decide (a=[98,114,97,110,99,104])
def Wg (a:X0):Bool:=decide (a=[119,111,114,100])||decide (a=[110,101,119])||decide (a=[103,101,116])||decide (a=[112,117,116])||decide (a=[99,97,108,108])||decide (a=[97,114,114,97,121])||decide (a=[105,115])||decide (a=[99,97,115,116])
theorem X0k (a:X0):takes a=(Nu a,Wg a,(Qu a).isSome):=by
 unfold takes
 cases g:Qu a with
 | none=>
  have c:=List.findIdx?_eq_none_iff.1 g
  have f: ∀x∈Uu,¬x=a:=by
   intro x d
   obtain ⟨o,r,rfl⟩:=List.mem_map.1 d
   have:=c o r
   simpa using this
  have b: ∀x∈Uu,decide (a=x)=false:=fun x d=>by rw[decide_eq_false_iff_not];exact fun e=>f x d e.symm
  have j:Nu a=false:=by
   unfold Nu
   rw[b _ (by decide),b _ (by decide),b _ (by decide),b _ (by decide),b _ (by decide)];rfl
  have l:Wg a=false:=by
   unfold Wg
   rw[b _ (by decide),b _ (by decide),b _ (by decide),b _ (by decide),b _ (by decide),b _ (by decide),b _ (by decide),b _ (by decide)];rfl
  simp[j,l]
 | some i=>
  obtain ⟨h,n,_⟩:=List.findIdx?_eq_some_iff_getElem.1 g
  have k:Uq[i].name=a:=by simpa using n
  have p:Uq.getD i ⟨[],false,false⟩=Uq[i]:=by rw[List.getD_eq_getElem?_getD,List.getElem?_eq_getElem h];rfl
  have c: ∀o∈Uq,o.number=Nu o.name∧o.text=Wg o.name:=by decide
  obtain ⟨q,m⟩:=c _ (List.getElem_mem h)
  simp only[p,Option.isSome_some]
  rw[q,m,k]
def Ef (a:X0):Int:=if Nu a then 1 else if Wg a then 2 else if (Qu a).isSome then 0 else-1
theorem Q9y {a:X0} (f:X3 w σ) (h: ∀w' l,Stp w σ w' l→K (I (Ef a)) w'):Q1 P F.bx [S a] w K:=Pf (by
 unfold Me
 refine Zy (fun x w'=>w'=w∧x= .bool (Nu a)) ?_ (fun x d w' e=>?_)
 ·unfold Nu
  simp only[↓M1,M1,Mb,reduceIte]
  repeat' (refine Q7 (fun hh=>?_) (fun hh=>?_))
  all_goals (refine ⟨by trivial,?_⟩;congr 1;simp_all)
 ·obtain ⟨rfl,rfl⟩:=e
  cases g:Nu a with
  | true=>
   (try simp only[↓M1,M1,Mb,reduceIte])
   have:=h _ _ (Stp.refl f)
   unfold Ef at this
   simpa [g] using this
  | false=>
   (try simp only[↓M1,M1,Mb,reduceIte])
   refine Zy (fun x b=>b=w'∧x= .bool (Wg a)) ?_ (fun x d b e=>?_)
   ·unfold Wg
    simp only[↓M1,M1,Mb,reduceIte]
    repeat' (refine Q7 (fun hh=>?_) (fun hh=>?_))
    all_goals (refine ⟨by trivial,?_⟩;congr 1;simp_all)
   ·obtain ⟨rfl,rfl⟩:=e
    cases k:Wg a with
    | true=>
     (try simp only[↓M1,M1,Mb,reduceIte])
     have:=h _ _ (Stp.refl f)
     unfold Ef at this
     simpa [g,k] using this
    | false=>
     (try simp only[↓M1,M1,Mb,reduceIte])
     refine Q7Z f fun w1 σ1 c=>?_
     have:=h _ _ c
     unfold Ef at this
     simp only[g,k,Bool.false_eq_true,if_false] at this
     simp only[X2s,↓M1,M1,Mb,reduceIte]
     cases j:Qu a with
     | none=>rw[j] at this;simp only[Option.isSome_none,↓M1,M1,Mb,reduceIte];simpa using this
     | some i=>rw[j] at this;simp only[Option.isSome_some,↓M1,M1,Mb,reduceIte];simpa using this)
theorem Q5v (a:X0):decide (Ef a<0)= !(takes a).2.2∧decide (Ef a=1)=(takes a).1∧decide (Ef a=2)=(takes a).2.1:=by
 rw[X0k]
 have c:Nu a=true→Wg a=false∧(Qu a).isSome=true:=by
  intro h
  unfold Nu at h
  simp only[Bool.or_eq_true,decide_eq_true_eq] at h
  rcases h with (((h | h) | h) | h) | h<;>(subst h;decide)
 have d:Wg a=true→(Qu a).isSome=true:=by
  intro h
  unfold Wg at h
  simp only[Bool.or_eq_true,decide_eq_true_eq] at h
  rcases h with ((((((h | h) | h) | h) | h) | h) | h) | h<;>(subst h;decide)
 unfold Ef
 cases f:Nu a with
 | true=>obtain ⟨e,b⟩:=c f;rw[e,b];decide
 | false=>
  cases g:Wg a with
  | true=>rw[d g];decide
  | false=>cases (Qu a).isSome<;>decide
theorem X4g (s:X0) (c:UInt8):decide (0≤Lib.indexByte s c)=s.any fun b=>decide (b=c):=by
 induction s with
 | nil=>rfl
 | cons b r f=>
  simp only[Lib.indexByte,List.any_cons,←f]
  by_cases e:b=c
  ·simp[e]
  ·have a:(b==c)=false:=by simpa using e
   have g:=Lib.indexByte_ge r c
   simp only[a,e,decide_false,Bool.false_or,Bool.false_eq_true,if_false]
   by_cases d:Lib.indexByte r c= -1
   ·simp[d]
   ·have:(Lib.indexByte r c== -1)=false:=by simpa using d
    simp only[this,Bool.false_eq_true,if_false]
    rw[Bool.eq_iff_iff,decide_eq_true_eq,decide_eq_true_eq];omega
def JB (w:World) (σ:Q6) (b:Bool) (x:Value) (w':World):Prop:= ∃a,Stp w σ w' a∧x= .bool b
theorem JB.mk {w w':World} {σ a:Q6} {b:Bool} (h:Stp w σ w' a):JB w σ b (.bool b) w':=⟨a,h,rfl⟩
theorem JB.of {w w':World} {σ a:Q6} {b c:Bool} (h:Stp w σ w' a) (e:c=b):JB w σ b (.bool c) w':=⟨a,h,by rw[e]⟩
theorem X3f {s:X0} {n:Nat} (h:n<s.length):decide ((X5 s n:Int)=10)=decide (s[n]=10):=by
 unfold X5
 rw[List.getD_eq_getElem?_getD,List.getElem?_eq_getElem h,Bool.eq_iff_iff,decide_eq_true_eq,decide_eq_true_eq]
 simp only[Option.getD_some]
 rw[←UInt8.toNat_inj]
 constructor
 ·intro e;have:s[n].toNat=10:=by omega
  rw[this];rfl
 ·intro e;rw[e];rfl
theorem Us {α:Type} {xs:List α} {p:α→Bool} {n:Nat} (h:n<xs.length):(xs.take (n+1)).all p=((xs.take n).all p&&p xs[n]):=by
 rw[List.take_add_one,List.getElem?_eq_getElem h,List.all_append];simp
set_option maxHeartbeats 2000000 in
theorem Q8y {i:Ins} {cs:List Value} (hs:X3 w σ) (hi:Qo σ i cs) (h: ∀w' m,Stp w σ w' m→K (I (H7 i)) w'):Q1 P F.bw [.agg cs.toArray] w K:=Kk (by
 obtain ⟨rfl,h1,h2,h3⟩:=hi
 unfold Nf
 refine Z0 hs fun q w1 σ1 Q hq=>?_
 have V:=Q.sat
 (try simp only[↓M1,M1,Mb,reduceIte])
 refine ld V hq rfl ?_
 refine Q9y V fun Z σ2 U=>?_
 obtain ⟨t1,X,H⟩:=Q5v i.op
 have f:=Q.trans U
 have g:=hq.up U
 have e:=f.sat
 have t:i.s.length≤140737488355328:=by simp only[U1] at h3;omega
 simp only[t1,↓M1,M1,Mb,reduceIte]
 unfold H7 at h
 cases e1:(takes i.op).2.2 with
 | false=>
  simp only[e1,Bool.not_false,if_true] at h
  (try simp only[↓M1,M1,Mb,reduceIte])
  exact h _ _ f
 | true=>
 simp only[e1,Bool.not_true,Bool.false_eq_true,if_false] at h
 simp only[X,H,↓M1,M1,Mb,reduceIte]
 have k: ∀(b:Bool) (w':World) (m:Q6),Stp w σ w' m→b=(!((!(takes i.op).1&&decide (i.n≠0))||(!(takes i.op).2.1&&decide (i.s≠[]))||((takes i.op).2.1&& !txt i.op i.s)))→
  X1 (.bool (!b)) (K (.int .i64 41) w') (K (.int .i64 0) w'):=by
  intro b w' m u B
  subst B
  rw[Bool.not_not]
  cases B:((!(takes i.op).1&&decide (i.n≠0))||(!(takes i.op).2.1&&decide (i.s≠[]))||((takes i.op).2.1&& !txt i.op i.s)) with
  | true=>simp only[B,if_true] at h;(try simp only[↓M1,M1,Mb,reduceIte]);exact h _ _ u
  | false=>simp only[B,Bool.false_eq_true,if_false] at h;(try simp only[↓M1,M1,Mb,reduceIte]);exact h _ _ u
 clear h
 have ab:(takes i.op).2.1=true→(takes i.op).1=false:=by
  intro R
  rw[←X,decide_eq_false_iff_not]
  rw[←H,decide_eq_true_eq] at R
  omega
 cases D:(takes i.op).2.1 with
 | false=>
  rw[D] at k H
  cases v:(takes i.op).1 with
  | true=>
   rw[v] at k X
   (try simp only[↓M1,M1,Mb,reduceIte])
   simp only[H,↓M1,M1,Mb,reduceIte]
   refine ld e g rfl ?_
   (try simp only[↓M1,M1,Mb,reduceIte])
   refine U6 ?_
   intro d
   simp only[↓M1,M1,Mb,reduceIte]
   exact k _ _ _ f (by simp)
  | false=>
   rw[v] at k X
   (try simp only[↓M1,M1,Mb,reduceIte])
   refine ld e g rfl ?_
   (try simp only[↓M1,M1,Mb,reduceIte])
   by_cases M:i.n=0
   ·have d0:decide (i.n=0)=true:=by simpa using M
    simp only[d0,H,↓M1,M1,Mb,reduceIte]
    refine ld e g rfl ?_
    (try simp only[↓M1,M1,Mb,reduceIte])
    refine U6 ?_
    intro d
    simp only[↓M1,M1,Mb,reduceIte]
    exact k _ _ _ f (by simp[M])
   ·have d0:decide (i.n=0)=false:=by simpa using M
    simp only[d0,↓M1,M1,Mb,reduceIte]
    refine U6 ?_
    intro d
    have E:=k false _ _ f (by simp[M])
    (try simp only[↓M1,M1,Mb,reduceIte] at E⊢)
    exact E
 | true=>
  have v:=ab D
  rw[D,v] at k
  rw[D] at H
  rw[v] at X⊢
  (try simp only[↓M1,M1,Mb,reduceIte])
  refine ld e g rfl ?_
  (try simp only[↓M1,M1,Mb,reduceIte])
  have o: ∀(b c:Bool) (w':World) (m:Q6),decide (i.n=0)=b→Stp w σ w' m→c=(b&&txt i.op i.s)→X1 (.bool (!c)) (K (.int .i64 41) w') (K (.int .i64 0) w'):=by
   intro b c w' m B u r
   refine k c w' m u ?_
   rw[r,←B]
   by_cases M:i.n=0<;>simp[M]
  clear k
  cases B:decide (i.n=0) with
  | false=>
   have y:=fun w' m u=>o false false w' m B u rfl
   clear o
   simp only[H,↓M1,M1,Mb,reduceIte]
   refine Zy (JB w σ false) ?_ (fun x d w' R=>?_)
   ·refine ld e g rfl ?_
    (try simp only[↓M1,M1,Mb,reduceIte])
    refine Q7 (fun hh=>?_) (fun hh=>?_)
    ·refine E5 (a:=Value.bool false) i.s.length (fun n x w'=>w'=Z∧x=Value.bool false) ⟨rfl,rfl⟩ fun n x w3 d hn l=>?_
     obtain ⟨C,rfl⟩:=l
     subst C
     (try simp only[↓M1,M1,Mb,reduceIte])
     refine ld e g rfl ?_
     (try simp only[↓M1,M1,Mb,reduceIte])
     refine Q7 (fun r=>?_) (fun r=>?_)
     ·have j:n<i.s.length:=by simpa using r
      (try simp only[↓M1,M1,Mb,reduceIte])
      exact J3 (by omega) j ⟨rfl,rfl⟩
     ·exact .mk f
    refine Q7 (fun hh=>?_) (fun hh=>?_)
    ·exact .mk f
    refine Zy (fun x w'=>w'=Z∧ ∃b:Bool,x=Value.bool b) ?_ (fun z d w' hz=>?_)
    ·refine Q7 (fun hh=>?_) (fun hh=>?_)
     ·exact ⟨rfl,_,rfl⟩
     ·exact ⟨rfl,_,rfl⟩
    obtain ⟨C,b,rfl⟩:=hz
    subst C
    refine Q7 (fun hh=>?_) (fun hh=>?_)
    ·exact .mk f
    refine Q7 (fun hh=>?_) (fun hh=>?_)
    ·exact .mk f
    refine ld e g rfl ?_
    refine Q4a i.s t fun w4 p=>?_
    by_cases N:(Xc i.s).2.2=true
    ·simp only[N,if_true,↓M1,M1,Mb,reduceIte]
     exact .mk (f.trans (Stp.of_below e p))
    ·simp only[N,if_false,↓M1,M1,Mb,reduceIte]
     exact .mk (f.trans (Stp.of_below e p))
   ·obtain ⟨m,u,rfl⟩:=R
    have E:=y w' m u
    (try simp only[↓M1,M1,Mb,reduceIte] at E⊢)
    exact E
  | true=>
   have y:=fun c w' m u r=>o true c w' m B u r
   clear o
   simp only[H,↓M1,M1,Mb,reduceIte]
   refine Zy (JB w σ (txt i.op i.s)) ?_ (fun x d w' R=>?_)
   ·refine ld e g rfl ?_
    (try simp only[↓M1,M1,Mb,reduceIte])
    unfold txt
    by_cases o1:i.op=[119,111,114,100]
    ·simp only[if_pos o1,decide_eq_true o1,↓M1,M1,Mb,reduceIte]
     refine ld e g rfl ?_
     (try simp only[↓M1,M1,Mb,reduceIte])
     have ag:decide ((i.s.length:Int)≤64)=decide (i.s.length≤64):=by rw[Bool.eq_iff_iff,decide_eq_true_eq,decide_eq_true_eq];omega
     rw[ag,X4g,List.not_any_eq_all_not]
     cases ap:decide (i.s.length≤64) with
     | false=>
      (try simp only[↓M1,M1,Mb,reduceIte])
      refine E5 (a:=Value.bool false) i.s.length (fun n x w'=>w'=Z∧x=Value.bool false) ⟨rfl,rfl⟩ fun n x w3 d hn l=>?_
      obtain ⟨C,rfl⟩:=l
      subst C
      (try simp only[↓M1,M1,Mb,reduceIte])
      refine ld e g rfl ?_
      (try simp only[↓M1,M1,Mb,reduceIte])
      refine Q7 (fun r=>?_) (fun r=>?_)
      ·have j:n<i.s.length:=by simpa using r
       (try simp only[↓M1,M1,Mb,reduceIte])
       exact J3 (by omega) j ⟨rfl,rfl⟩
      ·exact .of f (by simp)
     | true=>
      (try simp only[↓M1,M1,Mb,reduceIte])
      refine ld e g rfl ?_
      refine Q4E h3 e fun w4 p=>?_
      have J:=Stp.of_below e p
      have W:=g.up J
      have O:=J.sat
      have A:=f.trans J
      (try simp only[↓M1,M1,Mb,reduceIte])
      refine E5 (a:=Value.bool (Lib.validD i.s)) i.s.length (fun n x w'=>w'=w4∧x=Value.bool (Lib.validD i.s&&(i.s.take n).all fun c=> !decide (c=10))) ⟨rfl,by simp⟩ fun n x w3 d hn l=>?_
      obtain ⟨C,rfl⟩:=l
      subst C
      (try simp only[↓M1,M1,Mb,reduceIte])
      refine ld O W rfl ?_
      (try simp only[↓M1,M1,Mb,reduceIte])
      refine Q7 (fun r=>?_) (fun r=>?_)
      ·have j:n<i.s.length:=by simpa using r
       have L:(Lib.validD i.s&&(i.s.take (n+1)).all fun c=> !decide (c=10))=((Lib.validD i.s&&(i.s.take n).all fun c=> !decide (c=10))&& !decide (i.s[n]=10)):=by rw[Us j,Bool.and_assoc]
       generalize an:(Lib.validD i.s&&(i.s.take n).all fun c=> !decide (c=10))=ae at L⊢
       cases ae with
       | false=>(try simp only[↓M1,M1,Mb,reduceIte]);exact J3 (by omega) j ⟨rfl,by rw[L];rfl⟩
       | true=>
        (try simp only[↓M1,M1,Mb,reduceIte])
        refine ld O W rfl ?_
        refine Nc j ?_
        simp only[X3f j,↓M1,M1,Mb,reduceIte]
        exact J3 (by omega) j ⟨rfl,by rw[L];rfl⟩
      ·have j: ¬n<i.s.length:=by simpa using r
       rw[List.take_of_length_le (by omega)]
       exact .of A (by simp)
    ·simp only[if_neg o1,decide_eq_false o1,↓M1,M1,Mb,reduceIte]
     by_cases o2:i.op=[110,101,119]
     ·simp only[if_pos o2,decide_eq_true o2,↓M1,M1,Mb,reduceIte]
      refine ld e g rfl ?_
      refine Ye i.s t ?_
      (try simp only[↓M1,M1,Mb,reduceIte])
      exact .mk f
     ·simp only[if_neg o2,decide_eq_false o2,↓M1,M1,Mb,reduceIte]
      refine Zy (fun x w'=>w'=Z∧x=Value.bool (decide (i.op=[105,115]∨i.op=[99,97,115,116]))) ?_ (fun z d w' hz=>?_)
      ·refine Q7 (fun hh=>?_) (fun hh=>?_)
       ·exact ⟨rfl,by simp_all⟩
       ·exact ⟨rfl,by simp_all⟩
      obtain ⟨C,rfl⟩:=hz
      subst C
      by_cases Y:i.op=[105,115]∨i.op=[99,97,115,116]
      ·simp only[if_pos Y,decide_eq_true Y,↓M1,M1,Mb,reduceIte]
       refine ld e g rfl ?_
       refine Jn i.s t ?_
       cases hr:right i.s with
       | false=>(try simp only[↓M1,M1,Mb,reduceIte]);exact .mk f
       | true=>
        (try simp only[↓M1,M1,Mb,reduceIte])
        refine ld e g rfl ?_
        refine Hb i.s ?_
        (try simp only[↓M1,M1,Mb,reduceIte])
        exact .mk f
      ·simp only[if_neg Y,decide_eq_false Y,↓M1,M1,Mb,reduceIte]
       by_cases o4:i.op=[97,114,114,97,121]
       ·simp only[if_pos o4,decide_eq_true o4,↓M1,M1,Mb,reduceIte]
        refine ld e g rfl ?_
        refine Jn i.s t ?_
        cases hr:right i.s with
        | false=>(try simp only[↓M1,M1,Mb,reduceIte]);exact .mk f
        | true=>
         (try simp only[↓M1,M1,Mb,reduceIte])
         refine ld e g rfl ?_
         refine Rt i.s t ?_
         (try simp only[↓M1,M1,Mb,reduceIte])
         have e3:decide (((base i.s).2:Int)<3)=decide (Yc i.s<3):=by
          unfold Yc;rw[if_pos hr,Bool.eq_iff_iff,decide_eq_true_eq,decide_eq_true_eq];omega
         rw[e3]
         exact .mk f
       ·simp only[if_neg o4,decide_eq_false o4,↓M1,M1,Mb,reduceIte]
        refine ld e g rfl ?_
        refine Q4a i.s t fun w4 p=>?_
        have A:=f.trans (Stp.of_below e p)
        by_cases N:(Xc i.s).2.2=true
        ·simp only[N,if_true,↓M1,M1,Mb,reduceIte]
         exact .mk A
        ·have:Zq i.s=false:=by unfold Zq;rw[eq_false_of_ne_true N];rfl
         simp only[N,if_false,↓M1,M1,Mb,reduceIte]
         exact .of A this.symm
   ·obtain ⟨m,u,rfl⟩:=R
    have E:=y _ w' m u rfl
    simp only[Bool.true_and] at E
    (try simp only[↓M1,M1,Mb,reduceIte])
    exact E)
end Go.Proofs.YtjdiakhipmggjaaGreatDoor

namespace Go.Emb
theorem X2n {w:World} {K:Value→World→Prop} {v:Value} (h:K v w):Q0 (.bool true) true w (fun w J=>J v w) K:=by rw[W3];exact h
theorem X25 {w:World} {K:Value→World→Prop} {v:Value} (h:K v w):Q0 (.bool false) false w (fun w J=>J v w) K:=by rw[W7];exact h
theorem X3n {w:World} {K:Value→World→Prop} {b:Bool} {run:World→(Value→World→Prop)→Prop} (h:K undef w):Q0 undef b w run K:=by rw[O7];exact h
class Hd (p : Prop) (q : outParam Prop) : Prop where
  h : q → p
section
variable {P : Program} {w : World} {K : Value → World → Prop} {run : World → (Value → World → Prop) → Prop} {v u : Value} {b : Bool}
instance:Hd (J8 P .not (.bool b) w K) (K (.bool (!b)) w):=⟨Wj⟩
instance:Hd (Q0 undef b w run K) (K undef w):=⟨X3n⟩
instance {t:TypeId} {k off:Nat} {ft:TypeId} {sz by_:Nat} {z:Value} {a:Addr} [tf:TF P t k off ft] [tz:TZ P ft sz by_ z] [nz:NZ sz]:Hd (fieldAddr P t (.pointer (some a)) k w K) (K (.pointer (some (a.add off))) w):=⟨W2⟩
instance:Hd (pick P (.bool false) v u w K) (K u w):=⟨X2e⟩
instance:Hd (pick P (.bool true) v u w K) (K v w):=⟨X1P⟩
instance:Hd (Q0 (.bool false) false w run K) (run w K):=⟨X2C⟩
instance:Hd (Q0 (.bool true) true w run K) (run w K):=⟨X3j⟩
instance:Hd (Q0 (.bool false) true w run K) (K undef w):=⟨X1J⟩
instance:Hd (Q0 (.bool true) false w run K) (K undef w):=⟨X2v⟩
instance:Hd (Q0 (.bool false) false w (fun w J=>J v w) K) (K v w):=⟨X25⟩
instance:Hd (Q0 (.bool true) true w (fun w J=>J v w) K) (K v w):=⟨X2n⟩
end
end Go.Emb
namespace Go.Proofs.YtjdiakhipmggjaaGreatDoor
open Go.Emb Go.RowKit Go.Kd Go.Hm
variable {w : World} {K : Value → World → Prop} {σ : Q6}
theorem X2w {xs:List Ins} {v:Value} (r:X3 w σ) (o:Sl 3 Qo σ v xs) (h: ∀e w' l,Stp w σ w' l→decide (e=0)=xs.all (fun i=>decide (H7 i=0))→K (I e) w'):Q1 P F.b5 [v] w K:=Q1i (by
 unfold Ea
 refine U2 xs.length (fun n w'=> ∃l,Stp w σ w' l∧(xs.take n).all (fun i=>decide (H7 i=0))=true) ⟨σ,Stp.refl r,rfl⟩ fun n w1 d z j=>?_
 obtain ⟨σ1,a,f⟩:=j
 have g:=o.up a
 refine Q8 g ?_
 refine Y9 ?_
 refine Q7 (fun m=>?_) (fun m=>?_)
 ·have c:n<xs.length:=by simpa using m
  refine Y0 g c ?_
  obtain ⟨t,p⟩:=g.elI c
  refine Y4 a.sat t rfl ?_
  refine Q8y a.sat p fun y s k=>?_
  refine Xh ?_
  by_cases e:H7 xs[n]=0
  ·have:decide (H7 xs[n]=0)=true:=by simpa using e
   simp only[this,↓M1,M1,Mb,reduceIte]
   exact Y5 o.max c ⟨s,a.trans k,by rw[Us c,f];simpa using e⟩
  ·have:decide (H7 xs[n]=0)=false:=by simpa using e
   simp only[this,↓M1,M1,Mb,reduceIte]
   refine h _ _ _ (a.trans k) ?_
   rw[this]
   symm
   rw[←Bool.not_eq_true,List.all_eq_true]
   intro q
   have:=q _ (List.getElem_mem c)
   simp at this
   exact e this
 ·have c: ¬n<xs.length:=by simpa using m
  rw[List.take_of_length_le (by omega)] at f
  exact h 0 _ _ a (by rw[f];rfl))
theorem X0p {c:Cla} {cs:List Value} (hs:X3 w σ) (hc:V0 σ c cs) (h: ∀w' σ',Stp w σ w' σ'→K (.bool (Zv c)) w'):Q1 P F.bL [.agg cs.toArray] w K:=Ak (by
 unfold Ot
 obtain ⟨lv,fv,mv,rfl,f1,f2,f3,f4,f5⟩:=hc
 refine Z0 hs fun q w1 σ1 hk1 hq=>?_
 have f1:=f1.up hk1
 have f2:=f2.up hk1
 have f3:=f3.up hk1
 refine U2 c.methods.length (fun n w'=> ∃σ',Stp w1 σ1 w' σ'∧(c.methods.take n).any Wk=false) ⟨σ1,Stp.refl hk1.sat,rfl⟩ fun n w2 d hn hinv=>?_
 obtain ⟨σ2,hk2,hno⟩:=hinv
 have hq2:=hq.up hk2
 have f32:=f3.up hk2
 have f12:=f1.up hk2
 have f22:=f2.up hk2
 have hs2:=hk2.sat
 (try simp only[↓M1,M1,Mb,reduceIte])
 refine ld hs2 hq2 rfl ?_
 refine Q8 f32 ?_
 refine Y9 ?_
 refine Q7 (fun hc=>?_) (fun hc=>?_)
 ·have hn':n<c.methods.length:=by simpa using hc
  (try simp only[↓M1,M1,Mb,reduceIte])
  refine ld hs2 hq2 rfl ?_
  refine Y0 f32 hn' ?_
  obtain ⟨pv,cv,hv,p1,r1⟩:=f32.elM hn'
  refine Y4 hs2 p1 rfl ?_
  refine Y8 hs2 (by rfl) rfl (Rep.one r1) fun q3 w3 σ3 hk3 hq3=>?_
  obtain ⟨g1,g2,g3,_,_,_⟩:=(RMe_lift r1 ⟨hk3.le⟩).parts
  have hS3:=hk1.trans (hk2.trans hk3)
  have hyes:Wk c.methods[n]=true→K (.bool true) w3:=fun e=>by
   have:=h _ _ hS3
   have hm:Zv c=true:=by unfold Zv;rw[C2 hn' e];rfl
   rwa [hm] at this
  have hk23:=hk2.trans hk3
  clear h hk2 hk3 hS3
  have hmax:=f3.max
  (repeat' (first | (with_reducible intro _) | (with_reducible refine U6 ?_) | (simp only[↓M2,M2,Mb,reduceIte]) | (with_reducible first | refine ld aS aL aR ?_ | refine X7 aS aL aR ?_ | refine Y4 aS aL aR ?_ | refine Q8 aL ?_ | refine J0 aR ?_ | refine Z0 aS ?_ | refine N2 aS aL ?_ | refine U5 aS aR ?_ | refine Y8 aS aR aR (Rep.one (by assumption)) ?_ | refine U7 aS aR aR aR ?_ | (refine Z8 (fun hh=>?_) (fun hh=>?_)<;>(try simp only[hh,Bool.not_true,Bool.not_false,↓M2,M2,Mb,reduceIte])) | (refine Q7 (fun hh=>?_) (fun hh=>?_)<;>(try simp only[hh,Bool.not_true,Bool.not_false,↓M2,M2,Mb,reduceIte])))))
  all_goals clear hq hq2 f1 f2 f3 f32 f12 f22 hs hs2 p1 r1 g1 g2 g3 hk1 f4 f5 hq3
  all_goals first
   | (refine hyes ?_;clear hyes hk23;unfold Wk;simp only[Bool.not_false,Bool.not_true,Bool.or_eq_true,decide_eq_true_eq,decide_eq_false_iff_not] at*;omega)
   | (
    have hnx:(c.methods.take (n+1)).any Wk=false:=by
     rw[L2 hn',hno,Bool.false_or];clear hyes hk23;unfold Wk;simp only[Bool.or_eq_false_iff,decide_eq_false_iff_not] at*;omega
    exact Y5 hmax hn' ⟨_,hk23,hnx⟩)
 ·have hn': ¬n<c.methods.length:=by simpa using hc
  rw[E3 hn'] at hno
  have hS2:=hk1.trans hk2
  have hm:Zv c=(decide (32<c.like.length)||decide (32<c.fields.length)||decide (32<c.methods.length)):=by unfold Zv;rw[hno];simp
  rw[hm] at h
  have hK:=h _ _ hS2
  clear h hk2
  (try simp only[↓M1,M1,Mb,reduceIte])
  refine ld hs2 hq2 rfl ?_
  refine Q8 f12 ?_
  have d32: ∀k:Nat,decide ((32:Int)<(k:Int))=decide (32<k):=fun k=>by rw[Bool.eq_iff_iff,decide_eq_true_eq,decide_eq_true_eq];omega
  simp only[d32,↓M1,M1,Mb,reduceIte]
  cases e1:decide (32<c.like.length) with
  | true=>rw[e1] at hK;(try simp only[↓M1,M1,Mb,reduceIte]);simpa using hK
  | false=>
   rw[e1] at hK
   (try simp only[↓M1,M1,Mb,reduceIte])
   refine ld hs2 hq2 rfl ?_
   refine Q8 f22 ?_
   simp only[d32,↓M1,M1,Mb,reduceIte]
   cases e2:decide (32<c.fields.length) with
   | true=>rw[e2] at hK;(try simp only[↓M1,M1,Mb,reduceIte]);simpa using hK
   | false=>
    rw[e2] at hK
    (try simp only[↓M1,M1,Mb,reduceIte])
    refine ld hs2 hq2 rfl ?_
    refine Q8 f32 ?_
    simp only[d32,↓M1,M1,Mb,reduceIte]
    simpa using hK)
theorem Q7r {α:Type} {xs:List α} {p:α→Bool} {n:Nat} (h: ¬n<xs.length):(xs.take n).all p=xs.all p:=by rw[List.take_of_length_le (by omega)]
set_option maxHeartbeats 4000000 in
theorem Q19 {m:Hm.Met} {pv cv hv:Value} {w1:World} {σ1:Q6} {q:Addr} {t:Bool} (hs:X3 w σ) (ag:Stp w σ w1 σ1) (hq:Z5 σ1 q [S m.name,pv,S m.result, .bool m.abs,I m.locals,cv,hv]) (g1:Sl 1 U8 σ1 pv m.params) (g2:Sl 3 Qo σ1 cv m.code) (g3:Sl 4 Jz σ1 hv m.catches)
 (h: ∀w' U,Stp w σ w' U→K (.bool ((t&&m.params.all right)&&if m.abs then decide (m.locals=0)&&decide (m.code=[])&&decide (m.catches=[])
  else decide (m.code≠[])&&decide ((m.params.length:Int)<m.locals)&&m.code.all (fun i=>decide (H7 i=0))&&m.catches.all (I2 m.code.length))) w'):
 lp (α:=Value×Value) (Value.bool t,(.int .i64 0)) w1 fun W B d_ w=>
  fieldAddr P T.d (.pointer (some q)) 1 w fun b0 w=>
  Q2 P T.h b0 w fun ca w=>
  X2 P .len [T.h] T.e [false] [ca] w fun c8 w=>
  Q3 P .lss T.e (.tmp 21) (.tmp 24) B.2 c8 w fun cg w=>
  X1 cg (
   Q0 B.1 true w (fieldAddr P T.d (.pointer (some q)) 1) fun b8 w=>
   Q0 B.1 true w (Q2 P T.h b8) fun cw w=>
   Q0 B.1 true w (fun w J=>J B.2 w) fun cr w=>
   Q0 B.1 true w (indexAddr P T.h cw cr) fun bq w=>
   Q0 B.1 true w (Q2 P T.c bq) fun cs w=>
   Q0 B.1 true w (Q1 P F.e [cs]) fun br w=>
   pick P B.1 br (.bool false) w fun b1 w=>
   Q3 P .add T.e (.tmp 26) (.const (.int .i64 1)) B.2 (.int .i64 1) w fun b4 w=>
   W (b1,b4) w) (
   fieldAddr P T.d (.pointer (some q)) 3 w fun cn w=>
   Q2 P T.v cn w fun c4 w=>
   X1 c4 (
    Q0 B.1 true w (fieldAddr P T.d (.pointer (some q)) 4) fun c9 w=>
    Q0 B.1 true w (Q2 P T.e c9) fun cj w=>
    Q0 B.1 true w (Q3 P .eql T.e (.tmp 42) (.const (.int .i64 0)) cj (.int .i64 0)) fun bm w=>
    pick P B.1 bm (.bool false) w fun M w=>
    Q0 M true w (fieldAddr P T.d (.pointer (some q)) 5) fun bz w=>
    Q0 M true w (Q2 P T.r bz) fun bw w=>
    Q0 M true w (X2 P .len [T.r] T.e [false] [bw]) fun bi w=>
    Q0 M true w (Q3 P .eql T.e (.tmp 48) (.const (.int .i64 0)) bi (.int .i64 0)) fun b9 w=>
    pick P M b9 (.bool false) w fun O w=>
    Q0 O true w (fieldAddr P T.d (.pointer (some q)) 6) fun b6 w=>
    Q0 O true w (Q2 P T.t b6) fun bx w=>
    Q0 O true w (X2 P .len [T.t] T.e [false] [bx]) fun dd w=>
    Q0 O true w (Q3 P .eql T.e (.tmp 54) (.const (.int .i64 0)) dd (.int .i64 0)) fun cy w=>
    pick P O cy (.bool false) w fun b2 w=>
    K b2 w) (
    fieldAddr P T.d (.pointer (some q)) 5 w fun bs w=>
    Q2 P T.r bs w fun bj w=>
    X2 P .len [T.r] T.e [false] [bj] w fun ah w=>
    lp (α:=Value×Value) (B.1,(.int .i64 0)) w fun L j d_ w=>
     fieldAddr P T.d (.pointer (some q)) 6 w fun co w=>
     Q2 P T.t co w fun b7 w=>
     X2 P .len [T.t] T.e [false] [b7] w fun ch w=>
     Q3 P .lss T.e (.tmp 60) (.tmp 63) j.2 ch w fun bo w=>
     X1 bo (
      fieldAddr P T.d (.pointer (some q)) 6 w fun ce w=>
      Q2 P T.t ce w fun cu w=>
      indexAddr P T.t cu j.2 w fun bl w=>
      Q2 P T.u bl w fun db w=>
      W0 P T.u w fun t7 w=>
      Y1 P T.u t7 db w fun _u w=>
      Q0 j.1 true w (fieldAddr P T.u t7 0) fun bp w=>
      Q0 j.1 true w (Q2 P T.e bp) fun b5 w=>
      Q0 j.1 true w (Q3 P .geq T.e (.tmp 75) (.const (.int .i64 0)) b5 (.int .i64 0)) fun cl w=>
      pick P j.1 cl (.bool false) w fun H w=>
      Q0 H true w (fieldAddr P T.u t7 0) fun bv w=>
      Q0 H true w (Q2 P T.e bv) fun c5 w=>
      Q0 H true w (fieldAddr P T.u t7 1) fun cq w=>
      Q0 H true w (Q2 P T.e cq) fun cd w=>
      Q0 H true w (Q3 P .lss T.e (.tmp 80) (.tmp 82) c5 cd) fun cz w=>
      pick P H cz (.bool false) w fun Q w=>
      Q0 Q true w (fieldAddr P T.u t7 1) fun cf w=>
      Q0 Q true w (Q2 P T.e cf) fun cc w=>
      Q0 Q true w (fun w J=>J ah w) fun b3 w=>
      Q0 Q true w (Q3 P .leq T.e (.tmp 87) (.tmp 88) cc b3) fun ct w=>
      pick P Q ct (.bool false) w fun X w=>
      Q0 X true w (fieldAddr P T.u t7 2) fun cm w=>
      Q0 X true w (Q2 P T.e cm) fun c6 w=>
      Q0 X true w (Q3 P .geq T.e (.tmp 93) (.const (.int .i64 0)) c6 (.int .i64 0)) fun bn w=>
      pick P X bn (.bool false) w fun R w=>
      Q0 R true w (fieldAddr P T.u t7 2) fun c3 w=>
      Q0 R true w (Q2 P T.e c3) fun cb w=>
      Q0 R true w (fun w J=>J ah w) fun cx w=>
      Q0 R true w (Q3 P .lss T.e (.tmp 98) (.tmp 99) cb cx) fun al w=>
      pick P R al (.bool false) w fun D w=>
      Q0 D true w (fieldAddr P T.u t7 3) fun a9 w=>
      Q0 D true w (Q2 P T.c a9) fun a5 w=>
      Q0 D true w (Q1 P F.d [a5]) fun a8 w=>
      pick P D a8 (.bool false) w fun ao w=>
      Q3 P .add T.e (.tmp 65) (.const (.int .i64 1)) j.2 (.int .i64 1) w fun da w=>
      L (ao,da) w) (
      Q0 j.1 true w (fun w J=>J ah w) fun ay w=>
      Q0 j.1 true w (Q3 P .gtr T.e (.tmp 109) (.const (.int .i64 0)) ay (.int .i64 0)) fun aw w=>
      pick P j.1 aw (.bool false) w fun g w=>
      Q0 g true w (fieldAddr P T.d (.pointer (some q)) 4) fun aq w=>
      Q0 g true w (Q2 P T.e aq) fun bd w=>
      Q0 g true w (fieldAddr P T.d (.pointer (some q)) 1) fun a1 w=>
      Q0 g true w (Q2 P T.h a1) fun ak w=>
      Q0 g true w (X2 P .len [T.h] T.e [false] [ak]) fun a7 w=>
      Q0 g true w (Q3 P .gtr T.e (.tmp 114) (.tmp 117) bd a7) fun ap w=>
      pick P g ap (.bool false) w fun s w=>
      Q0 s true w (fieldAddr P T.d (.pointer (some q)) 5) fun ar w=>
      Q0 s true w (Q2 P T.r ar) fun a3 w=>
      Q0 s true w (Q1 P F.b5 [a3]) fun ax w=>
      Q0 s true w (Q3 P .eql T.z (.tmp 123) (.const (.int .i64 0)) ax (.int .i64 0)) fun an w=>
      pick P s an (.bool false) w fun a6 w=>
      K a6 w))):=by
 have bu:=ag.sat
 have c0:decide ((m.code.length:Int)=0)=decide (m.code=[]):=by cases m.code<;>simp;omega
 have c1:decide ((m.catches.length:Int)=0)=decide (m.catches=[]):=by cases m.catches<;>simp;omega
 have c2:decide ((0:Int)<m.code.length)=decide (m.code≠[]):=by cases m.code<;>simp
 refine E5 (a:=Value.bool t) m.params.length (fun n x w'=> ∃U,Stp w1 σ1 w' U∧x=Value.bool (t&&(m.params.take n).all right)) ⟨σ1,Stp.refl bu,by simp⟩ fun n x w2 d hn N=>?_
 obtain ⟨σ2,k,rfl⟩:=N
 have l:=hq.up k
 have Y:=g1.up k
 have o:=k.sat
 (try simp only[↓M1,M1,Mb,reduceIte])
 refine ld o l rfl ?_
 refine Q8 Y ?_
 refine Y9 ?_
 refine Q7 (fun hc=>?_) (fun hc=>?_)
 ·have c:n<m.params.length:=by simpa using hc
  have z:(t&&(m.params.take (n+1)).all right)=((t&&(m.params.take n).all right)&&right m.params[n]):=by rw[Us c,Bool.and_assoc]
  generalize (t&&(m.params.take n).all right)=f at z⊢
  cases f with
  | false=>(try simp only[↓M1,M1,Mb,reduceIte]);exact J3 g1.max c ⟨σ2,k,by rw[z];rfl⟩
  | true=>
   (try simp only[↓M1,M1,Mb,reduceIte])
   refine ld o l rfl ?_
   (try simp only[↓M1,M1,Mb,reduceIte])
   refine Y0 Y c ?_
   obtain ⟨p1,p2⟩:=Y.elS c
   refine X7 o p1 rfl ?_
   refine Jn _ (by simp only[U1] at p2;omega) ?_
   (try simp only[↓M1,M1,Mb,reduceIte])
   exact J3 g1.max c ⟨σ2,k,by rw[z];rfl⟩
 ·have c: ¬n<m.params.length:=by simpa using hc
  rw[Q7r c]
  have a2:=ag.trans k
  have af:=g2.up k
  have aa:=g3.up k
  clear ag k hq g1 g2 g3 hn hc
  generalize (t&&m.params.all right)=f at h⊢
  refine ld o l rfl ?_
  cases av:m.abs with
  | true=>
   simp only[av,if_true] at h
   have hK:=h _ _ a2
   clear h
   (try simp only[↓M1,M1,Mb,reduceIte])
   cases f with
   | false=>(try simp only[↓M1,M1,Mb,reduceIte]);simpa using hK
   | true=>
    (try simp only[↓M1,M1,Mb,reduceIte])
    refine ld o l rfl ?_
    (try simp only[↓M1,M1,Mb,reduceIte])
    cases am:decide (m.locals=0) with
    | false=>rw[am] at hK;(try simp only[↓M1,M1,Mb,reduceIte]);simpa using hK
    | true=>
     rw[am] at hK
     (try simp only[↓M1,M1,Mb,reduceIte])
     refine ld o l rfl ?_
     refine Q8 af ?_
     simp only[c0,↓M1,M1,Mb,reduceIte]
     cases a4:decide (m.code=[]) with
     | false=>rw[a4] at hK;(try simp only[↓M1,M1,Mb,reduceIte]);simpa using hK
     | true=>
      rw[a4] at hK
      (try simp only[↓M1,M1,Mb,reduceIte])
      refine ld o l rfl ?_
      refine Q8 aa ?_
      simp only[c1,↓M1,M1,Mb,reduceIte]
      simpa using hK
  | false=>
   simp only[av,Bool.false_eq_true,if_false] at h
   (try simp only[↓M1,M1,Mb,reduceIte])
   refine ld o l rfl ?_
   refine Q8 af ?_
   refine E5 (a:=Value.bool f) m.catches.length (fun n x w'=> ∃U,Stp w2 σ2 w' U∧x=Value.bool (f&&(m.catches.take n).all (I2 m.code.length))) ⟨σ2,Stp.refl o,by simp⟩ fun n x w4 d hn N=>?_
   obtain ⟨σ4,r,rfl⟩:=N
   have E:=l.up r
   have Z:=aa.up r
   have p:=r.sat
   (try simp only[↓M1,M1,Mb,reduceIte])
   refine ld p E rfl ?_
   refine Q8 Z ?_
   refine Y9 ?_
   refine Q7 (fun hc=>?_) (fun hc=>?_)
   ·have c:n<m.catches.length:=by simpa using hc
    have z:(f&&(m.catches.take (n+1)).all (I2 m.code.length))=((f&&(m.catches.take n).all (I2 m.code.length))&&I2 m.code.length m.catches[n]):=by rw[Us c,Bool.and_assoc]
    generalize (f&&(m.catches.take n).all (I2 m.code.length))=bk at z⊢
    (try simp only[↓M1,M1,Mb,reduceIte])
    refine ld p E rfl ?_
    refine Y0 Z c ?_
    obtain ⟨p1,r1⟩:=Z.elK c
    have az:m.catches[n].cls.length≤140737488355328:=by have:=r1.2.2.2.2;simp only[U1] at this;omega
    refine Y4 p p1 rfl ?_
    refine Y8 p (by rfl) rfl (Rep.one r1) fun q5 w5 σ5 a0 A=>?_
    have C:=a0.sat
    have ac:=r.trans a0
    cases bk with
    | false=>(try simp only[↓M1,M1,Mb,reduceIte]);exact J3 aa.max c ⟨σ5,ac,by rw[z];rfl⟩
    | true=>
     have y: ∀b,I2 m.code.length m.catches[n]=b→Bp m.catches.length (fun n x w'=> ∃U,Stp w2 σ2 w' U∧x=Value.bool (f&&(m.catches.take n).all (I2 m.code.length))) (Value.bool b, .int .i64 (IntKind.i64.wrap (n+1))) w5∧Mn m.catches.length (Value.bool b, .int .i64 (IntKind.i64.wrap (n+1)))<Mn m.catches.length (Value.bool true,I n):=fun b e=>J3 aa.max c ⟨σ5,ac,by rw[z,e];rfl⟩
     unfold I2 at y
     generalize m.catches[n]=x at A y az
     clear z p1 r1 E l Z h
     (try simp only[↓M1,M1,Mb,reduceIte])
     refine ld C A rfl ?_
     (try simp only[↓M1,M1,Mb,reduceIte])
     cases d1:decide (0≤x.frm) with
     | false=>(try simp only[↓M1,M1,Mb,reduceIte]);exact y _ (by simp[d1])
     | true=>
     (try simp only[↓M1,M1,Mb,reduceIte])
     refine ld C A rfl ?_
     (try simp only[↓M1,M1,Mb,reduceIte])
     refine ld C A rfl ?_
     (try simp only[↓M1,M1,Mb,reduceIte])
     cases d2:decide (x.frm<x.to) with
     | false=>(try simp only[↓M1,M1,Mb,reduceIte]);exact y _ (by simp[d1,d2])
     | true=>
     (try simp only[↓M1,M1,Mb,reduceIte])
     refine ld C A rfl ?_
     (try simp only[↓M1,M1,Mb,reduceIte])
     cases d3:decide (x.to≤(m.code.length:Int)) with
     | false=>(try simp only[↓M1,M1,Mb,reduceIte]);exact y _ (by simp[d1,d2,d3])
     | true=>
     (try simp only[↓M1,M1,Mb,reduceIte])
     refine ld C A rfl ?_
     (try simp only[↓M1,M1,Mb,reduceIte])
     cases d4:decide (0≤x.at_) with
     | false=>(try simp only[↓M1,M1,Mb,reduceIte]);exact y _ (by simp[d1,d2,d3,d4])
     | true=>
     (try simp only[↓M1,M1,Mb,reduceIte])
     refine ld C A rfl ?_
     (try simp only[↓M1,M1,Mb,reduceIte])
     cases d5:decide (x.at_<(m.code.length:Int)) with
     | false=>(try simp only[↓M1,M1,Mb,reduceIte]);exact y _ (by simp[d1,d2,d3,d4,d5])
     | true=>
     (try simp only[↓M1,M1,Mb,reduceIte])
     refine ld C A rfl ?_
     refine Ye x.cls az ?_
     (try simp only[↓M1,M1,Mb,reduceIte])
     exact y _ (by simp[d1,d2,d3,d4,d5])
   ·have c: ¬n<m.catches.length:=by simpa using hc
    rw[Q7r c]
    have V:=a2.trans r
    have ck:=af.up r
    have dc:=Y.up r
    have hh: ∀w' U,Stp w σ w' U→K (.bool ((f&&m.catches.all (I2 m.code.length))&&(decide (m.code≠[])&&decide ((m.params.length:Int)<m.locals)&&m.code.all (fun i=>decide (H7 i=0))))) w':=by
     intro w' U hk
     have:=h w' U hk
     refine Eq.subst (motive:=fun b=>K (.bool b) w') ?_ this
     cases f<;>cases m.catches.all (I2 m.code.length)<;>simp
    clear h r
    generalize (f&&m.catches.all (I2 m.code.length))=c7 at hh⊢
    cases c7 with
    | false=>(try simp only[↓M1,M1,Mb,reduceIte]);simpa using hh _ _ V
    | true=>
     (try simp only[↓M1,M1,Mb,reduceIte])
     simp only[c2,↓M1,M1,Mb,reduceIte]
     cases bb:decide (m.code≠[]) with
     | false=>rw[bb] at hh;(try simp only[↓M1,M1,Mb,reduceIte]);simpa using hh _ _ V
     | true=>
      rw[bb] at hh
      (try simp only[↓M1,M1,Mb,reduceIte])
      refine ld p E rfl ?_
      (try simp only[↓M1,M1,Mb,reduceIte])
      refine ld p E rfl ?_
      refine Q8 dc ?_
      (try simp only[↓M1,M1,Mb,reduceIte])
      cases aj:decide ((m.params.length:Int)<m.locals) with
      | false=>rw[aj] at hh;(try simp only[↓M1,M1,Mb,reduceIte]);simpa using hh _ _ V
      | true=>
       rw[aj] at hh
       (try simp only[↓M1,M1,Mb,reduceIte])
       refine ld p E rfl ?_
       refine X2w p ck fun e w6 σ6 ci he=>?_
       simp only[he,↓M1,M1,Mb,reduceIte]
       simpa using hh _ _ (V.trans ci)
set_option maxHeartbeats 2000000 in
theorem Q7P {m:Hm.Met} {cs:List Value} (n:X3 w σ) (D:E8 σ m cs) (h: ∀w' z,Stp w σ w' z→K (.bool (I9 m)) w'):Q1 P F.a6 [.agg cs.toArray] w K:=Fq (by
 unfold Wz
 obtain ⟨pv,L,J,rfl,C,B,A,y,E,H⟩:=D
 have s:m.name.length≤140737488355328:=by simp only[U1] at y;omega
 have r:m.result.length≤140737488355328:=by simp only[U1] at E;omega
 refine Z0 n fun q w1 σ1 a g=>?_
 have o:=C.up a
 have p:=B.up a
 have t:=A.up a
 have f:=a.sat
 obtain ⟨d,c⟩: ∃b,b=(D9 m.name&&(decide (m.result=[])||right m.result)):=⟨_,rfl⟩
 have k:I9 m=((d&&m.params.all right)&&if m.abs then decide (m.locals=0)&&decide (m.code=[])&&decide (m.catches=[])
  else decide (m.code≠[])&&decide ((m.params.length:Int)<m.locals)&&m.code.all (fun i=>decide (H7 i=0))&&m.catches.all (I2 m.code.length)):=by
  rw[c];unfold I9
  cases D9 m.name<;>cases m.params.all right<;>cases decide (m.result=[])<;>cases right m.result<;>rfl
 rw[k] at h
 clear k
 (repeat refine Hd.h ?_)
 refine ld f g rfl ?_
 refine Km m.name s ?_
 cases e:D9 m.name with
 | false=>
  have j:d=false:=by rw[c,e];rfl
  (repeat refine Hd.h ?_)
  refine Eq.subst (motive:=fun b=>lp (α:=Value×Value) (Value.bool b, .int .i64 0) w1 _) j ?_
  exact Q19 n a g o p t h
 | true=>
  (repeat refine Hd.h ?_)
  refine ld f g rfl ?_
  (repeat refine Hd.h ?_)
  refine P7 ?_
  cases l:decide (m.result=[]) with
  | true=>
   have j:d=true:=by rw[c,e,l];rfl
   (repeat refine Hd.h ?_)
   refine Eq.subst (motive:=fun b=>lp (α:=Value×Value) (Value.bool b, .int .i64 0) w1 _) j ?_
   exact Q19 n a g o p t h
  | false=>
   (repeat refine Hd.h ?_)
   refine ld f g rfl ?_
   (repeat refine Hd.h ?_)
   refine Jn m.result r ?_
   have j:d=right m.result:=by rw[c,e,l];rfl
   (repeat refine Hd.h ?_)
   refine Eq.subst (motive:=fun b=>lp (α:=Value×Value) (Value.bool b, .int .i64 0) w1 _) j ?_
   exact Q19 n a g o p t h)
end Go.Proofs.YtjdiakhipmggjaaGreatDoor

namespace Go.Hm
open Go.Kd
def Nh (c:Cla) (i:Nat):Bool:=M6 (c.like.getD i [])&& !decide (c.like.getD i []=c.name)
def Qa (c:Cla) (i k:Nat):Bool:= !decide (c.like.getD k []=c.like.getD i [])
def Bi (c:Cla) (i:Nat):Fld:=c.fields.getD i Fld.zero
def Ra (c:Cla) (i:Nat):Hm.Met:=c.methods.getD i Hm.Met.zero
def Dm (c:Cla) (i:Nat):Bool:=D9 (Bi c i).name&&right (Bi c i).kind&& !c.iface
def Xv (c:Cla) (i k:Nat):Bool:= !decide ((Bi c k).name=(Bi c i).name)
def Q8t (c:Cla):Bool:=(!c.iface||(c.abs&&decide (c.super=J9)))&& !(c.abs&&c.fin)
def Xz (c:Cla) (i k:Nat):Bool:= !decide ((Ra c k).name=(Ra c i).name)
theorem Lo {p:Nat→Bool} {n:Nat}:(List.range (n+1)).all p=((List.range n).all p&&p n):=by rw[List.range_succ,List.all_append];simp
theorem C3 {α:Type} {xs:List α} {i:Nat} {d:α} (h:i<xs.length):xs.getD i d=xs[i]:=by rw[List.getD_eq_getElem?_getD,List.getElem?_eq_getElem h];rfl
end Go.Hm
namespace Go.Proofs.YtjdiakhipmggjaaGreatDoor
open Go.Emb Go.RowKit Go.Kd Go.Hm
variable {w : World} {K : Value → World → Prop} {σ : Q6}
def Mq (c:Cla) (i:Nat):Bool:=I9 (Ra c i)&&(!(Ra c i).abs||c.abs)&&(!c.iface||(Ra c i).abs)
set_option maxHeartbeats 2000000 in
theorem Q3P {c:Cla} {lv fv mv:Value} {w1:World} {σ1:Q6} {q:Addr} {ok:Bool} (ad:X3 w1 σ1) (hq:Z5 σ1 q [S c.name,S c.super,lv, .bool c.iface, .bool c.abs, .bool c.fin,fv,mv]) {i:Nat} {N m0:Nat} {W:Nat→Value→World→Prop} (g1:Sl 1 U8 σ1 lv c.like) (hi:i<c.like.length)
 (h: ∀w' σ',Stp w1 σ1 w' σ'→Bp N W (Value.bool (ok&&(List.range i).all (Qa c i)), .int .i64 (IntKind.i64.wrap (i+1))) w'∧Mn N (Value.bool (ok&&(List.range i).all (Qa c i)), .int .i64 (IntKind.i64.wrap (i+1)))<m0):
 lp (
  α:=Value×Value) (Value.bool ok,(.int .i64 0)) w1 fun g b d_ w=>
  Q3 P .lss T.e (.tmp 52) (.tmp 53) b.2 (I i) w fun ai w=>
  X1 ai (
   dr w fun e f=>
   Q5 e (fun n=> ∀w:World,f w→Q0 b.1 true w (fieldAddr P T.b (.pointer (some q)) 2) (dk e n w)) fun n=>
   Q5 e (fun l=> ∀w:World,f w→Q0 b.1 true w (fun w J=>J b.2 w) (dk e l w)) fun l=>
   Q5 e (fun z=> ∀w:World,f w→Q0 b.1 true w (fieldAddr P T.b (.pointer (some q)) 2) (dk e z w)) fun z=>
   Q5 e (fun C=> ∀w:World,f w→Q0 b.1 true w (fun w J=>J (I i) w) (dk e C w)) fun C=>
   Q5 e (fun p=> ∀t:Value,∀w:World,f w→n t w→Q0 b.1 true w (Q2 P T.h t) (dk e p w)) fun p=>
   Q5 e (fun y=> ∀r:Value,∀s:Value,∀w:World,f w→p r w→l s w→Q0 b.1 true w (indexAddr P T.h r s) (dk e y w)) fun y=>
   Q5 e (fun E=> ∀D:Value,∀w:World,f w→y D w→Q0 b.1 true w (Q2 P T.c D) (dk e E w)) fun E=>
   Q5 e (fun v=> ∀u:Value,∀w:World,f w→z u w→Q0 b.1 true w (Q2 P T.h u) (dk e v w)) fun v=>
   Q5 e (fun m=> ∀A:Value,∀B:Value,∀w:World,f w→v A w→C B w→Q0 b.1 true w (indexAddr P T.h A B) (dk e m w)) fun m=>
   Q5 e (fun H=> ∀o:Value,∀w:World,f w→m o w→Q0 b.1 true w (Q2 P T.c o) (dk e H w)) fun H=>
   ∀t:Value,∀s:Value,∀u:Value,∀B:Value,∀r:Value,∀D:Value,∀M:Value,∀A:Value,∀o:Value,∀U:Value,∀w:World,f w→n t w→l s w→z u w→C B w→p r w→y D w→E M w→v A w→m o w→H U w→
   Q0 b.1 true w (Q3 P .neq T.c (.tmp 63) (.tmp 68) M U) fun aa w=>
   pick P b.1 aa (.bool false) w fun ac w=>
   Q3 P .add T.e (.tmp 55) (.const (.int .i64 1)) b.2 (.int .i64 1) w fun ag w=>
   g (ac,ag) w) (
   Q3 P .add T.e (.tmp 31) (.const (.int .i64 1)) (I i) (.int .i64 1) w fun Q w=>
   (Bp N W (b.1,Q) w∧Mn N (b.1,Q)<m0)):=by
 have an:=g1.max
 refine E5 (a:=Value.bool ok) i (fun k x w'=> ∃σ',Stp w1 σ1 w' σ'∧x=Value.bool (ok&&(List.range k).all (Qa c i))) ⟨σ1,Stp.refl ad,by simp⟩ fun k x w2 d hk O=>?_
 obtain ⟨σ2,j,rfl⟩:=O
 have ap:=hq.up j
 have R:=g1.up j
 have af:=j.sat
 refine Y9 ?_
 refine Q7 (fun X=>?_) (fun X=>?_)
 ·have Y:k<i:=by simpa using X
  have V:k<c.like.length:=by omega
  have L:(ok&&(List.range (k+1)).all (Qa c i))=((ok&&(List.range k).all (Qa c i))&&Qa c i k):=by rw[Lo,Bool.and_assoc]
  have hQ:Qa c i k= !decide (c.like[k]=c.like[i]):=by unfold Qa;rw[C3 V,C3 hi]
  rw[hQ] at L
  obtain ⟨p1,_⟩:=R.elS V
  obtain ⟨p2,_⟩:=R.elS hi
  generalize (ok&&(List.range k).all (Qa c i))=ah at L⊢
  clear h hQ X
  cases ah
  all_goals
   refine U0 af ?_
   (repeat refine J4 Qc ?_)
   (intros;(repeat (rename_i hx;subst hx));(try simp only[↓M2,M2,Mb,reduceIte]))
   rename_i w3 Z
   exact J3 (by omega) Y ⟨σ2,j.trans Z.stp,by rw[L];rfl⟩
 ·have ab:k=i:=by
   have: ¬k<i:=by simpa using X
   omega
  subst ab
  (try simp only[↓M1,M1,Mb,reduceIte])
  exact h _ _ j
set_option maxHeartbeats 4000000 in
theorem X0r {c:Cla} {lv fv mv:Value} {w1:World} {σ1:Q6} {q:Addr} {ok:Bool} (hs1:X3 w1 σ1) (hq:Z5 σ1 q [S c.name,S c.super,lv, .bool c.iface, .bool c.abs, .bool c.fin,fv,mv]) {J:Value→World→Prop} (hn:c.name.length≤U1) (g1:Sl 1 U8 σ1 lv c.like)
 (h: ∀w' σ',Stp w1 σ1 w' σ'→J (.bool (ok&&(List.range c.like.length).all fun i=>Nh c i&&(List.range i).all (Qa c i))) w'):
 lp (α:=Value×Value) (Value.bool ok,(.int .i64 0)) w1 fun again4 x4 d_ w=>
 fieldAddr P T.b (.pointer (some q)) 2 w fun t27 w=>
 Q2 P T.h t27 w fun t28 w=>
 X2 P .len [T.h] T.e [false] [t28] w fun t29 w=>
 Q3 P .lss T.e (.tmp 26) (.tmp 29) x4.2 t29 w fun t30 w=>
 X1 t30 (
  dr w fun Tr Br=>
  Q5 Tr (fun φ35=> ∀w:World,Br w→Q0 x4.1 true w (fieldAddr P T.b (.pointer (some q)) 2) (dk Tr φ35 w)) fun φ35=>
  Q5 Tr (fun φ37=> ∀w:World,Br w→Q0 x4.1 true w (fun w J=>J x4.2 w) (dk Tr φ37 w)) fun φ37=>
  Q5 Tr (fun φ36=> ∀t35:Value,∀w:World,Br w→φ35 t35 w→Q0 x4.1 true w (Q2 P T.h t35) (dk Tr φ36 w)) fun φ36=>
  Q5 Tr (fun φ38=> ∀t36:Value,∀t37:Value,∀w:World,Br w→φ36 t36 w→φ37 t37 w→Q0 x4.1 true w (indexAddr P T.h t36 t37) (dk Tr φ38 w)) fun φ38=>
  Q5 Tr (fun φ39=> ∀t38:Value,∀w:World,Br w→φ38 t38 w→Q0 x4.1 true w (Q2 P T.c t38) (dk Tr φ39 w)) fun φ39=>
  Q5 Tr (fun φ40=> ∀t39:Value,∀w:World,Br w→φ39 t39 w→Q0 x4.1 true w (Q1 P F.d [t39]) (dk Tr φ40 w)) fun φ40=>
  Q5 Tr (fun φ41=> ∀t40:Value,∀w:World,Br w→φ40 t40 w→pick P x4.1 t40 (.bool false) w (dk Tr φ41 w)) fun φ41=>
  Q5 Tr (fun φ43=> ∀t41:Value,∀w:World,Br w→φ41 t41 w→Q0 t41 true w (fieldAddr P T.b (.pointer (some q)) 2) (dk Tr φ43 w)) fun φ43=>
  Q5 Tr (fun φ45=> ∀t41:Value,∀w:World,Br w→φ41 t41 w→Q0 t41 true w (fun w J=>J x4.2 w) (dk Tr φ45 w)) fun φ45=>
  Q5 Tr (fun φ48=> ∀t41:Value,∀w:World,Br w→φ41 t41 w→Q0 t41 true w (fieldAddr P T.b (.pointer (some q)) 0) (dk Tr φ48 w)) fun φ48=>
  Q5 Tr (fun φ44=> ∀t41:Value,∀t43:Value,∀w:World,Br w→φ41 t41 w→φ43 t43 w→Q0 t41 true w (Q2 P T.h t43) (dk Tr φ44 w)) fun φ44=>
  Q5 Tr (fun φ46=> ∀t41:Value,∀t44:Value,∀t45:Value,∀w:World,Br w→φ41 t41 w→φ44 t44 w→φ45 t45 w→Q0 t41 true w (indexAddr P T.h t44 t45) (dk Tr φ46 w)) fun φ46=>
  Q5 Tr (fun φ47=> ∀t41:Value,∀t46:Value,∀w:World,Br w→φ41 t41 w→φ46 t46 w→Q0 t41 true w (Q2 P T.c t46) (dk Tr φ47 w)) fun φ47=>
  Q5 Tr (fun φ49=> ∀t41:Value,∀t48:Value,∀w:World,Br w→φ41 t41 w→φ48 t48 w→Q0 t41 true w (Q2 P T.c t48) (dk Tr φ49 w)) fun φ49=>
  ∀t35:Value,∀t37:Value,∀t36:Value,∀t38:Value,∀t39:Value,∀t40:Value,∀t41:Value,∀t43:Value,∀t45:Value,∀t48:Value,∀t44:Value,∀t46:Value,∀t47:Value,∀t49:Value,∀w:World,Br w→φ35 t35 w→φ37 t37 w→φ36 t36 w→φ38 t38 w→φ39 t39 w→φ40 t40 w→φ41 t41 w→φ43 t43 w→φ45 t45 w→φ48 t48 w→φ44 t44 w→φ46 t46 w→φ47 t47 w→φ49 t49 w→
  Q0 t41 true w (Q3 P .neq T.c (.tmp 47) (.tmp 49) t47 t49) fun t50 w=>
  pick P t41 t50 (.bool false) w fun t51 w=>
  lp (α:=Value×Value) (t51,(.int .i64 0)) w fun again10 x10 d_ w=>
   Q3 P .lss T.e (.tmp 52) (.tmp 53) x10.2 x4.2 w fun t54 w=>
   X1 t54 (
    dr w fun Tr Br=>
    Q5 Tr (fun φ59=> ∀w:World,Br w→Q0 x10.1 true w (fieldAddr P T.b (.pointer (some q)) 2) (dk Tr φ59 w)) fun φ59=>
    Q5 Tr (fun φ61=> ∀w:World,Br w→Q0 x10.1 true w (fun w J=>J x10.2 w) (dk Tr φ61 w)) fun φ61=>
    Q5 Tr (fun φ64=> ∀w:World,Br w→Q0 x10.1 true w (fieldAddr P T.b (.pointer (some q)) 2) (dk Tr φ64 w)) fun φ64=>
    Q5 Tr (fun φ66=> ∀w:World,Br w→Q0 x10.1 true w (fun w J=>J x4.2 w) (dk Tr φ66 w)) fun φ66=>
    Q5 Tr (fun φ60=> ∀t59:Value,∀w:World,Br w→φ59 t59 w→Q0 x10.1 true w (Q2 P T.h t59) (dk Tr φ60 w)) fun φ60=>
    Q5 Tr (fun φ62=> ∀t60:Value,∀t61:Value,∀w:World,Br w→φ60 t60 w→φ61 t61 w→Q0 x10.1 true w (indexAddr P T.h t60 t61) (dk Tr φ62 w)) fun φ62=>
    Q5 Tr (fun φ63=> ∀t62:Value,∀w:World,Br w→φ62 t62 w→Q0 x10.1 true w (Q2 P T.c t62) (dk Tr φ63 w)) fun φ63=>
    Q5 Tr (fun φ65=> ∀t64:Value,∀w:World,Br w→φ64 t64 w→Q0 x10.1 true w (Q2 P T.h t64) (dk Tr φ65 w)) fun φ65=>
    Q5 Tr (fun φ67=> ∀t65:Value,∀t66:Value,∀w:World,Br w→φ65 t65 w→φ66 t66 w→Q0 x10.1 true w (indexAddr P T.h t65 t66) (dk Tr φ67 w)) fun φ67=>
    Q5 Tr (fun φ68=> ∀t67:Value,∀w:World,Br w→φ67 t67 w→Q0 x10.1 true w (Q2 P T.c t67) (dk Tr φ68 w)) fun φ68=>
    ∀t59:Value,∀t61:Value,∀t64:Value,∀t66:Value,∀t60:Value,∀t62:Value,∀t63:Value,∀t65:Value,∀t67:Value,∀t68:Value,∀w:World,Br w→φ59 t59 w→φ61 t61 w→φ64 t64 w→φ66 t66 w→φ60 t60 w→φ62 t62 w→φ63 t63 w→φ65 t65 w→φ67 t67 w→φ68 t68 w→
    Q0 x10.1 true w (Q3 P .neq T.c (.tmp 63) (.tmp 68) t63 t68) fun t69 w=>
    pick P x10.1 t69 (.bool false) w fun t70 w=>
    Q3 P .add T.e (.tmp 55) (.const (.int .i64 1)) x10.2 (.int .i64 1) w fun t56 w=>
    again10 (t70,t56) w) (
    Q3 P .add T.e (.tmp 31) (.const (.int .i64 1)) x4.2 (.int .i64 1) w fun t32 w=>
    again4 (x10.1,t32) w)) (
  J x4.1 w):=by
 have hmax:=g1.max
 refine E5 (a:=Value.bool ok) c.like.length (fun n x w'=> ∃σ',Stp w1 σ1 w' σ'∧x=Value.bool (ok&&(List.range n).all fun i=>Nh c i&&(List.range i).all (Qa c i))) ⟨σ1,Stp.refl hs1,by simp⟩ fun n x w2 d hn2 hinv=>?_
 obtain ⟨σ2,hk2,rfl⟩:=hinv
 have hq2:=hq.up hk2
 have g12:=g1.up hk2
 have hs2:=hk2.sat
 (repeat refine Hd.h ?_)
 refine ld hs2 hq2 rfl ?_
 refine Q8 g12 ?_
 refine Y9 ?_
 refine Q7 (fun hc=>?_) (fun hc=>?_)
 ·have hn':n<c.like.length:=by simpa using hc
  have hnx:(ok&&(List.range (n+1)).all fun i=>Nh c i&&(List.range i).all (Qa c i))=((ok&&(List.range n).all fun i=>Nh c i&&(List.range i).all (Qa c i))&&(Nh c n&&(List.range n).all (Qa c n))):=by rw[Lo,Bool.and_assoc]
  have hP:Nh c n=(M6 c.like[n]&& !decide (c.like[n]=c.name)):=by unfold Nh;rw[C3 hn']
  obtain ⟨p1,p2⟩:=g12.elS hn'
  have p2:c.like[n].length≤140737488355328:=by simp only[U1] at p2;omega
  generalize (ok&&(List.range n).all fun i=>Nh c i&&(List.range i).all (Qa c i))=acc at hnx⊢
  clear h hc
  cases hacc:acc with
  | false=>
   refine U0 hs2 ?_
   (repeat refine J4 Qc ?_)
   intros;(repeat (rename_i hx;subst hx))
   rename_i w3 hb3
   (repeat refine Hd.h ?_)
   refine Q3P hb3.sat hq2 g12 hn' fun w4 σ4 hk4=>?_
   exact J3 hmax hn' ⟨σ4,hk2.trans (hb3.stp.trans hk4),by rw[hnx,hacc];rfl⟩
  | true=>
   cases hcl:M6 c.like[n] with
   | false=>
    refine U0 hs2 ?_
    have hrc: ∀{w':World} {K:Value→World→Prop},K (.bool false) w'→Q1 P F.d [S c.like[n]] w' K:=fun hK=>Ye _ p2 (by rw[hcl];exact hK)
    (repeat (apply J4;(· intros;(repeat (rename_i hx;subst hx));(repeat' (first | (with_reducible exact O3 rfl) | (with_reducible exact S4 (Stp.bel (by (repeat (first | exact Stp.refl (by (first | assumption | exact Stp.sat (by assumption) | exact Hst.sat (by assumption))) | assumption | refine Stp.trans ?_ (by first | assumption | exact Hst.stp (by assumption)))))) rfl) | (with_reducible intro _) | (simp only[↓M2,M2,Mb,reduceIte]) | (with_reducible refine hrc ?_) | (with_reducible show Q2 _ _ _ _ _;first | refine X7 aS aL aR ?_ | refine Y4 aS aL aR ?_ | refine ld aS aL aR ?_) | (with_reducible show indexAddr _ _ _ _ _ _;refine Y0 aL au ?_) | (with_reducible show X2 _ _ _ _ _ _ _ _;refine Q8 aL ?_) | (with_reducible show F5 _ _ _ _ _ _;refine J0 aR ?_) | (with_reducible show pick _ _ _ _ _ _;refine M3 ?_) | (apply G8;intro hh;(try simp only[hh,reduceIte,↓M2,M2,Mb,reduceIte]))));done)))
    intros;(repeat (rename_i hx;subst hx))
    rename_i w3 hb3
    (repeat refine Hd.h ?_)
    refine Q3P hb3.sat hq2 g12 hn' fun w4 σ4 hk4=>?_
    exact J3 hmax hn' ⟨σ4,hk2.trans (hb3.stp.trans hk4),by rw[hnx,hacc,hP,hcl];rfl⟩
   | true=>
    refine U0 hs2 ?_
    have hrc: ∀{w':World} {K:Value→World→Prop},K (.bool true) w'→Q1 P F.d [S c.like[n]] w' K:=fun hK=>Ye _ p2 (by rw[hcl];exact hK)
    (repeat (apply J4;(· intros;(repeat (rename_i hx;subst hx));(repeat' (first | (with_reducible exact O3 rfl) | (with_reducible exact S4 (Stp.bel (by (repeat (first | exact Stp.refl (by (first | assumption | exact Stp.sat (by assumption) | exact Hst.sat (by assumption))) | assumption | refine Stp.trans ?_ (by first | assumption | exact Hst.stp (by assumption)))))) rfl) | (with_reducible intro _) | (simp only[↓M2,M2,Mb,reduceIte]) | (with_reducible refine hrc ?_) | (with_reducible show Q2 _ _ _ _ _;first | refine X7 aS aL aR ?_ | refine Y4 aS aL aR ?_ | refine ld aS aL aR ?_) | (with_reducible show indexAddr _ _ _ _ _ _;refine Y0 aL au ?_) | (with_reducible show X2 _ _ _ _ _ _ _ _;refine Q8 aL ?_) | (with_reducible show F5 _ _ _ _ _ _;refine J0 aR ?_) | (with_reducible show pick _ _ _ _ _ _;refine M3 ?_) | (apply G8;intro hh;(try simp only[hh,reduceIte,↓M2,M2,Mb,reduceIte]))));done)))
    intros;(repeat (rename_i hx;subst hx))
    rename_i w3 hb3
    (repeat refine Hd.h ?_)
    refine Jf ?_
    (repeat refine Hd.h ?_)
    refine Q3P hb3.sat hq2 g12 hn' fun w4 σ4 hk4=>?_
    exact J3 hmax hn' ⟨σ4,hk2.trans (hb3.stp.trans hk4),by rw[hnx,hacc,hP,hcl];simp⟩
 ·have hn': ¬n<c.like.length:=by simpa using hc
  obtain rfl:n=c.like.length:=by omega
  exact h _ _ hk2
set_option maxHeartbeats 2000000 in
theorem Q3g {c:Cla} {lv fv mv:Value} {w1:World} {σ1:Q6} {q:Addr} {ok:Bool} (aj:X3 w1 σ1) (hq:Z5 σ1 q [S c.name,S c.super,lv, .bool c.iface, .bool c.abs, .bool c.fin,fv,mv]) {i:Nat} {N m0:Nat} {ae:Nat→Value→World→Prop} (g2:Sl 3 S2 σ1 fv c.fields) (hi:i<c.fields.length)
 (h: ∀w' σ',Stp w1 σ1 w' σ'→Bp N ae (Value.bool (ok&&(List.range i).all (Xv c i)), .int .i64 (IntKind.i64.wrap (i+1))) w'∧Mn N (Value.bool (ok&&(List.range i).all (Xv c i)), .int .i64 (IntKind.i64.wrap (i+1)))<m0):
 lp (α:=Value×Value) (Value.bool ok,(.int .i64 0)) w1 fun L b d_ w=>
  Q3 P .lss T.e (.tmp 102) (.tmp 103) b.2 (I i) w fun ac w=>
  X1 ac (
   dr w fun e H=>
   Q5 e (fun r=> ∀w:World,H w→Q0 b.1 true w (fieldAddr P T.b (.pointer (some q)) 6) (dk e r w)) fun r=>
   Q5 e (fun C=> ∀w:World,H w→Q0 b.1 true w (fun w J=>J b.2 w) (dk e C w)) fun C=>
   Q5 e (fun l=> ∀w:World,H w→Q0 b.1 true w (fieldAddr P T.b (.pointer (some q)) 6) (dk e l w)) fun l=>
   Q5 e (fun t=> ∀w:World,H w→Q0 b.1 true w (fun w J=>J (I i) w) (dk e t w)) fun t=>
   Q5 e (fun E=> ∀B:Value,∀w:World,H w→r B w→Q0 b.1 true w (Q2 P T.k B) (dk e E w)) fun E=>
   Q5 e (fun D=> ∀u:Value,∀v:Value,∀w:World,H w→E u w→C v w→Q0 b.1 true w (indexAddr P T.k u v) (dk e D w)) fun D=>
   Q5 e (fun n=> ∀s:Value,∀w:World,H w→D s w→Q0 b.1 true w (fieldAddr P T.o s 0) (dk e n w)) fun n=>
   Q5 e (fun O=> ∀p:Value,∀w:World,H w→n p w→Q0 b.1 true w (Q2 P T.c p) (dk e O w)) fun O=>
   Q5 e (fun A=> ∀f:Value,∀w:World,H w→l f w→Q0 b.1 true w (Q2 P T.k f) (dk e A w)) fun A=>
   Q5 e (fun y=> ∀g:Value,∀z:Value,∀w:World,H w→A g w→t z w→Q0 b.1 true w (indexAddr P T.k g z) (dk e y w)) fun y=>
   Q5 e (fun j=> ∀o:Value,∀w:World,H w→y o w→Q0 b.1 true w (fieldAddr P T.o o 0) (dk e j w)) fun j=>
   Q5 e (fun M=> ∀m:Value,∀w:World,H w→j m w→Q0 b.1 true w (Q2 P T.c m) (dk e M w)) fun M=>
   ∀B:Value,∀v:Value,∀f:Value,∀z:Value,∀u:Value,∀s:Value,∀p:Value,∀U:Value,∀g:Value,∀o:Value,∀m:Value,∀R:Value,∀w:World,H w→r B w→C v w→l f w→t z w→E u w→D s w→n p w→O U w→A g w→y o w→j m w→M R w→
   Q0 b.1 true w (Q3 P .neq T.c (.tmp 114) (.tmp 120) U R) fun aa w=>
   pick P b.1 aa (.bool false) w fun X w=>
   Q3 P .add T.e (.tmp 105) (.const (.int .i64 1)) b.2 (.int .i64 1) w fun Z w=>
   L (X,Z) w) (
   Q3 P .add T.e (.tmp 76) (.const (.int .i64 1)) (I i) (.int .i64 1) w fun ab w=>
   (Bp N ae (b.1,ab) w∧Mn N (b.1,ab)<m0)):=by
 have av:=g2.max
 refine E5 (a:=Value.bool ok) i (fun k x w'=> ∃σ',Stp w1 σ1 w' σ'∧x=Value.bool (ok&&(List.range k).all (Xv c i))) ⟨σ1,Stp.refl aj,by simp⟩ fun k x w2 d hk Y=>?_
 obtain ⟨σ2,Q,rfl⟩:=Y
 have aw:=hq.up Q
 have W:=g2.up Q
 have al:=Q.sat
 refine Y9 ?_
 refine Q7 (fun hc=>?_) (fun hc=>?_)
 ·have ag:k<i:=by simpa using hc
  have ad:k<c.fields.length:=by omega
  have V:(ok&&(List.range (k+1)).all (Xv c i))=((ok&&(List.range k).all (Xv c i))&&Xv c i k):=by rw[Lo,Bool.and_assoc]
  have hQ:Xv c i k= !decide (c.fields[k].name=c.fields[i].name):=by unfold Xv Bi;rw[C3 ad,C3 hi]
  rw[hQ] at V
  obtain ⟨p1,_⟩:=W.elF ad
  obtain ⟨p2,_⟩:=W.elF hi
  generalize (ok&&(List.range k).all (Xv c i))=am at V⊢
  clear h hQ hc
  cases am
  all_goals
   refine U0 al ?_
   (repeat refine J4 Qc ?_)
   (intros;(repeat (rename_i hx;subst hx));(try simp only[↓M2,M2,Mb,reduceIte]))
   rename_i w3 ah
   exact J3 (by omega) ag ⟨σ2,Q.trans ah.stp,by rw[V];rfl⟩
 ·have ai:k=i:=by
   have: ¬k<i:=by simpa using hc
   omega
  subst ai
  (try simp only[↓M1,M1,Mb,reduceIte])
  exact h _ _ Q
set_option maxHeartbeats 4000000 in
theorem X26 {c:Cla} {lv fv mv:Value} {w1:World} {σ1:Q6} {q:Addr} {ok:Bool} (a4:X3 w1 σ1) (hq:Z5 σ1 q [S c.name,S c.super,lv, .bool c.iface, .bool c.abs, .bool c.fin,fv,mv]) {J:Value→World→Prop} (g2:Sl 3 S2 σ1 fv c.fields)
 (h: ∀w' σ',Stp w1 σ1 w' σ'→J (.bool (ok&&(List.range c.fields.length).all fun i=>Dm c i&&(List.range i).all (Xv c i))) w'):
 lp (
  α:=Value×Value) (Value.bool ok,(.int .i64 0)) w1 fun aa g d_ w=>
  fieldAddr P T.b (.pointer (some q)) 6 w fun ba w=>
  Q2 P T.k ba w fun a0 w=>
  X2 P .len [T.k] T.e [false] [a0] w fun a3 w=>
  Q3 P .lss T.e (.tmp 71) (.tmp 74) g.2 a3 w fun bj w=>
  X1 bj (
   Q0 g.1 true w (fieldAddr P T.b (.pointer (some q)) 6) fun bf w=>
   Q0 g.1 true w (Q2 P T.k bf) fun a5 w=>
   Q0 g.1 true w (fun w J=>J g.2 w) fun ay w=>
   Q0 g.1 true w (indexAddr P T.k a5 ay) fun be w=>
   Q0 g.1 true w (fieldAddr P T.o be 0) fun ar w=>
   Q0 g.1 true w (Q2 P T.c ar) fun bb w=>
   Q0 g.1 true w (Q1 P F.v [bb]) fun az w=>
   pick P g.1 az (.bool false) w fun o w=>
   Q0 o true w (fieldAddr P T.b (.pointer (some q)) 6) fun a7 w=>
   Q0 o true w (Q2 P T.k a7) fun a6 w=>
   Q0 o true w (fun w J=>J g.2 w) fun a8 w=>
   Q0 o true w (indexAddr P T.k a6 a8) fun a1 w=>
   Q0 o true w (fieldAddr P T.o a1 1) fun bg w=>
   Q0 o true w (Q2 P T.c bg) fun a2 w=>
   Q0 o true w (Q1 P F.e [a2]) fun av w=>
   pick P o av (.bool false) w fun ae w=>
   Q0 ae true w (fieldAddr P T.b (.pointer (some q)) 3) fun aw w=>
   Q0 ae true w (Q2 P T.v aw) fun bc w=>
   Q0 ae true w (J8 P .not bc) fun ak w=>
   pick P ae ak (.bool false) w fun ap w=>
   lp (α:=Value×Value) (ap,(.int .i64 0)) w fun Z f d_ w=>
    Q3 P .lss T.e (.tmp 102) (.tmp 103) f.2 g.2 w fun ao w=>
    X1 ao (
     dr w fun k Y=>
     Q5 k (fun D=> ∀w:World,Y w→Q0 f.1 true w (fieldAddr P T.b (.pointer (some q)) 6) (dk k D w)) fun D=>
     Q5 k (fun V=> ∀w:World,Y w→Q0 f.1 true w (fun w J=>J f.2 w) (dk k V w)) fun V=>
     Q5 k (fun y=> ∀w:World,Y w→Q0 f.1 true w (fieldAddr P T.b (.pointer (some q)) 6) (dk k y w)) fun y=>
     Q5 k (fun H=> ∀w:World,Y w→Q0 f.1 true w (fun w J=>J g.2 w) (dk k H w)) fun H=>
     Q5 k (fun X=> ∀U:Value,∀w:World,Y w→D U w→Q0 f.1 true w (Q2 P T.k U) (dk k X w)) fun X=>
     Q5 k (fun W=> ∀L:Value,∀M:Value,∀w:World,Y w→X L w→V M w→Q0 f.1 true w (indexAddr P T.k L M) (dk k W w)) fun W=>
     Q5 k (fun z=> ∀E:Value,∀w:World,Y w→W E w→Q0 f.1 true w (fieldAddr P T.o E 0) (dk k z w)) fun z=>
     Q5 k (fun ac=> ∀C:Value,∀w:World,Y w→z C w→Q0 f.1 true w (Q2 P T.c C) (dk k ac w)) fun ac=>
     Q5 k (fun Q=> ∀t:Value,∀w:World,Y w→y t w→Q0 f.1 true w (Q2 P T.k t) (dk k Q w)) fun Q=>
     Q5 k (fun N=> ∀u:Value,∀O:Value,∀w:World,Y w→Q u w→H O w→Q0 f.1 true w (indexAddr P T.k u O) (dk k N w)) fun N=>
     Q5 k (fun v=> ∀B:Value,∀w:World,Y w→N B w→Q0 f.1 true w (fieldAddr P T.o B 0) (dk k v w)) fun v=>
     Q5 k (fun ab=> ∀A:Value,∀w:World,Y w→v A w→Q0 f.1 true w (Q2 P T.c A) (dk k ab w)) fun ab=>
     ∀U:Value,∀M:Value,∀t:Value,∀O:Value,∀L:Value,∀E:Value,∀C:Value,∀ag:Value,∀u:Value,∀B:Value,∀A:Value,∀af:Value,∀w:World,Y w→D U w→V M w→y t w→H O w→X L w→W E w→z C w→ac ag w→Q u w→N B w→v A w→ab af w→
     Q0 f.1 true w (Q3 P .neq T.c (.tmp 114) (.tmp 120) ag af) fun an w=>
     pick P f.1 an (.bool false) w fun aj w=>
     Q3 P .add T.e (.tmp 105) (.const (.int .i64 1)) f.2 (.int .i64 1) w fun am w=>
     Z (aj,am) w) (
     Q3 P .add T.e (.tmp 76) (.const (.int .i64 1)) g.2 (.int .i64 1) w fun bd w=>
     aa (f.1,bd) w)) (
   J g.1 w):=by
 have R:=g2.max
 refine E5 (a:=Value.bool ok) c.fields.length (fun n x w'=> ∃σ',Stp w1 σ1 w' σ'∧x=Value.bool (ok&&(List.range n).all fun i=>Dm c i&&(List.range i).all (Xv c i))) ⟨σ1,Stp.refl a4,by simp⟩ fun n x w2 d bs al=>?_
 obtain ⟨σ2,r,rfl⟩:=al
 have m:=hq.up r
 have p:=g2.up r
 have l:=r.sat
 (repeat refine Hd.h ?_)
 refine ld l m rfl ?_
 refine Q8 p ?_
 refine Y9 ?_
 refine Q7 (fun hc=>?_) (fun hc=>?_)
 ·have j:n<c.fields.length:=by simpa using hc
  have ad:(ok&&(List.range (n+1)).all fun i=>Dm c i&&(List.range i).all (Xv c i))=((ok&&(List.range n).all fun i=>Dm c i&&(List.range i).all (Xv c i))&&(Dm c n&&(List.range n).all (Xv c n))):=by rw[Lo,Bool.and_assoc]
  have hP:Dm c n=(D9 c.fields[n].name&&right c.fields[n].kind&& !c.iface):=by unfold Dm Bi;rw[C3 j]
  obtain ⟨p1,r1⟩:=p.elF j
  have b1:c.fields[n].name.length≤140737488355328:=by have:=r1.2.1;simp only[U1] at this;omega
  have b2:c.fields[n].kind.length≤140737488355328:=by have:=r1.2.2;simp only[U1] at this;omega
  generalize (ok&&(List.range n).all fun i=>Dm c i&&(List.range i).all (Xv c i))=ai at ad⊢
  clear h hc
  have step: ∀b,b=(ai&&Dm c n)→(ai&&(Dm c n&&(List.range n).all (Xv c n)))=(b&&(List.range n).all (Xv c n)):=fun b e=>by rw[e,Bool.and_assoc]
  cases ai with
  | false=>
   (repeat refine Hd.h ?_)
   refine Q3g l m p j fun w4 σ4 s=>?_
   exact J3 R j ⟨σ4,r.trans s,by rw[ad];rfl⟩
  | true=>
   (repeat refine Hd.h ?_)
   refine ld l m rfl ?_
   (repeat refine Hd.h ?_)
   refine Y0 p j ?_
   (repeat refine Hd.h ?_)
   refine ld l p1 rfl ?_
   (repeat refine Hd.h ?_)
   refine Km _ b1 ?_
   cases d1:D9 c.fields[n].name with
   | false=>
    (repeat refine Hd.h ?_)
    refine Q3g l m p j fun w4 σ4 s=>?_
    exact J3 R j ⟨σ4,r.trans s,by rw[ad,step false (by rw[hP,d1];rfl)]⟩
   | true=>
    (repeat refine Hd.h ?_)
    refine ld l m rfl ?_
    (repeat refine Hd.h ?_)
    refine Y0 p j ?_
    (repeat refine Hd.h ?_)
    refine ld l p1 rfl ?_
    (repeat refine Hd.h ?_)
    refine Jn _ b2 ?_
    cases d2:right c.fields[n].kind with
    | false=>
     (repeat refine Hd.h ?_)
     refine Q3g l m p j fun w4 σ4 s=>?_
     exact J3 R j ⟨σ4,r.trans s,by rw[ad,step false (by rw[hP,d1,d2];rfl)]⟩
    | true=>
     (repeat refine Hd.h ?_)
     refine ld l m rfl ?_
     (repeat refine Hd.h ?_)
     refine Q3g l m p j fun w4 σ4 s=>?_
     exact J3 R j ⟨σ4,r.trans s,by rw[ad,step (!c.iface) (by rw[hP,d1,d2];rfl)]⟩
 ·have j: ¬n<c.fields.length:=by simpa using hc
  obtain rfl:n=c.fields.length:=by omega
  exact h _ _ r
set_option maxHeartbeats 2000000 in
theorem Cg {c:Cla} {lv fv mv:Value} {w1:World} {σ1:Q6} {q:Addr} {ok:Bool} (ab:X3 w1 σ1) (hq:Z5 σ1 q [S c.name,S c.super,lv, .bool c.iface, .bool c.abs, .bool c.fin,fv,mv]) {i:Nat} {q9:Addr} {pv cv hv:Value} {N m0:Nat} {V:Nat→Value→World→Prop} (g3:Sl 7 E8 σ1 mv c.methods) (hi:i<c.methods.length) (aa:Z5 σ1 q9 [S c.methods[i].name,pv,S c.methods[i].result, .bool c.methods[i].abs,I c.methods[i].locals,cv,hv])
 (h: ∀w' σ',Stp w1 σ1 w' σ'→Bp N V (Value.bool (ok&&(List.range i).all (Xz c i)), .int .i64 (IntKind.i64.wrap (i+1))) w'∧Mn N (Value.bool (ok&&(List.range i).all (Xz c i)), .int .i64 (IntKind.i64.wrap (i+1)))<m0):
 lp (α:=Value×Value) (Value.bool ok,(.int .i64 0)) w1 fun z b d_ w=>
  Q3 P .lss T.e (.tmp 158) (.tmp 159) b.2 (I i) w fun L w=>
  X1 L (
   dr w fun e B=>
   Q5 e (fun f=> ∀w:World,B w→Q0 b.1 true w (fieldAddr P T.b (.pointer (some q)) 7) (dk e f w)) fun f=>
   Q5 e (fun t=> ∀w:World,B w→Q0 b.1 true w (fun w J=>J b.2 w) (dk e t w)) fun t=>
   Q5 e (fun j=> ∀w:World,B w→Q0 b.1 true w (fieldAddr P T.d (.pointer (some q9)) 0) (dk e j w)) fun j=>
   Q5 e (fun n=> ∀p:Value,∀w:World,B w→f p w→Q0 b.1 true w (Q2 P T.j p) (dk e n w)) fun n=>
   Q5 e (fun o=> ∀r:Value,∀m:Value,∀w:World,B w→n r w→t m w→Q0 b.1 true w (indexAddr P T.j r m) (dk e o w)) fun o=>
   Q5 e (fun u=> ∀g:Value,∀w:World,B w→o g w→Q0 b.1 true w (fieldAddr P T.d g 0) (dk e u w)) fun u=>
   Q5 e (fun A=> ∀l:Value,∀w:World,B w→u l w→Q0 b.1 true w (Q2 P T.c l) (dk e A w)) fun A=>
   Q5 e (fun y=> ∀s:Value,∀w:World,B w→j s w→Q0 b.1 true w (Q2 P T.c s) (dk e y w)) fun y=>
   ∀p:Value,∀m:Value,∀s:Value,∀r:Value,∀g:Value,∀l:Value,∀D:Value,∀C:Value,∀w:World,B w→f p w→t m w→j s w→n r w→o g w→u l w→A D w→y C w→
   Q0 b.1 true w (Q3 P .neq T.c (.tmp 170) (.tmp 172) D C) fun Q w=>
   pick P b.1 Q (.bool false) w fun M w=>
   Q3 P .add T.e (.tmp 161) (.const (.int .i64 1)) b.2 (.int .i64 1) w fun O w=>
   z (M,O) w) (
   Q3 P .add T.e (.tmp 128) (.const (.int .i64 1)) (I i) (.int .i64 1) w fun E w=>
   (Bp N V (b.1,E) w∧Mn N (b.1,E)<m0)):=by
 have ai:=g3.max
 refine E5 (a:=Value.bool ok) i (fun k x w'=> ∃σ',Stp w1 σ1 w' σ'∧x=Value.bool (ok&&(List.range k).all (Xz c i))) ⟨σ1,Stp.refl ab,by simp⟩ fun k x w2 d hk R=>?_
 obtain ⟨σ2,v,rfl⟩:=R
 have am:=hq.up v
 have al:=aa.up v
 have ae:=g3.up v
 have ad:=v.sat
 refine Y9 ?_
 refine Q7 (fun W=>?_) (fun W=>?_)
 ·have X:k<i:=by simpa using W
  have U:k<c.methods.length:=by omega
  have H:(ok&&(List.range (k+1)).all (Xz c i))=((ok&&(List.range k).all (Xz c i))&&Xz c i k):=by rw[Lo,Bool.and_assoc]
  have hQ:Xz c i k= !decide (c.methods[k].name=c.methods[i].name):=by unfold Xz Ra;rw[C3 U,C3 hi]
  rw[hQ] at H
  obtain ⟨ay,ap,av,p1,_⟩:=ae.elM U
  generalize (ok&&(List.range k).all (Xz c i))=af at H⊢
  clear h hQ W
  cases af
  all_goals
   refine U0 ad ?_
   (repeat refine J4 Qc ?_)
   (intros;(repeat (rename_i hx;subst hx));(try simp only[↓M2,M2,Mb,reduceIte]))
   rename_i w3 Y
   exact J3 (by omega) X ⟨σ2,v.trans Y.stp,by rw[H];rfl⟩
 ·have Z:k=i:=by
   have: ¬k<i:=by simpa using W
   omega
  subst Z
  (try simp only[↓M1,M1,Mb,reduceIte])
  exact h _ _ v
set_option maxHeartbeats 4000000 in
theorem X2g {c:Cla} {lv fv mv:Value} {w1:World} {σ1:Q6} {q:Addr} {ok:Bool} (br:X3 w1 σ1) (hq:Z5 σ1 q [S c.name,S c.super,lv, .bool c.iface, .bool c.abs, .bool c.fin,fv,mv]) {J:Value→World→Prop} (g3:Sl 7 E8 σ1 mv c.methods)
 (h: ∀w' σ',Stp w1 σ1 w' σ'→J (.bool (ok&&(List.range c.methods.length).all fun i=>Mq c i&&(List.range i).all (Xz c i))) w'):
 lp (α:=Value×Value) (Value.bool ok,(.int .i64 0)) w1 fun ad u d_ w=>
  fieldAddr P T.b (.pointer (some q)) 7 w fun a0 w=>
  Q2 P T.j a0 w fun bl w=>
  X2 P .len [T.j] T.e [false] [bl] w fun a5 w=>
  Q3 P .lss T.e (.tmp 123) (.tmp 126) u.2 a5 w fun bn w=>
  X1 bn (
   fieldAddr P T.b (.pointer (some q)) 7 w fun a4 w=>
   Q2 P T.j a4 w fun bp w=>
   indexAddr P T.j bp u.2 w fun bj w=>
   Q2 P T.d bj w fun bc w=>
   W0 P T.d w fun t9 w=>
   Y1 P T.d t9 bc w fun _u w=>
   Q0 u.1 true w (Q2 P T.d t9) fun a8 w=>
   Q0 u.1 true w (Q1 P F.a6 [a8]) fun bd w=>
   pick P u.1 bd (.bool false) w fun r w=>
   Q0 r true w (fieldAddr P T.d t9 3) fun a3 w=>
   Q0 r true w (Q2 P T.v a3) fun a2 w=>
   Q0 r true w (J8 P .not a2) fun bk w=>
   Q0 r true w (fun w J=>J bk w) fun W w=>
   Q0 W false w (fieldAddr P T.b (.pointer (some q)) 4) fun a6 w=>
   Q0 W false w (Q2 P T.v a6) fun aw w=>
   Q0 r true w (pick P W (.bool true) aw) fun a9 w=>
   pick P r a9 (.bool false) w fun p w=>
   Q0 p true w (fieldAddr P T.b (.pointer (some q)) 3) fun a7 w=>
   Q0 p true w (Q2 P T.v a7) fun bi w=>
   Q0 p true w (J8 P .not bi) fun bh w=>
   Q0 p true w (fun w J=>J bh w) fun ac w=>
   Q0 ac false w (fieldAddr P T.d t9 3) fun ar w=>
   Q0 ac false w (Q2 P T.v ar) fun bo w=>
   Q0 p true w (pick P ac (.bool true) bo) fun ax w=>
   pick P p ax (.bool false) w fun bm w=>
   lp (α:=Value×Value) (bm,(.int .i64 0)) w fun ab k d_ w=>
    Q3 P .lss T.e (.tmp 158) (.tmp 159) k.2 u.2 w fun bb w=>
    X1 bb (
     dr w fun y Br=>
     Q5 y (fun H=> ∀w:World,Br w→Q0 k.1 true w (fieldAddr P T.b (.pointer (some q)) 7) (dk y H w)) fun H=>
     Q5 y (fun D=> ∀w:World,Br w→Q0 k.1 true w (fun w J=>J k.2 w) (dk y D w)) fun D=>
     Q5 y (fun L=> ∀w:World,Br w→Q0 k.1 true w (fieldAddr P T.d t9 0) (dk y L w)) fun L=>
     Q5 y (fun B=> ∀O:Value,∀w:World,Br w→H O w→Q0 k.1 true w (Q2 P T.j O) (dk y B w)) fun B=>
     Q5 y (fun N=> ∀C:Value,∀M:Value,∀w:World,Br w→B C w→D M w→Q0 k.1 true w (indexAddr P T.j C M) (dk y N w)) fun N=>
     Q5 y (fun E=> ∀z:Value,∀w:World,Br w→N z w→Q0 k.1 true w (fieldAddr P T.d z 0) (dk y E w)) fun E=>
     Q5 y (fun X=> ∀A:Value,∀w:World,Br w→E A w→Q0 k.1 true w (Q2 P T.c A) (dk y X w)) fun X=>
     Q5 y (fun V=> ∀Q:Value,∀w:World,Br w→L Q w→Q0 k.1 true w (Q2 P T.c Q) (dk y V w)) fun V=>
     ∀O:Value,∀M:Value,∀Q:Value,∀C:Value,∀z:Value,∀A:Value,∀aj:Value,∀ah:Value,∀w:World,Br w→H O w→D M w→L Q w→B C w→N z w→E A w→X aj w→V ah w→
     Q0 k.1 true w (Q3 P .neq T.c (.tmp 170) (.tmp 172) aj ah) fun be w=>
     pick P k.1 be (.bool false) w fun av w=>
     Q3 P .add T.e (.tmp 161) (.const (.int .i64 1)) k.2 (.int .i64 1) w fun ay w=>
     ab (av,ay) w) (
     Q3 P .add T.e (.tmp 128) (.const (.int .i64 1)) u.2 (.int .i64 1) w fun ba w=>
     ad (k.1,ba) w)) (
   J u.1 w):=by
 have o:=g3.max
 refine E5 (a:=Value.bool ok) c.methods.length (fun n x w'=> ∃σ',Stp w1 σ1 w' σ'∧x=Value.bool (ok&&(List.range n).all fun i=>Mq c i&&(List.range i).all (Xz c i))) ⟨σ1,Stp.refl br,by simp⟩ fun n x w2 d b2 a1=>?_
 obtain ⟨σ2,Z,rfl⟩:=a1
 have am:=hq.up Z
 have af:=g3.up Z
 have ae:=Z.sat
 (repeat refine Hd.h ?_)
 refine ld ae am rfl ?_
 refine Q8 af ?_
 refine Y9 ?_
 refine Q7 (fun hc=>?_) (fun hc=>?_)
 ·have f:n<c.methods.length:=by simpa using hc
  have v:(ok&&(List.range (n+1)).all fun i=>Mq c i&&(List.range i).all (Xz c i))=((ok&&(List.range n).all fun i=>Mq c i&&(List.range i).all (Xz c i))&&(Mq c n&&(List.range n).all (Xz c n))):=by rw[Lo,Bool.and_assoc]
  have hP:Mq c n=(I9 c.methods[n]&&(!c.methods[n].abs||c.abs)&&(!c.iface||c.methods[n].abs)):=by unfold Mq Ra;rw[C3 f]
  obtain ⟨pv,cv,hv,p1,r1⟩:=af.elM f
  generalize (ok&&(List.range n).all fun i=>Mq c i&&(List.range i).all (Xz c i))=ao at v⊢
  clear h hc
  have step: ∀b,b=(ao&&Mq c n)→(ao&&(Mq c n&&(List.range n).all (Xz c n)))=(b&&(List.range n).all (Xz c n)):=fun b e=>by rw[e,Bool.and_assoc]
  (repeat refine Hd.h ?_)
  refine ld ae am rfl ?_
  refine Y0 af f ?_
  refine Y4 ae p1 rfl ?_
  refine Y8 ae (by rfl) rfl (Rep.one r1) fun q9 w3 σ3 Y ak=>?_
  have al:=Y.sat
  have aq:=am.up Y
  have az:=af.up Y
  have r3:=RMe_lift r1 ⟨Y.le⟩
  have ai:=Z.trans Y
  cases ao with
  | false=>
   (repeat refine Hd.h ?_)
   refine Cg al aq az f ak fun w4 R l=>?_
   exact J3 o f ⟨R,ai.trans l,by rw[v];rfl⟩
  | true=>
   (repeat refine Hd.h ?_)
   refine Y4 al ak rfl ?_
   (repeat refine Hd.h ?_)
   refine Q7P al r3 fun w5 σ5 aa=>?_
   have m:=aa.sat
   have t:=aq.up aa
   have g:=ak.up aa
   have U:=az.up aa
   have s:=ai.trans aa
   cases d1:I9 c.methods[n] with
   | false=>
    (repeat refine Hd.h ?_)
    refine Cg m t U f g fun w4 R l=>?_
    exact J3 o f ⟨R,s.trans l,by rw[v,step false (by rw[hP,d1];rfl)]⟩
   | true=>
    (repeat refine Hd.h ?_)
    refine ld m g rfl ?_
    (repeat refine Hd.h ?_)
    have j: ∀b1:Bool,b1=(!c.methods[n].abs||c.abs)→Mq c n=(b1&&(!c.iface||c.methods[n].abs)):=fun b1 e=>by rw[hP,d1,e];rfl
    cases d2:c.methods[n].abs with
    | false=>
     rw[d2] at j g
     simp only[Bool.not_true,Bool.not_false]
     (repeat refine Hd.h ?_)
     refine ld m t rfl ?_
     (repeat refine Hd.h ?_)
     cases d4:c.iface with
     | false=>
      simp only[Bool.not_true,Bool.not_false]
      (repeat refine Hd.h ?_)
      refine Cg m t U f (by rw[d2];exact g) fun w4 R l=>?_
      exact J3 o f ⟨R,s.trans l,by rw[v,step true (by rw[j true rfl,d4];rfl)]⟩
     | true=>
      simp only[Bool.not_true,Bool.not_false]
      (repeat refine Hd.h ?_)
      refine ld m g rfl ?_
      (repeat refine Hd.h ?_)
      refine Cg m t U f (by rw[d2];exact g) fun w4 R l=>?_
      exact J3 o f ⟨R,s.trans l,by rw[v,step false (by rw[j true rfl,d4];rfl)]⟩
    | true=>
     rw[d2] at j g
     simp only[Bool.not_true,Bool.not_false]
     (repeat refine Hd.h ?_)
     refine ld m t rfl ?_
     cases d3:c.abs with
     | false=>
      (repeat refine Hd.h ?_)
      refine Cg m t U f (by rw[d2];exact g) fun w4 R l=>?_
      exact J3 o f ⟨R,s.trans l,by rw[v,step false (by rw[j false (by rw[d3];rfl)];rfl)]⟩
     | true=>
      (repeat refine Hd.h ?_)
      refine ld m t rfl ?_
      (repeat refine Hd.h ?_)
      cases d4:c.iface with
      | false=>
       simp only[Bool.not_true,Bool.not_false]
       (repeat refine Hd.h ?_)
       refine Cg m t U f (by rw[d2];exact g) fun w4 R l=>?_
       exact J3 o f ⟨R,s.trans l,by rw[v,step true (by rw[j true (by rw[d3];rfl),d4];rfl)]⟩
      | true=>
       simp only[Bool.not_true,Bool.not_false]
       (repeat refine Hd.h ?_)
       refine ld m g rfl ?_
       (repeat refine Hd.h ?_)
       refine Cg m t U f (by rw[d2];exact g) fun w4 R l=>?_
       exact J3 o f ⟨R,s.trans l,by rw[v,step true (by rw[j true (by rw[d3];rfl),d4];rfl)]⟩
 ·have f: ¬n<c.methods.length:=by simpa using hc
  obtain rfl:n=c.methods.length:=by omega
  exact h _ _ Z
theorem X1Q {c:Cla} {L H mv:Value} {w1:World} {σ1:Q6} {q:Addr} {ok:Bool} (d:X3 w1 σ1) (g:Z5 σ1 q [S c.name,S c.super,L, .bool c.iface, .bool c.abs, .bool c.fin,H,mv]) (h:K (.bool (ok&&Q8t c)) w1):
 Q0 (Value.bool ok) true w1 (fieldAddr P T.b (.pointer (some q)) 3) fun C w=>
  Q0 (Value.bool ok) true w (Q2 P T.v C) fun u w=>
  Q0 (Value.bool ok) true w (J8 P .not u) fun j w=>
  Q0 (Value.bool ok) true w (fun w J=>J j w) fun b w=>
  Q0 b false w (fieldAddr P T.b (.pointer (some q)) 4) fun v w=>
  Q0 b false w (Q2 P T.v v) fun r w=>
  Q0 b false w (fun w J=>J r w) fun e w=>
  Q0 e true w (fieldAddr P T.b (.pointer (some q)) 1) fun t w=>
  Q0 e true w (Q2 P T.c t) fun A w=>
  Q0 e true w (Q3 P .eql T.c (.tmp 185) (.const (.string ⟨#[79,98,106,101,99,116]⟩)) A (.string ⟨#[79,98,106,101,99,116]⟩)) fun s w=>
  Q0 b false w (pick P e s (.bool false)) fun B w=>
  Q0 (Value.bool ok) true w (pick P b (.bool true) B) fun k w=>
  pick P (Value.bool ok) k (.bool false) w fun a w=>
  Q0 a true w (fieldAddr P T.b (.pointer (some q)) 4) fun y w=>
  Q0 a true w (Q2 P T.v y) fun l w=>
  Q0 a true w (fun w J=>J l w) fun f w=>
  Q0 f true w (fieldAddr P T.b (.pointer (some q)) 5) fun o w=>
  Q0 f true w (Q2 P T.v o) fun m w=>
  Q0 a true w (pick P f m (.bool false)) fun z w=>
  Q0 a true w (J8 P .not z) fun n w=>
  pick P a n (.bool false) w fun p w=>
  K p w:=by
 unfold Q8t at h
 have M:decide (c.super=J9)=decide (c.super=[79,98,106,101,99,116]):=rfl
 rw[M] at h
 cases ok with
 | false=>(try simp only[↓M1,M1,Mb,reduceIte]);simpa using h
 | true=>
  (try simp only[↓M1,M1,Mb,reduceIte])
  refine ld d g rfl ?_
  (try simp only[↓M1,M1,Mb,reduceIte])
  cases E:c.iface with
  | false=>
   rw[E] at h
   (try simp only[↓M1,M1,Mb,reduceIte])
   refine ld d g rfl ?_
   cases i:c.abs with
   | false=>rw[i] at h;(try simp only[↓M1,M1,Mb,reduceIte]);simpa using h
   | true=>
    rw[i] at h
    (try simp only[↓M1,M1,Mb,reduceIte])
    refine ld d g rfl ?_
    (try simp only[↓M1,M1,Mb,reduceIte])
    simpa using h
  | true=>
   rw[E] at h
   (try simp only[↓M1,M1,Mb,reduceIte])
   refine ld d g rfl ?_
   cases i:c.abs with
   | false=>rw[i] at h;(try simp only[↓M1,M1,Mb,reduceIte]);simpa using h
   | true=>
    rw[i] at h
    (try simp only[↓M1,M1,Mb,reduceIte])
    refine ld d g rfl ?_
    (try simp only[↓M1,M1,Mb,reduceIte])
    cases D:decide (c.super=[79,98,106,101,99,116]) with
    | false=>rw[D] at h;(try simp only[↓M1,M1,Mb,reduceIte]);simpa using h
    | true=>
     rw[D] at h
     (try simp only[↓M1,M1,Mb,reduceIte])
     refine ld d g rfl ?_
     simp only[i,↓M1,M1,Mb,reduceIte]
     refine ld d g rfl ?_
     (try simp only[↓M1,M1,Mb,reduceIte])
     simpa using h
end Go.Proofs.YtjdiakhipmggjaaGreatDoor

namespace Go.Proofs.YtjdiakhipmggjaaGreatDoor
open Go.Emb Go.RowKit Go.Kd Go.Hm
variable {w : World} {K : Value → World → Prop} {σ : Q6}
def Q60 (c:Cla):Bool:=((((M6 c.name&&M6 c.super&& !decide (c.name=c.super))&&(List.range c.like.length).all fun i=>Nh c i&&(List.range i).all (Qa c i))&&(List.range c.fields.length).all fun i=>Dm c i&&(List.range i).all (Xv c i))&&(List.range c.methods.length).all fun i=>Mq c i&&(List.range i).all (Xz c i))&&Q8t c
theorem X0z {α:Type} {f:α→X0}: ∀(xs a:List α),C8 f a xs=true↔(xs.map f).Nodup∧ ∀x∈xs,∀y∈a,f y≠f x:=by
 intro xs
 induction xs with
 | nil=>intro a;simp[C8]
 | cons x r h=>
  intro a
  simp only[C8,Bool.and_eq_true,h,Bool.not_eq_true',List.map_cons,List.nodup_cons]
  rw[←Bool.not_eq_true,List.any_eq_true]
  simp only[decide_eq_true_eq,not_exists,not_and,List.mem_append,List.mem_cons,List.not_mem_nil,or_false,List.mem_map]
  constructor
  ·rintro ⟨d,g,c⟩
   refine ⟨⟨fun y hy e=>c y hy x (.inr rfl) e.symm,g⟩,fun y hy z b=>?_⟩
   rcases hy with rfl | hy
   ·exact d z b
   ·exact c y hy z (.inl b)
  ·rintro ⟨⟨d,g⟩,c⟩
   refine ⟨fun y hy=>c x (.inl rfl) y hy,g,fun y hy z b=>?_⟩
   rcases b with b | rfl
   ·exact c y (.inr hy) z b
   ·exact fun e=>d y hy e.symm
theorem Q0V {α:Type} {f:α→X0} {xs:List α} {p:α→Bool} {P:Nat→Bool} {Q:Nat→Nat→Bool} (c: ∀i (h:i<xs.length),P i=p xs[i]) (d: ∀i (h:i<xs.length) k (o:k<xs.length),Q i k= !decide (f xs[k]=f xs[i])):
 ((List.range xs.length).all fun i=>P i&&(List.range i).all (Q i))=true↔(∀x∈xs,p x=true)∧C8 f [] xs=true:=by
 rw[X0z,List.all_eq_true]
 simp only[List.mem_range,Bool.and_eq_true,List.all_eq_true,List.not_mem_nil,false_implies,implies_true,and_true]
 rw[List.nodup_iff_pairwise_ne,List.pairwise_iff_getElem]
 simp only[List.length_map,List.getElem_map]
 constructor
 ·intro h
  refine ⟨fun x l=>?_,fun i j a e b=>?_⟩
  ·obtain ⟨i,a,rfl⟩:=List.getElem_of_mem l
   rw[←c i a];exact (h i a).1
  ·have:=(h j e).2 i b
   rw[d j e i a] at this
   simpa using this
 ·rintro ⟨n,g⟩ i a
  refine ⟨by rw[c i a];exact n _ (List.getElem_mem a),fun k m=>?_⟩
  rw[d i a k (by omega)]
  simpa using g k i (by omega) a m
theorem X0E (c:Cla):Q60 c=Lx c:=by
 have z:=Q0V (f:=id) (xs:=c.like) (p:=fun y=>M6 y&& !decide (y=c.name)) (P:=Nh c) (Q:=Qa c) (fun i h=>by unfold Nh;rw[C3 h]) (fun i h k l=>by unfold Qa;rw[C3 h,C3 l];rfl)
 have g:=Q0V (f:=Fld.name) (xs:=c.fields) (p:=fun f=>D9 f.name&&right f.kind&& !c.iface) (P:=Dm c) (Q:=Xv c) (fun i h=>by unfold Dm Bi;rw[C3 h]) (fun i h k l=>by unfold Xv Bi;rw[C3 h,C3 l])
 have d:=Q0V (f:=Hm.Met.name) (xs:=c.methods) (p:=fun m=>I9 m&&(!m.abs||c.abs)&&(!c.iface||m.abs)) (P:=Mq c) (Q:=Xz c) (fun i h=>by unfold Mq Ra;rw[C3 h]) (fun i h k l=>by unfold Xz Ra;rw[C3 h,C3 l])
 rw[Bool.eq_iff_iff]
 unfold Q60 Lx Q8t
 simp only[Bool.and_eq_true,z,g,d]
 simp only[Bool.and_eq_true,Bool.not_eq_true',Bool.or_eq_true,Bool.and_eq_false_iff,Bool.or_eq_false_iff,decide_eq_true_eq,decide_eq_false_iff_not,List.all_eq_true,List.mem_cons,List.any_eq_false,El,Bool.not_eq_false']
 constructor
 ·rintro ⟨⟨⟨⟨⟨⟨n,o⟩,q⟩,a,r⟩,h6,t⟩,j,s⟩,b,u⟩
  refine ⟨⟨⟨⟨⟨⟨⟨⟨?_,?_⟩,r⟩,?_⟩,u,?_⟩,t⟩,s⟩,?_⟩,fun m d=>(j m d).1.1⟩
  ·rintro x (rfl | rfl | hx)
   ·exact n
   ·exact o
   ·exact (a x hx).1
  ·rintro x (rfl | hx)
   ·exact q
   ·exact fun e=>(a x hx).2 e.symm
  ·cases A:c.iface with
   | false=>exact .inl rfl
   | true=>
    rw[A] at b h6 j
    have b:=b.resolve_left (by decide)
    refine .inr ⟨⟨b,?_⟩,fun m d e=>?_⟩
    ·rw[List.eq_nil_iff_forall_not_mem]
     intro f g
     exact absurd (h6 f g).2 (by decide)
    ·have:=(j m d).2.resolve_left (by decide)
     rw[this] at e;cases e
  ·cases v:c.abs with
   | true=>exact .inr rfl
   | false=>
    rw[v] at j
    refine .inl fun m d e=>?_
    have:=(j m d).1.2.resolve_right (by decide)
    rw[this] at e;cases e
  ·exact fun f g=>(h6 f g).1
 ·rintro ⟨⟨⟨⟨⟨⟨⟨⟨n,o⟩,q⟩,a⟩,r,h6⟩,t⟩,j⟩,s⟩,b⟩
  refine ⟨⟨⟨⟨⟨⟨n _ (.inl rfl),n _ (.inr (.inl rfl))⟩,o _ (.inl rfl)⟩,fun x hx=>⟨n x (.inr (.inr hx)),fun e=>o x (.inr hx) e.symm⟩,q⟩,fun f g=>⟨s f g,?_⟩,t⟩,fun m d=>⟨⟨b m d,?_⟩,?_⟩,j⟩,?_,r⟩
  ·rcases a with a | ⟨⟨_,a⟩,_⟩
   ·exact a
   ·rw[a] at g;simp at g
  ·rcases h6 with h6 | h6
   ·left;exact eq_false_of_ne_true (h6 m d)
   ·exact .inr h6
  ·rcases a with a | ⟨_,a⟩
   ·exact .inl a
   ·right
    cases hx:m.abs with
    | true=>rfl
    | false=>exact absurd hx (a m d)
  ·rcases a with a | ⟨⟨a,_⟩,_⟩
   ·exact .inl a
   ·exact .inr a
set_option maxHeartbeats 4000000 in
theorem Q8R {c:Cla} {cs:List Value} (hs:X3 w σ) (hc:V0 σ c cs) (h: ∀w' σ',Stp w σ w' σ'→K (.bool (Q60 c)) w'):Q1 P F.bs [.agg cs.toArray] w K:=Kt (by
 unfold Ml
 obtain ⟨lv,fv,mv,rfl,f1,f2,f3,f4,f5⟩:=hc
 have c4:c.name.length≤140737488355328:=by simp only[U1] at f4;omega
 have de:c.super.length≤140737488355328:=by simp only[U1] at f5;omega
 refine Z0 hs fun q w1 σ1 b0 hq=>?_
 have g1:=f1.up b0
 have g2:=f2.up b0
 have g3:=f3.up b0
 have bi:=b0.sat
 have ci: ∀ok:Bool,ok=(M6 c.name&&M6 c.super&& !decide (c.name=c.super))→_:=fun ok e=>
  X0r (w1:=w1) (σ1:=σ1) (ok:=ok) bi hq (J:=fun v w=>lp (α:=Value×Value) (v,(.int .i64 0)) w fun bz o d_ w=>
   fieldAddr P T.b (.pointer (some q)) 6 w fun cv w=>
   Q2 P T.k cv w fun cq w=>
   X2 P .len [T.k] T.e [false] [cq] w fun ct w=>
   Q3 P .lss T.e (.tmp 71) (.tmp 74) o.2 ct w fun cx w=>
   X1 cx (
    Q0 o.1 true w (fieldAddr P T.b (.pointer (some q)) 6) fun dc w=>
    Q0 o.1 true w (Q2 P T.k dc) fun c5 w=>
    Q0 o.1 true w (fun w J=>J o.2 w) fun c1 w=>
    Q0 o.1 true w (indexAddr P T.k c5 c1) fun db w=>
    Q0 o.1 true w (fieldAddr P T.o db 0) fun cy w=>
    Q0 o.1 true w (Q2 P T.c cy) fun c9 w=>
    Q0 o.1 true w (Q1 P F.v [c9]) fun c2 w=>
    pick P o.1 c2 (.bool false) w fun ac w=>
    Q0 ac true w (fieldAddr P T.b (.pointer (some q)) 6) fun c7 w=>
    Q0 ac true w (Q2 P T.k c7) fun c6 w=>
    Q0 ac true w (fun w J=>J o.2 w) fun c8 w=>
    Q0 ac true w (indexAddr P T.k c6 c8) fun c3 w=>
    Q0 ac true w (fieldAddr P T.o c3 1) fun dd w=>
    Q0 ac true w (Q2 P T.c dd) fun cr w=>
    Q0 ac true w (Q1 P F.e [cr]) fun cz w=>
    pick P ac cz (.bool false) w fun cd w=>
    Q0 cd true w (fieldAddr P T.b (.pointer (some q)) 3) fun c0 w=>
    Q0 cd true w (Q2 P T.v c0) fun da w=>
    Q0 cd true w (J8 P .not da) fun cj w=>
    pick P cd cj (.bool false) w fun cp w=>
    lp (α:=Value×Value) (cp,(.int .i64 0)) w fun bw l d_ w=>
     Q3 P .lss T.e (.tmp 102) (.tmp 103) l.2 o.2 w fun co w=>
     X1 co (
      dr w fun d n=>
      Q5 d (fun a4=> ∀w:World,n w→Q0 l.1 true w (fieldAddr P T.b (.pointer (some q)) 6) (dk d a4 w)) fun a4=>
      Q5 d (fun ba=> ∀w:World,n w→Q0 l.1 true w (fun w J=>J l.2 w) (dk d ba w)) fun ba=>
      Q5 d (fun a3=> ∀w:World,n w→Q0 l.1 true w (fieldAddr P T.b (.pointer (some q)) 6) (dk d a3 w)) fun a3=>
      Q5 d (fun a5=> ∀w:World,n w→Q0 l.1 true w (fun w J=>J o.2 w) (dk d a5 w)) fun a5=>
      Q5 d (fun a0=> ∀az:Value,∀w:World,n w→a4 az w→Q0 l.1 true w (Q2 P T.k az) (dk d a0 w)) fun a0=>
      Q5 d (fun a9=> ∀ax:Value,∀a6:Value,∀w:World,n w→a0 ax w→ba a6 w→Q0 l.1 true w (indexAddr P T.k ax a6) (dk d a9 w)) fun a9=>
      Q5 d (fun ap=> ∀aw:Value,∀w:World,n w→a9 aw w→Q0 l.1 true w (fieldAddr P T.o aw 0) (dk d ap w)) fun ap=>
      Q5 d (fun bj=> ∀av:Value,∀w:World,n w→ap av w→Q0 l.1 true w (Q2 P T.c av) (dk d bj w)) fun bj=>
      Q5 d (fun ay=> ∀a1:Value,∀w:World,n w→a3 a1 w→Q0 l.1 true w (Q2 P T.k a1) (dk d ay w)) fun ay=>
      Q5 d (fun a7=> ∀ao:Value,∀a8:Value,∀w:World,n w→ay ao w→a5 a8 w→Q0 l.1 true w (indexAddr P T.k ao a8) (dk d a7 w)) fun a7=>
      Q5 d (fun a2=> ∀ar:Value,∀w:World,n w→a7 ar w→Q0 l.1 true w (fieldAddr P T.o ar 0) (dk d a2 w)) fun a2=>
      Q5 d (fun bd=> ∀aq:Value,∀w:World,n w→a2 aq w→Q0 l.1 true w (Q2 P T.c aq) (dk d bd w)) fun bd=>
      ∀az:Value,∀a6:Value,∀a1:Value,∀a8:Value,∀ax:Value,∀aw:Value,∀av:Value,∀cg:Value,∀ao:Value,∀ar:Value,∀aq:Value,∀ce:Value,∀w:World,n w→a4 az w→ba a6 w→a3 a1 w→a5 a8 w→a0 ax w→a9 aw w→ap av w→bj cg w→ay ao w→a7 ar w→a2 aq w→bd ce w→
      Q0 l.1 true w (Q3 P .neq T.c (.tmp 114) (.tmp 120) cg ce) fun cl w=>
      pick P l.1 cl (.bool false) w fun cn w=>
      Q3 P .add T.e (.tmp 105) (.const (.int .i64 1)) l.2 (.int .i64 1) w fun ck w=>
      bw (cn,ck) w) (
      Q3 P .add T.e (.tmp 76) (.const (.int .i64 1)) o.2 (.int .i64 1) w fun cw w=>
      bz (l.1,cw) w)) (
    lp (α:=Value×Value) (o.1,(.int .i64 0)) w fun Q f d_ w=>
     fieldAddr P T.b (.pointer (some q)) 7 w fun bh w=>
     Q2 P T.j bh w fun b8 w=>
     X2 P .len [T.j] T.e [false] [b8] w fun bo w=>
     Q3 P .lss T.e (.tmp 123) (.tmp 126) f.2 bo w fun ca w=>
     X1 ca (
      fieldAddr P T.b (.pointer (some q)) 7 w fun bn w=>
      Q2 P T.j bn w fun cc w=>
      indexAddr P T.j cc f.2 w fun b6 w=>
      Q2 P T.d b6 w fun bx w=>
      W0 P T.d w fun t9 w=>
      Y1 P T.d t9 bx w fun _u w=>
      Q0 f.1 true w (Q2 P T.d t9) fun br w=>
      Q0 f.1 true w (Q1 P F.a6 [br]) fun b1 w=>
      pick P f.1 b1 (.bool false) w fun k w=>
      Q0 k true w (fieldAddr P T.d t9 3) fun bm w=>
      Q0 k true w (Q2 P T.v bm) fun bk w=>
      Q0 k true w (J8 P .not bk) fun b7 w=>
      Q0 k true w (fun w J=>J b7 w) fun L w=>
      Q0 L false w (fieldAddr P T.b (.pointer (some q)) 4) fun bp w=>
      Q0 L false w (Q2 P T.v bp) fun be w=>
      Q0 k true w (pick P L (.bool true) be) fun bs w=>
      pick P k bs (.bool false) w fun j w=>
      Q0 j true w (fieldAddr P T.b (.pointer (some q)) 3) fun bq w=>
      Q0 j true w (Q2 P T.v bq) fun b5 w=>
      Q0 j true w (J8 P .not b5) fun b4 w=>
      Q0 j true w (fun w J=>J b4 w) fun O w=>
      Q0 O false w (fieldAddr P T.d t9 3) fun bb w=>
      Q0 O false w (Q2 P T.v bb) fun cb w=>
      Q0 j true w (pick P O (.bool true) cb) fun bf w=>
      pick P j bf (.bool false) w fun b9 w=>
      lp (α:=Value×Value) (b9,(.int .i64 0)) w fun N b d_ w=>
       Q3 P .lss T.e (.tmp 158) (.tmp 159) b.2 f.2 w fun bv w=>
       X1 bv (
        dr w fun d n=>
        Q5 d (fun z=> ∀w:World,n w→Q0 b.1 true w (fieldAddr P T.b (.pointer (some q)) 7) (dk d z w)) fun z=>
        Q5 d (fun u=> ∀w:World,n w→Q0 b.1 true w (fun w J=>J b.2 w) (dk d u w)) fun u=>
        Q5 d (fun A=> ∀w:World,n w→Q0 b.1 true w (fieldAddr P T.d t9 0) (dk d A w)) fun A=>
        Q5 d (fun s=> ∀D:Value,∀w:World,n w→z D w→Q0 b.1 true w (Q2 P T.j D) (dk d s w)) fun s=>
        Q5 d (fun C=> ∀t:Value,∀B:Value,∀w:World,n w→s t w→u B w→Q0 b.1 true w (indexAddr P T.j t B) (dk d C w)) fun C=>
        Q5 d (fun y=> ∀p:Value,∀w:World,n w→C p w→Q0 b.1 true w (fieldAddr P T.d p 0) (dk d y w)) fun y=>
        Q5 d (fun M=> ∀r:Value,∀w:World,n w→y r w→Q0 b.1 true w (Q2 P T.c r) (dk d M w)) fun M=>
        Q5 d (fun H=> ∀E:Value,∀w:World,n w→A E w→Q0 b.1 true w (Q2 P T.c E) (dk d H w)) fun H=>
        ∀D:Value,∀B:Value,∀E:Value,∀t:Value,∀p:Value,∀r:Value,∀W:Value,∀R:Value,∀w:World,n w→z D w→u B w→A E w→s t w→C p w→y r w→M W w→H R w→
        Q0 b.1 true w (Q3 P .neq T.c (.tmp 170) (.tmp 172) W R) fun b2 w=>
        pick P b.1 b2 (.bool false) w fun bc w=>
        Q3 P .add T.e (.tmp 161) (.const (.int .i64 1)) b.2 (.int .i64 1) w fun bg w=>
        N (bc,bg) w) (
        Q3 P .add T.e (.tmp 128) (.const (.int .i64 1)) f.2 (.int .i64 1) w fun bu w=>
        Q (b.1,bu) w)) (
      Q0 f.1 true w (fieldAddr P T.b (.pointer (some q)) 3) fun ah w=>
      Q0 f.1 true w (Q2 P T.v ah) fun af w=>
      Q0 f.1 true w (J8 P .not af) fun X w=>
      Q0 f.1 true w (fun w J=>J X w) fun g w=>
      Q0 g false w (fieldAddr P T.b (.pointer (some q)) 4) fun al w=>
      Q0 g false w (Q2 P T.v al) fun Z w=>
      Q0 g false w (fun w J=>J Z w) fun i w=>
      Q0 i true w (fieldAddr P T.b (.pointer (some q)) 1) fun ae w=>
      Q0 i true w (Q2 P T.c ae) fun V w=>
      Q0 i true w (Q3 P .eql T.c (.tmp 185) (.const (.string ⟨#[79,98,106,101,99,116]⟩)) V (.string ⟨#[79,98,106,101,99,116]⟩)) fun ad w=>
      Q0 g false w (pick P i ad (.bool false)) fun aa w=>
      Q0 f.1 true w (pick P g (.bool true) aa) fun U w=>
      pick P f.1 U (.bool false) w fun a w=>
      Q0 a true w (fieldAddr P T.b (.pointer (some q)) 4) fun ag w=>
      Q0 a true w (Q2 P T.v ag) fun ab w=>
      Q0 a true w (fun w J=>J ab w) fun m w=>
      Q0 m true w (fieldAddr P T.b (.pointer (some q)) 5) fun ak w=>
      Q0 m true w (Q2 P T.v ak) fun ai w=>
      Q0 a true w (pick P m ai (.bool false)) fun am w=>
      Q0 a true w (J8 P .not am) fun aj w=>
      pick P a aj (.bool false) w fun Y w=>
      K Y w))) f4 g1 fun w2 σ2 an=>
  X26 (J:=fun v w=>lp (α:=Value×Value) (v,(.int .i64 0)) w fun Q f d_ w=>
   fieldAddr P T.b (.pointer (some q)) 7 w fun bh w=>
   Q2 P T.j bh w fun b8 w=>
   X2 P .len [T.j] T.e [false] [b8] w fun bo w=>
   Q3 P .lss T.e (.tmp 123) (.tmp 126) f.2 bo w fun ca w=>
   X1 ca (
    fieldAddr P T.b (.pointer (some q)) 7 w fun bn w=>
    Q2 P T.j bn w fun cc w=>
    indexAddr P T.j cc f.2 w fun b6 w=>
    Q2 P T.d b6 w fun bx w=>
    W0 P T.d w fun t9 w=>
    Y1 P T.d t9 bx w fun _u w=>
    Q0 f.1 true w (Q2 P T.d t9) fun br w=>
    Q0 f.1 true w (Q1 P F.a6 [br]) fun b1 w=>
    pick P f.1 b1 (.bool false) w fun k w=>
    Q0 k true w (fieldAddr P T.d t9 3) fun bm w=>
    Q0 k true w (Q2 P T.v bm) fun bk w=>
    Q0 k true w (J8 P .not bk) fun b7 w=>
    Q0 k true w (fun w J=>J b7 w) fun L w=>
    Q0 L false w (fieldAddr P T.b (.pointer (some q)) 4) fun bp w=>
    Q0 L false w (Q2 P T.v bp) fun be w=>
    Q0 k true w (pick P L (.bool true) be) fun bs w=>
    pick P k bs (.bool false) w fun j w=>
    Q0 j true w (fieldAddr P T.b (.pointer (some q)) 3) fun bq w=>
    Q0 j true w (Q2 P T.v bq) fun b5 w=>
    Q0 j true w (J8 P .not b5) fun b4 w=>
    Q0 j true w (fun w J=>J b4 w) fun O w=>
    Q0 O false w (fieldAddr P T.d t9 3) fun bb w=>
    Q0 O false w (Q2 P T.v bb) fun cb w=>
    Q0 j true w (pick P O (.bool true) cb) fun bf w=>
    pick P j bf (.bool false) w fun b9 w=>
    lp (α:=Value×Value) (b9,(.int .i64 0)) w fun N b d_ w=>
     Q3 P .lss T.e (.tmp 158) (.tmp 159) b.2 f.2 w fun bv w=>
     X1 bv (
      dr w fun d n=>
      Q5 d (fun z=> ∀w:World,n w→Q0 b.1 true w (fieldAddr P T.b (.pointer (some q)) 7) (dk d z w)) fun z=>
      Q5 d (fun u=> ∀w:World,n w→Q0 b.1 true w (fun w J=>J b.2 w) (dk d u w)) fun u=>
      Q5 d (fun A=> ∀w:World,n w→Q0 b.1 true w (fieldAddr P T.d t9 0) (dk d A w)) fun A=>
      Q5 d (fun s=> ∀D:Value,∀w:World,n w→z D w→Q0 b.1 true w (Q2 P T.j D) (dk d s w)) fun s=>
      Q5 d (fun C=> ∀t:Value,∀B:Value,∀w:World,n w→s t w→u B w→Q0 b.1 true w (indexAddr P T.j t B) (dk d C w)) fun C=>
      Q5 d (fun y=> ∀p:Value,∀w:World,n w→C p w→Q0 b.1 true w (fieldAddr P T.d p 0) (dk d y w)) fun y=>
      Q5 d (fun M=> ∀r:Value,∀w:World,n w→y r w→Q0 b.1 true w (Q2 P T.c r) (dk d M w)) fun M=>
      Q5 d (fun H=> ∀E:Value,∀w:World,n w→A E w→Q0 b.1 true w (Q2 P T.c E) (dk d H w)) fun H=>
      ∀D:Value,∀B:Value,∀E:Value,∀t:Value,∀p:Value,∀r:Value,∀W:Value,∀R:Value,∀w:World,n w→z D w→u B w→A E w→s t w→C p w→y r w→M W w→H R w→
      Q0 b.1 true w (Q3 P .neq T.c (.tmp 170) (.tmp 172) W R) fun b2 w=>
      pick P b.1 b2 (.bool false) w fun bc w=>
      Q3 P .add T.e (.tmp 161) (.const (.int .i64 1)) b.2 (.int .i64 1) w fun bg w=>
      N (bc,bg) w) (
      Q3 P .add T.e (.tmp 128) (.const (.int .i64 1)) f.2 (.int .i64 1) w fun bu w=>
      Q (b.1,bu) w)) (
    Q0 f.1 true w (fieldAddr P T.b (.pointer (some q)) 3) fun ah w=>
    Q0 f.1 true w (Q2 P T.v ah) fun af w=>
    Q0 f.1 true w (J8 P .not af) fun X w=>
    Q0 f.1 true w (fun w J=>J X w) fun g w=>
    Q0 g false w (fieldAddr P T.b (.pointer (some q)) 4) fun al w=>
    Q0 g false w (Q2 P T.v al) fun Z w=>
    Q0 g false w (fun w J=>J Z w) fun i w=>
    Q0 i true w (fieldAddr P T.b (.pointer (some q)) 1) fun ae w=>
    Q0 i true w (Q2 P T.c ae) fun V w=>
    Q0 i true w (Q3 P .eql T.c (.tmp 185) (.const (.string ⟨#[79,98,106,101,99,116]⟩)) V (.string ⟨#[79,98,106,101,99,116]⟩)) fun ad w=>
    Q0 g false w (pick P i ad (.bool false)) fun aa w=>
    Q0 f.1 true w (pick P g (.bool true) aa) fun U w=>
    pick P f.1 U (.bool false) w fun a w=>
    Q0 a true w (fieldAddr P T.b (.pointer (some q)) 4) fun ag w=>
    Q0 a true w (Q2 P T.v ag) fun ab w=>
    Q0 a true w (fun w J=>J ab w) fun m w=>
    Q0 m true w (fieldAddr P T.b (.pointer (some q)) 5) fun ak w=>
    Q0 m true w (Q2 P T.v ak) fun ai w=>
    Q0 a true w (pick P m ai (.bool false)) fun am w=>
    Q0 a true w (J8 P .not am) fun aj w=>
    pick P a aj (.bool false) w fun Y w=>
    K Y w)) an.sat (hq.up an) (g2.up an) fun w3 σ3 bl=>
  X2g (J:=fun v w=>Q0 v true w (fieldAddr P T.b (.pointer (some q)) 3) fun ah w=>
   Q0 v true w (Q2 P T.v ah) fun af w=>
   Q0 v true w (J8 P .not af) fun X w=>
   Q0 v true w (fun w J=>J X w) fun g w=>
   Q0 g false w (fieldAddr P T.b (.pointer (some q)) 4) fun al w=>
   Q0 g false w (Q2 P T.v al) fun Z w=>
   Q0 g false w (fun w J=>J Z w) fun i w=>
   Q0 i true w (fieldAddr P T.b (.pointer (some q)) 1) fun ae w=>
   Q0 i true w (Q2 P T.c ae) fun V w=>
   Q0 i true w (Q3 P .eql T.c (.tmp 185) (.const (.string ⟨#[79,98,106,101,99,116]⟩)) V (.string ⟨#[79,98,106,101,99,116]⟩)) fun ad w=>
   Q0 g false w (pick P i ad (.bool false)) fun aa w=>
   Q0 v true w (pick P g (.bool true) aa) fun U w=>
   pick P v U (.bool false) w fun a w=>
   Q0 a true w (fieldAddr P T.b (.pointer (some q)) 4) fun ag w=>
   Q0 a true w (Q2 P T.v ag) fun ab w=>
   Q0 a true w (fun w J=>J ab w) fun m w=>
   Q0 m true w (fieldAddr P T.b (.pointer (some q)) 5) fun ak w=>
   Q0 m true w (Q2 P T.v ak) fun ai w=>
   Q0 a true w (pick P m ai (.bool false)) fun am w=>
   Q0 a true w (J8 P .not am) fun aj w=>
   pick P a aj (.bool false) w fun Y w=>
   K Y w) bl.sat ((hq.up an).up bl) ((g3.up an).up bl) fun w4 σ4 ch=>
  X1Q (K:=K) ch.sat (((hq.up an).up bl).up ch) (by rw[e];exact h _ _ (b0.trans (an.trans (bl.trans ch))))
 (repeat refine Hd.h ?_)
 refine ld bi hq rfl ?_
 refine Ye c.name c4 ?_
 cases d1:M6 c.name with
 | false=>(repeat refine Hd.h ?_);exact ci false (by rw[d1];rfl)
 | true=>
  (repeat refine Hd.h ?_)
  refine ld bi hq rfl ?_
  (repeat refine Hd.h ?_)
  refine Ye c.super de ?_
  cases d2:M6 c.super with
  | false=>(repeat refine Hd.h ?_);exact ci false (by rw[d1,d2];rfl)
  | true=>
   (repeat refine Hd.h ?_)
   refine ld bi hq rfl ?_
   (repeat refine Hd.h ?_)
   refine ld bi hq rfl ?_
   (repeat refine Hd.h ?_)
   refine Jf ?_
   (repeat refine Hd.h ?_)
   exact ci _ (by rw[d1,d2];rfl))
theorem Q3X {c:Cla} {cs:List Value} (s:X3 w σ) (e:V0 σ c cs) (h: ∀w' m,Stp w σ w' m→K (I (D7 c)) w'):Q1 P F.bq [.agg cs.toArray] w K:=Pw (by
 unfold Ly
 have g:=Rep.one (R:=V0) e
 obtain ⟨o,l,mv,rfl,r,p,n,k,t⟩:=e
 have e:V0 σ c _:=⟨o,l,mv,rfl,r,p,n,k,t⟩
 refine Z0 s fun q w1 σ1 a f=>?_
 unfold D7 at h
 refine Y4 a.sat f rfl ?_
 refine X0p a.sat (RCl_lift e ⟨a.le⟩) fun u z b=>?_
 cases j:Zv c with
 | true=>simp only[j,if_true] at h;(try simp only[↓M1,M1,Mb,reduceIte]);exact h _ _ (a.trans b)
 | false=>
  simp only[j,Bool.false_eq_true,if_false] at h
  (try simp only[↓M1,M1,Mb,reduceIte])
  refine Y4 b.sat (f.up b) rfl ?_
  refine Q8R b.sat (RCl_lift e ⟨(a.trans b).le⟩) fun v y d=>?_
  rw[X0E]
  cases i:Lx c with
  | true=>simp only[i,if_true] at h;(try simp only[↓M1,M1,Mb,reduceIte]);exact h _ _ (a.trans (b.trans d))
  | false=>simp only[i,Bool.false_eq_true,if_false] at h;(try simp only[↓M1,M1,Mb,reduceIte]);exact h _ _ (a.trans (b.trans d)))
end Go.Proofs.YtjdiakhipmggjaaGreatDoor
