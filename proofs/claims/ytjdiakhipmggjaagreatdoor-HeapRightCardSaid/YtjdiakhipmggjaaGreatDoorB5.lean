/- Parts of a proof about the given program: its functions as texts of their own, what each computes, plain laws of that. The conditions of each stand in its statement. -/
import Derived.Test.YtjdiakhipmggjaaGreatDoorB4
import Derived.Laws.OwnMore
import Derived.Laws.CopyRow
import Derived.Test.YtjdiakhipmggjaaGreatDoorB3
import Derived.Lib.TrimUEq
set_option linter.unnecessarySimpa false
set_option linter.defProp false
set_option linter.unusedSectionVars false
set_option linter.unusedVariables false
set_option linter.unusedSimpArgs false
namespace Go.Proofs.YtjdiakhipmggjaaGreatDoor
open Go.Emb Go.RowKit Go.Kd Go.Hm
variable {w w' : World} {K : Value → World → Prop} {σ σ' : Q5} {hp tv : Value} {room : Int} {cs : List Cel} {l : List Cla}
theorem Q9O (j:X2 w σ) (i:Glb σ) (hh:R9 σ hp tv room cs) (p:Tab σ tv l) (ok:Ok l) {v:Val} {k:X0} (u:v.s.length≤U0) (m:k.length≤U0) (h: ∀w' σ',Stp w σ w' σ'→K (.bool (B4 W6 l cs v k)) w'):Q1 P F.aA [hp, .agg [I v.sort,I v.n,S v.s,I v.ref].toArray,S k] w K:=Q0Y (by
 unfold Em
 refine Y9 j fun q w1 σ1 c t=>?_
 refine Y4 c.sat t rfl ?_
 refine X45 c.sat (i.lift ⟨c.le⟩) (hh.lift ⟨c.le⟩) u fun C z g=>?_
 have b:=c.trans g
 refine Vz ?_
 unfold B4 at h
 have d:=X2j hh v
 generalize P1 W6 cs v=o at*
 by_cases e:o=[]
 ·rw[decide_eq_true e] at h⊢
  (try simp only[↓M1,M1,Mb,reduceIte])
  exact h _ _ b
 ·rw[decide_eq_false e] at h⊢
  obtain ⟨a,B,rfl,r,y⟩:=hh
  (try simp only[↓M1,M1,Mb,reduceIte])
  refine ld b.sat (r.lift ⟨b.le⟩) rfl ?_
  refine X3S b.sat (p.lift ⟨b.le⟩) ok d m fun D A f=>?_
  (try simp only[↓M1,M1,Mb,reduceIte])
  exact h _ _ (b.trans f))
theorem Q9q (u:X2 w σ) (hh:R9 σ hp tv room cs) (B:Tab σ tv l) (ok:Ok l) {k:X0} {o:Value} {i:Nat} (v:k.length≤U0) (J:o.cells= #[o]∧o.oneCell'=true) (n:elem k=[]→i<(Y6 l k).length)
 (h: ∀w' σ',Stp w σ w' σ'→K (S (Xd l k i)) w'):Q1 P F.aB [hp, .agg [S k,o].toArray,I i] w K:=Q1d (by
 unfold Dy
 refine Y9 u fun q w1 σ1 c s=>?_
 (try simp only[↓M1,M1,Mb,reduceIte])
 refine X7 c.sat s rfl ?_
 refine Q5b k (Nat.le_trans v (by decide)) fun O p=>?_
 have d:=Stp.of_below c.sat p
 have b:=c.trans d
 refine Vz ?_
 unfold Xd at h
 by_cases e:elem k=[]
 ·simp only[if_pos e] at h
  rw[decide_eq_true e]
  (try simp only[↓M1,M1,Mb,reduceIte])
  obtain ⟨a,N,rfl,C,H⟩:=hh
  have r:=d.sat
  have z:=s.up d
  have y:=C.lift ⟨b.le⟩
  refine U2 r ?_
  (repeat refine J5 Qd ?_)
  (intros;(repeat (rename_i t;subst t));(try simp only[↓M2,M2,Mb,reduceIte]))
  rename_i Q g
  have f:=b.trans g.stp
  refine Ic g.sat (B.lift ⟨f.le⟩) ok.acy ok.len ok.sm fun E M L j m=>?_
  refine Y3 m (n e) ?_
  obtain ⟨A,_⟩:=m.elF (n e)
  (try simp only[↓M1,M1,Mb,reduceIte])
  refine ld j.sat A rfl ?_
  have D:(Y6 l k).getD i Fld.zero=(Y6 l k)[i]'(n e):=by rw[List.getD_eq_getElem?_getD,List.getElem?_eq_getElem (n e)];rfl
  rw[D] at h
  exact h _ _ (f.trans j)
 ·simp only[if_neg e] at h
  rw[decide_eq_false e]
  (try simp only[↓M1,M1,Mb,reduceIte])
  exact h _ _ b)
set_option maxHeartbeats 1000000 in
theorem Q4y {w1:World} {q:Addr} {c:Cel} {vv:Value} (hk1:Stp w σ w1 σ') (hg:Glb σ) (hh:R9 σ hp tv room cs) (ht:Tab σ tv l) (ok:Ok l) (hq:Z4 σ' q [S c.kind,vv]) (hv1:Sl 4 M5 σ' vv c.vals) (hkl:c.kind.length≤U0) (hfk: ∀i,(Xd l c.kind i).length≤U0) (good:GoodC W6 l cs c) (h: ∀w' σ',Stp w σ w' σ'→K (.bool true) w'):
 lp (α:=Value) (.int .i64 0) w1 fun again6 x6 d_ w=>
  Q3 P .lss T.e (.tmp 38) (.tmp 37) x6 (I c.vals.length) w fun t39 w=>
  X1 t39 (
   indexAddr P T.l vv x6 w fun t41 w=>
   Q2 P T.g t41 w fun t42 w=>
   V9 P T.g w fun v_v_6 w=>
   Y0 P T.g v_v_6 t42 w fun _u w=>
   dr w fun Tr Br=>
   Q6 Tr (fun φ44=> ∀w,Br w→Q2 P T.g v_v_6 w (dk Tr φ44 w)) fun φ44=>
   Q6 Tr (fun φ46=> ∀w,Br w→Q2 P T.m (.pointer (some q)) w (dk Tr φ46 w)) fun φ46=>
   Q6 Tr (fun φ48=> ∀t46 w,Br w→φ46 t46 w→Q1 P F.aB [hp,t46,x6] w (dk Tr φ48 w)) fun φ48=>
   ∀t44 t46 t48 w,Br w→φ44 t44 w→φ46 t46 w→φ48 t48 w→
   Q1 P F.aA [hp,t44,t48] w fun t49 w=>
   J6 P .not t49 w fun t50 w=>
   X1 t50 (
    K (.bool false) w) (
    Q3 P .add T.e (.tmp 38) (.const (.int .i64 1)) x6 (.int .i64 1) w fun t51 w=>
    again6 t51 w)) (
   dr w fun Tr Br=>
   Q6 Tr (fun φ53=> ∀w,Br w→nilCheck P hp w (dk Tr φ53 w)) fun φ53=>
   Q6 Tr (fun φ54=> ∀t53 w,Br w→φ53 t53 w→fieldAddr P T.p t53 0 w (dk Tr φ54 w)) fun φ54=>
   Q6 Tr (fun φ56=> ∀w,Br w→fieldAddr P T.m (.pointer (some q)) 0 w (dk Tr φ56 w)) fun φ56=>
   Q6 Tr (fun φ55=> ∀t54 w,Br w→φ54 t54 w→Q2 P T.r t54 w (dk Tr φ55 w)) fun φ55=>
   Q6 Tr (fun φ57=> ∀t56 w,Br w→φ56 t56 w→Q2 P T.c t56 w (dk Tr φ57 w)) fun φ57=>
   ∀t53 t54 t56 t55 t57 w,Br w→φ53 t53 w→φ54 t54 w→φ56 t56 w→φ55 t55 w→φ57 t57 w→
   Q1 P F.s [t55,t57] w fun t58 w=>
   K t58 w):=by
 have hone:vv.cells= #[vv]∧vv.oneCell'=true:=by obtain ⟨a,c,rfl,_⟩:=hv1;exact ⟨rfl,rfl⟩
 refine U1 c.vals.length (fun n w'=> ∃σ2,Stp w σ w' σ2∧SLe σ' σ2) ⟨σ',hk1,SLe.refl _⟩ fun n w2 d hn hinv=>?_
 obtain ⟨σ2,hS2,le2⟩:=hinv
 have hv2:=hv1.lift le2
 have hq2:=hq.lift le2
 have hh2:=hh.lift ⟨hS2.le⟩
 have ht2:=ht.lift ⟨hS2.le⟩
 refine Z0 ?_
 refine Q7 (fun hc=>?_) (fun hc=>?_)
 ·have hn':n<c.vals.length:=by simpa using hc
  obtain ⟨p1,r1⟩:=Sl.elV hv2 hn'
  refine Y3 hv2 hn' ?_
  refine Y4 hS2.sat p1 rfl ?_
  refine Y7 hS2.sat (by rfl) rfl (Rep.one r1) fun q3 w3 σ3 hk3 hq3=>?_
  have hS3:=hS2.trans hk3
  have hs3:=hk3.sat
  have hq23:=hq2.up hk3
  have hh3:=hh2.lift ⟨hk3.le⟩
  have ht3:=ht2.lift ⟨hk3.le⟩
  have hif:elem c.kind=[]→n<(Y6 l c.kind).length:=fun e=>by
   rcases good.is with h | h
   ·exact absurd e h
   ·rw[←h.2];exact hn'
  refine U2 hs3 ?_
  (repeat (apply J5;(· intros;(repeat (rename_i hx;subst hx));(repeat' (first | (with_reducible exact O8 rfl) | (with_reducible exact S7 (Stp.bel (by (repeat (first | exact Stp.refl (by (first | assumption | exact Stp.sat (by assumption) | exact Hst.sat (by assumption))) | assumption | refine Stp.trans ?_ (by first | assumption | exact Hst.stp (by assumption)))))) rfl) | (with_reducible intro _) | (simp only[↓M2,M2,Mb,reduceIte]) | (with_reducible show Q2 _ _ _ _ _;first | refine X7 aS aL aR ?_ | refine Y4 aS aL aR ?_ | refine ld aS aL aR ?_) | (with_reducible show indexAddr _ _ _ _ _ _;refine Y3 aL au ?_) | (with_reducible show X3 _ _ _ _ _ _ _ _;refine Q8 aL ?_) | (with_reducible show F2 _ _ _ _ _ _;refine J0 aR ?_) | (with_reducible show pick _ _ _ _ _ _;refine M9 ?_) | (with_reducible show Q1 _ _ _ _ _;first | refine Q9q au au au au au au au ?_) | (apply I1;intro hh;(try simp only[hh,reduceIte,↓M2,M2,Mb,reduceIte]))));done)))
  (intros;(repeat (rename_i hx;subst hx));(try simp only[↓M2,M2,Mb,reduceIte]))
  rename_i w4 hb4
  have hS4:=hS3.trans hb4.stp
  refine Q9O hb4.sat (hg.lift ⟨hS4.le⟩) (hh.lift ⟨hS4.le⟩) (ht.lift ⟨hS4.le⟩) ok r1.2.2.2.1 (hfk n) fun w5 σ5 hk5=>?_
  rw[good.fits n hn']
  (try simp only[↓M1,M1,Mb,reduceIte])
  exact Y5 hv1.max hn' ⟨σ5,hS4.trans hk5,le2.more ⟨(hk3.trans (hb4.stp.trans hk5)).le⟩⟩
 ·obtain ⟨a,lv,rfl,la,ls⟩:=hh2
  have hs2:=hS2.sat
  refine U2 hs2 ?_
  (repeat refine J5 Qd ?_)
  (intros;(repeat (rename_i hx;subst hx));(try simp only[↓M2,M2,Mb,reduceIte]))
  rename_i w3 hb3
  refine Q0W hb3.sat ht2 hkl fun w4 σ4 hk4=>?_
  rw[good.kd]
  exact h _ _ ((hS2.trans hb3.stp).trans hk4)
set_option maxHeartbeats 1000000 in
theorem X0w (hs:X2 w σ) (hg:Glb σ) (hh:R9 σ hp tv room cs) (ht:Tab σ tv l) (ok:Ok l) {c:Cel} {ds:List Value} (hc:R0 σ c ds) (hfk: ∀i,(Xd l c.kind i).length≤U0) (good:GoodC W6 l cs c) (h: ∀w' σ',Stp w σ w' σ'→K (.bool true) w'):Q1 P F.bD [hp, .agg ds.toArray] w K:=Q04 (by
 obtain ⟨vv,rfl,hvv,hkl⟩:=hc
 have hone:vv.cells= #[vv]∧vv.oneCell'=true:=by obtain ⟨a,c,rfl,_⟩:=hvv;exact ⟨rfl,rfl⟩
 have hh0:=hh
 obtain ⟨a,lv,rfl,la,ls⟩:=hh
 unfold Oa
 refine Y9 hs fun q w1 σ1 hk1 hq=>?_
 have hs1:=hk1.sat
 have la1:=la.lift ⟨hk1.le⟩
 have ht1:=ht.lift ⟨hk1.le⟩
 have hv1:=hvv.up hk1
 have hkl':c.kind.length≤140737488355328:=Nat.le_trans hkl (by decide)
 have acy:=ok.acy
 have olen:=ok.len
 have osm:=ok.sm
 refine U2 hs1 ?_
 (repeat (apply J5;(· intros;(repeat (rename_i hx;subst hx));(repeat' (first | (with_reducible exact O8 rfl) | (with_reducible exact S7 (Stp.bel (by (repeat (first | exact Stp.refl (by (first | assumption | exact Stp.sat (by assumption) | exact Hst.sat (by assumption))) | assumption | refine Stp.trans ?_ (by first | assumption | exact Hst.stp (by assumption)))))) rfl) | (with_reducible intro _) | (simp only[↓M2,M2,Mb,reduceIte]) | (with_reducible show Q2 _ _ _ _ _;first | refine X7 aS aL aR ?_ | refine Y4 aS aL aR ?_ | refine ld aS aL aR ?_) | (with_reducible show indexAddr _ _ _ _ _ _;refine Y3 aL au ?_) | (with_reducible show X3 _ _ _ _ _ _ _ _;refine Q8 aL ?_) | (with_reducible show F2 _ _ _ _ _ _;refine J0 aR ?_) | (with_reducible show pick _ _ _ _ _ _;refine M9 ?_) | (with_reducible show Q1 _ _ _ _ _;first | refine Q5b _ au (W9 aS ?_)) | (apply I1;intro hh;(try simp only[hh,reduceIte,↓M2,M2,Mb,reduceIte]))));done)))
 by_cases e:elem c.kind=[]
 ·have hd:decide (elem c.kind=[])=true:=decide_eq_true e
  obtain ⟨hobj,hlen⟩:P3 l c.kind=true∧c.vals.length=(Y6 l c.kind).length:=by
   rcases good.is with h | h
   ·exact absurd e h
   ·exact h
  simp only[hd,reduceIte]
  (repeat (apply J5;(· intros;(repeat (rename_i hx;subst hx));(repeat' (first | (with_reducible exact O8 rfl) | (with_reducible exact S7 (Stp.bel (by (repeat (first | exact Stp.refl (by (first | assumption | exact Stp.sat (by assumption) | exact Hst.sat (by assumption))) | assumption | refine Stp.trans ?_ (by first | assumption | exact Hst.stp (by assumption)))))) rfl) | (with_reducible intro _) | (simp only[↓M2,M2,Mb,reduceIte]) | (with_reducible show Q2 _ _ _ _ _;first | refine X7 aS aL aR ?_ | refine Y4 aS aL aR ?_ | refine ld aS aL aR ?_) | (with_reducible show indexAddr _ _ _ _ _ _;refine Y3 aL au ?_) | (with_reducible show X3 _ _ _ _ _ _ _ _;refine Q8 aL ?_) | (with_reducible show F2 _ _ _ _ _ _;refine J0 aR ?_) | (with_reducible show pick _ _ _ _ _ _;refine M9 ?_) | (with_reducible show Q1 _ _ _ _ _;first | refine Q4b au au ?_) | (apply I1;intro hh;(try simp only[hh,reduceIte,↓M2,M2,Mb,reduceIte]))));done)))
  simp only[hobj,Bool.not_true,reduceIte]
  (repeat refine J5 Qd ?_)
  refine Wb (w:=w1) (σ:=σ1) (Φ:=fun σ' v=>Sl 3 R7 σ' v (Y6 l c.kind)) (fun t20 t27 t29 w hb e1 e2 e3=>?_) ?_
  ·subst e1;subst e2;subst e3
   simp only[↓M2,M2,Mb,reduceIte]
   exact Ic hb.sat ht1 acy olen osm fun v' w' σ' hk hv'=>Sv hb hk hv'
  refine J5 (V:=I (Y6 l c.kind).length) (fun t20 t30 w hb e1 e2=>?_) ?_
  ·subst e1
   obtain ⟨σ',hk,hv'⟩:=e2
   simp only[↓M2,M2,Mb,reduceIte]
   exact Q8 hv' (O8 rfl)
  rintro t7 t8 t9 t10 t12 t13 t14 t16 t15 t17 t18 t19 t20 t21 t24 t25 t26 t28 t22 t23 t27 t29 t30 t31 w2 hb2 rfl rfl rfl rfl rfl rfl rfl rfl rfl rfl rfl rfl rfl rfl rfl rfl rfl rfl rfl rfl rfl rfl _ rfl
  rw[hlen]
  simp only[O6,E1,S1,W5,W7]
  refine Jb ?_
  rw[decide_eq_true (show ((Y6 l c.kind).length:Int)=(Y6 l c.kind).length from rfl)]
  simp only[Bool.not_true,L1,M4,M3]
  refine W2 ?_
  refine ld hb2.sat hq rfl ?_
  refine Q8 hv1 ?_
  exact Q4y (hk1.trans hb2.stp) hg hh0 ht ok hq hv1 hkl hfk good h
 ·have hd:decide (elem c.kind=[])=false:=decide_eq_false e
  simp only[hd,Bool.false_eq_true,reduceIte]
  (repeat refine J5 Qd ?_)
  (intros;(repeat (rename_i hx;subst hx)))
  rename_i w2 hb2
  simp only[O6,E1,S1,W5,W7,L1,M4,M3]
  refine W2 ?_
  refine ld hb2.sat hq rfl ?_
  refine Q8 hv1 ?_
  exact Q4y (hk1.trans hb2.stp) hg hh0 ht ok hq hv1 hkl hfk good h)
end Go.Proofs.YtjdiakhipmggjaaGreatDoor

namespace Go.Emb
open Go.RowKit Go.Hm
variable {P : Program} {w w0 w1 w' w'' : World} {K : Value → World → Prop} {σ σ0 σ1 σ' : Q5}
theorem Q4J (a:Array Value) (n i:Nat) (c:i<n) (f:0<a.size):((madeCells a (n*a.size)).toList.drop (i*a.size)).take a.size=a.toList:=by
 have e:i*a.size+a.size≤n*a.size:=by rw[←Nat.succ_mul];exact Nat.mul_le_mul_right _ c
 refine List.ext_getElem (by simp[madeCells];omega) fun j g d=>?_
 have b:j<a.size:=by simpa using d
 simp only[List.getElem_take,List.getElem_drop,madeCells,Array.toList_map,List.getElem_map,Array.toList_range,List.getElem_range,Array.getElem_toList]
 have:(i*a.size+j) % a.size=j:=by rw[Nat.add_comm,Nat.add_mul_mod_self_right];exact Nat.mod_eq_of_lt b
 rw[this]
 simp[b]
theorem Q96 {α:Type} {R:Q5→α→List Value→Prop} {t e:TypeId} {sz b n:Nat} {z:Value} [ts:TS P t e] [tz:TZ P e sz b z] (x0:α) (s:X2 w σ) (B:z.cells.size=sz) (c:0<sz) (y:R σ x0 z.cells.toList) (C:n*sz≤16777216) (D:b*n≤281474976710656)
 (h: ∀v w',Stp w σ w' σ→V5 w.heap.size e sz R σ w' v (List.replicate n x0)→(∀k,v.ownBlock=some k→w.heap.size≤k)→K v w'):Ww P t (I n) (I n) w K:=by
 obtain ⟨i,u,d,p,a⟩:=tz.info
 have q:(i.bytes:Int)*(n:Int)≤281474976710656:=by
  rw[p]
  have:((b*n:Nat):Int)≤281474976710656:=by omega
  rwa [Int.natCast_mul] at this
 have A:n≤16777216:=by
  have:n*1≤n*sz:=Nat.mul_le_mul_left _ c
  omega
 have m:=run_makeSlice (P:=P) w t e i z ts.h u a .i64 .i64 (n:Int) (n:Int) (by omega) (Int.le_refl _) (by rw[d];simp only[Int.toNat_natCast];omega) q (by omega)
 unfold Ww
 rw[X9 m]
 simp only[Int.toNat_natCast,d]
 refine h _ _ (Stp.own s _) ⟨(madeCells z.cells (n*sz)).toList,⟨by simp[madeCells], .inr ⟨w.heap.size,n,madeCells z.cells (n*sz),?_,Nat.le_refl _,heap_alloc_new w _,?_,?_,?_,?_⟩⟩,?_,fun j x f=>?_⟩ ?_
 ·simp
 ·simp
 ·simp[maxLen];omega
 ·simp[madeCells]
 ·rw[List.take_of_length_le (by simp[madeCells])]
 ·intro k g;cases g;exact s.none (Nat.le_refl _)
 ·have r:j<n:=by have:=(List.getElem?_eq_some_iff.1 f).1;simpa using this
  have o:x=x0:=by
   rw[List.getElem?_replicate] at f
   rw[if_pos r] at f
   exact (Option.some.inj f).symm
  subst o
  subst B
  rw[Q4J z.cells n j r c]
  exact y
 ·intro k g;cases g;exact Nat.le_refl _
theorem Q4O (w:World) (p z y elem:TypeId) (sz g o n d:Nat) (a:Addr) (c:Nat) (b:Array Value) (t:TypeId) (cs:List Value)
 (A:P.underlying p=some (.slice elem)) (m:(P.info? elem).map (·.size)=some sz)
 (q:w.heap[g]? =some (.cells b t (0,0))) (u:cs.length=n*sz)
 (f: ∀j v,cs[j]? =some v→w.cell? (a.add j)=some v) (e:o+cs.length≤b.size) (r: ∀v∈cs,v.oneCell'=true):
 (Builtin.copy_ #[p,z] y #[.slice (some ⟨g,o,none⟩) n d, .slice (some a) n c]).run P w=
  .ok (goInt n) (w.setRow g (b.toList.take o++cs++b.toList.drop (o+cs.length)).toArray):=by
 have B:=run_loadCells_list (P:=P) w a cs f
 have h:=run_storeCells_at P g o t cs 0 b w q (by simpa using e) r
 cases k:P.info? elem with
 | none=>simp[k] at m
 | some i=>
  have s:i.size=sz:=by simpa [k] using m
  simp[Builtin.copy_,run_underlying A,Builtin.lenOf,Builtin.firstCells,sizeOf,typeInfo,k,s,←u,B,h]
theorem Q4P (w:World) (f g j elem:TypeId) (sz:Nat) (d a:Option Addr) (c b:Nat) (h:P.underlying f=some (.slice elem)) (k:(P.info? elem).map (·.size)=some sz):
 (Builtin.copy_ #[f,g] j #[.slice d 0 c, .slice a 0 b]).run P w= .ok (goInt 0) w:=by
 cases e:P.info? elem with
 | none=>simp[e] at k
 | some i=>
  have m: ∀(x:Addr),(loadCells x 0).run P w= .ok #[] w:=fun x=>by simpa using run_loadCells_list (P:=P) w x [] (by simp)
  cases d<;>cases a<;>simp[Builtin.copy_,run_underlying h,Builtin.lenOf,Builtin.firstCells,sizeOf,typeInfo,e,storeCells,m]
end Go.Emb
namespace Go.Proofs.YtjdiakhipmggjaaGreatDoor
open Go.Emb Go.RowKit Go.Kd Go.Hm
variable {w w' : World} {K : Value → World → Prop} {σ σ' : Q5} {hp tv : Value} {room : Int} {cs : List Cel} {l : List Cla}
theorem Ia (ok:Ok l) {k:X0} (d:k.length≤U0) (i:Nat):(Xd l k i).length≤U0:=by
 unfold Xd
 split
 ·cases h:(Y6 l k)[i]? with
  | none=>rw[List.getD_eq_getElem?_getD,h];exact Nat.zero_le _
  | some f=>
   rw[List.getD_eq_getElem?_getD,h]
   have a:=List.mem_of_getElem? h
   unfold Y6 at a
   obtain ⟨c,b,a⟩:=List.mem_flatMap.1 a
   have:=((ok.nm c (Cr (by simpa using b))).2.1 f a).2
   exact Nat.le_trans this (by decide)
 ·unfold elem
  split
  ·unfold Kd.cutA;rw[List.length_take];omega
  ·exact Nat.zero_le _
theorem Q7A (v:X2 w σ) (u:Glb σ) (hh:R9 σ hp tv room cs) (z:Tab σ tv l) (ok:Ok l) (g: ∀c∈cs,GoodC W6 l cs c) (h: ∀w' σ',Stp w σ w' σ'→K (.bool true) w'):Q1 P F.aP [hp] w K:=Aa (by
 unfold Oj
 have o:=hh
 obtain ⟨a,J,rfl,A,y⟩:=hh
 refine U5 v rfl fun q w1 σ1 b s=>?_
 refine X7 b.sat s rfl ?_
 rw[L7,fa]
 refine ld b.sat (A.lift ⟨b.le⟩) rfl ?_
 rw[Qa]
 refine Ck (fun _=>false) b.sat (y.up b) (fun c ds D K B n r f t=>Z7 (first:=[]) (caps:=[.pointer (some q)]) (Fx ?_)) fun D m=>?_
 ·unfold Lm
  refine Y9 n fun L M C d p=>?_
  refine X7 d.sat (s.up d) rfl ?_
  refine Y4 d.sat p f ?_
  have e:SLe σ C:=SLe.more ⟨b.le⟩ ⟨d.le⟩
  refine X0w d.sat (u.lift e) (o.lift e) (z.lift e) ok (Q9x r ⟨d.le⟩) (fun i=>Ia ok (by obtain ⟨_,_,_,h⟩:=r;exact h) i) (g c B) fun H E k=>?_
  refine Wa ?_
  exact t _ (d.trans k).bel
 ·have j:=b.trans (Stp.of_below b.sat m)
  have:cs.any (fun _=>false)=false:=by simp
  rw[this]
  refine Wa ?_
  exact h _ _ j)
theorem Q9g {B:Nat} {D:Nat→Prop} {m v:Value} {vals:List Val} {k:X0} {ty:TypeId} {cb:List Bool} {A:Value→Value→World→Prop} (hs:X2 w σ) (hB:B≤w.heap.size) (h:RowsIs B D σ w m cs) (O:J8 B T.g 4 M5 σ w v vals) (hd: ∀j,v.ownBlock=some j→ ¬D j) (hk:k.length≤U0) (hl:cs.length≤10000000)
 (hh: ∀s d w' σ' D',Nxt (fun j=>m.ownBlock=some j) w σ w' σ'→(∀j,m.ownBlock=some j→D j)→RowsIs B D' σ' w' d (cs++[⟨k,vals⟩])→(∀j,D' j→D j∨v.ownBlock=some j∨w.heap.size≤j)→(∀j,D j→m.ownBlock≠some j→D' j)→A s d w'):
 buildSlice P T.f 1 [(0, .agg #[S k,v])] w (fun s w=>X3 P .append [T.f,T.f] ty cb [m,s] w (fun v' w=>A s v' w)):=by
 obtain ⟨vs,hq,n,ha,hD⟩:=h.ex
 obtain ⟨a,M,z,_⟩:=(id O:J8 B T.g 4 M5 σ w v vals)
 have ag:v.cells= #[v]:=by rw[z];rfl
 refine T4 (R:=Q3Q) (sz:=2) hs [.agg #[S k,v]] [(k,v)] rfl rfl (by simp[Value.cells]) rfl ⟨(⟨rfl,hk,a,_,M,z⟩:Q3Q σ (k,v) [S k,v]),trivial⟩ fun s w1 σ1 c W=>?_
 refine Q7M c.sat (Nat.le_trans hB c.bel.size) (hq.up c) W rfl (by rw[Dj n.1];simp;omega) (by rw[Dj n.1];simp;omega) fun d H L Y V J=>?_
 have g: ∀j,m.ownBlock=some j→D j:=fun j b=>(hD j).2 ⟨m,by simp,b⟩
 have Q:Nxt (fun j=>m.ownBlock=some j) w σ H σ1:=
  ⟨(Kpt.of_below c.bel).trans (L.mono fun j _ b=>b.1),⟨c.le⟩,c.old,Y⟩
 have t: ∀j,v.ownBlock=some j→m.ownBlock≠some j:=fun j b e=>hd j b (g j e)
 have f: ∀j,d.ownBlock=some j→m.ownBlock=some j∨w1.heap.size≤j:=fun j b=>by
  rcases J with ⟨a',ac,e1,e2⟩ | ⟨_,hn⟩
  ·left;rw[e1];rw[e2] at b;cases a'<;>exact b
  ·exact .inr (hn j b)
 obtain ⟨C,N⟩:=List.pairwise_cons.1 ha
 have y: ∀i (p:i<vs.length) (r:i<cs.length),J8 B T.g 4 M5 σ1 H vs[i] cs[i].vals:=fun i p r=>(n.2 i p r).nx Q fun j b e=>C _ (List.getElem_mem p) j e b
 have Z:J8 B T.g 4 M5 σ1 H v vals:=O.nx Q fun j b e=>t j b e
 have U: ∀u∈vs,∀j,u.ownBlock=some j→j<w.heap.size:=fun u hu j b=>by
  obtain ⟨i,p,rfl⟩:=List.getElem_of_mem hu
  exact ((n.2 i p (by rw[←n.1];exact p)).mem b).2.1
 refine hh s d H σ1 (fun j=> ∃u∈d::(vs++[v]),u.ownBlock=some j) Q g ⟨vs++[v],?_,⟨by simp[n.1],fun i p r=>?_⟩,?_,fun j=>Iff.rfl⟩ ?_ ?_
 ·have e:Qs (vs++[v]) (cs++[⟨k,vals⟩])=Qs vs cs++[(k,v)]:=by
   unfold Qs
   rw[List.zipWith_append n.1];rfl
  rw[e];exact V
 ·by_cases o:i<vs.length
  ·have q:i<cs.length:=by rw[←n.1];exact o
   rw[List.getElem_append_left o,List.getElem_append_left q]
   exact y i o q
  ·have q: ¬i<cs.length:=by rw[←n.1];exact o
   have e1:i=vs.length:=by simp at p;omega
   rw[List.getElem_append_right (by omega),List.getElem_append_right (by omega)]
   simp only[List.getElem_singleton]
   exact Z
 ·refine List.pairwise_cons.2 ⟨fun u hu j b e=>?_,List.pairwise_append.2 ⟨N,List.pairwise_singleton _ _,fun u hu u2 E j b e=>?_⟩⟩
  ·rcases List.mem_append.1 hu with hu | hu
   ·rcases f j b with h1 | h1
    ·exact C u hu j h1 e
    ·have:=U u hu j e;have:=c.bel.size;omega
   ·simp at hu;subst hu
    rcases f j b with h1 | h1
    ·exact t j e h1
    ·have:=(O.mem e).2.1;have:=c.bel.size;omega
  ·simp at E;subst E
   exact hd j e ((hD j).2 ⟨u,by simp[hu],b⟩)
 ·rintro j ⟨u,hu,b⟩
  rcases List.mem_cons.1 hu with rfl | hu
  ·rcases f j b with h1 | h1
   ·exact .inl (g j h1)
   ·right;right;have:=c.bel.size;omega
  ·rcases List.mem_append.1 hu with hu | hu
   ·exact .inl ((hD j).2 ⟨u,by simp[hu],b⟩)
   ·simp at hu;subst hu;exact .inr (.inl b)
 ·intro j b X
  obtain ⟨u,hu,b⟩:=(hD j).1 b
  rcases List.mem_cons.1 hu with rfl | hu
  ·exact absurd b X
  ·exact ⟨u,by simp[hu],b⟩
end Go.Proofs.YtjdiakhipmggjaaGreatDoor

namespace Go.Proofs.YtjdiakhipmggjaaGreatDoor
open Go.Emb Go.RowKit Go.Kd Go.Hm
variable {w : World} {K : Value → World → Prop} {σ : Q5}
end Go.Proofs.YtjdiakhipmggjaaGreatDoor

namespace Go.Proofs.YtjdiakhipmggjaaGreatDoor
open Go.Emb Go.RowKit Go.Kd Go.Hm
variable {w : World} {K : Value → World → Prop} {σ : Q5} {l : List Cla} {v : Value}
theorem I4 {n:X0} (q:X2 w σ) (o:Sl 8 V0 σ v l) (h:K (I (L5 (Z2 l n))) w):Q1 P F.b [v,S n] w K:=Tx (by
 unfold Dg
 refine U1 l.length (fun k w'=>w'=w∧ ∀j (g:j<l.length),j<k→ ¬l[j].name=n) ⟨rfl,fun j _ h=>by omega⟩ fun k w1 d y s=>?_
 obtain ⟨rfl,f⟩:=s
 refine Q8 o ?_
 refine Z0 ?_
 refine Q7 (fun i=>?_) (fun i=>?_)
 ·have a:k<l.length:=by simpa using i
  refine M7 o a fun p cells m u t=>?_
  obtain ⟨A,E,mv,rfl,z,B,C,H,D⟩:=t
  rw[fa]
  refine ld q m rfl ?_
  refine K0 ?_
  refine Q7 (fun b=>?_) (fun b=>?_)
  ·have b:l[k].name=n:=by simpa using b
   have:Z2 l n=some k:=by
    unfold Z2
    rw[List.findIdx?_eq_some_iff_getElem]
    exact ⟨a,by simpa using b,fun j g=>by simpa using f j (by omega) g⟩
   rw[this] at h
   exact h
  ·have b: ¬l[k].name=n:=by simpa using b
   refine N1 ?_
   refine Y5 o.max a ⟨rfl,fun j g r=>?_⟩
   by_cases e:j=k
   ·subst e;exact b
   ·exact f j g (by omega)
 ·have a: ¬k<l.length:=by simpa using i
  have:Z2 l n=none:=by
   unfold Z2
   rw[List.findIdx?_eq_none_iff]
   intro c i
   obtain ⟨j,g,rfl⟩:=List.getElem_of_mem i
   simpa using f j g (by omega)
  rw[this] at h
  exact h)
end Go.Proofs.YtjdiakhipmggjaaGreatDoor

namespace Go.Proofs.YtjdiakhipmggjaaGreatDoor
open Go.Emb Go.RowKit Go.Kd Go.Hm
variable {w : World} {K : Value → World → Prop} {σ : Q5} {l : List Cla} {v : Value}
theorem Q6l {a:X0} (d:a.length≤U0) (h:K (S (base a).1) w):Q1 P F.aZ [S a] w K:=To (by
 unfold Om
 have c:=Q1m a
 have b:a.length≤140737488355328:=by simp only[U0] at d;omega
 rw[R3 X8]
 refine Rw a b ?_
 (try simp only[↓Mr,Mr,Mb,reduceIte])
 rw[G3 (n:=2*((base a).2:Int)) (by omega) (by omega),G3 (by omega) (by omega),T0 X8 (by omega) (by omega)]
 rw[show ((a.length:Int)-2*((base a).2:Int)).toNat=a.length-2*(base a).2 from by omega,Q4g]
 exact h)
theorem Dt {s:X0} (g:X2 w σ) (f:Sl 8 V0 σ v l) (b:s.length≤U0) (h:K (.bool (N3 l s)) w):Q1 P F.a0 [v,S s] w K:=Q03 (by
 unfold Ob
 have c:s.length≤140737488355328:=by simp only[U0] at b;omega
 unfold N3 at h
 refine K0 ?_
 by_cases a:s=H8
 ·have:decide (s=[110,117,108,108])=true:=by rw[decide_eq_true_eq];exact a
  simp only[this,↓M1,M1,Mb,reduceIte]
  simp only[a,decide_true,Bool.true_or] at h
  exact h
 ·have:decide (s=[110,117,108,108])=false:=by rw[decide_eq_false_iff_not];exact a
  simp only[this,↓M1,M1,Mb,reduceIte]
  simp only[a,decide_false,Bool.false_or] at h
  refine Jy s c ?_
  cases d:right s with
  | false=>(try simp only[↓M1,M1,Mb,reduceIte]);simpa [d] using h
  | true=>
   (try simp only[↓M1,M1,Mb,reduceIte])
   refine Q6l b ?_
   (try simp only[↓M1,M1,Mb,reduceIte])
   refine Ec _ ?_
   simp only[d,Bool.true_and] at h
   cases e:plain (base s).1 with
   | true=>(try simp only[↓M1,M1,Mb,reduceIte]);simpa [e] using h
   | false=>
    (try simp only[↓M1,M1,Mb,reduceIte])
    refine Q6l b ?_
    (try simp only[↓M1,M1,Mb,reduceIte])
    refine I4 g f ?_
    refine K8 ?_
    rw[T7]
    (try simp only[↓M1,M1,Mb,reduceIte])
    simpa [e,Q0v] using h)
end Go.Proofs.YtjdiakhipmggjaaGreatDoor

namespace Go.Proofs.YtjdiakhipmggjaaGreatDoor
open Go.Emb Go.RowKit Go.Kd Go.Hm
variable {w : World} {K : Value → World → Prop} {σ : Q5} {l : List Cla} {v : Value}
theorem Q8Y {s:X0} (c:X2 w σ) (d:Sl 8 V0 σ v l) (b:s.length≤U0) (h:K (.bool (O7 l s)) w):Q1 P F.bv [v,S s] w K:=Km (by
 unfold Lz
 unfold O7 at h
 refine Vz ?_
 have e:decide (s=[110,117,108,108])=decide (s=H8):=rfl
 rw[e]
 cases a:decide (s=H8) with
 | true=>
  rw[a] at h
  (try simp only[↓M1,M1,Mb,reduceIte])
  exact h
 | false=>
  rw[a] at h
  (try simp only[↓M1,M1,Mb,reduceIte])
  refine Dt c d b ?_
  (try simp only[↓M1,M1,Mb,reduceIte])
  simpa using h)
end Go.Proofs.YtjdiakhipmggjaaGreatDoor

namespace Go.Proofs.YtjdiakhipmggjaaGreatDoor
open Go.Emb Go.RowKit Go.Kd Go.Hm
variable {w : World} {K : Value → World → Prop} {σ : Q5} {l : List Cla} {v : Value}
def Sx (c:Cla) (n:X0):Option Nat:=c.methods.findIdx? fun m=>decide (m.name=n)
theorem Q7r {c:Cla} {cs:List Value} {n:X0} (y:X2 w σ) (o:V0 σ c cs) (h: ∀w' B,Stp w σ w' B→K (I (L5 (Sx c n))) w'):Q1 P F.b4 [.agg cs.toArray,S n] w K:=Q0P (by
 unfold Ep
 obtain ⟨Q,X,mv,rfl,L,R,r,Y,W⟩:=o
 refine Y9 y fun q w0 σ0 a t=>?_
 have r:=r.up a
 refine U1 c.methods.length (fun k w'=>w'=w0∧ ∀j (i:j<c.methods.length),j<k→ ¬c.methods[j].name=n) ⟨rfl,fun j _ h=>by omega⟩ fun k w1 d H A=>?_
 obtain ⟨rfl,g⟩:=A
 rw[fa]
 refine ld a.sat t rfl ?_
 refine Q8 r ?_
 refine Z0 ?_
 refine Q7 (fun o=>?_) (fun o=>?_)
 ·have b:k<c.methods.length:=by simpa using o
  rw[fa]
  refine ld a.sat t rfl ?_
  refine M7 r b fun p cells s D C=>?_
  obtain ⟨pv,M,N,rfl,U,J,V,O,E⟩:=C
  rw[fa]
  refine ld a.sat s rfl ?_
  refine K0 ?_
  refine Q7 (fun f=>?_) (fun f=>?_)
  ·have f:c.methods[k].name=n:=by simpa using f
   have:Sx c n=some k:=by
    unfold Sx
    rw[List.findIdx?_eq_some_iff_getElem]
    exact ⟨b,by simpa using f,fun j i=>by simpa using g j (by omega) i⟩
   rw[this] at h
   exact h _ _ a
  ·have f: ¬c.methods[k].name=n:=by simpa using f
   refine N1 ?_
   refine Y5 r.max b ⟨rfl,fun j i z=>?_⟩
   by_cases e:j=k
   ·subst e;exact f
   ·exact g j i (by omega)
 ·have b: ¬k<c.methods.length:=by simpa using o
  have:Sx c n=none:=by
   unfold Sx
   rw[List.findIdx?_eq_none_iff]
   intro m u
   obtain ⟨j,i,rfl⟩:=List.getElem_of_mem u
   simpa using g j i (by omega)
  rw[this] at h
  exact h _ _ a)
end Go.Proofs.YtjdiakhipmggjaaGreatDoor

namespace Go.Proofs.YtjdiakhipmggjaaGreatDoor
open Go.Emb Go.RowKit Go.Kd Go.Hm
variable {w : World} {K : Value → World → Prop} {σ : Q5} {l : List Cla} {v : Value}
theorem Cz {n:X0} {d:Cla} (b:X2 w σ) (c:Sl 8 V0 σ v l) (f:lk l n=some d) (h: ∀i:Nat,l[i]? =some d→Z2 l n=some i→K (I i) w):Q1 P F.b [v,S n] w K:=by
 obtain ⟨_,_,i,a,e⟩:=V2 f
 refine I4 b c ?_
 rw[a];exact h i e a
theorem Q15 {n:X0} (b:X2 w σ) (d:Sl 8 V0 σ v l) (e:lk l n=none) (h:K (I (-1)) w):Q1 P F.b [v,S n] w K:=by
 refine I4 b d ?_
 cases f:Z2 l n with
 | none=>exact h
 | some i=>obtain ⟨c,a,_⟩:=Zg f;rw[e] at a;cases a
end Go.Proofs.YtjdiakhipmggjaaGreatDoor

namespace Go.Proofs.YtjdiakhipmggjaaGreatDoor
open Go.Emb Go.RowKit Go.Kd Go.Hm
variable {w : World} {K : Value → World → Prop} {σ : Q5} {l : List Cla} {v : Value}
theorem X0s:decide ((-1:Int)<0)=true:=by decide
theorem Q6d (i:Nat):decide ((i:Int)<0)=false:=by rw[decide_eq_false_iff_not];omega
theorem Q7V {c:Cla} {cs:List Value} (X:X2 w σ) (hl:Sl 8 V0 σ v l) (C:V0 σ c cs) (h: ∀w' σ',Stp w σ w' σ'→K (I (D2 l c)) w'):Q1 P F.bg [v, .agg cs.toArray] w K:=Gq (by
 unfold Lr
 obtain ⟨lv,fv,mv,rfl,z,f2,f3,f4,f5⟩:=C
 refine Y9 X fun q w0 σ0 o R=>?_
 have z:=z.up o
 have b:=hl.up o
 have a:=o.sat
 have t: ∀n:Nat,D2 l c=n→K (I n) w0:=fun n e=>by rw[←e];exact h _ _ o
 clear h
 (try simp only[↓M1,M1,Mb,reduceIte])
 refine ld a R rfl ?_
 have m:Qt l c.super=true→K (I (61:Nat)) w0:=fun e=>t 61 (by unfold D2;rw[if_pos e])
 cases J:lk l c.super with
 | none=>
  refine Q15 a b J ?_
  simp only[X0s,↓M1,M1,Mb,reduceIte]
  exact m (by unfold Qt;rw[J])
 | some d=>
  refine Cz a b J fun i Z hf=>?_
  obtain ⟨y,Q⟩:=List.getElem?_eq_some_iff.1 Z
  simp only[Q6d,↓M1,M1,Mb,reduceIte]
  refine Y3 b y ?_
  obtain ⟨af,aa,ag,O,r1⟩:=b.elC y
  rw[Q] at O
  (try simp only[↓M1,M1,Mb,reduceIte])
  refine ld a O rfl ?_
  have g:Qt l c.super=(d.iface||d.fin):=by unfold Qt;rw[J]
  cases A:d.iface with
  | true=>
   rw[A] at g
   (try simp only[↓M1,M1,Mb,reduceIte])
   exact m (by rw[g];rfl)
  | false=>
   rw[A] at g
   (try simp only[↓M1,M1,Mb,reduceIte])
   refine Y3 b y ?_
   (try simp only[↓M1,M1,Mb,reduceIte])
   refine ld a O rfl ?_
   cases D:d.fin with
   | true=>
    rw[D] at g
    (try simp only[↓M1,M1,Mb,reduceIte])
    exact m (by rw[g];rfl)
   | false=>
    rw[D] at g
    have H:Qt l c.super=false:=g
    (try simp only[↓M1,M1,Mb,reduceIte])
    refine U1 c.like.length (fun k w'=>w'=w0∧(c.like.take k).any (R2 l)=false) ⟨rfl,rfl⟩ fun k w1 d1 hk N=>?_
    obtain ⟨hw,s⟩:=N
    subst hw
    (try simp only[↓M1,M1,Mb,reduceIte])
    refine ld a R rfl ?_
    refine Q8 z ?_
    refine Z0 ?_
    refine Q7 (fun C=>?_) (fun C=>?_)
    ·have f:k<c.like.length:=by simpa using C
     have r:R2 l c.like[k]=true→K (I (62:Nat)) w1:=fun e=>t 62 (by
      unfold D2;rw[H,S5 f e];rfl)
     have u:R2 l c.like[k]=false→(c.like.take (k+1)).any (R2 l)=false:=fun e=>by rw[L2 f,s,e];rfl
     (try simp only[↓M1,M1,Mb,reduceIte])
     refine ld a R rfl ?_
     refine Y3 z f ?_
     obtain ⟨p2,_⟩:=z.elS f
     refine X7 a p2 rfl ?_
     cases L:lk l c.like[k] with
     | none=>
      refine Q15 a b L ?_
      simp only[X0s,↓M1,M1,Mb,reduceIte]
      exact r (by unfold R2;rw[L])
     | some e=>
      refine Cz a b L fun j W ae=>?_
      obtain ⟨B,M⟩:=List.getElem?_eq_some_iff.1 W
      simp only[Q6d,↓M1,M1,Mb,reduceIte]
      refine Y3 b B ?_
      obtain ⟨V,Y,ah,U,r3⟩:=b.elC B
      rw[M] at U
      (try simp only[↓M1,M1,Mb,reduceIte])
      refine ld a U rfl ?_
      have p:R2 l c.like[k]= !e.iface:=by unfold R2;rw[L]
      cases E:e.iface with
      | true=>
       rw[E] at p
       (try simp only[↓M1,M1,Mb,reduceIte])
       exact Y5 z.max f ⟨rfl,u p⟩
      | false=>
       rw[E] at p
       (try simp only[↓M1,M1,Mb,reduceIte])
       exact r p
    ·have f: ¬k<c.like.length:=by simpa using C
     rw[E2 f] at s
     exact t 0 (by unfold D2;rw[H,s];rfl))
end Go.Proofs.YtjdiakhipmggjaaGreatDoor

namespace Go.Proofs.YtjdiakhipmggjaaGreatDoor
open Go.Emb Go.RowKit Go.Kd Go.Hm
variable {w : World} {K : Value → World → Prop} {σ : Q5} {l : List Cla} {v : Value}
theorem Q72 {n:X0} (h:lk l n=none):Y6 l n=[]:=by unfold Y6;rw[Yj h];rfl
theorem Q6P (a:Jd l) {n:X0} {c:Cla} (h:lk l n=some c):Y6 l n=Y6 l c.super++c.fields:=by
 unfold Y6
 rw[T8 a,h]
 simp
theorem Q2N (a: ∀c∈l,Qh c) (n:X0):(Y6 l n).length≤(l.length+1)*1000000:=by
 unfold Y6
 have b:=Vp (fun c:Cla=>c.fields) 1000000 (chain l n).reverse fun c d=>(a c (Cr (by simpa using d))).2.1
 have e:=Bb l n
 rw[List.length_reverse] at b
 exact Nat.le_trans b (Nat.mul_le_mul_right _ e)
theorem Q25 {n:X0} (d:lk l n=none) (b:X2 w σ) (e:Sl 8 V0 σ v l) (h: ∀a w' c,Stp w σ w' c→Sl 3 R7 c a (Y6 l n)→K a w'):Q1 P F.k [v,S n] w K:=Wz (by
 unfold Xq
 refine Q15 b e d ?_
 simp only[X0s,↓M1,M1,Mb,reduceIte]
 exact h _ _ _ (Stp.refl b) (by rw[Q72 d];exact Sl.nil))
theorem Q6s (o:Jd l) (hl:l.length≤1000) (m: ∀c∈l,Qh c): ∀(k:Nat) {n:X0} {w:World} {σ:Q5} {K:Value→World→Prop},(lk l n=none∨K7 l n<k)→X2 w σ→Sl 8 V0 σ v l→
 (∀j w' g,Stp w σ w' g→Sl 3 R7 g j (Y6 l n)→K j w')→Q1 P F.k [v,S n] w K:=by
 intro k
 induction k with
 | zero=>
  intro n w σ K hk f b h
  rcases hk with hk | hk
  ·exact Q25 hk f b h
  ·omega
 | succ k ih=>
  intro n w σ K hk f b h
  cases a:lk l n with
  | none=>exact Q25 a f b h
  | some c=>
   have hk:K7 l n<k+1:=by
    rcases hk with hk | hk
    ·rw[a] at hk;cases hk
    ·exact hk
   refine Wz ?_
   unfold Xq
   refine Cz f b a fun i Z hf=>?_
   obtain ⟨A,C⟩:=List.getElem?_eq_some_iff.1 Z
   simp only[Q6d,↓M1,M1,Mb,reduceIte]
   obtain ⟨lv,fv,mv,p1,N⟩:=b.elC A
   rw[C] at p1 N
   obtain ⟨_,W,_,_,_⟩:=N.parts
   have z:lk l c.super=none∨K7 l c.super<k:=by
    cases hu:lk l c.super with
    | none=>exact .inl rfl
    | some d=>
     have:=Xw o a (u:=c.super) (by simp[U3]) hu
     right;omega
   have aj:=Q2N m c.super
   have U:=(m c (V2 a).2.1).2.1
   have O:(l.length+1)*1000000≤1001*1000000:=Nat.mul_le_mul_right _ (by omega)
   refine U2 f ?_
   (repeat refine J5 Qd ?_)
   refine Q2W (R:=R7) (by decide) ?_
   (repeat refine J5 Qd ?_)
   refine Wb (w:=w) (σ:=σ) (Φ:=fun g v=>Sl 3 R7 g v (Y6 l c.super)) (fun t w p e=>?_) ?_
   ·subst e;exact ih z p.sat b fun j w' g hk s=>Sv p hk s
   refine Q1v (w:=w) (σ:=σ) (R:=R7) (sz:=3) (e:=T.o) (Y6 l c.super) (fun D H w p r y=>?_) ?_
   ·obtain ⟨k1,a1,e1⟩:=r
    obtain ⟨σ2,X,Q⟩:=y
    exact Q79 k1 a1 e1 X.sat Q (fun _ _ h=>h) rfl (by omega) (by omega) fun j w' hk o=>Q2I p hk o
   (repeat refine J5 Qd ?_)
   rintro ad Y ab ak D ae H ai af w2 ac rfl rfl rfl rfl _ rfl _ ⟨J,L⟩ rfl
   refine Wi J L W rfl (by omega) (by omega) fun j w3 V q M _=>?_
   obtain ⟨σ4,E,B,_⟩:=M.keep q
   exact h _ _ _ E (by rw[Q6P o a];exact B)
theorem Ra {n:X0} (f:X2 w σ) (e:Sl 8 V0 σ v l) (i:Jd l) (g:l.length≤1000) (a: ∀c∈l,Qh c) (h: ∀b w' d,Stp w σ w' d→Sl 3 R7 d b (Y6 l n)→K b w'):Q1 P F.k [v,S n] w K:=
 Q6s i g a _ (.inr (Nat.lt_succ_self _)) f e h
theorem Q94 {n f:X0} (z:X2 w σ) (A:Sl 8 V0 σ v l) (J:Jd l) (L:l.length≤1000) (u: ∀c∈l,Qh c) (h: ∀w' E,Stp w σ w' E→K (I (L5 (Jk l n f))) w'):Q1 P F.bu [v,S n,S f] w K:=Iv (by
 unfold Nj
 refine Ra z A J L u fun N w1 σ1 r b=>?_
 have s: ∀o,Jk l n f=o→K (I (L5 o)) w1:=fun o e=>by rw[←e];exact h _ _ r
 unfold Jk at s
 generalize Y6 l n=p at b s
 refine U1 p.length (fun k w'=>w'=w1∧ ∀j (q:j<p.length),j<k→ ¬p[j].name=f) ⟨rfl,fun j _ h=>by omega⟩ fun k O d M C=>?_
 obtain ⟨H,i⟩:=C
 subst H
 refine Q8 b ?_
 refine Z0 ?_
 refine Q7 (fun t=>?_) (fun t=>?_)
 ·have a:k<p.length:=by simpa using t
  refine Y3 b a ?_
  obtain ⟨D,_⟩:=b.elF a
  (try simp only[↓M1,M1,Mb,reduceIte])
  refine ld r.sat D rfl ?_
  refine K0 ?_
  refine Q7 (fun g=>?_) (fun g=>?_)
  ·have g:p[k].name=f:=by simpa using g
   exact s (some k) (by
    rw[List.findIdx?_eq_some_iff_getElem]
    exact ⟨a,by simpa using g,fun j q=>by simpa using i j (by omega) q⟩)
  ·have g: ¬p[k].name=f:=by simpa using g
   (try simp only[↓M1,M1,Mb,reduceIte])
   refine Y5 b.max a ⟨rfl,fun j q B=>?_⟩
   by_cases e:j=k
   ·subst e;exact g
   ·exact i j q (by omega)
 ·have a: ¬k<p.length:=by simpa using t
  exact s none (by
   rw[List.findIdx?_eq_none_iff]
   intro m y
   obtain ⟨j,q,rfl⟩:=List.getElem_of_mem y
   simpa using i j q (by omega)))
end Go.Proofs.YtjdiakhipmggjaaGreatDoor

namespace Go.Emb
open Go.RowKit Go.Hm
variable {w w' : World} {σ σ' : Q5}
theorem Nxt.of_upd {b:Nat} (c:X2 w σ) (a:Upd w b w') (d:σ b=none):Nxt (fun j=>j=b) w σ w' σ:=
 ⟨Kpt.of_upd a rfl,SLe.refl _,fun _ _=>rfl,(Kpt.of_upd (D:=fun j=>j=b) a rfl).sat c fun k e=>e▸d⟩
theorem Nxt.chain {D E:Nat→Prop} {w1 c:World} {σ1 b:Q5} (h:Nxt D w σ w1 σ1) (k:Nxt E w1 σ1 c b) (f: ∀j,j<w.heap.size→E j→D j):Nxt D w σ c b:=
 ⟨⟨k.kp.os.trans h.kp.os,k.kp.tape.trans h.kp.tape,k.kp.output.trans h.kp.output,Nat.le_trans h.kp.size k.kp.size,fun j a d=>(k.kp.block j (Nat.lt_of_lt_of_le a h.kp.size) fun e=>d (f j a e)).trans (h.kp.block j a d)⟩,h.le.more k.le,fun j a=>(k.old j (Nat.lt_of_lt_of_le a h.kp.size)).trans (h.old j a),k.sat⟩
end Go.Emb
namespace Go.Proofs.YtjdiakhipmggjaaGreatDoor
open Go.Emb Go.RowKit Go.Kd Go.Hm
variable {w w' : World} {K : Value → World → Prop} {σ σ' : Q5} {hp tv : Value} {room : Int} {cs : List Cel} {l : List Cla}
theorem RowsIs.shape {B:Nat} {D:Nat→Prop} {b:Value} (h:RowsIs B D σ w b cs):b.cells= #[b]∧b.oneCell'=true:=by
 obtain ⟨vs,c,_⟩:=h.ex
 obtain ⟨a,d,rfl,_⟩:=c
 exact ⟨rfl,rfl⟩
theorem RowsIs.len {B:Nat} {D:Nat→Prop} {c:Value} (h:RowsIs B D σ w c cs): ∃a b,c= .slice a cs.length b:=by
 obtain ⟨vs,d,e,_⟩:=h.ex
 obtain ⟨a,b,rfl,_⟩:=d
 exact ⟨a,b,by rw[Dj e.1]⟩
theorem X0Y {B:Nat} {D:Nat→Prop} {v:Value} {vals:List Val} {k:X0} (Y:X2 w σ) (hB:B≤w.heap.size) (h:HeapIs B D σ w hp tv room cs) (H:J8 B T.g 4 M5 σ w v vals) (z: ∀j,v.ownBlock=some j→ ¬D j) (Z:k.length≤U0) (hl:Z1 cs+(1+(vals.length:Int))≤1048576)
 (hh: ∀w' σ' D',Nxt D w σ w' σ'→HeapIs B D' σ' w' hp tv room (cs++[⟨k,vals⟩])→(∀j,D' j→D j∨v.ownBlock=some j∨w.heap.size≤j)→K (.tuple #[I cs.length,I 0]) w'):Q1 P F.b9 [hp,S k,v] w K:=Q1Z (by
 obtain ⟨b,lv,E,rfl,L,r,hr,hE,hD⟩:=h.ex
 have X:=T2 cs
 have ai:=L9 cs
 have c:D b:=(hD b).2 (.inl rfl)
 have A: ∃a f,v= .slice a vals.length f:=by obtain ⟨a,f,e,_⟩:=H;exact ⟨a,f,e⟩
 have Q:=r.lt
 unfold Hr
 rw[L7,fa]
 refine Ya r rfl ?_
 refine Q1r H ?_
 refine Xo ⟨by omega,by omega⟩ ?_
 refine Xo ⟨by omega,by omega⟩ ?_
 rw[L7,fa]
 refine Zu r (by simp) rfl rfl fun w1 t q=>?_
 have u:=Nxt.of_upd Y t r.1
 have M:=hr.nx u fun j hj e=>hE (e▸hj)
 have N:=H.nx u fun j hj e=>z j hj (e▸c)
 have J:=u.sat
 rw[L7,fa]
 refine Ya q rfl ?_
 refine W0 (cells:= #[S k,v]) (by obtain ⟨a,f,rfl⟩:=A;kernel_rfl) ?_
 refine Q9g J (by rw[t.size];exact hB) M N (fun j hj e=>z j hj ((hD j).2 (.inr e))) Z (by omega) fun s ah w2 R y C g d n ad=>?_
 have p: ∀j,lv.ownBlock=some j→j≠b:=fun j hj e=>hE (e▸g j hj)
 have m:=q.nx C fun e=>p b e rfl
 have i: ¬y b:=fun e=>by
  rcases n b e with e | e | e
  ·exact hE e
  ·exact z b e c
  ·rw[t.size] at e;omega
 rw[L7,fa]
 refine Zu m (by simp) d.shape.1 d.shape.2 fun W u3 o=>?_
 have U:=Nxt.of_upd C.sat u3 m.1
 have O:=d.nx U fun j hj e=>i (e▸hj)
 rw[L7,fa]
 refine Ya o rfl ?_
 obtain ⟨a2,V,rfl⟩:=d.len
 rw[Q1n]
 refine Zi ⟨by simp only[List.length_append,List.length_cons,List.length_nil];omega,by simp only[List.length_append,List.length_cons,List.length_nil];omega⟩ ?_
 have e1:(((cs++[(⟨k,vals⟩:Cel)]).length:Nat):Int)-1=cs.length:=by simp
 rw[e1]
 have e2:Z1 (cs++[(⟨k,vals⟩:Cel)])=Z1 cs+(1+(vals.length:Int)):=by rw[T3];simp[Z1]
 have NN:Nxt D w σ W R:=((u.mono fun j _ e=>e▸c).chain C fun j _ e=>(hD j).2 (.inr (g j e))).chain U fun j _ e=>e▸c
 refine hh W R (fun j=>j=b∨y j) NN ⟨b,_,y,rfl,L,?_,O,i,fun j=>Iff.rfl⟩ fun j hj=>?_
 ·rw[e2];exact o
 ·rcases hj with rfl | hj
  ·exact .inl c
  ·rcases n j hj with e | e | e
   ·exact .inl ((hD j).2 (.inr e))
   ·exact .inr (.inl e)
   ·rw[t.size] at e;exact .inr (.inr e))
theorem HeapIs.tab {B:Nat} {D:Nat→Prop} (h:HeapIs B D σ w hp tv room cs): ∃b a E,hp= .pointer (some ⟨b,0,none⟩)∧Y1 σ w b [tv,I room,I (Z1 cs),a]∧RowsIs B E σ w a cs:=by
 obtain ⟨b,a,E,e,f,d,c,hE,hD⟩:=h.ex
 exact ⟨b,a,E,e,d,c⟩
theorem Q5r {B:Nat} {D:Nat→Prop} (b:X2 w σ) (h:HeapIs B D σ w hp tv room cs) (f:0≤W4 room cs) (i:room≤1048576) (c: ∀w',Stp w σ w' σ→K (I (W4 room cs)) w'):Q1 P F.a7 [hp] w K:=by
 obtain ⟨j,g,e,a,_⟩:=h.freeze b
 exact Q3R g a f i fun w' d=>c w' (Stp.of_below b d)
theorem Ft (k:X0) {σ:Q5}:M5 σ (L8 k) (Value.agg [I (L8 k).sort,I (L8 k).n,S (L8 k).s,I (L8 k).ref].toArray).cells.toList:=by
 refine ⟨rfl,?_⟩
 unfold L8
 split
 ·decide
 split
 ·decide
 split
 ·decide
 ·decide
theorem Q0o (a: ∀c∈l,Qh c) (b:l.length≤100000) (n:X0):(Y6 l n).length≤1000000000000:=by
 have h:=Q2N a n
 have:(l.length+1)*1000000≤100001*1000000:=Nat.mul_le_mul_right _ (by omega)
 omega
def atM (cs:List Cel) (e:Int):Int:=if e=0 then cs.length else 0
set_option maxHeartbeats 1000000 in
theorem Q51 {B:Nat} {D:Nat→Prop} {k:X0} (hs:X2 w σ) (hB:B≤w.heap.size) (h:HeapIs B D σ w hp tv room cs) (ht:Tab σ tv l) (ok:Ok l) (hk:k.length≤U0) (h0:0≤W4 room cs) (h1:room≤1048576)
 (hh: ∀w' σ' D',Nxt D w σ w' σ'→HeapIs B D' σ' w' hp tv room (Zn l room cs k).1→(∀j,D' j→D j∨w.heap.size≤j)→K (.tuple #[I (atM cs (Zn l room cs k).2),I (Zn l room cs k).2]) w'):Q1 P F.aI [hp,S k] w K:=Ka (by
 obtain ⟨b,lv,E,rfl,hm,hr⟩:=h.tab
 unfold Mw
 rw[L7,fa]
 refine Ya (i:=0) hm rfl ?_
 refine Q4b hs ht fun w1 σ1 g=>?_
 refine Wa ?_
 unfold Zn at hh
 have W:=ht.lift ⟨g.le⟩
 cases ho:P3 l k with
 | false=>
  rw[ho] at hh
  simp only[if_pos] at hh
  refine J4 ?_
  exact hh w1 σ1 D (.of_stp g) (h.up g) fun j r=> .inl r
 | true=>
  rw[ho] at hh
  simp only[Bool.true_eq_false,if_false] at hh
  refine Z6 ?_
  rw[L7,fa]
  refine Ya (i:=0) (hm.up g) rfl ?_
  refine Ic g.sat W ok.acy ok.len ok.sm fun fv w2 O H hf=>?_
  have y:=g.trans H
  have U:=hf.max
  refine Q8 hf ?_
  have ag:=Q0o ok.sm ok.len k
  refine Xo ⟨by omega,by omega⟩ ?_
  refine Q5r H.sat (h.up y) h0 h1 fun N z=>?_
  have o:=y.trans z
  have J:=hf.up z
  rw[Rj]
  by_cases M:W4 room cs<1+((Y6 l k).length:Int)
  ·rw[if_pos M] at hh
   have e:decide (1+((Y6 l k).length:Int)>W4 room cs)=true:=decide_eq_true M
   rw[e]
   refine J4 ?_
   exact hh N O D (.of_stp o) (h.up o) fun j r=> .inl r
  rw[if_neg M] at hh
  have e:decide (1+((Y6 l k).length:Int)>W4 room cs)=false:=decide_eq_false M
  rw[e]
  refine Z6 ?_
  refine Q8 J ?_
  have t:=o.bel.size
  refine E3 (Y6 l k).length (fun n x w'=> ∃σ',Stp N O w' σ'∧V5 N.heap.size T.g 4 M5 σ' w' x (((Y6 l k).take n).map fun f=>L8 f.kind)) ⟨O,Stp.refl z.sat,V5.nil⟩ fun n x w4 d hn C=>?_
  obtain ⟨σ4,c,p⟩:=C
  refine Z0 ?_
  refine Q7 (fun hc=>?_) (fun hc=>?_)
  ·have m:n<(Y6 l k).length:=by simpa using hc
   have L:=J.up c
   refine Y3 L m ?_
   obtain ⟨p1,r1⟩:=L.elF m
   refine Y4 c.sat p1 rfl ?_
   refine Y7 c.sat (by rfl) rfl (Rep.one (R:=R7) r1) fun q w5 σ5 u ab=>?_
   rw[fa]
   refine ld u.sat ab rfl ?_
   refine Q9e u.sat fun w6 σ6 A=>?_
   have Y:=(c.trans u).trans A
   have ad:=(p.up u).up A
   refine Jv (R:=M5) (x:=L8 (Y6 l k)[n].kind) Y ad (Ft _) rfl rfl rfl (by rw[List.length_map,List.length_take];omega) (by rw[List.length_map,List.length_take];omega) fun s v' w7 Q ak Z V _=>?_
   refine N1 ?_
   refine Z9 U m ⟨Q,Z,?_⟩
   rw[List.take_add_one,List.getElem?_eq_getElem m,List.map_append]
   exact V
  ·have m: ¬n<(Y6 l k).length:=by simpa using hc
   rw[List.take_of_length_le (by omega)] at p
   have a:=o.trans c
   have v: ∀j,x.ownBlock=some j→N.heap.size≤j:=fun j r=>(p.mem j r).1
   refine X0Y c.sat (Nat.le_trans hB a.bel.size) (h.up a) ((J8.of_acc p).mono (Nat.le_trans hB t)) (fun j r hD=>by
    have:=(h.mem hD).2.1;have:=v j r;omega) hk (by rw[List.length_map];unfold W4 at*;omega) fun w7 Q D' N7 h7 X=>?_
   refine J7 (vs:=[_,_]) rfl ?_
   refine J7 (vs:=[_,_]) rfl ?_
   refine hh w7 Q D' ((Nxt.of_stp a).chain N7 fun j _ e=>e) h7 fun j r=>?_
   rcases X j r with e | e | e
   ·exact .inl e
   ·right;have:=v j e;omega
   ·right;have:=a.bel.size;omega)
end Go.Proofs.YtjdiakhipmggjaaGreatDoor

namespace Go.Proofs.YtjdiakhipmggjaaGreatDoor
open Go.Emb Go.RowKit Go.Kd Go.Hm
variable {w w' : World} {K : Value → World → Prop} {σ σ' : Q5} {hp tv : Value} {room : Int} {cs : List Cel} {l : List Cla}
def part (m n:Nat) (z:Val):List Val:=(List.range m).map fun i=>if i<n then z else Val.zero
theorem Q9Z (m:Nat) (z:Val):part m 0 z=List.replicate m Val.zero:=by
 refine List.ext_getElem (by simp[part]) fun i b a=>by simp[part]
theorem X0f (m:Nat) (z:Val):part m m z=List.replicate m z:=by
 refine List.ext_getElem (by simp[part]) fun i a b=>?_
 have:i<m:=by simpa [part] using a
 simp[part,this]
theorem X0q {m n:Nat} (z:Val):(part m n z).set n z=part m (n+1) z:=by
 refine List.ext_getElem (by simp[part]) fun i b a=>?_
 simp only[part,List.getElem_set,List.getElem_map,List.getElem_range]
 by_cases e:n=i
 ·subst e;simp
 ·rw[if_neg e]
  by_cases h:i<n
  ·simp[h,Nat.lt_succ_of_lt h]
  ·have: ¬i<n+1:=by omega
   simp[h,this]
theorem Q5L {e:X0} (h:F6 l e=true):right e=true:=by
 simp only[F6,Bool.and_eq_true,Bool.not_eq_true',decide_eq_false_iff_not] at h
 have:=h.1.2
 simp only[N3,Bool.or_eq_true,Bool.and_eq_true,decide_eq_true_eq] at this
 rcases this with h1 | h1
 ·exact absurd h1 h.1.1
 ·exact h1.1
theorem X2o {e:X0} (h:right e=true):Xi e≤3:=by
 unfold Xi
 rw[if_pos h]
 simp only[right,Bool.and_eq_true,decide_eq_true_eq] at h
 exact h.1
set_option maxHeartbeats 1000000 in
theorem Q7F {B:Nat} {D:Nat→Prop} {e:X0} {n:Int} (hs:X2 w σ) (hB:B≤w.heap.size) (h:HeapIs B D σ w hp tv room cs) (ht:Tab σ tv l) (hk:e.length≤U0) (h0:0≤W4 room cs) (h1:room≤1048576)
 (hh: ∀w' σ' D',Nxt D w σ w' σ'→HeapIs B D' σ' w' hp tv room (Zs l room cs e n).1→(∀j,D' j→D j∨w.heap.size≤j)→K (.tuple #[I (atM cs (Zs l room cs e n).2),I (Zs l room cs e n).2]) w'):Q1 P F.aR [hp,S e,I n] w K:=Ak (by
 obtain ⟨b,lv,E,rfl,hm,hr⟩:=h.tab
 unfold Ox
 refine X3Z e (Nat.le_trans hk (by decide)) fun w1 aa=>?_
 have t:=Stp.of_below hs aa
 unfold Zs at hh
 have k: ∀{L C},Stp w σ L C→F6 l e=false→K (.tuple #[I 0,I 91]) L:=fun {L C} hS U=>by
  rw[U] at hh
  simp only[if_pos] at hh
  exact hh L C D (.of_stp hS) (h.up hS) fun j r=> .inl r
 cases A:(right e&&decide (Xi e≠3)) with
 | false=>
  have U:F6 l e=false:=by
   cases hx:F6 l e with
   | false=>rfl
   | true=>
    have hr:=Q5L hx
    simp only[F6,Bool.and_eq_true,decide_eq_true_eq] at hx
    rw[hr,Bool.true_and,decide_eq_false_iff_not] at A
    omega
  simp only[Bool.false_eq_true,if_false]
  (try simp only[↓M1,M1,Mb,reduceIte])
  simp only[show decide ((30:Int)=0)=false from by decide,Bool.not_false,↓M1,M1,Mb,reduceIte]
  exact k t U
 | true=>
  simp only[if_true]
  (try simp only[↓M1,M1,Mb,reduceIte])
  simp only[decide_true,Bool.not_true,↓M1,M1,Mb,reduceIte]
  refine Ya (i:=0) (hm.up t) rfl ?_
  refine Q0W t.sat ht hk fun L C W=>?_
  have a:=t.trans W
  simp only[Bool.and_eq_true,decide_eq_true_eq] at A
  have a1:=X2o A.1
  have o:F6 l e=(!decide (e=H8)&&N3 l e):=by
   unfold F6
   have:decide (Xi e≤2)=true:=decide_eq_true (by omega)
   rw[this,Bool.and_true]
  have en:decide (e=[110,117,108,108])=decide (e=H8):=rfl
  cases Y:N3 l e with
  | false=>
   (try simp only[↓M1,M1,Mb,reduceIte])
   exact k a (by rw[o,Y,Bool.and_false])
  | true=>
   (try simp only[↓M1,M1,Mb,reduceIte])
   by_cases c:e=H8
   ·have:decide (e=[110,117,108,108])=true:=decide_eq_true c
    rw[this]
    (try simp only[↓M1,M1,Mb,reduceIte])
    exact k a (by rw[o,decide_eq_true c];rfl)
   have:decide (e=[110,117,108,108])=false:=decide_eq_false c
   rw[this]
   (try simp only[↓M1,M1,Mb,reduceIte])
   have U:F6 l e=true:=by rw[o,Y,decide_eq_false c];rfl
   rw[U] at hh
   simp only[Bool.true_eq_false,if_false] at hh
   by_cases g:n<0
   ·rw[if_pos g] at hh
    rw[decide_eq_true g]
    (try simp only[↓M1,M1,Mb,reduceIte])
    exact hh L C D (.of_stp a) (h.up a) fun j r=> .inl r
   rw[if_neg g] at hh
   rw[decide_eq_false g]
   (try simp only[↓M1,M1,Mb,reduceIte])
   refine Q5r W.sat (h.up a) h0 h1 fun w3 V=>?_
   have q:=a.trans V
   refine K8 ?_
   by_cases X:W4 room cs≤n
   ·rw[if_pos X] at hh
    rw[decide_eq_true X]
    refine J4 ?_
    exact hh w3 C D (.of_stp q) (h.up q) fun j r=> .inl r
   rw[if_neg X] at hh
   rw[decide_eq_false X]
   refine Z6 ?_
   obtain ⟨m,rfl⟩:=Int.eq_ofNat_of_zero_le (Int.not_lt.1 g)
   have af:(m:Int)<W4 room cs:=Int.not_le.1 X
   have ax:=L9 cs
   unfold W4 at af h0
   have z:=q.bel.size
   have am:=Fv A.1
   refine Q96 (sz:=4) (R:=M5) (x0:=Val.zero) V.sat rfl (by decide) ⟨rfl,by decide⟩ (by omega) (by omega) fun v w4 ac Z H=>?_
   have M:=J8.of_acc Z
   refine Q1r M ?_
   rw[List.length_replicate]
   refine U1 m (fun i w'=> ∃σ',Stp w3 C w' σ'∧J8 w3.heap.size T.g 4 M5 σ' w' v (part m i (L8 e))) ⟨C,ac,by rw[Q9Z];exact M⟩ fun i w5 d hi Q=>?_
   obtain ⟨σ5,y,J⟩:=Q
   refine Z0 ?_
   refine Q7 (fun hc=>?_) (fun hc=>?_)
   ·have s:i<m:=by simpa using hc
    refine Q9e y.sat fun w6 σ6 N=>?_
    have ae:=y.trans N
    refine Q3o (x:=L8 e) ae (J.up N) (by simpa [part] using s) rfl (Ft e) (Rep.one (R:=M5) (Ft (σ:=σ6) e)) fun p u w7 aq ab O=>?_
    refine N1 ?_
    rw[X0q] at O
    exact Y5 (by omega) s ⟨σ6,ab.stp,O⟩
   ·have s:i=m:=by
     have: ¬i<m:=by simpa using hc
     omega
    subst s
    rw[X0f] at J
    have f:=q.trans y
    refine X0Y y.sat (Nat.le_trans hB f.bel.size) (h.up f) (J.mono (Nat.le_trans hB z)) (fun j r hD=>by
     have:=(h.mem hD).2.1;have:=H j r;omega) (Nat.le_trans (show (e++[91,93]).length≤40 by simp only[List.length_append,List.length_cons,List.length_nil];omega) (by decide)) (by rw[List.length_replicate];omega) fun w7 σ7 D' N7 h7 ad=>?_
    refine J7 (vs:=[_,_]) rfl ?_
    refine J7 (vs:=[_,_]) rfl ?_
    rw[Int.toNat_natCast] at hh
    refine hh w7 σ7 D' ((Nxt.of_stp f).chain N7 fun j _ e=>e) h7 fun j r=>?_
    rcases ad j r with e | e | e
    ·exact .inl e
    ·right;have:=H j e;omega
    ·right;have:=f.bel.size;omega)
end Go.Proofs.YtjdiakhipmggjaaGreatDoor

namespace Go.Proofs.YtjdiakhipmggjaaGreatDoor
open Go.Emb Go.RowKit Go.Kd Go.Hm
variable {w : World} {K : Value → World → Prop} {σ : Q5} {v : Value}
def Q2K:List Cla:=[⟨J9,[],[],false,false,false,[],[]⟩,⟨L6,J9,[],false,false,false,[⟨Qe,D0,false⟩],[]⟩]
def gMk (n:X0):Cla:=⟨n,L6,[],false,false,true,[],[]⟩
theorem Q6H:G5=Q2K++U4.map gMk:=rfl
theorem Q9b (M:X2 w σ) (h: ∀D w' g,Stp w σ w' g→V5 w.heap.size T.b 8 V0 g w' D G5→K D w'):Q1 P F.bq [] w K:=Kh (by
 unfold Ni
 refine W0 (cells:= #[S J9,S [], .slice none 0 0, .bool false, .bool false, .bool false, .slice none 0 0, .slice none 0 0]) (by kernel_rfl) ?_
 refine W0 (cells:= #[S Qe,S D0, .bool false]) (by kernel_rfl) ?_
 refine T4 (R:=R7) (sz:=3) M [.agg #[S Qe,S D0, .bool false]] [⟨Qe,D0,false⟩] rfl rfl (by simp;rfl) rfl ⟨⟨rfl,by decide,by decide⟩,trivial⟩ fun X w1 σ1 m l=>?_
 have j:=l
 obtain ⟨J,b,rfl,_⟩:=j
 refine W0 (cells:= #[S L6,S J9, .slice none 0 0, .bool false, .bool false, .bool false, .slice J 1 b, .slice none 0 0]) (by kernel_rfl) ?_
 refine Yx (R:=V0) (sz:=8) m [.agg #[S J9,S [], .slice none 0 0, .bool false, .bool false, .bool false, .slice none 0 0, .slice none 0 0], .agg #[S L6,S J9, .slice none 0 0, .bool false, .bool false, .bool false, .slice J 1 b, .slice none 0 0]]
  Q2K rfl rfl (by simp;exact ⟨rfl,rfl⟩) rfl ⟨⟨_,_,_,rfl,Sl.nil,Sl.nil,Sl.nil,by decide,by decide⟩,⟨_,_,_,rfl,Sl.nil,l,Sl.nil,by decide,by decide⟩,trivial⟩ fun v2 w2 r z _=>?_
 refine T4 (R:=U7) (sz:=1) r.sat (U4.map S) U4 rfl rfl (by decide) rfl ⟨⟨rfl,by decide⟩,⟨rfl,by decide⟩,⟨rfl,by decide⟩,⟨rfl,by decide⟩,⟨rfl,by decide⟩,⟨rfl,by decide⟩,trivial⟩ fun Y w3 H o i=>?_
 have u:=(m.trans r).trans o
 have O:U4.length=6:=rfl
 refine E3 U4.length (fun n x w'=> ∃g,Stp w σ w' g∧SLe H g∧V5 w.heap.size T.b 8 V0 g w' x (Q2K++(U4.take n).map gMk)) ⟨H,u,SLe.refl _,z.up o⟩ fun n x w4 d Z k=>?_
 obtain ⟨Q,f,e,c⟩:=k
 refine Q8 (i.lift e) ?_
 refine Z0 ?_
 refine Q7 (fun B=>?_) (fun B=>?_)
 ·have a:n<U4.length:=by simpa using B
  have q:=i.lift e
  refine Y3 q a ?_
  obtain ⟨N,E⟩:=q.elS a
  refine X7 f.sat N rfl ?_
  have V:(Q2K++(U4.take n).map gMk).length≤8:=by
   rw[List.length_append,List.length_map,List.length_take,show Q2K.length=2 from rfl];omega
  have p:(U4.take (n+1)).map gMk=(U4.take n).map gMk++[gMk U4[n]]:=by
   rw[List.take_add_one,List.getElem?_eq_getElem a,List.map_append];rfl
  generalize U4[n]=t at E p
  refine W0 (cells:= #[S t,S L6, .slice none 0 0, .bool false, .bool false, .bool true, .slice none 0 0, .slice none 0 0]) (by kernel_rfl) ?_
  have U:V0 Q (gMk t) [S t,S L6, .slice none 0 0, .bool false, .bool false, .bool true, .slice none 0 0, .slice none 0 0]:=⟨_,_,_,rfl,Sl.nil,Sl.nil,Sl.nil,E,(by decide:L6.length≤U0)⟩
  refine Jv (x:=gMk t) f c U rfl rfl rfl (by omega) (by omega) fun s D W L y C A _=>?_
  refine N1 ?_
  refine Z9 (by omega) a ⟨L,C,e.more y.le,?_⟩
  rw[p,←List.append_assoc];exact A
 ·have a: ¬n<U4.length:=by simpa using B
  rw[List.take_of_length_le (by omega),←Q6H] at c
  exact h _ _ _ f c)
end Go.Proofs.YtjdiakhipmggjaaGreatDoor

namespace Go.Proofs.YtjdiakhipmggjaaGreatDoor
open Go.Emb Go.RowKit Go.Kd Go.Hm
variable {w : World} {K : Value → World → Prop} {σ : Q5}
end Go.Proofs.YtjdiakhipmggjaaGreatDoor

namespace Go.Hm
open Go.Kd
def Edge (l:List Cla) (i j:Nat):Prop:= ∃c,l[i]? =some c∧ ∃u∈U3 c,Z2 l u=some j
inductive Thr (E : Nat → Nat → Prop) (n : Nat) : Nat → Nat → Prop
  | one {i j : Nat} : E i j → Thr E n i j
  | more {i m j : Nat} : E i m → m < n → Thr E n m j → Thr E n i j
theorem Thr.cut {E:Nat→Nat→Prop} {n i j:Nat} (h:Thr E (n+1) i j):Thr E n i j∨(Thr E n i n∧Thr E n n j):=by
 induction h with
 | one h=>exact .inl (.one h)
 | @more i m j d f _ c=>
  by_cases e:m<n
  ·rcases c with c | ⟨a,b⟩
   ·exact .inl (.more d e c)
   ·exact .inr ⟨.more d e a,b⟩
  ·obtain rfl:m=n:=by omega
   rcases c with c | ⟨a,b⟩
   ·exact .inr ⟨.one d,c⟩
   ·exact .inr ⟨.one d,b⟩
theorem Thr.join {E:Nat→Nat→Prop} {n i k j:Nat} (h:Thr E n i k) (a:k<n) (g:Thr E n k j):Thr E n i j:=by
 induction h with
 | one h=>exact .more h a g
 | more d c _ b=>exact .more d c (b a g)
theorem Q41 {l:List Cla} (f:T6 l) {i j:Nat} (e:i<l.length):Edge l i j↔j<l.length∧ ∃u∈U3 l[i],u=Y2 l j∧Z2 l u=some j:=by
 unfold Edge
 rw[List.getElem?_eq_getElem e]
 constructor
 ·rintro ⟨c,d,u,b,a⟩
  cases d
  exact ⟨(S2 a).1,u,b,(S2 a).2.symm,a⟩
 ·rintro ⟨_,u,b,_,a⟩
  exact ⟨_,rfl,u,b,a⟩
theorem X0Q {l:List Cla} (b:T6 l) {i:Nat} (a:i<l.length):lk l (Y2 l i)=some l[i]:=by
 have:=Xz b a
 rwa [List.getD_eq_getElem?_getD,List.getElem?_eq_getElem a] at this
theorem X0m {l:List Cla} (a:T6 l) {i j:Nat} (b:i<l.length) (h:Thr (Edge l) l.length i j):j<l.length∧Ws (lk l) (Y2 l i) (Y2 l j):=by
 induction h with
 | one h=>
  obtain ⟨f,u,e,d,g⟩:=(Q41 a b).1 h
  obtain ⟨c,k,_⟩:=Zg g
  refine ⟨f,_,X0Q a b,u,e,?_⟩
  subst d;exact .refl k
 | more f o _ m=>
  obtain ⟨p,n⟩:=m o
  obtain ⟨_,u,e,d,g⟩:=(Q41 a b).1 f
  refine ⟨p,_,X0Q a b,u,e,?_⟩
  subst d;exact n.reach
theorem Q9I {l:List Cla} (w:T6 l) {a b:X0} (h:Hm.Reach (lk l) a b): ∀i j,Z2 l a=some i→Z2 l b=some j→i=j∨Thr (Edge l) l.length i j:=by
 induction h with
 | refl _=>
  intro i j m f;rw[m] at f;cases f;exact .inl rfl
 | step q t r s=>
  rename_i a u b c
  intro i j m f
  obtain ⟨d,p⟩:=r.left
  obtain ⟨_,_,k,g,v⟩:=V2 p
  obtain ⟨y,e,n,_⟩:=Zg m
  rw[q] at e;cases e
  have o:Edge l i k:=⟨c,n,u,t,g⟩
  rcases s k j g f with rfl | hT
  ·exact .inr (.one o)
  ·exact .inr (.more o (S2 g).1 hT)
theorem X0D {l:List Cla} (a:T6 l) {i j:Nat} (m:i<l.length) (g:j<l.length) (h:Ws (lk l) (Y2 l i) (Y2 l j)):Thr (Edge l) l.length i j:=by
 obtain ⟨c,n,u,q,o⟩:=h
 rw[X0Q a m] at n;cases n
 obtain ⟨d,p⟩:=o.left
 obtain ⟨_,_,k,b,r⟩:=V2 p
 have f:Edge l i k:=⟨_,List.getElem?_eq_getElem m,u,q,b⟩
 have e:Z2 l (Y2 l j)=some j:=by
  have:=a.find (List.getElem?_eq_getElem g)
  unfold Y2
  rw[List.getD_eq_getElem?_getD,List.getElem?_eq_getElem g];exact this
 rcases Q9I a o k j b e with rfl | hT
 ·exact .one f
 ·exact .more f (S2 b).1 hT
theorem X1G {l:List Cla} (a:T6 l) {i j:Nat} (b:i<l.length) (c:j<l.length):Thr (Edge l) l.length i j↔Xe l (Y2 l i) (Y2 l j)=true:=by
 rw[Jr]
 exact ⟨fun h=>(X0m a b h).2,X0D a b c⟩
def G8 (l:List Cla):List (List Bool):=(List.range l.length).map fun i=>(List.range l.length).map fun j=>Xe l (Y2 l i) (Y2 l j)
def Bl (m:Nat→Nat→Bool) (i j:Nat) (b:Bool):Nat→Nat→Bool:=fun x y=>if x=i∧y=j then b else m x y
structure Clos (E : Nat → Nat → Prop) (n k i j : Nat) (m : Nat → Nat → Bool) : Prop where
  sound : ∀ a b, m a b = true → Thr E n a b
  full : ∀ a b, a < n → b < n → Thr E k a b → m a b = true
  done : ∀ a b, a < n → b < n → (a < i ∨ (a = i ∧ b < j)) → Thr E (k + 1) a b → m a b = true
theorem Clos.next {E:Nat→Nat→Prop} {n k i j:Nat} {m:Nat→Nat→Bool} (h:Clos E n k i j m) (o:k<n) (t:i<n) (s:j<n):Clos E n k i (j+1) (Bl m i j (m i j||(m i k&&m k j))):=by
 have f: ∀a b,m a b=true→Bl m i j (m i j||(m i k&&m k j)) a b=true:=by
  intro a b c
  unfold Bl
  split
  ·rename_i e;rw[←e.1,←e.2,c];rfl
  ·exact c
 refine ⟨fun a b c=>?_,fun a b q r g=>f a b (h.full a b q r g),fun a b q r p g=>?_⟩
 ·unfold Bl at c
  split at c
  ·rename_i e
   obtain ⟨rfl,rfl⟩:=e
   simp only[Bool.or_eq_true,Bool.and_eq_true] at c
   rcases c with d | ⟨d,l⟩
   ·exact h.sound _ _ d
   ·exact (h.sound _ _ d).join o (h.sound _ _ l)
  ·exact h.sound _ _ c
 ·by_cases e:a=i∧b=j
  ·obtain ⟨rfl,rfl⟩:=e
   unfold Bl
   rw[if_pos ⟨rfl,rfl⟩]
   rcases g.cut with d | ⟨d,l⟩
   ·rw[h.full _ _ t s d];rfl
   ·rw[h.full _ _ t o d,h.full _ _ o s l];simp
  ·refine f a b (h.done a b q r ?_ g)
   rcases p with d | ⟨d,l⟩
   ·exact .inl d
   ·right;refine ⟨d,?_⟩
    have:b≠j:=fun u=>e ⟨d,u⟩
    omega
theorem Clos.row {E:Nat→Nat→Prop} {n k i:Nat} {m:Nat→Nat→Bool} (h:Clos E n k i n m):Clos E n k (i+1) 0 m:=
 ⟨h.sound,h.full,fun a b f c d e=>h.done a b f c (by omega) e⟩
theorem Clos.round {E:Nat→Nat→Prop} {n k:Nat} {m:Nat→Nat→Bool} (h:Clos E n k n 0 m):Clos E n (k+1) 0 0 m:=
 ⟨h.sound,fun a b c d e=>h.done a b c d (.inl c) e,fun a b c d f e=>by omega⟩
theorem Clos.start {E:Nat→Nat→Prop} {n:Nat} {m:Nat→Nat→Bool} (h: ∀a b,a<n→(m a b=true↔E a b)) (j: ∀a b,n≤a→m a b=false):Clos E n 0 0 0 m:=by
 refine ⟨fun a b c=>?_,fun a b d g f=>?_,fun a b d g i f=>by omega⟩
 ·by_cases d:a<n
  ·exact .one ((h a b d).1 c)
  ·rw[j a b (by omega)] at c;cases c
 ·cases f with
  | one e=>exact (h a b d).2 e
  | more _ k _=>omega
theorem Clos.all {l:List Cla} (c:T6 l) {m:Nat→Nat→Bool} (h:Clos (Edge l) l.length l.length 0 0 m) {i j:Nat} (a:i<l.length) (b:j<l.length):m i j=Xe l (Y2 l i) (Y2 l j):=by
 rw[Bool.eq_iff_iff,←X1G c a b]
 exact ⟨h.sound i j,h.full i j a b⟩
end Go.Hm

namespace Go.Emb
open Go.RowKit Go.Hm
variable {P : Program} {w w0 w1 w' w'' : World} {K : Value → World → Prop} {σ σ0 σ1 σ' : Q5}
theorem X32 {t e:TypeId} {c n:Nat} {z:Value} [ts:TS P t e] [tz:TZ P e 1 c z] (j:X2 w σ) (m:z.cells= #[z]) (o:n≤1000000) (p:c*n≤281474976710656)
 (h: ∀b w',w.heap.size≤b→Stp w σ w' σ→Y1 σ w' b (List.replicate n z)→K (.slice (some ⟨b,0,none⟩) n n) w'):Ww P t (I n) (I n) w K:=by
 obtain ⟨i,k,d,f,a⟩:=tz.info
 have g:(i.bytes:Int)*(n:Int)≤281474976710656:=by
  rw[f]
  have:((c*n:Nat):Int)≤281474976710656:=by omega
  rwa [Int.natCast_mul] at this
 have l:=run_makeSlice (P:=P) w t e i z ts.h k a .i64 .i64 (n:Int) (n:Int) (by omega) (Int.le_refl _) (by rw[d];simp only[Int.toNat_natCast];omega) g (by omega)
 unfold Ww
 rw[X9 l]
 simp only[Int.toNat_natCast,d,Nat.mul_one]
 refine h _ _ (Nat.le_refl _) (Stp.own j _) ⟨j.none (Nat.le_refl _),e,?_⟩
 rw[heap_alloc_new,m]
 have:madeCells #[z] n=(List.replicate n z).toArray:=by rw[←toList_madeCells_one,Array.toArray_toList]
 rw[this]
def Q5U (n:Nat) (_:Q5) (b:Nat) (cs:List Value):Prop:=cs=[.slice (some ⟨b,0,none⟩) n n]
instance (n:Nat):Rep (Q5U n):=⟨fun _ h=>h,fun h u hu=>by rw[h] at hu;simp at hu;subst hu;rfl⟩
def Q5Z (σ:Q5) (xs:List Bool) (cs:List Value):Prop:= ∃v,cs=[v]∧Sl 1 Q3p σ v xs
instance:Rep Q5Z:=⟨fun k h=>by obtain ⟨v,h1,h2⟩:=h;exact ⟨v,h1,h2.le k⟩,fun h u hu=>by
 obtain ⟨v,rfl,a,cap,rfl,_⟩:=h
 simp at hu;subst hu;rfl⟩
def bools (n:Nat) (f:Nat→Bool):List Value:=(List.range n).map fun j=> .bool (f j)
theorem Q12 {n:Nat} {f:Nat→Bool}:(bools n f).length=n:=by simp[bools]
theorem Q4D {n j:Nat} {f:Nat→Bool} (h:j<n):(bools n f)[j]? =some (.bool (f j)):=by simp[bools,h]
theorem Q4i {n j:Nat} {f:Nat→Bool} {b:Bool}:(bools n f).set j (.bool b)=bools n (fun x=>if x=j then b else f x):=by
 apply List.ext_getElem?
 intro k
 rw[List.getElem?_set]
 by_cases a:k<n
 ·by_cases e:j=k
  ·subst e;simp[bools,a]
  ·have c: ¬k=j:=fun h=>e h.symm
   simp[bools,a,e,c]
 ·simp[bools,a]
  intro e;omega
theorem Q6I {n:Nat}:List.replicate n (Value.bool false)=bools n fun _=>false:=by
 apply List.ext_getElem?
 intro k
 by_cases a:k<n<;>simp[bools,a]
def Qy (σ:Q5) (w:World) (a:List Nat) (n:Nat) (m:Nat→Nat→Bool):Prop:=a.Nodup∧ ∀i (h:i<a.length),Y1 σ w a[i] (bools n (m i))
theorem Qy.up {a:List Nat} {n:Nat} {m:Nat→Nat→Bool} (h:Qy σ w a n m) (k:Stp w σ w' σ'):Qy σ' w' a n m:=⟨h.1,fun i b=>(h.2 i b).up k⟩
theorem Qy.kp {a:List Nat} {n:Nat} {m:Nat→Nat→Bool} {D:Nat→Prop} (h:Qy σ w a n m) (k:Kpt D w w') (d: ∀b∈a,¬D b):Qy σ w' a n m:=⟨h.1,fun i c=>(h.2 i c).kp k (d _ (List.getElem_mem c))⟩
theorem Qy.lt {c:List Nat} {n:Nat} {m:Nat→Nat→Bool} (h:Qy σ w c n m) {b:Nat} (d:b∈c):b<w.heap.size∧σ b=none:=by
 obtain ⟨i,a,rfl⟩:=List.getElem_of_mem d
 exact ⟨(h.2 i a).lt,(h.2 i a).1⟩
theorem Qy.snoc {d:List Nat} {n b:Nat} {m:Nat→Nat→Bool} {f:Nat→Bool} (h:Qy σ w d n m) (k:b∉d) (o:Y1 σ w b (bools n f)):Qy σ w (d++[b]) n (fun x=>if x=d.length then f else m x):=by
 refine ⟨by rw[List.nodup_append];exact ⟨h.1,by simp,fun a p c g e=>by simp at g;subst g;subst e;exact k p⟩,fun i l=>?_⟩
 rw[List.length_append,List.length_singleton] at l
 by_cases j:i<d.length
 ·rw[List.getElem_append_left j]
  simp only[if_neg (show¬i=d.length by omega)]
  exact h.2 i j
 ·obtain rfl:i=d.length:=by omega
  simp only[List.getElem_concat_length,if_true]
  exact o
theorem Qy.congr {a:List Nat} {n:Nat} {m m':Nat→Nat→Bool} (h:Qy σ w a n m) (c: ∀i,i<a.length→m i=m' i):Qy σ w a n m':=⟨h.1,fun i b=>c i b▸h.2 i b⟩
theorem Qy.keep {a:List Nat} {n:Nat} {m:Nat→Nat→Bool} (U:0<n) (r:n≤1000000): ∀{σ:Q5},Qy σ w a n m→Stp w0 σ0 w σ→(∀b∈a,w0.heap.size≤b)→ ∃σ',Stp w0 σ0 w σ'∧SLe σ σ'∧ ∀i (h:i<a.length),Sl 1 Q3p σ' (.slice (some ⟨a[i],0,none⟩) n n) ((List.range n).map (m i)):=by
 intro σ h N M
 have key: ∀k,k≤a.length→ ∃σ',Stp w0 σ0 w σ'∧SLe σ σ'∧(∀i (h:i<a.length),i<k→Z4 σ' ⟨a[i],0,none⟩ (bools n (m i)))∧ ∀i (h:i<a.length),k≤i→σ' a[i]=none:=by
  intro k
  induction k with
  | zero=>intro _;exact ⟨σ,N,SLe.refl _,fun i _ h=>by omega,fun i d _=>(h.2 i d).1⟩
  | succ k L=>
   intro R
   obtain ⟨σ1,o,q,g,t⟩:=L (by omega)
   have c:k<a.length:=by omega
   have z:Y1 σ1 w a[k] (bools n (m k)):=⟨t k c (Nat.le_refl _),(h.2 k c).2⟩
   obtain ⟨D,J,A,u,H⟩:=z.keep o (M _ (List.getElem_mem c))
   refine ⟨D,J,q.more ⟨u⟩,fun i d B=>?_,fun i d C=>?_⟩
   ·by_cases e:i=k
    ·subst e;exact A
    ·exact (g i d (by omega)).le u
   ·rw[H]
    ·exact t i d (by omega)
    ·intro e
     have:=List.nodup_iff_pairwise_ne.1 h.1
     rw[List.pairwise_iff_getElem] at this
     exact this k i c d (by omega) e.symm
 obtain ⟨σ1,o,q,g,_⟩:=key a.length (Nat.le_refl _)
 refine ⟨σ1,o,q,fun i d=>⟨some ⟨a[i],0,none⟩,n,by simp,by simp,by simp only[maxLen];omega,fun e=>(by cases e),?_⟩⟩
 intro b y
 obtain rfl:=Option.some.inj y
 refine ⟨fun _=>rfl,fun j x f=>?_⟩
 have s:j<n:=by have:=(List.getElem?_eq_some_iff.1 f).1;simpa using this
 obtain ⟨V,arr,e,E,Q,O⟩:=g i d d
 have l:x=m i j:=by simp[s] at f;exact f.symm
 refine ⟨[.bool x],⟨I6 rfl _,arr,e,E,by rw[S4];exact Q,fun k v p=>?_⟩,rfl,rfl⟩
 obtain rfl:k=0:=by cases k with
  | zero=>rfl
  | succ k=>simp at p
 simp at p
 rw[A9,←p,l]
 have:=O j _ (Q4D s)
 simpa using this
end Go.Emb

namespace Go.Emb
open Go.RowKit Go.Hm
variable {P : Program} {w w0 w1 w' w'' : World} {K : Value → World → Prop} {σ σ0 σ1 σ' : Q5}
theorem Q1D {t e:TypeId} {sz b:Nat} {z:Value} [ts:TS P t e] [tz:TZ P e sz b z] {a:Addr} {n c i:Nat} (f:i<n) (d:K (.pointer (some (a.add (i*sz)))) w):indexAddr P t (.slice (some a) n c) (I i) w K:=by
 rw[Si (by omega) (by omega)]
 simpa using d
theorem Qy.nx {D:Nat→Prop} {a:List Nat} {n:Nat} {m:Nat→Nat→Bool} (h:Qy σ w a n m) (k:Nxt D w σ w' σ') (d: ∀b∈a,¬D b):Qy σ' w' a n m:=
 ⟨h.1,fun i c=>(h.2 i c).nx k (d _ (List.getElem_mem c))⟩
theorem Qy.set {a:List Nat} {n i j:Nat} {b:Bool} {m:Nat→Nat→Bool} (h:Qy σ w a n m) (f:i<a.length) (o:Upd w a[i] w') (g:Y1 σ w' a[i] ((bools n (m i)).set j (.bool b))):Qy σ w' a n (Bl m i j b):=by
 refine ⟨h.1,fun k c=>?_⟩
 by_cases e:k=i
 ·subst e
  rw[Q4i] at g
  have:Bl m k j b k=fun x=>if x=j then b else m k x:=by funext x;simp[Bl]
  rw[this];exact g
 ·have:Bl m i j b k=m k:=by funext x;simp[Bl,e]
  rw[this]
  refine (h.2 k c).upd o fun d=>e ?_
  rcases Nat.lt_trichotomy k i with hlt | hlt | hlt
  ·have:=List.nodup_iff_pairwise_ne.1 h.1
   rw[List.pairwise_iff_getElem] at this
   exact absurd d (this k i c f hlt)
  ·exact hlt
  ·have:=List.nodup_iff_pairwise_ne.1 h.1
   rw[List.pairwise_iff_getElem] at this
   exact absurd d.symm (this i k f c hlt)
end Go.Emb
namespace Go.Proofs.YtjdiakhipmggjaaGreatDoor
open Go.Emb Go.RowKit Go.Kd Go.Hm
variable {w : World} {K : Value → World → Prop} {σ : Q5} {l : List Cla} {v : Value}
def Np (l:List Cla) (i j:Nat):Bool:=match l[i]? with
 | none=>false
 | some c=>(U3 c).any fun u=>decide (Z2 l u=some j)
theorem Q9d (l:List Cla) (i j:Nat):Np l i j=true↔Hm.Edge l i j:=by
 unfold Np Hm.Edge
 cases h:l[i]? with
 | none=>simp
 | some c=>simp[List.any_eq_true]
theorem Q9T {l:List Cla} {i j:Nat} (h:l.length≤i):Np l i j=false:=by
 unfold Np
 rw[List.getElem?_eq_none h]
set_option maxHeartbeats 4000000 in
theorem Q0M (hs:X2 w σ) (hl:Sl 8 V0 σ v l) (ho:T6 l) (hpos:0<l.length) (hlen:l.length≤1000) (hsm: ∀c∈l,Qh c)
 (h: ∀v' w' σ',Stp w σ w' σ'→Sl 1 Q5Z σ' v' (G8 l)→K v' w'):Q1 P F.ah [v] w K:=Pa (by
 unfold My
 refine Ee (R:=Q5U l.length) (e:=T.a6) (Stp.refl hs) (by decide) fun x0 w1 hk1 ha1 _=>?_
 refine E3 l.length (fun n x w'=> ∃σ' bs,Stp w σ w' σ'∧V5 w.heap.size T.a6 1 (Q5U l.length) σ' w' x bs∧Qy σ' w' bs l.length (Np l)∧bs.length=n∧ ∀b∈bs,w.heap.size≤b∧x.ownBlock≠some b) ⟨σ,[],hk1,ha1,⟨List.nodup_nil,by simp⟩,rfl,by simp⟩ fun n x w2 d hn hinv=>?_
 obtain ⟨σ2,bs,hS2,ha2,hM2,hbl,hb2⟩:=hinv
 refine Q8 (hl.up hS2) ?_
 refine Z0 ?_
 refine Q7 (fun hc=>?_) (fun hc=>?_)
 ·have hn':n<l.length:=by simpa using hc
  have hl2:=hl.up hS2
  refine Q8 hl2 ?_
  refine X32 hS2.sat rfl (by omega) (by omega) fun b w3 hb3 hk3 hm3=>?_
  rw[Q6I] at hm3
  obtain ⟨lv,fv,mv,p1,r1⟩:=hl2.elC hn'
  obtain ⟨g1,_,_,g4,g5⟩:=r1.parts
  have hsmc:=hsm _ (List.getElem_mem hn')
  have hs3:=hk3.sat
  refine U2 hs3 ?_
  (repeat refine J5 Qd ?_)
  refine Q1v (w:=w3) (σ:=σ2) (R:=U7) (sz:=1) (e:=T.c) [l[n].super] (fun t w hb e=>?_) ?_
  ·subst e;exact Yx hb.stp [_] [l[n].super] rfl rfl (by simp;rfl) rfl ⟨⟨rfl,g5⟩,trivial⟩ fun v' w' hk ha _=>Q2I hb hk ha
  (repeat refine J5 Qd ?_)
  rintro t24 t25 t30 t31 t26 t27 t32 w4 hb4 rfl rfl rfl rfl rfl ⟨f27,a27⟩ rfl
  refine Wi f27 a27 g1 rfl (by simp;have:=hsmc.1;omega) (by simp;have:=hsmc.1;omega) fun v5 w5 hn5 hS5 ha5 hat5=>?_
  obtain ⟨σ6,hS6,hv6,le6,_⟩:=ha5.keep hS5
  have hv6:Sl 1 U7 σ6 v5 (U3 l[n]):=hv6
  have hb3w:w.heap.size≤b:=Nat.le_trans hS2.bel.size hb3
  have hm6:=hm3.up hS6
  have ha6:=(ha2.up hk3).up hS6
  have hM6:=(hM2.up hk3).up hS6
  have hS26:=(hS2.trans hk3).trans hS6
  have hxb: ∀k,x.ownBlock=some k→k≠b:=fun k e=>by have:=(ha2.mem k e).2.1;omega
  have hbbs:b∉bs:=fun e=>by have:=(hM2.lt e).1;omega
  clear hm3 ha2 hM2 hS6 hS5 ha5 a27 f27 hn5 hat5
  refine U1 (U3 l[n]).length (fun k w'=>Stp w σ w' σ6∧V5 w.heap.size T.a6 1 (Q5U l.length) σ6 w' x bs∧Qy σ6 w' bs l.length (Np l)∧Y1 σ6 w' b (bools l.length fun j=>((U3 l[n]).take k).any fun u=>decide (Z2 l u=some j)))
   ⟨hS26,ha6,hM6,hm6⟩ fun k w7 d7 hk hinv=>?_
  obtain ⟨hS7,ha7,hM7,hm7⟩:=hinv
  refine Q8 hv6 ?_
  refine Z0 ?_
  refine Q7 (fun hc=>?_) (fun hc=>?_)
  ·have hk':k<(U3 l[n]).length:=by simpa using hc
   refine U9 ?_
   refine Y3 hv6 hk' ?_
   obtain ⟨p2,p3⟩:=hv6.elS hk'
   refine X7 hS7.sat p2 rfl ?_
   refine I4 hS7.sat (hl.up hS7) ?_
   refine K8 ?_
   rw[T7]
   have hnx: ∀f:Nat→Bool,(∀j,f j=(((U3 l[n]).take k).any (fun u=>decide (Z2 l u=some j))||decide (Z2 l (U3 l[n])[k]=some j)))→f=fun j=>((U3 l[n]).take (k+1)).any fun u=>decide (Z2 l u=some j):=by
    intro f hf;funext j;rw[hf,L2 hk']
   cases hfc:Z2 l (U3 l[n])[k] with
   | none=>
    simp only[Option.isSome_none,↓M1,M1,Mb,reduceIte]
    intro d
    refine Y5 hv6.max hk' ⟨hS7,ha7,hM7,?_⟩
    rw[←hnx (fun j=>((U3 l[n]).take k).any fun u=>decide (Z2 l u=some j)) (fun j=>by rw[hfc];simp)]
    exact hm7
   | some j=>
    have hj:=(S2 hfc).1
    simp only[Option.isSome_some,L5,↓M1,M1,Mb,reduceIte]
    refine Q1D hj ?_
    rw[Nat.mul_one]
    refine Zu hm7 (by rw[Q12];exact hj) (by rfl) (by rfl) fun w8 u8 hm8=>?_
    intro d
    rw[Q4i] at hm8
    refine Y5 hv6.max hk' ⟨u8.stp hS7 hb3w hm7.1,ha7.kp (D:=(· =b)) (.of_upd u8 rfl) hxb,hM7.kp (D:=(· =b)) (.of_upd u8 rfl) (fun c hc e=>hbbs (e▸hc)),?_⟩
    rw[←hnx (fun x=>if x=j then true else _) (fun i=>?_)]
    ·exact hm8
    ·rw[hfc]
     by_cases e:i=j
     ·subst e;simp
     ·have: ¬j=i:=fun e'=>e e'.symm
      simp[e,this]
  ·have hk': ¬k<(U3 l[n]).length:=by simpa using hc
   have hk0:k=(U3 l[n]).length:=by omega
   subst hk0
   rw[List.take_of_length_le (Nat.le_refl _)] at hm7
   have hef:(fun j=>(U3 l[n]).any fun u=>decide (Z2 l u=some j))=Np l n:=by
    funext j;unfold Np;rw[List.getElem?_eq_getElem hn']
   rw[hef] at hm7
   have hM8:=(hM7.snoc hbbs hm7).congr (m':=Np l) (fun i _=>by
    by_cases e:i=bs.length
    ·rw[if_pos e,e,hbl]
    ·rw[if_neg e])
   refine Jv (R:=Q5U l.length) (x:=b) hS7 ha7 rfl rfl rfl rfl (by omega) (by omega) fun s v' w9 σ9 hnx hS9 ha9 hat=>?_
   have hdis: ∀c∈bs++[b],w.heap.size≤c∧x.ownBlock≠some c:=by
    intro c hc
    rcases List.mem_append.1 hc with hc | hc
    ·exact hb2 c hc
    ·simp at hc;subst hc;exact ⟨hb3w,fun e=>hxb _ e rfl⟩
   have hlt9: ∀c∈bs++[b],c<w7.heap.size:=fun c hc=>(hM8.lt hc).1
   refine N1 ?_
   refine Z9 (by omega) hn' ⟨σ9,bs++[b],hS9,ha9,hM8.nx hnx (fun c hc=>(hdis c hc).2),by rw[List.length_append,hbl];rfl,fun c hc=>⟨(hdis c hc).1,fun e=>?_⟩⟩
   rcases hat with hat | hat
   ·exact (hdis c hc).2 (hat▸e)
   ·have:=hat c e;have:=hlt9 c hc;omega
 ·have hn0:n=l.length:=by
   have: ¬n<l.length:=by simpa using hc
   omega
  obtain ⟨σ8,hS8,hv8,le8,old8⟩:=ha2.keep hS2
  have hlb:bs.length=l.length:=by omega
  have hM8:Qy σ8 w2 bs l.length (Np l):=⟨hM2.1,fun i hi=>⟨(old8 _ (fun e=>(hb2 _ (List.getElem_mem hi)).2 e.symm)).trans (hM2.2 i hi).1,(hM2.2 i hi).2⟩⟩
  have hpx: ∀i (hi:i<bs.length),Z4 σ8 (Vq 1 x i) [.slice (some ⟨bs[i],0,none⟩) l.length l.length]:=fun i hi=>by
   obtain ⟨cs,h1,_,h2⟩:=hv8.el hi
   have h2:cs=_:=h2
   subst h2;exact h1
  clear ha2 hM2 hS2 le8 old8
  refine U1 l.length (fun k w'=> ∃m,Stp w σ w' σ8∧Qy σ8 w' bs l.length m∧Clos (Hm.Edge l) l.length k 0 0 m) ⟨Np l,hS8,hM8,Clos.start (fun a b _=>Q9d l a b) (fun a b h=>Q9T h)⟩ fun k w3 d3 hk3 hinv=>?_
  obtain ⟨m3,hS3,hM3,hC3⟩:=hinv
  refine Q8 (hl.up hS3) ?_
  refine Z0 ?_
  refine Q7 (fun hc=>?_) (fun hc=>?_)
  ·have hk':k<l.length:=by simpa using hc
   refine U1 l.length (fun i w'=> ∃m,Stp w σ w' σ8∧Qy σ8 w' bs l.length m∧Clos (Hm.Edge l) l.length k i 0 m) ⟨m3,hS3,hM3,hC3⟩ fun i w4 d4 hi4 hinv=>?_
   obtain ⟨m4,hS4,hM4,hC4⟩:=hinv
   refine Q8 (hl.up hS4) ?_
   refine Z0 ?_
   refine Q7 (fun hc=>?_) (fun hc=>?_)
   ·have hi':i<l.length:=by simpa using hc
    refine U1 l.length (fun j w'=> ∃m,Stp w σ w' σ8∧Qy σ8 w' bs l.length m∧Clos (Hm.Edge l) l.length k i j m) ⟨m4,hS4,hM4,hC4⟩ fun j w5 d5 hj5 hinv=>?_
    obtain ⟨m5,hS5,hM5,hC5⟩:=hinv
    refine Q8 (hl.up hS5) ?_
    refine Z0 ?_
    refine Q7 (fun hc=>?_) (fun hc=>?_)
    ·have hj':j<l.length:=by simpa using hc
     have hi6:i<bs.length:=by omega
     have hk6:k<bs.length:=by omega
     have px_i:=hpx i hi6
     have px_k:=hpx k hk6
     have hrd: ∀{w':World} {K:Value→World→Prop} {a b:Nat} {ha:a<bs.length},Hst w5 σ8 w' σ8→b<l.length→K (.bool (m5 a b)) w'→Q2 P T.u (.pointer (some ((⟨bs[a],0,none⟩:Addr).add (b*1)))) w' K:=fun hst hb hK=>by
      rw[Nat.mul_one]
      exact Qc (((hM5.up hst.stp).2 _ _).cell (Q4D hb)) hK
     refine U2 hS5.sat ?_
     (repeat (apply J5;(· intros;(repeat (rename_i hx;subst hx));(repeat' (first | (with_reducible exact O8 rfl) | (with_reducible exact S7 (Stp.bel (by (repeat (first | exact Stp.refl (by (first | assumption | exact Stp.sat (by assumption) | exact Hst.sat (by assumption))) | assumption | refine Stp.trans ?_ (by first | assumption | exact Hst.stp (by assumption)))))) rfl) | (with_reducible intro _) | (simp only[↓M2,M2,Mb,reduceIte]) | (with_reducible refine Q1D au ?_) | (with_reducible refine hrd au au ?_) | (with_reducible show Q2 _ _ _ _ _;first | refine X7 aS aL aR ?_ | refine Y4 aS aL aR ?_ | refine ld aS aL aR ?_) | (with_reducible show indexAddr _ _ _ _ _ _;refine Y3 aL au ?_) | (with_reducible show X3 _ _ _ _ _ _ _ _;refine Q8 aL ?_) | (with_reducible show F2 _ _ _ _ _ _;refine J0 aR ?_) | (with_reducible show pick _ _ _ _ _ _;refine M9 ?_) | (apply I1;intro hh;(try simp only[hh,reduceIte,↓M2,M2,Mb,reduceIte]))));done)))
     cases h1:m5 i j
     ·simp only[reduceIte]
      (repeat (apply J5;(· intros;(repeat (rename_i hx;subst hx));(repeat' (first | (with_reducible exact O8 rfl) | (with_reducible exact S7 (Stp.bel (by (repeat (first | exact Stp.refl (by (first | assumption | exact Stp.sat (by assumption) | exact Hst.sat (by assumption))) | assumption | refine Stp.trans ?_ (by first | assumption | exact Hst.stp (by assumption)))))) rfl) | (with_reducible intro _) | (simp only[↓M2,M2,Mb,reduceIte]) | (with_reducible refine Q1D au ?_) | (with_reducible refine hrd au au ?_) | (with_reducible show Q2 _ _ _ _ _;first | refine X7 aS aL aR ?_ | refine Y4 aS aL aR ?_ | refine ld aS aL aR ?_) | (with_reducible show indexAddr _ _ _ _ _ _;refine Y3 aL au ?_) | (with_reducible show X3 _ _ _ _ _ _ _ _;refine Q8 aL ?_) | (with_reducible show F2 _ _ _ _ _ _;refine J0 aR ?_) | (with_reducible show pick _ _ _ _ _ _;refine M9 ?_) | (apply I1;intro hh;(try simp only[hh,reduceIte,↓M2,M2,Mb,reduceIte]))));done)))
      (intros;(repeat (rename_i hx;subst hx));(try simp only[↓M2,M2,Mb,reduceIte]))
      rename_i w6 hb6
      refine Q1D hj' ?_
      rw[Nat.mul_one]
      refine Eq.subst (motive:=fun V=>Y0 P T.u (.pointer (some ((⟨bs[i],0,none⟩:Addr).add j))) V w6 _) (show Value.bool (m5 i j||(m5 i k&&m5 k j))=_ from by cases h2:m5 i k<;>simp[h1,h2]) ?_
      refine Zu ((hM5.up hb6.stp).2 i hi6) (by rw[Q12];exact hj') (by rfl) (by rfl) fun w7 u7 hm7=>?_
      (try simp only[↓M1,M1,Mb,reduceIte])
      exact Y5 (by omega) hj' ⟨_,u7.stp (hS5.trans hb6.stp) (hb2 _ (List.getElem_mem hi6)).1 hm7.1,(hM5.up hb6.stp).set hi6 u7 hm7,hC5.next hk' hi' hj'⟩
     ·simp only[Bool.true_eq_false,reduceIte]
      (repeat (apply J5;(· intros;(repeat (rename_i hx;subst hx));(repeat' (first | (with_reducible exact O8 rfl) | (with_reducible exact S7 (Stp.bel (by (repeat (first | exact Stp.refl (by (first | assumption | exact Stp.sat (by assumption) | exact Hst.sat (by assumption))) | assumption | refine Stp.trans ?_ (by first | assumption | exact Hst.stp (by assumption)))))) rfl) | (with_reducible intro _) | (simp only[↓M2,M2,Mb,reduceIte]) | (with_reducible refine Q1D au ?_) | (with_reducible refine hrd au au ?_) | (with_reducible show Q2 _ _ _ _ _;first | refine X7 aS aL aR ?_ | refine Y4 aS aL aR ?_ | refine ld aS aL aR ?_) | (with_reducible show indexAddr _ _ _ _ _ _;refine Y3 aL au ?_) | (with_reducible show X3 _ _ _ _ _ _ _ _;refine Q8 aL ?_) | (with_reducible show F2 _ _ _ _ _ _;refine J0 aR ?_) | (with_reducible show pick _ _ _ _ _ _;refine M9 ?_) | (apply I1;intro hh;(try simp only[hh,reduceIte,↓M2,M2,Mb,reduceIte]))));done)))
      (intros;(repeat (rename_i hx;subst hx));(try simp only[↓M2,M2,Mb,reduceIte]))
      rename_i w6 hb6
      refine Q1D hj' ?_
      rw[Nat.mul_one]
      refine Eq.subst (motive:=fun V=>Y0 P T.u (.pointer (some ((⟨bs[i],0,none⟩:Addr).add j))) V w6 _) (show Value.bool (m5 i j||(m5 i k&&m5 k j))=_ from by simp[h1]) ?_
      refine Zu ((hM5.up hb6.stp).2 i hi6) (by rw[Q12];exact hj') (by rfl) (by rfl) fun w7 u7 hm7=>?_
      (try simp only[↓M1,M1,Mb,reduceIte])
      exact Y5 (by omega) hj' ⟨_,u7.stp (hS5.trans hb6.stp) (hb2 _ (List.getElem_mem hi6)).1 hm7.1,(hM5.up hb6.stp).set hi6 u7 hm7,hC5.next hk' hi' hj'⟩
    ·have hj0:j=l.length:=by
      have: ¬j<l.length:=by simpa using hc
      omega
     subst hj0
     refine N1 ?_
     exact Y5 (by omega) hi' ⟨m5,hS5,hM5,hC5.row⟩
   ·have hi0:i=l.length:=by
     have: ¬i<l.length:=by simpa using hc
     omega
    subst hi0
    refine N1 ?_
    exact Y5 (by omega) hk' ⟨m4,hS4,hM4,hC4.round⟩
  ·have hk0:k=l.length:=by
    have: ¬k<l.length:=by simpa using hc
    omega
   subst hk0
   obtain ⟨σ9,hS9,le9,hrows⟩:=hM3.keep hpos (by omega) hS3 (fun b hb=>(hb2 b hb).1)
   refine h _ _ _ hS9 ((hv8.lift le9).conv (by simp[G8,hlb]) fun i hi hj cs hcs=>?_)
   have hcs:cs=_:=hcs
   subst hcs
   refine ⟨_,rfl,?_⟩
   have:=hrows i hi
   have he:(G8 l)[i]=(List.range l.length).map (m3 i):=by
    have hi':i<l.length:=by omega
    simp only[G8,List.getElem_map,List.getElem_range]
    apply List.map_congr_left
    intro j hj
    exact (Clos.all ho hC3 hi' (by simpa using hj)).symm
   rw[he];exact this)
end Go.Proofs.YtjdiakhipmggjaaGreatDoor

namespace Go.Emb
open Go.RowKit Go.Hm
end Go.Emb
namespace Go.Hm
end Go.Hm
namespace Go.Proofs.YtjdiakhipmggjaaGreatDoor
open Go.Emb Go.RowKit Go.Kd Go.Hm
variable {w : World} {K : Value → World → Prop} {σ : Q5} {l : List Cla}
end Go.Proofs.YtjdiakhipmggjaaGreatDoor

namespace Go.Emb
open Go.RowKit Go.Hm
variable {w w0 w1 w' w'' : World} {σ σ0 σ1 σ2 σ' : Q5}
theorem Stp.weak (h:Stp w σ1 w' σ2) (a: ∀b o,σ b=some o→σ1 b=some o):Stp w σ w' σ:=
 ⟨h.bel,fun b o e=>h.sat b o (h.le b o (a b o e)),fun _ _ e=>e,fun _ _=>rfl⟩
end Go.Emb
namespace Go.Proofs.YtjdiakhipmggjaaGreatDoor
open Go.Emb Go.RowKit Go.Kd Go.Hm
variable {w : World} {K : Value → World → Prop} {σ : Q5}
end Go.Proofs.YtjdiakhipmggjaaGreatDoor

namespace Go.Emb
open Go.RowKit Go.Hm
variable {w w' : World} {σ σ' : Q5}
theorem J8.raise {α:Type} {R:Q5→α→List Value→Prop} {B B' sz:Nat} {e:TypeId} {v:Value} {xs:List α} (h:J8 B' e sz R σ w v xs) (m: ∀k,v.ownBlock=some k→B≤k):J8 B e sz R σ w v xs:=by
 obtain ⟨a,f,rfl,o,r,d,n⟩:=h
 refine ⟨a,f,rfl,o,r,fun b c=>⟨(d b c).1,m _ (by subst c;rfl),(d b c).2.2⟩,fun p=>?_⟩
 obtain ⟨g,j,i,rfl,s,q⟩:=n p
 exact ⟨g,j,i,rfl,m g rfl,q⟩
end Go.Emb
namespace Go.Proofs.YtjdiakhipmggjaaGreatDoor
open Go.Emb Go.RowKit Go.Kd Go.Hm
variable {w w' : World} {K : Value → World → Prop} {σ σ' : Q5} {hp tv : Value} {room : Int} {cs : List Cel} {l : List Cla}
theorem RowsIs.rows {B:Nat} {D:Nat→Prop} {g:Value} (h:RowsIs B D σ w g cs) (v:X2 w σ): ∃vs σ',vs.length=cs.length∧X2 w σ'∧SLe σ σ'∧Sl 2 Q3Q σ' g (Qs vs cs)∧(∀i (h:i<vs.length) (E:i<cs.length),J8 B T.g 4 M5 σ w vs[i] cs[i].vals∧ ∀k,vs[i].ownBlock=some k→D k)∧(∀k,¬D k→σ' k=σ k)∧
 ∀i (h:i<vs.length) (E:i<cs.length) vals' m,Kpt (fun k=>vs[i].ownBlock=some k) w m→J8 B T.g 4 M5 σ m vs[i] vals'→RowsIs B D σ m g (cs.set i ⟨cs[i].kind,vals'⟩):=by
 obtain ⟨vs,u,f,t,hD⟩:=h.ex
 obtain ⟨s,r⟩:=List.pairwise_cons.1 t
 obtain ⟨σ',C,z,y,o1⟩:=u.freeze v
 refine ⟨vs,σ',f.1,C,z,y,fun i c d=>⟨f.2 i c d,fun k b=>(hD k).2 ⟨vs[i],by simp[List.getElem_mem c],b⟩⟩,fun k b=>o1 k fun e=>b ((hD k).2 ⟨g,by simp,e.symm⟩),fun i c d vals' m b A=>⟨vs,?_,⟨by simpa using f.1,fun j q o=>?_⟩,t,hD⟩⟩
 ·have e:Qs vs (cs.set i ⟨cs[i].kind,vals'⟩)=Qs vs cs:=by
   refine List.ext_getElem (by simp[Qs]) fun j H J=>?_
   simp only[Qs,List.getElem_zipWith,List.getElem_set]
   split
   ·rename_i e;subst e;rfl
   ·rfl
  rw[e]
  exact u.kp b fun k a n=>s _ (List.getElem_mem c) k a n
 ·have p:j<cs.length:=by simpa using o
  simp only[List.getElem_set]
  by_cases e:i=j
  ·subst e;simp only[if_pos];exact A
  ·simp only[if_neg e]
   refine (f.2 j q p).kp b fun k a n=>?_
   have hp:=List.pairwise_iff_getElem.1 r
   rcases Nat.lt_or_gt_of_ne e with hlt | hlt
   ·exact hp i j c q hlt k n a
   ·exact hp j i q c hlt k a n
theorem Q9a {i:Nat} (a:i<cs.length) {vals':List Val} (h:vals'.length=cs[i].vals.length):Z1 (cs.set i ⟨cs[i].kind,vals'⟩)=Z1 cs:=by
 unfold Z1
 rw[List.map_set]
 simp only[h]
 have b:1+(cs[i].vals.length:Int)=(cs.map (fun c=>1+(c.vals.length:Int)))[i]'(by simpa using a):=by simp
 rw[b,List.set_getElem_self]
set_option maxHeartbeats 1000000 in
theorem X1h {B:Nat} {D:Nat→Prop} {r i:Int} {v:Val} (hs:X2 w σ) (hg:Glb σ) (h:HeapIs B D σ w hp tv room cs) (ht:Tab σ tv l) (ok:Ok l) (good: ∀c∈cs,GoodC W6 l cs c) (hv:M5 σ v [I v.sort,I v.n,S v.s,I v.ref])
 (hh: ∀w' σ',Nxt D w σ w' σ'→HeapIs B D σ' w' hp tv room (H6 W6 l cs r i v).1→K (I (H6 W6 l cs r i v).2) w'):Q1 P F.b6 [hp,I r,I i, .agg [I v.sort,I v.n,S v.s,I v.ref].toArray] w K:=Q1Y (by
 unfold Hj
 refine Y9 hs fun q w1 σ1 hk1 hq=>?_
 have h1:=h.up hk1
 have hs1:=hk1.sat
 obtain ⟨σf,sf,lef,hsl,_⟩:=h1.freeze hs1
 refine Q7o sf hsl ?_
 unfold H6 at hh
 refine Jb ?_
 by_cases h0:E4 cs r i=0
 case neg=>
  have e:decide (E4 cs r i=0)=false:=decide_eq_false h0
  rw[if_pos h0] at hh
  rw[e]
  refine J4 ?_
  exact hh _ _ (.of_stp hk1) h1
 have e:decide (E4 cs r i=0)=true:=decide_eq_true h0
 rw[if_neg (fun hn=>hn h0)] at hh
 rw[e]
 refine Z6 ?_
 obtain ⟨j,m,rfl,rfl,hj,hm⟩:=Lg h0
 rw[L4 hj,Int.toNat_natCast] at hh
 have hsl0:=hsl
 obtain ⟨a,lv,rfl,la,ls⟩:=hsl
 obtain ⟨vv,p1,p2,p3⟩:=Sl.elO ls hj
 have hqf:=hq.lift lef
 have lesf:SLe σ σf:=SLe.more ⟨hk1.le⟩ lef
 have htf:=ht.lift lesf
 have hone:vv.cells= #[vv]∧vv.oneCell'=true:=by obtain ⟨a,c,rfl,_⟩:=p2;exact ⟨rfl,rfl⟩
 have hgc:=good cs[j] (List.getElem_mem hj)
 have hif:elem cs[j].kind=[]→m<(Y6 l cs[j].kind).length:=fun e=>by
  rcases hgc.is with h | h
  ·exact absurd e h
  ·rw[←h.2];exact hm
 refine U2 sf ?_
 (repeat (apply J5;(· intros;(repeat (rename_i hx;subst hx));(repeat' (first | (with_reducible exact O8 rfl) | (with_reducible exact S7 (Stp.bel (by (repeat (first | exact Stp.refl (by (first | assumption | exact Stp.sat (by assumption) | exact Hst.sat (by assumption))) | assumption | refine Stp.trans ?_ (by first | assumption | exact Hst.stp (by assumption)))))) rfl) | (with_reducible intro _) | (simp only[↓M2,M2,Mb,reduceIte]) | (with_reducible show Q2 _ _ _ _ _;first | refine X7 aS aL aR ?_ | refine Y4 aS aL aR ?_ | refine ld aS aL aR ?_) | (with_reducible show indexAddr _ _ _ _ _ _;refine Y3 aL au ?_) | (with_reducible show X3 _ _ _ _ _ _ _ _;refine Q8 aL ?_) | (with_reducible show F2 _ _ _ _ _ _;refine J0 aR ?_) | (with_reducible show pick _ _ _ _ _ _;refine M9 ?_) | (with_reducible show Q1 _ _ _ _ _;first | refine Q9q au au au au au au au ?_) | (apply I1;intro hh;(try simp only[hh,reduceIte,↓M2,M2,Mb,reduceIte]))));done)))
 (intros;(repeat (rename_i hx;subst hx)))
 rename_i w2 hb2
 refine Q9O hb2.sat (hg.lift lesf) hsl0 htf ok hv.2.2.2.1 (Ia ok p3 m) fun w3 σ3 hk3=>?_
 have hk13:=(hb2.stp.trans hk3).weak lef.le
 have h3:=h1.up hk13
 have hS3:=hk1.trans hk13
 have hs3:=hk13.sat
 refine Wa ?_
 cases hf:B4 W6 l cs v (Xd l cs[j].kind m) with
 | false=>
  rw[hf] at hh
  simp only[Bool.false_eq_true,if_false] at hh
  refine J4 ?_
  exact hh _ _ (.of_stp hS3) h3
 | true=>
  rw[hf] at hh
  simp only[if_true] at hh
  refine Z6 ?_
  obtain ⟨b,lv',E,hpe,hbB,hm3,hr3,hE,hD⟩:=h3.ex
  obtain ⟨vs,σg,hvl,sg,leg,slg,hrow,hog,hset⟩:=hr3.rows hs3
  obtain ⟨σh,sh,leh,lih,_⟩:=(show Y1 σg w3 b _ from ⟨(hog b hE).trans hm3.1,hm3.2⟩).freeze sg
  cases hpe
  have slh:=slg.lift leh
  have hqh:=(hq.up hk13).lift (leg.more leh)
  have hjv:j<vs.length:=by rw[hvl];exact hj
  have hjo:j<(Qs vs cs).length:=by rw[Dj hvl];exact hj
  obtain ⟨cs5,p5,_,r5⟩:=slh.el hjo
  have eo:(Qs vs cs)[j]=(cs[j].kind,vs[j]):=by simp[Qs]
  rw[eo] at r5
  obtain ⟨rfl,_⟩:=r5
  refine U2 sh ?_
  (repeat refine J5 Qd ?_)
  (intros;(repeat (rename_i hx;subst hx)))
  rename_i w4 hb4
  have hk34:=Stp.of_below hs3 hb4.stp.bel
  have N34:Nxt (fun _=>False) w3 σ1 w4 σ1:= .of_stp hk34
  obtain ⟨hrj,hrD⟩:=hrow j hjv hj
  have hrj4:=hrj.up hk34
  have hv1:M5 σ1 v [I v.sort,I v.n,S v.s,I v.ref]:=hv
  refine Q3o (w0:=Kn w4) (σ0:=fun _=>none) (x:=v) (Yh hk34.sat) (hrj4.mono (Nat.zero_le B)) hm rfl hv1 (Rep.one hv1) fun p u w5 hkp hb5 hq5=>?_
  have hkp5:Kpt (fun k=>vs[j].ownBlock=some k) w3 w5:=(Kpt.of_below hk34.bel).trans hkp
  have hr5:=hset j hjv hj _ w5 hkp5 (hq5.raise fun k hk=>(hrj.mem hk).1)
  have N35:Nxt (fun k=>vs[j].ownBlock=some k) w3 σ1 w5 σ1:=⟨hkp5,SLe.refl _,fun _ _=>rfl,hb5.sat⟩
  have hm5:=hm3.nx N35 fun e=>hE (hrD b e)
  have hsv:B6 cs j m v=cs.set j ⟨cs[j].kind,cs[j].vals.set m v⟩:=by unfold B6;rw[L4 hj,Int.toNat_natCast,Int.toNat_natCast]
  rw[hsv] at hh
  have htk:=Q9a hj (vals':=cs[j].vals.set m v) (by simp)
  refine hh w5 σ1 ((Nxt.of_stp hS3).chain N35 fun k _ e=>(hD k).2 (.inr (hrD k e))) ⟨b,lv',E,rfl,hbB,?_,hr5,hE,hD⟩
  rw[htk];exact hm5)
end Go.Proofs.YtjdiakhipmggjaaGreatDoor

namespace Go.Emb
open Go.RowKit Go.Hm
variable {P : Program} {w w' : World} {K : Value → World → Prop} {σ σ' : Q5}
theorem X3P {c:List TypeId} {t:TypeId} {cs:List Bool} {k:IntKind} {a b:Int} (h:K (.int k (max a b)) w):X3 P .max c t cs [.int k a, .int k b] w K:=by
 have d:(builtin .max c.toArray t cs.toArray #[.int k a, .int k b]).run P w= .ok (.value (.int k (max a b))) w:=by
  have:=run_max_int2 (P:=P) (w:=w) c.toArray t k k a b
  have e:(if b>a then b else a)=max a b:=by split<;>omega
  rw[e] at this
  simp[builtin,this]
 unfold X3
 rw[P9];unfold K9
 rw[d];exact h
theorem X3K {c:List TypeId} {t:TypeId} {cs:List Bool} {k:IntKind} {a b:Int} (h:K (.int k (min a b)) w):X3 P .min c t cs [.int k a, .int k b] w K:=by
 have d:(builtin .min c.toArray t cs.toArray #[.int k a, .int k b]).run P w= .ok (.value (.int k (min a b))) w:=by
  have:=run_min_int2 (P:=P) (w:=w) c.toArray t k k a b
  have e:(if b<a then b else a)=min a b:=by split<;>omega
  rw[e] at this
  simp[builtin,this]
 unfold X3
 rw[P9];unfold K9
 rw[d];exact h
theorem X3U {α:Type} {R:Q5→α→List Value→Prop} {B sz:Nat} {e:TypeId} {v:Value} {xs ys:List α} {t:TypeId} {d:Nat} {z:Value} [ts:TS P t e] [tz:TZ P e sz d z] (h:J8 B e sz R σ w v (xs++ys))
 (g: ∀f,J8 B e sz R σ w f xs→f.ownBlock=v.ownBlock→K f w):R6 P t v none (some (I xs.length)) none w K:=by
 have m:=h
 obtain ⟨a,b,rfl,i,q,n,o⟩:=m
 rw[List.length_append] at i
 have c:J8 B e sz R σ w (.slice a xs.length b) xs:=h.pre rfl
 generalize (xs++ys).length=N at*
 have hh: ∀w:World,(Instr.sliceBounds true N b none (some (I xs.length)) none).run P w= .ok (0,xs.length,b) w:=by
  intro w
  have p:(xs.length:Int)≤b:=by omega
  have k:xs.length≤b:=by omega
  simp[Instr.sliceBounds,Instr.sliceBound,asIntOf,k]
  try (intros;omega)
 unfold R6
 have:(Instr.sliceAt t (.slice a N b) none (some (I xs.length)) none).run P w= .ok (.slice (if b=0 then a else a.map (·.add (0*sz))) (xs.length-0) (b-0)) w:=by
  simp[Instr.sliceAt,run_underlying ts.h,Instr.slice,hh,L3 tz]
 rw[X9 this]
 have j:(if b=0 then a else a.map (·.add (0*sz)))=a:=by
  split
  ·rfl
  ·cases a<;>simp[add_zero]
 rw[j,Nat.sub_zero,Nat.sub_zero]
 exact g _ c (by cases a<;>rfl)
end Go.Emb
namespace Go.Proofs.YtjdiakhipmggjaaGreatDoor
open Go.Emb Go.RowKit Go.Kd Go.Hm
variable {w w' : World} {K : Value → World → Prop} {σ σ' : Q5} {hp tv : Value} {room : Int} {cs : List Cel} {l : List Cla}
theorem X2J {v:Val} {ds:List Value} {n:Int} {q:Addr} (f:X2 w σ) (d:M5 σ v ds) (c:Z4 σ q [I n]) (h: ∀w',Below w.heap.size w w'→K (.bool (F5 n v)) w'):Q1 P F.bE [.agg ds.toArray, .pointer (some q)] w K:=Ay (by
 obtain ⟨rfl,_⟩:=d
 unfold Nz
 refine Y9 f fun g w1 σ1 a b=>?_
 unfold F5 at h
 refine W2 ?_
 refine ld a.sat b rfl ?_
 refine P2 ?_
 by_cases e:v.sort=4
 ·rw[decide_eq_true e] at h⊢
  (try simp only[↓M1,M1,Mb,reduceIte])
  refine ld a.sat b rfl ?_
  refine X7 a.sat (c.up a) rfl ?_
  (try simp only[↓M1,M1,Mb,reduceIte])
  exact h _ a.bel
 ·rw[decide_eq_false e] at h⊢
  (try simp only[↓M1,M1,Mb,reduceIte])
  exact h _ a.bel)
theorem Q9k {vs:List Value} {c:Cel} (h:vs.length=cs.length+1): ∃v,Qs vs (cs++[c])=Qs (vs.take cs.length) cs++[(c.kind,v)]:=by
 refine ⟨vs[cs.length],?_⟩
 have e:vs=vs.take cs.length++[vs[cs.length]]:=by
  rw[List.take_append_getElem (by omega)]
  rw[List.take_of_length_le (by omega)]
 conv=>lhs;rw[e]
 unfold Qs
 rw[List.zipWith_append (by simp;omega)]
 rfl
theorem X3y {B n:Nat} {D:Nat→Prop} {o:Value} {c:Cel} (y:n=cs.length) (h:RowsIs B D σ w o (cs++[c])) (t: ∀a D',RowsIs B D' σ w a cs→(∀j,D' j→D j)→K a w):R6 P T.f o none (some (I n)) none w K:=by
 subst y
 obtain ⟨vs,s,r,A,hD⟩:=h.ex
 have b:vs.length=cs.length+1:=by rw[r.1];simp
 obtain ⟨C,z⟩:=Q9k (c:=c) b
 rw[z] at s
 have u:cs.length=(Qs (vs.take cs.length) cs).length:=by rw[Dj (by simp[b])]
 rw[u]
 refine X3U s fun a f q=>?_
 refine t a (fun k=> ∃v∈a::vs.take cs.length,v.ownBlock=some k) ⟨vs.take cs.length,f,⟨by simp[b],fun i E m=>?_⟩,?_,fun k=>Iff.rfl⟩ ?_
 ·have g:i<vs.length:=by omega
  have:=r.2 i g (by simp;omega)
  rw[List.getElem_append_left m] at this
  simpa using this
 ·obtain ⟨p,e⟩:=List.pairwise_cons.1 A
  exact List.pairwise_cons.2 ⟨fun v hv k d=>p v (List.mem_of_mem_take hv) k (q▸d),e.sublist (List.take_sublist _ _)⟩
 ·rintro k ⟨v,hv,d⟩
  rcases List.mem_cons.1 hv with rfl | hv
  ·exact (hD k).2 ⟨o,by simp,q▸d⟩
  ·exact (hD k).2 ⟨v,by simp[List.mem_of_mem_take hv],d⟩
set_option maxHeartbeats 2000000 in
theorem X3l {B:Nat} {D:Nat→Prop} {n:Int} (hs:X2 w σ) (h:HeapIs B D σ w hp tv room cs) (hl:Z1 cs≤1048576) (hn:Yu n)
 (hh: ∀w' σ' D',Nxt D w σ w' σ'→HeapIs B D' σ' w' hp tv room (Kb cs n)→(∀j,D' j→D j)→K (.tuple #[]) w'):Q1 P F.c4 [hp,I n] w K:=Q1P (by
 have hcl:=T2 cs
 unfold Hq
 refine Q5k hs fun b0 w1 hb0 hk1 hm1=>?_
 have hm1:Y1 σ w1 b0 [I n]:=hm1
 refine Q85 hm1 rfl ?_
 refine X3P ?_
 refine st0 hm1 (by simp) rfl rfl fun w2 u2 hm2=>?_
 have hm2:Y1 σ w2 b0 [I (max n 0)]:=hm2
 unfold Kb at hh
 obtain ⟨m,hmE⟩:=Int.eq_ofNat_of_zero_le (show 0≤max n 0 by omega)
 rw[hmE] at hm2 hh
 have hmx:(m:Int)≤9223372036854775807:=by have:=hn.2;omega
 have hk2:Stp w σ w2 σ:=u2.stp hk1 hb0 hm1.1
 obtain ⟨σ2,hS2,hq2,le2,_⟩:=hm2.keep hk2 hb0
 have h2:=h.up hS2
 have hs2:=hS2.sat
 obtain ⟨σf,sf,lef,hsl,_⟩:=h2.freeze hs2
 rw[Int.toNat_natCast] at hh
 obtain ⟨a,lv,rfl,la,ls⟩:=hsl
 have hqf:=hq2.le lef.le
 refine U2 sf ?_
 (repeat (apply J5;(· intros;(repeat (rename_i hx;subst hx));(repeat' (first | (with_reducible exact O8 rfl) | (with_reducible exact S7 (Stp.bel (by (repeat (first | exact Stp.refl (by (first | assumption | exact Stp.sat (by assumption) | exact Hst.sat (by assumption))) | assumption | refine Stp.trans ?_ (by first | assumption | exact Hst.stp (by assumption)))))) rfl) | (with_reducible intro _) | (simp only[↓M2,M2,Mb,reduceIte]) | (with_reducible refine X3K ?_) | (with_reducible show Q2 _ _ _ _ _;first | refine X7 aS aL aR ?_ | refine Y4 aS aL aR ?_ | refine ld aS aL aR ?_) | (with_reducible show indexAddr _ _ _ _ _ _;refine Y3 aL au ?_) | (with_reducible show X3 _ _ _ _ _ _ _ _;refine Q8 aL ?_) | (with_reducible show F2 _ _ _ _ _ _;refine J0 aR ?_) | (with_reducible show pick _ _ _ _ _ _;refine M9 ?_) | (apply I1;intro hh;(try simp only[hh,reduceIte,↓M2,M2,Mb,reduceIte]))));done)))
 (intros;(repeat (rename_i hx;subst hx)))
 rename_i w3 hb3
 have hmin:min (m:Int) (cs.length:Int)=((min m cs.length:Nat):Int):=by omega
 rw[hmin]
 refine Es ls none (some (I (min m cs.length:Nat))) 0 (min m cs.length) (.inl ⟨rfl,rfl⟩) (.inr rfl) (Nat.zero_le _) (Nat.min_le_right _ _) fun v3 hv3=>?_
 rw[List.drop_zero,Nat.sub_zero,List.take_eq_take_min.symm] at hv3
 refine Q8 hv3 ?_
 have hk23: ∀{w' σ'},Stp w3 σf w' σ'→Stp w2 σ2 w' σ2:=fun hk=>(hb3.stp.trans hk).weak lef.le
 refine U1 (cs.take m).length (fun i w'=> ∃σ',Stp w3 σf w' σ'∧((cs.take m).take i).any (fun c=>c.vals.any (F5 m))=false) ⟨σf,Stp.refl hb3.sat,rfl⟩ fun i w4 d hi hinv=>?_
 obtain ⟨σ4,hk4,hno⟩:=hinv
 refine Z0 ?_
 refine Q7 (fun hc=>?_) (fun hc=>?_)
 ·have hi':i<(cs.take m).length:=by simpa using hc
  have hv4:=hv3.up hk4
  obtain ⟨vv,p1,p2,p3⟩:=Sl.elO hv4 hi'
  refine Y3 hv4 hi' ?_
  refine Y4 hk4.sat p1 rfl ?_
  refine Y7 hk4.sat (by rfl) rfl (Rep.one (R:=R0) ⟨vv,rfl,p2,p3⟩) fun q5 w5 σ5 hk5 hq5=>?_
  rw[fa]
  refine ld hk5.sat hq5 rfl ?_
  rw[Qa]
  have hq5f:=hqf.lift (SLe.more ⟨hk4.le⟩ ⟨hk5.le⟩)
  refine Ru (F5 m) hk5.sat (p2.up hk5) (fun v ds w6 K hv hs6 hr hlen hK=>Z7 (first:=[]) (caps:=[.pointer (some ⟨b0,0,none⟩)]) (X2J hs6 hr hq5f hK)) fun w6 hb6=>?_
  have hk6:=(hk4.trans hk5).trans (Stp.of_below hk5.sat hb6)
  have hnx:=L2 (p:=fun c:Cel=>c.vals.any (F5 m)) hi'
  cases hany:(cs.take m)[i].vals.any (F5 m) with
  | true=>
   refine J4 ?_
   rw[if_pos (S5 hi' hany)] at hh
   have hS:=hS2.trans (hk23 hk6)
   exact hh _ _ D (.of_stp hS) (h.up hS) fun j hj=>hj
  | false=>
   refine Z6 ?_
   refine N1 ?_
   refine Y5 hv3.max hi' ⟨σ5,hk6,?_⟩
   rw[hnx,hno,hany];rfl
 have hi': ¬i<(cs.take m).length:=by simpa using hc
 rw[E2 hi'] at hno
 rw[if_neg (by rw[hno];simp)] at hh
 have hS4:=hS2.trans (hk23 hk4)
 have h4:=h.up hS4
 refine Pi (fun k (_:Unit) w'=> ∃D',Nxt D w σ w' σ2∧HeapIs B D' σ2 w' (.pointer (some a)) tv room (cs.take k)∧(∀j,D' j→D j)∧k≤cs.length∧(m≤k∨k=cs.length)) cs.length ⟨D, .of_stp hS4,by rw[List.take_length];exact h4,fun j hj=>hj,Nat.le_refl _, .inr rfl⟩ ?_
 rintro again k x d w5 ⟨D5,N5,h5,hD5,hkl,hmk⟩ hag
 have hs5:=N5.sat
 have htk:Z1 (cs.take k)≤1048576:=by
  have e:Z1 cs=Z1 (cs.take k)+Z1 (cs.drop k):=by rw[←T3,List.take_append_drop]
  have:=L9 (cs.drop k)
  omega
 obtain ⟨σg,sg,leg,hslg,_⟩:=h5.freeze hs5
 obtain ⟨ag,lvg,hpe,lag,lsg⟩:=hslg
 cases hpe
 have hqg:=(show Z4 σ2 ⟨b0,0,none⟩ [I (m:Int)] from hq2).lift leg
 have hlk:(cs.take k).length=k:=by rw[List.length_take];omega
 refine U2 sg ?_
 (repeat refine J5 Qd ?_)
 (intros;(repeat (rename_i hx;subst hx)))
 rename_i w6 hb6
 have hk56:Stp w5 σ2 w6 σ2:=hb6.stp.weak leg.le
 have h6:=h5.up hk56
 have N6:=N5.chain (Nxt.of_stp (D:=fun _=>False) hk56) fun j _ e=>e.elim
 rw[hlk]
 refine Q1s ?_
 by_cases hgt:m<k
 case neg=>
  rw[decide_eq_false (show¬(m:Int)<(k:Int) by omega)]
  refine Z6 ?_
  have e:cs.take m=cs.take k:=by
   rcases hmk with e | e
   ·rw[show m=k by omega]
   ·rw[e,List.take_length,List.take_of_length_le (by omega)]
  rw[e] at hh
  exact hh w6 σ2 D5 N6 h6 hD5
 rw[decide_eq_true (show (m:Int)<(k:Int) by omega)]
 refine J4 ?_
 obtain ⟨k1,rfl⟩: ∃k1,k=k1+1:=⟨k-1,by omega⟩
 have hk1l:k1<cs.length:=by omega
 have esnoc:cs.take (k1+1)=cs.take k1++[cs[k1]]:=by rw[List.take_append_getElem hk1l]
 have hk1t:(cs.take k1).length=k1:=by rw[List.length_take];omega
 obtain ⟨σh,sh,leh,hslh,_⟩:=h6.freeze hk56.sat
 obtain ⟨b,lv6,E6,hpb,hbB,hm6,hr6,hE6,hDe6⟩:=h6.ex
 cases hpb
 obtain ⟨ah,lvh,hpe,lah,lsh⟩:=hslh
 cases hpe
 rw[L7,fa]
 refine Ya hm6 rfl ?_
 obtain ⟨al,capl,hle⟩:=hr6.len
 rw[hlk] at hle
 subst hle
 rw[Q1n]
 refine Zi ⟨by omega,by omega⟩ ?_
 have ek:((k1+1:Nat):Int)-1=(k1:Int):=by omega
 rw[ek]
 have hkk:k1<(cs.take (k1+1)).length:=by omega
 obtain ⟨vvk,pk,pk2,_⟩:=Sl.elO lsh hkk
 have evk:((cs.take (k1+1))[k1]'hkk).vals=cs[k1].vals:=by simp
 rw[evk] at pk2
 refine U2 sh ?_
 (repeat refine J5 Qd ?_)
 (intros;(repeat (rename_i hx;subst hx)))
 rename_i w7 hb7
 have hk67:Stp w6 σ2 w7 σ2:=hb7.stp.weak leh.le
 have htn:=L9 (cs.take k1)
 have etk:Z1 (cs.take (k1+1))=Z1 (cs.take k1)+(1+(cs[k1].vals.length:Int)):=by
  rw[esnoc,T3];simp[Z1]
 rw[G3 (by omega) (by omega)]
 refine Zi ⟨by omega,by omega⟩ ?_
 have eu:Z1 (cs.take (k1+1))-(1+(cs[k1].vals.length:Int))=Z1 (cs.take k1):=by omega
 rw[eu]
 have hm7:=hm6.up hk67
 have hr7:=hr6.up hk67
 rw[L7,fa]
 refine Zu hm7 (by simp) rfl rfl fun w8 u8 hm8=>?_
 have N78:=Nxt.of_upd hk67.sat u8 hm7.1
 have hr8:=hr7.nx N78 fun j hj e=>hE6 (e▸hj)
 rw[L7,fa]
 refine Ya hm8 rfl ?_
 rw[esnoc] at hr8
 refine X3y hk1t.symm hr8 fun lv9 E9 hr9 hE9=>?_
 rw[L7,fa]
 refine Zu hm8 (by simp) hr9.shape.1 hr9.shape.2 fun w9 u9 hm9=>?_
 have N89:=Nxt.of_upd N78.sat u9 hm8.1
 have hE9b: ¬E9 b:=fun e=>hE6 (hE9 b e)
 have hr9':=hr9.nx N89 fun j hj e=>hE9b (e▸hj)
 have hDb:D5 b:=(hDe6 b).2 (.inl rfl)
 have N9:Nxt D w σ w9 σ2:=((N6.chain (Nxt.of_stp (D:=fun _=>False) hk67) fun j _ e=>e.elim).chain N78 fun j _ e=>e▸hD5 b hDb).chain N89 fun j _ e=>e▸hD5 b hDb
 refine hag k1 _ _ (Nat.lt_succ_self _) ⟨fun j=>j=b∨E9 j,N9,⟨b,lv9,E9,rfl,hbB,hm9,hr9',hE9b,fun j=>Iff.rfl⟩,fun j hj=>?_,by omega, .inl (by omega)⟩
 rcases hj with rfl | hj
 ·exact hD5 _ hDb
 ·exact hD5 j ((hDe6 j).2 (.inr (hE9 j hj))))
end Go.Proofs.YtjdiakhipmggjaaGreatDoor

namespace Go.Emb
open Go.RowKit Go.Hm
variable {P : Program} {w w' w0 : World} {K : Value → World → Prop} {σ σ' σ0 : Q5}
theorem Q60 {a:List TypeId} {t:TypeId} {b:List Bool} {xs:List Value} {v:Value} (h:(Builtin.copy_ a.toArray t xs.toArray).run P w= .ok v w') (d:K v w'):X3 P .copy a t b xs w K:=by
 have c:(builtin .copy a.toArray t b.toArray xs.toArray).run P w= .ok (.value v) w':=by simp[builtin,h]
 unfold X3
 rw[P9];unfold K9
 rw[c];exact d
theorem X2v {α:Type} {R:Q5→α→List Value→Prop} {sz:Nat} {e:TypeId} {v u:Value} {xs ys:List α} {t J D:TypeId} {cb:List Bool} {C:Nat} {z:Value} [hr:Rep R] [ts:TS P t e] [tz:TZ P e sz C z] (L:Stp w0 σ0 w σ) (ha:J8 w0.heap.size e sz R σ w v xs) (W:Sl sz R σ u ys) (B:ys.length=xs.length)
 (h: ∀w',Kpt (fun k=>v.ownBlock=some k) w w'→Stp w0 σ0 w' σ→J8 w0.heap.size e sz R σ w' v ys→K (I ys.length) w'):X3 P .copy [t,J] D cb [v,u] w K:=by
 obtain ⟨i,hi,N,am,H⟩:=tz.info
 have m:(P.info? e).map (·.size)=some sz:=by rw[hi];simp[N]
 obtain ⟨a,f,rfl,U,V,o,c3⟩:=ha
 have E:=W
 obtain ⟨X,p,rfl,k1,k2,k3,k4⟩:=W
 by_cases h0:ys.length=0
 ·have s:ys=[]:=List.eq_nil_of_length_eq_zero h0
  subst s
  have hx:xs=[]:=List.eq_nil_of_length_eq_zero (by rw[←B];rfl)
  subst hx
  refine Q60 (Q4P w t J D e sz a X f p ts.h m) ?_
  exact h w Kpt.refl L ⟨a,f,rfl,U,V,o,c3⟩
 ·obtain ⟨a2,Y,d,he,n1,Z,n3,n4,n5⟩:=E.cells L.sat
  injection he with e1 _ e3
  subst e1;subst e3
  cases X with
  | none=>have:=k3 rfl;omega
  | some Q=>
   obtain ⟨g,c,n,rfl,q1,q2,O,q4,q5⟩:=c3 (by omega)
   have al:ys.length*sz≤f*sz:=Nat.mul_le_mul_right _ (by omega)
   have r:=Q4O (P:=P) w t J D e sz g c ys.length f Q p n e d ts.h m O Z (fun j v hv=>n3 Q rfl j v hv) (by rw[Z];omega) n4
   obtain ⟨q,M⟩:=Un (cs:=(n.toList.take c++d++n.toList.drop (c+d.length)).toArray) O
   rw[←B]
   refine Q60 r ?_
   have ag:=Array.length_toList (xs:=n)
   refine h _ (Kpt.of_upd q rfl) (q.stp L q1 q2) ⟨_,f,(by rw[B]),by rw[B];exact U,V,fun b A=>⟨(o b A).1,(o b A).2.1,by rw[q.size];exact (o b A).2.2.1,(o b A).2.2.2⟩,fun _=>⟨g,c,_,rfl,q1,q2,M,?_,fun j y s=>?_⟩⟩
   ·simp;omega
   ·have hj:j<ys.length:=(List.getElem?_eq_some_iff.1 s).1
    have ae:j*sz+sz≤ys.length*sz:=by rw[←Nat.succ_mul];exact Nat.mul_le_mul_right _ hj
    have:=n5 j y s
    rw[List.toList_toArray,List.append_assoc,List.drop_append,List.drop_eq_nil_of_le (by rw[List.length_take];omega),List.nil_append,List.length_take,show c+j*sz-min c n.toList.length=j*sz by omega,List.drop_append_of_le_length (by omega),List.take_append_of_le_length (by rw[List.length_drop];omega)]
    exact this
theorem Nxt.stp' {D:Nat→Prop} (N:Nxt D w σ w' σ') (a:Stp w0 σ0 w σ) (f: ∀k,D k→w0.heap.size≤k):Stp w0 σ0 w' σ':=
 ⟨⟨N.kp.os.trans a.bel.os,N.kp.tape.trans a.bel.tape,N.kp.output.trans a.bel.output,Nat.le_trans a.bel.size N.kp.size,fun k d=>(N.kp.block k (Nat.lt_of_lt_of_le d a.bel.size) fun h=>absurd (f k h) (by omega)).trans (a.bel.block k d)⟩,N.sat,fun b o e=>N.le.le b o (a.le b o e),fun b c=>(N.old b (Nat.lt_of_lt_of_le c a.bel.size)).trans (a.old b c)⟩
end Go.Emb
namespace Go.Proofs.YtjdiakhipmggjaaGreatDoor
open Go.Emb Go.RowKit Go.Kd Go.Hm
variable {w w' : World} {K : Value → World → Prop} {σ σ' : Q5} {hp tv : Value} {room : Int} {cs : List Cel} {l : List Cla}
theorem RowsIs.nil {B:Nat}:RowsIs B (fun _=>False) σ w (.slice none 0 0) []:=
 ⟨[],J8.of_acc V5.nil,⟨rfl,fun i h=>absurd h (Nat.not_lt_zero i)⟩,List.pairwise_singleton _ _,fun k=>by simp[Value.ownBlock]⟩
set_option maxHeartbeats 1000000 in
theorem X1o (X:X2 w σ) (hh:R9 σ hp tv room cs) (hl:Z1 cs≤1048576)
 (h: ∀v w' σ' D,Stp w σ w' σ'→RowsIs w.heap.size D σ' w' v cs→K v w'):Q1 P F.aO [hp] w K:=Q07 (by
 obtain ⟨a,lv,rfl,la,Y⟩:=hh
 have ae:=T2 cs
 unfold Oo
 rw[L7,fa]
 refine ld X la rfl ?_
 refine Q8 Y ?_
 refine E3 cs.length (fun n x w'=> ∃σ' D,Stp w σ w' σ'∧RowsIs w.heap.size D σ' w' x (cs.take n)) ⟨σ,_,Stp.refl X,RowsIs.nil⟩ fun n x w1 d hn y=>?_
 obtain ⟨σ1,D1,f,H⟩:=y
 refine Z0 ?_
 refine Q7 (fun U=>?_) (fun U=>?_)
 ·have c:n<cs.length:=by simpa using U
  have z:=Y.up f
  obtain ⟨vv,p1,p2,Z⟩:=Sl.elO z c
  have am:(cs[n].vals.length:Int)≤1048576:=by
   have e:Z1 cs=Z1 (cs.take n)+Z1 (cs.drop n):=by rw[←T3,List.take_append_drop]
   have e2:Z1 (cs.drop n)=(1+(cs[n].vals.length:Int))+Z1 (cs.drop (n+1)):=by
    rw[List.drop_eq_getElem_cons c];simp only[Z1,List.map_cons,List.sum_cons]
   have W:=L9 (cs.take n)
   have Q:=L9 (cs.drop (n+1))
   omega
  refine Y3 z c ?_
  refine Y4 f.sat p1 rfl ?_
  refine Y7 f.sat (by rfl) rfl (Rep.one (R:=R0) ⟨vv,rfl,p2,Z⟩) fun q w2 σ2 b o=>?_
  have u:=f.trans b
  have C:=p2.up b
  rw[fa]
  refine ld b.sat o rfl ?_
  refine Q8 C ?_
  refine Q96 (sz:=4) (R:=M5) (x0:=Val.zero) b.sat rfl (by decide) ⟨rfl,by decide⟩ (by omega) (by omega) fun N w3 g V p=>?_
  have J:=u.trans g
  rw[fa]
  refine ld g.sat (o.up g) rfl ?_
  have L:=(J8.of_acc V).mono (B':=w.heap.size) u.bel.size
  refine X2v J L (C.up g) (by simp) fun w4 O m B=>?_
  have W:=(H.up b).up g
  have t: ∀j,N.ownBlock=some j→ ¬D1 j:=fun j r hD=>by
   have:=((H.up b).mem hD).2.1;have:=p j r;omega
  have N4:Nxt (fun k=>N.ownBlock=some k) w3 σ2 w4 σ2:=⟨O,SLe.refl _,fun _ _=>rfl,m.sat⟩
  have Q:=W.nx N4 fun j r e=>t j e r
  rw[fa]
  refine ld (i:=0) m.sat o rfl ?_
  have A:=B
  obtain ⟨a3,ac,M,_⟩:=A
  refine W0 (cells:= #[S cs[n].kind,N]) (by rw[M];kernel_rfl) ?_
  refine Q9g m.sat m.bel.size Q B t Z (by rw[List.length_take];omega) fun s ap w5 σ5 D5 N5 E h5 _ _=>?_
  refine N1 ?_
  refine Z9 (by omega) c ⟨σ5,D5,N5.stp' m fun j r=>(Q.mem (E j r)).1,?_⟩
  rw[List.take_add_one,List.getElem?_eq_getElem c]
  exact h5
 ·have c: ¬n<cs.length:=by simpa using U
  rw[List.take_of_length_le (by omega)] at H
  exact h _ _ _ _ f H)
end Go.Proofs.YtjdiakhipmggjaaGreatDoor

namespace Go.Proofs.YtjdiakhipmggjaaGreatDoor
open Go.Emb Go.RowKit Go.Kd Go.Hm
variable {w : World} {K : Value → World → Prop} {σ : Q5} {l : List Cla} {v : Value}
theorem Q4B {c:Cla} {n:X0} (h:Sx c n=none):B7 c n=none:=by
 unfold B7 Sx at*
 rw[List.findIdx?_eq_none_iff] at h
 rw[List.find?_eq_none]
 intro m a
 have:=h m a
 simpa using this
theorem Q7m {c:Cla} {n:X0} {i:Nat} (h:Sx c n=some i): ∃a:i<c.methods.length,B7 c n=some c.methods[i]:=by
 unfold B7 Sx at*
 obtain ⟨a,e,d⟩:=List.findIdx?_eq_some_iff_getElem.1 h
 refine ⟨a,List.find?_eq_some_iff_getElem.2 ⟨e,i,a,rfl,fun j b=>?_⟩⟩
 have:=d j b
 simpa using this
theorem Q0N {n:X0} (h:lk l n=none):Z2 l n=none:=by
 cases b:Z2 l n with
 | none=>rfl
 | some i=>obtain ⟨c,a,_⟩:=Zg b;rw[h] at a;cases a
set_option maxHeartbeats 1000000 in
theorem Q9M {n:X0} (ok:Ok l): ∀(k:Nat) {c:Cla} {cs:List Value} {w:World} {σ:Q5} {K:Value→World→Prop},K7 l c.name<k→lk l c.name=some c→X2 w σ→Sl 8 V0 σ v l→V0 σ c cs→
 (∀pv cv hv w' Z,Stp w σ w' Z→E7 Z (o2 (V4 l c n)) [S (o2 (V4 l c n)).name,pv,S (o2 (V4 l c n)).result, .bool (o2 (V4 l c n)).abs,I (o2 (V4 l c n)).locals,cv,hv]→
  K (.tuple #[S (o1 (V4 l c n)), .agg [S (o2 (V4 l c n)).name,pv,S (o2 (V4 l c n)).result, .bool (o2 (V4 l c n)).abs,I (o2 (V4 l c n)).locals,cv,hv].toArray, .bool (V4 l c n).isSome]) w')→
 Q1 P F.aM [v, .agg cs.toArray,S n] w K:=by
 intro k
 induction k with
 | zero=>
  intro c cs w σ K hk
  omega
 | succ k ih=>
  intro c cs w σ K hk hc hs hv hr h
  refine Kg ?_
  obtain ⟨lv,fv,mv,rfl,g1,g2,g3,g4,g5⟩:=hr
  have C:=Q4p ok.acy hc n
  generalize hf:(fun u=>match lk l u with | none=>none | some d=>match B7 d n with | some m=>some (u,m) | none=>V4 l d n)=f at C
  unfold Nn
  refine Y9 hs fun a w1 σ1 H a2=>?_
  refine N0 H.sat fun b w2 σ2 hb U a4=>?_
  have N:w.heap.size≤b:=M8 hb H
  have ao:=a2.up U
  have g1:=(g1.up H).up U
  refine U1 c.like.length (fun i w'=> ∃Z,Stp w σ w' Z∧SLe σ2 Z∧Y1 Z w' b [S [], .slice none 0 0,S [], .bool false,I 0, .slice none 0 0, .slice none 0 0]∧(c.like.take i).findSome? f=none) ⟨σ2,H.trans U,SLe.refl _,a4,rfl⟩ fun i w3 d hi af=>?_
  obtain ⟨σ3,e,O,ah,A⟩:=af
  have Q:=hv.up e
  have X:=ao.lift O
  have D:=g1.lift O
  (try simp only[↓M1,M1,Mb,reduceIte])
  refine ld e.sat X rfl ?_
  refine Q8 D ?_
  refine Z0 ?_
  refine Q7 (fun hh=>?_) (fun hh=>?_)
  ·have g:i<c.like.length:=by simpa using hh
   (try simp only[↓M1,M1,Mb,reduceIte])
   refine ld e.sat X rfl ?_
   refine Y3 D g ?_
   obtain ⟨p0,_⟩:=D.elS g
   refine X7 e.sat p0 rfl ?_
   obtain ⟨d,hd⟩:=ok.full c (V2 hc).2.1 _ (List.getElem_mem g)
   obtain ⟨V,bo,_⟩:=V2 hd
   have p:f c.like[i]=match B7 d n with | some m=>some (c.like[i],m) | none=>V4 l d n:=by rw[←hf];simp only[hd]
   refine Cz e.sat Q hd fun j hj bk=>?_
   obtain ⟨ag,ap⟩:=List.getElem?_eq_some_iff.1 hj
   refine Y3 Q ag ?_
   obtain ⟨bp,bn,bq,p1,r1⟩:=Q.elC ag
   rw[ap] at p1 r1
   refine Y4 e.sat p1 rfl ?_
   refine Y7 e.sat (by rfl) rfl (Rep.one r1) fun q w4 σ4 o L=>?_
   refine Y4 o.sat L rfl ?_
   refine Q7r o.sat (RCl_lift r1 ⟨o.le⟩) fun w5 σ5 t=>?_
   refine K8 ?_
   rw[T7]
   have B:=(e.trans o).trans t
   have E:=(ah.step o).step t
   have a7:=L.up t
   have r5:=RCl_lift r1 ⟨(o.trans t).le⟩
   have M:=t.sat
   have a5:SLe σ2 σ5:=O.more ⟨(o.trans t).le⟩
   clear L p1 r1 p0 X D o t
   cases ho:Sx d n with
   | some i2=>
    obtain ⟨a9,a0⟩:=Q7m ho
    rw[a0] at p
    simp only[Option.isSome_some,L5,↓M1,M1,Mb,reduceIte]
    obtain ⟨_,_,a6,_,_⟩:=r5.parts
    obtain ⟨pv,cv,bx,p2,r2⟩:=a6.elM a9
    refine U2 M ?_
    (repeat refine J5 Qd ?_)
    (intros;(repeat (rename_i hx;subst hx));(try simp only[↓M2,M2,Mb,reduceIte]))
    rename_i w6 ak
    refine F8 (E.step ak.stp) (B.trans ak.stp) N rfl rfl (Rep.one r2) fun w8 ar ax=>?_
    refine V1 ax rfl ?_
    have Y:=C.trans (Xl g A p)
    rw[Y] at h
    rw[V]
    exact h _ _ _ w8 σ5 ar.stp r2
   | none=>
    rw[Q4B ho] at p
    simp only[Option.isSome_none,↓M1,M1,Mb,reduceIte]
    refine Y4 M a7 rfl ?_
    have bm:=Xw ok.acy hc (by simp[U3,List.getElem_mem g]:c.like[i]∈U3 c) hd
    refine ih (by rw[V];omega) (by rw[V];exact hd) M (hv.up B) r5 fun pv cv bz w8 σ8 z W=>?_
    refine J7 (vs:=[_,_,_]) rfl ?_
    refine J7 (vs:=[_,_,_]) rfl ?_
    refine J7 (vs:=[_,_,_]) rfl ?_
    refine Y7 z.sat (by rfl) rfl (Rep.one W) fun q w9 σ9 y ba=>?_
    have aa:=(B.trans z).trans y
    have ad:=(E.step z).step y
    have R:=RMe_lift W ⟨y.le⟩
    have av:SLe σ2 σ9:=a5.more ⟨(z.trans y).le⟩
    have aq:=y.sat
    cases Y:V4 l d n with
    | some r=>
     obtain ⟨s,m⟩:=r
     rw[Y] at p R ba
     clear W z y
     simp only[Y,Option.isSome_some,↓M1,M1,Mb,reduceIte]
     refine U2 aq ?_
     (repeat refine J5 Qd ?_)
     (intros;(repeat (rename_i hx;subst hx));(try simp only[↓M2,M2,Mb,reduceIte]))
     rename_i bj J
     refine F8 (ad.step J.stp) (aa.trans J.stp) N rfl rfl (Rep.one R) fun a1 ab ac=>?_
     refine V1 ac rfl ?_
     have aw:=C.trans (Xl g A p)
     rw[aw] at h
     exact h _ _ _ a1 σ9 ab.stp R
    | none=>
     rw[Y] at p
     simp only[Option.isSome_none,↓M1,M1,Mb,reduceIte]
     refine Y5 (by have:=g1.max;omega) g ⟨σ9,aa,av,ad,?_⟩
     rw[Xp g A];exact p
  ·have g: ¬i<c.like.length:=by simpa using hh
   rw[List.take_of_length_le (by omega)] at A
   refine Gk ?_
   refine F8 ah e N rfl rfl (Rep.one (Qv (σ:=σ3))) fun w5 B E=>?_
   refine V1 E rfl ?_
   have Y:=C.trans A
   rw[Y] at h
   exact h _ _ _ w5 σ3 B.stp Qv
set_option maxHeartbeats 1000000 in
theorem Q7Z {k n:X0} (hs:X2 w σ) (hv:Sl 8 V0 σ v l) (ok:Ok l)
 (h: ∀pv cv hv w' M,Stp w σ w' M→E7 M (o2 (V3 l k n)) [S (o2 (V3 l k n)).name,pv,S (o2 (V3 l k n)).result, .bool (o2 (V3 l k n)).abs,I (o2 (V3 l k n)).locals,cv,hv]→
  K (.tuple #[S (o1 (V3 l k n)), .agg [S (o2 (V3 l k n)).name,pv,S (o2 (V3 l k n)).result, .bool (o2 (V3 l k n)).abs,I (o2 (V3 l k n)).locals,cv,hv].toArray, .bool (V3 l k n).isSome]) w'):
 Q1 P F.bh [v,S k,S n] w K:=Gu (by
 unfold La
 refine N0 hs fun b w1 σ1 hb W a6=>?_
 refine I4 W.sat (hv.up W) ?_
 unfold V3 at h
 generalize hF:(fun c:Cla=>(B7 c n).map (c.name,·))=F1 at h
 have am: ∀c,F1 c=(B7 c n).map (c.name,·):=fun c=>by rw[←hF]
 refine Pi (fun m x w'=> ∃s J M,m=(chain l s).length∧x=I (L5 (Z2 l s))∧chain l k=J++chain l s∧Stp w σ w' M∧Y1 M w' b [S [], .slice none 0 0,S [], .bool false,I 0, .slice none 0 0, .slice none 0 0]∧J.findSome? F1=none)
  (chain l k).length ⟨k,[],σ1,rfl,rfl,rfl,W,a6,rfl⟩ ?_
 rintro V m x d w2 ⟨s,J,σ2,rfl,rfl,a,B,aj,e⟩ E
 have H:=hv.up B
 have ab:=B.sat
 refine K8 ?_
 rw[T7]
 cases A:lk l s with
 | some c=>
  obtain ⟨ao,a2,i,U,Y⟩:=V2 A
  obtain ⟨t,X⟩:=List.getElem?_eq_some_iff.1 Y
  simp only[U,Option.isSome_some,L5,↓M1,M1,Mb,reduceIte]
  refine Y3 H t ?_
  obtain ⟨lv,fv,mv,y,L⟩:=H.elC t
  rw[X] at y L
  refine Y4 ab y rfl ?_
  refine Q7r ab L fun w3 σ3 p=>?_
  refine K8 ?_
  rw[T7]
  have g:=B.trans p
  have j:=H.up p
  have z:=aj.step p
  have u:=p.sat
  replace y:=y.up p
  replace L:=RCl_lift L ⟨p.le⟩
  have o:chain l s=c::chain l c.super:=by rw[T8 ok.acy s,A]
  cases Q:Sx c n with
  | some i2=>
   obtain ⟨a4,av⟩:=Q7m Q
   simp only[Option.isSome_some,L5,↓M1,M1,Mb,reduceIte]
   obtain ⟨_,_,a1,_,_⟩:=L.parts
   obtain ⟨pv,cv,bc,p2,r2⟩:=a1.elM a4
   clear p
   refine U2 u ?_
   (repeat refine J5 Qd ?_)
   (intros;(repeat (rename_i hx;subst hx));(try simp only[↓M2,M2,Mb,reduceIte]))
   rename_i w4 an
   refine F8 (z.step an.stp) (g.trans an.stp) hb rfl rfl (Rep.one r2) fun w8 a0 a3=>?_
   refine V1 a3 rfl ?_
   have C:(chain l k).findSome? F1=some (c.name,c.methods[i2]):=by
    rw[a,List.findSome?_append,e,o,List.findSome?_cons,am,av];rfl
   rw[C] at h
   exact h _ _ _ w8 σ3 a0.stp r2
  | none=>
   simp only[Option.isSome_none,↓M1,M1,Mb,reduceIte]
   refine Y3 j t ?_
   (try simp only[↓M1,M1,Mb,reduceIte])
   refine ld u y rfl ?_
   refine I4 u j ?_
   refine E (chain l c.super).length _ _ (by rw[o,List.length_cons];omega) ⟨c.super,J++[c],σ3,rfl,rfl,by rw[a,o];simp,g,z,?_⟩
   rw[List.findSome?_append,e]
   simp[am,Q4B Q]
 | none=>
  rw[Q0N A]
  simp only[Option.isSome_none,↓M1,M1,Mb,reduceIte]
  have ag:(chain l k).findSome? F1=none:=by rw[a,Yj A,List.append_nil];exact e
  rw[ag] at h
  clear E e a
  refine I4 ab H ?_
  refine Pi (fun m x w'=> ∃s J M,m=(chain l s).length∧x=I (L5 (Z2 l s))∧chain l k=J++chain l s∧Stp w σ w' M∧Y1 M w' b [S [], .slice none 0 0,S [], .bool false,I 0, .slice none 0 0, .slice none 0 0]∧J.findSome? (fun c=>V4 l c n)=none)
   (chain l k).length ⟨k,[],σ2,rfl,rfl,rfl,B,aj,rfl⟩ ?_
  rintro V m x d w3 ⟨s,J,σ3,rfl,rfl,a,g,z,e⟩ E
  have j:=hv.up g
  have u:=g.sat
  refine K8 ?_
  rw[T7]
  cases A:lk l s with
  | some c=>
   obtain ⟨ao,a2,i,U,Y⟩:=V2 A
   obtain ⟨t,X⟩:=List.getElem?_eq_some_iff.1 Y
   simp only[U,Option.isSome_some,L5,↓M1,M1,Mb,reduceIte]
   refine Y3 j t ?_
   obtain ⟨lv,fv,mv,y,L⟩:=j.elC t
   rw[X] at y L
   refine Y4 u y rfl ?_
   have o:chain l s=c::chain l c.super:=by rw[T8 ok.acy s,A]
   refine Q9M ok _ (Nat.lt_succ_self _) (by rw[ao];exact A) u j L fun pv cv bg w8 σ8 Z ac=>?_
   refine J7 (vs:=[_,_,_]) rfl ?_
   refine J7 (vs:=[_,_,_]) rfl ?_
   refine J7 (vs:=[_,_,_]) rfl ?_
   refine Y7 Z.sat (by rfl) rfl (Rep.one ac) fun q w9 σ9 D a5=>?_
   have f:=Z.trans D
   have ae:=g.trans f
   have ai:=z.step f
   have R:=RMe_lift ac ⟨D.le⟩
   have aa:=D.sat
   have ak:=j.up f
   replace y:=y.up f
   cases Q:V4 l c n with
   | some r=>
    obtain ⟨s,m⟩:=r
    rw[Q] at R a5
    clear ac Z D f
    simp only[Q,Option.isSome_some,↓M1,M1,Mb,reduceIte]
    refine U2 aa ?_
    (repeat refine J5 Qd ?_)
    (intros;(repeat (rename_i hx;subst hx));(try simp only[↓M2,M2,Mb,reduceIte]))
    rename_i bb N
    refine F8 (ai.step N.stp) (ae.trans N.stp) hb rfl rfl (Rep.one R) fun aw af ah=>?_
    refine V1 ah rfl ?_
    have C:(chain l k).findSome? (fun c=>V4 l c n)=some (s,m):=by
     rw[a,List.findSome?_append,e,o,List.findSome?_cons,Q];rfl
    unfold V4 at C
    rw[C] at h
    exact h _ _ _ aw σ9 af.stp R
   | none=>
    simp only[Option.isSome_none,↓M1,M1,Mb,reduceIte]
    refine Y3 ak t ?_
    (try simp only[↓M1,M1,Mb,reduceIte])
    refine ld aa y rfl ?_
    refine I4 aa ak ?_
    refine E (chain l c.super).length _ _ (by rw[o,List.length_cons];omega) ⟨c.super,J++[c],σ9,rfl,rfl,by rw[a,o];simp,ae,ai,?_⟩
    rw[List.findSome?_append,e]
    simp[Q]
  | none=>
   rw[Q0N A]
   simp only[Option.isSome_none,↓M1,M1,Mb,reduceIte]
   have O:(chain l k).findSome? (fun c=>V4 l c n)=none:=by rw[a,Yj A,List.append_nil];exact e
   refine Gk ?_
   refine F8 z g hb rfl rfl (Rep.one (Qv (σ:=σ3))) fun w7 az ax=>?_
   refine V1 ax rfl ?_
   unfold V4 at O
   rw[O] at h
   exact h _ _ _ w7 σ3 az.stp Qv)
end Go.Proofs.YtjdiakhipmggjaaGreatDoor

namespace Go.Hm
open Go.Kd
theorem Q2e: ∀(xs:List X0) (x:X0),xs≠[]→H7 (xs++[x])=H7 xs++[44]++x
 | [],_,h=>absurd rfl h
 | [a],x,_=>by simp[H7]
 | a::b::r,x,_=>by
  have:=Q2e (b::r) x (by simp)
  simp only[List.cons_append] at this⊢
  simp only[H7,this]
  simp
theorem Q2i {xs:List X0} {n:Nat} (h:n<xs.length):H7 (xs.take (n+1))=H7 (xs.take n)++(if 0<n then [44] else [])++xs[n]:=by
 rw[List.take_add_one,List.getElem?_eq_getElem h]
 simp only[Option.toList_some]
 cases n with
 | zero=>simp[H7]
 | succ n=>
  rw[Q2e _ _ (by intro e;have:=congrArg List.length e;simp only[List.length_take,List.length_nil] at this;omega)]
  simp
end Go.Hm
namespace Go.Proofs.YtjdiakhipmggjaaGreatDoor
open Go.Emb Go.RowKit Go.Kd Go.Hm
variable {w : World} {K : Value → World → Prop} {σ : Q5} {l : List Cla} {v : Value}
theorem Q5T {m:Hm.Met} {cs:List Value} (z:X2 w σ) (y:E7 σ m cs) (s:SmM m) (k:NmM m) (h: ∀w' A,Stp w σ w' A→K (S (Qu m)) w'):Q1 P F.aY [.agg cs.toArray] w K:=Ap (by
 obtain ⟨pv,M,O,rfl,f,L,U,Q,H,N⟩:=y
 unfold De
 refine Y9 z fun q w1 σ1 g j=>?_
 have f:=f.up g
 have D: ∀n,(H7 (m.params.take n)).length≤101000000:=fun n=>by
  have:=Rd (m.params.take n) fun x t=>k.2 x (List.mem_of_mem_take t)
  have C:(m.params.take n).length≤1000000:=by rw[List.length_take];have:=s.1;omega
  have J:(m.params.take n).length*101≤1000000*101:=Nat.mul_le_mul_right _ C
  omega
 have c:=g.sat
 refine E3 m.params.length (fun n a w'=>w'=w1∧a=S ([40]++H7 (m.params.take n))) ⟨rfl,by simp[H7]⟩ fun n a R d E i=>?_
 obtain ⟨B,rfl⟩:=i
 subst B
 have r:=D n
 (try simp only[↓M1,M1,Mb,reduceIte])
 refine ld c j rfl ?_
 refine Q8 f ?_
 refine Z0 ?_
 refine Q7 (fun o=>?_) (fun o=>?_)
 ·have b:n<m.params.length:=by simpa using o
  have t:=k.2 _ (List.getElem_mem b)
  refine U9 ?_
  obtain ⟨u,_⟩:=f.elS b
  refine Q7 (fun p=>?_) (fun p=>?_)
  ·have e:0<n:=by have:=of_decide_eq_true p;omega
   refine Rc (by simp only[List.length_append,List.length_cons,List.length_nil];omega) ?_
   intro d
   (try simp only[↓M1,M1,Mb,reduceIte])
   refine ld c j rfl ?_
   refine Y3 f b ?_
   refine X7 c u rfl ?_
   refine Rc (by simp only[List.length_append,List.length_cons,List.length_nil];omega) ?_
   (try simp only[↓M1,M1,Mb,reduceIte])
   refine Z9 f.max b ⟨rfl,?_⟩
   rw[Q2i b,if_pos e];simp
  ·have e: ¬0<n:=by have:=of_decide_eq_false p;omega
   intro d
   (try simp only[↓M1,M1,Mb,reduceIte])
   refine ld c j rfl ?_
   refine Y3 f b ?_
   refine X7 c u rfl ?_
   refine Rc (by simp only[List.length_append,List.length_cons,List.length_nil];omega) ?_
   (try simp only[↓M1,M1,Mb,reduceIte])
   refine Z9 f.max b ⟨rfl,?_⟩
   rw[Q2i b,if_neg e];simp
 ·have b: ¬n<m.params.length:=by simpa using o
  rw[List.take_of_length_le (by omega)] at r⊢
  refine Rc (by simp only[List.length_append,List.length_cons,List.length_nil];omega) ?_
  (try simp only[↓M1,M1,Mb,reduceIte])
  refine ld c j rfl ?_
  refine Rc (by simp only[List.length_append,List.length_cons,List.length_nil];have:=k.1;omega) ?_
  exact h _ _ g)
end Go.Proofs.YtjdiakhipmggjaaGreatDoor

namespace Go.Emb
open Go.RowKit Go.Hm
structure FinT (B : Nat) (F : Option Obj → Prop) (w w' : World) : Prop where
  os : w'.os = w.os
  tape : w'.tape = w.tape
  output : w'.output = w.output
  size : w.heap.size ≤ w'.heap.size
  old : ∀ k, k < w.heap.size → k < B → w'.heap[k]? = w.heap[k]?
  new : ∀ k, k < w.heap.size → w'.heap[k]? = w.heap[k]? ∨ F (w'.heap[k]?)
section
variable {P : Program} {B : Nat} {F : Option Obj → Prop} {w w' w0 : World} {σ : Q5} {v V : Value} {K : Value → World → Prop}
theorem FinT.of_below (h:Below w.heap.size w w'):FinT B F w w':=⟨h.os,h.tape,h.output,h.size,fun k a _=>h.block k a,fun k a=> .inl (h.block k a)⟩
theorem FinT.of_upd {b:Nat} (h:Upd w b w') (c:B≤b) (hF:F (w'.heap[b]?)):FinT B F w w':=
 ⟨h.os,h.tape,h.output,by rw[h.size];exact Nat.le_refl _,fun k a hB=>h.block k (by omega),fun k a=>by
  by_cases e:k=b
  ·subst e;exact .inr hF
  ·exact .inl (h.block k e)⟩
theorem FinT.hst (h:FinT w0.heap.size F w w') (c:X2 w0 σ) (a:Hst w0 σ w σ):Hst w0 σ w' σ:=
 ⟨Stp.of_below c ⟨h.os.trans a.stp.bel.os,h.tape.trans a.stp.bel.tape,h.output.trans a.stp.bel.output,Nat.le_trans a.stp.bel.size h.size,fun k b=>(h.old k (Nat.lt_of_lt_of_le b a.stp.bel.size) b).trans (a.stp.bel.block k b)⟩⟩
theorem X3d {A:(World→World→Prop)→(World→Prop)→Prop} (F:Option Obj→Prop) (a:X2 w σ) (h:A (FinT w.heap.size F) (fun w'=>Hst w σ w' σ)):dr w A:=
 Kf _ _ ⟨Stp.of_below a (Below.refl _ _).drew⟩ (fun _ _ c b=>b.hst a c) h
theorem Q52 (h:V=v):dk (FinT B F) (fun v _=>V=v) w v w:=⟨.of_below (Below.refl _ _),h⟩
theorem X2g (a:Below w.heap.size w w') (h:V=v):dk (FinT B F) (fun v _=>V=v) w v w':=⟨.of_below a,h⟩
def X2T (B n:Nat) (F:Option Obj→Prop) (v:Value) (w:World):Prop:= ∃g,v= .pointer (some ⟨g,0,none⟩)∧B≤g∧((∃cs:List Value,∃e,cs.length=n∧w.heap[g]? =some (.cells cs.toArray e (0,0)))∨F (w.heap[g]?))
def X3f (B:Nat) (F:Option Obj→Prop) (v:Value) (w:World):Prop:= ∃g,v= .pointer (some ⟨g,0,none⟩)∧B≤g∧F (w.heap[g]?)
theorem Ku {w:World} {g:Nat} {o:Obj} (h:w.heap[g]? =some o):g<w.heap.size:=(Array.getElem?_eq_some_iff.1 h).1
theorem Q8d {n:Nat} (hF: ¬F none):Ss (FinT B F) (X2T B n F):=by
 rintro v w w' ⟨g,rfl,hB,c⟩ d
 have a:g<w.heap.size:=by
  rcases c with ⟨cs,e,_,h⟩ | h
  ·exact Ku h
  ·cases b:w.heap[g]? with
   | none=>rw[b] at h;exact absurd h hF
   | some o=>exact Ku b
 rcases d.new g a with h | h
 ·exact ⟨g,rfl,hB,by rw[h];exact c⟩
 ·exact ⟨g,rfl,hB, .inr h⟩
theorem Q8H (hF: ¬F none):Ss (FinT B F) (X3f B F):=by
 rintro v w w' ⟨g,rfl,hB,b⟩ d
 have a:g<w.heap.size:=by
  cases c:w.heap[g]? with
  | none=>rw[c] at b;exact absurd b hF
  | some o=>exact Ku c
 rcases d.new g a with h | h
 ·exact ⟨g,rfl,hB,by rw[h];exact b⟩
 ·exact ⟨g,rfl,hB,h⟩
end
end Go.Emb
namespace Go.Hm
open Go.Kd
theorem Q6z {a b:List Hm.Met} (h: ∀m,m∈a↔m∈b):Mj a=Mj b:=by
 rw[Bool.eq_iff_iff]
 simp only[Mj,List.any_eq_true]
 constructor
 ·rintro ⟨x,c,y,d,e⟩;exact ⟨x,(h x).1 c,y,(h y).1 d,e⟩
 ·rintro ⟨x,c,y,d,e⟩;exact ⟨x,(h x).2 c,y,(h y).2 d,e⟩
theorem X0d {α:Type} {a b:List α} {p:α→Bool} (h: ∀m,m∈a↔m∈b):a.any p=b.any p:=by
 rw[Bool.eq_iff_iff]
 simp only[List.any_eq_true]
 constructor
 ·rintro ⟨x,c,y⟩;exact ⟨x,(h x).1 c,y⟩
 ·rintro ⟨x,c,y⟩;exact ⟨x,(h x).2 c,y⟩
def Yy (m:Hm.Met):List X0:=m.params++if m.result=[] then [] else [m.result]
def Jt (c:Cla):List X0:=c.fields.map (·.kind)++c.methods.flatMap Yy
theorem Q97 {l:List Cla} {c:Cla}:(Jt c).any (fun s=> !O7 l s)=B2 l c:=by
 unfold Jt B2 Yy
 rw[List.any_append,List.any_map,List.any_flatMap]
 congr 1
 congr 1
 funext m
 rw[List.any_append]
 by_cases e:m.result=[]
 ·simp[e]
 ·simp[e,Bool.or_comm]
def upB (l:List Cla) (i k:Nat):Bool:=decide (k=i)||Xe l (Y2 l i) (Y2 l k)
def Xg (l:List Cla) (i n:Nat):List Hm.Met:=(List.range n).flatMap fun k=>if upB l i k then (l.getD k Cla.zero).methods else []
theorem Q8p {l:List Cla} {i n:Nat}:Xg l i (n+1)=Xg l i n++if upB l i n then (l.getD n Cla.zero).methods else []:=by
 unfold Xg
 rw[List.range_succ,List.flatMap_append]
 simp
theorem Q4s {l:List Cla} (o:T6 l) {i:Nat} (h:i<l.length) (m:Hm.Met):m∈Xg l i l.length↔m∈Lp l (Y2 l i):=by
 unfold Xg Lp
 simp only[List.mem_flatMap,List.mem_range]
 have b: ∀k,k<l.length→lk l (Y2 l k)=some (l.getD k Cla.zero):=fun k g=>Xz o g
 constructor
 ·rintro ⟨k,g,d⟩
  split at d
  ·rename_i hu
   refine ⟨Y2 l k,?_,by rw[b k g];exact d⟩
   rw[Ut,Q0I]
   simp only[upB,Bool.or_eq_true,decide_eq_true_eq,Jr] at hu
   rcases hu with rfl | hu
   ·exact .inl ⟨rfl,_,b _ g⟩
   ·exact .inr hu
  ·simp at d
 ·rintro ⟨u,hu,d⟩
  rw[Ut] at hu
  obtain ⟨c,p⟩:=hu.right
  obtain ⟨z,q,j,t,a⟩:=V2 p
  obtain ⟨n,A⟩:=List.getElem?_eq_some_iff.1 a
  have f:Y2 l j=u:=by
   unfold Y2;rw[List.getD_eq_getElem?_getD,a];exact z
  refine ⟨j,n,?_⟩
  rw[p] at d
  have:upB l i j=true:=by
   simp only[upB,Bool.or_eq_true,decide_eq_true_eq,Jr]
   rw[Q0I] at hu
   rcases hu with ⟨e,_⟩ | hu
   ·left
    have y:=b i h
    rw[e,←f] at y
    have r:=T6.find o (i:=i) (c:=l[i]) (List.getElem?_eq_getElem h)
    have s:l[i].name=Y2 l i:=by unfold Y2;rw[List.getD_eq_getElem?_getD,List.getElem?_eq_getElem h];rfl
    rw[s,e,t] at r
    simpa using r
   ·right;rw[f];exact hu
  rw[if_pos this,List.getD_eq_getElem?_getD,a]
  exact d
theorem Q95 {l:List Cla} {i n:Nat} {m:Hm.Met} (h:m∈Xg l i n) (e:n≤l.length): ∃c∈l,m∈c.methods:=by
 unfold Xg at h
 simp only[List.mem_flatMap,List.mem_range] at h
 obtain ⟨k,d,a⟩:=h
 split at a
 ·have b:k<l.length:=by omega
  rw[List.getD_eq_getElem?_getD,List.getElem?_eq_getElem b] at a
  exact ⟨l[k],List.getElem_mem _,a⟩
 ·simp at a
def A4 (a:List Hm.Met) (x y:Nat):Bool:=decide ((a.getD x Hm.Met.zero).name=(a.getD y Hm.Met.zero).name)&& !decide (Qu (a.getD x Hm.Met.zero)=Qu (a.getD y Hm.Met.zero))
theorem Bi {α:Type} {l:List α} {d:α} {n:Nat} (h:n<l.length):l.getD n d=l[n]:=by rw[List.getD_eq_getElem?_getD,List.getElem?_eq_getElem h];rfl
theorem Q9R {a:List Hm.Met} {x y:Nat} (b:x<a.length) (c:y<a.length) (h:A4 a x y=true):Mj a=true:=by
 unfold Mj
 rw[List.any_eq_true]
 refine ⟨a[x],List.getElem_mem _,?_⟩
 rw[List.any_eq_true]
 refine ⟨a[y],List.getElem_mem _,?_⟩
 unfold A4 at h
 rwa [Bi b,Bi c] at h
theorem X0a {d:List Hm.Met} (h: ∀x y,x<d.length→y<x→A4 d x y=false):Mj d=false:=by
 unfold Mj
 rw[List.any_eq_false]
 intro a k
 rw[List.any_eq_true]
 rintro ⟨b,j,f⟩
 obtain ⟨x,g,rfl⟩:=List.getElem_of_mem k
 obtain ⟨y,i,rfl⟩:=List.getElem_of_mem j
 have e:A4 d y x=A4 d x y:=by
  unfold A4
  congr 1
  ·rw[Bool.eq_iff_iff];simp[eq_comm]
  ·congr 1;rw[Bool.eq_iff_iff];simp[eq_comm]
 have c:A4 d x y=true:=by unfold A4;rw[Bi g,Bi i];exact f
 rcases Nat.lt_trichotomy x y with hlt | heq | hlt
 ·rw[←e,h y x i hlt] at c;cases c
 ·subst heq;simp[A4] at c
 ·rw[h x y g hlt] at c;cases c
end Go.Hm
namespace Go.Proofs.YtjdiakhipmggjaaGreatDoor
open Go.Emb Go.RowKit Go.Kd Go.Hm
variable {w : World} {K : Value → World → Prop} {σ : Q5} {l : List Cla} {v : Value}
theorem Po {c:Cla} (h:Zo c=false):c.fields.length≤32∧c.methods.length≤32∧ ∀m∈c.methods,m.params.length≤32:=by
 simp only[Zo,Bool.or_eq_false_iff,decide_eq_false_iff_not,List.any_eq_false] at h
 obtain ⟨⟨⟨b,f⟩,d⟩,e⟩:=h
 refine ⟨by omega,by omega,fun m a=>?_⟩
 have:=b m a
 simp only[We,Bool.or_eq_true,decide_eq_true_eq,not_or] at this
 omega
set_option maxHeartbeats 8000000 in
theorem Q6v {i:Nat} (hs:X2 w σ) (hv:Sl 8 V0 σ v l) (ok:Ok l) (own:T6 l) (hlen:l.length≤1000) (hmn: ∀c∈l,Zo c=false) (hi:i<l.length)
 (h: ∀w' σ',Stp w σ w' σ'→K (I (V7 l l[i])) w'):Q1 P F.bb [v,I i] w K:=Bp (by
 unfold Vy
 obtain ⟨lv,fv,mv,p0,r0⟩:=hv.elC hi
 refine Y3 hv hi ?_
 refine Y4 hs p0 rfl ?_
 refine Y7 hs (by rfl) rfl (Rep.one r0) fun q w1 σ1 hk1 hq1=>?_
 have r1:=RCl_lift r0 ⟨hk1.le⟩
 obtain ⟨_,gf,gm,g4,_⟩:=r1.parts
 have hv1:=hv.up hk1
 have hnm:=ok.nm _ (List.getElem_mem hi)
 have hcm:=hmn _ (List.getElem_mem hi)
 have hname:Y2 l i=l[i].name:=Ke hi
 generalize hcE:l[i]=c at*
 obtain ⟨mf,mm,mp⟩:=Po hcm
 have e64:Yw l c=true→V7 l c=64:=fun e=>by unfold V7;simp[e]
 have e65:Yw l c=false→B2 l c=true→V7 l c=65:=fun e e2=>by unfold V7;simp[e,e2]
 have e66:Yw l c=false→B2 l c=false→Zh l c=true→V7 l c=66:=fun e e2 e3=>by unfold V7;simp[e,e2,e3]
 have e67:Yw l c=false→B2 l c=false→Zh l c=false→Dl l c=true→V7 l c=67:=fun e e2 e3 e4=>by unfold V7;simp[e,e2,e3,e4]
 have e0:Yw l c=false→B2 l c=false→Zh l c=false→Dl l c=false→V7 l c=0:=fun e e2 e3 e4=>by unfold V7;simp[e,e2,e3,e4]
 generalize V7 l c=R at*
 clear p0 r0 r1 hcm
 refine U1 c.fields.length (fun n w'=> ∃σ',Stp w σ w' σ'∧SLe σ1 σ'∧(c.fields.take n).any (fun f=>(Jk l c.super f.name).isSome)=false) ⟨σ1,hk1,SLe.refl _,rfl⟩ fun n w2 d hn hinv=>?_
 obtain ⟨σ2,hS2,le2,hno⟩:=hinv
 have hq2:=hq1.lift le2
 have gf2:=gf.lift le2
 (try simp only[↓M1,M1,Mb,reduceIte])
 refine ld hS2.sat hq2 rfl ?_
 refine Q8 gf2 ?_
 refine Z0 ?_
 refine Q7 (fun hc=>?_) (fun hc=>?_)
 ·have hn':n<c.fields.length:=by simpa using hc
  obtain ⟨pf,_⟩:=gf2.elF hn'
  have hs2:=hS2.sat
  refine U2 hs2 ?_
  (repeat refine J5 Qd ?_)
  (intros;(repeat (rename_i hx;subst hx));(try simp only[↓M2,M2,Mb,reduceIte]))
  rename_i w3 hb3
  refine Q94 hb3.sat (hv.up (hS2.trans hb3.stp)) ok.acy hlen ok.sm fun w4 σ4 hk4=>?_
  refine K8 ?_
  rw[T7]
  have hnx:=L2 (p:=fun f:Fld=>(Jk l c.super f.name).isSome) hn'
  cases hp:(Jk l c.super c.fields[n].name).isSome with
  | true=>
   (try simp only[↓M1,M1,Mb,reduceIte])
   rw[hp,Bool.or_true] at hnx
   have:R=64:=e64 (S5 hn' hp)
   subst this
   exact h _ _ ((hS2.trans hb3.stp).trans hk4)
  | false=>
   (try simp only[↓M1,M1,Mb,reduceIte])
   exact Y5 gf.max hn' ⟨σ4,(hS2.trans hb3.stp).trans hk4,le2.more ⟨(hb3.stp.trans hk4).le⟩,by rw[hnx,hno,hp];rfl⟩
 have hA:Yw l c=false:=by
  have hn': ¬n<c.fields.length:=by simpa using hc
  rw[E2 hn'] at hno;exact hno
 clear hno hc hn e64
 refine Ee (R:=U7) (e:=T.c) hS2 (by decide) fun x3 w3 hk3 ha3 _=>?_
 have hS3:=hS2.trans hk3
 refine E3 c.fields.length (fun n x w'=> ∃σ',Stp w σ w' σ'∧SLe σ1 σ'∧V5 w.heap.size T.c 1 U7 σ' w' x ((c.fields.take n).map (·.kind))) ⟨σ2,hS3,le2,ha3⟩ fun n x w4 d hn hinv=>?_
 obtain ⟨σ4,hS4,le4,ha4⟩:=hinv
 have hq4:=hq1.lift le4
 have gf4:=gf.lift le4
 (try simp only[↓M1,M1,Mb,reduceIte])
 refine ld hS4.sat hq4 rfl ?_
 refine Q8 gf4 ?_
 refine Z0 ?_
 refine Q7 (fun hc=>?_) (fun hc=>?_)
 ·have hn':n<c.fields.length:=by simpa using hc
  obtain ⟨pf,rf⟩:=gf4.elF hn'
  have hkl:=(hnm.2.1 _ (List.getElem_mem hn')).2
  (try simp only[↓M1,M1,Mb,reduceIte])
  refine ld hS4.sat hq4 rfl ?_
  refine Y3 gf4 hn' ?_
  (try simp only[↓M1,M1,Mb,reduceIte])
  refine ld hS4.sat pf rfl ?_
  refine Jv (R:=U7) (x:=c.fields[n].kind) hS4 ha4 ⟨rfl,Nat.le_trans hkl (by decide)⟩ rfl rfl rfl (by rw[List.length_map,List.length_take];omega) (by rw[List.length_map,List.length_take];omega) fun s v' w5 σ5 hnx hS5 ha5 _=>?_
  (try simp only[↓M1,M1,Mb,reduceIte])
  refine Z9 gf.max hn' ⟨σ5,hS5,le4.more hnx.le,?_⟩
  rw[List.take_add_one,List.getElem?_eq_getElem hn',List.map_append]
  exact ha5
 rw[List.take_of_length_le (by
  have: ¬n<c.fields.length:=by simpa using hc
  omega)] at ha4
 clear hc hn hk3 ha3 hS3 hS2 le2 hq2 gf2 hq4 gf4
 have hkl: ∀n,(c.fields.map (·.kind)++(c.methods.take n).flatMap Yy).length≤2000:=fun n=>by
  have h1:=Vp Yy 33 (c.methods.take n) fun m hm=>by
   have:=mp m (List.mem_of_mem_take hm)
   unfold Yy
   split<;>simp<;>omega
  have h2:(c.methods.take n).length≤32:=by rw[List.length_take];omega
  have h3:(c.methods.take n).length*33≤32*33:=Nat.mul_le_mul_right _ h2
  rw[List.length_append,List.length_map];omega
 refine E3 c.methods.length (fun n x w'=> ∃σ',Stp w σ w' σ'∧SLe σ1 σ'∧V5 w.heap.size T.c 1 U7 σ' w' x (c.fields.map (·.kind)++(c.methods.take n).flatMap Yy)) ⟨σ4,hS4,le4,by simpa using ha4⟩ fun n x w5 d hn hinv=>?_
 clear ha4 hS4 le4
 obtain ⟨σ5,hS5,le5,ha5⟩:=hinv
 have hq5:=hq1.lift le5
 have gm5:=gm.lift le5
 have hkn:=hkl n
 (try simp only[↓M1,M1,Mb,reduceIte])
 refine ld hS5.sat hq5 rfl ?_
 refine Q8 gm5 ?_
 refine Z0 ?_
 refine Q7 (fun hc=>?_) (fun hc=>?_)
 ·have hn':n<c.methods.length:=by simpa using hc
  obtain ⟨pv,cv,hv',pm,rm⟩:=gm5.elM hn'
  obtain ⟨gp,_,_,_,gr,_⟩:=rm.parts
  have hpn:=mp _ (List.getElem_mem hn')
  have hrl:=(hnm.2.2 _ (List.getElem_mem hn')).1
  have hnx:(c.methods.take (n+1)).flatMap Yy=(c.methods.take n).flatMap Yy++Yy c.methods[n]:=by
   rw[List.take_add_one,List.getElem?_eq_getElem hn',List.flatMap_append];simp
  refine U9 ?_
  (try simp only[↓M1,M1,Mb,reduceIte])
  refine ld hS5.sat hq5 rfl ?_
  refine Y3 gm5 hn' ?_
  (try simp only[↓M1,M1,Mb,reduceIte])
  refine ld hS5.sat pm rfl ?_
  refine Wi hS5 ha5 gp rfl (by omega) (by omega) fun v6 w6 hn6 hS6 ha6 _=>?_
  (try simp only[↓M1,M1,Mb,reduceIte])
  refine ld hS6.sat hq5 rfl ?_
  refine Y3 gm5 hn' ?_
  (try simp only[↓M1,M1,Mb,reduceIte])
  refine ld hS6.sat pm rfl ?_
  refine Vz ?_
  by_cases he:c.methods[n].result=[]
  ·simp only[he,decide_true,Bool.not_true,↓M1,M1,Mb,reduceIte]
   intro d
   refine Z9 gm.max hn' ⟨σ5,hS6,le5,?_⟩
   rw[hnx]
   unfold Yy
   rw[if_pos he,List.append_nil,←List.append_assoc]
   exact ha6
  ·simp only[he,decide_false,Bool.not_false,↓M1,M1,Mb,reduceIte]
   refine ld hS6.sat hq5 rfl ?_
   refine Y3 gm5 hn' ?_
   (try simp only[↓M1,M1,Mb,reduceIte])
   refine ld hS6.sat pm rfl ?_
   refine Jv (R:=U7) (x:=c.methods[n].result) hS6 ha6 ⟨rfl,Nat.le_trans hrl (by decide)⟩ rfl rfl rfl (by rw[List.length_append];omega) (by rw[List.length_append];omega) fun s v' w7 σ7 hn7 hS7 ha7 _=>?_
   intro d
   (try simp only[↓M1,M1,Mb,reduceIte])
   refine Z9 gm.max hn' ⟨σ7,hS7,le5.more hn7.le,?_⟩
   rw[hnx]
   unfold Yy at ha7⊢
   rw[if_neg he]
   simpa only[List.append_assoc] using ha7
 rw[List.take_of_length_le (by
  have: ¬n<c.methods.length:=by simpa using hc
  omega)] at ha5
 have hkn:=hkl c.methods.length
 rw[List.take_of_length_le (Nat.le_refl _)] at hkn
 have hkE:B2 l c=(Jt c).any (fun s=> !O7 l s):=Q97.symm
 have hkb: ∀s∈Jt c,s.length≤U0:=fun s hs=>by
  unfold Jt at hs
  rcases List.mem_append.1 hs with hs | hs
  ·obtain ⟨f,hf,rfl⟩:=List.mem_map.1 hs
   exact Nat.le_trans (hnm.2.1 f hf).2 (by decide)
  ·obtain ⟨m,hm,hs⟩:=List.mem_flatMap.1 hs
   unfold Yy at hs
   rcases List.mem_append.1 hs with hs | hs
   ·exact Nat.le_trans ((hnm.2.2 m hm).2 s hs) (by decide)
   ·split at hs
    ·simp at hs
    ·simp at hs;subst hs;exact Nat.le_trans (hnm.2.2 m hm).1 (by decide)
 obtain ⟨σ6,hS6,hv6,lee6,_⟩:=ha5.keep hS5
 have le6:=le5.more ⟨lee6⟩
 clear ha5 hq5 gm5 hc hn
 change Sl 1 U7 σ6 x (Jt c) at hv6
 refine U1 (Jt c).length (fun n w'=>Stp w σ w' σ6∧((Jt c).take n).any (fun s=> !O7 l s)=false) ⟨hS6,rfl⟩ fun n w7 d hn hinv=>?_
 obtain ⟨hS7,hno⟩:=hinv
 refine Q8 hv6 ?_
 refine Z0 ?_
 refine Q7 (fun hc=>?_) (fun hc=>?_)
 ·have hn':n<(Jt c).length:=by simpa using hc
  refine Y3 hv6 hn' ?_
  obtain ⟨pk,_⟩:=hv6.elS hn'
  refine X7 hS7.sat pk rfl ?_
  refine Q8Y hS7.sat (hv.up hS7) (hkb _ (List.getElem_mem hn')) ?_
  have hnx:=L2 (p:=fun s=> !O7 l s) hn'
  cases hp:O7 l (Jt c)[n] with
  | false=>
   (try simp only[↓M1,M1,Mb,reduceIte])
   have:R=65:=e65 hA (by rw[hkE];exact S5 hn' (by simp[hp]))
   subst this
   exact h _ _ hS7
  | true=>
   (try simp only[↓M1,M1,Mb,reduceIte])
   exact Y5 hv6.max hn' ⟨hS7,by rw[hnx,hno,hp];rfl⟩
 have hB:B2 l c=false:=by
  have hn': ¬n<(Jt c).length:=by simpa using hc
  rw[E2 hn'] at hno;rw[hkE];exact hno
 clear hno hc hn e65 hkE hkb hkn hkl hS5 le5 lee6 hv6
 refine Q0M hS7.sat (hv.up hS7) own (by omega) hlen ok.sm fun vb w8 σ8 hk8 hb8=>?_
 have hS8:=hS7.trans hk8
 refine Ee (R:=E7) (e:=T.d) hS8 (by decide) fun x9 w9 hk9 ha9 _=>?_
 have hml: ∀n,n≤l.length→(Xg l i n).length≤32000:=fun n hn=>by
  unfold Xg
  have h1:=Vp (fun k=>if upB l i k then (l.getD k Cla.zero).methods else []) 32 (List.range n) fun k hk=>by
   have hk':k<l.length:=by have:=List.mem_range.1 hk;omega
   split
   ·rw[Bi hk'];exact (Po (hmn _ (List.getElem_mem _))).2.1
   ·simp
  rw[List.length_range] at h1
  have h3:n*32≤1000*32:=Nat.mul_le_mul_right _ (by omega)
  omega
 have hbl:(G8 l).length=l.length:=by simp[G8]
 refine E3 l.length (fun n x w'=> ∃σ',Stp w σ w' σ'∧SLe σ1 σ'∧SLe σ8 σ'∧V5 w.heap.size T.d 7 E7 σ' w' x (Xg l i n)) ⟨σ8,hS8.trans hk9,le6.more ⟨hk8.le⟩,SLe.refl _,ha9⟩ fun n x w10 d hn hinv=>?_
 clear ha9 hk9 hS7 hS8 le6 hS6 hk8
 obtain ⟨σ10,hS10,le10,leb,ha10⟩:=hinv
 have hv10:=hv.up hS10
 refine Q8 hv10 ?_
 refine Z0 ?_
 refine Q7 (fun hc=>?_) (fun hc=>?_)
 ·have hn':n<l.length:=by simpa using hc
  have hmn1:=hml n hn
  have hsuc:=Q8p (l:=l) (i:=i) (n:=n)
  rw[Bi hn'] at hsuc
  obtain ⟨lv2,fv2,mv2,p2,r2⟩:=hv10.elC hn'
  obtain ⟨_,_,g3,_,_⟩:=r2.parts
  have hmn2:=(Po (hmn _ (List.getElem_mem hn'))).2.1
  refine Zv (fun z w'=>Stp w σ w' σ10∧V5 w.heap.size T.d 7 E7 σ10 w' z (Xg l i (n+1))) ?_ (fun z d w' hz=>?_)
  ·refine P2 ?_
   have happ: ∀{J:Value→World→Prop},upB l i n=true→(∀z w',Stp w σ w' σ10→V5 w.heap.size T.d 7 E7 σ10 w' z (Xg l i (n+1))→J z w')→
    X3 P .append [T.j,T.j] T.j [false,false] [x,mv2] w10 J:=fun hu hJ=>
    Wi hS10 ha10 g3 rfl (by omega) (by omega) fun v' w' _ hS' ha' _=>hJ v' w' hS' (by rw[hsuc,if_pos hu];exact ha')
   by_cases e:n=i
   ·have e1:decide ((n:Int)=(i:Int))=true:=by simp[e]
    rw[e1]
    (try simp only[↓M1,M1,Mb,reduceIte])
    refine Y3 hv10 hn' ?_
    (try simp only[↓M1,M1,Mb,reduceIte])
    refine ld hS10.sat p2 rfl ?_
    exact happ (by simp[upB,e]) fun z w' h1 h2=>⟨h1,h2⟩
   ·have e1:decide ((n:Int)=(i:Int))=false:=by rw[decide_eq_false_iff_not];omega
    rw[e1]
    obtain ⟨cs1,pb,_,rv,rfl,rb⟩:=(hb8.lift leb).el (i:=i) (by rw[hbl];exact hi)
    have hrow:(G8 l)[i]'(by rw[hbl];exact hi)=(List.range l.length).map fun j=>Xe l (Y2 l i) (Y2 l j):=by simp[G8]
    rw[hrow] at rb
    obtain ⟨cs2,pb2,_,hcs2⟩:=rb.el (i:=n) (by simpa using hn')
    have hcs2:cs2=_:=hcs2
    subst hcs2
    simp only[List.getElem_map,List.getElem_range] at pb2
    (try simp only[↓M1,M1,Mb,reduceIte])
    refine Y3 (hb8.lift leb) (by rw[hbl];exact hi) ?_
    refine X7 hS10.sat pb rfl ?_
    refine Y3 rb (by simpa using hn') ?_
    refine X7 hS10.sat pb2 rfl ?_
    (try simp only[↓M1,M1,Mb,reduceIte])
    cases ho:Xe l (Y2 l i) (Y2 l n) with
    | true=>
     (try simp only[↓M1,M1,Mb,reduceIte])
     refine Y3 hv10 hn' ?_
     (try simp only[↓M1,M1,Mb,reduceIte])
     refine ld hS10.sat p2 rfl ?_
     exact happ (by simp[upB,ho]) fun z w' h1 h2=>⟨h1,h2⟩
    | false=>
     (try simp only[↓M1,M1,Mb,reduceIte])
     refine ⟨hS10,?_⟩
     have:upB l i n=false:=by simp[upB,ho,e]
     rw[hsuc,this]
     simpa using ha10
  ·obtain ⟨hS',ha'⟩:=hz
   (try simp only[↓M1,M1,Mb,reduceIte])
   exact Z9 (by omega) hn' ⟨σ10,hS',le10,leb,ha'⟩
 have hn0:n=l.length:=by
  have: ¬n<l.length:=by simpa using hc
  omega
 subst hn0
 obtain ⟨σ11,hS11,hv11,lee11,_⟩:=ha10.keep hS10
 have le11:=le10.more ⟨lee11⟩
 have hml2:=hml _ (Nat.le_refl l.length)
 have hov:Zh l c=Mj (Xg l i l.length):=by
  unfold Zh
  refine (Q6z fun m=>?_).symm
  rw[Q4s own hi,hname]
 have hlk:Dl l c=(!c.abs&&(Xg l i l.length).any fun m=>Yz l c.name m.name):=by
  unfold Dl
  congr 1
  refine (X0d fun m=>?_).symm
  rw[Q4s own hi,hname]
 have hsn: ∀m∈Xg l i l.length,SmM m∧NmM m:=fun m hm=>by
  obtain ⟨c2,hc2,hm2⟩:=Q95 hm (Nat.le_refl _)
  exact ⟨(ok.sm c2 hc2).2.2.2 m hm2,(ok.nm c2 hc2).2.2 m hm2⟩
 generalize Xg l i l.length=ms at hov hlk hsn hml2 hv11
 clear ha10 lee11 hS10 le10 leb hv10 hml hc hb8 hbl
 refine U1 ms.length (fun n w'=> ∃σ',Stp w σ w' σ'∧SLe σ11 σ'∧ ∀a b,a<n→b<a→A4 ms a b=false) ⟨σ11,hS11,SLe.refl _,fun a b h=>by omega⟩ fun n w12 d hn hinv=>?_
 obtain ⟨σ12,hS12,le12,hno⟩:=hinv
 have hv12:=hv11.lift le12
 refine Q8 hv12 ?_
 refine Z0 ?_
 refine Q7 (fun hc=>?_) (fun hc=>?_)
 ·have hn':n<ms.length:=by simpa using hc
  refine U1 n (fun m w'=> ∃σ',Stp w σ w' σ'∧SLe σ11 σ'∧ ∀b,b<m→A4 ms n b=false) ⟨σ12,hS12,le12,fun b h=>by omega⟩ fun m w13 d hm hinv=>?_
  obtain ⟨σ13,hS13,le13,hno2⟩:=hinv
  have hv13:=hv11.lift le13
  refine Z0 ?_
  refine Q7 (fun hc=>?_) (fun hc=>?_)
  ·have hm':m<n:=by simpa using hc
   have hm2:m<ms.length:=by omega
   obtain ⟨pv1,cv1,hv1',pn,rn⟩:=hv13.elM hn'
   obtain ⟨pv2,cv2,hv2',pm,rm⟩:=hv13.elM hm2
   obtain ⟨sn1,sn2⟩:=hsn _ (List.getElem_mem hn')
   obtain ⟨sm1,sm2⟩:=hsn _ (List.getElem_mem hm2)
   have hat:A4 ms n m=(decide (ms[n].name=ms[m].name)&& !decide (Qu ms[n]=Qu ms[m])):=by
    unfold A4;rw[Bi hn',Bi hm2]
   have hs13:=hS13.sat
   have hnx:A4 ms n m=false→ ∀b,b<m+1→A4 ms n b=false:=fun e b hb=>by
    by_cases e2:b=m
    ·subst e2;exact e
    ·exact hno2 b (by omega)
   refine U2 hs13 ?_
   (repeat refine J5 Qd ?_)
   by_cases he:ms[n].name=ms[m].name
   ·have hd:decide (ms[n].name=ms[m].name)=true:=by simp[he]
    simp only[hd,reduceIte]
    (repeat (apply J5;(· intros;(repeat (rename_i hx;subst hx));(repeat' (first | (with_reducible exact O8 rfl) | (with_reducible exact S7 (Stp.bel (by (repeat (first | exact Stp.refl (by (first | assumption | exact Stp.sat (by assumption) | exact Hst.sat (by assumption))) | assumption | refine Stp.trans ?_ (by first | assumption | exact Hst.stp (by assumption)))))) rfl) | (with_reducible intro _) | (simp only[↓M2,M2,Mb,reduceIte]) | (with_reducible show Q2 _ _ _ _ _;first | refine X7 aS aL aR ?_ | refine Y4 aS aL aR ?_ | refine ld aS aL aR ?_) | (with_reducible show indexAddr _ _ _ _ _ _;refine Y3 aL au ?_) | (with_reducible show X3 _ _ _ _ _ _ _ _;refine Q8 aL ?_) | (with_reducible show F2 _ _ _ _ _ _;refine J0 aR ?_) | (with_reducible show pick _ _ _ _ _ _;refine M9 ?_) | (with_reducible show Q1 _ _ _ _ _;first | refine Q5T au au au au ?_) | (apply I1;intro hh;(try simp only[hh,reduceIte,↓M2,M2,Mb,reduceIte]))));done)))
    (intros;(repeat (rename_i hx;subst hx));(try simp only[↓M2,M2,Mb,reduceIte]))
    rename_i w14 hb14
    refine Q5T hb14.sat rm sm1 sm2 fun w15 σ15 hk15=>?_
    refine Vz ?_
    (try simp only[↓M1,M1,Mb,reduceIte])
    have hS15:=(hS13.trans hb14.stp).trans hk15
    by_cases hsg:Qu ms[n]=Qu ms[m]
    ·simp only[hsg,decide_true,Bool.not_true,↓M1,M1,Mb,reduceIte]
     refine Y5 (by omega) hm' ⟨σ15,hS15,le13.more ⟨(hb14.stp.trans hk15).le⟩,hnx ?_⟩
     rw[hat,hsg];simp
    ·simp only[hsg,decide_false,Bool.not_false,↓M1,M1,Mb,reduceIte]
     have:R=66:=e66 hA hB (by rw[hov];exact Q9R hn' hm2 (by rw[hat];simp[he,hsg]))
     subst this
     exact h _ _ hS15
   ·have hd:decide (ms[n].name=ms[m].name)=false:=by simp[he]
    simp only[hd,Bool.false_eq_true,reduceIte]
    (repeat refine J5 Qd ?_)
    (intros;(repeat (rename_i hx;subst hx));(try simp only[↓M2,M2,Mb,reduceIte]))
    rename_i w14 hb14
    (try simp only[↓M1,M1,Mb,reduceIte])
    refine Y5 (by omega) hm' ⟨σ13,hS13.trans hb14.stp,le13,hnx ?_⟩
    rw[hat];simp[he]
  ·have hm0:m=n:=by
    have: ¬m<n:=by simpa using hc
    omega
   subst hm0
   (try simp only[↓M1,M1,Mb,reduceIte])
   refine Y5 hv11.max hn' ⟨σ13,hS13,le13,fun a b ha hb=>?_⟩
   by_cases e:a=m
   ·subst e;exact hno2 b hb
   ·exact hno a b (by omega) hb
 have hC:Zh l c=false:=by
  rw[hov]
  have: ¬n<ms.length:=by simpa using hc
  exact X0a fun x y hx hy=>hno x y (by omega) hy
 clear hno hc hn hv12 hov e66
 refine U1 ms.length (fun n w'=> ∃σ',Stp w σ w' σ'∧SLe σ11 σ'∧(c.abs=true→n=0)∧(ms.take n).any (fun m=>Yz l c.name m.name)=false) ⟨σ12,hS12,le12,fun _=>rfl,rfl⟩ fun n w13 d hn hinv=>?_
 clear hS12 le12
 obtain ⟨σ13,hS13,le13,hab,hno⟩:=hinv
 have hv13:=hv11.lift le13
 have hq13:=hq1.lift (le11.more le13)
 refine Q8 hv13 ?_
 refine Z0 ?_
 by_cases hn':n<ms.length
 ·have e1:decide ((n:Int)<(ms.length:Int))=true:=by simpa using hn'
  rw[e1]
  (try simp only[↓M1,M1,Mb,reduceIte])
  refine ld hS13.sat hq13 rfl ?_
  refine Wa ?_
  (try simp only[↓M1,M1,Mb,reduceIte])
  cases hca:c.abs with
  | true=>
   (try simp only[↓M1,M1,Mb,reduceIte])
   have:R=0:=e0 hA hB hC (by rw[hlk,hca];rfl)
   subst this
   exact h _ _ hS13
  | false=>
   (try simp only[↓M1,M1,Mb,reduceIte])
   obtain ⟨pvn,cvn,hvn,pn,rn⟩:=hv13.elM hn'
   have hs13:=hS13.sat
   have hnx:=L2 (p:=fun m:Hm.Met=>Yz l c.name m.name) hn'
   have hla:Yz l c.name ms[n].name=(!(V3 l c.name ms[n].name).isSome||(o2 (V3 l c.name ms[n].name)).abs):=by
    unfold Yz
    cases V3 l c.name ms[n].name<;>rfl
   generalize hF:(fun o:Option Obj=> ∃cs:List Value,∃e,o=some (.cells cs.toArray e (0,0))∧cs.length=7∧cs[3]? =some (.bool (o2 (V3 l c.name ms[n].name)).abs))=F
   have hFn: ¬F none:=by rw[←hF];rintro ⟨_,_,h,_⟩;cases h
   refine X3d F hs13 ?_
   (repeat (apply J5;(· intros;(repeat (rename_i hx;subst hx));(repeat' (first | (with_reducible exact Q52 rfl) | (with_reducible exact X2g (Stp.bel (by (repeat (first | exact Stp.refl (by (first | assumption | exact Stp.sat (by assumption) | exact Hst.sat (by assumption))) | assumption | refine Stp.trans ?_ (by first | assumption | exact Hst.stp (by assumption)))))) rfl) | (with_reducible intro _) | (simp only[↓M2,M2,Mb,reduceIte]) | (with_reducible show Q2 _ _ _ _ _;first | refine X7 aS aL aR ?_ | refine Y4 aS aL aR ?_ | refine ld aS aL aR ?_) | (with_reducible show indexAddr _ _ _ _ _ _;refine Y3 aL au ?_) | (with_reducible show X3 _ _ _ _ _ _ _ _;refine Q8 aL ?_) | (with_reducible show F2 _ _ _ _ _ _;refine J0 aR ?_) | (with_reducible show pick _ _ _ _ _ _;refine M9 ?_)));done)))
   refine H0 (fun v _=> ∃s,∃ds:List Value,v= .tuple #[s, .agg ds.toArray, .bool (V3 l c.name ms[n].name).isSome]∧ds.length=7∧ds[3]? =some (.bool (o2 (V3 l c.name ms[n].name)).abs)∧ ∀u∈ds,u.oneCell'=true) (fun _ _ _ h _=>h) (fun t180 t185 w hb e1 e2=>?_) ?_
   ·subst e1;subst e2
    refine Q7Z hb.sat (hv.up (hS13.trans hb.stp)) ok fun pv cv hv w' σ' hk hr=>⟨.of_below hk.bel,_,_,rfl,rfl,rfl,Rep.one hr⟩
   refine H0 (fun _ _=>True) (fun _ _ _ _ _=>trivial) (fun t186 w hb e=>?_) ?_
   ·obtain ⟨s,ds,rfl,_⟩:=e
    exact J7 (vs:=[_,_,_]) rfl ⟨.of_below (Below.refl _ _),trivial⟩
   refine H0 (fun v _=> ∃ds:List Value,v= .agg ds.toArray∧ds.length=7∧ds[3]? =some (.bool (o2 (V3 l c.name ms[n].name)).abs)∧ ∀u∈ds,u.oneCell'=true) (fun _ _ _ h _=>h) (fun t186 w hb e=>?_) ?_
   ·obtain ⟨s,ds,rfl,h7⟩:=e
    exact J7 (vs:=[_,_,_]) rfl ⟨.of_below (Below.refl _ _),ds,rfl,h7⟩
   refine J5 (V:= .bool (V3 l c.name ms[n].name).isSome) (fun t186 w hb e=>?_) ?_
   ·obtain ⟨s,ds,rfl,h7⟩:=e
    exact J7 (vs:=[_,_,_]) rfl (Q52 rfl)
   refine H0 (X2T w13.heap.size 7 F) (Q8d hFn) (fun w hb=>?_) ?_
   ·exact Ks hb.sat fun b w' hb2 hk hm=>⟨.of_below hk.bel,b,rfl,Nat.le_trans hb.stp.bel.size hb2, .inl ⟨_,hm.2.choose,rfl,hm.2.choose_spec⟩⟩
   refine Q3U (fun xs _ w=>X3f w13.heap.size F (xs.headD undef) w) (fun xs _ w w' h hT=>Q8H hFn _ w w' h hT) (fun t18 t188 w hb e1 e2=>?_) ?_
   ·obtain ⟨g,rfl,hg,hd⟩:=e1
    obtain ⟨ds,rfl,h7,h3,h1⟩:=e2
    obtain ⟨cs,e,hl7,hh⟩: ∃cs:List Value,∃e,cs.length=7∧w.heap[g]? =some (.cells cs.toArray e (0,0)):=by
     rcases hd with h | h
     ·exact h
     ·rw[←hF] at h
      obtain ⟨cs,e,h4,h5,_⟩:=h
      exact ⟨cs,e,h5,h4⟩
    refine Oc (σ:=fun _=>none) (cs:=cs) (ds:=ds) ⟨rfl,e,hh⟩ hl7 h7 (by rw[List.all_toArray];exact List.all_eq_true.2 h1) fun w' hu hm=>?_
    have hFg:F (w'.heap[g]?):=by
     obtain ⟨_,e',hm'⟩:=hm
     rw[hm',←hF]
     exact ⟨ds,e',rfl,h7,h3⟩
    exact ⟨FinT.of_upd hu hg hFg,g,rfl,hg,hFg⟩
   rintro t179 t183 t184 t180 t185 t186 t187 t188 t189 t18 u15 w14 hb14 rfl rfl rfl rfl rfl _ _ _ rfl _ ⟨g,e,hg,hd⟩
   have e:t18=_:=e
   subst e
   rw[←hF] at hd
   obtain ⟨cs,ty,hh,hl7,h3⟩:=hd
   have hS14:=hS13.trans hb14.stp
   refine Wa ?_
   cases hsm:(V3 l c.name ms[n].name).isSome with
   | false=>
    (try simp only[↓M1,M1,Mb,reduceIte])
    have:R=67:=e67 hA hB hC (by rw[hlk,hca];exact S5 hn' (by rw[hla,hsm];rfl))
    subst this
    exact h _ _ hS14
   | true=>
    (try simp only[↓M1,M1,Mb,reduceIte])
    refine Ya (σ:=fun _=>none) ⟨rfl,ty,hh⟩ h3 ?_
    (try simp only[↓M1,M1,Mb,reduceIte])
    cases hma:(o2 (V3 l c.name ms[n].name)).abs with
    | true=>
     (try simp only[↓M1,M1,Mb,reduceIte])
     have:R=67:=e67 hA hB hC (by rw[hlk,hca];exact S5 hn' (by rw[hla,hma,Bool.or_true]))
     subst this
     exact h _ _ hS14
    | false=>
     (try simp only[↓M1,M1,Mb,reduceIte])
     refine Y5 hv11.max hn' ⟨σ13,hS14,le13,fun e=>False.elim (by simpa using e),?_⟩
     rw[hnx,hno,hla,hsm,hma];rfl
 ·have e1:decide ((n:Int)<(ms.length:Int))=false:=by simpa using hn'
  rw[e1]
  (try simp only[↓M1,M1,Mb,reduceIte])
  rw[E2 hn'] at hno
  have:R=0:=e0 hA hB hC (by rw[hlk,hno,Bool.and_false])
  subst this
  exact h _ _ hS13)
end Go.Proofs.YtjdiakhipmggjaaGreatDoor

namespace Go.Proofs.YtjdiakhipmggjaaGreatDoor
open Go.Emb Go.RowKit Go.Kd Go.Hm
variable {w : World} {K : Value → World → Prop} {σ : Q5} {l : List Cla} {v : Value}
theorem X28 {w0:World} {σ0:Q5} {frm:Nat} (ha:Jd l) (ho:T6 l) (hl:l.length≤1000) (a0: ∀c∈l,Qh c) (hf:0<frm) (ay: ∀i (C:i<l.length),frm≤i→ ∀u∈U3 l[i],∃j,Z2 l u=some j): ∀(k:Nat) {i:Nat} {b:List Nat} {x:Value} {w:World} {σ:Q5} {K:Value→World→Prop},i<l.length→K7 l (Y2 l i)<k→Few l b→Stp w0 σ0 w σ→Sl 8 V0 σ v l→V5 w0.heap.size T.e 1 Wk σ w x (ints b)→
 (∀x' w' J,Stp w0 σ0 w' J→SLe σ J→V5 w0.heap.size T.e 1 Wk J w' x' (ints (Xk l frm b i))→K x' w')→Q1 P F.b3 [v,x,I frm,I i] w K:=by
 intro k
 induction k with
 | zero=>intro i b x w σ K C hk;omega
 | succ k ih=>
  intro i b x w σ K C hk A hS hv V h
  refine Q0L ?_
  unfold Eb
  rw[Q7c ha ho hf b C] at h
  refine Z0 ?_
  refine Q7 (fun N=>?_) (fun N=>?_)
  ·have N:i<frm:=by have:=of_decide_eq_true N;omega
   rw[if_pos N] at h
   exact h _ _ _ hS (SLe.refl _) V
  have N: ¬i<frm:=by have:=of_decide_eq_false N;omega
  rw[if_neg N] at h
  have bh:=A.len
  refine U1 b.length (fun n w'=>w'=w∧ ∀m (hm:m<b.length),m<n→b[m]≠i) ⟨rfl,fun m _ h=>by omega⟩ fun n w2 d hn o=>?_
  obtain ⟨hw,U⟩:=o
  subst hw
  refine Q8x V ?_
  rw[show (ints b).length=b.length from by simp]
  refine Z0 ?_
  refine Q7 (fun D=>?_) (fun D=>?_)
  ·have f:n<b.length:=by simpa using D
   refine Q5J (J8.of_acc V) (n:=n) (by simpa using f) fun a cs an bl hr=>?_
   obtain ⟨rfl,_⟩:=hr
   refine Qc (by have:=an 0 _ rfl;rwa [add_zero] at this) ?_
   simp only[List.getElem_map]
   refine P2 ?_
   by_cases e:b[n]=i
   ·have:decide ((b[n]:Int)=i)=true:=by simp[e]
    rw[this]
    refine J4 ?_
    rw[if_pos (e▸List.getElem_mem f)] at h
    exact h _ _ _ hS (SLe.refl _) V
   ·have:decide ((b[n]:Int)=i)=false:=by rw[decide_eq_false_iff_not];omega
    rw[this]
    refine Z6 ?_
    refine N1 ?_
    refine Y5 (by omega) f ⟨rfl,fun m hm a9=>?_⟩
    by_cases e2:m=n
    ·subst e2;exact e
    ·exact U m hm (by omega)
  ·have f: ¬n<b.length:=by simpa using D
   have H:i∉b:=fun aq=>by
    obtain ⟨m,hm,e⟩:=List.getElem_of_mem aq
    exact U m hm (by omega) e
   rw[if_neg H] at h
   have ah:l.getD i Cla.zero=l[i]:=by rw[List.getD_eq_getElem?_getD,List.getElem?_eq_getElem C];rfl
   rw[ah] at h
   have aw:=ay i C (by omega)
   obtain ⟨lv,fv,mv,p1,r1⟩:=hv.elC C
   obtain ⟨g1,_,_,_,g5⟩:=r1.parts
   have E:=a0 _ (List.getElem_mem C)
   clear U H D hn
   refine U2 hS.sat ?_
   (repeat refine J5 Qd ?_)
   refine Q1v (w:=w2) (σ:=σ) (R:=U7) (sz:=1) (e:=T.c) [l[i].super] (fun t w hb e=>?_) ?_
   ·subst e;exact Yx hb.stp [_] [l[i].super] rfl rfl (by simp;rfl) rfl ⟨⟨rfl,g5⟩,trivial⟩ fun v' w' hk ha _=>Q2I hb hk ha
   (repeat refine J5 Qd ?_)
   rintro bx be ba bk br bg bn w4 az rfl rfl rfl rfl rfl ⟨af,Y⟩ rfl
   refine Wi af Y g1 rfl (by simp;have:=E.1;omega) (by simp;have:=E.1;omega) fun v5 w5 av Z W ab=>?_
   obtain ⟨σ6,q,L,bd,_⟩:=W.keep Z
   have L:Sl 1 U7 σ6 v5 (U3 l[i]):=L
   have ax:=V.up q
   have X:=hv.up q
   have ac:=hS.trans q
   have ad:SLe σ σ6:=⟨q.le⟩
   clear av ab W Y af az Z
   refine E3 (U3 l[i]).length (fun n x w'=> ∃J p,Stp w0 σ0 w' J∧SLe σ6 J∧V5 w0.heap.size T.e 1 Wk J w' x (ints p)∧Few l p∧p=((U3 l[i]).take n).foldl (fun b n=>Xk l frm b ((Z2 l n).getD 0)) b) ⟨σ6,b,ac,SLe.refl _,ax,A,rfl⟩ fun n x7 w7 d hn o=>?_
   obtain ⟨σ7,a4,y,z,ag,g,O⟩:=o
   have r:=L.lift z
   refine Q8 r ?_
   refine Z0 ?_
   refine Q7 (fun D=>?_) (fun D=>?_)
   ·have f:n<(U3 l[i]).length:=by simpa using D
    refine Y3 r f ?_
    obtain ⟨p7,_⟩:=r.elS f
    refine X7 y.sat p7 rfl ?_
    have B:=X.lift z
    refine I4 y.sat B ?_
    obtain ⟨j,hj⟩:=aw _ (List.getElem_mem f)
    have bj:=Q1B ha ho C (by rw[ah];exact List.getElem_mem f) hj
    have ae:=(S2 hj).1
    simp only[hj,L5]
    refine ih ae (by omega) g y B ag fun x8 w8 σ8 M am Q=>?_
    refine N1 ?_
    refine Z9 r.max f ⟨σ8,_,M,z.more am,Q,Iy ha ho hf _ _ _ ae g,?_⟩
    rw[List.take_add_one,List.getElem?_eq_getElem f,List.foldl_append,←O]
    simp[hj]
   ·have f: ¬n<(U3 l[i]).length:=by simpa using D
    rw[List.take_of_length_le (by omega)] at O
    have bu:=g.len
    refine Jv (R:=Wk) (x:=(i:Int)) y ag ⟨rfl,by omega,by omega⟩ rfl rfl rfl (by simp;omega) (by simp;omega) fun s x8 w8 σ8 ar M Q _=>?_
    refine h _ _ _ M ((ad.more z).more ar.le) ?_
    rw[←O]
    simpa [ints] using Q
end Go.Proofs.YtjdiakhipmggjaaGreatDoor

namespace Go.Hm
open Go.Kd
def C0 (n i b:Nat):Bool:=decide (i<n)&&decide (128≤b)&&decide (b<192)
def Zy (n a b c d:Nat):Nat:=
 if a<128 then 1
 else if (decide (194≤a)&&decide (a<224)&&C0 n 1 b)=true then 2
 else if (decide (224≤a)&&decide (a<240)&&C0 n 1 b&&C0 n 2 c)=true then
  (if 2048≤a % 16*4096+b % 64*64+c % 64∧(a % 16*4096+b % 64*64+c % 64<55296∨57343<a % 16*4096+b % 64*64+c % 64) then 3 else 0)
 else if (decide (240≤a)&&decide (a<245)&&C0 n 1 b&&C0 n 2 c&&C0 n 3 d)=true then
  (if 65536≤a % 8*262144+b % 64*4096+c % 64*64+d % 64∧a % 8*262144+b % 64*4096+c % 64*64+d % 64≤1114111 then 4 else 0)
 else 0
theorem X0e (n a b c d:Nat) (s:a<256) (r:b<256) (t:c<256) (q:d<256):
 Zy n a b c d=if (Lib.decodeN n a b c d).1=65533∧(Lib.decodeN n a b c d).2=1 then 0 else (Lib.decodeN n a b c d).2:=by
 have key: ∀v k:Nat,Lib.decodeN n a b c d=(v,k)→ ¬k=1→Zy n a b c d=k→Zy n a b c d=if (Lib.decodeN n a b c d).1=65533∧(Lib.decodeN n a b c d).2=1 then 0 else (Lib.decodeN n a b c d).2:=by
  intro v k h o l
  rw[h,l,if_neg (fun e=>o e.2)]
 have f:Lib.decodeN n a b c d=(65533,1)→Zy n a b c d=0→Zy n a b c d=if (Lib.decodeN n a b c d).1=65533∧(Lib.decodeN n a b c d).2=1 then 0 else (Lib.decodeN n a b c d).2:=by
  intro h l
  rw[h,l];simp
 by_cases c0:a<128
 ·have h:Lib.decodeN n a b c d=(a,1):=by unfold Lib.decodeN;rw[if_pos c0]
  rw[h,if_neg (by simp only;omega)]
  unfold Zy;rw[if_pos c0]
 by_cases i:a / 32=6∧(1<n∧b / 64=2)
 ·by_cases g:a % 32*64+b % 64≥128
  ·refine key _ 2 (by unfold Lib.decodeN;rw[if_neg c0,if_pos i,if_pos g]) (by decide) ?_
   unfold Zy C0
   simp only[Bool.and_eq_true,decide_eq_true_eq]
   rw[if_neg c0,if_pos (by omega)]
  ·refine f (by unfold Lib.decodeN;rw[if_neg c0,if_pos i,if_neg g]) ?_
   unfold Zy C0
   simp only[Bool.and_eq_true,decide_eq_true_eq]
   rw[if_neg c0,if_neg (by omega),if_neg (by omega),if_neg (by omega)]
 by_cases j:a / 16=14∧(1<n∧b / 64=2)∧(2<n∧c / 64=2)
 ·by_cases g:2048≤a % 16*4096+b % 64*64+c % 64∧(a % 16*4096+b % 64*64+c % 64<55296∨57343<a % 16*4096+b % 64*64+c % 64)
  ·refine key _ 3 (by unfold Lib.decodeN;rw[if_neg c0,if_neg i,if_pos j,if_pos (by omega)]) (by decide) ?_
   unfold Zy C0
   simp only[Bool.and_eq_true,decide_eq_true_eq]
   rw[if_neg c0,if_neg (by omega),if_pos (by omega),if_pos g]
  ·refine f (by unfold Lib.decodeN;rw[if_neg c0,if_neg i,if_pos j,if_neg (by omega)]) ?_
   unfold Zy C0
   simp only[Bool.and_eq_true,decide_eq_true_eq]
   rw[if_neg c0,if_neg (by omega),if_pos (by omega),if_neg g]
 by_cases m:a / 8=30∧(1<n∧b / 64=2)∧(2<n∧c / 64=2)∧(3<n∧d / 64=2)
 ·by_cases g:65536≤a % 8*262144+b % 64*4096+c % 64*64+d % 64∧a % 8*262144+b % 64*4096+c % 64*64+d % 64≤1114111
  ·refine key _ 4 (by unfold Lib.decodeN;rw[if_neg c0,if_neg i,if_neg j,if_pos m,if_pos (by omega)]) (by decide) ?_
   unfold Zy C0
   simp only[Bool.and_eq_true,decide_eq_true_eq]
   rw[if_neg c0,if_neg (by omega),if_neg (by omega),if_pos (by omega),if_pos g]
  ·refine f (by unfold Lib.decodeN;rw[if_neg c0,if_neg i,if_neg j,if_pos m,if_neg (by omega)]) ?_
   unfold Zy C0
   simp only[Bool.and_eq_true,decide_eq_true_eq]
   rw[if_neg c0,if_neg (by omega),if_neg (by omega)]
   by_cases p:a<245
   ·rw[if_pos (by omega),if_neg g]
   ·rw[if_neg (by omega)]
 ·refine f (by unfold Lib.decodeN;rw[if_neg c0,if_neg i,if_neg j,if_neg m]) ?_
  unfold Zy C0
  simp only[Bool.and_eq_true,decide_eq_true_eq]
  rw[if_neg c0,if_neg (by omega),if_neg (by omega),if_neg (by omega)]
def X5 (l:X0) (i:Nat):Nat:=(l.getD i 0).toNat
theorem Yd (l:X0) (i:Nat):X5 l i<256:=(l.getD i 0).toNat_lt
def Zx (l:X0):Nat:=Zy l.length (X5 l 0) (X5 l 1) (X5 l 2) (X5 l 3)
theorem Q66 (l:X0):Zx l=if (Lib.decodeL l).1=65533∧(Lib.decodeL l).2=1 then 0 else (Lib.decodeL l).2:=by
 rw[Lib.decodeL_N]
 exact X0e _ _ _ _ _ (Yd l 0) (Yd l 1) (Yd l 2) (Yd l 3)
theorem Q9P {l:X0} (a:l≠[]) (h:Zx l≠0):1≤Zx l∧Zx l≤l.length:=by
 have c:=Lib.decodeL_le l a
 have b:=Lib.decodeL_width l
 rw[Q66] at h⊢
 split at h
 ·exact absurd rfl h
 ·rw[if_neg (by assumption)];omega
theorem Q80 {f:Nat} {l:X0} (a:l≠[]):Lib.validGoD (f+1) l=if Zx l=0 then false else Lib.validGoD f (l.drop (Zx l)):=by
 have b:=Lib.decodeL_width l
 simp only[Lib.validGoD,if_neg a]
 rw[Q66]
 split
 ·rw[if_pos rfl]
 ·rw[if_neg (by omega)]
end Go.Hm
namespace Go.Emb
open Go.RowKit
theorem Q5I {P:Program} {w:World} {K:Value→World→Prop} {k:IntKind} {t:TypeId} {b d:Operand} {a c:Int} (f:0<c∧0≤a) (h:K (.int k (a % c)) w):Q3 P .rem t b d (.int k a) (.int k c) w K:=by
 have e:Q3 P .rem t b d (.int k a) (.int k c) w K=K (.int k (a.tmod c)) w:=X9 (by simp[eqGuard,Go.binOp,Op.intDiv];intro e;omega)
 rw[e,Int.tmod_eq_emod_of_nonneg f.2];exact h
end Go.Emb
namespace Go.Proofs.YtjdiakhipmggjaaGreatDoor
open Go.Emb Go.RowKit Go.Kd Go.Hm
variable {w : World} {K : Value → World → Prop} {σ : Q5}
theorem Ns {a:X0} {i:Nat} (b:i<a.length) (h:K (.int .u8 (X5 a i)) w):S9 P T.c (S a) (I i) w K:=by
 rw[Xm X8 (by omega) (by simpa using b)]
 have:(a[(i:Int).toNat]'(by simpa using b)).toNat=X5 a i:=by
  unfold X5
  rw[List.getD_eq_getElem?_getD,List.getElem?_eq_getElem b];rfl
 rw[this];exact h
theorem Q3T {n:Int} (a:0≤n∧n<256) (h:K (I n) w):conv P T.a3 T.e (.int .u8 n) w K:=by
 rw[Gx Q3B Q1I,G3 (by omega) (by omega)];exact h
theorem Ld {a:X0} {i:Nat} (h:K (.bool (C0 a.length i (X5 a i))) w):Q1 P F.r [S a,I i] w K:=Pj (by
 unfold Nt
 unfold C0 at h
 simp only[↓M1,M1,Mb,reduceIte]
 by_cases b:i<a.length
 ·have c:decide ((i:Int)<a.length)=true:=by rw[decide_eq_true_eq];omega
  have d:decide (i<a.length)=true:=by simpa using b
  rw[d] at h
  simp only[c,↓M1,M1,Mb,reduceIte]
  refine Ns b ?_
  (try simp only[↓M1,M1,Mb,reduceIte])
  have f:decide ((128:Int)≤(X5 a i:Int))=decide (128≤X5 a i):=by rw[Bool.eq_iff_iff,decide_eq_true_eq,decide_eq_true_eq];omega
  have g:decide ((X5 a i:Int)<192)=decide (X5 a i<192):=by rw[Bool.eq_iff_iff,decide_eq_true_eq,decide_eq_true_eq];omega
  rw[f]
  cases e:decide (128≤X5 a i) with
  | true=>
   rw[e] at h
   simp only[↓M1,M1,Mb,reduceIte]
   refine Ns b ?_
   simp only[g,↓M1,M1,Mb,reduceIte]
   simpa using h
  | false=>
   rw[e] at h
   simp only[↓M1,M1,Mb,reduceIte]
   simpa using h
 ·have c:decide ((i:Int)<a.length)=false:=by rw[decide_eq_false_iff_not];omega
  have d:decide (i<a.length)=false:=by simpa using b
  rw[d] at h
  simp only[c,↓M1,M1,Mb,reduceIte]
  simpa using h)
def Jq (a:X0):Nat:=X5 a 0 % 16*4096+X5 a 1 % 64*64+X5 a 2 % 64
def Rp (a:X0):Nat:=X5 a 0 % 8*262144+X5 a 1 % 64*4096+X5 a 2 % 64*64+X5 a 3 % 64
theorem Q9H (a:X0):Zx a=if X5 a 0<128 then 1
 else if (decide (194≤X5 a 0)&&decide (X5 a 0<224)&&C0 a.length 1 (X5 a 1))=true then 2
 else if (decide (224≤X5 a 0)&&decide (X5 a 0<240)&&C0 a.length 1 (X5 a 1)&&C0 a.length 2 (X5 a 2))=true then
  (if 2048≤Jq a∧(Jq a<55296∨57343<Jq a) then 3 else 0)
 else if (decide (240≤X5 a 0)&&decide (X5 a 0<245)&&C0 a.length 1 (X5 a 1)&&C0 a.length 2 (X5 a 2)&&C0 a.length 3 (X5 a 3))=true then
  (if 65536≤Rp a∧Rp a≤1114111 then 4 else 0)
 else 0:=rfl
set_option maxHeartbeats 2000000 in
theorem X0S {a:X0} (hne:a≠[]) (hs:X2 w σ) (h: ∀w',Below w.heap.size w w'→K (I (Zx a)) w'):Q1 P F.bF [S a] w K:=Av (by
 unfold Ou
 have hl:0<a.length:=List.length_pos_iff.2 hne
 have b0:=Yd a 0
 have b1:=Yd a 1
 have b2:=Yd a 2
 have b3:=Yd a 3
 refine Ns (i:=0) hl ?_
 refine Q3T (by omega) ?_
 refine Zv (fun _ w'=>Below w.heap.size w w'∧Zx a=0) ?_ (fun _ d w' hx=>by
  have:=h w' hx.1
  rw[hx.2] at this
  exact this)
 have hK: ∀n w',Below w.heap.size w w'→Zx a=n→K (I n) w':=fun n w' hb e=>by rw[←e];exact h w' hb
 clear h
 have hcm:=Q9H a
 simp only[↓M1,M1,Mb,reduceIte]
 refine Q7 (fun h1=>?_) (fun h1=>?_)
 ·have:X5 a 0<128:=by have:=of_decide_eq_true h1;omega
  exact hK 1 _ (Below.refl _ _) (by rw[hcm,if_pos this])
 have c0: ¬X5 a 0<128:=by have:=of_decide_eq_false h1;omega
 rw[if_neg c0] at hcm
 by_cases c1:X5 a 0<194
 ·have i1:decide ((194:Int)≤X5 a 0)=false:=by rw[decide_eq_false_iff_not];omega
  have n1:decide (194≤X5 a 0)=false:=by rw[decide_eq_false_iff_not];omega
  have i2:decide ((X5 a 0:Int)<224)=true:=by rw[decide_eq_true_eq];omega
  have n2:decide (X5 a 0<224)=true:=by rw[decide_eq_true_eq];omega
  have i3:decide ((224:Int)≤X5 a 0)=false:=by rw[decide_eq_false_iff_not];omega
  have n3:decide (224≤X5 a 0)=false:=by rw[decide_eq_false_iff_not];omega
  have i4:decide ((X5 a 0:Int)<240)=true:=by rw[decide_eq_true_eq];omega
  have n4:decide (X5 a 0<240)=true:=by rw[decide_eq_true_eq];omega
  have i5:decide ((240:Int)≤X5 a 0)=false:=by rw[decide_eq_false_iff_not];omega
  have n5:decide (240≤X5 a 0)=false:=by rw[decide_eq_false_iff_not];omega
  have i6:decide ((X5 a 0:Int)<245)=true:=by rw[decide_eq_true_eq];omega
  have n6:decide (X5 a 0<245)=true:=by rw[decide_eq_true_eq];omega
  simp only[i1,i2,i3,i4,i5,i6,↓M1,M1,Mb,reduceIte]
  exact ⟨Below.refl _ _,by rw[hcm];simp only[n1,n2,n3,n4,n5,n6,Bool.and_true,Bool.true_and,Bool.false_and,Bool.and_false,Bool.false_eq_true,if_true,if_false,reduceIte]⟩
 by_cases c2:X5 a 0<224
 ·have i1:decide ((194:Int)≤X5 a 0)=true:=by rw[decide_eq_true_eq];omega
  have n1:decide (194≤X5 a 0)=true:=by rw[decide_eq_true_eq];omega
  have i2:decide ((X5 a 0:Int)<224)=true:=by rw[decide_eq_true_eq];omega
  have n2:decide (X5 a 0<224)=true:=by rw[decide_eq_true_eq];omega
  have i3:decide ((224:Int)≤X5 a 0)=false:=by rw[decide_eq_false_iff_not];omega
  have n3:decide (224≤X5 a 0)=false:=by rw[decide_eq_false_iff_not];omega
  have i4:decide ((X5 a 0:Int)<240)=true:=by rw[decide_eq_true_eq];omega
  have n4:decide (X5 a 0<240)=true:=by rw[decide_eq_true_eq];omega
  have i5:decide ((240:Int)≤X5 a 0)=false:=by rw[decide_eq_false_iff_not];omega
  have n5:decide (240≤X5 a 0)=false:=by rw[decide_eq_false_iff_not];omega
  have i6:decide ((X5 a 0:Int)<245)=true:=by rw[decide_eq_true_eq];omega
  have n6:decide (X5 a 0<245)=true:=by rw[decide_eq_true_eq];omega
  simp only[i1,i2,i3,i4,i5,i6,↓M1,M1,Mb,reduceIte]
  refine Ld (i:=1) ?_
  cases A1:C0 a.length 1 (X5 a 1) with
  | true=>simp only[↓M1,M1,Mb,reduceIte];exact hK 2 _ (Below.refl _ _) (by rw[hcm];simp only[A1,n1,n2,n3,n4,n5,n6,Bool.and_true,Bool.true_and,Bool.false_and,Bool.and_false,Bool.false_eq_true,if_true,if_false,reduceIte])
  | false=>simp only[↓M1,M1,Mb,reduceIte];exact ⟨Below.refl _ _,by rw[hcm];simp only[A1,n1,n2,n3,n4,n5,n6,Bool.and_true,Bool.true_and,Bool.false_and,Bool.and_false,Bool.false_eq_true,if_true,if_false,reduceIte]⟩
 by_cases c3:X5 a 0<240
 ·have i1:decide ((194:Int)≤X5 a 0)=true:=by rw[decide_eq_true_eq];omega
  have n1:decide (194≤X5 a 0)=true:=by rw[decide_eq_true_eq];omega
  have i2:decide ((X5 a 0:Int)<224)=false:=by rw[decide_eq_false_iff_not];omega
  have n2:decide (X5 a 0<224)=false:=by rw[decide_eq_false_iff_not];omega
  have i3:decide ((224:Int)≤X5 a 0)=true:=by rw[decide_eq_true_eq];omega
  have n3:decide (224≤X5 a 0)=true:=by rw[decide_eq_true_eq];omega
  have i4:decide ((X5 a 0:Int)<240)=true:=by rw[decide_eq_true_eq];omega
  have n4:decide (X5 a 0<240)=true:=by rw[decide_eq_true_eq];omega
  have i5:decide ((240:Int)≤X5 a 0)=false:=by rw[decide_eq_false_iff_not];omega
  have n5:decide (240≤X5 a 0)=false:=by rw[decide_eq_false_iff_not];omega
  have i6:decide ((X5 a 0:Int)<245)=true:=by rw[decide_eq_true_eq];omega
  have n6:decide (X5 a 0<245)=true:=by rw[decide_eq_true_eq];omega
  simp only[i1,i2,i3,i4,i5,i6,↓M1,M1,Mb,reduceIte]
  refine Ld (i:=1) ?_
  cases A1:C0 a.length 1 (X5 a 1) with
  | false=>simp only[↓M1,M1,Mb,reduceIte];exact ⟨Below.refl _ _,by rw[hcm];simp only[A1,n1,n2,n3,n4,n5,n6,Bool.and_true,Bool.true_and,Bool.false_and,Bool.and_false,Bool.false_eq_true,if_true,if_false,reduceIte]⟩
  | true=>
  simp only[↓M1,M1,Mb,reduceIte]
  refine Ld (i:=2) ?_
  cases A2:C0 a.length 2 (X5 a 2) with
  | false=>simp only[↓M1,M1,Mb,reduceIte];exact ⟨Below.refl _ _,by rw[hcm];simp only[A1,A2,n1,n2,n3,n4,n5,n6,Bool.and_true,Bool.true_and,Bool.false_and,Bool.and_false,Bool.false_eq_true,if_true,if_false,reduceIte]⟩
  | true=>
  simp only[↓M1,M1,Mb,reduceIte]
  simp only[A1,A2,n1,n2,n3,n4,n5,n6,Bool.and_true,Bool.true_and,Bool.false_and,Bool.and_false,Bool.false_eq_true,if_true,if_false,reduceIte] at hcm
  have hl1:1<a.length:=by unfold C0 at A1;simp only[Bool.and_eq_true,decide_eq_true_eq] at A1;exact A1.1.1
  have hl2:2<a.length:=by unfold C0 at A2;simp only[Bool.and_eq_true,decide_eq_true_eq] at A2;exact A2.1.1
  have hw:IntKind.i64.wrap (IntKind.i64.wrap (IntKind.i64.wrap ((X5 a 0:Int) % 16*4096)+IntKind.i64.wrap ((X5 a 1:Int) % 64*64))+(X5 a 2:Int) % 64)=((Jq a:Nat):Int):=by
   rw[G3 (n:=(X5 a 0:Int) % 16*4096) (by omega) (by omega),G3 (n:=(X5 a 1:Int) % 64*64) (by omega) (by omega),G3 (n:=_+(X5 a 1:Int) % 64*64) (by omega) (by omega),G3 (by omega) (by omega)]
   unfold Jq;omega
  refine U2 hs ?_
  have hx1: ∀{w':World} {K:Value→World→Prop},K (.int .u8 (X5 a 1)) w'→S9 P T.c (S a) (.int .i64 1) w' K:=fun hK=>Ns (i:=1) hl1 hK
  have hx2: ∀{w':World} {K:Value→World→Prop},K (.int .u8 (X5 a 2)) w'→S9 P T.c (S a) (.int .i64 2) w' K:=fun hK=>Ns (i:=2) hl2 hK
  (repeat (apply J5;(· intros;(repeat (rename_i hx;subst hx));(repeat' (first | (with_reducible exact O8 rfl) | (with_reducible exact S7 (Stp.bel (by (repeat (first | exact Stp.refl (by (first | assumption | exact Stp.sat (by assumption) | exact Hst.sat (by assumption))) | assumption | refine Stp.trans ?_ (by first | assumption | exact Hst.stp (by assumption)))))) rfl) | (with_reducible intro _) | (simp only[↓M2,M2,Mb,reduceIte]) | (with_reducible refine Q5I au ?_) | (with_reducible refine Q3T au ?_) | (with_reducible refine hx1 ?_) | (with_reducible refine hx2 ?_) | (with_reducible show Q2 _ _ _ _ _;first | refine X7 aS aL aR ?_ | refine Y4 aS aL aR ?_ | refine ld aS aL aR ?_) | (with_reducible show indexAddr _ _ _ _ _ _;refine Y3 aL au ?_) | (with_reducible show X3 _ _ _ _ _ _ _ _;refine Q8 aL ?_) | (with_reducible show F2 _ _ _ _ _ _;refine J0 aR ?_) | (with_reducible show pick _ _ _ _ _ _;refine M9 ?_) | (apply I1;intro hh;(try simp only[hh,reduceIte,↓M2,M2,Mb,reduceIte]))));done)))
  (intros;(repeat (rename_i hx;subst hx));(try simp only[↓M2,M2,Mb,reduceIte]))
  rename_i w2 hb2
  simp only[hw]
  have hb:=hb2.stp.bel
  by_cases e1:2048≤Jq a
  ·by_cases e2:Jq a<55296
   ·simp only[(show decide ((2048:Int)≤(Jq a:Int))=true by rw[decide_eq_true_eq];omega),(show decide ((Jq a:Int)<55296)=true by rw[decide_eq_true_eq];omega),↓M1,M1,Mb,reduceIte]
    exact hK 3 _ hb (by rw[hcm,if_pos ⟨e1, .inl e2⟩])
   ·by_cases e3:57343<Jq a
    ·simp only[(show decide ((2048:Int)≤(Jq a:Int))=true by rw[decide_eq_true_eq];omega),(show decide ((Jq a:Int)<55296)=false by rw[decide_eq_false_iff_not];omega),(show decide ((57343:Int)<(Jq a:Int))=true by rw[decide_eq_true_eq];omega),↓M1,M1,Mb,reduceIte]
     exact hK 3 _ hb (by rw[hcm,if_pos ⟨e1, .inr e3⟩])
    ·simp only[(show decide ((2048:Int)≤(Jq a:Int))=true by rw[decide_eq_true_eq];omega),(show decide ((Jq a:Int)<55296)=false by rw[decide_eq_false_iff_not];omega),(show decide ((57343:Int)<(Jq a:Int))=false by rw[decide_eq_false_iff_not];omega),↓M1,M1,Mb,reduceIte]
     exact ⟨hb,by rw[hcm,if_neg (by omega)]⟩
  ·simp only[(show decide ((2048:Int)≤(Jq a:Int))=false by rw[decide_eq_false_iff_not];omega),↓M1,M1,Mb,reduceIte]
   exact ⟨hb,by rw[hcm,if_neg (by omega)]⟩
 by_cases c4:X5 a 0<245
 ·have i1:decide ((194:Int)≤X5 a 0)=true:=by rw[decide_eq_true_eq];omega
  have n1:decide (194≤X5 a 0)=true:=by rw[decide_eq_true_eq];omega
  have i2:decide ((X5 a 0:Int)<224)=false:=by rw[decide_eq_false_iff_not];omega
  have n2:decide (X5 a 0<224)=false:=by rw[decide_eq_false_iff_not];omega
  have i3:decide ((224:Int)≤X5 a 0)=true:=by rw[decide_eq_true_eq];omega
  have n3:decide (224≤X5 a 0)=true:=by rw[decide_eq_true_eq];omega
  have i4:decide ((X5 a 0:Int)<240)=false:=by rw[decide_eq_false_iff_not];omega
  have n4:decide (X5 a 0<240)=false:=by rw[decide_eq_false_iff_not];omega
  have i5:decide ((240:Int)≤X5 a 0)=true:=by rw[decide_eq_true_eq];omega
  have n5:decide (240≤X5 a 0)=true:=by rw[decide_eq_true_eq];omega
  have i6:decide ((X5 a 0:Int)<245)=true:=by rw[decide_eq_true_eq];omega
  have n6:decide (X5 a 0<245)=true:=by rw[decide_eq_true_eq];omega
  simp only[i1,i2,i3,i4,i5,i6,↓M1,M1,Mb,reduceIte]
  refine Ld (i:=1) ?_
  cases A1:C0 a.length 1 (X5 a 1) with
  | false=>simp only[↓M1,M1,Mb,reduceIte];exact ⟨Below.refl _ _,by rw[hcm];simp only[A1,n1,n2,n3,n4,n5,n6,Bool.and_true,Bool.true_and,Bool.false_and,Bool.and_false,Bool.false_eq_true,if_true,if_false,reduceIte]⟩
  | true=>
  simp only[↓M1,M1,Mb,reduceIte]
  refine Ld (i:=2) ?_
  cases A2:C0 a.length 2 (X5 a 2) with
  | false=>simp only[↓M1,M1,Mb,reduceIte];exact ⟨Below.refl _ _,by rw[hcm];simp only[A1,A2,n1,n2,n3,n4,n5,n6,Bool.and_true,Bool.true_and,Bool.false_and,Bool.and_false,Bool.false_eq_true,if_true,if_false,reduceIte]⟩
  | true=>
  simp only[↓M1,M1,Mb,reduceIte]
  refine Ld (i:=3) ?_
  cases A3:C0 a.length 3 (X5 a 3) with
  | false=>simp only[↓M1,M1,Mb,reduceIte];exact ⟨Below.refl _ _,by rw[hcm];simp only[A1,A2,A3,n1,n2,n3,n4,n5,n6,Bool.and_true,Bool.true_and,Bool.false_and,Bool.and_false,Bool.false_eq_true,if_true,if_false,reduceIte]⟩
  | true=>
  simp only[↓M1,M1,Mb,reduceIte]
  simp only[A1,A2,A3,n1,n2,n3,n4,n5,n6,Bool.and_true,Bool.true_and,Bool.false_and,Bool.and_false,Bool.false_eq_true,if_true,if_false,reduceIte] at hcm
  have hl1:1<a.length:=by unfold C0 at A1;simp only[Bool.and_eq_true,decide_eq_true_eq] at A1;exact A1.1.1
  have hl2:2<a.length:=by unfold C0 at A2;simp only[Bool.and_eq_true,decide_eq_true_eq] at A2;exact A2.1.1
  have hl3:3<a.length:=by unfold C0 at A3;simp only[Bool.and_eq_true,decide_eq_true_eq] at A3;exact A3.1.1
  have hw:IntKind.i64.wrap (IntKind.i64.wrap (IntKind.i64.wrap (IntKind.i64.wrap ((X5 a 0:Int) % 8*262144)+IntKind.i64.wrap ((X5 a 1:Int) % 64*4096))+IntKind.i64.wrap ((X5 a 2:Int) % 64*64))+(X5 a 3:Int) % 64)=((Rp a:Nat):Int):=by
   rw[G3 (n:=(X5 a 0:Int) % 8*262144) (by omega) (by omega),G3 (n:=(X5 a 1:Int) % 64*4096) (by omega) (by omega),G3 (n:=(X5 a 2:Int) % 64*64) (by omega) (by omega),G3 (n:=_+(X5 a 1:Int) % 64*4096) (by omega) (by omega),G3 (n:=_+(X5 a 2:Int) % 64*64) (by omega) (by omega),G3 (by omega) (by omega)]
   unfold Rp;omega
  refine U2 hs ?_
  have hx1: ∀{w':World} {K:Value→World→Prop},K (.int .u8 (X5 a 1)) w'→S9 P T.c (S a) (.int .i64 1) w' K:=fun hK=>Ns (i:=1) hl1 hK
  have hx2: ∀{w':World} {K:Value→World→Prop},K (.int .u8 (X5 a 2)) w'→S9 P T.c (S a) (.int .i64 2) w' K:=fun hK=>Ns (i:=2) hl2 hK
  have hx3: ∀{w':World} {K:Value→World→Prop},K (.int .u8 (X5 a 3)) w'→S9 P T.c (S a) (.int .i64 3) w' K:=fun hK=>Ns (i:=3) hl3 hK
  (repeat (apply J5;(· intros;(repeat (rename_i hx;subst hx));(repeat' (first | (with_reducible exact O8 rfl) | (with_reducible exact S7 (Stp.bel (by (repeat (first | exact Stp.refl (by (first | assumption | exact Stp.sat (by assumption) | exact Hst.sat (by assumption))) | assumption | refine Stp.trans ?_ (by first | assumption | exact Hst.stp (by assumption)))))) rfl) | (with_reducible intro _) | (simp only[↓M2,M2,Mb,reduceIte]) | (with_reducible refine Q5I au ?_) | (with_reducible refine Q3T au ?_) | (with_reducible refine hx1 ?_) | (with_reducible refine hx2 ?_) | (with_reducible refine hx3 ?_) | (with_reducible show Q2 _ _ _ _ _;first | refine X7 aS aL aR ?_ | refine Y4 aS aL aR ?_ | refine ld aS aL aR ?_) | (with_reducible show indexAddr _ _ _ _ _ _;refine Y3 aL au ?_) | (with_reducible show X3 _ _ _ _ _ _ _ _;refine Q8 aL ?_) | (with_reducible show F2 _ _ _ _ _ _;refine J0 aR ?_) | (with_reducible show pick _ _ _ _ _ _;refine M9 ?_) | (apply I1;intro hh;(try simp only[hh,reduceIte,↓M2,M2,Mb,reduceIte]))));done)))
  (intros;(repeat (rename_i hx;subst hx));(try simp only[↓M2,M2,Mb,reduceIte]))
  rename_i w2 hb2
  simp only[hw]
  have hb:=hb2.stp.bel
  by_cases e1:65536≤Rp a
  ·by_cases e2:Rp a≤1114111
   ·simp only[(show decide ((65536:Int)≤(Rp a:Int))=true by rw[decide_eq_true_eq];omega),(show decide ((Rp a:Int)≤1114111)=true by rw[decide_eq_true_eq];omega),↓M1,M1,Mb,reduceIte]
    exact hK 4 _ hb (by rw[hcm,if_pos ⟨e1,e2⟩])
   ·simp only[(show decide ((65536:Int)≤(Rp a:Int))=true by rw[decide_eq_true_eq];omega),(show decide ((Rp a:Int)≤1114111)=false by rw[decide_eq_false_iff_not];omega),↓M1,M1,Mb,reduceIte]
    exact ⟨hb,by rw[hcm,if_neg (by omega)]⟩
  ·simp only[(show decide ((65536:Int)≤(Rp a:Int))=false by rw[decide_eq_false_iff_not];omega),↓M1,M1,Mb,reduceIte]
   exact ⟨hb,by rw[hcm,if_neg (by omega)]⟩
 have i1:decide ((194:Int)≤X5 a 0)=true:=by rw[decide_eq_true_eq];omega
 have n1:decide (194≤X5 a 0)=true:=by rw[decide_eq_true_eq];omega
 have i2:decide ((X5 a 0:Int)<224)=false:=by rw[decide_eq_false_iff_not];omega
 have n2:decide (X5 a 0<224)=false:=by rw[decide_eq_false_iff_not];omega
 have i3:decide ((224:Int)≤X5 a 0)=true:=by rw[decide_eq_true_eq];omega
 have n3:decide (224≤X5 a 0)=true:=by rw[decide_eq_true_eq];omega
 have i4:decide ((X5 a 0:Int)<240)=false:=by rw[decide_eq_false_iff_not];omega
 have n4:decide (X5 a 0<240)=false:=by rw[decide_eq_false_iff_not];omega
 have i5:decide ((240:Int)≤X5 a 0)=true:=by rw[decide_eq_true_eq];omega
 have n5:decide (240≤X5 a 0)=true:=by rw[decide_eq_true_eq];omega
 have i6:decide ((X5 a 0:Int)<245)=false:=by rw[decide_eq_false_iff_not];omega
 have n6:decide (X5 a 0<245)=false:=by rw[decide_eq_false_iff_not];omega
 simp only[i1,i2,i3,i4,i5,i6,↓M1,M1,Mb,reduceIte]
 exact ⟨Below.refl _ _,by rw[hcm];simp only[n1,n2,n3,n4,n5,n6,Bool.and_true,Bool.true_and,Bool.false_and,Bool.and_false,Bool.false_eq_true,if_true,if_false,reduceIte]⟩)
theorem Q45 {s:X0} (u:s.length≤U0) (t:X2 w σ) (h: ∀w',Below w.heap.size w w'→K (.bool (Lib.validD s)) w'):Q1 P F.aJ [S s] w K:=Ik (by
 unfold Mx
 refine Pi (fun f x w'=> ∃r,x=S r∧r.length≤f∧r.length≤U0∧Below w.heap.size w w'∧Lib.validD s=Lib.validGoD f r) s.length ⟨s,rfl,Nat.le_refl _,u,Below.refl _ _,rfl⟩ ?_
 rintro j f x d w1 ⟨r,rfl,p,q,b,c⟩ k
 refine Vz ?_
 by_cases a:r=[]
 ·have e:decide (r=[])=true:=by simpa using a
  simp only[e,↓M1,M1,Mb,reduceIte]
  subst a
  have:Lib.validGoD f []=true:=by cases f<;>simp[Lib.validGoD]
  rw[c,this] at h
  exact h _ b
 ·have e:decide (r=[])=false:=by simpa using a
  simp only[e,↓M1,M1,Mb,reduceIte]
  have o:0<r.length:=List.length_pos_iff.2 a
  obtain ⟨f,rfl⟩: ∃g,f=g+1:=⟨f-1,by omega⟩
  rw[Q80 a] at c
  refine X0S a (t.below b) fun z l=>?_
  have i:=b.trans (l.mono b.size)
  refine P2 ?_
  by_cases m:Zx r=0
  ·have n:decide ((Zx r:Int)=0)=true:=by rw[decide_eq_true_eq];omega
   simp only[n,↓M1,M1,Mb,reduceIte]
   rw[c,if_pos m] at h
   exact h _ i
  ·have n:decide ((Zx r:Int)=0)=false:=by rw[decide_eq_false_iff_not];omega
   simp only[n,↓M1,M1,Mb,reduceIte]
   obtain ⟨v,y⟩:=Q9P a m
   rw[Up X8 (by omega) (by omega)]
   rw[if_neg m] at c
   refine k f _ _ (by omega) ⟨r.drop (Zx r),by simp,by rw[List.length_drop];omega,by rw[List.length_drop];omega,i,c⟩)
end Go.Proofs.YtjdiakhipmggjaaGreatDoor

namespace Go.Proofs.YtjdiakhipmggjaaGreatDoor
open Go.Emb Go.RowKit Go.Kd Go.Hm
variable {w : World} {K : Value → World → Prop} {σ : Q5}
theorem Q65 {σ:Q5}: ∀(xs:List X0),(∀x∈xs,x.length≤U0)→Q0A U7 σ (xs.map S) xs
 | [],_=>trivial
 | x::r,h=>⟨⟨rfl,h x (by simp)⟩,Q65 r fun y a=>h y (by simp[a])⟩
def Uo:List X0:=Ub.map (·.name)
set_option maxRecDepth 100000 in
theorem X24 (d:X2 w σ) (h: ∀v w' a,Stp w σ w' a→Sl 1 U7 a v Uo→K v w'):Q1 P F.bV [] w K:=Q0h (by
 unfold Dz
 exact T4 (R:=U7) (sz:=1) d (Uo.map S) Uo rfl rfl (by intro v b;obtain ⟨x,_,rfl⟩:=List.mem_map.1 b;rfl) rfl (Q65 _ (by decide)) fun v w' a c b=>h v w' a c b)
theorem Q7X {a:X0} (u:X2 w σ) (h: ∀w' B,Stp w σ w' B→K (I (L5 (Qm a))) w'):Q1 P F.bi [S a] w K:=Gj (by
 unfold Lq
 refine X24 u fun v w1 σ1 n l=>?_
 have r:Qm a=Uo.findIdx? fun x=>decide (x=a):=by
  unfold Qm Uo
  rw[List.findIdx?_map];rfl
 have q: ∀o,Qm a=o→K (I (L5 o)) w1:=fun o e=>by rw[←e];exact h _ _ n
 rw[r] at q
 have p:Uo.length=42:=rfl
 generalize Uo=f at l q p
 refine U1 f.length (fun k w'=>w'=w1∧ ∀j (i:j<f.length),j<k→ ¬f[j]=a) ⟨rfl,fun j _ h=>by omega⟩ fun k E d D z=>?_
 obtain ⟨C,g⟩:=z
 subst C
 refine Q8 l ?_
 refine Z0 ?_
 refine Q7 (fun s=>?_) (fun s=>?_)
 ·have b:k<f.length:=by simpa using s
  refine Y3 l b ?_
  obtain ⟨A,_⟩:=l.elS b
  refine X7 n.sat A rfl ?_
  refine K0 ?_
  refine Q7 (fun c=>?_) (fun c=>?_)
  ·have c:f[k]=a:=by simpa using c
   exact q (some k) (by
    rw[List.findIdx?_eq_some_iff_getElem]
    exact ⟨b,by simpa using c,fun j i=>by simpa using g j (by omega) i⟩)
  ·have c: ¬f[k]=a:=by simpa using c
   (try simp only[↓M1,M1,Mb,reduceIte])
   refine Y5 l.max b ⟨rfl,fun j i y=>?_⟩
   by_cases e:j=k
   ·subst e;exact c
   ·exact g j i (by omega)
 ·have b: ¬k<f.length:=by simpa using s
  exact q none (by
   rw[List.findIdx?_eq_none_iff]
   intro m t
   obtain ⟨j,i,rfl⟩:=List.getElem_of_mem t
   simpa using g j i (by omega)))
theorem X1P {o:Option Nat}:decide (L5 o<0)= !o.isSome:=by
 cases o with
 | none=>rfl
 | some i=>
  have: ¬(i:Int)<0:=by omega
  exact decide_eq_false this
def Nk (a:X0):Bool:=decide (a=[105,110,116])||decide (a=[108,111,97,100])||decide (a=[115,116,111,114,101])||decide (a=[106,117,109,112])||decide (a=[98,114,97,110,99,104])
def Wg (a:X0):Bool:=decide (a=[119,111,114,100])||decide (a=[110,101,119])||decide (a=[103,101,116])||decide (a=[112,117,116])||decide (a=[99,97,108,108])||decide (a=[97,114,114,97,121])||decide (a=[105,115])||decide (a=[99,97,115,116])
theorem X0B (a:X0):takes a=(Nk a,Wg a,(Qm a).isSome):=by
 unfold takes
 cases g:Qm a with
 | none=>
  have c:=List.findIdx?_eq_none_iff.1 g
  have f: ∀x∈Uo,¬x=a:=by
   intro x d
   obtain ⟨o,j,rfl⟩:=List.mem_map.1 d
   have:=c o j
   simpa using this
  have b: ∀x∈Uo,decide (a=x)=false:=fun x d=>by rw[decide_eq_false_iff_not];exact fun e=>f x d e.symm
  have m:Nk a=false:=by
   unfold Nk
   rw[b _ (by decide),b _ (by decide),b _ (by decide),b _ (by decide),b _ (by decide)];rfl
  have n:Wg a=false:=by
   unfold Wg
   rw[b _ (by decide),b _ (by decide),b _ (by decide),b _ (by decide),b _ (by decide),b _ (by decide),b _ (by decide),b _ (by decide)];rfl
  simp[m,n]
 | some i=>
  obtain ⟨h,r,_⟩:=List.findIdx?_eq_some_iff_getElem.1 g
  have q:Ub[i].name=a:=by simpa using r
  have k:Ub.getD i ⟨[],false,false⟩=Ub[i]:=by rw[List.getD_eq_getElem?_getD,List.getElem?_eq_getElem h];rfl
  have c: ∀o∈Ub,o.number=Nk o.name∧o.text=Wg o.name:=by decide
  obtain ⟨l,p⟩:=c _ (List.getElem_mem h)
  simp only[k,Option.isSome_some]
  rw[l,p,q]
def Ea (a:X0):Int:=if Nk a then 1 else if Wg a then 2 else if (Qm a).isSome then 0 else-1
theorem Q8W {a:X0} (f:X2 w σ) (h: ∀w' l,Stp w σ w' l→K (I (Ea a)) w'):Q1 P F.bz [S a] w K:=Pd (by
 unfold Nq
 refine Zv (fun x w'=>w'=w∧x= .bool (Nk a)) ?_ (fun x d w' c=>?_)
 ·unfold Nk
  simp only[↓M1,M1,Mb,reduceIte]
  repeat' (refine Q7 (fun hh=>?_) (fun hh=>?_))
  all_goals (refine ⟨by trivial,?_⟩;congr 1;simp_all)
 ·obtain ⟨rfl,rfl⟩:=c
  cases g:Nk a with
  | true=>
   (try simp only[↓M1,M1,Mb,reduceIte])
   have:=h _ _ (Stp.refl f)
   unfold Ea at this
   simpa [g] using this
  | false=>
   (try simp only[↓M1,M1,Mb,reduceIte])
   refine Zv (fun x b=>b=w'∧x= .bool (Wg a)) ?_ (fun x d b c=>?_)
   ·unfold Wg
    simp only[↓M1,M1,Mb,reduceIte]
    repeat' (refine Q7 (fun hh=>?_) (fun hh=>?_))
    all_goals (refine ⟨by trivial,?_⟩;congr 1;simp_all)
   ·obtain ⟨rfl,rfl⟩:=c
    cases j:Wg a with
    | true=>
     (try simp only[↓M1,M1,Mb,reduceIte])
     have:=h _ _ (Stp.refl f)
     unfold Ea at this
     simpa [g,j] using this
    | false=>
     (try simp only[↓M1,M1,Mb,reduceIte])
     refine Q7X f fun w1 σ1 e=>?_
     have:=h _ _ e
     unfold Ea at this
     simp only[g,j,Bool.false_eq_true,if_false] at this
     simp only[X1P,↓M1,M1,Mb,reduceIte]
     cases k:Qm a with
     | none=>rw[k] at this;simp only[Option.isSome_none,↓M1,M1,Mb,reduceIte];simpa using this
     | some i=>rw[k] at this;simp only[Option.isSome_some,↓M1,M1,Mb,reduceIte];simpa using this)
theorem Q5o (a:X0):decide (Ea a<0)= !(takes a).2.2∧decide (Ea a=1)=(takes a).1∧decide (Ea a=2)=(takes a).2.1:=by
 rw[X0B]
 have g:Nk a=true→Wg a=false∧(Qm a).isSome=true:=by
  intro h
  unfold Nk at h
  simp only[Bool.or_eq_true,decide_eq_true_eq] at h
  rcases h with (((h | h) | h) | h) | h<;>(subst h;decide)
 have f:Wg a=true→(Qm a).isSome=true:=by
  intro h
  unfold Wg at h
  simp only[Bool.or_eq_true,decide_eq_true_eq] at h
  rcases h with ((((((h | h) | h) | h) | h) | h) | h) | h<;>(subst h;decide)
 unfold Ea
 cases d:Nk a with
 | true=>obtain ⟨b,c⟩:=g d;rw[b,c];decide
 | false=>
  cases e:Wg a with
  | true=>rw[f e];decide
  | false=>cases (Qm a).isSome<;>decide
theorem X46 (s:X0) (c:UInt8):decide (0≤Lib.indexByte s c)=s.any fun b=>decide (b=c):=by
 induction s with
 | nil=>rfl
 | cons b r f=>
  simp only[Lib.indexByte,List.any_cons,←f]
  by_cases e:b=c
  ·simp[e]
  ·have a:(b==c)=false:=by simpa using e
   have g:=Lib.indexByte_ge r c
   simp only[a,e,decide_false,Bool.false_or,Bool.false_eq_true,if_false]
   by_cases d:Lib.indexByte r c= -1
   ·simp[d]
   ·have:(Lib.indexByte r c== -1)=false:=by simpa using d
    simp only[this,Bool.false_eq_true,if_false]
    rw[Bool.eq_iff_iff,decide_eq_true_eq,decide_eq_true_eq];omega
def JB (w:World) (σ:Q5) (b:Bool) (x:Value) (w':World):Prop:= ∃a,Stp w σ w' a∧x= .bool b
theorem JB.mk {w w':World} {σ a:Q5} {b:Bool} (h:Stp w σ w' a):JB w σ b (.bool b) w':=⟨a,h,rfl⟩
theorem JB.of {w w':World} {σ a:Q5} {b c:Bool} (h:Stp w σ w' a) (e:c=b):JB w σ b (.bool c) w':=⟨a,h,by rw[e]⟩
theorem X2Z {s:X0} {n:Nat} (h:n<s.length):decide ((X5 s n:Int)=10)=decide (s[n]=10):=by
 unfold X5
 rw[List.getD_eq_getElem?_getD,List.getElem?_eq_getElem h,Bool.eq_iff_iff,decide_eq_true_eq,decide_eq_true_eq]
 simp only[Option.getD_some]
 rw[←UInt8.toNat_inj]
 constructor
 ·intro e;have:s[n].toNat=10:=by omega
  rw[this];rfl
 ·intro e;rw[e];rfl
theorem Us {α:Type} {xs:List α} {p:α→Bool} {n:Nat} (h:n<xs.length):(xs.take (n+1)).all p=((xs.take n).all p&&p xs[n]):=by
 rw[List.take_add_one,List.getElem?_eq_getElem h,List.all_append];simp
set_option maxHeartbeats 2000000 in
theorem Q8v {i:Ins} {cs:List Value} (hs:X2 w σ) (hi:Qp σ i cs) (h: ∀w' m,Stp w σ w' m→K (I (H4 i)) w'):Q1 P F.bx [.agg cs.toArray] w K:=Pq (by
 obtain ⟨rfl,h1,h2,h3⟩:=hi
 unfold Nl
 refine Y9 hs fun q w1 σ1 V hq=>?_
 have U:=V.sat
 (try simp only[↓M1,M1,Mb,reduceIte])
 refine ld U hq rfl ?_
 refine Q8W U fun Y σ2 X=>?_
 obtain ⟨t1,Q,H⟩:=Q5o i.op
 have f:=V.trans X
 have g:=hq.up X
 have e:=f.sat
 have t:i.s.length≤140737488355328:=by simp only[U0] at h3;omega
 simp only[t1,↓M1,M1,Mb,reduceIte]
 unfold H4 at h
 cases e1:(takes i.op).2.2 with
 | false=>
  simp only[e1,Bool.not_false,if_true] at h
  (try simp only[↓M1,M1,Mb,reduceIte])
  exact h _ _ f
 | true=>
 simp only[e1,Bool.not_true,Bool.false_eq_true,if_false] at h
 simp only[Q,H,↓M1,M1,Mb,reduceIte]
 have k: ∀(b:Bool) (w':World) (m:Q5),Stp w σ w' m→b=(!((!(takes i.op).1&&decide (i.n≠0))||(!(takes i.op).2.1&&decide (i.s≠[]))||((takes i.op).2.1&& !txt i.op i.s)))→
  X1 (.bool (!b)) (K (.int .i64 41) w') (K (.int .i64 0) w'):=by
  intro b w' m u D
  subst D
  rw[Bool.not_not]
  cases D:((!(takes i.op).1&&decide (i.n≠0))||(!(takes i.op).2.1&&decide (i.s≠[]))||((takes i.op).2.1&& !txt i.op i.s)) with
  | true=>simp only[D,if_true] at h;(try simp only[↓M1,M1,Mb,reduceIte]);exact h _ _ u
  | false=>simp only[D,Bool.false_eq_true,if_false] at h;(try simp only[↓M1,M1,Mb,reduceIte]);exact h _ _ u
 clear h
 have ac:(takes i.op).2.1=true→(takes i.op).1=false:=by
  intro O
  rw[←Q,decide_eq_false_iff_not]
  rw[←H,decide_eq_true_eq] at O
  omega
 cases A:(takes i.op).2.1 with
 | false=>
  rw[A] at k H
  cases y:(takes i.op).1 with
  | true=>
   rw[y] at k Q
   (try simp only[↓M1,M1,Mb,reduceIte])
   simp only[H,↓M1,M1,Mb,reduceIte]
   refine ld e g rfl ?_
   (try simp only[↓M1,M1,Mb,reduceIte])
   refine U9 ?_
   intro d
   simp only[↓M1,M1,Mb,reduceIte]
   exact k _ _ _ f (by simp)
  | false=>
   rw[y] at k Q
   (try simp only[↓M1,M1,Mb,reduceIte])
   refine ld e g rfl ?_
   (try simp only[↓M1,M1,Mb,reduceIte])
   by_cases N:i.n=0
   ·have d0:decide (i.n=0)=true:=by simpa using N
    simp only[d0,H,↓M1,M1,Mb,reduceIte]
    refine ld e g rfl ?_
    (try simp only[↓M1,M1,Mb,reduceIte])
    refine U9 ?_
    intro d
    simp only[↓M1,M1,Mb,reduceIte]
    exact k _ _ _ f (by simp[N])
   ·have d0:decide (i.n=0)=false:=by simpa using N
    simp only[d0,↓M1,M1,Mb,reduceIte]
    refine U9 ?_
    intro d
    have E:=k false _ _ f (by simp[N])
    (try simp only[↓M1,M1,Mb,reduceIte] at E⊢)
    exact E
 | true=>
  have y:=ac A
  rw[A,y] at k
  rw[A] at H
  rw[y] at Q⊢
  (try simp only[↓M1,M1,Mb,reduceIte])
  refine ld e g rfl ?_
  (try simp only[↓M1,M1,Mb,reduceIte])
  have o: ∀(b c:Bool) (w':World) (m:Q5),decide (i.n=0)=b→Stp w σ w' m→c=(b&&txt i.op i.s)→X1 (.bool (!c)) (K (.int .i64 41) w') (K (.int .i64 0) w'):=by
   intro b c w' m D u p
   refine k c w' m u ?_
   rw[p,←D]
   by_cases N:i.n=0<;>simp[N]
  clear k
  cases D:decide (i.n=0) with
  | false=>
   have v:=fun w' m u=>o false false w' m D u rfl
   clear o
   simp only[H,↓M1,M1,Mb,reduceIte]
   refine Zv (JB w σ false) ?_ (fun x d w' O=>?_)
   ·refine ld e g rfl ?_
    (try simp only[↓M1,M1,Mb,reduceIte])
    refine Q7 (fun hh=>?_) (fun hh=>?_)
    ·refine E3 (a:=Value.bool false) i.s.length (fun n x w'=>w'=Y∧x=Value.bool false) ⟨rfl,rfl⟩ fun n x w3 d hn l=>?_
     obtain ⟨B,rfl⟩:=l
     subst B
     (try simp only[↓M1,M1,Mb,reduceIte])
     refine ld e g rfl ?_
     (try simp only[↓M1,M1,Mb,reduceIte])
     refine Q7 (fun p=>?_) (fun p=>?_)
     ·have j:n<i.s.length:=by simpa using p
      (try simp only[↓M1,M1,Mb,reduceIte])
      exact Z9 (by omega) j ⟨rfl,rfl⟩
     ·exact .mk f
    refine Q7 (fun hh=>?_) (fun hh=>?_)
    ·exact .mk f
    refine Zv (fun x w'=>w'=Y∧ ∃b:Bool,x=Value.bool b) ?_ (fun z d w' hz=>?_)
    ·refine Q7 (fun hh=>?_) (fun hh=>?_)
     ·exact ⟨rfl,_,rfl⟩
     ·exact ⟨rfl,_,rfl⟩
    obtain ⟨B,b,rfl⟩:=hz
    subst B
    refine Q7 (fun hh=>?_) (fun hh=>?_)
    ·exact .mk f
    refine Q7 (fun hh=>?_) (fun hh=>?_)
    ·exact .mk f
    refine ld e g rfl ?_
    refine Q4r i.s t fun w4 r=>?_
    by_cases M:(Qx i.s).2.2=true
    ·simp only[M,if_true,↓M1,M1,Mb,reduceIte]
     exact .mk (f.trans (Stp.of_below e r))
    ·simp only[M,if_false,↓M1,M1,Mb,reduceIte]
     exact .mk (f.trans (Stp.of_below e r))
   ·obtain ⟨m,u,rfl⟩:=O
    have E:=v w' m u
    (try simp only[↓M1,M1,Mb,reduceIte] at E⊢)
    exact E
  | true=>
   have v:=fun c w' m u p=>o true c w' m D u p
   clear o
   simp only[H,↓M1,M1,Mb,reduceIte]
   refine Zv (JB w σ (txt i.op i.s)) ?_ (fun x d w' O=>?_)
   ·refine ld e g rfl ?_
    (try simp only[↓M1,M1,Mb,reduceIte])
    unfold txt
    by_cases o1:i.op=[119,111,114,100]
    ·simp only[if_pos o1,decide_eq_true o1,↓M1,M1,Mb,reduceIte]
     refine ld e g rfl ?_
     (try simp only[↓M1,M1,Mb,reduceIte])
     have ae:decide ((i.s.length:Int)≤64)=decide (i.s.length≤64):=by rw[Bool.eq_iff_iff,decide_eq_true_eq,decide_eq_true_eq];omega
     rw[ae,X46,List.not_any_eq_all_not]
     cases av:decide (i.s.length≤64) with
     | false=>
      (try simp only[↓M1,M1,Mb,reduceIte])
      refine E3 (a:=Value.bool false) i.s.length (fun n x w'=>w'=Y∧x=Value.bool false) ⟨rfl,rfl⟩ fun n x w3 d hn l=>?_
      obtain ⟨B,rfl⟩:=l
      subst B
      (try simp only[↓M1,M1,Mb,reduceIte])
      refine ld e g rfl ?_
      (try simp only[↓M1,M1,Mb,reduceIte])
      refine Q7 (fun p=>?_) (fun p=>?_)
      ·have j:n<i.s.length:=by simpa using p
       (try simp only[↓M1,M1,Mb,reduceIte])
       exact Z9 (by omega) j ⟨rfl,rfl⟩
      ·exact .of f (by simp)
     | true=>
      (try simp only[↓M1,M1,Mb,reduceIte])
      refine ld e g rfl ?_
      refine Q45 h3 e fun w4 r=>?_
      have J:=Stp.of_below e r
      have R:=g.up J
      have W:=J.sat
      have C:=f.trans J
      (try simp only[↓M1,M1,Mb,reduceIte])
      refine E3 (a:=Value.bool (Lib.validD i.s)) i.s.length (fun n x w'=>w'=w4∧x=Value.bool (Lib.validD i.s&&(i.s.take n).all fun c=> !decide (c=10))) ⟨rfl,by simp⟩ fun n x w3 d hn l=>?_
      obtain ⟨B,rfl⟩:=l
      subst B
      (try simp only[↓M1,M1,Mb,reduceIte])
      refine ld W R rfl ?_
      (try simp only[↓M1,M1,Mb,reduceIte])
      refine Q7 (fun p=>?_) (fun p=>?_)
      ·have j:n<i.s.length:=by simpa using p
       have L:(Lib.validD i.s&&(i.s.take (n+1)).all fun c=> !decide (c=10))=((Lib.validD i.s&&(i.s.take n).all fun c=> !decide (c=10))&& !decide (i.s[n]=10)):=by rw[Us j,Bool.and_assoc]
       generalize ak:(Lib.validD i.s&&(i.s.take n).all fun c=> !decide (c=10))=ag at L⊢
       cases ag with
       | false=>(try simp only[↓M1,M1,Mb,reduceIte]);exact Z9 (by omega) j ⟨rfl,by rw[L];rfl⟩
       | true=>
        (try simp only[↓M1,M1,Mb,reduceIte])
        refine ld W R rfl ?_
        refine Ns j ?_
        simp only[X2Z j,↓M1,M1,Mb,reduceIte]
        exact Z9 (by omega) j ⟨rfl,by rw[L];rfl⟩
      ·have j: ¬n<i.s.length:=by simpa using p
       rw[List.take_of_length_le (by omega)]
       exact .of C (by simp)
    ·simp only[if_neg o1,decide_eq_false o1,↓M1,M1,Mb,reduceIte]
     by_cases o2:i.op=[110,101,119]
     ·simp only[if_pos o2,decide_eq_true o2,↓M1,M1,Mb,reduceIte]
      refine ld e g rfl ?_
      refine Yb i.s t ?_
      (try simp only[↓M1,M1,Mb,reduceIte])
      exact .mk f
     ·simp only[if_neg o2,decide_eq_false o2,↓M1,M1,Mb,reduceIte]
      refine Zv (fun x w'=>w'=Y∧x=Value.bool (decide (i.op=[105,115]∨i.op=[99,97,115,116]))) ?_ (fun z d w' hz=>?_)
      ·refine Q7 (fun hh=>?_) (fun hh=>?_)
       ·exact ⟨rfl,by simp_all⟩
       ·exact ⟨rfl,by simp_all⟩
      obtain ⟨B,rfl⟩:=hz
      subst B
      by_cases o3:i.op=[105,115]∨i.op=[99,97,115,116]
      ·simp only[if_pos o3,decide_eq_true o3,↓M1,M1,Mb,reduceIte]
       refine ld e g rfl ?_
       refine Jy i.s t ?_
       cases hr:right i.s with
       | false=>(try simp only[↓M1,M1,Mb,reduceIte]);exact .mk f
       | true=>
        (try simp only[↓M1,M1,Mb,reduceIte])
        refine ld e g rfl ?_
        refine Ec i.s ?_
        (try simp only[↓M1,M1,Mb,reduceIte])
        exact .mk f
      ·simp only[if_neg o3,decide_eq_false o3,↓M1,M1,Mb,reduceIte]
       by_cases Z:i.op=[97,114,114,97,121]
       ·simp only[if_pos Z,decide_eq_true Z,↓M1,M1,Mb,reduceIte]
        refine ld e g rfl ?_
        refine Jy i.s t ?_
        cases hr:right i.s with
        | false=>(try simp only[↓M1,M1,Mb,reduceIte]);exact .mk f
        | true=>
         (try simp only[↓M1,M1,Mb,reduceIte])
         refine ld e g rfl ?_
         refine Rw i.s t ?_
         (try simp only[↓M1,M1,Mb,reduceIte])
         have e3:decide (((base i.s).2:Int)<3)=decide (Xi i.s<3):=by
          unfold Xi;rw[if_pos hr,Bool.eq_iff_iff,decide_eq_true_eq,decide_eq_true_eq];omega
         rw[e3]
         exact .mk f
       ·simp only[if_neg Z,decide_eq_false Z,↓M1,M1,Mb,reduceIte]
        refine ld e g rfl ?_
        refine Q4r i.s t fun w4 r=>?_
        have C:=f.trans (Stp.of_below e r)
        by_cases M:(Qx i.s).2.2=true
        ·simp only[M,if_true,↓M1,M1,Mb,reduceIte]
         exact .mk C
        ·have:Zf i.s=false:=by unfold Zf;rw[eq_false_of_ne_true M];rfl
         simp only[M,if_false,↓M1,M1,Mb,reduceIte]
         exact .of C this.symm
   ·obtain ⟨m,u,rfl⟩:=O
    have E:=v _ w' m u rfl
    simp only[Bool.true_and] at E
    (try simp only[↓M1,M1,Mb,reduceIte])
    exact E)
end Go.Proofs.YtjdiakhipmggjaaGreatDoor

namespace Go.Emb
theorem X1V {w:World} {K:Value→World→Prop} {v:Value} (h:K v w):Q0 (.bool true) true w (fun w J=>J v w) K:=by rw[W5];exact h
theorem X1W {w:World} {K:Value→World→Prop} {v:Value} (h:K v w):Q0 (.bool false) false w (fun w J=>J v w) K:=by rw[W7];exact h
theorem X36 {w:World} {K:Value→World→Prop} {b:Bool} {run:World→(Value→World→Prop)→Prop} (h:K undef w):Q0 undef b w run K:=by rw[O6];exact h
class Hd (p : Prop) (q : outParam Prop) : Prop where
  h : q → p
section
variable {P : Program} {w : World} {K : Value → World → Prop} {run : World → (Value → World → Prop) → Prop} {v u : Value} {b : Bool}
instance:Hd (J6 P .not (.bool b) w K) (K (.bool (!b)) w):=⟨Wa⟩
instance:Hd (Q0 undef b w run K) (K undef w):=⟨X36⟩
instance {t:TypeId} {k off:Nat} {ft:TypeId} {sz by_:Nat} {z:Value} {a:Addr} [tf:TF P t k off ft] [tz:TZ P ft sz by_ z] [nz:NZ sz]:Hd (fieldAddr P t (.pointer (some a)) k w K) (K (.pointer (some (a.add off))) w):=⟨W2⟩
instance:Hd (pick P (.bool false) v u w K) (K u w):=⟨X1M⟩
instance:Hd (pick P (.bool true) v u w K) (K v w):=⟨X1z⟩
instance:Hd (Q0 (.bool false) false w run K) (run w K):=⟨X2Y⟩
instance:Hd (Q0 (.bool true) true w run K) (run w K):=⟨X38⟩
instance:Hd (Q0 (.bool false) true w run K) (K undef w):=⟨X1v⟩
instance:Hd (Q0 (.bool true) false w run K) (K undef w):=⟨X1O⟩
instance:Hd (Q0 (.bool false) false w (fun w J=>J v w) K) (K v w):=⟨X1W⟩
instance:Hd (Q0 (.bool true) true w (fun w J=>J v w) K) (K v w):=⟨X1V⟩
end
end Go.Emb
namespace Go.Proofs.YtjdiakhipmggjaaGreatDoor
open Go.Emb Go.RowKit Go.Kd Go.Hm
variable {w : World} {K : Value → World → Prop} {σ : Q5}
theorem X1K {xs:List Ins} {v:Value} (q:X2 w σ) (o:Sl 3 Qp σ v xs) (h: ∀e w' l,Stp w σ w' l→decide (e=0)=xs.all (fun i=>decide (H4 i=0))→K (I e) w'):Q1 P F.b5 [v] w K:=Q16 (by
 unfold Ey
 refine U1 xs.length (fun n w'=> ∃l,Stp w σ w' l∧(xs.take n).all (fun i=>decide (H4 i=0))=true) ⟨σ,Stp.refl q,rfl⟩ fun n w1 d y j=>?_
 obtain ⟨σ1,a,f⟩:=j
 have g:=o.up a
 refine Q8 g ?_
 refine Z0 ?_
 refine Q7 (fun m=>?_) (fun m=>?_)
 ·have c:n<xs.length:=by simpa using m
  refine Y3 g c ?_
  obtain ⟨r,s⟩:=g.elI c
  refine Y4 a.sat r rfl ?_
  refine Q8v a.sat s fun z t k=>?_
  refine Jb ?_
  by_cases e:H4 xs[n]=0
  ·have:decide (H4 xs[n]=0)=true:=by simpa using e
   simp only[this,↓M1,M1,Mb,reduceIte]
   exact Y5 o.max c ⟨t,a.trans k,by rw[Us c,f];simpa using e⟩
  ·have:decide (H4 xs[n]=0)=false:=by simpa using e
   simp only[this,↓M1,M1,Mb,reduceIte]
   refine h _ _ _ (a.trans k) ?_
   rw[this]
   symm
   rw[←Bool.not_eq_true,List.all_eq_true]
   intro p
   have:=p _ (List.getElem_mem c)
   simp at this
   exact e this
 ·have c: ¬n<xs.length:=by simpa using m
  rw[List.take_of_length_le (by omega)] at f
  exact h 0 _ _ a (by rw[f];rfl))
theorem X0y {c:Cla} {cs:List Value} (hs:X2 w σ) (hc:V0 σ c cs) (h: ∀w' σ',Stp w σ w' σ'→K (.bool (Zo c)) w'):Q1 P F.bI [.agg cs.toArray] w K:=Aq (by
 unfold Ot
 obtain ⟨lv,fv,mv,rfl,f1,f2,f3,f4,f5⟩:=hc
 refine Y9 hs fun q w1 σ1 hk1 hq=>?_
 have f1:=f1.up hk1
 have f2:=f2.up hk1
 have f3:=f3.up hk1
 refine U1 c.methods.length (fun n w'=> ∃σ',Stp w1 σ1 w' σ'∧(c.methods.take n).any We=false) ⟨σ1,Stp.refl hk1.sat,rfl⟩ fun n w2 d hn hinv=>?_
 obtain ⟨σ2,hk2,hno⟩:=hinv
 have hq2:=hq.up hk2
 have f32:=f3.up hk2
 have f12:=f1.up hk2
 have f22:=f2.up hk2
 have hs2:=hk2.sat
 (try simp only[↓M1,M1,Mb,reduceIte])
 refine ld hs2 hq2 rfl ?_
 refine Q8 f32 ?_
 refine Z0 ?_
 refine Q7 (fun hc=>?_) (fun hc=>?_)
 ·have hn':n<c.methods.length:=by simpa using hc
  (try simp only[↓M1,M1,Mb,reduceIte])
  refine ld hs2 hq2 rfl ?_
  refine Y3 f32 hn' ?_
  obtain ⟨pv,cv,hv,p1,r1⟩:=f32.elM hn'
  refine Y4 hs2 p1 rfl ?_
  refine Y7 hs2 (by rfl) rfl (Rep.one r1) fun q3 w3 σ3 hk3 hq3=>?_
  obtain ⟨g1,g2,g3,_,_,_⟩:=(RMe_lift r1 ⟨hk3.le⟩).parts
  have hS3:=hk1.trans (hk2.trans hk3)
  have hyes:We c.methods[n]=true→K (.bool true) w3:=fun e=>by
   have:=h _ _ hS3
   have hm:Zo c=true:=by unfold Zo;rw[S5 hn' e];rfl
   rwa [hm] at this
  have hk23:=hk2.trans hk3
  clear h hk2 hk3 hS3
  have hmax:=f3.max
  (repeat' (first | (with_reducible intro _) | (with_reducible refine U9 ?_) | (simp only[↓M2,M2,Mb,reduceIte]) | (with_reducible first | refine ld aS aL aR ?_ | refine X7 aS aL aR ?_ | refine Y4 aS aL aR ?_ | refine Q8 aL ?_ | refine J0 aR ?_ | refine Y9 aS ?_ | refine N2 aS aL ?_ | refine U5 aS aR ?_ | refine Y7 aS aR aR (Rep.one (by assumption)) ?_ | refine U6 aS aR aR aR ?_ | (refine Z8 (fun hh=>?_) (fun hh=>?_)<;>(try simp only[hh,Bool.not_true,Bool.not_false,↓M2,M2,Mb,reduceIte])) | (refine Q7 (fun hh=>?_) (fun hh=>?_)<;>(try simp only[hh,Bool.not_true,Bool.not_false,↓M2,M2,Mb,reduceIte])))))
  all_goals clear hq hq2 f1 f2 f3 f32 f12 f22 hs hs2 p1 r1 g1 g2 g3 hk1 f4 f5 hq3
  all_goals first
   | (refine hyes ?_;clear hyes hk23;unfold We;simp only[Bool.not_false,Bool.not_true,Bool.or_eq_true,decide_eq_true_eq,decide_eq_false_iff_not] at*;omega)
   | (
    have hnx:(c.methods.take (n+1)).any We=false:=by
     rw[L2 hn',hno,Bool.false_or];clear hyes hk23;unfold We;simp only[Bool.or_eq_false_iff,decide_eq_false_iff_not] at*;omega
    exact Y5 hmax hn' ⟨_,hk23,hnx⟩)
 ·have hn': ¬n<c.methods.length:=by simpa using hc
  rw[E2 hn'] at hno
  have hS2:=hk1.trans hk2
  have hm:Zo c=(decide (32<c.like.length)||decide (32<c.fields.length)||decide (32<c.methods.length)):=by unfold Zo;rw[hno];simp
  rw[hm] at h
  have hK:=h _ _ hS2
  clear h hk2
  (try simp only[↓M1,M1,Mb,reduceIte])
  refine ld hs2 hq2 rfl ?_
  refine Q8 f12 ?_
  have d32: ∀k:Nat,decide ((32:Int)<(k:Int))=decide (32<k):=fun k=>by rw[Bool.eq_iff_iff,decide_eq_true_eq,decide_eq_true_eq];omega
  simp only[d32,↓M1,M1,Mb,reduceIte]
  cases e1:decide (32<c.like.length) with
  | true=>rw[e1] at hK;(try simp only[↓M1,M1,Mb,reduceIte]);simpa using hK
  | false=>
   rw[e1] at hK
   (try simp only[↓M1,M1,Mb,reduceIte])
   refine ld hs2 hq2 rfl ?_
   refine Q8 f22 ?_
   simp only[d32,↓M1,M1,Mb,reduceIte]
   cases e2:decide (32<c.fields.length) with
   | true=>rw[e2] at hK;(try simp only[↓M1,M1,Mb,reduceIte]);simpa using hK
   | false=>
    rw[e2] at hK
    (try simp only[↓M1,M1,Mb,reduceIte])
    refine ld hs2 hq2 rfl ?_
    refine Q8 f32 ?_
    simp only[d32,↓M1,M1,Mb,reduceIte]
    simpa using hK)
theorem Q7D {α:Type} {xs:List α} {p:α→Bool} {n:Nat} (h: ¬n<xs.length):(xs.take n).all p=xs.all p:=by rw[List.take_of_length_le (by omega)]
set_option maxHeartbeats 4000000 in
theorem Q0w {m:Hm.Met} {pv cv hv:Value} {w1:World} {σ1:Q5} {q:Addr} {z:Bool} (hs:X2 w σ) (ah:Stp w σ w1 σ1) (hq:Z4 σ1 q [S m.name,pv,S m.result, .bool m.abs,I m.locals,cv,hv]) (g1:Sl 1 U7 σ1 pv m.params) (g2:Sl 3 Qp σ1 cv m.code) (g3:Sl 4 Jw σ1 hv m.catches)
 (h: ∀w' O,Stp w σ w' O→K (.bool ((z&&m.params.all right)&&if m.abs then decide (m.locals=0)&&decide (m.code=[])&&decide (m.catches=[])
  else decide (m.code≠[])&&decide ((m.params.length:Int)<m.locals)&&m.code.all (fun i=>decide (H4 i=0))&&m.catches.all (G6 m.code.length))) w'):
 lp (α:=Value×Value) (Value.bool z,(.int .i64 0)) w1 fun X B d_ w=>
  fieldAddr P T.d (.pointer (some q)) 1 w fun cj w=>
  Q2 P T.h cj w fun bu w=>
  X3 P .len [T.h] T.e [false] [bu] w fun cy w=>
  Q3 P .lss T.e (.tmp 21) (.tmp 24) B.2 cy w fun cm w=>
  X1 cm (
   Q0 B.1 true w (fieldAddr P T.d (.pointer (some q)) 1) fun b2 w=>
   Q0 B.1 true w (Q2 P T.h b2) fun da w=>
   Q0 B.1 true w (fun w J=>J B.2 w) fun cp w=>
   Q0 B.1 true w (indexAddr P T.h da cp) fun c6 w=>
   Q0 B.1 true w (Q2 P T.c c6) fun bs w=>
   Q0 B.1 true w (Q1 P F.e [bs]) fun ce w=>
   pick P B.1 ce (.bool false) w fun c9 w=>
   Q3 P .add T.e (.tmp 26) (.const (.int .i64 1)) B.2 (.int .i64 1) w fun b9 w=>
   X (c9,b9) w) (
   fieldAddr P T.d (.pointer (some q)) 3 w fun bl w=>
   Q2 P T.u bl w fun bx w=>
   X1 bx (
    Q0 B.1 true w (fieldAddr P T.d (.pointer (some q)) 4) fun b8 w=>
    Q0 B.1 true w (Q2 P T.e b8) fun cc w=>
    Q0 B.1 true w (Q3 P .eql T.e (.tmp 42) (.const (.int .i64 0)) cc (.int .i64 0)) fun db w=>
    pick P B.1 db (.bool false) w fun R w=>
    Q0 R true w (fieldAddr P T.d (.pointer (some q)) 5) fun b1 w=>
    Q0 R true w (Q2 P T.q b1) fun bv w=>
    Q0 R true w (X3 P .len [T.q] T.e [false] [bv]) fun cz w=>
    Q0 R true w (Q3 P .eql T.e (.tmp 48) (.const (.int .i64 0)) cz (.int .i64 0)) fun cd w=>
    pick P R cd (.bool false) w fun U w=>
    Q0 U true w (fieldAddr P T.d (.pointer (some q)) 6) fun b7 w=>
    Q0 U true w (Q2 P T.s b7) fun dc w=>
    Q0 U true w (X3 P .len [T.s] T.e [false] [dc]) fun cb w=>
    Q0 U true w (Q3 P .eql T.e (.tmp 54) (.const (.int .i64 0)) cb (.int .i64 0)) fun bj w=>
    pick P U bj (.bool false) w fun b5 w=>
    K b5 w) (
    fieldAddr P T.d (.pointer (some q)) 5 w fun bo w=>
    Q2 P T.q bo w fun bw w=>
    X3 P .len [T.q] T.e [false] [bw] w fun af w=>
    lp (α:=Value×Value) (B.1,(.int .i64 0)) w fun L j d_ w=>
     fieldAddr P T.d (.pointer (some q)) 6 w fun ci w=>
     Q2 P T.s ci w fun c8 w=>
     X3 P .len [T.s] T.e [false] [c8] w fun co w=>
     Q3 P .lss T.e (.tmp 60) (.tmp 63) j.2 co w fun b3 w=>
     X1 b3 (
      fieldAddr P T.d (.pointer (some q)) 6 w fun ca w=>
      Q2 P T.s ca w fun c5 w=>
      indexAddr P T.s c5 j.2 w fun cr w=>
      Q2 P T.t cr w fun b0 w=>
      V9 P T.t w fun t7 w=>
      Y0 P T.t t7 b0 w fun _u w=>
      Q0 j.1 true w (fieldAddr P T.t t7 0) fun cn w=>
      Q0 j.1 true w (Q2 P T.e cn) fun bz w=>
      Q0 j.1 true w (Q3 P .geq T.e (.tmp 75) (.const (.int .i64 0)) bz (.int .i64 0)) fun cl w=>
      pick P j.1 cl (.bool false) w fun H w=>
      Q0 H true w (fieldAddr P T.t t7 0) fun cx w=>
      Q0 H true w (Q2 P T.e cx) fun cu w=>
      Q0 H true w (fieldAddr P T.t t7 1) fun bp w=>
      Q0 H true w (Q2 P T.e bp) fun cf w=>
      Q0 H true w (Q3 P .lss T.e (.tmp 80) (.tmp 82) cu cf) fun bn w=>
      pick P H bn (.bool false) w fun Q w=>
      Q0 Q true w (fieldAddr P T.t t7 1) fun dd w=>
      Q0 Q true w (Q2 P T.e dd) fun bm w=>
      Q0 Q true w (fun w J=>J af w) fun c3 w=>
      Q0 Q true w (Q3 P .leq T.e (.tmp 87) (.tmp 88) bm c3) fun ct w=>
      pick P Q ct (.bool false) w fun W w=>
      Q0 W true w (fieldAddr P T.t t7 2) fun c7 w=>
      Q0 W true w (Q2 P T.e c7) fun cg w=>
      Q0 W true w (Q3 P .geq T.e (.tmp 93) (.const (.int .i64 0)) cg (.int .i64 0)) fun ch w=>
      pick P W ch (.bool false) w fun M w=>
      Q0 M true w (fieldAddr P T.t t7 2) fun b6 w=>
      Q0 M true w (Q2 P T.e b6) fun bh w=>
      Q0 M true w (fun w J=>J af w) fun b4 w=>
      Q0 M true w (Q3 P .lss T.e (.tmp 98) (.tmp 99) bh b4) fun av w=>
      pick P M av (.bool false) w fun D w=>
      Q0 D true w (fieldAddr P T.t t7 3) fun ao w=>
      Q0 D true w (Q2 P T.c ao) fun ar w=>
      Q0 D true w (Q1 P F.d [ar]) fun a4 w=>
      pick P D a4 (.bool false) w fun ap w=>
      Q3 P .add T.e (.tmp 65) (.const (.int .i64 1)) j.2 (.int .i64 1) w fun bi w=>
      L (ap,bi) w) (
      Q0 j.1 true w (fun w J=>J af w) fun aw w=>
      Q0 j.1 true w (Q3 P .gtr T.e (.tmp 109) (.const (.int .i64 0)) aw (.int .i64 0)) fun ay w=>
      pick P j.1 ay (.bool false) w fun g w=>
      Q0 g true w (fieldAddr P T.d (.pointer (some q)) 4) fun aq w=>
      Q0 g true w (Q2 P T.e aq) fun a7 w=>
      Q0 g true w (fieldAddr P T.d (.pointer (some q)) 1) fun az w=>
      Q0 g true w (Q2 P T.h az) fun aj w=>
      Q0 g true w (X3 P .len [T.h] T.e [false] [aj]) fun al w=>
      Q0 g true w (Q3 P .gtr T.e (.tmp 114) (.tmp 117) a7 al) fun bd w=>
      pick P g bd (.bool false) w fun s w=>
      Q0 s true w (fieldAddr P T.d (.pointer (some q)) 5) fun a3 w=>
      Q0 s true w (Q2 P T.q a3) fun ak w=>
      Q0 s true w (Q1 P F.b5 [ak]) fun a0 w=>
      Q0 s true w (Q3 P .eql T.y (.tmp 123) (.const (.int .i64 0)) a0 (.int .i64 0)) fun a8 w=>
      pick P s a8 (.bool false) w fun ba w=>
      K ba w))):=by
 have cw:=ah.sat
 have c0:decide ((m.code.length:Int)=0)=decide (m.code=[]):=by cases m.code<;>simp;omega
 have c1:decide ((m.catches.length:Int)=0)=decide (m.catches=[]):=by cases m.catches<;>simp;omega
 have c2:decide ((0:Int)<m.code.length)=decide (m.code≠[]):=by cases m.code<;>simp
 refine E3 (a:=Value.bool z) m.params.length (fun n x w'=> ∃O,Stp w1 σ1 w' O∧x=Value.bool (z&&(m.params.take n).all right)) ⟨σ1,Stp.refl cw,by simp⟩ fun n x w2 d hn N=>?_
 obtain ⟨σ2,l,rfl⟩:=N
 have k:=hq.up l
 have Z:=g1.up l
 have o:=l.sat
 (try simp only[↓M1,M1,Mb,reduceIte])
 refine ld o k rfl ?_
 refine Q8 Z ?_
 refine Z0 ?_
 refine Q7 (fun hc=>?_) (fun hc=>?_)
 ·have c:n<m.params.length:=by simpa using hc
  have r:(z&&(m.params.take (n+1)).all right)=((z&&(m.params.take n).all right)&&right m.params[n]):=by rw[Us c,Bool.and_assoc]
  generalize (z&&(m.params.take n).all right)=f at r⊢
  cases f with
  | false=>(try simp only[↓M1,M1,Mb,reduceIte]);exact Z9 g1.max c ⟨σ2,l,by rw[r];rfl⟩
  | true=>
   (try simp only[↓M1,M1,Mb,reduceIte])
   refine ld o k rfl ?_
   (try simp only[↓M1,M1,Mb,reduceIte])
   refine Y3 Z c ?_
   obtain ⟨p1,p2⟩:=Z.elS c
   refine X7 o p1 rfl ?_
   refine Jy _ (by simp only[U0] at p2;omega) ?_
   (try simp only[↓M1,M1,Mb,reduceIte])
   exact Z9 g1.max c ⟨σ2,l,by rw[r];rfl⟩
 ·have c: ¬n<m.params.length:=by simpa using hc
  rw[Q7D c]
  have a5:=ah.trans l
  have ag:=g2.up l
  have aa:=g3.up l
  clear ah l hq g1 g2 g3 hn hc
  generalize (z&&m.params.all right)=f at h⊢
  refine ld o k rfl ?_
  cases an:m.abs with
  | true=>
   simp only[an,if_true] at h
   have hK:=h _ _ a5
   clear h
   (try simp only[↓M1,M1,Mb,reduceIte])
   cases f with
   | false=>(try simp only[↓M1,M1,Mb,reduceIte]);simpa using hK
   | true=>
    (try simp only[↓M1,M1,Mb,reduceIte])
    refine ld o k rfl ?_
    (try simp only[↓M1,M1,Mb,reduceIte])
    cases a9:decide (m.locals=0) with
    | false=>rw[a9] at hK;(try simp only[↓M1,M1,Mb,reduceIte]);simpa using hK
    | true=>
     rw[a9] at hK
     (try simp only[↓M1,M1,Mb,reduceIte])
     refine ld o k rfl ?_
     refine Q8 ag ?_
     simp only[c0,↓M1,M1,Mb,reduceIte]
     cases bb:decide (m.code=[]) with
     | false=>rw[bb] at hK;(try simp only[↓M1,M1,Mb,reduceIte]);simpa using hK
     | true=>
      rw[bb] at hK
      (try simp only[↓M1,M1,Mb,reduceIte])
      refine ld o k rfl ?_
      refine Q8 aa ?_
      simp only[c1,↓M1,M1,Mb,reduceIte]
      simpa using hK
  | false=>
   simp only[an,Bool.false_eq_true,if_false] at h
   (try simp only[↓M1,M1,Mb,reduceIte])
   refine ld o k rfl ?_
   refine Q8 ag ?_
   refine E3 (a:=Value.bool f) m.catches.length (fun n x w'=> ∃O,Stp w2 σ2 w' O∧x=Value.bool (f&&(m.catches.take n).all (G6 m.code.length))) ⟨σ2,Stp.refl o,by simp⟩ fun n x w4 d hn N=>?_
   obtain ⟨σ4,t,rfl⟩:=N
   have E:=k.up t
   have Y:=aa.up t
   have y:=t.sat
   (try simp only[↓M1,M1,Mb,reduceIte])
   refine ld y E rfl ?_
   refine Q8 Y ?_
   refine Z0 ?_
   refine Q7 (fun hc=>?_) (fun hc=>?_)
   ·have c:n<m.catches.length:=by simpa using hc
    have r:(f&&(m.catches.take (n+1)).all (G6 m.code.length))=((f&&(m.catches.take n).all (G6 m.code.length))&&G6 m.code.length m.catches[n]):=by rw[Us c,Bool.and_assoc]
    generalize (f&&(m.catches.take n).all (G6 m.code.length))=br at r⊢
    (try simp only[↓M1,M1,Mb,reduceIte])
    refine ld y E rfl ?_
    refine Y3 Y c ?_
    obtain ⟨p1,r1⟩:=Y.elK c
    have a2:m.catches[n].cls.length≤140737488355328:=by have:=r1.2.2.2.2;simp only[U0] at this;omega
    refine Y4 y p1 rfl ?_
    refine Y7 y (by rfl) rfl (Rep.one r1) fun q5 w5 σ5 bc A=>?_
    have C:=bc.sat
    have ab:=t.trans bc
    cases br with
    | false=>(try simp only[↓M1,M1,Mb,reduceIte]);exact Z9 aa.max c ⟨σ5,ab,by rw[r];rfl⟩
    | true=>
     have p: ∀b,G6 m.code.length m.catches[n]=b→Bk m.catches.length (fun n x w'=> ∃O,Stp w2 σ2 w' O∧x=Value.bool (f&&(m.catches.take n).all (G6 m.code.length))) (Value.bool b, .int .i64 (IntKind.i64.wrap (n+1))) w5∧Mz m.catches.length (Value.bool b, .int .i64 (IntKind.i64.wrap (n+1)))<Mz m.catches.length (Value.bool true,I n):=fun b e=>Z9 aa.max c ⟨σ5,ab,by rw[r,e];rfl⟩
     unfold G6 at p
     generalize m.catches[n]=x at A p a2
     clear r p1 r1 E k Y h
     (try simp only[↓M1,M1,Mb,reduceIte])
     refine ld C A rfl ?_
     (try simp only[↓M1,M1,Mb,reduceIte])
     cases d1:decide (0≤x.frm) with
     | false=>(try simp only[↓M1,M1,Mb,reduceIte]);exact p _ (by simp[d1])
     | true=>
     (try simp only[↓M1,M1,Mb,reduceIte])
     refine ld C A rfl ?_
     (try simp only[↓M1,M1,Mb,reduceIte])
     refine ld C A rfl ?_
     (try simp only[↓M1,M1,Mb,reduceIte])
     cases d2:decide (x.frm<x.to) with
     | false=>(try simp only[↓M1,M1,Mb,reduceIte]);exact p _ (by simp[d1,d2])
     | true=>
     (try simp only[↓M1,M1,Mb,reduceIte])
     refine ld C A rfl ?_
     (try simp only[↓M1,M1,Mb,reduceIte])
     cases d3:decide (x.to≤(m.code.length:Int)) with
     | false=>(try simp only[↓M1,M1,Mb,reduceIte]);exact p _ (by simp[d1,d2,d3])
     | true=>
     (try simp only[↓M1,M1,Mb,reduceIte])
     refine ld C A rfl ?_
     (try simp only[↓M1,M1,Mb,reduceIte])
     cases d4:decide (0≤x.at_) with
     | false=>(try simp only[↓M1,M1,Mb,reduceIte]);exact p _ (by simp[d1,d2,d3,d4])
     | true=>
     (try simp only[↓M1,M1,Mb,reduceIte])
     refine ld C A rfl ?_
     (try simp only[↓M1,M1,Mb,reduceIte])
     cases d5:decide (x.at_<(m.code.length:Int)) with
     | false=>(try simp only[↓M1,M1,Mb,reduceIte]);exact p _ (by simp[d1,d2,d3,d4,d5])
     | true=>
     (try simp only[↓M1,M1,Mb,reduceIte])
     refine ld C A rfl ?_
     refine Yb x.cls a2 ?_
     (try simp only[↓M1,M1,Mb,reduceIte])
     exact p _ (by simp[d1,d2,d3,d4,d5])
   ·have c: ¬n<m.catches.length:=by simpa using hc
    rw[Q7D c]
    have V:=a5.trans t
    have cq:=ag.up t
    have cs:=Z.up t
    have hh: ∀w' O,Stp w σ w' O→K (.bool ((f&&m.catches.all (G6 m.code.length))&&(decide (m.code≠[])&&decide ((m.params.length:Int)<m.locals)&&m.code.all (fun i=>decide (H4 i=0))))) w':=by
     intro w' O hk
     have:=h w' O hk
     refine Eq.subst (motive:=fun b=>K (.bool b) w') ?_ this
     cases f<;>cases m.catches.all (G6 m.code.length)<;>simp
    clear h t
    generalize (f&&m.catches.all (G6 m.code.length))=c4 at hh⊢
    cases c4 with
    | false=>(try simp only[↓M1,M1,Mb,reduceIte]);simpa using hh _ _ V
    | true=>
     (try simp only[↓M1,M1,Mb,reduceIte])
     simp only[c2,↓M1,M1,Mb,reduceIte]
     cases ax:decide (m.code≠[]) with
     | false=>rw[ax] at hh;(try simp only[↓M1,M1,Mb,reduceIte]);simpa using hh _ _ V
     | true=>
      rw[ax] at hh
      (try simp only[↓M1,M1,Mb,reduceIte])
      refine ld y E rfl ?_
      (try simp only[↓M1,M1,Mb,reduceIte])
      refine ld y E rfl ?_
      refine Q8 cs ?_
      (try simp only[↓M1,M1,Mb,reduceIte])
      cases a6:decide ((m.params.length:Int)<m.locals) with
      | false=>rw[a6] at hh;(try simp only[↓M1,M1,Mb,reduceIte]);simpa using hh _ _ V
      | true=>
       rw[a6] at hh
       (try simp only[↓M1,M1,Mb,reduceIte])
       refine ld y E rfl ?_
       refine X1K y cq fun e w6 σ6 bq he=>?_
       simp only[he,↓M1,M1,Mb,reduceIte]
       simpa using hh _ _ (V.trans bq)
set_option maxHeartbeats 2000000 in
theorem Q8s {m:Hm.Met} {cs:List Value} (n:X2 w σ) (y:E7 σ m cs) (h: ∀w' A,Stp w σ w' A→K (.bool (I3 m)) w'):Q1 P F.a4 [.agg cs.toArray] w K:=Fy (by
 unfold Lf
 obtain ⟨pv,H,J,rfl,z,B,C,E,D,L⟩:=y
 have p:m.name.length≤140737488355328:=by simp only[U0] at E;omega
 have r:m.result.length≤140737488355328:=by simp only[U0] at D;omega
 refine Y9 n fun q w1 σ1 a g=>?_
 have s:=z.up a
 have o:=B.up a
 have t:=C.up a
 have e:=a.sat
 obtain ⟨d,c⟩: ∃b,b=(D7 m.name&&(decide (m.result=[])||right m.result)):=⟨_,rfl⟩
 have k:I3 m=((d&&m.params.all right)&&if m.abs then decide (m.locals=0)&&decide (m.code=[])&&decide (m.catches=[])
  else decide (m.code≠[])&&decide ((m.params.length:Int)<m.locals)&&m.code.all (fun i=>decide (H4 i=0))&&m.catches.all (G6 m.code.length)):=by
  rw[c];unfold I3
  cases D7 m.name<;>cases m.params.all right<;>cases decide (m.result=[])<;>cases right m.result<;>rfl
 rw[k] at h
 clear k
 (repeat refine Hd.h ?_)
 refine ld e g rfl ?_
 refine Py m.name p ?_
 cases f:D7 m.name with
 | false=>
  have l:d=false:=by rw[c,f];rfl
  (repeat refine Hd.h ?_)
  refine Eq.subst (motive:=fun b=>lp (α:=Value×Value) (Value.bool b, .int .i64 0) w1 _) l ?_
  exact Q0w n a g s o t h
 | true=>
  (repeat refine Hd.h ?_)
  refine ld e g rfl ?_
  (repeat refine Hd.h ?_)
  refine K0 ?_
  cases j:decide (m.result=[]) with
  | true=>
   have l:d=true:=by rw[c,f,j];rfl
   (repeat refine Hd.h ?_)
   refine Eq.subst (motive:=fun b=>lp (α:=Value×Value) (Value.bool b, .int .i64 0) w1 _) l ?_
   exact Q0w n a g s o t h
  | false=>
   (repeat refine Hd.h ?_)
   refine ld e g rfl ?_
   (repeat refine Hd.h ?_)
   refine Jy m.result r ?_
   have l:d=right m.result:=by rw[c,f,j];rfl
   (repeat refine Hd.h ?_)
   refine Eq.subst (motive:=fun b=>lp (α:=Value×Value) (Value.bool b, .int .i64 0) w1 _) l ?_
   exact Q0w n a g s o t h)
end Go.Proofs.YtjdiakhipmggjaaGreatDoor

namespace Go.Hm
open Go.Kd
def Lt (c:Cla) (i:Nat):Bool:=M6 (c.like.getD i [])&& !decide (c.like.getD i []=c.name)
def A6 (c:Cla) (i k:Nat):Bool:= !decide (c.like.getD k []=c.like.getD i [])
def Bc (c:Cla) (i:Nat):Fld:=c.fields.getD i Fld.zero
def Hx (c:Cla) (i:Nat):Hm.Met:=c.methods.getD i Hm.Met.zero
def Dq (c:Cla) (i:Nat):Bool:=D7 (Bc c i).name&&right (Bc c i).kind&& !c.iface
def Xv (c:Cla) (i k:Nat):Bool:= !decide ((Bc c k).name=(Bc c i).name)
def Q8i (c:Cla):Bool:=(!c.iface||(c.abs&&decide (c.super=J9)))&& !(c.abs&&c.fin)
def Xn (c:Cla) (i k:Nat):Bool:= !decide ((Hx c k).name=(Hx c i).name)
theorem Lo {p:Nat→Bool} {n:Nat}:(List.range (n+1)).all p=((List.range n).all p&&p n):=by rw[List.range_succ,List.all_append];simp
theorem S8 {α:Type} {xs:List α} {i:Nat} {d:α} (h:i<xs.length):xs.getD i d=xs[i]:=by rw[List.getD_eq_getElem?_getD,List.getElem?_eq_getElem h];rfl
end Go.Hm
namespace Go.Proofs.YtjdiakhipmggjaaGreatDoor
open Go.Emb Go.RowKit Go.Kd Go.Hm
variable {w : World} {K : Value → World → Prop} {σ : Q5}
def Mq (c:Cla) (i:Nat):Bool:=I3 (Hx c i)&&(!(Hx c i).abs||c.abs)&&(!c.iface||(Hx c i).abs)
set_option maxHeartbeats 2000000 in
theorem Q3W {c:Cla} {lv fv mv:Value} {w1:World} {σ1:Q5} {q:Addr} {ok:Bool} (ae:X2 w1 σ1) (hq:Z4 σ1 q [S c.name,S c.super,lv, .bool c.iface, .bool c.abs, .bool c.fin,fv,mv]) {i:Nat} {N m0:Nat} {U:Nat→Value→World→Prop} (g1:Sl 1 U7 σ1 lv c.like) (hi:i<c.like.length)
 (h: ∀w' Z,Stp w1 σ1 w' Z→Bk N U (Value.bool (ok&&(List.range i).all (A6 c i)), .int .i64 (IntKind.i64.wrap (i+1))) w'∧Mz N (Value.bool (ok&&(List.range i).all (A6 c i)), .int .i64 (IntKind.i64.wrap (i+1)))<m0):
 lp (
  α:=Value×Value) (Value.bool ok,(.int .i64 0)) w1 fun g b d_ w=>
  Q3 P .lss T.e (.tmp 52) (.tmp 53) b.2 (I i) w fun Y w=>
  X1 Y (
   dr w fun e j=>
   Q6 e (fun p=> ∀w:World,j w→Q0 b.1 true w (fieldAddr P T.b (.pointer (some q)) 2) (dk e p w)) fun p=>
   Q6 e (fun D=> ∀w:World,j w→Q0 b.1 true w (fun w J=>J b.2 w) (dk e D w)) fun D=>
   Q6 e (fun s=> ∀w:World,j w→Q0 b.1 true w (fieldAddr P T.b (.pointer (some q)) 2) (dk e s w)) fun s=>
   Q6 e (fun r=> ∀w:World,j w→Q0 b.1 true w (fun w J=>J (I i) w) (dk e r w)) fun r=>
   Q6 e (fun B=> ∀o:Value,∀w:World,j w→p o w→Q0 b.1 true w (Q2 P T.h o) (dk e B w)) fun B=>
   Q6 e (fun z=> ∀t:Value,∀n:Value,∀w:World,j w→B t w→D n w→Q0 b.1 true w (indexAddr P T.h t n) (dk e z w)) fun z=>
   Q6 e (fun E=> ∀C:Value,∀w:World,j w→z C w→Q0 b.1 true w (Q2 P T.c C) (dk e E w)) fun E=>
   Q6 e (fun y=> ∀A:Value,∀w:World,j w→s A w→Q0 b.1 true w (Q2 P T.h A) (dk e y w)) fun y=>
   Q6 e (fun v=> ∀u:Value,∀m:Value,∀w:World,j w→y u w→r m w→Q0 b.1 true w (indexAddr P T.h u m) (dk e v w)) fun v=>
   Q6 e (fun L=> ∀l:Value,∀w:World,j w→v l w→Q0 b.1 true w (Q2 P T.c l) (dk e L w)) fun L=>
   ∀o:Value,∀n:Value,∀A:Value,∀m:Value,∀t:Value,∀C:Value,∀O:Value,∀u:Value,∀l:Value,∀V:Value,∀w:World,j w→p o w→D n w→s A w→r m w→B t w→z C w→E O w→y u w→v l w→L V w→
   Q0 b.1 true w (Q3 P .neq T.c (.tmp 63) (.tmp 68) O V) fun ah w=>
   pick P b.1 ah (.bool false) w fun aa w=>
   Q3 P .add T.e (.tmp 55) (.const (.int .i64 1)) b.2 (.int .i64 1) w fun af w=>
   g (aa,af) w) (
   Q3 P .add T.e (.tmp 31) (.const (.int .i64 1)) (I i) (.int .i64 1) w fun Q w=>
   (Bk N U (b.1,Q) w∧Mz N (b.1,Q)<m0)):=by
 have aj:=g1.max
 refine E3 (a:=Value.bool ok) i (fun k x w'=> ∃Z,Stp w1 σ1 w' Z∧x=Value.bool (ok&&(List.range k).all (A6 c i))) ⟨σ1,Stp.refl ae,by simp⟩ fun k x w2 d hk R=>?_
 obtain ⟨σ2,f,rfl⟩:=R
 have aq:=hq.up f
 have W:=g1.up f
 have ag:=f.sat
 refine Z0 ?_
 refine Q7 (fun X=>?_) (fun X=>?_)
 ·have ac:k<i:=by simpa using X
  have M:k<c.like.length:=by omega
  have H:(ok&&(List.range (k+1)).all (A6 c i))=((ok&&(List.range k).all (A6 c i))&&A6 c i k):=by rw[Lo,Bool.and_assoc]
  have hQ:A6 c i k= !decide (c.like[k]=c.like[i]):=by unfold A6;rw[S8 M,S8 hi]
  rw[hQ] at H
  obtain ⟨p1,_⟩:=W.elS M
  obtain ⟨p2,_⟩:=W.elS hi
  generalize (ok&&(List.range k).all (A6 c i))=ai at H⊢
  clear h hQ X
  cases ai
  all_goals
   refine U2 ag ?_
   (repeat refine J5 Qd ?_)
   (intros;(repeat (rename_i hx;subst hx));(try simp only[↓M2,M2,Mb,reduceIte]))
   rename_i w3 ad
   exact Z9 (by omega) ac ⟨σ2,f.trans ad.stp,by rw[H];rfl⟩
 ·have ab:k=i:=by
   have: ¬k<i:=by simpa using X
   omega
  subst ab
  (try simp only[↓M1,M1,Mb,reduceIte])
  exact h _ _ f
set_option maxHeartbeats 4000000 in
theorem X0A {c:Cla} {lv fv mv:Value} {w1:World} {σ1:Q5} {q:Addr} {ok:Bool} (hs1:X2 w1 σ1) (hq:Z4 σ1 q [S c.name,S c.super,lv, .bool c.iface, .bool c.abs, .bool c.fin,fv,mv]) {J:Value→World→Prop} (hn:c.name.length≤U0) (g1:Sl 1 U7 σ1 lv c.like)
 (h: ∀w' σ',Stp w1 σ1 w' σ'→J (.bool (ok&&(List.range c.like.length).all fun i=>Lt c i&&(List.range i).all (A6 c i))) w'):
 lp (α:=Value×Value) (Value.bool ok,(.int .i64 0)) w1 fun again4 x4 d_ w=>
 fieldAddr P T.b (.pointer (some q)) 2 w fun t27 w=>
 Q2 P T.h t27 w fun t28 w=>
 X3 P .len [T.h] T.e [false] [t28] w fun t29 w=>
 Q3 P .lss T.e (.tmp 26) (.tmp 29) x4.2 t29 w fun t30 w=>
 X1 t30 (
  dr w fun Tr Br=>
  Q6 Tr (fun φ35=> ∀w:World,Br w→Q0 x4.1 true w (fieldAddr P T.b (.pointer (some q)) 2) (dk Tr φ35 w)) fun φ35=>
  Q6 Tr (fun φ37=> ∀w:World,Br w→Q0 x4.1 true w (fun w J=>J x4.2 w) (dk Tr φ37 w)) fun φ37=>
  Q6 Tr (fun φ36=> ∀t35:Value,∀w:World,Br w→φ35 t35 w→Q0 x4.1 true w (Q2 P T.h t35) (dk Tr φ36 w)) fun φ36=>
  Q6 Tr (fun φ38=> ∀t36:Value,∀t37:Value,∀w:World,Br w→φ36 t36 w→φ37 t37 w→Q0 x4.1 true w (indexAddr P T.h t36 t37) (dk Tr φ38 w)) fun φ38=>
  Q6 Tr (fun φ39=> ∀t38:Value,∀w:World,Br w→φ38 t38 w→Q0 x4.1 true w (Q2 P T.c t38) (dk Tr φ39 w)) fun φ39=>
  Q6 Tr (fun φ40=> ∀t39:Value,∀w:World,Br w→φ39 t39 w→Q0 x4.1 true w (Q1 P F.d [t39]) (dk Tr φ40 w)) fun φ40=>
  Q6 Tr (fun φ41=> ∀t40:Value,∀w:World,Br w→φ40 t40 w→pick P x4.1 t40 (.bool false) w (dk Tr φ41 w)) fun φ41=>
  Q6 Tr (fun φ43=> ∀t41:Value,∀w:World,Br w→φ41 t41 w→Q0 t41 true w (fieldAddr P T.b (.pointer (some q)) 2) (dk Tr φ43 w)) fun φ43=>
  Q6 Tr (fun φ45=> ∀t41:Value,∀w:World,Br w→φ41 t41 w→Q0 t41 true w (fun w J=>J x4.2 w) (dk Tr φ45 w)) fun φ45=>
  Q6 Tr (fun φ48=> ∀t41:Value,∀w:World,Br w→φ41 t41 w→Q0 t41 true w (fieldAddr P T.b (.pointer (some q)) 0) (dk Tr φ48 w)) fun φ48=>
  Q6 Tr (fun φ44=> ∀t41:Value,∀t43:Value,∀w:World,Br w→φ41 t41 w→φ43 t43 w→Q0 t41 true w (Q2 P T.h t43) (dk Tr φ44 w)) fun φ44=>
  Q6 Tr (fun φ46=> ∀t41:Value,∀t44:Value,∀t45:Value,∀w:World,Br w→φ41 t41 w→φ44 t44 w→φ45 t45 w→Q0 t41 true w (indexAddr P T.h t44 t45) (dk Tr φ46 w)) fun φ46=>
  Q6 Tr (fun φ47=> ∀t41:Value,∀t46:Value,∀w:World,Br w→φ41 t41 w→φ46 t46 w→Q0 t41 true w (Q2 P T.c t46) (dk Tr φ47 w)) fun φ47=>
  Q6 Tr (fun φ49=> ∀t41:Value,∀t48:Value,∀w:World,Br w→φ41 t41 w→φ48 t48 w→Q0 t41 true w (Q2 P T.c t48) (dk Tr φ49 w)) fun φ49=>
  ∀t35:Value,∀t37:Value,∀t36:Value,∀t38:Value,∀t39:Value,∀t40:Value,∀t41:Value,∀t43:Value,∀t45:Value,∀t48:Value,∀t44:Value,∀t46:Value,∀t47:Value,∀t49:Value,∀w:World,Br w→φ35 t35 w→φ37 t37 w→φ36 t36 w→φ38 t38 w→φ39 t39 w→φ40 t40 w→φ41 t41 w→φ43 t43 w→φ45 t45 w→φ48 t48 w→φ44 t44 w→φ46 t46 w→φ47 t47 w→φ49 t49 w→
  Q0 t41 true w (Q3 P .neq T.c (.tmp 47) (.tmp 49) t47 t49) fun t50 w=>
  pick P t41 t50 (.bool false) w fun t51 w=>
  lp (α:=Value×Value) (t51,(.int .i64 0)) w fun again10 x10 d_ w=>
   Q3 P .lss T.e (.tmp 52) (.tmp 53) x10.2 x4.2 w fun t54 w=>
   X1 t54 (
    dr w fun Tr Br=>
    Q6 Tr (fun φ59=> ∀w:World,Br w→Q0 x10.1 true w (fieldAddr P T.b (.pointer (some q)) 2) (dk Tr φ59 w)) fun φ59=>
    Q6 Tr (fun φ61=> ∀w:World,Br w→Q0 x10.1 true w (fun w J=>J x10.2 w) (dk Tr φ61 w)) fun φ61=>
    Q6 Tr (fun φ64=> ∀w:World,Br w→Q0 x10.1 true w (fieldAddr P T.b (.pointer (some q)) 2) (dk Tr φ64 w)) fun φ64=>
    Q6 Tr (fun φ66=> ∀w:World,Br w→Q0 x10.1 true w (fun w J=>J x4.2 w) (dk Tr φ66 w)) fun φ66=>
    Q6 Tr (fun φ60=> ∀t59:Value,∀w:World,Br w→φ59 t59 w→Q0 x10.1 true w (Q2 P T.h t59) (dk Tr φ60 w)) fun φ60=>
    Q6 Tr (fun φ62=> ∀t60:Value,∀t61:Value,∀w:World,Br w→φ60 t60 w→φ61 t61 w→Q0 x10.1 true w (indexAddr P T.h t60 t61) (dk Tr φ62 w)) fun φ62=>
    Q6 Tr (fun φ63=> ∀t62:Value,∀w:World,Br w→φ62 t62 w→Q0 x10.1 true w (Q2 P T.c t62) (dk Tr φ63 w)) fun φ63=>
    Q6 Tr (fun φ65=> ∀t64:Value,∀w:World,Br w→φ64 t64 w→Q0 x10.1 true w (Q2 P T.h t64) (dk Tr φ65 w)) fun φ65=>
    Q6 Tr (fun φ67=> ∀t65:Value,∀t66:Value,∀w:World,Br w→φ65 t65 w→φ66 t66 w→Q0 x10.1 true w (indexAddr P T.h t65 t66) (dk Tr φ67 w)) fun φ67=>
    Q6 Tr (fun φ68=> ∀t67:Value,∀w:World,Br w→φ67 t67 w→Q0 x10.1 true w (Q2 P T.c t67) (dk Tr φ68 w)) fun φ68=>
    ∀t59:Value,∀t61:Value,∀t64:Value,∀t66:Value,∀t60:Value,∀t62:Value,∀t63:Value,∀t65:Value,∀t67:Value,∀t68:Value,∀w:World,Br w→φ59 t59 w→φ61 t61 w→φ64 t64 w→φ66 t66 w→φ60 t60 w→φ62 t62 w→φ63 t63 w→φ65 t65 w→φ67 t67 w→φ68 t68 w→
    Q0 x10.1 true w (Q3 P .neq T.c (.tmp 63) (.tmp 68) t63 t68) fun t69 w=>
    pick P x10.1 t69 (.bool false) w fun t70 w=>
    Q3 P .add T.e (.tmp 55) (.const (.int .i64 1)) x10.2 (.int .i64 1) w fun t56 w=>
    again10 (t70,t56) w) (
    Q3 P .add T.e (.tmp 31) (.const (.int .i64 1)) x4.2 (.int .i64 1) w fun t32 w=>
    again4 (x10.1,t32) w)) (
  J x4.1 w):=by
 have hmax:=g1.max
 refine E3 (a:=Value.bool ok) c.like.length (fun n x w'=> ∃σ',Stp w1 σ1 w' σ'∧x=Value.bool (ok&&(List.range n).all fun i=>Lt c i&&(List.range i).all (A6 c i))) ⟨σ1,Stp.refl hs1,by simp⟩ fun n x w2 d hn2 hinv=>?_
 obtain ⟨σ2,hk2,rfl⟩:=hinv
 have hq2:=hq.up hk2
 have g12:=g1.up hk2
 have hs2:=hk2.sat
 (repeat refine Hd.h ?_)
 refine ld hs2 hq2 rfl ?_
 refine Q8 g12 ?_
 refine Z0 ?_
 refine Q7 (fun hc=>?_) (fun hc=>?_)
 ·have hn':n<c.like.length:=by simpa using hc
  have hnx:(ok&&(List.range (n+1)).all fun i=>Lt c i&&(List.range i).all (A6 c i))=((ok&&(List.range n).all fun i=>Lt c i&&(List.range i).all (A6 c i))&&(Lt c n&&(List.range n).all (A6 c n))):=by rw[Lo,Bool.and_assoc]
  have hP:Lt c n=(M6 c.like[n]&& !decide (c.like[n]=c.name)):=by unfold Lt;rw[S8 hn']
  obtain ⟨p1,p2⟩:=g12.elS hn'
  have p2:c.like[n].length≤140737488355328:=by simp only[U0] at p2;omega
  generalize (ok&&(List.range n).all fun i=>Lt c i&&(List.range i).all (A6 c i))=acc at hnx⊢
  clear h hc
  cases hacc:acc with
  | false=>
   refine U2 hs2 ?_
   (repeat refine J5 Qd ?_)
   intros;(repeat (rename_i hx;subst hx))
   rename_i w3 hb3
   (repeat refine Hd.h ?_)
   refine Q3W hb3.sat hq2 g12 hn' fun w4 σ4 hk4=>?_
   exact Z9 hmax hn' ⟨σ4,hk2.trans (hb3.stp.trans hk4),by rw[hnx,hacc];rfl⟩
  | true=>
   cases hcl:M6 c.like[n] with
   | false=>
    refine U2 hs2 ?_
    have hrc: ∀{w':World} {K:Value→World→Prop},K (.bool false) w'→Q1 P F.d [S c.like[n]] w' K:=fun hK=>Yb _ p2 (by rw[hcl];exact hK)
    (repeat (apply J5;(· intros;(repeat (rename_i hx;subst hx));(repeat' (first | (with_reducible exact O8 rfl) | (with_reducible exact S7 (Stp.bel (by (repeat (first | exact Stp.refl (by (first | assumption | exact Stp.sat (by assumption) | exact Hst.sat (by assumption))) | assumption | refine Stp.trans ?_ (by first | assumption | exact Hst.stp (by assumption)))))) rfl) | (with_reducible intro _) | (simp only[↓M2,M2,Mb,reduceIte]) | (with_reducible refine hrc ?_) | (with_reducible show Q2 _ _ _ _ _;first | refine X7 aS aL aR ?_ | refine Y4 aS aL aR ?_ | refine ld aS aL aR ?_) | (with_reducible show indexAddr _ _ _ _ _ _;refine Y3 aL au ?_) | (with_reducible show X3 _ _ _ _ _ _ _ _;refine Q8 aL ?_) | (with_reducible show F2 _ _ _ _ _ _;refine J0 aR ?_) | (with_reducible show pick _ _ _ _ _ _;refine M9 ?_) | (apply I1;intro hh;(try simp only[hh,reduceIte,↓M2,M2,Mb,reduceIte]))));done)))
    intros;(repeat (rename_i hx;subst hx))
    rename_i w3 hb3
    (repeat refine Hd.h ?_)
    refine Q3W hb3.sat hq2 g12 hn' fun w4 σ4 hk4=>?_
    exact Z9 hmax hn' ⟨σ4,hk2.trans (hb3.stp.trans hk4),by rw[hnx,hacc,hP,hcl];rfl⟩
   | true=>
    refine U2 hs2 ?_
    have hrc: ∀{w':World} {K:Value→World→Prop},K (.bool true) w'→Q1 P F.d [S c.like[n]] w' K:=fun hK=>Yb _ p2 (by rw[hcl];exact hK)
    (repeat (apply J5;(· intros;(repeat (rename_i hx;subst hx));(repeat' (first | (with_reducible exact O8 rfl) | (with_reducible exact S7 (Stp.bel (by (repeat (first | exact Stp.refl (by (first | assumption | exact Stp.sat (by assumption) | exact Hst.sat (by assumption))) | assumption | refine Stp.trans ?_ (by first | assumption | exact Hst.stp (by assumption)))))) rfl) | (with_reducible intro _) | (simp only[↓M2,M2,Mb,reduceIte]) | (with_reducible refine hrc ?_) | (with_reducible show Q2 _ _ _ _ _;first | refine X7 aS aL aR ?_ | refine Y4 aS aL aR ?_ | refine ld aS aL aR ?_) | (with_reducible show indexAddr _ _ _ _ _ _;refine Y3 aL au ?_) | (with_reducible show X3 _ _ _ _ _ _ _ _;refine Q8 aL ?_) | (with_reducible show F2 _ _ _ _ _ _;refine J0 aR ?_) | (with_reducible show pick _ _ _ _ _ _;refine M9 ?_) | (apply I1;intro hh;(try simp only[hh,reduceIte,↓M2,M2,Mb,reduceIte]))));done)))
    intros;(repeat (rename_i hx;subst hx))
    rename_i w3 hb3
    (repeat refine Hd.h ?_)
    refine Vz ?_
    (repeat refine Hd.h ?_)
    refine Q3W hb3.sat hq2 g12 hn' fun w4 σ4 hk4=>?_
    exact Z9 hmax hn' ⟨σ4,hk2.trans (hb3.stp.trans hk4),by rw[hnx,hacc,hP,hcl];simp⟩
 ·have hn': ¬n<c.like.length:=by simpa using hc
  obtain rfl:n=c.like.length:=by omega
  exact h _ _ hk2
set_option maxHeartbeats 2000000 in
theorem Q3i {c:Cla} {lv fv mv:Value} {w1:World} {σ1:Q5} {q:Addr} {ok:Bool} (ak:X2 w1 σ1) (hq:Z4 σ1 q [S c.name,S c.super,lv, .bool c.iface, .bool c.abs, .bool c.fin,fv,mv]) {i:Nat} {N m0:Nat} {ac:Nat→Value→World→Prop} (g2:Sl 3 R7 σ1 fv c.fields) (hi:i<c.fields.length)
 (h: ∀w' σ',Stp w1 σ1 w' σ'→Bk N ac (Value.bool (ok&&(List.range i).all (Xv c i)), .int .i64 (IntKind.i64.wrap (i+1))) w'∧Mz N (Value.bool (ok&&(List.range i).all (Xv c i)), .int .i64 (IntKind.i64.wrap (i+1)))<m0):
 lp (α:=Value×Value) (Value.bool ok,(.int .i64 0)) w1 fun Q b d_ w=>
  Q3 P .lss T.e (.tmp 102) (.tmp 103) b.2 (I i) w fun ad w=>
  X1 ad (
   dr w fun e H=>
   Q6 e (fun f=> ∀w:World,H w→Q0 b.1 true w (fieldAddr P T.b (.pointer (some q)) 6) (dk e f w)) fun f=>
   Q6 e (fun r=> ∀w:World,H w→Q0 b.1 true w (fun w J=>J b.2 w) (dk e r w)) fun r=>
   Q6 e (fun p=> ∀w:World,H w→Q0 b.1 true w (fieldAddr P T.b (.pointer (some q)) 6) (dk e p w)) fun p=>
   Q6 e (fun t=> ∀w:World,H w→Q0 b.1 true w (fun w J=>J (I i) w) (dk e t w)) fun t=>
   Q6 e (fun g=> ∀A:Value,∀w:World,H w→f A w→Q0 b.1 true w (Q2 P T.k A) (dk e g w)) fun g=>
   Q6 e (fun B=> ∀C:Value,∀v:Value,∀w:World,H w→g C w→r v w→Q0 b.1 true w (indexAddr P T.k C v) (dk e B w)) fun B=>
   Q6 e (fun j=> ∀u:Value,∀w:World,H w→B u w→Q0 b.1 true w (fieldAddr P T.o u 0) (dk e j w)) fun j=>
   Q6 e (fun O=> ∀s:Value,∀w:World,H w→j s w→Q0 b.1 true w (Q2 P T.c s) (dk e O w)) fun O=>
   Q6 e (fun y=> ∀D:Value,∀w:World,H w→p D w→Q0 b.1 true w (Q2 P T.k D) (dk e y w)) fun y=>
   Q6 e (fun n=> ∀m:Value,∀o:Value,∀w:World,H w→y m w→t o w→Q0 b.1 true w (indexAddr P T.k m o) (dk e n w)) fun n=>
   Q6 e (fun l=> ∀E:Value,∀w:World,H w→n E w→Q0 b.1 true w (fieldAddr P T.o E 0) (dk e l w)) fun l=>
   Q6 e (fun L=> ∀z:Value,∀w:World,H w→l z w→Q0 b.1 true w (Q2 P T.c z) (dk e L w)) fun L=>
   ∀A:Value,∀v:Value,∀D:Value,∀o:Value,∀C:Value,∀u:Value,∀s:Value,∀R:Value,∀m:Value,∀E:Value,∀z:Value,∀U:Value,∀w:World,H w→f A w→r v w→p D w→t o w→g C w→B u w→j s w→O R w→y m w→n E w→l z w→L U w→
   Q0 b.1 true w (Q3 P .neq T.c (.tmp 114) (.tmp 120) R U) fun W w=>
   pick P b.1 W (.bool false) w fun X w=>
   Q3 P .add T.e (.tmp 105) (.const (.int .i64 1)) b.2 (.int .i64 1) w fun aa w=>
   Q (X,aa) w) (
   Q3 P .add T.e (.tmp 76) (.const (.int .i64 1)) (I i) (.int .i64 1) w fun Z w=>
   (Bk N ac (b.1,Z) w∧Mz N (b.1,Z)<m0)):=by
 have an:=g2.max
 refine E3 (a:=Value.bool ok) i (fun k x w'=> ∃σ',Stp w1 σ1 w' σ'∧x=Value.bool (ok&&(List.range k).all (Xv c i))) ⟨σ1,Stp.refl ak,by simp⟩ fun k x w2 d hk ab=>?_
 obtain ⟨σ2,M,rfl⟩:=ab
 have ax:=hq.up M
 have ae:=g2.up M
 have al:=M.sat
 refine Z0 ?_
 refine Q7 (fun hc=>?_) (fun hc=>?_)
 ·have ai:k<i:=by simpa using hc
  have Y:k<c.fields.length:=by omega
  have V:(ok&&(List.range (k+1)).all (Xv c i))=((ok&&(List.range k).all (Xv c i))&&Xv c i k):=by rw[Lo,Bool.and_assoc]
  have hQ:Xv c i k= !decide (c.fields[k].name=c.fields[i].name):=by unfold Xv Bc;rw[S8 Y,S8 hi]
  rw[hQ] at V
  obtain ⟨p1,_⟩:=ae.elF Y
  obtain ⟨p2,_⟩:=ae.elF hi
  generalize (ok&&(List.range k).all (Xv c i))=am at V⊢
  clear h hQ hc
  cases am
  all_goals
   refine U2 al ?_
   (repeat refine J5 Qd ?_)
   (intros;(repeat (rename_i hx;subst hx));(try simp only[↓M2,M2,Mb,reduceIte]))
   rename_i w3 aj
   exact Z9 (by omega) ai ⟨σ2,M.trans aj.stp,by rw[V];rfl⟩
 ·have ah:k=i:=by
   have: ¬k<i:=by simpa using hc
   omega
  subst ah
  (try simp only[↓M1,M1,Mb,reduceIte])
  exact h _ _ M
set_option maxHeartbeats 4000000 in
theorem X1y {c:Cla} {lv fv mv:Value} {w1:World} {σ1:Q5} {q:Addr} {ok:Bool} (bd:X2 w1 σ1) (hq:Z4 σ1 q [S c.name,S c.super,lv, .bool c.iface, .bool c.abs, .bool c.fin,fv,mv]) {J:Value→World→Prop} (g2:Sl 3 R7 σ1 fv c.fields)
 (h: ∀w' σ',Stp w1 σ1 w' σ'→J (.bool (ok&&(List.range c.fields.length).all fun i=>Dq c i&&(List.range i).all (Xv c i))) w'):
 lp (
  α:=Value×Value) (Value.bool ok,(.int .i64 0)) w1 fun ad g d_ w=>
  fieldAddr P T.b (.pointer (some q)) 6 w fun a8 w=>
  Q2 P T.k a8 w fun a4 w=>
  X3 P .len [T.k] T.e [false] [a4] w fun a3 w=>
  Q3 P .lss T.e (.tmp 71) (.tmp 74) g.2 a3 w fun bb w=>
  X1 bb (
   Q0 g.1 true w (fieldAddr P T.b (.pointer (some q)) 6) fun ba w=>
   Q0 g.1 true w (Q2 P T.k ba) fun a0 w=>
   Q0 g.1 true w (fun w J=>J g.2 w) fun av w=>
   Q0 g.1 true w (indexAddr P T.k a0 av) fun ay w=>
   Q0 g.1 true w (fieldAddr P T.o ay 0) fun a1 w=>
   Q0 g.1 true w (Q2 P T.c a1) fun be w=>
   Q0 g.1 true w (Q1 P F.u [be]) fun bj w=>
   pick P g.1 bj (.bool false) w fun m w=>
   Q0 m true w (fieldAddr P T.b (.pointer (some q)) 6) fun a9 w=>
   Q0 m true w (Q2 P T.k a9) fun a7 w=>
   Q0 m true w (fun w J=>J g.2 w) fun bg w=>
   Q0 m true w (indexAddr P T.k a7 bg) fun bi w=>
   Q0 m true w (fieldAddr P T.o bi 1) fun aw w=>
   Q0 m true w (Q2 P T.c aw) fun ax w=>
   Q0 m true w (Q1 P F.e [ax]) fun a5 w=>
   pick P m a5 (.bool false) w fun ae w=>
   Q0 ae true w (fieldAddr P T.b (.pointer (some q)) 3) fun ar w=>
   Q0 ae true w (Q2 P T.u ar) fun bf w=>
   Q0 ae true w (J6 P .not bf) fun ap w=>
   pick P ae ap (.bool false) w fun am w=>
   lp (α:=Value×Value) (am,(.int .i64 0)) w fun ac f d_ w=>
    Q3 P .lss T.e (.tmp 102) (.tmp 103) f.2 g.2 w fun ao w=>
    X1 ao (
     dr w fun k Y=>
     Q6 k (fun t=> ∀w:World,Y w→Q0 f.1 true w (fieldAddr P T.b (.pointer (some q)) 6) (dk k t w)) fun t=>
     Q6 k (fun E=> ∀w:World,Y w→Q0 f.1 true w (fun w J=>J f.2 w) (dk k E w)) fun E=>
     Q6 k (fun D=> ∀w:World,Y w→Q0 f.1 true w (fieldAddr P T.b (.pointer (some q)) 6) (dk k D w)) fun D=>
     Q6 k (fun L=> ∀w:World,Y w→Q0 f.1 true w (fun w J=>J g.2 w) (dk k L w)) fun L=>
     Q6 k (fun v=> ∀R:Value,∀w:World,Y w→t R w→Q0 f.1 true w (Q2 P T.k R) (dk k v w)) fun v=>
     Q6 k (fun U=> ∀V:Value,∀N:Value,∀w:World,Y w→v V w→E N w→Q0 f.1 true w (indexAddr P T.k V N) (dk k U w)) fun U=>
     Q6 k (fun y=> ∀M:Value,∀w:World,Y w→U M w→Q0 f.1 true w (fieldAddr P T.o M 0) (dk k y w)) fun y=>
     Q6 k (fun ab=> ∀H:Value,∀w:World,Y w→y H w→Q0 f.1 true w (Q2 P T.c H) (dk k ab w)) fun ab=>
     Q6 k (fun O=> ∀W:Value,∀w:World,Y w→D W w→Q0 f.1 true w (Q2 P T.k W) (dk k O w)) fun O=>
     Q6 k (fun B=> ∀A:Value,∀C:Value,∀w:World,Y w→O A w→L C w→Q0 f.1 true w (indexAddr P T.k A C) (dk k B w)) fun B=>
     Q6 k (fun z=> ∀X:Value,∀w:World,Y w→B X w→Q0 f.1 true w (fieldAddr P T.o X 0) (dk k z w)) fun z=>
     Q6 k (fun Z=> ∀Q:Value,∀w:World,Y w→z Q w→Q0 f.1 true w (Q2 P T.c Q) (dk k Z w)) fun Z=>
     ∀R:Value,∀N:Value,∀W:Value,∀C:Value,∀V:Value,∀M:Value,∀H:Value,∀af:Value,∀A:Value,∀X:Value,∀Q:Value,∀ag:Value,∀w:World,Y w→t R w→E N w→D W w→L C w→v V w→U M w→y H w→ab af w→O A w→B X w→z Q w→Z ag w→
     Q0 f.1 true w (Q3 P .neq T.c (.tmp 114) (.tmp 120) af ag) fun aj w=>
     pick P f.1 aj (.bool false) w fun ak w=>
     Q3 P .add T.e (.tmp 105) (.const (.int .i64 1)) f.2 (.int .i64 1) w fun al w=>
     ac (ak,al) w) (
     Q3 P .add T.e (.tmp 76) (.const (.int .i64 1)) g.2 (.int .i64 1) w fun a6 w=>
     ad (f.1,a6) w)) (
   J g.1 w):=by
 have u:=g2.max
 refine E3 (a:=Value.bool ok) c.fields.length (fun n x w'=> ∃σ',Stp w1 σ1 w' σ'∧x=Value.bool (ok&&(List.range n).all fun i=>Dq c i&&(List.range i).all (Xv c i))) ⟨σ1,Stp.refl bd,by simp⟩ fun n x w2 d bu an=>?_
 obtain ⟨σ2,p,rfl⟩:=an
 have o:=hq.up p
 have r:=g2.up p
 have l:=p.sat
 (repeat refine Hd.h ?_)
 refine ld l o rfl ?_
 refine Q8 r ?_
 refine Z0 ?_
 refine Q7 (fun hc=>?_) (fun hc=>?_)
 ·have j:n<c.fields.length:=by simpa using hc
  have aa:(ok&&(List.range (n+1)).all fun i=>Dq c i&&(List.range i).all (Xv c i))=((ok&&(List.range n).all fun i=>Dq c i&&(List.range i).all (Xv c i))&&(Dq c n&&(List.range n).all (Xv c n))):=by rw[Lo,Bool.and_assoc]
  have hP:Dq c n=(D7 c.fields[n].name&&right c.fields[n].kind&& !c.iface):=by unfold Dq Bc;rw[S8 j]
  obtain ⟨p1,r1⟩:=r.elF j
  have b1:c.fields[n].name.length≤140737488355328:=by have:=r1.2.1;simp only[U0] at this;omega
  have b2:c.fields[n].kind.length≤140737488355328:=by have:=r1.2.2;simp only[U0] at this;omega
  generalize (ok&&(List.range n).all fun i=>Dq c i&&(List.range i).all (Xv c i))=ai at aa⊢
  clear h hc
  have step: ∀b,b=(ai&&Dq c n)→(ai&&(Dq c n&&(List.range n).all (Xv c n)))=(b&&(List.range n).all (Xv c n)):=fun b e=>by rw[e,Bool.and_assoc]
  cases ai with
  | false=>
   (repeat refine Hd.h ?_)
   refine Q3i l o r j fun w4 σ4 s=>?_
   exact Z9 u j ⟨σ4,p.trans s,by rw[aa];rfl⟩
  | true=>
   (repeat refine Hd.h ?_)
   refine ld l o rfl ?_
   (repeat refine Hd.h ?_)
   refine Y3 r j ?_
   (repeat refine Hd.h ?_)
   refine ld l p1 rfl ?_
   (repeat refine Hd.h ?_)
   refine Py _ b1 ?_
   cases d1:D7 c.fields[n].name with
   | false=>
    (repeat refine Hd.h ?_)
    refine Q3i l o r j fun w4 σ4 s=>?_
    exact Z9 u j ⟨σ4,p.trans s,by rw[aa,step false (by rw[hP,d1];rfl)]⟩
   | true=>
    (repeat refine Hd.h ?_)
    refine ld l o rfl ?_
    (repeat refine Hd.h ?_)
    refine Y3 r j ?_
    (repeat refine Hd.h ?_)
    refine ld l p1 rfl ?_
    (repeat refine Hd.h ?_)
    refine Jy _ b2 ?_
    cases d2:right c.fields[n].kind with
    | false=>
     (repeat refine Hd.h ?_)
     refine Q3i l o r j fun w4 σ4 s=>?_
     exact Z9 u j ⟨σ4,p.trans s,by rw[aa,step false (by rw[hP,d1,d2];rfl)]⟩
    | true=>
     (repeat refine Hd.h ?_)
     refine ld l o rfl ?_
     (repeat refine Hd.h ?_)
     refine Q3i l o r j fun w4 σ4 s=>?_
     exact Z9 u j ⟨σ4,p.trans s,by rw[aa,step (!c.iface) (by rw[hP,d1,d2];rfl)]⟩
 ·have j: ¬n<c.fields.length:=by simpa using hc
  obtain rfl:n=c.fields.length:=by omega
  exact h _ _ p
set_option maxHeartbeats 2000000 in
theorem Rx {c:Cla} {lv fv mv:Value} {w1:World} {σ1:Q5} {q:Addr} {ok:Bool} (ab:X2 w1 σ1) (hq:Z4 σ1 q [S c.name,S c.super,lv, .bool c.iface, .bool c.abs, .bool c.fin,fv,mv]) {i:Nat} {q9:Addr} {pv cv hv:Value} {N m0:Nat} {U:Nat→Value→World→Prop} (g3:Sl 7 E7 σ1 mv c.methods) (hi:i<c.methods.length) (ad:Z4 σ1 q9 [S c.methods[i].name,pv,S c.methods[i].result, .bool c.methods[i].abs,I c.methods[i].locals,cv,hv])
 (h: ∀w' X,Stp w1 σ1 w' X→Bk N U (Value.bool (ok&&(List.range i).all (Xn c i)), .int .i64 (IntKind.i64.wrap (i+1))) w'∧Mz N (Value.bool (ok&&(List.range i).all (Xn c i)), .int .i64 (IntKind.i64.wrap (i+1)))<m0):
 lp (α:=Value×Value) (Value.bool ok,(.int .i64 0)) w1 fun A b d_ w=>
  Q3 P .lss T.e (.tmp 158) (.tmp 159) b.2 (I i) w fun Q w=>
  X1 Q (
   dr w fun e B=>
   Q6 e (fun s=> ∀w:World,B w→Q0 b.1 true w (fieldAddr P T.b (.pointer (some q)) 7) (dk e s w)) fun s=>
   Q6 e (fun j=> ∀w:World,B w→Q0 b.1 true w (fun w J=>J b.2 w) (dk e j w)) fun j=>
   Q6 e (fun t=> ∀w:World,B w→Q0 b.1 true w (fieldAddr P T.d (.pointer (some q9)) 0) (dk e t w)) fun t=>
   Q6 e (fun o=> ∀u:Value,∀w:World,B w→s u w→Q0 b.1 true w (Q2 P T.j u) (dk e o w)) fun o=>
   Q6 e (fun g=> ∀m:Value,∀f:Value,∀w:World,B w→o m w→j f w→Q0 b.1 true w (indexAddr P T.j m f) (dk e g w)) fun g=>
   Q6 e (fun l=> ∀n:Value,∀w:World,B w→g n w→Q0 b.1 true w (fieldAddr P T.d n 0) (dk e l w)) fun l=>
   Q6 e (fun z=> ∀p:Value,∀w:World,B w→l p w→Q0 b.1 true w (Q2 P T.c p) (dk e z w)) fun z=>
   Q6 e (fun y=> ∀r:Value,∀w:World,B w→t r w→Q0 b.1 true w (Q2 P T.c r) (dk e y w)) fun y=>
   ∀u:Value,∀f:Value,∀r:Value,∀m:Value,∀n:Value,∀p:Value,∀C:Value,∀E:Value,∀w:World,B w→s u w→j f w→t r w→o m w→g n w→l p w→z C w→y E w→
   Q0 b.1 true w (Q3 P .neq T.c (.tmp 170) (.tmp 172) C E) fun L w=>
   pick P b.1 L (.bool false) w fun M w=>
   Q3 P .add T.e (.tmp 161) (.const (.int .i64 1)) b.2 (.int .i64 1) w fun V w=>
   A (M,V) w) (
   Q3 P .add T.e (.tmp 128) (.const (.int .i64 1)) (I i) (.int .i64 1) w fun D w=>
   (Bk N U (b.1,D) w∧Mz N (b.1,D)<m0)):=by
 have ag:=g3.max
 refine E3 (a:=Value.bool ok) i (fun k x w'=> ∃X,Stp w1 σ1 w' X∧x=Value.bool (ok&&(List.range k).all (Xn c i))) ⟨σ1,Stp.refl ab,by simp⟩ fun k x w2 d hk R=>?_
 obtain ⟨σ2,v,rfl⟩:=R
 have an:=hq.up v
 have al:=ad.up v
 have af:=g3.up v
 have ac:=v.sat
 refine Z0 ?_
 refine Q7 (fun W=>?_) (fun W=>?_)
 ·have Z:k<i:=by simpa using W
  have O:k<c.methods.length:=by omega
  have H:(ok&&(List.range (k+1)).all (Xn c i))=((ok&&(List.range k).all (Xn c i))&&Xn c i k):=by rw[Lo,Bool.and_assoc]
  have hQ:Xn c i k= !decide (c.methods[k].name=c.methods[i].name):=by unfold Xn Hx;rw[S8 O,S8 hi]
  rw[hQ] at H
  obtain ⟨az,aw,ax,p1,_⟩:=af.elM O
  generalize (ok&&(List.range k).all (Xn c i))=ae at H⊢
  clear h hQ W
  cases ae
  all_goals
   refine U2 ac ?_
   (repeat refine J5 Qd ?_)
   (intros;(repeat (rename_i hx;subst hx));(try simp only[↓M2,M2,Mb,reduceIte]))
   rename_i w3 aa
   exact Z9 (by omega) Z ⟨σ2,v.trans aa.stp,by rw[H];rfl⟩
 ·have Y:k=i:=by
   have: ¬k<i:=by simpa using W
   omega
  subst Y
  (try simp only[↓M1,M1,Mb,reduceIte])
  exact h _ _ v
set_option maxHeartbeats 4000000 in
theorem X1u {c:Cla} {lv fv mv:Value} {w1:World} {σ1:Q5} {q:Addr} {ok:Bool} (bu:X2 w1 σ1) (hq:Z4 σ1 q [S c.name,S c.super,lv, .bool c.iface, .bool c.abs, .bool c.fin,fv,mv]) {J:Value→World→Prop} (g3:Sl 7 E7 σ1 mv c.methods)
 (h: ∀w' σ',Stp w1 σ1 w' σ'→J (.bool (ok&&(List.range c.methods.length).all fun i=>Mq c i&&(List.range i).all (Xn c i))) w'):
 lp (α:=Value×Value) (Value.bool ok,(.int .i64 0)) w1 fun Z u d_ w=>
  fieldAddr P T.b (.pointer (some q)) 7 w fun bg w=>
  Q2 P T.j bg w fun bk w=>
  X3 P .len [T.j] T.e [false] [bk] w fun ar w=>
  Q3 P .lss T.e (.tmp 123) (.tmp 126) u.2 ar w fun ay w=>
  X1 ay (
   fieldAddr P T.b (.pointer (some q)) 7 w fun bo w=>
   Q2 P T.j bo w fun bn w=>
   indexAddr P T.j bn u.2 w fun a7 w=>
   Q2 P T.d a7 w fun bi w=>
   V9 P T.d w fun t9 w=>
   Y0 P T.d t9 bi w fun _u w=>
   Q0 u.1 true w (Q2 P T.d t9) fun a5 w=>
   Q0 u.1 true w (Q1 P F.a4 [a5]) fun bl w=>
   pick P u.1 bl (.bool false) w fun r w=>
   Q0 r true w (fieldAddr P T.d t9 3) fun a4 w=>
   Q0 r true w (Q2 P T.u a4) fun bb w=>
   Q0 r true w (J6 P .not bb) fun aq w=>
   Q0 r true w (fun w J=>J aq w) fun W w=>
   Q0 W false w (fieldAddr P T.b (.pointer (some q)) 4) fun bj w=>
   Q0 W false w (Q2 P T.u bj) fun a6 w=>
   Q0 r true w (pick P W (.bool true) a6) fun a0 w=>
   pick P r a0 (.bool false) w fun p w=>
   Q0 p true w (fieldAddr P T.b (.pointer (some q)) 3) fun bh w=>
   Q0 p true w (Q2 P T.u bh) fun ba w=>
   Q0 p true w (J6 P .not ba) fun bp w=>
   Q0 p true w (fun w J=>J bp w) fun X w=>
   Q0 X false w (fieldAddr P T.d t9 3) fun be w=>
   Q0 X false w (Q2 P T.u be) fun bc w=>
   Q0 p true w (pick P X (.bool true) bc) fun a1 w=>
   pick P p a1 (.bool false) w fun a8 w=>
   lp (α:=Value×Value) (a8,(.int .i64 0)) w fun ac k d_ w=>
    Q3 P .lss T.e (.tmp 158) (.tmp 159) k.2 u.2 w fun a2 w=>
    X1 a2 (
     dr w fun y Br=>
     Q6 y (fun Q=> ∀w:World,Br w→Q0 k.1 true w (fieldAddr P T.b (.pointer (some q)) 7) (dk y Q w)) fun Q=>
     Q6 y (fun A=> ∀w:World,Br w→Q0 k.1 true w (fun w J=>J k.2 w) (dk y A w)) fun A=>
     Q6 y (fun E=> ∀w:World,Br w→Q0 k.1 true w (fieldAddr P T.d t9 0) (dk y E w)) fun E=>
     Q6 y (fun N=> ∀H:Value,∀w:World,Br w→Q H w→Q0 k.1 true w (Q2 P T.j H) (dk y N w)) fun N=>
     Q6 y (fun L=> ∀B:Value,∀z:Value,∀w:World,Br w→N B w→A z w→Q0 k.1 true w (indexAddr P T.j B z) (dk y L w)) fun L=>
     Q6 y (fun M=> ∀C:Value,∀w:World,Br w→L C w→Q0 k.1 true w (fieldAddr P T.d C 0) (dk y M w)) fun M=>
     Q6 y (fun V=> ∀D:Value,∀w:World,Br w→M D w→Q0 k.1 true w (Q2 P T.c D) (dk y V w)) fun V=>
     Q6 y (fun Y=> ∀O:Value,∀w:World,Br w→E O w→Q0 k.1 true w (Q2 P T.c O) (dk y Y w)) fun Y=>
     ∀H:Value,∀z:Value,∀O:Value,∀B:Value,∀C:Value,∀D:Value,∀aj:Value,∀ai:Value,∀w:World,Br w→Q H w→A z w→E O w→N B w→L C w→M D w→V aj w→Y ai w→
     Q0 k.1 true w (Q3 P .neq T.c (.tmp 170) (.tmp 172) aj ai) fun aw w=>
     pick P k.1 aw (.bool false) w fun bd w=>
     Q3 P .add T.e (.tmp 161) (.const (.int .i64 1)) k.2 (.int .i64 1) w fun bm w=>
     ac (bd,bm) w) (
     Q3 P .add T.e (.tmp 128) (.const (.int .i64 1)) u.2 (.int .i64 1) w fun bf w=>
     Z (k.1,bf) w)) (
   J u.1 w):=by
 have o:=g3.max
 refine E3 (a:=Value.bool ok) c.methods.length (fun n x w'=> ∃σ',Stp w1 σ1 w' σ'∧x=Value.bool (ok&&(List.range n).all fun i=>Mq c i&&(List.range i).all (Xn c i))) ⟨σ1,Stp.refl bu,by simp⟩ fun n x w2 d b3 a3=>?_
 obtain ⟨σ2,ab,rfl⟩:=a3
 have am:=hq.up ab
 have ag:=g3.up ab
 have af:=ab.sat
 (repeat refine Hd.h ?_)
 refine ld af am rfl ?_
 refine Q8 ag ?_
 refine Z0 ?_
 refine Q7 (fun hc=>?_) (fun hc=>?_)
 ·have f:n<c.methods.length:=by simpa using hc
  have v:(ok&&(List.range (n+1)).all fun i=>Mq c i&&(List.range i).all (Xn c i))=((ok&&(List.range n).all fun i=>Mq c i&&(List.range i).all (Xn c i))&&(Mq c n&&(List.range n).all (Xn c n))):=by rw[Lo,Bool.and_assoc]
  have hP:Mq c n=(I3 c.methods[n]&&(!c.methods[n].abs||c.abs)&&(!c.iface||c.methods[n].abs)):=by unfold Mq Hx;rw[S8 f]
  obtain ⟨pv,cv,hv,p1,r1⟩:=ag.elM f
  generalize (ok&&(List.range n).all fun i=>Mq c i&&(List.range i).all (Xn c i))=ak at v⊢
  clear h hc
  have step: ∀b,b=(ak&&Mq c n)→(ak&&(Mq c n&&(List.range n).all (Xn c n)))=(b&&(List.range n).all (Xn c n)):=fun b e=>by rw[e,Bool.and_assoc]
  (repeat refine Hd.h ?_)
  refine ld af am rfl ?_
  refine Y3 ag f ?_
  refine Y4 af p1 rfl ?_
  refine Y7 af (by rfl) rfl (Rep.one r1) fun q9 w3 σ3 aa ao=>?_
  have an:=aa.sat
  have az:=am.up aa
  have ax:=ag.up aa
  have r3:=RMe_lift r1 ⟨aa.le⟩
  have ah:=ab.trans aa
  cases ak with
  | false=>
   (repeat refine Hd.h ?_)
   refine Rx an az ax f ao fun w4 U l=>?_
   exact Z9 o f ⟨U,ah.trans l,by rw[v];rfl⟩
  | true=>
   (repeat refine Hd.h ?_)
   refine Y4 an ao rfl ?_
   (repeat refine Hd.h ?_)
   refine Q8s an r3 fun w5 σ5 ad=>?_
   have m:=ad.sat
   have t:=az.up ad
   have g:=ao.up ad
   have R:=ax.up ad
   have s:=ah.trans ad
   cases d1:I3 c.methods[n] with
   | false=>
    (repeat refine Hd.h ?_)
    refine Rx m t R f g fun w4 U l=>?_
    exact Z9 o f ⟨U,s.trans l,by rw[v,step false (by rw[hP,d1];rfl)]⟩
   | true=>
    (repeat refine Hd.h ?_)
    refine ld m g rfl ?_
    (repeat refine Hd.h ?_)
    have j: ∀b1:Bool,b1=(!c.methods[n].abs||c.abs)→Mq c n=(b1&&(!c.iface||c.methods[n].abs)):=fun b1 e=>by rw[hP,d1,e];rfl
    cases d2:c.methods[n].abs with
    | false=>
     rw[d2] at j g
     simp only[Bool.not_true,Bool.not_false]
     (repeat refine Hd.h ?_)
     refine ld m t rfl ?_
     (repeat refine Hd.h ?_)
     cases d4:c.iface with
     | false=>
      simp only[Bool.not_true,Bool.not_false]
      (repeat refine Hd.h ?_)
      refine Rx m t R f (by rw[d2];exact g) fun w4 U l=>?_
      exact Z9 o f ⟨U,s.trans l,by rw[v,step true (by rw[j true rfl,d4];rfl)]⟩
     | true=>
      simp only[Bool.not_true,Bool.not_false]
      (repeat refine Hd.h ?_)
      refine ld m g rfl ?_
      (repeat refine Hd.h ?_)
      refine Rx m t R f (by rw[d2];exact g) fun w4 U l=>?_
      exact Z9 o f ⟨U,s.trans l,by rw[v,step false (by rw[j true rfl,d4];rfl)]⟩
    | true=>
     rw[d2] at j g
     simp only[Bool.not_true,Bool.not_false]
     (repeat refine Hd.h ?_)
     refine ld m t rfl ?_
     cases d3:c.abs with
     | false=>
      (repeat refine Hd.h ?_)
      refine Rx m t R f (by rw[d2];exact g) fun w4 U l=>?_
      exact Z9 o f ⟨U,s.trans l,by rw[v,step false (by rw[j false (by rw[d3];rfl)];rfl)]⟩
     | true=>
      (repeat refine Hd.h ?_)
      refine ld m t rfl ?_
      (repeat refine Hd.h ?_)
      cases d4:c.iface with
      | false=>
       simp only[Bool.not_true,Bool.not_false]
       (repeat refine Hd.h ?_)
       refine Rx m t R f (by rw[d2];exact g) fun w4 U l=>?_
       exact Z9 o f ⟨U,s.trans l,by rw[v,step true (by rw[j true (by rw[d3];rfl),d4];rfl)]⟩
      | true=>
       simp only[Bool.not_true,Bool.not_false]
       (repeat refine Hd.h ?_)
       refine ld m g rfl ?_
       (repeat refine Hd.h ?_)
       refine Rx m t R f (by rw[d2];exact g) fun w4 U l=>?_
       exact Z9 o f ⟨U,s.trans l,by rw[v,step true (by rw[j true (by rw[d3];rfl),d4];rfl)]⟩
 ·have f: ¬n<c.methods.length:=by simpa using hc
  obtain rfl:n=c.methods.length:=by omega
  exact h _ _ ab
theorem X1D {c:Cla} {L M mv:Value} {w1:World} {σ1:Q5} {q:Addr} {ok:Bool} (d:X2 w1 σ1) (g:Z4 σ1 q [S c.name,S c.super,L, .bool c.iface, .bool c.abs, .bool c.fin,M,mv]) (h:K (.bool (ok&&Q8i c)) w1):
 Q0 (Value.bool ok) true w1 (fieldAddr P T.b (.pointer (some q)) 3) fun k w=>
  Q0 (Value.bool ok) true w (Q2 P T.u k) fun v w=>
  Q0 (Value.bool ok) true w (J6 P .not v) fun t w=>
  Q0 (Value.bool ok) true w (fun w J=>J t w) fun b w=>
  Q0 b false w (fieldAddr P T.b (.pointer (some q)) 4) fun m w=>
  Q0 b false w (Q2 P T.u m) fun j w=>
  Q0 b false w (fun w J=>J j w) fun e w=>
  Q0 e true w (fieldAddr P T.b (.pointer (some q)) 1) fun z w=>
  Q0 e true w (Q2 P T.c z) fun o w=>
  Q0 e true w (Q3 P .eql T.c (.tmp 185) (.const (.string ⟨#[79,98,106,101,99,116]⟩)) o (.string ⟨#[79,98,106,101,99,116]⟩)) fun B w=>
  Q0 b false w (pick P e B (.bool false)) fun y w=>
  Q0 (Value.bool ok) true w (pick P b (.bool true) y) fun C w=>
  pick P (Value.bool ok) C (.bool false) w fun a w=>
  Q0 a true w (fieldAddr P T.b (.pointer (some q)) 4) fun A w=>
  Q0 a true w (Q2 P T.u A) fun p w=>
  Q0 a true w (fun w J=>J p w) fun f w=>
  Q0 f true w (fieldAddr P T.b (.pointer (some q)) 5) fun r w=>
  Q0 f true w (Q2 P T.u r) fun s w=>
  Q0 a true w (pick P f s (.bool false)) fun n w=>
  Q0 a true w (J6 P .not n) fun u w=>
  pick P a u (.bool false) w fun l w=>
  K l w:=by
 unfold Q8i at h
 have H:decide (c.super=J9)=decide (c.super=[79,98,106,101,99,116]):=rfl
 rw[H] at h
 cases ok with
 | false=>(try simp only[↓M1,M1,Mb,reduceIte]);simpa using h
 | true=>
  (try simp only[↓M1,M1,Mb,reduceIte])
  refine ld d g rfl ?_
  (try simp only[↓M1,M1,Mb,reduceIte])
  cases D:c.iface with
  | false=>
   rw[D] at h
   (try simp only[↓M1,M1,Mb,reduceIte])
   refine ld d g rfl ?_
   cases i:c.abs with
   | false=>rw[i] at h;(try simp only[↓M1,M1,Mb,reduceIte]);simpa using h
   | true=>
    rw[i] at h
    (try simp only[↓M1,M1,Mb,reduceIte])
    refine ld d g rfl ?_
    (try simp only[↓M1,M1,Mb,reduceIte])
    simpa using h
  | true=>
   rw[D] at h
   (try simp only[↓M1,M1,Mb,reduceIte])
   refine ld d g rfl ?_
   cases i:c.abs with
   | false=>rw[i] at h;(try simp only[↓M1,M1,Mb,reduceIte]);simpa using h
   | true=>
    rw[i] at h
    (try simp only[↓M1,M1,Mb,reduceIte])
    refine ld d g rfl ?_
    (try simp only[↓M1,M1,Mb,reduceIte])
    cases E:decide (c.super=[79,98,106,101,99,116]) with
    | false=>rw[E] at h;(try simp only[↓M1,M1,Mb,reduceIte]);simpa using h
    | true=>
     rw[E] at h
     (try simp only[↓M1,M1,Mb,reduceIte])
     refine ld d g rfl ?_
     simp only[i,↓M1,M1,Mb,reduceIte]
     refine ld d g rfl ?_
     (try simp only[↓M1,M1,Mb,reduceIte])
     simpa using h
end Go.Proofs.YtjdiakhipmggjaaGreatDoor

namespace Go.Proofs.YtjdiakhipmggjaaGreatDoor
open Go.Emb Go.RowKit Go.Kd Go.Hm
variable {w : World} {K : Value → World → Prop} {σ : Q5}
def Q5x (c:Cla):Bool:=((((M6 c.name&&M6 c.super&& !decide (c.name=c.super))&&(List.range c.like.length).all fun i=>Lt c i&&(List.range i).all (A6 c i))&&(List.range c.fields.length).all fun i=>Dq c i&&(List.range i).all (Xv c i))&&(List.range c.methods.length).all fun i=>Mq c i&&(List.range i).all (Xn c i))&&Q8i c
theorem X0C {α:Type} {f:α→X0}: ∀(xs a:List α),C3 f a xs=true↔(xs.map f).Nodup∧ ∀x∈xs,∀y∈a,f y≠f x:=by
 intro xs
 induction xs with
 | nil=>intro a;simp[C3]
 | cons x r h=>
  intro a
  simp only[C3,Bool.and_eq_true,h,Bool.not_eq_true',List.map_cons,List.nodup_cons]
  rw[←Bool.not_eq_true,List.any_eq_true]
  simp only[decide_eq_true_eq,not_exists,not_and,List.mem_append,List.mem_cons,List.not_mem_nil,or_false,List.mem_map]
  constructor
  ·rintro ⟨d,g,c⟩
   refine ⟨⟨fun y hy e=>c y hy x (.inr rfl) e.symm,g⟩,fun y hy z b=>?_⟩
   rcases hy with rfl | hy
   ·exact d z b
   ·exact c y hy z (.inl b)
  ·rintro ⟨⟨d,g⟩,c⟩
   refine ⟨fun y hy=>c x (.inl rfl) y hy,g,fun y hy z b=>?_⟩
   rcases b with b | rfl
   ·exact c y (.inr hy) z b
   ·exact fun e=>d y hy e.symm
theorem Q0j {α:Type} {f:α→X0} {xs:List α} {p:α→Bool} {P:Nat→Bool} {Q:Nat→Nat→Bool} (d: ∀i (h:i<xs.length),P i=p xs[i]) (e: ∀i (h:i<xs.length) k (o:k<xs.length),Q i k= !decide (f xs[k]=f xs[i])):
 ((List.range xs.length).all fun i=>P i&&(List.range i).all (Q i))=true↔(∀x∈xs,p x=true)∧C3 f [] xs=true:=by
 rw[X0C,List.all_eq_true]
 simp only[List.mem_range,Bool.and_eq_true,List.all_eq_true,List.not_mem_nil,false_implies,implies_true,and_true]
 rw[List.nodup_iff_pairwise_ne,List.pairwise_iff_getElem]
 simp only[List.length_map,List.getElem_map]
 constructor
 ·intro h
  refine ⟨fun x g=>?_,fun i j a c b=>?_⟩
  ·obtain ⟨i,a,rfl⟩:=List.getElem_of_mem g
   rw[←d i a];exact (h i a).1
  ·have:=(h j c).2 i b
   rw[e j c i a] at this
   simpa using this
 ·rintro ⟨m,n⟩ i a
  refine ⟨by rw[d i a];exact m _ (List.getElem_mem a),fun k l=>?_⟩
  rw[e i a k (by omega)]
  simpa using n k i (by omega) a l
theorem X0c (c:Cla):Q5x c=Lv c:=by
 have A:=Q0j (f:=id) (xs:=c.like) (p:=fun y=>M6 y&& !decide (y=c.name)) (P:=Lt c) (Q:=A6 c) (fun i h=>by unfold Lt;rw[S8 h]) (fun i h k n=>by unfold A6;rw[S8 h,S8 n];rfl)
 have g:=Q0j (f:=Fld.name) (xs:=c.fields) (p:=fun f=>D7 f.name&&right f.kind&& !c.iface) (P:=Dq c) (Q:=Xv c) (fun i h=>by unfold Dq Bc;rw[S8 h]) (fun i h k n=>by unfold Xv Bc;rw[S8 h,S8 n])
 have d:=Q0j (f:=Hm.Met.name) (xs:=c.methods) (p:=fun m=>I3 m&&(!m.abs||c.abs)&&(!c.iface||m.abs)) (P:=Mq c) (Q:=Xn c) (fun i h=>by unfold Mq Hx;rw[S8 h]) (fun i h k n=>by unfold Xn Hx;rw[S8 h,S8 n])
 rw[Bool.eq_iff_iff]
 unfold Q5x Lv Q8i
 simp only[Bool.and_eq_true,A,g,d]
 simp only[Bool.and_eq_true,Bool.not_eq_true',Bool.or_eq_true,Bool.and_eq_false_iff,Bool.or_eq_false_iff,decide_eq_true_eq,decide_eq_false_iff_not,List.all_eq_true,List.mem_cons,List.any_eq_false,Dv,Bool.not_eq_false']
 constructor
 ·rintro ⟨⟨⟨⟨⟨⟨l,o⟩,q⟩,a,s⟩,h6,r⟩,j,t⟩,b,u⟩
  refine ⟨⟨⟨⟨⟨⟨⟨⟨?_,?_⟩,s⟩,?_⟩,u,?_⟩,r⟩,t⟩,?_⟩,fun m d=>(j m d).1.1⟩
  ·rintro x (rfl | rfl | hx)
   ·exact l
   ·exact o
   ·exact (a x hx).1
  ·rintro x (rfl | hx)
   ·exact q
   ·exact fun e=>(a x hx).2 e.symm
  ·cases v:c.iface with
   | false=>exact .inl rfl
   | true=>
    rw[v] at b h6 j
    have b:=b.resolve_left (by decide)
    refine .inr ⟨⟨b,?_⟩,fun m d e=>?_⟩
    ·rw[List.eq_nil_iff_forall_not_mem]
     intro f g
     exact absurd (h6 f g).2 (by decide)
    ·have:=(j m d).2.resolve_left (by decide)
     rw[this] at e;cases e
  ·cases z:c.abs with
   | true=>exact .inr rfl
   | false=>
    rw[z] at j
    refine .inl fun m d e=>?_
    have:=(j m d).1.2.resolve_right (by decide)
    rw[this] at e;cases e
  ·exact fun f g=>(h6 f g).1
 ·rintro ⟨⟨⟨⟨⟨⟨⟨⟨l,o⟩,q⟩,a⟩,s,h6⟩,r⟩,j⟩,t⟩,b⟩
  refine ⟨⟨⟨⟨⟨⟨l _ (.inl rfl),l _ (.inr (.inl rfl))⟩,o _ (.inl rfl)⟩,fun x hx=>⟨l x (.inr (.inr hx)),fun e=>o x (.inr hx) e.symm⟩,q⟩,fun f g=>⟨t f g,?_⟩,r⟩,fun m d=>⟨⟨b m d,?_⟩,?_⟩,j⟩,?_,s⟩
  ·rcases a with a | ⟨⟨_,a⟩,_⟩
   ·exact a
   ·rw[a] at g;simp at g
  ·rcases h6 with h6 | h6
   ·left;exact eq_false_of_ne_true (h6 m d)
   ·exact .inr h6
  ·rcases a with a | ⟨_,a⟩
   ·exact .inl a
   ·right
    cases hx:m.abs with
    | true=>rfl
    | false=>exact absurd hx (a m d)
  ·rcases a with a | ⟨⟨a,_⟩,_⟩
   ·exact .inl a
   ·exact .inr a
set_option maxHeartbeats 4000000 in
theorem Q98 {c:Cla} {cs:List Value} (hs:X2 w σ) (hc:V0 σ c cs) (h: ∀w' σ',Stp w σ w' σ'→K (.bool (Q5x c)) w'):Q1 P F.bt [.agg cs.toArray] w K:=Pe (by
 unfold Lu
 obtain ⟨lv,fv,mv,rfl,f1,f2,f3,f4,f5⟩:=hc
 have c3:c.name.length≤140737488355328:=by simp only[U0] at f4;omega
 have c6:c.super.length≤140737488355328:=by simp only[U0] at f5;omega
 refine Y9 hs fun q w1 σ1 bs hq=>?_
 have g1:=f1.up bs
 have g2:=f2.up bs
 have g3:=f3.up bs
 have b6:=bs.sat
 have ch: ∀ok:Bool,ok=(M6 c.name&&M6 c.super&& !decide (c.name=c.super))→_:=fun ok e=>
  X0A (w1:=w1) (σ1:=σ1) (ok:=ok) b6 hq (J:=fun v w=>lp (α:=Value×Value) (v,(.int .i64 0)) w fun cb o d_ w=>
   fieldAddr P T.b (.pointer (some q)) 6 w fun c9 w=>
   Q2 P T.k c9 w fun c5 w=>
   X3 P .len [T.k] T.e [false] [c5] w fun c4 w=>
   Q3 P .lss T.e (.tmp 71) (.tmp 74) o.2 c4 w fun cv w=>
   X1 cv (
    Q0 o.1 true w (fieldAddr P T.b (.pointer (some q)) 6) fun db w=>
    Q0 o.1 true w (Q2 P T.k db) fun ct w=>
    Q0 o.1 true w (fun w J=>J o.2 w) fun cz w=>
    Q0 o.1 true w (indexAddr P T.k ct cz) fun cr w=>
    Q0 o.1 true w (fieldAddr P T.o cr 0) fun c2 w=>
    Q0 o.1 true w (Q2 P T.c c2) fun dc w=>
    Q0 o.1 true w (Q1 P F.u [dc]) fun de w=>
    pick P o.1 de (.bool false) w fun W w=>
    Q0 W true w (fieldAddr P T.b (.pointer (some q)) 6) fun da w=>
    Q0 W true w (Q2 P T.k da) fun c8 w=>
    Q0 W true w (fun w J=>J o.2 w) fun cx w=>
    Q0 W true w (indexAddr P T.k c8 cx) fun dd w=>
    Q0 W true w (fieldAddr P T.o dd 1) fun c0 w=>
    Q0 W true w (Q2 P T.c c0) fun c1 w=>
    Q0 W true w (Q1 P F.e [c1]) fun cu w=>
    pick P W cu (.bool false) w fun cd w=>
    Q0 cd true w (fieldAddr P T.b (.pointer (some q)) 3) fun cq w=>
    Q0 cd true w (Q2 P T.u cq) fun cw w=>
    Q0 cd true w (J6 P .not cw) fun cn w=>
    pick P cd cn (.bool false) w fun cp w=>
    lp (α:=Value×Value) (cp,(.int .i64 0)) w fun b5 l d_ w=>
     Q3 P .lss T.e (.tmp 102) (.tmp 103) l.2 o.2 w fun cm w=>
     X1 cm (
      dr w fun d n=>
      Q6 d (fun ao=> ∀w:World,n w→Q0 l.1 true w (fieldAddr P T.b (.pointer (some q)) 6) (dk d ao w)) fun ao=>
      Q6 d (fun ax=> ∀w:World,n w→Q0 l.1 true w (fun w J=>J l.2 w) (dk d ax w)) fun ax=>
      Q6 d (fun aw=> ∀w:World,n w→Q0 l.1 true w (fieldAddr P T.b (.pointer (some q)) 6) (dk d aw w)) fun aw=>
      Q6 d (fun a6=> ∀w:World,n w→Q0 l.1 true w (fun w J=>J o.2 w) (dk d a6 w)) fun a6=>
      Q6 d (fun a4=> ∀a1:Value,∀w:World,n w→ao a1 w→Q0 l.1 true w (Q2 P T.k a1) (dk d a4 w)) fun a4=>
      Q6 d (fun a9=> ∀a2:Value,∀a7:Value,∀w:World,n w→a4 a2 w→ax a7 w→Q0 l.1 true w (indexAddr P T.k a2 a7) (dk d a9 w)) fun a9=>
      Q6 d (fun a5=> ∀az:Value,∀w:World,n w→a9 az w→Q0 l.1 true w (fieldAddr P T.o az 0) (dk d a5 w)) fun a5=>
      Q6 d (fun b1=> ∀ay:Value,∀w:World,n w→a5 ay w→Q0 l.1 true w (Q2 P T.c ay) (dk d b1 w)) fun b1=>
      Q6 d (fun a8=> ∀a3:Value,∀w:World,n w→aw a3 w→Q0 l.1 true w (Q2 P T.k a3) (dk d a8 w)) fun a8=>
      Q6 d (fun ar=> ∀aq:Value,∀av:Value,∀w:World,n w→a8 aq w→a6 av w→Q0 l.1 true w (indexAddr P T.k aq av) (dk d ar w)) fun ar=>
      Q6 d (fun ap=> ∀ba:Value,∀w:World,n w→ar ba w→Q0 l.1 true w (fieldAddr P T.o ba 0) (dk d ap w)) fun ap=>
      Q6 d (fun br=> ∀a0:Value,∀w:World,n w→ap a0 w→Q0 l.1 true w (Q2 P T.c a0) (dk d br w)) fun br=>
      ∀a1:Value,∀a7:Value,∀a3:Value,∀av:Value,∀a2:Value,∀az:Value,∀ay:Value,∀cf:Value,∀aq:Value,∀ba:Value,∀a0:Value,∀ce:Value,∀w:World,n w→ao a1 w→ax a7 w→aw a3 w→a6 av w→a4 a2 w→a9 az w→a5 ay w→b1 cf w→a8 aq w→ar ba w→ap a0 w→br ce w→
      Q0 l.1 true w (Q3 P .neq T.c (.tmp 114) (.tmp 120) cf ce) fun co w=>
      pick P l.1 co (.bool false) w fun cj w=>
      Q3 P .add T.e (.tmp 105) (.const (.int .i64 1)) l.2 (.int .i64 1) w fun cl w=>
      b5 (cj,cl) w) (
      Q3 P .add T.e (.tmp 76) (.const (.int .i64 1)) o.2 (.int .i64 1) w fun c7 w=>
      cb (l.1,c7) w)) (
    lp (α:=Value×Value) (o.1,(.int .i64 0)) w fun O f d_ w=>
     fieldAddr P T.b (.pointer (some q)) 7 w fun bz w=>
     Q2 P T.j bz w fun b4 w=>
     X3 P .len [T.j] T.e [false] [b4] w fun bc w=>
     Q3 P .lss T.e (.tmp 123) (.tmp 126) f.2 bc w fun be w=>
     X1 be (
      fieldAddr P T.b (.pointer (some q)) 7 w fun ca w=>
      Q2 P T.j ca w fun b9 w=>
      indexAddr P T.j b9 f.2 w fun bl w=>
      Q2 P T.d bl w fun b2 w=>
      V9 P T.d w fun t9 w=>
      Y0 P T.d t9 b2 w fun _u w=>
      Q0 f.1 true w (Q2 P T.d t9) fun bj w=>
      Q0 f.1 true w (Q1 P F.a4 [bj]) fun b7 w=>
      pick P f.1 b7 (.bool false) w fun k w=>
      Q0 k true w (fieldAddr P T.d t9 3) fun bi w=>
      Q0 k true w (Q2 P T.u bi) fun bp w=>
      Q0 k true w (J6 P .not bp) fun bb w=>
      Q0 k true w (fun w J=>J bb w) fun L w=>
      Q0 L false w (fieldAddr P T.b (.pointer (some q)) 4) fun b3 w=>
      Q0 L false w (Q2 P T.u b3) fun bk w=>
      Q0 k true w (pick P L (.bool true) bk) fun bf w=>
      pick P k bf (.bool false) w fun j w=>
      Q0 j true w (fieldAddr P T.b (.pointer (some q)) 3) fun b0 w=>
      Q0 j true w (Q2 P T.u b0) fun bo w=>
      Q0 j true w (J6 P .not bo) fun cc w=>
      Q0 j true w (fun w J=>J cc w) fun M w=>
      Q0 M false w (fieldAddr P T.d t9 3) fun bw w=>
      Q0 M false w (Q2 P T.u bw) fun bq w=>
      Q0 j true w (pick P M (.bool true) bq) fun bg w=>
      pick P j bg (.bool false) w fun bm w=>
      lp (α:=Value×Value) (bm,(.int .i64 0)) w fun Q b d_ w=>
       Q3 P .lss T.e (.tmp 158) (.tmp 159) b.2 f.2 w fun bh w=>
       X1 bh (
        dr w fun d n=>
        Q6 d (fun E=> ∀w:World,n w→Q0 b.1 true w (fieldAddr P T.b (.pointer (some q)) 7) (dk d E w)) fun E=>
        Q6 d (fun r=> ∀w:World,n w→Q0 b.1 true w (fun w J=>J b.2 w) (dk d r w)) fun r=>
        Q6 d (fun y=> ∀w:World,n w→Q0 b.1 true w (fieldAddr P T.d t9 0) (dk d y w)) fun y=>
        Q6 d (fun C=> ∀z:Value,∀w:World,n w→E z w→Q0 b.1 true w (Q2 P T.j z) (dk d C w)) fun C=>
        Q6 d (fun A=> ∀s:Value,∀p:Value,∀w:World,n w→C s w→r p w→Q0 b.1 true w (indexAddr P T.j s p) (dk d A w)) fun A=>
        Q6 d (fun B=> ∀t:Value,∀w:World,n w→A t w→Q0 b.1 true w (fieldAddr P T.d t 0) (dk d B w)) fun B=>
        Q6 d (fun H=> ∀u:Value,∀w:World,n w→B u w→Q0 b.1 true w (Q2 P T.c u) (dk d H w)) fun H=>
        Q6 d (fun N=> ∀D:Value,∀w:World,n w→y D w→Q0 b.1 true w (Q2 P T.c D) (dk d N w)) fun N=>
        ∀z:Value,∀p:Value,∀D:Value,∀s:Value,∀t:Value,∀u:Value,∀ae:Value,∀aa:Value,∀w:World,n w→E z w→r p w→y D w→C s w→A t w→B u w→H ae w→N aa w→
        Q0 b.1 true w (Q3 P .neq T.c (.tmp 170) (.tmp 172) ae aa) fun bd w=>
        pick P b.1 bd (.bool false) w fun bu w=>
        Q3 P .add T.e (.tmp 161) (.const (.int .i64 1)) b.2 (.int .i64 1) w fun b8 w=>
        Q (bu,b8) w) (
        Q3 P .add T.e (.tmp 128) (.const (.int .i64 1)) f.2 (.int .i64 1) w fun bx w=>
        O (b.1,bx) w)) (
      Q0 f.1 true w (fieldAddr P T.b (.pointer (some q)) 3) fun ak w=>
      Q0 f.1 true w (Q2 P T.u ak) fun ab w=>
      Q0 f.1 true w (J6 P .not ab) fun ah w=>
      Q0 f.1 true w (fun w J=>J ah w) fun g w=>
      Q0 g false w (fieldAddr P T.b (.pointer (some q)) 4) fun Z w=>
      Q0 g false w (Q2 P T.u Z) fun R w=>
      Q0 g false w (fun w J=>J R w) fun i w=>
      Q0 i true w (fieldAddr P T.b (.pointer (some q)) 1) fun ai w=>
      Q0 i true w (Q2 P T.c ai) fun V w=>
      Q0 i true w (Q3 P .eql T.c (.tmp 185) (.const (.string ⟨#[79,98,106,101,99,116]⟩)) V (.string ⟨#[79,98,106,101,99,116]⟩)) fun am w=>
      Q0 g false w (pick P i am (.bool false)) fun Y w=>
      Q0 f.1 true w (pick P g (.bool true) Y) fun aj w=>
      pick P f.1 aj (.bool false) w fun a w=>
      Q0 a true w (fieldAddr P T.b (.pointer (some q)) 4) fun ac w=>
      Q0 a true w (Q2 P T.u ac) fun al w=>
      Q0 a true w (fun w J=>J al w) fun m w=>
      Q0 m true w (fieldAddr P T.b (.pointer (some q)) 5) fun af w=>
      Q0 m true w (Q2 P T.u af) fun ag w=>
      Q0 a true w (pick P m ag (.bool false)) fun U w=>
      Q0 a true w (J6 P .not U) fun X w=>
      pick P a X (.bool false) w fun ad w=>
      K ad w))) f4 g1 fun w2 σ2 an=>
  X1y (J:=fun v w=>lp (α:=Value×Value) (v,(.int .i64 0)) w fun O f d_ w=>
   fieldAddr P T.b (.pointer (some q)) 7 w fun bz w=>
   Q2 P T.j bz w fun b4 w=>
   X3 P .len [T.j] T.e [false] [b4] w fun bc w=>
   Q3 P .lss T.e (.tmp 123) (.tmp 126) f.2 bc w fun be w=>
   X1 be (
    fieldAddr P T.b (.pointer (some q)) 7 w fun ca w=>
    Q2 P T.j ca w fun b9 w=>
    indexAddr P T.j b9 f.2 w fun bl w=>
    Q2 P T.d bl w fun b2 w=>
    V9 P T.d w fun t9 w=>
    Y0 P T.d t9 b2 w fun _u w=>
    Q0 f.1 true w (Q2 P T.d t9) fun bj w=>
    Q0 f.1 true w (Q1 P F.a4 [bj]) fun b7 w=>
    pick P f.1 b7 (.bool false) w fun k w=>
    Q0 k true w (fieldAddr P T.d t9 3) fun bi w=>
    Q0 k true w (Q2 P T.u bi) fun bp w=>
    Q0 k true w (J6 P .not bp) fun bb w=>
    Q0 k true w (fun w J=>J bb w) fun L w=>
    Q0 L false w (fieldAddr P T.b (.pointer (some q)) 4) fun b3 w=>
    Q0 L false w (Q2 P T.u b3) fun bk w=>
    Q0 k true w (pick P L (.bool true) bk) fun bf w=>
    pick P k bf (.bool false) w fun j w=>
    Q0 j true w (fieldAddr P T.b (.pointer (some q)) 3) fun b0 w=>
    Q0 j true w (Q2 P T.u b0) fun bo w=>
    Q0 j true w (J6 P .not bo) fun cc w=>
    Q0 j true w (fun w J=>J cc w) fun M w=>
    Q0 M false w (fieldAddr P T.d t9 3) fun bw w=>
    Q0 M false w (Q2 P T.u bw) fun bq w=>
    Q0 j true w (pick P M (.bool true) bq) fun bg w=>
    pick P j bg (.bool false) w fun bm w=>
    lp (α:=Value×Value) (bm,(.int .i64 0)) w fun Q b d_ w=>
     Q3 P .lss T.e (.tmp 158) (.tmp 159) b.2 f.2 w fun bh w=>
     X1 bh (
      dr w fun d n=>
      Q6 d (fun E=> ∀w:World,n w→Q0 b.1 true w (fieldAddr P T.b (.pointer (some q)) 7) (dk d E w)) fun E=>
      Q6 d (fun r=> ∀w:World,n w→Q0 b.1 true w (fun w J=>J b.2 w) (dk d r w)) fun r=>
      Q6 d (fun y=> ∀w:World,n w→Q0 b.1 true w (fieldAddr P T.d t9 0) (dk d y w)) fun y=>
      Q6 d (fun C=> ∀z:Value,∀w:World,n w→E z w→Q0 b.1 true w (Q2 P T.j z) (dk d C w)) fun C=>
      Q6 d (fun A=> ∀s:Value,∀p:Value,∀w:World,n w→C s w→r p w→Q0 b.1 true w (indexAddr P T.j s p) (dk d A w)) fun A=>
      Q6 d (fun B=> ∀t:Value,∀w:World,n w→A t w→Q0 b.1 true w (fieldAddr P T.d t 0) (dk d B w)) fun B=>
      Q6 d (fun H=> ∀u:Value,∀w:World,n w→B u w→Q0 b.1 true w (Q2 P T.c u) (dk d H w)) fun H=>
      Q6 d (fun N=> ∀D:Value,∀w:World,n w→y D w→Q0 b.1 true w (Q2 P T.c D) (dk d N w)) fun N=>
      ∀z:Value,∀p:Value,∀D:Value,∀s:Value,∀t:Value,∀u:Value,∀ae:Value,∀aa:Value,∀w:World,n w→E z w→r p w→y D w→C s w→A t w→B u w→H ae w→N aa w→
      Q0 b.1 true w (Q3 P .neq T.c (.tmp 170) (.tmp 172) ae aa) fun bd w=>
      pick P b.1 bd (.bool false) w fun bu w=>
      Q3 P .add T.e (.tmp 161) (.const (.int .i64 1)) b.2 (.int .i64 1) w fun b8 w=>
      Q (bu,b8) w) (
      Q3 P .add T.e (.tmp 128) (.const (.int .i64 1)) f.2 (.int .i64 1) w fun bx w=>
      O (b.1,bx) w)) (
    Q0 f.1 true w (fieldAddr P T.b (.pointer (some q)) 3) fun ak w=>
    Q0 f.1 true w (Q2 P T.u ak) fun ab w=>
    Q0 f.1 true w (J6 P .not ab) fun ah w=>
    Q0 f.1 true w (fun w J=>J ah w) fun g w=>
    Q0 g false w (fieldAddr P T.b (.pointer (some q)) 4) fun Z w=>
    Q0 g false w (Q2 P T.u Z) fun R w=>
    Q0 g false w (fun w J=>J R w) fun i w=>
    Q0 i true w (fieldAddr P T.b (.pointer (some q)) 1) fun ai w=>
    Q0 i true w (Q2 P T.c ai) fun V w=>
    Q0 i true w (Q3 P .eql T.c (.tmp 185) (.const (.string ⟨#[79,98,106,101,99,116]⟩)) V (.string ⟨#[79,98,106,101,99,116]⟩)) fun am w=>
    Q0 g false w (pick P i am (.bool false)) fun Y w=>
    Q0 f.1 true w (pick P g (.bool true) Y) fun aj w=>
    pick P f.1 aj (.bool false) w fun a w=>
    Q0 a true w (fieldAddr P T.b (.pointer (some q)) 4) fun ac w=>
    Q0 a true w (Q2 P T.u ac) fun al w=>
    Q0 a true w (fun w J=>J al w) fun m w=>
    Q0 m true w (fieldAddr P T.b (.pointer (some q)) 5) fun af w=>
    Q0 m true w (Q2 P T.u af) fun ag w=>
    Q0 a true w (pick P m ag (.bool false)) fun U w=>
    Q0 a true w (J6 P .not U) fun X w=>
    pick P a X (.bool false) w fun ad w=>
    K ad w)) an.sat (hq.up an) (g2.up an) fun w3 σ3 bv=>
  X1u (J:=fun v w=>Q0 v true w (fieldAddr P T.b (.pointer (some q)) 3) fun ak w=>
   Q0 v true w (Q2 P T.u ak) fun ab w=>
   Q0 v true w (J6 P .not ab) fun ah w=>
   Q0 v true w (fun w J=>J ah w) fun g w=>
   Q0 g false w (fieldAddr P T.b (.pointer (some q)) 4) fun Z w=>
   Q0 g false w (Q2 P T.u Z) fun R w=>
   Q0 g false w (fun w J=>J R w) fun i w=>
   Q0 i true w (fieldAddr P T.b (.pointer (some q)) 1) fun ai w=>
   Q0 i true w (Q2 P T.c ai) fun V w=>
   Q0 i true w (Q3 P .eql T.c (.tmp 185) (.const (.string ⟨#[79,98,106,101,99,116]⟩)) V (.string ⟨#[79,98,106,101,99,116]⟩)) fun am w=>
   Q0 g false w (pick P i am (.bool false)) fun Y w=>
   Q0 v true w (pick P g (.bool true) Y) fun aj w=>
   pick P v aj (.bool false) w fun a w=>
   Q0 a true w (fieldAddr P T.b (.pointer (some q)) 4) fun ac w=>
   Q0 a true w (Q2 P T.u ac) fun al w=>
   Q0 a true w (fun w J=>J al w) fun m w=>
   Q0 m true w (fieldAddr P T.b (.pointer (some q)) 5) fun af w=>
   Q0 m true w (Q2 P T.u af) fun ag w=>
   Q0 a true w (pick P m ag (.bool false)) fun U w=>
   Q0 a true w (J6 P .not U) fun X w=>
   pick P a X (.bool false) w fun ad w=>
   K ad w) bv.sat ((hq.up an).up bv) ((g3.up an).up bv) fun w4 σ4 ci=>
  X1D (K:=K) ci.sat (((hq.up an).up bv).up ci) (by rw[e];exact h _ _ (bs.trans (an.trans (bv.trans ci))))
 (repeat refine Hd.h ?_)
 refine ld b6 hq rfl ?_
 refine Yb c.name c3 ?_
 cases d1:M6 c.name with
 | false=>(repeat refine Hd.h ?_);exact ch false (by rw[d1];rfl)
 | true=>
  (repeat refine Hd.h ?_)
  refine ld b6 hq rfl ?_
  (repeat refine Hd.h ?_)
  refine Yb c.super c6 ?_
  cases d2:M6 c.super with
  | false=>(repeat refine Hd.h ?_);exact ch false (by rw[d1,d2];rfl)
  | true=>
   (repeat refine Hd.h ?_)
   refine ld b6 hq rfl ?_
   (repeat refine Hd.h ?_)
   refine ld b6 hq rfl ?_
   (repeat refine Hd.h ?_)
   refine Vz ?_
   (repeat refine Hd.h ?_)
   exact ch _ (by rw[d1,d2];rfl))
theorem Q3X {c:Cla} {cs:List Value} (k:X2 w σ) (d:V0 σ c cs) (h: ∀w' m,Stp w σ w' m→K (I (D6 c)) w'):Q1 P F.br [.agg cs.toArray] w K:=Kc (by
 unfold Nr
 have g:=Rep.one (R:=V0) d
 obtain ⟨n,s,mv,rfl,l,o,p,t,r⟩:=d
 have d:V0 σ c _:=⟨n,s,mv,rfl,l,o,p,t,r⟩
 refine Y9 k fun q w1 σ1 a j=>?_
 unfold D6 at h
 refine Y4 a.sat j rfl ?_
 refine X0y a.sat (RCl_lift d ⟨a.le⟩) fun y u b=>?_
 cases f:Zo c with
 | true=>simp only[f,if_true] at h;(try simp only[↓M1,M1,Mb,reduceIte]);exact h _ _ (a.trans b)
 | false=>
  simp only[f,Bool.false_eq_true,if_false] at h
  (try simp only[↓M1,M1,Mb,reduceIte])
  refine Y4 b.sat (j.up b) rfl ?_
  refine Q98 b.sat (RCl_lift d ⟨(a.trans b).le⟩) fun z v e=>?_
  rw[X0c]
  cases i:Lv c with
  | true=>simp only[i,if_true] at h;(try simp only[↓M1,M1,Mb,reduceIte]);exact h _ _ (a.trans (b.trans e))
  | false=>simp only[i,Bool.false_eq_true,if_false] at h;(try simp only[↓M1,M1,Mb,reduceIte]);exact h _ _ (a.trans (b.trans e)))
end Go.Proofs.YtjdiakhipmggjaaGreatDoor
