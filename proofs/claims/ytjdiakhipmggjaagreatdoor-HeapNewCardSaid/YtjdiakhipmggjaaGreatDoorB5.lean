/- Parts of a proof about the given program: its functions as texts of their own, what each computes, plain laws of that. The conditions of each stand in its statement. -/
import Derived.Test.YtjdiakhipmggjaaGreatDoorB4
import Derived.Laws.OwnMore
import Derived.Laws.CopyRow
import Derived.Test.YtjdiakhipmggjaaGreatDoorB3
import Derived.Lib.TrimUEq
set_option linter.unnecessarySimpa false
set_option linter.defProp false
set_option linter.unusedSectionVars false
set_option linter.unusedVariables false
set_option linter.unusedSimpArgs false
namespace Go.Emb
open Go.RowKit Go.Hm
variable {P : Program} {w w0 w1 w' w'' : World} {K : Value → World → Prop} {σ σ0 σ1 σ' : Q4}
theorem Q34 (a:Array Value) (n i:Nat) (d:i<n) (g:0<a.size):((madeCells a (n*a.size)).toList.drop (i*a.size)).take a.size=a.toList:=by
 have c:i*a.size+a.size≤n*a.size:=by rw[←Nat.succ_mul];exact Nat.mul_le_mul_right _ d
 refine List.ext_getElem (by simp[madeCells];omega) fun j f e=>?_
 have b:j<a.size:=by simpa using e
 simp only[List.getElem_take,List.getElem_drop,madeCells,Array.toList_map,List.getElem_map,Array.toList_range,List.getElem_range,Array.getElem_toList]
 have:(i*a.size+j) % a.size=j:=by rw[Nat.add_comm,Nat.add_mul_mod_self_right];exact Nat.mod_eq_of_lt b
 rw[this]
 simp[b]
theorem Q7J {α:Type} {R:Q4→α→List Value→Prop} {t e:TypeId} {sz b n:Nat} {z:Value} [ts:TS P t e] [tz:TZ P e sz b z] (x0:α) (s:X4 w σ) (u:z.cells.size=sz) (c:0<sz) (B:R σ x0 z.cells.toList) (D:n*sz≤16777216) (C:b*n≤281474976710656)
 (h: ∀v w',Stp w σ w' σ→V2 w.heap.size e sz R σ w' v (List.replicate n x0)→(∀k,v.ownBlock=some k→w.heap.size≤k)→K v w'):Uy P t (I n) (I n) w K:=by
 obtain ⟨i,y,d,m,a⟩:=tz.info
 have q:(i.bytes:Int)*(n:Int)≤281474976710656:=by
  rw[m]
  have:((b*n:Nat):Int)≤281474976710656:=by omega
  rwa [Int.natCast_mul] at this
 have A:n≤16777216:=by
  have:n*1≤n*sz:=Nat.mul_le_mul_left _ c
  omega
 have o:=run_makeSlice (P:=P) w t e i z ts.h y a .i64 .i64 (n:Int) (n:Int) (by omega) (Int.le_refl _) (by rw[d];simp only[Int.toNat_natCast];omega) q (by omega)
 unfold Uy
 rw[X7 o]
 simp only[Int.toNat_natCast,d]
 refine h _ _ (Stp.own s _) ⟨(madeCells z.cells (n*sz)).toList,⟨by simp[madeCells], .inr ⟨w.heap.size,n,madeCells z.cells (n*sz),?_,Nat.le_refl _,heap_alloc_new w _,?_,?_,?_,?_⟩⟩,?_,fun j x f=>?_⟩ ?_
 ·simp
 ·simp
 ·simp[maxLen];omega
 ·simp[madeCells]
 ·rw[List.take_of_length_le (by simp[madeCells])]
 ·intro k g;cases g;exact s.none (Nat.le_refl _)
 ·have r:j<n:=by have:=(List.getElem?_eq_some_iff.1 f).1;simpa using this
  have p:x=x0:=by
   rw[List.getElem?_replicate] at f
   rw[if_pos r] at f
   exact (Option.some.inj f).symm
  subst p
  subst u
  rw[Q34 z.cells n j r c]
  exact B
 ·intro k g;cases g;exact Nat.le_refl _
theorem Q31 (w:World) (p u A elem:TypeId) (sz g o n e:Nat) (a:Addr) (c:Nat) (b:Array Value) (t:TypeId) (cs:List Value)
 (q:P.underlying p=some (.slice elem)) (m:(P.info? elem).map (·.size)=some sz)
 (r:w.heap[g]? =some (.cells b t (0,0))) (B:cs.length=n*sz)
 (f: ∀j v,cs[j]? =some v→w.cell? (a.add j)=some v) (d:o+cs.length≤b.size) (y: ∀v∈cs,v.oneCell'=true):
 (Builtin.copy_ #[p,u] A #[.slice (some ⟨g,o,none⟩) n e, .slice (some a) n c]).run P w=
  .ok (goInt n) (w.setRow g (b.toList.take o++cs++b.toList.drop (o+cs.length)).toArray):=by
 have s:=run_loadCells_list (P:=P) w a cs f
 have h:=run_storeCells_at P g o t cs 0 b w r (by simpa using d) y
 cases k:P.info? elem with
 | none=>simp[k] at m
 | some i=>
  have z:i.size=sz:=by simpa [k] using m
  simp[Builtin.copy_,run_underlying q,Builtin.lenOf,Builtin.firstCells,sizeOf,typeInfo,k,z,←B,s,h]
theorem Q32 (w:World) (e m j elem:TypeId) (sz:Nat) (d a:Option Addr) (b c:Nat) (h:P.underlying e=some (.slice elem)) (k:(P.info? elem).map (·.size)=some sz):
 (Builtin.copy_ #[e,m] j #[.slice d 0 b, .slice a 0 c]).run P w= .ok (goInt 0) w:=by
 cases f:P.info? elem with
 | none=>simp[f] at k
 | some i=>
  have g: ∀(x:Addr),(loadCells x 0).run P w= .ok #[] w:=fun x=>by simpa using run_loadCells_list (P:=P) w x [] (by simp)
  cases d<;>cases a<;>simp[Builtin.copy_,run_underlying h,Builtin.lenOf,Builtin.firstCells,sizeOf,typeInfo,f,storeCells,g]
end Go.Emb
namespace Go.Proofs.YtjdiakhipmggjaaGreatDoor
open Go.Emb Go.RowKit Go.Kd Go.Hm
variable {w w' : World} {K : Value → World → Prop} {σ σ' : Q4} {hp tv : Value} {room : Int} {cs : List Cel} {l : List Cla}
theorem Q3C (ok:Ok l) {k:X0} (d:k.length≤J8) (i:Nat):(Lc l k i).length≤J8:=by
 unfold Lc
 split
 ·cases h:(Z0 l k)[i]? with
  | none=>rw[List.getD_eq_getElem?_getD,h];exact Nat.zero_le _
  | some f=>
   rw[List.getD_eq_getElem?_getD,h]
   have a:=List.mem_of_getElem? h
   unfold Z0 at a
   obtain ⟨c,b,a⟩:=List.mem_flatMap.1 a
   have:=((ok.nm c (Hs (by simpa using b))).2.1 f a).2
   exact Nat.le_trans this (by decide)
 ·unfold elem
  split
  ·unfold Kd.cutA;rw[List.length_take];omega
  ·exact Nat.zero_le _
theorem Q5u (z:X4 w σ) (t:Glb σ) (hh:E0 σ hp tv room cs) (v:Tab σ tv l) (ok:Ok l) (g: ∀c∈cs,GoodC Nc l cs c) (h: ∀w' σ',Stp w σ w' σ'→K (.bool true) w'):Q1 P F.aD [hp] w K:=Ir (by
 unfold Mh
 have o:=hh
 obtain ⟨a,L,rfl,D,C⟩:=hh
 refine J4 z rfl fun q w1 σ1 b s=>?_
 refine X8 b.sat s rfl ?_
 rw[L4,fa]
 refine ld b.sat (D.lift ⟨b.le⟩) rfl ?_
 rw[Qb]
 refine Hg (fun _=>false) b.sat (C.up b) (fun c ds A K y p r f u=>Y8 (first:=[]) (caps:=[.pointer (some q)]) (Sa ?_)) fun A n=>?_
 ·unfold Up
  refine Y9 p fun J M B d j=>?_
  refine X8 d.sat (s.up d) rfl ?_
  refine Y4 d.sat j f ?_
  have e:SLe σ B:=SLe.more ⟨b.le⟩ ⟨d.le⟩
  refine Q8U d.sat (t.lift e) (o.lift e) (v.lift e) ok (Q7K r ⟨d.le⟩) (fun i=>Q3C ok (by obtain ⟨_,_,_,h⟩:=r;exact h) i) (g c y) fun E H m=>?_
  refine Oq ?_
  exact u _ (d.trans m).bel
 ·have k:=b.trans (Stp.of_below b.sat n)
  have:cs.any (fun _=>false)=false:=by simp
  rw[this]
  refine Oq ?_
  exact h _ _ k)
theorem Q88 {B:Nat} {D:Nat→Prop} {m v:Value} {vals:List Val} {k:X0} {ty:TypeId} {cb:List Bool} {A:Value→Value→World→Prop} (hs:X4 w σ) (hB:B≤w.heap.size) (h:RowsIs B D σ w m cs) (O:J9 B T.i 4 B6 σ w v vals) (hd: ∀j,v.ownBlock=some j→ ¬D j) (hk:k.length≤J8) (hl:cs.length≤10000000)
 (hh: ∀s d w' σ' D',Nxt (fun j=>m.ownBlock=some j) w σ w' σ'→(∀j,m.ownBlock=some j→D j)→RowsIs B D' σ' w' d (cs++[⟨k,vals⟩])→(∀j,D' j→D j∨v.ownBlock=some j∨w.heap.size≤j)→(∀j,D j→m.ownBlock≠some j→D' j)→A s d w'):
 buildSlice P T.k 1 [(0, .agg #[S k,v])] w (fun s w=>X6 P .append [T.k,T.k] ty cb [m,s] w (fun v' w=>A s v' w)):=by
 obtain ⟨vs,hq,o,ha,hD⟩:=h.ex
 obtain ⟨a,U,C,_⟩:=(id O:J9 B T.i 4 B6 σ w v vals)
 have an:v.cells= #[v]:=by rw[C];rfl
 refine T4 (R:=Q1Z) (sz:=2) hs [.agg #[S k,v]] [(k,v)] rfl rfl (by simp[Value.cells]) rfl ⟨(⟨rfl,hk,a,_,U,C⟩:Q1Z σ (k,v) [S k,v]),trivial⟩ fun s w1 σ1 c V=>?_
 refine Q6M c.sat (Nat.le_trans hB c.bel.size) (hq.up c) V rfl (by rw[Ep o.1];simp;omega) (by rw[Ep o.1];simp;omega) fun d H Z X N L=>?_
 have f: ∀j,m.ownBlock=some j→D j:=fun j b=>(hD j).2 ⟨m,by simp,b⟩
 have M:Nxt (fun j=>m.ownBlock=some j) w σ H σ1:=
  ⟨(Kpt.of_below c.bel).trans (Z.mono fun j _ b=>b.1),⟨c.le⟩,c.old,X⟩
 have t: ∀j,v.ownBlock=some j→m.ownBlock≠some j:=fun j b e=>hd j b (f j e)
 have g: ∀j,d.ownBlock=some j→m.ownBlock=some j∨w1.heap.size≤j:=fun j b=>by
  rcases L with ⟨a',aa,e1,e2⟩ | ⟨_,hn⟩
  ·left;rw[e1];rw[e2] at b;cases a'<;>exact b
  ·exact .inr (hn j b)
 obtain ⟨y,W⟩:=List.pairwise_cons.1 ha
 have z: ∀i (p:i<vs.length) (q:i<cs.length),J9 B T.i 4 B6 σ1 H vs[i] cs[i].vals:=fun i p q=>(o.2 i p q).nx M fun j b e=>y _ (List.getElem_mem p) j e b
 have Q:J9 B T.i 4 B6 σ1 H v vals:=O.nx M fun j b e=>t j b e
 have Y: ∀u∈vs,∀j,u.ownBlock=some j→j<w.heap.size:=fun u hu j b=>by
  obtain ⟨i,p,rfl⟩:=List.getElem_of_mem hu
  exact ((o.2 i p (by rw[←o.1];exact p)).mem b).2.1
 refine hh s d H σ1 (fun j=> ∃u∈d::(vs++[v]),u.ownBlock=some j) M f ⟨vs++[v],?_,⟨by simp[o.1],fun i p q=>?_⟩,?_,fun j=>Iff.rfl⟩ ?_ ?_
 ·have e:Yg (vs++[v]) (cs++[⟨k,vals⟩])=Yg vs cs++[(k,v)]:=by
   unfold Yg
   rw[List.zipWith_append o.1];rfl
  rw[e];exact N
 ·by_cases n:i<vs.length
  ·have r:i<cs.length:=by rw[←o.1];exact n
   rw[List.getElem_append_left n,List.getElem_append_left r]
   exact z i n r
  ·have r: ¬i<cs.length:=by rw[←o.1];exact n
   have e1:i=vs.length:=by simp at p;omega
   rw[List.getElem_append_right (by omega),List.getElem_append_right (by omega)]
   simp only[List.getElem_singleton]
   exact Q
 ·refine List.pairwise_cons.2 ⟨fun u hu j b e=>?_,List.pairwise_append.2 ⟨W,List.pairwise_singleton _ _,fun u hu u2 E j b e=>?_⟩⟩
  ·rcases List.mem_append.1 hu with hu | hu
   ·rcases g j b with h1 | h1
    ·exact y u hu j h1 e
    ·have:=Y u hu j e;have:=c.bel.size;omega
   ·simp at hu;subst hu
    rcases g j b with h1 | h1
    ·exact t j e h1
    ·have:=(O.mem e).2.1;have:=c.bel.size;omega
  ·simp at E;subst E
   exact hd j e ((hD j).2 ⟨u,by simp[hu],b⟩)
 ·rintro j ⟨u,hu,b⟩
  rcases List.mem_cons.1 hu with rfl | hu
  ·rcases g j b with h1 | h1
   ·exact .inl (f j h1)
   ·right;right;have:=c.bel.size;omega
  ·rcases List.mem_append.1 hu with hu | hu
   ·exact .inl ((hD j).2 ⟨u,by simp[hu],b⟩)
   ·simp at hu;subst hu;exact .inr (.inl b)
 ·intro j b J
  obtain ⟨u,hu,b⟩:=(hD j).1 b
  rcases List.mem_cons.1 hu with rfl | hu
  ·exact absurd b J
  ·exact ⟨u,by simp[hu],b⟩
end Go.Proofs.YtjdiakhipmggjaaGreatDoor

namespace Go.Proofs.YtjdiakhipmggjaaGreatDoor
open Go.Emb Go.RowKit Go.Kd Go.Hm
variable {w : World} {K : Value → World → Prop} {σ : Q4}
end Go.Proofs.YtjdiakhipmggjaaGreatDoor

namespace Go.Proofs.YtjdiakhipmggjaaGreatDoor
open Go.Emb Go.RowKit Go.Kd Go.Hm
variable {w : World} {K : Value → World → Prop} {σ : Q4} {l : List Cla} {v : Value}
theorem P2 {n:X0} (t:X4 w σ) (m:Sl 8 U4 σ v l) (h:K (I (W0 (Y2 l n))) w):Q1 P F.b [v,S n] w K:=Gt (by
 unfold Lp
 refine U3 l.length (fun k w'=>w'=w∧ ∀j (g:j<l.length),j<k→ ¬l[j].name=n) ⟨rfl,fun j _ h=>by omega⟩ fun k w1 d z q=>?_
 obtain ⟨rfl,f⟩:=q
 refine Q9 m ?_
 refine Z1 ?_
 refine Q5 (fun i=>?_) (fun i=>?_)
 ·have a:k<l.length:=by simpa using i
  refine W7 m a fun p cells o s u=>?_
  obtain ⟨D,E,mv,rfl,C,y,B,H,A⟩:=u
  rw[fa]
  refine ld t o rfl ?_
  refine Xy ?_
  refine Q5 (fun b=>?_) (fun b=>?_)
  ·have b:l[k].name=n:=by simpa using b
   have:Y2 l n=some k:=by
    unfold Y2
    rw[List.findIdx?_eq_some_iff_getElem]
    exact ⟨a,by simpa using b,fun j g=>by simpa using f j (by omega) g⟩
   rw[this] at h
   exact h
  ·have b: ¬l[k].name=n:=by simpa using b
   refine M7 ?_
   refine Y3 m.max a ⟨rfl,fun j g r=>?_⟩
   by_cases e:j=k
   ·subst e;exact b
   ·exact f j g (by omega)
 ·have a: ¬k<l.length:=by simpa using i
  have:Y2 l n=none:=by
   unfold Y2
   rw[List.findIdx?_eq_none_iff]
   intro c i
   obtain ⟨j,g,rfl⟩:=List.getElem_of_mem i
   simpa using f j g (by omega)
  rw[this] at h
  exact h)
end Go.Proofs.YtjdiakhipmggjaaGreatDoor

namespace Go.Proofs.YtjdiakhipmggjaaGreatDoor
open Go.Emb Go.RowKit Go.Kd Go.Hm
variable {w : World} {K : Value → World → Prop} {σ : Q4} {l : List Cla} {v : Value}
theorem Q3U {a:X0} (d:a.length≤J8) (h:K (S (base a).1) w):Q1 P F.aJ [S a] w K:=Ij (by
 unfold Lt
 have c:=Ac a
 have b:a.length≤140737488355328:=by simp only[J8] at d;omega
 rw[O8 X9]
 refine Q0G a b ?_
 (try simp only[↓Mr,Mr,Mb,reduceIte])
 rw[S8 (n:=2*((base a).2:Int)) (by omega) (by omega),S8 (by omega) (by omega),I6 X9 (by omega) (by omega)]
 rw[show ((a.length:Int)-2*((base a).2:Int)).toNat=a.length-2*(base a).2 from by omega,Q2D]
 exact h)
theorem Q8Z {s:X0} (f:X4 w σ) (g:Sl 8 U4 σ v l) (c:s.length≤J8) (h:K (.bool (N9 l s)) w):Q1 P F.bq [v,S s] w K:=Gx (by
 unfold Ln
 have b:s.length≤140737488355328:=by simp only[J8] at c;omega
 unfold N9 at h
 refine Xy ?_
 by_cases a:s=C0
 ·have:decide (s=[110,117,108,108])=true:=by rw[decide_eq_true_eq];exact a
  simp only[this,↓M1,M1,Mb,reduceIte]
  simp only[a,decide_true,Bool.true_or] at h
  exact h
 ·have:decide (s=[110,117,108,108])=false:=by rw[decide_eq_false_iff_not];exact a
  simp only[this,↓M1,M1,Mb,reduceIte]
  simp only[a,decide_false,Bool.false_or] at h
  refine Us s b ?_
  cases d:right s with
  | false=>(try simp only[↓M1,M1,Mb,reduceIte]);simpa [d] using h
  | true=>
   (try simp only[↓M1,M1,Mb,reduceIte])
   refine Q3U c ?_
   (try simp only[↓M1,M1,Mb,reduceIte])
   refine Pv _ ?_
   simp only[d,Bool.true_and] at h
   cases e:plain (base s).1 with
   | true=>(try simp only[↓M1,M1,Mb,reduceIte]);simpa [e] using h
   | false=>
    (try simp only[↓M1,M1,Mb,reduceIte])
    refine Q3U c ?_
    (try simp only[↓M1,M1,Mb,reduceIte])
    refine P2 f g ?_
    refine Xx ?_
    rw[Zu]
    (try simp only[↓M1,M1,Mb,reduceIte])
    simpa [e,Q0w] using h)
end Go.Proofs.YtjdiakhipmggjaaGreatDoor

namespace Go.Proofs.YtjdiakhipmggjaaGreatDoor
open Go.Emb Go.RowKit Go.Kd Go.Hm
variable {w : World} {K : Value → World → Prop} {σ : Q4} {l : List Cla} {v : Value}
theorem Q7a {s:X0} (c:X4 w σ) (d:Sl 8 U4 σ v l) (b:s.length≤J8) (h:K (.bool (W9 l s)) w):Q1 P F.bg [v,S s] w K:=Gc (by
 unfold Wv
 unfold W9 at h
 refine Mx ?_
 have e:decide (s=[110,117,108,108])=decide (s=C0):=rfl
 rw[e]
 cases a:decide (s=C0) with
 | true=>
  rw[a] at h
  (try simp only[↓M1,M1,Mb,reduceIte])
  exact h
 | false=>
  rw[a] at h
  (try simp only[↓M1,M1,Mb,reduceIte])
  refine Q8Z c d b ?_
  (try simp only[↓M1,M1,Mb,reduceIte])
  simpa using h)
end Go.Proofs.YtjdiakhipmggjaaGreatDoor

namespace Go.Proofs.YtjdiakhipmggjaaGreatDoor
open Go.Emb Go.RowKit Go.Kd Go.Hm
variable {w : World} {K : Value → World → Prop} {σ : Q4} {l : List Cla} {v : Value}
def Ds (c:Cla) (n:X0):Option Nat:=c.methods.findIdx? fun m=>decide (m.name=n)
theorem Q5w {c:Cla} {cs:List Value} {n:X0} (C:X4 w σ) (r:U4 σ c cs) (h: ∀w' z,Stp w σ w' z→K (I (W0 (Ds c n))) w'):Q1 P F.aP [.agg cs.toArray,S n] w K:=Pi (by
 unfold Nq
 obtain ⟨R,U,mv,rfl,O,E,o,V,L⟩:=r
 refine Y9 C fun q w0 σ0 a t=>?_
 have o:=o.up a
 refine U3 c.methods.length (fun k w'=>w'=w0∧ ∀j (i:j<c.methods.length),j<k→ ¬c.methods[j].name=n) ⟨rfl,fun j _ h=>by omega⟩ fun k w1 d H y=>?_
 obtain ⟨rfl,g⟩:=y
 rw[fa]
 refine ld a.sat t rfl ?_
 refine Q9 o ?_
 refine Z1 ?_
 refine Q5 (fun r=>?_) (fun r=>?_)
 ·have b:k<c.methods.length:=by simpa using r
  rw[fa]
  refine ld a.sat t rfl ?_
  refine W7 o b fun p cells s B D=>?_
  obtain ⟨pv,J,N,rfl,Y,M,X,W,Q⟩:=D
  rw[fa]
  refine ld a.sat s rfl ?_
  refine Xy ?_
  refine Q5 (fun f=>?_) (fun f=>?_)
  ·have f:c.methods[k].name=n:=by simpa using f
   have:Ds c n=some k:=by
    unfold Ds
    rw[List.findIdx?_eq_some_iff_getElem]
    exact ⟨b,by simpa using f,fun j i=>by simpa using g j (by omega) i⟩
   rw[this] at h
   exact h _ _ a
  ·have f: ¬c.methods[k].name=n:=by simpa using f
   refine M7 ?_
   refine Y3 o.max b ⟨rfl,fun j i A=>?_⟩
   by_cases e:j=k
   ·subst e;exact f
   ·exact g j i (by omega)
 ·have b: ¬k<c.methods.length:=by simpa using r
  have:Ds c n=none:=by
   unfold Ds
   rw[List.findIdx?_eq_none_iff]
   intro m u
   obtain ⟨j,i,rfl⟩:=List.getElem_of_mem u
   simpa using g j i (by omega)
  rw[this] at h
  exact h _ _ a)
end Go.Proofs.YtjdiakhipmggjaaGreatDoor

namespace Go.Proofs.YtjdiakhipmggjaaGreatDoor
open Go.Emb Go.RowKit Go.Kd Go.Hm
variable {w : World} {K : Value → World → Prop} {σ : Q4} {l : List Cla} {v : Value}
theorem Hk {n:X0} {d:Cla} (b:X4 w σ) (f:Sl 8 U4 σ v l) (c:lk l n=some d) (h: ∀i:Nat,l[i]? =some d→Y2 l n=some i→K (I i) w):Q1 P F.b [v,S n] w K:=by
 obtain ⟨_,_,i,a,e⟩:=U8 c
 refine P2 b f ?_
 rw[a];exact h i e a
theorem Th {n:X0} (d:X4 w σ) (f:Sl 8 U4 σ v l) (e:lk l n=none) (h:K (I (-1)) w):Q1 P F.b [v,S n] w K:=by
 refine P2 d f ?_
 cases b:Y2 l n with
 | none=>exact h
 | some i=>obtain ⟨c,a,_⟩:=Zt b;rw[e] at a;cases a
end Go.Proofs.YtjdiakhipmggjaaGreatDoor

namespace Go.Proofs.YtjdiakhipmggjaaGreatDoor
open Go.Emb Go.RowKit Go.Kd Go.Hm
variable {w : World} {K : Value → World → Prop} {σ : Q4} {l : List Cla} {v : Value}
theorem Q8I:decide ((-1:Int)<0)=true:=by decide
theorem Q4E (i:Nat):decide ((i:Int)<0)=false:=by rw[decide_eq_false_iff_not];omega
theorem Q6u {c:Cla} {cs:List Value} (hs:X4 w σ) (X:Sl 8 U4 σ v l) (D:U4 σ c cs) (h: ∀w' σ',Stp w σ w' σ'→K (I (L2 l c)) w'):Q1 P F.aZ [v, .agg cs.toArray] w K:=Sf (by
 unfold Vb
 obtain ⟨lv,fv,mv,rfl,z,f2,f3,f4,f5⟩:=D
 refine Y9 hs fun q w0 σ0 o R=>?_
 have z:=z.up o
 have b:=X.up o
 have a:=o.sat
 have y: ∀n:Nat,L2 l c=n→K (I n) w0:=fun n e=>by rw[←e];exact h _ _ o
 clear h
 (try simp only[↓M1,M1,Mb,reduceIte])
 refine ld a R rfl ?_
 have m:K8 l c.super=true→K (I (61:Nat)) w0:=fun e=>y 61 (by unfold L2;rw[if_pos e])
 cases L:lk l c.super with
 | none=>
  refine Th a b L ?_
  simp only[Q8I,↓M1,M1,Mb,reduceIte]
  exact m (by unfold K8;rw[L])
 | some d=>
  refine Hk a b L fun i hi hf=>?_
  obtain ⟨u,M⟩:=List.getElem?_eq_some_iff.1 hi
  simp only[Q4E,↓M1,M1,Mb,reduceIte]
  refine Z4 b u ?_
  obtain ⟨ab,af,ae,O,r1⟩:=b.elC u
  rw[M] at O
  (try simp only[↓M1,M1,Mb,reduceIte])
  refine ld a O rfl ?_
  have f:K8 l c.super=(d.iface||d.fin):=by unfold K8;rw[L]
  cases B:d.iface with
  | true=>
   rw[B] at f
   (try simp only[↓M1,M1,Mb,reduceIte])
   exact m (by rw[f];rfl)
  | false=>
   rw[B] at f
   (try simp only[↓M1,M1,Mb,reduceIte])
   refine Z4 b u ?_
   (try simp only[↓M1,M1,Mb,reduceIte])
   refine ld a O rfl ?_
   cases E:d.fin with
   | true=>
    rw[E] at f
    (try simp only[↓M1,M1,Mb,reduceIte])
    exact m (by rw[f];rfl)
   | false=>
    rw[E] at f
    have H:K8 l c.super=false:=f
    (try simp only[↓M1,M1,Mb,reduceIte])
    refine U3 c.like.length (fun k w'=>w'=w0∧(c.like.take k).any (N3 l)=false) ⟨rfl,rfl⟩ fun k w1 d1 hk N=>?_
    obtain ⟨hw,s⟩:=N
    subst hw
    (try simp only[↓M1,M1,Mb,reduceIte])
    refine ld a R rfl ?_
    refine Q9 z ?_
    refine Z1 ?_
    refine Q5 (fun D=>?_) (fun D=>?_)
    ·have g:k<c.like.length:=by simpa using D
     have r:N3 l c.like[k]=true→K (I (62:Nat)) w1:=fun e=>y 62 (by
      unfold L2;rw[H,R7 g e];rfl)
     have t:N3 l c.like[k]=false→(c.like.take (k+1)).any (N3 l)=false:=fun e=>by rw[L6 g,s,e];rfl
     (try simp only[↓M1,M1,Mb,reduceIte])
     refine ld a R rfl ?_
     refine Z4 z g ?_
     obtain ⟨p2,_⟩:=z.elS g
     refine X8 a p2 rfl ?_
     cases J:lk l c.like[k] with
     | none=>
      refine Th a b J ?_
      simp only[Q8I,↓M1,M1,Mb,reduceIte]
      exact r (by unfold N3;rw[J])
     | some e=>
      refine Hk a b J fun j V W=>?_
      obtain ⟨A,Q⟩:=List.getElem?_eq_some_iff.1 V
      simp only[Q4E,↓M1,M1,Mb,reduceIte]
      refine Z4 b A ?_
      obtain ⟨Z,Y,aa,U,r3⟩:=b.elC A
      rw[Q] at U
      (try simp only[↓M1,M1,Mb,reduceIte])
      refine ld a U rfl ?_
      have p:N3 l c.like[k]= !e.iface:=by unfold N3;rw[J]
      cases C:e.iface with
      | true=>
       rw[C] at p
       (try simp only[↓M1,M1,Mb,reduceIte])
       exact Y3 z.max g ⟨rfl,t p⟩
      | false=>
       rw[C] at p
       (try simp only[↓M1,M1,Mb,reduceIte])
       exact r p
    ·have g: ¬k<c.like.length:=by simpa using D
     rw[O3 g] at s
     exact y 0 (by unfold L2;rw[H,s];rfl))
end Go.Proofs.YtjdiakhipmggjaaGreatDoor

namespace Go.Proofs.YtjdiakhipmggjaaGreatDoor
open Go.Emb Go.RowKit Go.Kd Go.Hm
variable {w : World} {K : Value → World → Prop} {σ : Q4} {l : List Cla} {v : Value}
theorem Q50 {n:X0} (h:lk l n=none):Z0 l n=[]:=by unfold Z0;rw[Qn h];rfl
theorem Q5b (a:Xv l) {n:X0} {c:Cla} (h:lk l n=some c):Z0 l n=Z0 l c.super++c.fields:=by
 unfold Z0
 rw[F7 a,h]
 simp
theorem Q14 (a: ∀c∈l,K5 c) (n:X0):(Z0 l n).length≤(l.length+1)*1000000:=by
 unfold Z0
 have b:=Jl (fun c:Cla=>c.fields) 1000000 (chain l n).reverse fun c d=>(a c (Hs (by simpa using d))).2.1
 have e:=Hw l n
 rw[List.length_reverse] at b
 exact Nat.le_trans b (Nat.mul_le_mul_right _ e)
theorem Q0t {n:X0} (c:lk l n=none) (b:X4 w σ) (e:Sl 8 U4 σ v l) (h: ∀a w' d,Stp w σ w' d→Sl 3 O4 d a (Z0 l n)→K a w'):Q1 P F.y [v,S n] w K:=Vf (by
 unfold Qa
 refine Th b e c ?_
 simp only[Q8I,↓M1,M1,Mb,reduceIte]
 exact h _ _ _ (Stp.refl b) (by rw[Q50 c];exact Sl.nil))
theorem Q4P (p:Xv l) (hl:l.length≤1000) (m: ∀c∈l,K5 c): ∀(k:Nat) {n:X0} {w:World} {σ:Q4} {K:Value→World→Prop},(lk l n=none∨B2 l n<k)→X4 w σ→Sl 8 U4 σ v l→
 (∀f w' g,Stp w σ w' g→Sl 3 O4 g f (Z0 l n)→K f w')→Q1 P F.y [v,S n] w K:=by
 intro k
 induction k with
 | zero=>
  intro n w σ K hk j a h
  rcases hk with hk | hk
  ·exact Q0t hk j a h
  ·omega
 | succ k ih=>
  intro n w σ K hk j a h
  cases b:lk l n with
  | none=>exact Q0t b j a h
  | some c=>
   have hk:B2 l n<k+1:=by
    rcases hk with hk | hk
    ·rw[b] at hk;cases hk
    ·exact hk
   refine Vf ?_
   unfold Qa
   refine Hk j a b fun i hi hf=>?_
   obtain ⟨B,s⟩:=List.getElem?_eq_some_iff.1 hi
   simp only[Q4E,↓M1,M1,Mb,reduceIte]
   obtain ⟨lv,fv,mv,p1,O⟩:=a.elC B
   rw[s] at p1 O
   obtain ⟨_,g2,_,_,_⟩:=O.parts
   have J:lk l c.super=none∨B2 l c.super<k:=by
    cases Q:lk l c.super with
    | none=>exact .inl rfl
    | some d=>
     have:=Xk p b (u:=c.super) (by simp[J3]) Q
     right;omega
   have al:=Q14 m c.super
   have X:=(m c (U8 b).2.1).2.1
   have N:(l.length+1)*1000000≤1001*1000000:=Nat.mul_le_mul_right _ (by omega)
   refine U6 j ?_
   (repeat refine V7 Xc ?_)
   refine Q6O (R:=O4) (by decide) ?_
   (repeat refine V7 Xc ?_)
   refine Ou (w:=w) (σ:=σ) (Φ:=fun g v=>Sl 3 O4 g v (Z0 l c.super)) (fun t w o e=>?_) ?_
   ·subst e;exact ih J o.sat a fun f w' g hk D=>Kn o hk D
   refine Q23 (w:=w) (σ:=σ) (R:=O4) (sz:=3) (e:=T.j) (Z0 l c.super) (fun M C w o E A=>?_) ?_
   ·obtain ⟨k1,Y,e1⟩:=E
    obtain ⟨σ2,k2,s2⟩:=A
    exact Q9X k1 Y e1 k2.sat s2 (fun _ _ h=>h) rfl (by omega) (by omega) fun f w' hk p=>Q3K o hk p
   (repeat refine V7 Xc ?_)
   rintro aj W ag ae M V C Z ac w2 ai rfl rfl rfl rfl _ rfl _ ⟨L,r⟩ rfl
   refine Oy L r g2 rfl (by omega) (by omega) fun f w3 U q y _=>?_
   obtain ⟨σ4,H,z,_⟩:=y.keep q
   exact h _ _ _ H (by rw[Q5b p b];exact z)
theorem Q6m {n:X0} (i:X4 w σ) (g:Sl 8 U4 σ v l) (f:Xv l) (e:l.length≤1000) (a: ∀c∈l,K5 c) (h: ∀b w' d,Stp w σ w' d→Sl 3 O4 d b (Z0 l n)→K b w'):Q1 P F.y [v,S n] w K:=
 Q4P f e a _ (.inr (Nat.lt_succ_self _)) i g h
theorem Q7y {n f:X0} (H:X4 w σ) (B:Sl 8 U4 σ v l) (L:Xv l) (z:l.length≤1000) (u: ∀c∈l,K5 c) (h: ∀w' D,Stp w σ w' D→K (I (W0 (Yz l n f))) w'):Q1 P F.bf [v,S n,S f] w K:=Bp (by
 unfold Lh
 refine Q6m H B L z u fun N w1 σ1 r a=>?_
 have s: ∀o,Yz l n f=o→K (I (W0 o)) w1:=fun o e=>by rw[←e];exact h _ _ r
 unfold Yz at s
 generalize Z0 l n=p at a s
 refine U3 p.length (fun k w'=>w'=w1∧ ∀j (q:j<p.length),j<k→ ¬p[j].name=f) ⟨rfl,fun j _ h=>by omega⟩ fun k O d M C=>?_
 obtain ⟨J,i⟩:=C
 subst J
 refine Q9 a ?_
 refine Z1 ?_
 refine Q5 (fun t=>?_) (fun t=>?_)
 ·have b:k<p.length:=by simpa using t
  refine Z4 a b ?_
  obtain ⟨A,_⟩:=a.elF b
  (try simp only[↓M1,M1,Mb,reduceIte])
  refine ld r.sat A rfl ?_
  refine Xy ?_
  refine Q5 (fun g=>?_) (fun g=>?_)
  ·have g:p[k].name=f:=by simpa using g
   exact s (some k) (by
    rw[List.findIdx?_eq_some_iff_getElem]
    exact ⟨b,by simpa using g,fun j q=>by simpa using i j (by omega) q⟩)
  ·have g: ¬p[k].name=f:=by simpa using g
   (try simp only[↓M1,M1,Mb,reduceIte])
   refine Y3 a.max b ⟨rfl,fun j q E=>?_⟩
   by_cases e:j=k
   ·subst e;exact g
   ·exact i j q (by omega)
 ·have b: ¬k<p.length:=by simpa using t
  exact s none (by
   rw[List.findIdx?_eq_none_iff]
   intro m y
   obtain ⟨j,q,rfl⟩:=List.getElem_of_mem y
   simpa using i j q (by omega)))
end Go.Proofs.YtjdiakhipmggjaaGreatDoor

namespace Go.Emb
open Go.RowKit Go.Hm
variable {w w' : World} {σ σ' : Q4}
theorem Nxt.of_upd {b:Nat} (c:X4 w σ) (a:Upd w b w') (d:σ b=none):Nxt (fun j=>j=b) w σ w' σ:=
 ⟨Kpt.of_upd a rfl,SLe.refl _,fun _ _=>rfl,(Kpt.of_upd (D:=fun j=>j=b) a rfl).sat c fun k e=>e▸d⟩
theorem Nxt.chain {D E:Nat→Prop} {w1 c:World} {σ1 d:Q4} (h:Nxt D w σ w1 σ1) (k:Nxt E w1 σ1 c d) (f: ∀j,j<w.heap.size→E j→D j):Nxt D w σ c d:=
 ⟨⟨k.kp.os.trans h.kp.os,k.kp.tape.trans h.kp.tape,k.kp.output.trans h.kp.output,Nat.le_trans h.kp.size k.kp.size,fun j a b=>(k.kp.block j (Nat.lt_of_lt_of_le a h.kp.size) fun e=>b (f j a e)).trans (h.kp.block j a b)⟩,h.le.more k.le,fun j a=>(k.old j (Nat.lt_of_lt_of_le a h.kp.size)).trans (h.old j a),k.sat⟩
end Go.Emb
namespace Go.Proofs.YtjdiakhipmggjaaGreatDoor
open Go.Emb Go.RowKit Go.Kd Go.Hm
variable {w w' : World} {K : Value → World → Prop} {σ σ' : Q4} {hp tv : Value} {room : Int} {cs : List Cel} {l : List Cla}
theorem RowsIs.shape {B:Nat} {D:Nat→Prop} {b:Value} (h:RowsIs B D σ w b cs):b.cells= #[b]∧b.oneCell'=true:=by
 obtain ⟨vs,d,_⟩:=h.ex
 obtain ⟨a,c,rfl,_⟩:=d
 exact ⟨rfl,rfl⟩
theorem RowsIs.len {B:Nat} {D:Nat→Prop} {c:Value} (h:RowsIs B D σ w c cs): ∃a b,c= .slice a cs.length b:=by
 obtain ⟨vs,e,d,_⟩:=h.ex
 obtain ⟨a,b,rfl,_⟩:=e
 exact ⟨a,b,by rw[Ep d.1]⟩
theorem Q9r {B:Nat} {D:Nat→Prop} {v:Value} {vals:List Val} {k:X0} (hs:X4 w σ) (hB:B≤w.heap.size) (h:HeapIs B D σ w hp tv room cs) (H:J9 B T.i 4 B6 σ w v vals) (J: ∀j,v.ownBlock=some j→ ¬D j) (X:k.length≤J8) (hl:W3 cs+(1+(vals.length:Int))≤1048576)
 (hh: ∀w' σ' D',Nxt D w σ w' σ'→HeapIs B D' σ' w' hp tv room (cs++[⟨k,vals⟩])→(∀j,D' j→D j∨v.ownBlock=some j∨w.heap.size≤j)→K (.tuple #[I cs.length,I 0]) w'):Q1 P F.aT [hp,S k,v] w K:=Q01 (by
 obtain ⟨b,lv,E,rfl,L,r,hr,hE,hD⟩:=h.ex
 have aa:=Q0W cs
 have ab:=Xd cs
 have c:D b:=(hD b).2 (.inl rfl)
 have M: ∃a d,v= .slice a vals.length d:=by obtain ⟨a,d,e,_⟩:=H;exact ⟨a,d,e⟩
 have R:=r.lt
 unfold On
 rw[L4,fa]
 refine Pz r rfl ?_
 refine Am H ?_
 refine Uq ⟨by omega,by omega⟩ ?_
 refine Uq ⟨by omega,by omega⟩ ?_
 rw[L4,fa]
 refine Ce r (by simp) rfl rfl fun w1 u p=>?_
 have t:=Nxt.of_upd hs u r.1
 have O:=hr.nx t fun j hj e=>hE (e▸hj)
 have y:=H.nx t fun j hj e=>J j hj (e▸c)
 have z:=t.sat
 rw[L4,fa]
 refine Pz p rfl ?_
 refine V1 (cells:= #[S k,v]) (by obtain ⟨a,d,rfl⟩:=M;kernel_rfl) ?_
 refine Q88 z (by rw[u.size];exact hB) O y (fun j hj e=>J j hj ((hD j).2 (.inr e))) X (by omega) fun s ac w2 Q A C i f n Y=>?_
 have o: ∀j,lv.ownBlock=some j→j≠b:=fun j hj e=>hE (e▸i j hj)
 have m:=p.nx C fun e=>o b e rfl
 have g: ¬A b:=fun e=>by
  rcases n b e with e | e | e
  ·exact hE e
  ·exact J b e c
  ·rw[u.size] at e;omega
 rw[L4,fa]
 refine Ce m (by simp) f.shape.1 f.shape.2 fun W Z q=>?_
 have U:=Nxt.of_upd C.sat Z m.1
 have N:=f.nx U fun j hj e=>g (e▸hj)
 rw[L4,fa]
 refine Pz q rfl ?_
 obtain ⟨a2,V,rfl⟩:=f.len
 rw[Af]
 refine Mq ⟨by simp only[List.length_append,List.length_cons,List.length_nil];omega,by simp only[List.length_append,List.length_cons,List.length_nil];omega⟩ ?_
 have e1:(((cs++[(⟨k,vals⟩:Cel)]).length:Nat):Int)-1=cs.length:=by simp
 rw[e1]
 have e2:W3 (cs++[(⟨k,vals⟩:Cel)])=W3 cs+(1+(vals.length:Int)):=by rw[Cw];simp[W3]
 have NN:Nxt D w σ W Q:=((t.mono fun j _ e=>e▸c).chain C fun j _ e=>(hD j).2 (.inr (i j e))).chain U fun j _ e=>e▸c
 refine hh W Q (fun j=>j=b∨A j) NN ⟨b,_,A,rfl,L,?_,N,g,fun j=>Iff.rfl⟩ fun j hj=>?_
 ·rw[e2];exact q
 ·rcases hj with rfl | hj
  ·exact .inl c
  ·rcases n j hj with e | e | e
   ·exact .inl ((hD j).2 (.inr e))
   ·exact .inr (.inl e)
   ·rw[u.size] at e;exact .inr (.inr e))
theorem HeapIs.tab {B:Nat} {D:Nat→Prop} (h:HeapIs B D σ w hp tv room cs): ∃b a E,hp= .pointer (some ⟨b,0,none⟩)∧J0 σ w b [tv,I room,I (W3 cs),a]∧RowsIs B E σ w a cs:=by
 obtain ⟨b,a,E,e,c,f,d,hE,hD⟩:=h.ex
 exact ⟨b,a,E,e,f,d⟩
theorem Q3x {B:Nat} {D:Nat→Prop} (b:X4 w σ) (h:HeapIs B D σ w hp tv room cs) (c:0≤R1 room cs) (g:room≤1048576) (i: ∀w',Stp w σ w' σ→K (I (R1 room cs)) w'):Q1 P F.a2 [hp] w K:=by
 obtain ⟨j,d,f,a,_⟩:=h.freeze b
 exact Q1K d a c g fun w' e=>i w' (Stp.of_below b e)
theorem Q24 (k:X0) {σ:Q4}:B6 σ (O7 k) (Value.agg [I (O7 k).sort,I (O7 k).n,S (O7 k).s,I (O7 k).ref].toArray).cells.toList:=by
 refine ⟨rfl,?_⟩
 unfold O7
 split
 ·decide
 split
 ·decide
 split
 ·decide
 ·decide
theorem Q3H (a: ∀c∈l,K5 c) (b:l.length≤100000) (n:X0):(Z0 l n).length≤1000000000000:=by
 have h:=Q14 a n
 have:(l.length+1)*1000000≤100001*1000000:=Nat.mul_le_mul_right _ (by omega)
 omega
def atM (cs:List Cel) (e:Int):Int:=if e=0 then cs.length else 0
set_option maxHeartbeats 1000000 in
theorem Q8X {B:Nat} {D:Nat→Prop} {k:X0} (hs:X4 w σ) (hB:B≤w.heap.size) (h:HeapIs B D σ w hp tv room cs) (ht:Tab σ tv l) (ok:Ok l) (hk:k.length≤J8) (h0:0≤R1 room cs) (h1:room≤1048576)
 (hh: ∀w' σ' D',Nxt D w σ w' σ'→HeapIs B D' σ' w' hp tv room (Q0R l room cs k).1→(∀j,D' j→D j∨w.heap.size≤j)→K (.tuple #[I (atM cs (Q0R l room cs k).2),I (Q0R l room cs k).2]) w'):Q1 P F.b6 [hp,S k] w K:=Cj (by
 obtain ⟨b,lv,E,rfl,hm,hr⟩:=h.tab
 unfold Ld
 rw[L4,fa]
 refine Pz (i:=0) hm rfl ?_
 refine Q2q hs ht fun w1 σ1 c=>?_
 refine Oq ?_
 unfold Q0R at hh
 have aa:=ht.lift ⟨c.le⟩
 cases ho:Ze l k with
 | false=>
  rw[ho] at hh
  simp only[if_pos] at hh
  refine L7 ?_
  exact hh w1 σ1 D (.of_stp c) (h.up c) fun j p=> .inl p
 | true=>
  rw[ho] at hh
  simp only[Bool.true_eq_false,if_false] at hh
  refine M0 ?_
  rw[L4,fa]
  refine Pz (i:=0) (hm.up c) rfl ?_
  refine Cr c.sat aa ok.acy ok.len ok.sm fun fv w2 W L hf=>?_
  have v:=c.trans L
  have U:=hf.max
  refine Q9 hf ?_
  have ae:=Q3H ok.sm ok.len k
  refine Uq ⟨by omega,by omega⟩ ?_
  refine Q3x L.sat (h.up v) h0 h1 fun M z=>?_
  have u:=v.trans z
  have C:=hf.up z
  rw[Aa]
  by_cases N:R1 room cs<1+((Z0 l k).length:Int)
  ·rw[if_pos N] at hh
   have e:decide (1+((Z0 l k).length:Int)>R1 room cs)=true:=decide_eq_true N
   rw[e]
   refine L7 ?_
   exact hh M W D (.of_stp u) (h.up u) fun j p=> .inl p
  rw[if_neg N] at hh
  have e:decide (1+((Z0 l k).length:Int)>R1 room cs)=false:=decide_eq_false N
  rw[e]
  refine M0 ?_
  refine Q9 C ?_
  have t:=u.bel.size
  refine M3 (Z0 l k).length (fun n x w'=> ∃σ',Stp M W w' σ'∧V2 M.heap.size T.i 4 B6 σ' w' x (((Z0 l k).take n).map fun f=>O7 f.kind)) ⟨W,Stp.refl z.sat,V2.nil⟩ fun n x w4 d hn J=>?_
  obtain ⟨σ4,g,o⟩:=J
  refine Z1 ?_
  refine Q5 (fun Y=>?_) (fun Y=>?_)
  ·have m:n<(Z0 l k).length:=by simpa using Y
   have A:=C.up g
   refine Z4 A m ?_
   obtain ⟨p1,r1⟩:=A.elF m
   refine Y4 g.sat p1 rfl ?_
   refine Y1 g.sat (by rfl) rfl (Rep.one (R:=O4) r1) fun q w5 σ5 r X=>?_
   rw[fa]
   refine ld r.sat X rfl ?_
   refine Q7t r.sat fun w6 σ6 H=>?_
   have O:=(g.trans r).trans H
   have V:=(o.up r).up H
   refine Zb (R:=B6) (x:=O7 (Z0 l k)[n].kind) O V (Q24 _) rfl rfl rfl (by rw[List.length_map,List.length_take];omega) (by rw[List.length_map,List.length_take];omega) fun s v' w7 Z an ab ac _=>?_
   refine M7 ?_
   refine Z2 U m ⟨Z,ab,?_⟩
   rw[List.take_add_one,List.getElem?_eq_getElem m,List.map_append]
   exact ac
  ·have m: ¬n<(Z0 l k).length:=by simpa using Y
   rw[List.take_of_length_le (by omega)] at o
   have a:=u.trans g
   have y: ∀j,x.ownBlock=some j→M.heap.size≤j:=fun j p=>(o.mem j p).1
   refine Q9r g.sat (Nat.le_trans hB a.bel.size) (h.up a) ((J9.of_acc o).mono (Nat.le_trans hB t)) (fun j p hD=>by
    have:=(h.mem hD).2.1;have:=y j p;omega) hk (by rw[List.length_map];unfold R1 at*;omega) fun w7 Z D' N7 h7 Q=>?_
   refine Z7 (vs:=[_,_]) rfl ?_
   refine Z7 (vs:=[_,_]) rfl ?_
   refine hh w7 Z D' ((Nxt.of_stp a).chain N7 fun j _ e=>e) h7 fun j p=>?_
   rcases Q j p with e | e | e
   ·exact .inl e
   ·right;have:=y j e;omega
   ·right;have:=a.bel.size;omega)
end Go.Proofs.YtjdiakhipmggjaaGreatDoor

namespace Go.Proofs.YtjdiakhipmggjaaGreatDoor
open Go.Emb Go.RowKit Go.Kd Go.Hm
variable {w w' : World} {K : Value → World → Prop} {σ σ' : Q4} {hp tv : Value} {room : Int} {cs : List Cel} {l : List Cla}
def part (m n:Nat) (z:Val):List Val:=(List.range m).map fun i=>if i<n then z else Val.zero
theorem Q8b (m:Nat) (z:Val):part m 0 z=List.replicate m Val.zero:=by
 refine List.ext_getElem (by simp[part]) fun i a b=>by simp[part]
theorem Q8s (m:Nat) (z:Val):part m m z=List.replicate m z:=by
 refine List.ext_getElem (by simp[part]) fun i a b=>?_
 have:i<m:=by simpa [part] using a
 simp[part,this]
theorem Q8p {m n:Nat} (z:Val):(part m n z).set n z=part m (n+1) z:=by
 refine List.ext_getElem (by simp[part]) fun i a b=>?_
 simp only[part,List.getElem_set,List.getElem_map,List.getElem_range]
 by_cases e:n=i
 ·subst e;simp
 ·rw[if_neg e]
  by_cases h:i<n
  ·simp[h,Nat.lt_succ_of_lt h]
  ·have: ¬i<n+1:=by omega
   simp[h,this]
theorem Q44 {e:X0} (h:T9 l e=true):right e=true:=by
 simp only[T9,Bool.and_eq_true,Bool.not_eq_true',decide_eq_false_iff_not] at h
 have:=h.1.2
 simp only[N9,Bool.or_eq_true,Bool.and_eq_true,decide_eq_true_eq] at this
 rcases this with h1 | h1
 ·exact absurd h1 h.1.1
 ·exact h1.1
theorem Q9K {e:X0} (h:right e=true):Xq e≤3:=by
 unfold Xq
 rw[if_pos h]
 simp only[right,Bool.and_eq_true,decide_eq_true_eq] at h
 exact h.1
set_option maxHeartbeats 1000000 in
theorem Q9S {B:Nat} {D:Nat→Prop} {e:X0} {n:Int} (hs:X4 w σ) (hB:B≤w.heap.size) (h:HeapIs B D σ w hp tv room cs) (ht:Tab σ tv l) (hk:e.length≤J8) (h0:0≤R1 room cs) (h1:room≤1048576)
 (hh: ∀w' σ' D',Nxt D w σ w' σ'→HeapIs B D' σ' w' hp tv room (Q0B l room cs e n).1→(∀j,D' j→D j∨w.heap.size≤j)→K (.tuple #[I (atM cs (Q0B l room cs e n).2),I (Q0B l room cs e n).2]) w'):Q1 P F.bn [hp,S e,I n] w K:=Is (by
 obtain ⟨b,lv,E,rfl,hm,hr⟩:=h.tab
 unfold Mg
 refine X1I e (Nat.le_trans hk (by decide)) fun w1 ah=>?_
 have r:=Stp.of_below hs ah
 unfold Q0B at hh
 have k: ∀{L C},Stp w σ L C→T9 l e=false→K (.tuple #[I 0,I 91]) L:=fun {L C} hS U=>by
  rw[U] at hh
  simp only[if_pos] at hh
  exact hh L C D (.of_stp hS) (h.up hS) fun j s=> .inl s
 cases q:(right e&&decide (Xq e≠3)) with
 | false=>
  have U:T9 l e=false:=by
   cases hx:T9 l e with
   | false=>rfl
   | true=>
    have hr:=Q44 hx
    simp only[T9,Bool.and_eq_true,decide_eq_true_eq] at hx
    rw[hr,Bool.true_and,decide_eq_false_iff_not] at q
    omega
  simp only[Bool.false_eq_true,if_false]
  (try simp only[↓M1,M1,Mb,reduceIte])
  simp only[show decide ((30:Int)=0)=false from by decide,Bool.not_false,↓M1,M1,Mb,reduceIte]
  exact k r U
 | true=>
  simp only[if_true]
  (try simp only[↓M1,M1,Mb,reduceIte])
  simp only[decide_true,Bool.not_true,↓M1,M1,Mb,reduceIte]
  refine Pz (i:=0) (hm.up r) rfl ?_
  refine Ti r.sat ht hk fun L C Y=>?_
  have a:=r.trans Y
  simp only[Bool.and_eq_true,decide_eq_true_eq] at q
  have a1:=Q9K q.1
  have o:T9 l e=(!decide (e=C0)&&N9 l e):=by
   unfold T9
   have:decide (Xq e≤2)=true:=decide_eq_true (by omega)
   rw[this,Bool.and_true]
  have en:decide (e=[110,117,108,108])=decide (e=C0):=rfl
  cases N:N9 l e with
  | false=>
   (try simp only[↓M1,M1,Mb,reduceIte])
   exact k a (by rw[o,N,Bool.and_false])
  | true=>
   (try simp only[↓M1,M1,Mb,reduceIte])
   by_cases c:e=C0
   ·have:decide (e=[110,117,108,108])=true:=decide_eq_true c
    rw[this]
    (try simp only[↓M1,M1,Mb,reduceIte])
    exact k a (by rw[o,decide_eq_true c];rfl)
   have:decide (e=[110,117,108,108])=false:=decide_eq_false c
   rw[this]
   (try simp only[↓M1,M1,Mb,reduceIte])
   have U:T9 l e=true:=by rw[o,N,decide_eq_false c];rfl
   rw[U] at hh
   simp only[Bool.true_eq_false,if_false] at hh
   by_cases g:n<0
   ·rw[if_pos g] at hh
    rw[decide_eq_true g]
    (try simp only[↓M1,M1,Mb,reduceIte])
    exact hh L C D (.of_stp a) (h.up a) fun j s=> .inl s
   rw[if_neg g] at hh
   rw[decide_eq_false g]
   (try simp only[↓M1,M1,Mb,reduceIte])
   refine Q3x Y.sat (h.up a) h0 h1 fun w3 W=>?_
   have y:=a.trans W
   refine Xx ?_
   by_cases Q:R1 room cs≤n
   ·rw[if_pos Q] at hh
    rw[decide_eq_true Q]
    refine L7 ?_
    exact hh w3 C D (.of_stp y) (h.up y) fun j s=> .inl s
   rw[if_neg Q] at hh
   rw[decide_eq_false Q]
   refine M0 ?_
   obtain ⟨m,rfl⟩:=Int.eq_ofNat_of_zero_le (Int.not_lt.1 g)
   have aa:(m:Int)<R1 room cs:=Int.not_le.1 Q
   have aq:=Xd cs
   unfold R1 at aa h0
   have t:=y.bel.size
   have ai:=Ai q.1
   refine Q7J (sz:=4) (R:=B6) (x0:=Val.zero) W.sat rfl (by decide) ⟨rfl,by decide⟩ (by omega) (by omega) fun v w4 ac ab H=>?_
   have X:=J9.of_acc ab
   refine Am X ?_
   rw[List.length_replicate]
   refine U3 m (fun i w'=> ∃σ',Stp w3 C w' σ'∧J9 w3.heap.size T.i 4 B6 σ' w' v (part m i (O7 e))) ⟨C,ac,by rw[Q8b];exact X⟩ fun i w5 d hi V=>?_
   obtain ⟨σ5,A,J⟩:=V
   refine Z1 ?_
   refine Q5 (fun hc=>?_) (fun hc=>?_)
   ·have z:i<m:=by simpa using hc
    refine Q7t A.sat fun w6 σ6 O=>?_
    have Z:=A.trans O
    refine Q3e (x:=O7 e) Z (J.up O) (by simpa [part] using z) rfl (Q24 e) (Rep.one (R:=B6) (Q24 (σ:=σ6) e)) fun p u w7 av ae M=>?_
    refine M7 ?_
    rw[Q8p] at M
    exact Y3 (by omega) z ⟨σ6,ae.stp,M⟩
   ·have z:i=m:=by
     have: ¬i<m:=by simpa using hc
     omega
    subst z
    rw[Q8s] at J
    have f:=y.trans A
    refine Q9r A.sat (Nat.le_trans hB f.bel.size) (h.up f) (J.mono (Nat.le_trans hB t)) (fun j s hD=>by
     have:=(h.mem hD).2.1;have:=H j s;omega) (Nat.le_trans (show (e++[91,93]).length≤40 by simp only[List.length_append,List.length_cons,List.length_nil];omega) (by decide)) (by rw[List.length_replicate];omega) fun w7 σ7 D' N7 h7 ad=>?_
    refine Z7 (vs:=[_,_]) rfl ?_
    refine Z7 (vs:=[_,_]) rfl ?_
    rw[Int.toNat_natCast] at hh
    refine hh w7 σ7 D' ((Nxt.of_stp f).chain N7 fun j _ e=>e) h7 fun j s=>?_
    rcases ad j s with e | e | e
    ·exact .inl e
    ·right;have:=H j e;omega
    ·right;have:=f.bel.size;omega)
end Go.Proofs.YtjdiakhipmggjaaGreatDoor

namespace Go.Proofs.YtjdiakhipmggjaaGreatDoor
open Go.Emb Go.RowKit Go.Kd Go.Hm
variable {w : World} {K : Value → World → Prop} {σ : Q4} {v : Value}
def Q1n:List Cla:=[⟨Z9,[],[],false,false,false,[],[]⟩,⟨V8,Z9,[],false,false,false,[⟨I0,M9,false⟩],[]⟩]
def gMk (n:X0):Cla:=⟨n,V8,[],false,false,true,[],[]⟩
theorem Q5i:R8=Q1n++J1.map gMk:=rfl
theorem Q8a (Q:X4 w σ) (h: ∀y w' g,Stp w σ w' g→V2 w.heap.size T.a 8 U4 g w' y R8→K y w'):Q1 P F.bb [] w K:=Fe (by
 unfold Wr
 refine V1 (cells:= #[S Z9,S [], .slice none 0 0, .bool false, .bool false, .bool false, .slice none 0 0, .slice none 0 0]) (by kernel_rfl) ?_
 refine V1 (cells:= #[S I0,S M9, .bool false]) (by kernel_rfl) ?_
 refine T4 (R:=O4) (sz:=3) Q [.agg #[S I0,S M9, .bool false]] [⟨I0,M9,false⟩] rfl rfl (by simp;rfl) rfl ⟨⟨rfl,by decide,by decide⟩,trivial⟩ fun Z w1 σ1 o i=>?_
 have m:=i
 obtain ⟨E,b,rfl,_⟩:=m
 refine V1 (cells:= #[S V8,S Z9, .slice none 0 0, .bool false, .bool false, .bool false, .slice E 1 b, .slice none 0 0]) (by kernel_rfl) ?_
 refine Xa (R:=U4) (sz:=8) o [.agg #[S Z9,S [], .slice none 0 0, .bool false, .bool false, .bool false, .slice none 0 0, .slice none 0 0], .agg #[S V8,S Z9, .slice none 0 0, .bool false, .bool false, .bool false, .slice E 1 b, .slice none 0 0]]
  Q1n rfl rfl (by simp;exact ⟨rfl,rfl⟩) rfl ⟨⟨_,_,_,rfl,Sl.nil,Sl.nil,Sl.nil,by decide,by decide⟩,⟨_,_,_,rfl,Sl.nil,i,Sl.nil,by decide,by decide⟩,trivial⟩ fun Y w2 q C _=>?_
 refine T4 (R:=J6) (sz:=1) q.sat (J1.map S) J1 rfl rfl (by decide) rfl ⟨⟨rfl,by decide⟩,⟨rfl,by decide⟩,⟨rfl,by decide⟩,⟨rfl,by decide⟩,⟨rfl,by decide⟩,⟨rfl,by decide⟩,trivial⟩ fun X w3 J p k=>?_
 have u:=(o.trans q).trans p
 have O:J1.length=6:=rfl
 refine M3 J1.length (fun n x w'=> ∃g,Stp w σ w' g∧SLe J g∧V2 w.heap.size T.a 8 U4 g w' x (Q1n++(J1.take n).map gMk)) ⟨J,u,SLe.refl _,C.up p⟩ fun n x W d hn l=>?_
 obtain ⟨N,e,f,c⟩:=l
 refine Q9 (k.lift f) ?_
 refine Z1 ?_
 refine Q5 (fun A=>?_) (fun A=>?_)
 ·have a:n<J1.length:=by simpa using A
  have j:=k.lift f
  refine Z4 j a ?_
  obtain ⟨L,H⟩:=j.elS a
  refine X8 e.sat L rfl ?_
  have M:(Q1n++(J1.take n).map gMk).length≤8:=by
   rw[List.length_append,List.length_map,List.length_take,show Q1n.length=2 from rfl];omega
  have r:(J1.take (n+1)).map gMk=(J1.take n).map gMk++[gMk J1[n]]:=by
   rw[List.take_add_one,List.getElem?_eq_getElem a,List.map_append];rfl
  generalize J1[n]=t at H r
  refine V1 (cells:= #[S t,S V8, .slice none 0 0, .bool false, .bool false, .bool true, .slice none 0 0, .slice none 0 0]) (by kernel_rfl) ?_
  have U:U4 N (gMk t) [S t,S V8, .slice none 0 0, .bool false, .bool false, .bool true, .slice none 0 0, .slice none 0 0]:=⟨_,_,_,rfl,Sl.nil,Sl.nil,Sl.nil,H,(by decide:V8.length≤J8)⟩
  refine Zb (x:=gMk t) e c U rfl rfl rfl (by omega) (by omega) fun s y w5 V B D z _=>?_
  refine M7 ?_
  refine Z2 (by omega) a ⟨V,D,f.more B.le,?_⟩
  rw[r,←List.append_assoc];exact z
 ·have a: ¬n<J1.length:=by simpa using A
  rw[List.take_of_length_le (by omega),←Q5i] at c
  exact h _ _ _ e c)
end Go.Proofs.YtjdiakhipmggjaaGreatDoor

namespace Go.Proofs.YtjdiakhipmggjaaGreatDoor
open Go.Emb Go.RowKit Go.Kd Go.Hm
variable {w : World} {K : Value → World → Prop} {σ : Q4}
end Go.Proofs.YtjdiakhipmggjaaGreatDoor

namespace Go.Hm
open Go.Kd
def Edge (l:List Cla) (i j:Nat):Prop:= ∃c,l[i]? =some c∧ ∃u∈J3 c,Y2 l u=some j
inductive Thr (E : Nat → Nat → Prop) (n : Nat) : Nat → Nat → Prop
  | one {i j : Nat} : E i j → Thr E n i j
  | more {i m j : Nat} : E i m → m < n → Thr E n m j → Thr E n i j
theorem Thr.cut {E:Nat→Nat→Prop} {n i j:Nat} (h:Thr E (n+1) i j):Thr E n i j∨(Thr E n i n∧Thr E n n j):=by
 induction h with
 | one h=>exact .inl (.one h)
 | @more i m j d f _ c=>
  by_cases e:m<n
  ·rcases c with c | ⟨a,b⟩
   ·exact .inl (.more d e c)
   ·exact .inr ⟨.more d e a,b⟩
  ·obtain rfl:m=n:=by omega
   rcases c with c | ⟨a,b⟩
   ·exact .inr ⟨.one d,c⟩
   ·exact .inr ⟨.one d,b⟩
theorem Thr.join {E:Nat→Nat→Prop} {n i k j:Nat} (h:Thr E n i k) (a:k<n) (g:Thr E n k j):Thr E n i j:=by
 induction h with
 | one h=>exact .more h a g
 | more c d _ b=>exact .more c d (b a g)
theorem Q2g {l:List Cla} (f:F2 l) {i j:Nat} (d:i<l.length):Edge l i j↔j<l.length∧ ∃u∈J3 l[i],u=Y0 l j∧Y2 l u=some j:=by
 unfold Edge
 rw[List.getElem?_eq_getElem d]
 constructor
 ·rintro ⟨c,e,u,b,a⟩
  cases e
  exact ⟨(H6 a).1,u,b,(H6 a).2.symm,a⟩
 ·rintro ⟨_,u,b,_,a⟩
  exact ⟨_,rfl,u,b,a⟩
theorem Q8C {l:List Cla} (b:F2 l) {i:Nat} (a:i<l.length):lk l (Y0 l i)=some l[i]:=by
 have:=Qh b a
 rwa [List.getD_eq_getElem?_getD,List.getElem?_eq_getElem a] at this
theorem Q8N {l:List Cla} (a:F2 l) {i j:Nat} (b:i<l.length) (h:Thr (Edge l) l.length i j):j<l.length∧Uf (lk l) (Y0 l i) (Y0 l j):=by
 induction h with
 | one h=>
  obtain ⟨f,u,e,d,g⟩:=(Q2g a b).1 h
  obtain ⟨c,o,_⟩:=Zt g
  refine ⟨f,_,Q8C a b,u,e,?_⟩
  subst d;exact .refl o
 | more f p _ k=>
  obtain ⟨m,n⟩:=k p
  obtain ⟨_,u,e,d,g⟩:=(Q2g a b).1 f
  refine ⟨m,_,Q8C a b,u,e,?_⟩
  subst d;exact n.reach
theorem Q7M {l:List Cla} (w:F2 l) {a b:X0} (h:Hm.Reach (lk l) a b): ∀i j,Y2 l a=some i→Y2 l b=some j→i=j∨Thr (Edge l) l.length i j:=by
 induction h with
 | refl _=>
  intro i j m f;rw[m] at f;cases f;exact .inl rfl
 | step q p v s=>
  rename_i a u b c
  intro i j m f
  obtain ⟨d,r⟩:=v.left
  obtain ⟨_,_,k,g,t⟩:=U8 r
  obtain ⟨y,e,n,_⟩:=Zt m
  rw[q] at e;cases e
  have o:Edge l i k:=⟨c,n,u,p,g⟩
  rcases s k j g f with rfl | hT
  ·exact .inr (.one o)
  ·exact .inr (.more o (H6 g).1 hT)
theorem Q8j {l:List Cla} (e:F2 l) {i j:Nat} (m:i<l.length) (f:j<l.length) (h:Uf (lk l) (Y0 l i) (Y0 l j)):Thr (Edge l) l.length i j:=by
 obtain ⟨c,n,u,p,o⟩:=h
 rw[Q8C e m] at n;cases n
 obtain ⟨d,q⟩:=o.left
 obtain ⟨_,_,k,a,r⟩:=U8 q
 have g:Edge l i k:=⟨_,List.getElem?_eq_getElem m,u,p,a⟩
 have b:Y2 l (Y0 l j)=some j:=by
  have:=e.find (List.getElem?_eq_getElem f)
  unfold Y0
  rw[List.getD_eq_getElem?_getD,List.getElem?_eq_getElem f];exact this
 rcases Q7M e o k j a b with rfl | hT
 ·exact .one g
 ·exact .more g (H6 a).1 hT
theorem Q9P {l:List Cla} (a:F2 l) {i j:Nat} (b:i<l.length) (c:j<l.length):Thr (Edge l) l.length i j↔Zo l (Y0 l i) (Y0 l j)=true:=by
 rw[Ux]
 exact ⟨fun h=>(Q8N a b h).2,Q8j a b c⟩
def Xb (l:List Cla):List (List Bool):=(List.range l.length).map fun i=>(List.range l.length).map fun j=>Zo l (Y0 l i) (Y0 l j)
def Rh (m:Nat→Nat→Bool) (i j:Nat) (b:Bool):Nat→Nat→Bool:=fun x y=>if x=i∧y=j then b else m x y
structure Clos (E : Nat → Nat → Prop) (n k i j : Nat) (m : Nat → Nat → Bool) : Prop where
  sound : ∀ a b, m a b = true → Thr E n a b
  full : ∀ a b, a < n → b < n → Thr E k a b → m a b = true
  done : ∀ a b, a < n → b < n → (a < i ∨ (a = i ∧ b < j)) → Thr E (k + 1) a b → m a b = true
theorem Clos.next {E:Nat→Nat→Prop} {n k i j:Nat} {m:Nat→Nat→Bool} (h:Clos E n k i j m) (o:k<n) (t:i<n) (s:j<n):Clos E n k i (j+1) (Rh m i j (m i j||(m i k&&m k j))):=by
 have f: ∀a b,m a b=true→Rh m i j (m i j||(m i k&&m k j)) a b=true:=by
  intro a b c
  unfold Rh
  split
  ·rename_i e;rw[←e.1,←e.2,c];rfl
  ·exact c
 refine ⟨fun a b c=>?_,fun a b q p g=>f a b (h.full a b q p g),fun a b q p r g=>?_⟩
 ·unfold Rh at c
  split at c
  ·rename_i e
   obtain ⟨rfl,rfl⟩:=e
   simp only[Bool.or_eq_true,Bool.and_eq_true] at c
   rcases c with d | ⟨d,l⟩
   ·exact h.sound _ _ d
   ·exact (h.sound _ _ d).join o (h.sound _ _ l)
  ·exact h.sound _ _ c
 ·by_cases e:a=i∧b=j
  ·obtain ⟨rfl,rfl⟩:=e
   unfold Rh
   rw[if_pos ⟨rfl,rfl⟩]
   rcases g.cut with d | ⟨d,l⟩
   ·rw[h.full _ _ t s d];rfl
   ·rw[h.full _ _ t o d,h.full _ _ o s l];simp
  ·refine f a b (h.done a b q p ?_ g)
   rcases r with d | ⟨d,l⟩
   ·exact .inl d
   ·right;refine ⟨d,?_⟩
    have:b≠j:=fun u=>e ⟨d,u⟩
    omega
theorem Clos.row {E:Nat→Nat→Prop} {n k i:Nat} {m:Nat→Nat→Bool} (h:Clos E n k i n m):Clos E n k (i+1) 0 m:=
 ⟨h.sound,h.full,fun a b c d f e=>h.done a b c d (by omega) e⟩
theorem Clos.round {E:Nat→Nat→Prop} {n k:Nat} {m:Nat→Nat→Bool} (h:Clos E n k n 0 m):Clos E n (k+1) 0 0 m:=
 ⟨h.sound,fun a b c e d=>h.done a b c e (.inl c) d,fun a b c e f d=>by omega⟩
theorem Clos.start {E:Nat→Nat→Prop} {n:Nat} {m:Nat→Nat→Bool} (h: ∀a b,a<n→(m a b=true↔E a b)) (g: ∀a b,n≤a→m a b=false):Clos E n 0 0 0 m:=by
 refine ⟨fun a b c=>?_,fun a b d i f=>?_,fun a b d i j f=>by omega⟩
 ·by_cases d:a<n
  ·exact .one ((h a b d).1 c)
  ·rw[g a b (by omega)] at c;cases c
 ·cases f with
  | one e=>exact (h a b d).2 e
  | more _ k _=>omega
theorem Clos.all {l:List Cla} (c:F2 l) {m:Nat→Nat→Bool} (h:Clos (Edge l) l.length l.length 0 0 m) {i j:Nat} (b:i<l.length) (a:j<l.length):m i j=Zo l (Y0 l i) (Y0 l j):=by
 rw[Bool.eq_iff_iff,←Q9P c b a]
 exact ⟨h.sound i j,h.full i j b a⟩
end Go.Hm

namespace Go.Emb
open Go.RowKit Go.Hm
variable {P : Program} {w w0 w1 w' w'' : World} {K : Value → World → Prop} {σ σ0 σ1 σ' : Q4}
theorem X19 {t e:TypeId} {c n:Nat} {z:Value} [ts:TS P t e] [tz:TZ P e 1 c z] (j:X4 w σ) (k:z.cells= #[z]) (p:n≤1000000) (o:c*n≤281474976710656)
 (h: ∀b w',w.heap.size≤b→Stp w σ w' σ→J0 σ w' b (List.replicate n z)→K (.slice (some ⟨b,0,none⟩) n n) w'):Uy P t (I n) (I n) w K:=by
 obtain ⟨i,l,d,f,a⟩:=tz.info
 have g:(i.bytes:Int)*(n:Int)≤281474976710656:=by
  rw[f]
  have:((c*n:Nat):Int)≤281474976710656:=by omega
  rwa [Int.natCast_mul] at this
 have m:=run_makeSlice (P:=P) w t e i z ts.h l a .i64 .i64 (n:Int) (n:Int) (by omega) (Int.le_refl _) (by rw[d];simp only[Int.toNat_natCast];omega) g (by omega)
 unfold Uy
 rw[X7 m]
 simp only[Int.toNat_natCast,d,Nat.mul_one]
 refine h _ _ (Nat.le_refl _) (Stp.own j _) ⟨j.none (Nat.le_refl _),e,?_⟩
 rw[heap_alloc_new,k]
 have:madeCells #[z] n=(List.replicate n z).toArray:=by rw[←toList_madeCells_one,Array.toArray_toList]
 rw[this]
def Q4y (n:Nat) (_:Q4) (b:Nat) (cs:List Value):Prop:=cs=[.slice (some ⟨b,0,none⟩) n n]
instance (n:Nat):Rep (Q4y n):=⟨fun _ h=>h,fun h u hu=>by rw[h] at hu;simp at hu;subst hu;rfl⟩
def Q7o (σ:Q4) (xs:List Bool) (cs:List Value):Prop:= ∃v,cs=[v]∧Sl 1 Q6D σ v xs
instance:Rep Q7o:=⟨fun k h=>by obtain ⟨v,h1,h2⟩:=h;exact ⟨v,h1,h2.le k⟩,fun h u hu=>by
 obtain ⟨v,rfl,a,cap,rfl,_⟩:=h
 simp at hu;subst hu;rfl⟩
def bools (n:Nat) (f:Nat→Bool):List Value:=(List.range n).map fun j=> .bool (f j)
theorem Pf {n:Nat} {f:Nat→Bool}:(bools n f).length=n:=by simp[bools]
theorem Q2y {n j:Nat} {f:Nat→Bool} (h:j<n):(bools n f)[j]? =some (.bool (f j)):=by simp[bools,h]
theorem Q2I {n j:Nat} {f:Nat→Bool} {b:Bool}:(bools n f).set j (.bool b)=bools n (fun x=>if x=j then b else f x):=by
 apply List.ext_getElem?
 intro k
 rw[List.getElem?_set]
 by_cases a:k<n
 ·by_cases e:j=k
  ·subst e;simp[bools,a]
  ·have c: ¬k=j:=fun h=>e h.symm
   simp[bools,a,e,c]
 ·simp[bools,a]
  intro e;omega
theorem Q5g {n:Nat}:List.replicate n (Value.bool false)=bools n fun _=>false:=by
 apply List.ext_getElem?
 intro k
 by_cases a:k<n<;>simp[bools,a]
def P6 (σ:Q4) (w:World) (a:List Nat) (n:Nat) (m:Nat→Nat→Bool):Prop:=a.Nodup∧ ∀i (h:i<a.length),J0 σ w a[i] (bools n (m i))
theorem P6.up {a:List Nat} {n:Nat} {m:Nat→Nat→Bool} (h:P6 σ w a n m) (k:Stp w σ w' σ'):P6 σ' w' a n m:=⟨h.1,fun i b=>(h.2 i b).up k⟩
theorem P6.kp {a:List Nat} {n:Nat} {m:Nat→Nat→Bool} {D:Nat→Prop} (h:P6 σ w a n m) (k:Kpt D w w') (d: ∀b∈a,¬D b):P6 σ w' a n m:=⟨h.1,fun i c=>(h.2 i c).kp k (d _ (List.getElem_mem c))⟩
theorem P6.lt {a:List Nat} {n:Nat} {m:Nat→Nat→Bool} (h:P6 σ w a n m) {b:Nat} (d:b∈a):b<w.heap.size∧σ b=none:=by
 obtain ⟨i,c,rfl⟩:=List.getElem_of_mem d
 exact ⟨(h.2 i c).lt,(h.2 i c).1⟩
theorem P6.snoc {d:List Nat} {n b:Nat} {m:Nat→Nat→Bool} {f:Nat→Bool} (h:P6 σ w d n m) (l:b∉d) (o:J0 σ w b (bools n f)):P6 σ w (d++[b]) n (fun x=>if x=d.length then f else m x):=by
 refine ⟨by rw[List.nodup_append];exact ⟨h.1,by simp,fun a k c g e=>by simp at g;subst g;subst e;exact l k⟩,fun i p=>?_⟩
 rw[List.length_append,List.length_singleton] at p
 by_cases j:i<d.length
 ·rw[List.getElem_append_left j]
  simp only[if_neg (show¬i=d.length by omega)]
  exact h.2 i j
 ·obtain rfl:i=d.length:=by omega
  simp only[List.getElem_concat_length,if_true]
  exact o
theorem P6.congr {a:List Nat} {n:Nat} {m m':Nat→Nat→Bool} (h:P6 σ w a n m) (c: ∀i,i<a.length→m i=m' i):P6 σ w a n m':=⟨h.1,fun i b=>c i b▸h.2 i b⟩
theorem P6.keep {a:List Nat} {n:Nat} {m:Nat→Nat→Bool} (V:0<n) (s:n≤1000000): ∀{σ:Q4},P6 σ w a n m→Stp w0 σ0 w σ→(∀b∈a,w0.heap.size≤b)→ ∃σ',Stp w0 σ0 w σ'∧SLe σ σ'∧ ∀i (h:i<a.length),Sl 1 Q6D σ' (.slice (some ⟨a[i],0,none⟩) n n) ((List.range n).map (m i)):=by
 intro σ h Q C
 have key: ∀k,k≤a.length→ ∃σ',Stp w0 σ0 w σ'∧SLe σ σ'∧(∀i (h:i<a.length),i<k→Z3 σ' ⟨a[i],0,none⟩ (bools n (m i)))∧ ∀i (h:i<a.length),k≤i→σ' a[i]=none:=by
  intro k
  induction k with
  | zero=>intro _;exact ⟨σ,Q,SLe.refl _,fun i _ h=>by omega,fun i c _=>(h.2 i c).1⟩
  | succ k H=>
   intro R
   obtain ⟨σ1,o,l,f,u⟩:=H (by omega)
   have d:k<a.length:=by omega
   have z:J0 σ1 w a[k] (bools n (m k)):=⟨u k d (Nat.le_refl _),(h.2 k d).2⟩
   obtain ⟨B,M,D,t,L⟩:=z.keep o (C _ (List.getElem_mem d))
   refine ⟨B,M,l.more ⟨t⟩,fun i c N=>?_,fun i c A=>?_⟩
   ·by_cases e:i=k
    ·subst e;exact D
    ·exact (f i c (by omega)).le t
   ·rw[L]
    ·exact u i c (by omega)
    ·intro e
     have:=List.nodup_iff_pairwise_ne.1 h.1
     rw[List.pairwise_iff_getElem] at this
     exact this k i d c (by omega) e.symm
 obtain ⟨σ1,o,l,f,_⟩:=key a.length (Nat.le_refl _)
 refine ⟨σ1,o,l,fun i c=>⟨some ⟨a[i],0,none⟩,n,by simp,by simp,by simp only[maxLen];omega,fun e=>(by cases e),?_⟩⟩
 intro b y
 obtain rfl:=Option.some.inj y
 refine ⟨fun _=>rfl,fun j x q=>?_⟩
 have r:j<n:=by have:=(List.getElem?_eq_some_iff.1 q).1;simpa using this
 obtain ⟨U,arr,e,J,O,E⟩:=f i c c
 have g:x=m i j:=by simp[r] at q;exact q.symm
 refine ⟨[.bool x],⟨F5 rfl _,arr,e,J,by rw[C9];exact O,fun k v p=>?_⟩,rfl,rfl⟩
 obtain rfl:k=0:=by cases k with
  | zero=>rfl
  | succ k=>simp at p
 simp at p
 rw[Zn,←p,g]
 have:=E j _ (Q2y r)
 simpa using this
end Go.Emb

namespace Go.Emb
open Go.RowKit Go.Hm
variable {P : Program} {w w0 w1 w' w'' : World} {K : Value → World → Prop} {σ σ0 σ1 σ' : Q4}
theorem Ab {t e:TypeId} {sz b:Nat} {z:Value} [ts:TS P t e] [tz:TZ P e sz b z] {a:Addr} {n c i:Nat} (f:i<n) (d:K (.pointer (some (a.add (i*sz)))) w):indexAddr P t (.slice (some a) n c) (I i) w K:=by
 rw[Sw (by omega) (by omega)]
 simpa using d
theorem P6.nx {D:Nat→Prop} {a:List Nat} {n:Nat} {m:Nat→Nat→Bool} (h:P6 σ w a n m) (k:Nxt D w σ w' σ') (d: ∀b∈a,¬D b):P6 σ' w' a n m:=
 ⟨h.1,fun i c=>(h.2 i c).nx k (d _ (List.getElem_mem c))⟩
theorem P6.set {a:List Nat} {n i j:Nat} {b:Bool} {m:Nat→Nat→Bool} (h:P6 σ w a n m) (f:i<a.length) (o:Upd w a[i] w') (d:J0 σ w' a[i] ((bools n (m i)).set j (.bool b))):P6 σ w' a n (Rh m i j b):=by
 refine ⟨h.1,fun k c=>?_⟩
 by_cases e:k=i
 ·subst e
  rw[Q2I] at d
  have:Rh m k j b k=fun x=>if x=j then b else m k x:=by funext x;simp[Rh]
  rw[this];exact d
 ·have:Rh m i j b k=m k:=by funext x;simp[Rh,e]
  rw[this]
  refine (h.2 k c).upd o fun g=>e ?_
  rcases Nat.lt_trichotomy k i with hlt | hlt | hlt
  ·have:=List.nodup_iff_pairwise_ne.1 h.1
   rw[List.pairwise_iff_getElem] at this
   exact absurd g (this k i c f hlt)
  ·exact hlt
  ·have:=List.nodup_iff_pairwise_ne.1 h.1
   rw[List.pairwise_iff_getElem] at this
   exact absurd g.symm (this i k f c hlt)
end Go.Emb
namespace Go.Proofs.YtjdiakhipmggjaaGreatDoor
open Go.Emb Go.RowKit Go.Kd Go.Hm
variable {w : World} {K : Value → World → Prop} {σ : Q4} {l : List Cla} {v : Value}
def Wo (l:List Cla) (i j:Nat):Bool:=match l[i]? with
 | none=>false
 | some c=>(J3 c).any fun u=>decide (Y2 l u=some j)
theorem Q7Q (l:List Cla) (i j:Nat):Wo l i j=true↔Hm.Edge l i j:=by
 unfold Wo Hm.Edge
 cases h:l[i]? with
 | none=>simp
 | some c=>simp[List.any_eq_true]
theorem Q7e {l:List Cla} {i j:Nat} (h:l.length≤i):Wo l i j=false:=by
 unfold Wo
 rw[List.getElem?_eq_none h]
set_option maxHeartbeats 4000000 in
theorem Q2x (hs:X4 w σ) (hl:Sl 8 U4 σ v l) (ho:F2 l) (hpos:0<l.length) (hlen:l.length≤1000) (hsm: ∀c∈l,K5 c)
 (h: ∀v' w' σ',Stp w σ w' σ'→Sl 1 Q7o σ' v' (Xb l)→K v' w'):Q1 P F.aA [v] w K:=Fu (by
 unfold Wq
 refine Kv (R:=Q4y l.length) (e:=T.a4) (Stp.refl hs) (by decide) fun x0 w1 hk1 ha1 _=>?_
 refine M3 l.length (fun n x w'=> ∃σ' bs,Stp w σ w' σ'∧V2 w.heap.size T.a4 1 (Q4y l.length) σ' w' x bs∧P6 σ' w' bs l.length (Wo l)∧bs.length=n∧ ∀b∈bs,w.heap.size≤b∧x.ownBlock≠some b) ⟨σ,[],hk1,ha1,⟨List.nodup_nil,by simp⟩,rfl,by simp⟩ fun n x w2 d hn hinv=>?_
 obtain ⟨σ2,bs,hS2,ha2,hM2,hbl,hb2⟩:=hinv
 refine Q9 (hl.up hS2) ?_
 refine Z1 ?_
 refine Q5 (fun hc=>?_) (fun hc=>?_)
 ·have hn':n<l.length:=by simpa using hc
  have hl2:=hl.up hS2
  refine Q9 hl2 ?_
  refine X19 hS2.sat rfl (by omega) (by omega) fun b w3 hb3 hk3 hm3=>?_
  rw[Q5g] at hm3
  obtain ⟨lv,fv,mv,p1,r1⟩:=hl2.elC hn'
  obtain ⟨g1,_,_,g4,g5⟩:=r1.parts
  have hsmc:=hsm _ (List.getElem_mem hn')
  have hs3:=hk3.sat
  refine U6 hs3 ?_
  (repeat refine V7 Xc ?_)
  refine Q23 (w:=w3) (σ:=σ2) (R:=J6) (sz:=1) (e:=T.b) [l[n].super] (fun t w hb e=>?_) ?_
  ·subst e;exact Xa hb.stp [_] [l[n].super] rfl rfl (by simp;rfl) rfl ⟨⟨rfl,g5⟩,trivial⟩ fun v' w' hk ha _=>Q3K hb hk ha
  (repeat refine V7 Xc ?_)
  rintro t24 t25 t30 t31 t26 t27 t32 w4 hb4 rfl rfl rfl rfl rfl ⟨f27,a27⟩ rfl
  refine Oy f27 a27 g1 rfl (by simp;have:=hsmc.1;omega) (by simp;have:=hsmc.1;omega) fun v5 w5 hn5 hS5 ha5 hat5=>?_
  obtain ⟨σ6,hS6,hv6,le6,_⟩:=ha5.keep hS5
  have hv6:Sl 1 J6 σ6 v5 (J3 l[n]):=hv6
  have hb3w:w.heap.size≤b:=Nat.le_trans hS2.bel.size hb3
  have hm6:=hm3.up hS6
  have ha6:=(ha2.up hk3).up hS6
  have hM6:=(hM2.up hk3).up hS6
  have hS26:=(hS2.trans hk3).trans hS6
  have hxb: ∀k,x.ownBlock=some k→k≠b:=fun k e=>by have:=(ha2.mem k e).2.1;omega
  have hbbs:b∉bs:=fun e=>by have:=(hM2.lt e).1;omega
  clear hm3 ha2 hM2 hS6 hS5 ha5 a27 f27 hn5 hat5
  refine U3 (J3 l[n]).length (fun k w'=>Stp w σ w' σ6∧V2 w.heap.size T.a4 1 (Q4y l.length) σ6 w' x bs∧P6 σ6 w' bs l.length (Wo l)∧J0 σ6 w' b (bools l.length fun j=>((J3 l[n]).take k).any fun u=>decide (Y2 l u=some j)))
   ⟨hS26,ha6,hM6,hm6⟩ fun k w7 d7 hk hinv=>?_
  obtain ⟨hS7,ha7,hM7,hm7⟩:=hinv
  refine Q9 hv6 ?_
  refine Z1 ?_
  refine Q5 (fun hc=>?_) (fun hc=>?_)
  ·have hk':k<(J3 l[n]).length:=by simpa using hc
   refine U9 ?_
   refine Z4 hv6 hk' ?_
   obtain ⟨p2,p3⟩:=hv6.elS hk'
   refine X8 hS7.sat p2 rfl ?_
   refine P2 hS7.sat (hl.up hS7) ?_
   refine Xx ?_
   rw[Zu]
   have hnx: ∀f:Nat→Bool,(∀j,f j=(((J3 l[n]).take k).any (fun u=>decide (Y2 l u=some j))||decide (Y2 l (J3 l[n])[k]=some j)))→f=fun j=>((J3 l[n]).take (k+1)).any fun u=>decide (Y2 l u=some j):=by
    intro f hf;funext j;rw[hf,L6 hk']
   cases hfc:Y2 l (J3 l[n])[k] with
   | none=>
    simp only[Option.isSome_none,↓M1,M1,Mb,reduceIte]
    intro d
    refine Y3 hv6.max hk' ⟨hS7,ha7,hM7,?_⟩
    rw[←hnx (fun j=>((J3 l[n]).take k).any fun u=>decide (Y2 l u=some j)) (fun j=>by rw[hfc];simp)]
    exact hm7
   | some j=>
    have hj:=(H6 hfc).1
    simp only[Option.isSome_some,W0,↓M1,M1,Mb,reduceIte]
    refine Ab hj ?_
    rw[Nat.mul_one]
    refine Ce hm7 (by rw[Pf];exact hj) (by rfl) (by rfl) fun w8 u8 hm8=>?_
    intro d
    rw[Q2I] at hm8
    refine Y3 hv6.max hk' ⟨u8.stp hS7 hb3w hm7.1,ha7.kp (D:=(· =b)) (.of_upd u8 rfl) hxb,hM7.kp (D:=(· =b)) (.of_upd u8 rfl) (fun c hc e=>hbbs (e▸hc)),?_⟩
    rw[←hnx (fun x=>if x=j then true else _) (fun i=>?_)]
    ·exact hm8
    ·rw[hfc]
     by_cases e:i=j
     ·subst e;simp
     ·have: ¬j=i:=fun e'=>e e'.symm
      simp[e,this]
  ·have hk': ¬k<(J3 l[n]).length:=by simpa using hc
   have hk0:k=(J3 l[n]).length:=by omega
   subst hk0
   rw[List.take_of_length_le (Nat.le_refl _)] at hm7
   have hef:(fun j=>(J3 l[n]).any fun u=>decide (Y2 l u=some j))=Wo l n:=by
    funext j;unfold Wo;rw[List.getElem?_eq_getElem hn']
   rw[hef] at hm7
   have hM8:=(hM7.snoc hbbs hm7).congr (m':=Wo l) (fun i _=>by
    by_cases e:i=bs.length
    ·rw[if_pos e,e,hbl]
    ·rw[if_neg e])
   refine Zb (R:=Q4y l.length) (x:=b) hS7 ha7 rfl rfl rfl rfl (by omega) (by omega) fun s v' w9 σ9 hnx hS9 ha9 hat=>?_
   have hdis: ∀c∈bs++[b],w.heap.size≤c∧x.ownBlock≠some c:=by
    intro c hc
    rcases List.mem_append.1 hc with hc | hc
    ·exact hb2 c hc
    ·simp at hc;subst hc;exact ⟨hb3w,fun e=>hxb _ e rfl⟩
   have hlt9: ∀c∈bs++[b],c<w7.heap.size:=fun c hc=>(hM8.lt hc).1
   refine M7 ?_
   refine Z2 (by omega) hn' ⟨σ9,bs++[b],hS9,ha9,hM8.nx hnx (fun c hc=>(hdis c hc).2),by rw[List.length_append,hbl];rfl,fun c hc=>⟨(hdis c hc).1,fun e=>?_⟩⟩
   rcases hat with hat | hat
   ·exact (hdis c hc).2 (hat▸e)
   ·have:=hat c e;have:=hlt9 c hc;omega
 ·have hn0:n=l.length:=by
   have: ¬n<l.length:=by simpa using hc
   omega
  obtain ⟨σ8,hS8,hv8,le8,old8⟩:=ha2.keep hS2
  have hlb:bs.length=l.length:=by omega
  have hM8:P6 σ8 w2 bs l.length (Wo l):=⟨hM2.1,fun i hi=>⟨(old8 _ (fun e=>(hb2 _ (List.getElem_mem hi)).2 e.symm)).trans (hM2.2 i hi).1,(hM2.2 i hi).2⟩⟩
  have hpx: ∀i (hi:i<bs.length),Z3 σ8 (Gj 1 x i) [.slice (some ⟨bs[i],0,none⟩) l.length l.length]:=fun i hi=>by
   obtain ⟨cs,h1,_,h2⟩:=hv8.el hi
   have h2:cs=_:=h2
   subst h2;exact h1
  clear ha2 hM2 hS2 le8 old8
  refine U3 l.length (fun k w'=> ∃m,Stp w σ w' σ8∧P6 σ8 w' bs l.length m∧Clos (Hm.Edge l) l.length k 0 0 m) ⟨Wo l,hS8,hM8,Clos.start (fun a b _=>Q7Q l a b) (fun a b h=>Q7e h)⟩ fun k w3 d3 hk3 hinv=>?_
  obtain ⟨m3,hS3,hM3,hC3⟩:=hinv
  refine Q9 (hl.up hS3) ?_
  refine Z1 ?_
  refine Q5 (fun hc=>?_) (fun hc=>?_)
  ·have hk':k<l.length:=by simpa using hc
   refine U3 l.length (fun i w'=> ∃m,Stp w σ w' σ8∧P6 σ8 w' bs l.length m∧Clos (Hm.Edge l) l.length k i 0 m) ⟨m3,hS3,hM3,hC3⟩ fun i w4 d4 hi4 hinv=>?_
   obtain ⟨m4,hS4,hM4,hC4⟩:=hinv
   refine Q9 (hl.up hS4) ?_
   refine Z1 ?_
   refine Q5 (fun hc=>?_) (fun hc=>?_)
   ·have hi':i<l.length:=by simpa using hc
    refine U3 l.length (fun j w'=> ∃m,Stp w σ w' σ8∧P6 σ8 w' bs l.length m∧Clos (Hm.Edge l) l.length k i j m) ⟨m4,hS4,hM4,hC4⟩ fun j w5 d5 hj5 hinv=>?_
    obtain ⟨m5,hS5,hM5,hC5⟩:=hinv
    refine Q9 (hl.up hS5) ?_
    refine Z1 ?_
    refine Q5 (fun hc=>?_) (fun hc=>?_)
    ·have hj':j<l.length:=by simpa using hc
     have hi6:i<bs.length:=by omega
     have hk6:k<bs.length:=by omega
     have px_i:=hpx i hi6
     have px_k:=hpx k hk6
     have hrd: ∀{w':World} {K:Value→World→Prop} {a b:Nat} {ha:a<bs.length},Hst w5 σ8 w' σ8→b<l.length→K (.bool (m5 a b)) w'→Q2 P T.q (.pointer (some ((⟨bs[a],0,none⟩:Addr).add (b*1)))) w' K:=fun hst hb hK=>by
      rw[Nat.mul_one]
      exact T7 (((hM5.up hst.stp).2 _ _).cell (Q2y hb)) hK
     refine U6 hS5.sat ?_
     (repeat (apply V7;(· intros;(repeat (rename_i hx;subst hx));(repeat' (first | (with_reducible exact H9 rfl) | (with_reducible exact F4 (Stp.bel (by (repeat (first | exact Stp.refl (by (first | assumption | exact Stp.sat (by assumption) | exact Hst.sat (by assumption))) | assumption | refine Stp.trans ?_ (by first | assumption | exact Hst.stp (by assumption)))))) rfl) | (with_reducible intro _) | (simp only[↓M2,M2,Mb,reduceIte]) | (with_reducible refine Ab au ?_) | (with_reducible refine hrd au au ?_) | (with_reducible show Q2 _ _ _ _ _;first | refine X8 aS aL aR ?_ | refine Y4 aS aL aR ?_ | refine ld aS aL aR ?_) | (with_reducible show indexAddr _ _ _ _ _ _;refine Z4 aL au ?_) | (with_reducible show X6 _ _ _ _ _ _ _ _;refine Q9 aL ?_) | (with_reducible show Yy _ _ _ _ _ _;refine U0 aR ?_) | (with_reducible show pick _ _ _ _ _ _;refine G7 ?_) | (apply T8;intro hh;(try simp only[hh,reduceIte,↓M2,M2,Mb,reduceIte]))));done)))
     cases h1:m5 i j
     ·simp only[reduceIte]
      (repeat (apply V7;(· intros;(repeat (rename_i hx;subst hx));(repeat' (first | (with_reducible exact H9 rfl) | (with_reducible exact F4 (Stp.bel (by (repeat (first | exact Stp.refl (by (first | assumption | exact Stp.sat (by assumption) | exact Hst.sat (by assumption))) | assumption | refine Stp.trans ?_ (by first | assumption | exact Hst.stp (by assumption)))))) rfl) | (with_reducible intro _) | (simp only[↓M2,M2,Mb,reduceIte]) | (with_reducible refine Ab au ?_) | (with_reducible refine hrd au au ?_) | (with_reducible show Q2 _ _ _ _ _;first | refine X8 aS aL aR ?_ | refine Y4 aS aL aR ?_ | refine ld aS aL aR ?_) | (with_reducible show indexAddr _ _ _ _ _ _;refine Z4 aL au ?_) | (with_reducible show X6 _ _ _ _ _ _ _ _;refine Q9 aL ?_) | (with_reducible show Yy _ _ _ _ _ _;refine U0 aR ?_) | (with_reducible show pick _ _ _ _ _ _;refine G7 ?_) | (apply T8;intro hh;(try simp only[hh,reduceIte,↓M2,M2,Mb,reduceIte]))));done)))
      (intros;(repeat (rename_i hx;subst hx));(try simp only[↓M2,M2,Mb,reduceIte]))
      rename_i w6 hb6
      refine Ab hj' ?_
      rw[Nat.mul_one]
      refine Eq.subst (motive:=fun V=>Z6 P T.q (.pointer (some ((⟨bs[i],0,none⟩:Addr).add j))) V w6 _) (show Value.bool (m5 i j||(m5 i k&&m5 k j))=_ from by cases h2:m5 i k<;>simp[h1,h2]) ?_
      refine Ce ((hM5.up hb6.stp).2 i hi6) (by rw[Pf];exact hj') (by rfl) (by rfl) fun w7 u7 hm7=>?_
      (try simp only[↓M1,M1,Mb,reduceIte])
      exact Y3 (by omega) hj' ⟨_,u7.stp (hS5.trans hb6.stp) (hb2 _ (List.getElem_mem hi6)).1 hm7.1,(hM5.up hb6.stp).set hi6 u7 hm7,hC5.next hk' hi' hj'⟩
     ·simp only[Bool.true_eq_false,reduceIte]
      (repeat (apply V7;(· intros;(repeat (rename_i hx;subst hx));(repeat' (first | (with_reducible exact H9 rfl) | (with_reducible exact F4 (Stp.bel (by (repeat (first | exact Stp.refl (by (first | assumption | exact Stp.sat (by assumption) | exact Hst.sat (by assumption))) | assumption | refine Stp.trans ?_ (by first | assumption | exact Hst.stp (by assumption)))))) rfl) | (with_reducible intro _) | (simp only[↓M2,M2,Mb,reduceIte]) | (with_reducible refine Ab au ?_) | (with_reducible refine hrd au au ?_) | (with_reducible show Q2 _ _ _ _ _;first | refine X8 aS aL aR ?_ | refine Y4 aS aL aR ?_ | refine ld aS aL aR ?_) | (with_reducible show indexAddr _ _ _ _ _ _;refine Z4 aL au ?_) | (with_reducible show X6 _ _ _ _ _ _ _ _;refine Q9 aL ?_) | (with_reducible show Yy _ _ _ _ _ _;refine U0 aR ?_) | (with_reducible show pick _ _ _ _ _ _;refine G7 ?_) | (apply T8;intro hh;(try simp only[hh,reduceIte,↓M2,M2,Mb,reduceIte]))));done)))
      (intros;(repeat (rename_i hx;subst hx));(try simp only[↓M2,M2,Mb,reduceIte]))
      rename_i w6 hb6
      refine Ab hj' ?_
      rw[Nat.mul_one]
      refine Eq.subst (motive:=fun V=>Z6 P T.q (.pointer (some ((⟨bs[i],0,none⟩:Addr).add j))) V w6 _) (show Value.bool (m5 i j||(m5 i k&&m5 k j))=_ from by simp[h1]) ?_
      refine Ce ((hM5.up hb6.stp).2 i hi6) (by rw[Pf];exact hj') (by rfl) (by rfl) fun w7 u7 hm7=>?_
      (try simp only[↓M1,M1,Mb,reduceIte])
      exact Y3 (by omega) hj' ⟨_,u7.stp (hS5.trans hb6.stp) (hb2 _ (List.getElem_mem hi6)).1 hm7.1,(hM5.up hb6.stp).set hi6 u7 hm7,hC5.next hk' hi' hj'⟩
    ·have hj0:j=l.length:=by
      have: ¬j<l.length:=by simpa using hc
      omega
     subst hj0
     refine M7 ?_
     exact Y3 (by omega) hi' ⟨m5,hS5,hM5,hC5.row⟩
   ·have hi0:i=l.length:=by
     have: ¬i<l.length:=by simpa using hc
     omega
    subst hi0
    refine M7 ?_
    exact Y3 (by omega) hk' ⟨m4,hS4,hM4,hC4.round⟩
  ·have hk0:k=l.length:=by
    have: ¬k<l.length:=by simpa using hc
    omega
   subst hk0
   obtain ⟨σ9,hS9,le9,hrows⟩:=hM3.keep hpos (by omega) hS3 (fun b hb=>(hb2 b hb).1)
   refine h _ _ _ hS9 ((hv8.lift le9).conv (by simp[Xb,hlb]) fun i hi hj cs hcs=>?_)
   have hcs:cs=_:=hcs
   subst hcs
   refine ⟨_,rfl,?_⟩
   have:=hrows i hi
   have he:(Xb l)[i]=(List.range l.length).map (m3 i):=by
    have hi':i<l.length:=by omega
    simp only[Xb,List.getElem_map,List.getElem_range]
    apply List.map_congr_left
    intro j hj
    exact (Clos.all ho hC3 hi' (by simpa using hj)).symm
   rw[he];exact this)
end Go.Proofs.YtjdiakhipmggjaaGreatDoor

namespace Go.Emb
open Go.RowKit Go.Hm
end Go.Emb
namespace Go.Hm
end Go.Hm
namespace Go.Proofs.YtjdiakhipmggjaaGreatDoor
open Go.Emb Go.RowKit Go.Kd Go.Hm
variable {w : World} {K : Value → World → Prop} {σ : Q4} {l : List Cla}
end Go.Proofs.YtjdiakhipmggjaaGreatDoor

namespace Go.Emb
open Go.RowKit Go.Hm
variable {w w0 w1 w' w'' : World} {σ σ0 σ1 σ2 σ' : Q4}
theorem Stp.weak (h:Stp w σ1 w' σ2) (a: ∀b o,σ b=some o→σ1 b=some o):Stp w σ w' σ:=
 ⟨h.bel,fun b o e=>h.sat b o (h.le b o (a b o e)),fun _ _ e=>e,fun _ _=>rfl⟩
end Go.Emb
namespace Go.Proofs.YtjdiakhipmggjaaGreatDoor
open Go.Emb Go.RowKit Go.Kd Go.Hm
variable {w : World} {K : Value → World → Prop} {σ : Q4}
end Go.Proofs.YtjdiakhipmggjaaGreatDoor

namespace Go.Emb
open Go.RowKit Go.Hm
variable {w w' : World} {σ σ' : Q4}
theorem J9.raise {α:Type} {R:Q4→α→List Value→Prop} {B B' sz:Nat} {e:TypeId} {v:Value} {xs:List α} (h:J9 B' e sz R σ w v xs) (m: ∀k,v.ownBlock=some k→B≤k):J9 B e sz R σ w v xs:=by
 obtain ⟨a,i,rfl,n,r,d,p⟩:=h
 refine ⟨a,i,rfl,n,r,fun b c=>⟨(d b c).1,m _ (by subst c;rfl),(d b c).2.2⟩,fun o=>?_⟩
 obtain ⟨g,j,f,rfl,s,q⟩:=p o
 exact ⟨g,j,f,rfl,m g rfl,q⟩
end Go.Emb
namespace Go.Proofs.YtjdiakhipmggjaaGreatDoor
open Go.Emb Go.RowKit Go.Kd Go.Hm
variable {w w' : World} {K : Value → World → Prop} {σ σ' : Q4} {hp tv : Value} {room : Int} {cs : List Cel} {l : List Cla}
theorem RowsIs.rows {B:Nat} {D:Nat→Prop} {f:Value} (h:RowsIs B D σ w f cs) (A:X4 w σ): ∃vs σ',vs.length=cs.length∧X4 w σ'∧SLe σ σ'∧Sl 2 Q1Z σ' f (Yg vs cs)∧(∀i (h:i<vs.length) (E:i<cs.length),J9 B T.i 4 B6 σ w vs[i] cs[i].vals∧ ∀k,vs[i].ownBlock=some k→D k)∧(∀k,¬D k→σ' k=σ k)∧
 ∀i (h:i<vs.length) (E:i<cs.length) vals' m,Kpt (fun k=>vs[i].ownBlock=some k) w m→J9 B T.i 4 B6 σ m vs[i] vals'→RowsIs B D σ m f (cs.set i ⟨cs[i].kind,vals'⟩):=by
 obtain ⟨vs,u,n,t,hD⟩:=h.ex
 obtain ⟨p,s⟩:=List.pairwise_cons.1 t
 obtain ⟨σ',z,v,y,o1⟩:=u.freeze A
 refine ⟨vs,σ',n.1,z,v,y,fun i c d=>⟨n.2 i c d,fun k b=>(hD k).2 ⟨vs[i],by simp[List.getElem_mem c],b⟩⟩,fun k b=>o1 k fun e=>b ((hD k).2 ⟨f,by simp,e.symm⟩),fun i c d vals' m b C=>⟨vs,?_,⟨by simpa using n.1,fun j o r=>?_⟩,t,hD⟩⟩
 ·have e:Yg vs (cs.set i ⟨cs[i].kind,vals'⟩)=Yg vs cs:=by
   refine List.ext_getElem (by simp[Yg]) fun j J H=>?_
   simp only[Yg,List.getElem_zipWith,List.getElem_set]
   split
   ·rename_i e;subst e;rfl
   ·rfl
  rw[e]
  exact u.kp b fun k a g=>p _ (List.getElem_mem c) k a g
 ·have q:j<cs.length:=by simpa using r
  simp only[List.getElem_set]
  by_cases e:i=j
  ·subst e;simp only[if_pos];exact C
  ·simp only[if_neg e]
   refine (n.2 j o q).kp b fun k a g=>?_
   have hp:=List.pairwise_iff_getElem.1 s
   rcases Nat.lt_or_gt_of_ne e with hlt | hlt
   ·exact hp i j c o hlt k g a
   ·exact hp j i o c hlt k a g
theorem Q7b {i:Nat} (b:i<cs.length) {vals':List Val} (h:vals'.length=cs[i].vals.length):W3 (cs.set i ⟨cs[i].kind,vals'⟩)=W3 cs:=by
 unfold W3
 rw[List.map_set]
 simp only[h]
 have a:1+(cs[i].vals.length:Int)=(cs.map (fun c=>1+(c.vals.length:Int)))[i]'(by simpa using b):=by simp
 rw[a,List.set_getElem_self]
set_option maxHeartbeats 1000000 in
theorem X1m {B:Nat} {D:Nat→Prop} {r i:Int} {v:Val} (hs:X4 w σ) (hg:Glb σ) (h:HeapIs B D σ w hp tv room cs) (ht:Tab σ tv l) (ok:Ok l) (good: ∀c∈cs,GoodC Nc l cs c) (hv:B6 σ v [I v.sort,I v.n,S v.s,I v.ref])
 (hh: ∀w' σ',Nxt D w σ w' σ'→HeapIs B D σ' w' hp tv room (Q3Y Nc l cs r i v).1→K (I (Q3Y Nc l cs r i v).2) w'):Q1 P F.bJ [hp,I r,I i, .agg [I v.sort,I v.n,S v.s,I v.ref].toArray] w K:=Ay (by
 unfold Om
 refine Y9 hs fun q w1 σ1 hk1 hq=>?_
 have h1:=h.up hk1
 have hs1:=hk1.sat
 obtain ⟨σf,sf,lef,hsl,_⟩:=h1.freeze hs1
 refine Q5C sf hsl ?_
 unfold Q3Y at hh
 refine Vr ?_
 by_cases h0:B4 cs r i=0
 case neg=>
  have e:decide (B4 cs r i=0)=false:=decide_eq_false h0
  rw[if_pos h0] at hh
  rw[e]
  refine L7 ?_
  exact hh _ _ (.of_stp hk1) h1
 have e:decide (B4 cs r i=0)=true:=decide_eq_true h0
 rw[if_neg (fun hn=>hn h0)] at hh
 rw[e]
 refine M0 ?_
 obtain ⟨j,m,rfl,rfl,hj,hm⟩:=Q2L h0
 rw[K7 hj,Int.toNat_natCast] at hh
 have hsl0:=hsl
 obtain ⟨a,lv,rfl,la,ls⟩:=hsl
 obtain ⟨vv,p1,p2,p3⟩:=Sl.elO ls hj
 have hqf:=hq.lift lef
 have lesf:SLe σ σf:=SLe.more ⟨hk1.le⟩ lef
 have htf:=ht.lift lesf
 have hone:vv.cells= #[vv]∧vv.oneCell'=true:=by obtain ⟨a,c,rfl,_⟩:=p2;exact ⟨rfl,rfl⟩
 have hgc:=good cs[j] (List.getElem_mem hj)
 have hif:elem cs[j].kind=[]→m<(Z0 l cs[j].kind).length:=fun e=>by
  rcases hgc.is with h | h
  ·exact absurd e h
  ·rw[←h.2];exact hm
 refine U6 sf ?_
 (repeat (apply V7;(· intros;(repeat (rename_i hx;subst hx));(repeat' (first | (with_reducible exact H9 rfl) | (with_reducible exact F4 (Stp.bel (by (repeat (first | exact Stp.refl (by (first | assumption | exact Stp.sat (by assumption) | exact Hst.sat (by assumption))) | assumption | refine Stp.trans ?_ (by first | assumption | exact Hst.stp (by assumption)))))) rfl) | (with_reducible intro _) | (simp only[↓M2,M2,Mb,reduceIte]) | (with_reducible show Q2 _ _ _ _ _;first | refine X8 aS aL aR ?_ | refine Y4 aS aL aR ?_ | refine ld aS aL aR ?_) | (with_reducible show indexAddr _ _ _ _ _ _;refine Z4 aL au ?_) | (with_reducible show X6 _ _ _ _ _ _ _ _;refine Q9 aL ?_) | (with_reducible show Yy _ _ _ _ _ _;refine U0 aR ?_) | (with_reducible show pick _ _ _ _ _ _;refine G7 ?_) | (with_reducible show Q1 _ _ _ _ _;first | refine Q71 au au au au au au au ?_) | (apply T8;intro hh;(try simp only[hh,reduceIte,↓M2,M2,Mb,reduceIte]))));done)))
 (intros;(repeat (rename_i hx;subst hx)))
 rename_i w2 hb2
 refine Q7I hb2.sat (hg.lift lesf) hsl0 htf ok hv.2.2.2.1 (Q3C ok p3 m) fun w3 σ3 hk3=>?_
 have hk13:=(hb2.stp.trans hk3).weak lef.le
 have h3:=h1.up hk13
 have hS3:=hk1.trans hk13
 have hs3:=hk13.sat
 refine Oq ?_
 cases hf:I5 Nc l cs v (Lc l cs[j].kind m) with
 | false=>
  rw[hf] at hh
  simp only[Bool.false_eq_true,if_false] at hh
  refine L7 ?_
  exact hh _ _ (.of_stp hS3) h3
 | true=>
  rw[hf] at hh
  simp only[if_true] at hh
  refine M0 ?_
  obtain ⟨b,lv',E,hpe,hbB,hm3,hr3,hE,hD⟩:=h3.ex
  obtain ⟨vs,σg,hvl,sg,leg,slg,hrow,hog,hset⟩:=hr3.rows hs3
  obtain ⟨σh,sh,leh,lih,_⟩:=(show J0 σg w3 b _ from ⟨(hog b hE).trans hm3.1,hm3.2⟩).freeze sg
  cases hpe
  have slh:=slg.lift leh
  have hqh:=(hq.up hk13).lift (leg.more leh)
  have hjv:j<vs.length:=by rw[hvl];exact hj
  have hjo:j<(Yg vs cs).length:=by rw[Ep hvl];exact hj
  obtain ⟨cs5,p5,_,r5⟩:=slh.el hjo
  have eo:(Yg vs cs)[j]=(cs[j].kind,vs[j]):=by simp[Yg]
  rw[eo] at r5
  obtain ⟨rfl,_⟩:=r5
  refine U6 sh ?_
  (repeat refine V7 Xc ?_)
  (intros;(repeat (rename_i hx;subst hx)))
  rename_i w4 hb4
  have hk34:=Stp.of_below hs3 hb4.stp.bel
  have N34:Nxt (fun _=>False) w3 σ1 w4 σ1:= .of_stp hk34
  obtain ⟨hrj,hrD⟩:=hrow j hjv hj
  have hrj4:=hrj.up hk34
  have hv1:B6 σ1 v [I v.sort,I v.n,S v.s,I v.ref]:=hv
  refine Q3e (w0:=Q65 w4) (σ0:=fun _=>none) (x:=v) (Q0z hk34.sat) (hrj4.mono (Nat.zero_le B)) hm rfl hv1 (Rep.one hv1) fun p u w5 hkp hb5 hq5=>?_
  have hkp5:Kpt (fun k=>vs[j].ownBlock=some k) w3 w5:=(Kpt.of_below hk34.bel).trans hkp
  have hr5:=hset j hjv hj _ w5 hkp5 (hq5.raise fun k hk=>(hrj.mem hk).1)
  have N35:Nxt (fun k=>vs[j].ownBlock=some k) w3 σ1 w5 σ1:=⟨hkp5,SLe.refl _,fun _ _=>rfl,hb5.sat⟩
  have hm5:=hm3.nx N35 fun e=>hE (hrD b e)
  have hsv:Q94 cs j m v=cs.set j ⟨cs[j].kind,cs[j].vals.set m v⟩:=by unfold Q94;rw[K7 hj,Int.toNat_natCast,Int.toNat_natCast]
  rw[hsv] at hh
  have htk:=Q7b hj (vals':=cs[j].vals.set m v) (by simp)
  refine hh w5 σ1 ((Nxt.of_stp hS3).chain N35 fun k _ e=>(hD k).2 (.inr (hrD k e))) ⟨b,lv',E,rfl,hbB,?_,hr5,hE,hD⟩
  rw[htk];exact hm5)
end Go.Proofs.YtjdiakhipmggjaaGreatDoor

namespace Go.Emb
open Go.RowKit Go.Hm
variable {P : Program} {w w' : World} {K : Value → World → Prop} {σ σ' : Q4}
end Go.Emb
namespace Go.Proofs.YtjdiakhipmggjaaGreatDoor
open Go.Emb Go.RowKit Go.Kd Go.Hm
variable {w w' : World} {K : Value → World → Prop} {σ σ' : Q4} {hp tv : Value} {room : Int} {cs : List Cel} {l : List Cla}
end Go.Proofs.YtjdiakhipmggjaaGreatDoor

namespace Go.Emb
open Go.RowKit Go.Hm
variable {P : Program} {w w' w0 : World} {K : Value → World → Prop} {σ σ' σ0 : Q4}
theorem Q3I {a:List TypeId} {t:TypeId} {b:List Bool} {xs:List Value} {v:Value} (h:(Builtin.copy_ a.toArray t xs.toArray).run P w= .ok v w') (c:K v w'):X6 P .copy a t b xs w K:=by
 have d:(builtin .copy a.toArray t b.toArray xs.toArray).run P w= .ok (.value v) w':=by simp[builtin,h]
 unfold X6
 rw[T1];unfold K1
 rw[d];exact c
theorem X0E {α:Type} {R:Q4→α→List Value→Prop} {sz:Nat} {e:TypeId} {v u:Value} {xs ys:List α} {t J H:TypeId} {cb:List Bool} {M:Nat} {z:Value} [hr:Rep R] [ts:TS P t e] [tz:TZ P e sz M z] (N:Stp w0 σ0 w σ) (ha:J9 w0.heap.size e sz R σ w v xs) (W:Sl sz R σ u ys) (A:ys.length=xs.length)
 (h: ∀w',Kpt (fun k=>v.ownBlock=some k) w w'→Stp w0 σ0 w' σ→J9 w0.heap.size e sz R σ w' v ys→K (I ys.length) w'):X6 P .copy [t,J] H cb [v,u] w K:=by
 obtain ⟨i,hi,C,al,L⟩:=tz.info
 have o:(P.info? e).map (·.size)=some sz:=by rw[hi];simp[C]
 obtain ⟨a,f,rfl,c1,U,d,Y⟩:=ha
 have D:=W
 obtain ⟨X,p,rfl,k1,k2,k3,k4⟩:=W
 by_cases h0:ys.length=0
 ·have B:ys=[]:=List.eq_nil_of_length_eq_zero h0
  subst B
  have hx:xs=[]:=List.eq_nil_of_length_eq_zero (by rw[←A];rfl)
  subst hx
  refine Q3I (Q32 w t J H e sz a X f p ts.h o) ?_
  exact h w Kpt.refl N ⟨a,f,rfl,c1,U,d,Y⟩
 ·obtain ⟨a2,ab,m,he,n1,Z,n3,n4,n5⟩:=D.cells N.sat
  injection he with e1 _ e3
  subst e1;subst e3
  cases X with
  | none=>have:=k3 rfl;omega
  | some b'=>
   obtain ⟨g,c,n,rfl,V,Q,O,q4,q5⟩:=Y (by omega)
   have af:ys.length*sz≤f*sz:=Nat.mul_le_mul_right _ (by omega)
   have r:=Q31 (P:=P) w t J H e sz g c ys.length f b' p n e m ts.h o O Z (fun j v hv=>n3 b' rfl j v hv) (by rw[Z];omega) n4
   obtain ⟨q,E⟩:=Vy (cs:=(n.toList.take c++m++n.toList.drop (c+m.length)).toArray) O
   rw[←A]
   refine Q3I r ?_
   have ae:=Array.length_toList (xs:=n)
   refine h _ (Kpt.of_upd q rfl) (q.stp N V Q) ⟨_,f,(by rw[A]),by rw[A];exact c1,U,fun b s=>⟨(d b s).1,(d b s).2.1,by rw[q.size];exact (d b s).2.2.1,(d b s).2.2.2⟩,fun _=>⟨g,c,_,rfl,V,Q,E,?_,fun j y B=>?_⟩⟩
   ·simp;omega
   ·have hj:j<ys.length:=(List.getElem?_eq_some_iff.1 B).1
    have ap:j*sz+sz≤ys.length*sz:=by rw[←Nat.succ_mul];exact Nat.mul_le_mul_right _ hj
    have:=n5 j y B
    rw[List.toList_toArray,List.append_assoc,List.drop_append,List.drop_eq_nil_of_le (by rw[List.length_take];omega),List.nil_append,List.length_take,show c+j*sz-min c n.toList.length=j*sz by omega,List.drop_append_of_le_length (by omega),List.take_append_of_le_length (by rw[List.length_drop];omega)]
    exact this
theorem Nxt.stp' {D:Nat→Prop} (N:Nxt D w σ w' σ') (a:Stp w0 σ0 w σ) (f: ∀k,D k→w0.heap.size≤k):Stp w0 σ0 w' σ':=
 ⟨⟨N.kp.os.trans a.bel.os,N.kp.tape.trans a.bel.tape,N.kp.output.trans a.bel.output,Nat.le_trans a.bel.size N.kp.size,fun k c=>(N.kp.block k (Nat.lt_of_lt_of_le c a.bel.size) fun h=>absurd (f k h) (by omega)).trans (a.bel.block k c)⟩,N.sat,fun b o e=>N.le.le b o (a.le b o e),fun b d=>(N.old b (Nat.lt_of_lt_of_le d a.bel.size)).trans (a.old b d)⟩
end Go.Emb
namespace Go.Proofs.YtjdiakhipmggjaaGreatDoor
open Go.Emb Go.RowKit Go.Kd Go.Hm
variable {w w' : World} {K : Value → World → Prop} {σ σ' : Q4} {hp tv : Value} {room : Int} {cs : List Cel} {l : List Cla}
theorem RowsIs.nil {B:Nat}:RowsIs B (fun _=>False) σ w (.slice none 0 0) []:=
 ⟨[],J9.of_acc V2.nil,⟨rfl,fun i h=>absurd h (Nat.not_lt_zero i)⟩,List.pairwise_singleton _ _,fun k=>by simp[Value.ownBlock]⟩
set_option maxHeartbeats 1000000 in
theorem Q9J (Y:X4 w σ) (hh:E0 σ hp tv room cs) (hl:W3 cs≤1048576)
 (h: ∀v w' σ' D,Stp w σ w' σ'→RowsIs w.heap.size D σ' w' v cs→K v w'):Q1 P F.bm [hp] w K:=Gu (by
 obtain ⟨a,lv,rfl,la,ls⟩:=hh
 have ae:=Q0W cs
 unfold Ma
 rw[L4,fa]
 refine ld Y la rfl ?_
 refine Q9 ls ?_
 refine M3 cs.length (fun n x w'=> ∃σ' D,Stp w σ w' σ'∧RowsIs w.heap.size D σ' w' x (cs.take n)) ⟨σ,_,Stp.refl Y,RowsIs.nil⟩ fun n x w1 d hn C=>?_
 obtain ⟨σ1,D1,f,H⟩:=C
 refine Z1 ?_
 refine Q5 (fun Q=>?_) (fun Q=>?_)
 ·have c:n<cs.length:=by simpa using Q
  have E:=ls.up f
  obtain ⟨vv,p1,Z,X⟩:=Sl.elO E c
  have ah:(cs[n].vals.length:Int)≤1048576:=by
   have e:W3 cs=W3 (cs.take n)+W3 (cs.drop n):=by rw[←Cw,List.take_append_drop]
   have e2:W3 (cs.drop n)=(1+(cs[n].vals.length:Int))+W3 (cs.drop (n+1)):=by
    rw[List.drop_eq_getElem_cons c];simp only[W3,List.map_cons,List.sum_cons]
   have h3:=Xd (cs.take n)
   have V:=Xd (cs.drop (n+1))
   omega
  refine Z4 E c ?_
  refine Y4 f.sat p1 rfl ?_
  refine Y1 f.sat (by rfl) rfl (Rep.one (R:=Yf) ⟨vv,rfl,Z,X⟩) fun q w2 W b o=>?_
  have u:=f.trans b
  have A:=Z.up b
  rw[fa]
  refine ld b.sat o rfl ?_
  refine Q9 A ?_
  refine Q7J (sz:=4) (R:=B6) (x0:=Val.zero) b.sat rfl (by decide) ⟨rfl,by decide⟩ (by omega) (by omega) fun M w3 m L B=>?_
  have J:=u.trans m
  rw[fa]
  refine ld m.sat (o.up m) rfl ?_
  have N:=(J9.of_acc L).mono (B':=w.heap.size) u.bel.size
  refine X0E J N (A.up m) (by simp) fun w4 O g z=>?_
  have h3:=(H.up b).up m
  have r: ∀j,M.ownBlock=some j→ ¬D1 j:=fun j p hD=>by
   have:=((H.up b).mem hD).2.1;have:=B j p;omega
  have N4:Nxt (fun k=>M.ownBlock=some k) w3 W w4 W:=⟨O,SLe.refl _,fun _ _=>rfl,g.sat⟩
  have V:=h3.nx N4 fun j p e=>r j e p
  rw[fa]
  refine ld (i:=0) g.sat o rfl ?_
  have t:=z
  obtain ⟨a3,aa,U,_⟩:=t
  refine V1 (cells:= #[S cs[n].kind,M]) (by rw[U];kernel_rfl) ?_
  refine Q88 g.sat g.bel.size V z r X (by rw[List.length_take];omega) fun s ak w5 σ5 D5 N5 y h5 _ _=>?_
  refine M7 ?_
  refine Z2 (by omega) c ⟨σ5,D5,N5.stp' g fun j p=>(V.mem (y j p)).1,?_⟩
  rw[List.take_add_one,List.getElem?_eq_getElem c]
  exact h5
 ·have c: ¬n<cs.length:=by simpa using Q
  rw[List.take_of_length_le (by omega)] at H
  exact h _ _ _ _ f H)
end Go.Proofs.YtjdiakhipmggjaaGreatDoor

namespace Go.Proofs.YtjdiakhipmggjaaGreatDoor
open Go.Emb Go.RowKit Go.Kd Go.Hm
variable {w : World} {K : Value → World → Prop} {σ : Q4} {l : List Cla} {v : Value}
theorem Q2l {c:Cla} {n:X0} (h:Ds c n=none):H4 c n=none:=by
 unfold H4 Ds at*
 rw[List.findIdx?_eq_none_iff] at h
 rw[List.find?_eq_none]
 intro m a
 have:=h m a
 simpa using this
theorem Q5v {c:Cla} {n:X0} {i:Nat} (h:Ds c n=some i): ∃b:i<c.methods.length,H4 c n=some c.methods[i]:=by
 unfold H4 Ds at*
 obtain ⟨b,e,d⟩:=List.findIdx?_eq_some_iff_getElem.1 h
 refine ⟨b,List.find?_eq_some_iff_getElem.2 ⟨e,i,b,rfl,fun j a=>?_⟩⟩
 have:=d j a
 simpa using this
theorem Q2i {n:X0} (h:lk l n=none):Y2 l n=none:=by
 cases b:Y2 l n with
 | none=>rfl
 | some i=>obtain ⟨c,a,_⟩:=Zt b;rw[h] at a;cases a
set_option maxHeartbeats 1000000 in
theorem Q7E {n:X0} (ok:Ok l): ∀(k:Nat) {c:Cla} {cs:List Value} {w:World} {σ:Q4} {K:Value→World→Prop},B2 l c.name<k→lk l c.name=some c→X4 w σ→Sl 8 U4 σ v l→U4 σ c cs→
 (∀pv cv hv w' Z,Stp w σ w' Z→L9 Z (o2 (U2 l c n)) [S (o2 (U2 l c n)).name,pv,S (o2 (U2 l c n)).result, .bool (o2 (U2 l c n)).abs,I (o2 (U2 l c n)).locals,cv,hv]→
  K (.tuple #[S (o1 (U2 l c n)), .agg [S (o2 (U2 l c n)).name,pv,S (o2 (U2 l c n)).result, .bool (o2 (U2 l c n)).abs,I (o2 (U2 l c n)).locals,cv,hv].toArray, .bool (U2 l c n).isSome]) w')→
 Q1 P F.aB [v, .agg cs.toArray,S n] w K:=by
 intro k
 induction k with
 | zero=>
  intro c cs w σ K hk
  omega
 | succ k ih=>
  intro c cs w σ K hk hc hs hv hr h
  refine Fp ?_
  obtain ⟨lv,fv,mv,rfl,g1,g2,g3,g4,g5⟩:=hr
  have C:=Q2u ok.acy hc n
  generalize hf:(fun u=>match lk l u with | none=>none | some d=>match H4 d n with | some m=>some (u,m) | none=>U2 l d n)=f at C
  unfold Wb
  refine Y9 hs fun a w1 σ1 D a0=>?_
  refine C5 D.sat fun b w2 σ2 hb Y av=>?_
  have U:w.heap.size≤b:=C2 hb D
  have ay:=a0.up Y
  have g1:=(g1.up D).up Y
  refine U3 c.like.length (fun i w'=> ∃Z,Stp w σ w' Z∧SLe σ2 Z∧J0 Z w' b [S [], .slice none 0 0,S [], .bool false,I 0, .slice none 0 0, .slice none 0 0]∧(c.like.take i).findSome? f=none) ⟨σ2,D.trans Y,SLe.refl _,av,rfl⟩ fun i w3 d hi ak=>?_
  obtain ⟨σ3,e,R,ab,z⟩:=ak
  have N:=hv.up e
  have L:=ay.lift R
  have E:=g1.lift R
  (try simp only[↓M1,M1,Mb,reduceIte])
  refine ld e.sat L rfl ?_
  refine Q9 E ?_
  refine Z1 ?_
  refine Q5 (fun hh=>?_) (fun hh=>?_)
  ·have g:i<c.like.length:=by simpa using hh
   (try simp only[↓M1,M1,Mb,reduceIte])
   refine ld e.sat L rfl ?_
   refine Z4 E g ?_
   obtain ⟨p0,_⟩:=E.elS g
   refine X8 e.sat p0 rfl ?_
   obtain ⟨d,hd⟩:=ok.full c (U8 hc).2.1 _ (List.getElem_mem g)
   obtain ⟨O,bq,_⟩:=U8 hd
   have p:f c.like[i]=match H4 d n with | some m=>some (c.like[i],m) | none=>U2 l d n:=by rw[←hf];simp only[hd]
   refine Hk e.sat N hd fun j hj bj=>?_
   obtain ⟨ac,aq⟩:=List.getElem?_eq_some_iff.1 hj
   refine Z4 N ac ?_
   obtain ⟨bw,bl,bs,p1,r1⟩:=N.elC ac
   rw[aq] at p1 r1
   refine Y4 e.sat p1 rfl ?_
   refine Y1 e.sat (by rfl) rfl (Rep.one r1) fun q w4 σ4 o X=>?_
   refine Y4 o.sat X rfl ?_
   refine Q5w o.sat (RCl_lift r1 ⟨o.le⟩) fun w5 σ5 t=>?_
   refine Xx ?_
   rw[Zu]
   have A:=(e.trans o).trans t
   have H:=(ab.step o).step t
   have a2:=X.up t
   have r5:=RCl_lift r1 ⟨(o.trans t).le⟩
   have V:=t.sat
   have ao:SLe σ2 σ5:=R.more ⟨(o.trans t).le⟩
   clear X p1 r1 p0 L E o t
   cases ho:Ds d n with
   | some i2=>
    obtain ⟨ap,a1⟩:=Q5v ho
    rw[a1] at p
    simp only[Option.isSome_some,W0,↓M1,M1,Mb,reduceIte]
    obtain ⟨_,_,a3,_,_⟩:=r5.parts
    obtain ⟨pv,cv,bp,p2,r2⟩:=a3.elM ap
    refine U6 V ?_
    (repeat refine V7 Xc ?_)
    (intros;(repeat (rename_i hx;subst hx));(try simp only[↓M2,M2,Mb,reduceIte]))
    rename_i w6 ae
    refine B8 (H.step ae.stp) (A.trans ae.stp) U rfl rfl (Rep.one r2) fun w8 a9 a8=>?_
    refine V9 a8 rfl ?_
    have Q:=C.trans (A4 g z p)
    rw[Q] at h
    rw[O]
    exact h _ _ _ w8 σ5 a9.stp r2
   | none=>
    rw[Q2l ho] at p
    simp only[Option.isSome_none,↓M1,M1,Mb,reduceIte]
    refine Y4 V a2 rfl ?_
    have bv:=Xk ok.acy hc (by simp[J3,List.getElem_mem g]:c.like[i]∈J3 c) hd
    refine ih (by rw[O];omega) (by rw[O];exact hd) V (hv.up A) r5 fun pv cv br w8 σ8 B M=>?_
    refine Z7 (vs:=[_,_,_]) rfl ?_
    refine Z7 (vs:=[_,_,_]) rfl ?_
    refine Z7 (vs:=[_,_,_]) rfl ?_
    refine Y1 B.sat (by rfl) rfl (Rep.one M) fun q w9 σ9 y a4=>?_
    have aa:=(A.trans B).trans y
    have ah:=(H.step B).step y
    have W:=RMe_lift M ⟨y.le⟩
    have aw:SLe σ2 σ9:=ao.more ⟨(B.trans y).le⟩
    have a7:=y.sat
    cases Q:U2 l d n with
    | some r=>
     obtain ⟨s,m⟩:=r
     rw[Q] at p W a4
     clear M B y
     simp only[Q,Option.isSome_some,↓M1,M1,Mb,reduceIte]
     refine U6 a7 ?_
     (repeat refine V7 Xc ?_)
     (intros;(repeat (rename_i hx;subst hx));(try simp only[↓M2,M2,Mb,reduceIte]))
     rename_i bn J
     refine B8 (ah.step J.stp) (aa.trans J.stp) U rfl rfl (Rep.one W) fun ar ad ag=>?_
     refine V9 ag rfl ?_
     have ba:=C.trans (A4 g z p)
     rw[ba] at h
     exact h _ _ _ ar σ9 ad.stp W
    | none=>
     rw[Q] at p
     simp only[Option.isSome_none,↓M1,M1,Mb,reduceIte]
     refine Y3 (by have:=g1.max;omega) g ⟨σ9,aa,aw,ah,?_⟩
     rw[A6 g z];exact p
  ·have g: ¬i<c.like.length:=by simpa using hh
   rw[List.take_of_length_le (by omega)] at z
   refine Rz ?_
   refine B8 ab e U rfl rfl (Rep.one (P0 (σ:=σ3))) fun w5 A H=>?_
   refine V9 H rfl ?_
   have Q:=C.trans z
   rw[Q] at h
   exact h _ _ _ w5 σ3 A.stp P0
set_option maxHeartbeats 1000000 in
theorem Q6L {k n:X0} (hs:X4 w σ) (hv:Sl 8 U4 σ v l) (ok:Ok l)
 (h: ∀pv cv hv w' L,Stp w σ w' L→L9 L (o2 (U1 l k n)) [S (o2 (U1 l k n)).name,pv,S (o2 (U1 l k n)).result, .bool (o2 (U1 l k n)).abs,I (o2 (U1 l k n)).locals,cv,hv]→
  K (.tuple #[S (o1 (U1 l k n)), .agg [S (o2 (U1 l k n)).name,pv,S (o2 (U1 l k n)).result, .bool (o2 (U1 l k n)).abs,I (o2 (U1 l k n)).locals,cv,hv].toArray, .bool (U1 l k n).isSome]) w'):
 Q1 P F.b0 [v,S k,S n] w K:=Sc (by
 unfold Vg
 refine C5 hs fun b w1 σ1 hb R a5=>?_
 refine P2 R.sat (hv.up R) ?_
 unfold U1 at h
 generalize hF:(fun c:Cla=>(H4 c n).map (c.name,·))=F1 at h
 have an: ∀c,F1 c=(H4 c n).map (c.name,·):=fun c=>by rw[←hF]
 refine Ak (fun m x w'=> ∃s J L,m=(chain l s).length∧x=I (W0 (Y2 l s))∧chain l k=J++chain l s∧Stp w σ w' L∧J0 L w' b [S [], .slice none 0 0,S [], .bool false,I 0, .slice none 0 0, .slice none 0 0]∧J.findSome? F1=none)
  (chain l k).length ⟨k,[],σ1,rfl,rfl,rfl,R,a5,rfl⟩ ?_
 rintro aa m x d w2 ⟨s,J,σ2,rfl,rfl,f,D,al,e⟩ B
 have C:=hv.up D
 have ac:=D.sat
 refine Xx ?_
 rw[Zu]
 cases A:lk l s with
 | some c=>
  obtain ⟨af,az,i,U,ab⟩:=U8 A
  obtain ⟨p,W⟩:=List.getElem?_eq_some_iff.1 ab
  simp only[U,Option.isSome_some,W0,↓M1,M1,Mb,reduceIte]
  refine Z4 C p ?_
  obtain ⟨lv,fv,mv,y,N⟩:=C.elC p
  rw[W] at y N
  refine Y4 ac y rfl ?_
  refine Q5w ac N fun w3 σ3 t=>?_
  refine Xx ?_
  rw[Zu]
  have g:=D.trans t
  have j:=C.up t
  have z:=al.step t
  have u:=t.sat
  replace y:=y.up t
  replace N:=RCl_lift N ⟨t.le⟩
  have o:chain l s=c::chain l c.super:=by rw[F7 ok.acy s,A]
  cases Y:Ds c n with
  | some i2=>
   obtain ⟨av,ar⟩:=Q5v Y
   simp only[Option.isSome_some,W0,↓M1,M1,Mb,reduceIte]
   obtain ⟨_,_,aw,_,_⟩:=N.parts
   obtain ⟨pv,cv,bf,p2,r2⟩:=aw.elM av
   clear t
   refine U6 u ?_
   (repeat refine V7 Xc ?_)
   (intros;(repeat (rename_i hx;subst hx));(try simp only[↓M2,M2,Mb,reduceIte]))
   rename_i w4 ae
   refine B8 (z.step ae.stp) (g.trans ae.stp) hb rfl rfl (Rep.one r2) fun w8 a3 a2=>?_
   refine V9 a2 rfl ?_
   have H:(chain l k).findSome? F1=some (c.name,c.methods[i2]):=by
    rw[f,List.findSome?_append,e,o,List.findSome?_cons,an,ar];rfl
   rw[H] at h
   exact h _ _ _ w8 σ3 a3.stp r2
  | none=>
   simp only[Option.isSome_none,↓M1,M1,Mb,reduceIte]
   refine Z4 j p ?_
   (try simp only[↓M1,M1,Mb,reduceIte])
   refine ld u y rfl ?_
   refine P2 u j ?_
   refine B (chain l c.super).length _ _ (by rw[o,List.length_cons];omega) ⟨c.super,J++[c],σ3,rfl,rfl,by rw[f,o];simp,g,z,?_⟩
   rw[List.findSome?_append,e]
   simp[an,Q2l Y]
 | none=>
  rw[Q2i A]
  simp only[Option.isSome_none,↓M1,M1,Mb,reduceIte]
  have ag:(chain l k).findSome? F1=none:=by rw[f,Qn A,List.append_nil];exact e
  rw[ag] at h
  clear B e f
  refine P2 ac C ?_
  refine Ak (fun m x w'=> ∃s J L,m=(chain l s).length∧x=I (W0 (Y2 l s))∧chain l k=J++chain l s∧Stp w σ w' L∧J0 L w' b [S [], .slice none 0 0,S [], .bool false,I 0, .slice none 0 0, .slice none 0 0]∧J.findSome? (fun c=>U2 l c n)=none)
   (chain l k).length ⟨k,[],σ2,rfl,rfl,rfl,D,al,rfl⟩ ?_
  rintro aa m x d w3 ⟨s,J,σ3,rfl,rfl,f,g,z,e⟩ B
  have j:=hv.up g
  have u:=g.sat
  refine Xx ?_
  rw[Zu]
  cases A:lk l s with
  | some c=>
   obtain ⟨af,az,i,U,ab⟩:=U8 A
   obtain ⟨p,W⟩:=List.getElem?_eq_some_iff.1 ab
   simp only[U,Option.isSome_some,W0,↓M1,M1,Mb,reduceIte]
   refine Z4 j p ?_
   obtain ⟨lv,fv,mv,y,N⟩:=j.elC p
   rw[W] at y N
   refine Y4 u y rfl ?_
   have o:chain l s=c::chain l c.super:=by rw[F7 ok.acy s,A]
   refine Q7E ok _ (Nat.lt_succ_self _) (by rw[af];exact A) u j N fun pv cv bb w8 σ8 X Q=>?_
   refine Z7 (vs:=[_,_,_]) rfl ?_
   refine Z7 (vs:=[_,_,_]) rfl ?_
   refine Z7 (vs:=[_,_,_]) rfl ?_
   refine Y1 X.sat (by rfl) rfl (Rep.one Q) fun q w9 σ9 E ax=>?_
   have a:=X.trans E
   have ah:=g.trans a
   have ao:=z.step a
   have Z:=RMe_lift Q ⟨E.le⟩
   have V:=E.sat
   have am:=j.up a
   replace y:=y.up a
   cases Y:U2 l c n with
   | some r=>
    obtain ⟨s,m⟩:=r
    rw[Y] at Z ax
    clear Q X E a
    simp only[Y,Option.isSome_some,↓M1,M1,Mb,reduceIte]
    refine U6 V ?_
    (repeat refine V7 Xc ?_)
    (intros;(repeat (rename_i hx;subst hx));(try simp only[↓M2,M2,Mb,reduceIte]))
    rename_i bd O
    refine B8 (ao.step O.stp) (ah.trans O.stp) hb rfl rfl (Rep.one Z) fun a1 ai ak=>?_
    refine V9 ak rfl ?_
    have H:(chain l k).findSome? (fun c=>U2 l c n)=some (s,m):=by
     rw[f,List.findSome?_append,e,o,List.findSome?_cons,Y];rfl
    unfold U2 at H
    rw[H] at h
    exact h _ _ _ a1 σ9 ai.stp Z
   | none=>
    simp only[Option.isSome_none,↓M1,M1,Mb,reduceIte]
    refine Z4 am p ?_
    (try simp only[↓M1,M1,Mb,reduceIte])
    refine ld V y rfl ?_
    refine P2 V am ?_
    refine B (chain l c.super).length _ _ (by rw[o,List.length_cons];omega) ⟨c.super,J++[c],σ9,rfl,rfl,by rw[f,o];simp,ah,ao,?_⟩
    rw[List.findSome?_append,e]
    simp[Y]
  | none=>
   rw[Q2i A]
   simp only[Option.isSome_none,↓M1,M1,Mb,reduceIte]
   have M:(chain l k).findSome? (fun c=>U2 l c n)=none:=by rw[f,Qn A,List.append_nil];exact e
   refine Rz ?_
   refine B8 z g hb rfl rfl (Rep.one (P0 (σ:=σ3))) fun w7 a0 a4=>?_
   refine V9 a4 rfl ?_
   unfold U2 at M
   rw[M] at h
   exact h _ _ _ w7 σ3 a0.stp P0)
end Go.Proofs.YtjdiakhipmggjaaGreatDoor

namespace Go.Hm
open Go.Kd
theorem Q0b: ∀(xs:List X0) (x:X0),xs≠[]→M8 (xs++[x])=M8 xs++[44]++x
 | [],_,h=>absurd rfl h
 | [a],x,_=>by simp[M8]
 | a::b::r,x,_=>by
  have:=Q0b (b::r) x (by simp)
  simp only[List.cons_append] at this⊢
  simp only[M8,this]
  simp
theorem Q08 {xs:List X0} {n:Nat} (h:n<xs.length):M8 (xs.take (n+1))=M8 (xs.take n)++(if 0<n then [44] else [])++xs[n]:=by
 rw[List.take_add_one,List.getElem?_eq_getElem h]
 simp only[Option.toList_some]
 cases n with
 | zero=>simp[M8]
 | succ n=>
  rw[Q0b _ _ (by intro e;have:=congrArg List.length e;simp only[List.length_take,List.length_nil] at this;omega)]
  simp
end Go.Hm
namespace Go.Proofs.YtjdiakhipmggjaaGreatDoor
open Go.Emb Go.RowKit Go.Kd Go.Hm
variable {w : World} {K : Value → World → Prop} {σ : Q4} {l : List Cla} {v : Value}
theorem Q4q {m:Hm.Met} {cs:List Value} (C:X4 w σ) (y:L9 σ m cs) (r:SmM m) (s:NmM m) (h: ∀w' B,Stp w σ w' B→K (S (K9 m)) w'):Q1 P F.aI [.agg cs.toArray] w K:=Gy (by
 obtain ⟨pv,J,M,rfl,f,L,R,O,N,U⟩:=y
 unfold Ly
 refine Y9 C fun q w1 σ1 g j=>?_
 have f:=f.up g
 have A: ∀n,(M8 (m.params.take n)).length≤101000000:=fun n=>by
  have:=Ov (m.params.take n) fun x u=>s.2 x (List.mem_of_mem_take u)
  have E:(m.params.take n).length≤1000000:=by rw[List.length_take];have:=r.1;omega
  have H:(m.params.take n).length*101≤1000000*101:=Nat.mul_le_mul_right _ E
  omega
 have c:=g.sat
 refine M3 m.params.length (fun n a w'=>w'=w1∧a=S ([40]++M8 (m.params.take n))) ⟨rfl,by simp[M8]⟩ fun n a Q d z i=>?_
 obtain ⟨D,rfl⟩:=i
 subst D
 have k:=A n
 (try simp only[↓M1,M1,Mb,reduceIte])
 refine ld c j rfl ?_
 refine Q9 f ?_
 refine Z1 ?_
 refine Q5 (fun p=>?_) (fun p=>?_)
 ·have b:n<m.params.length:=by simpa using p
  have u:=s.2 _ (List.getElem_mem b)
  refine U9 ?_
  obtain ⟨t,_⟩:=f.elS b
  refine Q5 (fun o=>?_) (fun o=>?_)
  ·have e:0<n:=by have:=of_decide_eq_true o;omega
   refine Hx (by simp only[List.length_append,List.length_cons,List.length_nil];omega) ?_
   intro d
   (try simp only[↓M1,M1,Mb,reduceIte])
   refine ld c j rfl ?_
   refine Z4 f b ?_
   refine X8 c t rfl ?_
   refine Hx (by simp only[List.length_append,List.length_cons,List.length_nil];omega) ?_
   (try simp only[↓M1,M1,Mb,reduceIte])
   refine Z2 f.max b ⟨rfl,?_⟩
   rw[Q08 b,if_pos e];simp
  ·have e: ¬0<n:=by have:=of_decide_eq_false o;omega
   intro d
   (try simp only[↓M1,M1,Mb,reduceIte])
   refine ld c j rfl ?_
   refine Z4 f b ?_
   refine X8 c t rfl ?_
   refine Hx (by simp only[List.length_append,List.length_cons,List.length_nil];omega) ?_
   (try simp only[↓M1,M1,Mb,reduceIte])
   refine Z2 f.max b ⟨rfl,?_⟩
   rw[Q08 b,if_neg e];simp
 ·have b: ¬n<m.params.length:=by simpa using p
  rw[List.take_of_length_le (by omega)] at k⊢
  refine Hx (by simp only[List.length_append,List.length_cons,List.length_nil];omega) ?_
  (try simp only[↓M1,M1,Mb,reduceIte])
  refine ld c j rfl ?_
  refine Hx (by simp only[List.length_append,List.length_cons,List.length_nil];have:=s.1;omega) ?_
  exact h _ _ g)
end Go.Proofs.YtjdiakhipmggjaaGreatDoor

namespace Go.Emb
open Go.RowKit Go.Hm
structure FinT (B : Nat) (F : Option Obj → Prop) (w w' : World) : Prop where
  os : w'.os = w.os
  tape : w'.tape = w.tape
  output : w'.output = w.output
  size : w.heap.size ≤ w'.heap.size
  old : ∀ k, k < w.heap.size → k < B → w'.heap[k]? = w.heap[k]?
  new : ∀ k, k < w.heap.size → w'.heap[k]? = w.heap[k]? ∨ F (w'.heap[k]?)
section
variable {P : Program} {B : Nat} {F : Option Obj → Prop} {w w' w0 : World} {σ : Q4} {v V : Value} {K : Value → World → Prop}
theorem FinT.of_below (h:Below w.heap.size w w'):FinT B F w w':=⟨h.os,h.tape,h.output,h.size,fun k a _=>h.block k a,fun k a=> .inl (h.block k a)⟩
theorem FinT.of_upd {b:Nat} (h:Upd w b w') (c:B≤b) (hF:F (w'.heap[b]?)):FinT B F w w':=
 ⟨h.os,h.tape,h.output,by rw[h.size];exact Nat.le_refl _,fun k a hB=>h.block k (by omega),fun k a=>by
  by_cases e:k=b
  ·subst e;exact .inr hF
  ·exact .inl (h.block k e)⟩
theorem FinT.hst (h:FinT w0.heap.size F w w') (c:X4 w0 σ) (a:Hst w0 σ w σ):Hst w0 σ w' σ:=
 ⟨Stp.of_below c ⟨h.os.trans a.stp.bel.os,h.tape.trans a.stp.bel.tape,h.output.trans a.stp.bel.output,Nat.le_trans a.stp.bel.size h.size,fun k b=>(h.old k (Nat.lt_of_lt_of_le b a.stp.bel.size) b).trans (a.stp.bel.block k b)⟩⟩
theorem X0P {A:(World→World→Prop)→(World→Prop)→Prop} (F:Option Obj→Prop) (a:X4 w σ) (h:A (FinT w.heap.size F) (fun w'=>Hst w σ w' σ)):dr w A:=
 Q1o _ _ ⟨Stp.of_below a (Below.refl _ _).drew⟩ (fun _ _ b c=>c.hst a b) h
theorem Q3R (h:V=v):dk (FinT B F) (fun v _=>V=v) w v w:=⟨.of_below (Below.refl _ _),h⟩
theorem X0j (a:Below w.heap.size w w') (h:V=v):dk (FinT B F) (fun v _=>V=v) w v w':=⟨.of_below a,h⟩
def X0J (B n:Nat) (F:Option Obj→Prop) (v:Value) (w:World):Prop:= ∃g,v= .pointer (some ⟨g,0,none⟩)∧B≤g∧((∃cs:List Value,∃e,cs.length=n∧w.heap[g]? =some (.cells cs.toArray e (0,0)))∨F (w.heap[g]?))
def X0S (B:Nat) (F:Option Obj→Prop) (v:Value) (w:World):Prop:= ∃g,v= .pointer (some ⟨g,0,none⟩)∧B≤g∧F (w.heap[g]?)
theorem Ba {w:World} {g:Nat} {o:Obj} (h:w.heap[g]? =some o):g<w.heap.size:=(Array.getElem?_eq_some_iff.1 h).1
theorem Q6X {n:Nat} (hF: ¬F none):Dz (FinT B F) (X0J B n F):=by
 rintro v w w' ⟨g,rfl,hB,b⟩ d
 have a:g<w.heap.size:=by
  rcases b with ⟨cs,e,_,h⟩ | h
  ·exact Ba h
  ·cases c:w.heap[g]? with
   | none=>rw[c] at h;exact absurd h hF
   | some o=>exact Ba c
 rcases d.new g a with h | h
 ·exact ⟨g,rfl,hB,by rw[h];exact b⟩
 ·exact ⟨g,rfl,hB, .inr h⟩
theorem Q6n (hF: ¬F none):Dz (FinT B F) (X0S B F):=by
 rintro v w w' ⟨g,rfl,hB,b⟩ d
 have a:g<w.heap.size:=by
  cases c:w.heap[g]? with
  | none=>rw[c] at b;exact absurd b hF
  | some o=>exact Ba c
 rcases d.new g a with h | h
 ·exact ⟨g,rfl,hB,by rw[h];exact b⟩
 ·exact ⟨g,rfl,hB,h⟩
end
end Go.Emb
namespace Go.Hm
open Go.Kd
theorem Q5j {a b:List Hm.Met} (h: ∀m,m∈a↔m∈b):Wn a=Wn b:=by
 rw[Bool.eq_iff_iff]
 simp only[Wn,List.any_eq_true]
 constructor
 ·rintro ⟨x,d,y,c,e⟩;exact ⟨x,(h x).1 d,y,(h y).1 c,e⟩
 ·rintro ⟨x,d,y,c,e⟩;exact ⟨x,(h x).2 d,y,(h y).2 c,e⟩
theorem Q8u {α:Type} {a b:List α} {p:α→Bool} (h: ∀m,m∈a↔m∈b):a.any p=b.any p:=by
 rw[Bool.eq_iff_iff]
 simp only[List.any_eq_true]
 constructor
 ·rintro ⟨x,c,y⟩;exact ⟨x,(h x).1 c,y⟩
 ·rintro ⟨x,c,y⟩;exact ⟨x,(h x).2 c,y⟩
def Xf (m:Hm.Met):List X0:=m.params++if m.result=[] then [] else [m.result]
def Yr (c:Cla):List X0:=c.fields.map (·.kind)++c.methods.flatMap Xf
theorem Q79 {l:List Cla} {c:Cla}:(Yr c).any (fun s=> !W9 l s)=H0 l c:=by
 unfold Yr H0 Xf
 rw[List.any_append,List.any_map,List.any_flatMap]
 congr 1
 congr 1
 funext m
 rw[List.any_append]
 by_cases e:m.result=[]
 ·simp[e]
 ·simp[e,Bool.or_comm]
def Pt (l:List Cla) (i k:Nat):Bool:=decide (k=i)||Zo l (Y0 l i) (Y0 l k)
def T3 (l:List Cla) (i n:Nat):List Hm.Met:=(List.range n).flatMap fun k=>if Pt l i k then (l.getD k Cla.zero).methods else []
theorem Q5W {l:List Cla} {i n:Nat}:T3 l i (n+1)=T3 l i n++if Pt l i n then (l.getD n Cla.zero).methods else []:=by
 unfold T3
 rw[List.range_succ,List.flatMap_append]
 simp
theorem Q2v {l:List Cla} (o:F2 l) {i:Nat} (n:i<l.length) (m:Hm.Met):m∈T3 l i l.length↔m∈Vi l (Y0 l i):=by
 unfold T3 Vi
 simp only[List.mem_flatMap,List.mem_range]
 have b: ∀k,k<l.length→lk l (Y0 l k)=some (l.getD k Cla.zero):=fun k g=>Qh o g
 constructor
 ·rintro ⟨k,g,d⟩
  split at d
  ·rename_i hu
   refine ⟨Y0 l k,?_,by rw[b k g];exact d⟩
   rw[Zp,Q2M]
   simp only[Pt,Bool.or_eq_true,decide_eq_true_eq,Ux] at hu
   rcases hu with rfl | hu
   ·exact .inl ⟨rfl,_,b _ g⟩
   ·exact .inr hu
  ·simp at d
 ·rintro ⟨u,hu,d⟩
  rw[Zp] at hu
  obtain ⟨c,p⟩:=hu.right
  obtain ⟨A,q,j,s,a⟩:=U8 p
  obtain ⟨h,z⟩:=List.getElem?_eq_some_iff.1 a
  have f:Y0 l j=u:=by
   unfold Y0;rw[List.getD_eq_getElem?_getD,a];exact A
  refine ⟨j,h,?_⟩
  rw[p] at d
  have:Pt l i j=true:=by
   simp only[Pt,Bool.or_eq_true,decide_eq_true_eq,Ux]
   rw[Q2M] at hu
   rcases hu with ⟨e,_⟩ | hu
   ·left
    have y:=b i n
    rw[e,←f] at y
    have r:=F2.find o (i:=i) (c:=l[i]) (List.getElem?_eq_getElem n)
    have t:l[i].name=Y0 l i:=by unfold Y0;rw[List.getD_eq_getElem?_getD,List.getElem?_eq_getElem n];rfl
    rw[t,e,s] at r
    simpa using r
   ·right;rw[f];exact hu
  rw[if_pos this,List.getD_eq_getElem?_getD,a]
  exact d
theorem Q7j {l:List Cla} {i n:Nat} {m:Hm.Met} (h:m∈T3 l i n) (e:n≤l.length): ∃c∈l,m∈c.methods:=by
 unfold T3 at h
 simp only[List.mem_flatMap,List.mem_range] at h
 obtain ⟨k,d,a⟩:=h
 split at a
 ·have b:k<l.length:=by omega
  rw[List.getD_eq_getElem?_getD,List.getElem?_eq_getElem b] at a
  exact ⟨l[k],List.getElem_mem _,a⟩
 ·simp at a
def G1 (a:List Hm.Met) (x y:Nat):Bool:=decide ((a.getD x Hm.Met.zero).name=(a.getD y Hm.Met.zero).name)&& !decide (K9 (a.getD x Hm.Met.zero)=K9 (a.getD y Hm.Met.zero))
theorem Hy {α:Type} {l:List α} {d:α} {n:Nat} (h:n<l.length):l.getD n d=l[n]:=by rw[List.getD_eq_getElem?_getD,List.getElem?_eq_getElem h];rfl
theorem Q7s {a:List Hm.Met} {x y:Nat} (c:x<a.length) (b:y<a.length) (h:G1 a x y=true):Wn a=true:=by
 unfold Wn
 rw[List.any_eq_true]
 refine ⟨a[x],List.getElem_mem _,?_⟩
 rw[List.any_eq_true]
 refine ⟨a[y],List.getElem_mem _,?_⟩
 unfold G1 at h
 rwa [Hy c,Hy b] at h
theorem Q92 {d:List Hm.Met} (h: ∀x y,x<d.length→y<x→G1 d x y=false):Wn d=false:=by
 unfold Wn
 rw[List.any_eq_false]
 intro a j
 rw[List.any_eq_true]
 rintro ⟨b,k,e⟩
 obtain ⟨x,i,rfl⟩:=List.getElem_of_mem j
 obtain ⟨y,g,rfl⟩:=List.getElem_of_mem k
 have f:G1 d y x=G1 d x y:=by
  unfold G1
  congr 1
  ·rw[Bool.eq_iff_iff];simp[eq_comm]
  ·congr 1;rw[Bool.eq_iff_iff];simp[eq_comm]
 have c:G1 d x y=true:=by unfold G1;rw[Hy i,Hy g];exact e
 rcases Nat.lt_trichotomy x y with hlt | heq | hlt
 ·rw[←f,h y x g hlt] at c;cases c
 ·subst heq;simp[G1] at c
 ·rw[h x y i hlt] at c;cases c
end Go.Hm
namespace Go.Proofs.YtjdiakhipmggjaaGreatDoor
open Go.Emb Go.RowKit Go.Kd Go.Hm
variable {w : World} {K : Value → World → Prop} {σ : Q4} {l : List Cla} {v : Value}
theorem Fv {c:Cla} (h:Xr c=false):c.fields.length≤32∧c.methods.length≤32∧ ∀m∈c.methods,m.params.length≤32:=by
 simp only[Xr,Bool.or_eq_false_iff,decide_eq_false_iff_not,List.any_eq_false] at h
 obtain ⟨⟨⟨b,f⟩,e⟩,d⟩:=h
 refine ⟨by omega,by omega,fun m a=>?_⟩
 have:=b m a
 simp only[Jz,Bool.or_eq_true,decide_eq_true_eq,not_or] at this
 omega
set_option maxHeartbeats 8000000 in
theorem Q5c {i:Nat} (hs:X4 w σ) (hv:Sl 8 U4 σ v l) (ok:Ok l) (own:F2 l) (hlen:l.length≤1000) (hmn: ∀c∈l,Xr c=false) (hi:i<l.length)
 (h: ∀w' σ',Stp w σ w' σ'→K (I (U5 l l[i])) w'):Q1 P F.aV [v,I i] w K:=Rt (by
 unfold Jx
 obtain ⟨lv,fv,mv,p0,r0⟩:=hv.elC hi
 refine Z4 hv hi ?_
 refine Y4 hs p0 rfl ?_
 refine Y1 hs (by rfl) rfl (Rep.one r0) fun q w1 σ1 hk1 hq1=>?_
 have r1:=RCl_lift r0 ⟨hk1.le⟩
 obtain ⟨_,gf,gm,g4,_⟩:=r1.parts
 have hv1:=hv.up hk1
 have hnm:=ok.nm _ (List.getElem_mem hi)
 have hcm:=hmn _ (List.getElem_mem hi)
 have hname:Y0 l i=l[i].name:=Bb hi
 generalize hcE:l[i]=c at*
 obtain ⟨mf,mm,mp⟩:=Fv hcm
 have e64:Qk l c=true→U5 l c=64:=fun e=>by unfold U5;simp[e]
 have e65:Qk l c=false→H0 l c=true→U5 l c=65:=fun e e2=>by unfold U5;simp[e,e2]
 have e66:Qk l c=false→H0 l c=false→Xm l c=true→U5 l c=66:=fun e e2 e3=>by unfold U5;simp[e,e2,e3]
 have e67:Qk l c=false→H0 l c=false→Xm l c=false→Mv l c=true→U5 l c=67:=fun e e2 e3 e4=>by unfold U5;simp[e,e2,e3,e4]
 have e0:Qk l c=false→H0 l c=false→Xm l c=false→Mv l c=false→U5 l c=0:=fun e e2 e3 e4=>by unfold U5;simp[e,e2,e3,e4]
 generalize U5 l c=R at*
 clear p0 r0 r1 hcm
 refine U3 c.fields.length (fun n w'=> ∃σ',Stp w σ w' σ'∧SLe σ1 σ'∧(c.fields.take n).any (fun f=>(Yz l c.super f.name).isSome)=false) ⟨σ1,hk1,SLe.refl _,rfl⟩ fun n w2 d hn hinv=>?_
 obtain ⟨σ2,hS2,le2,hno⟩:=hinv
 have hq2:=hq1.lift le2
 have gf2:=gf.lift le2
 (try simp only[↓M1,M1,Mb,reduceIte])
 refine ld hS2.sat hq2 rfl ?_
 refine Q9 gf2 ?_
 refine Z1 ?_
 refine Q5 (fun hc=>?_) (fun hc=>?_)
 ·have hn':n<c.fields.length:=by simpa using hc
  obtain ⟨pf,_⟩:=gf2.elF hn'
  have hs2:=hS2.sat
  refine U6 hs2 ?_
  (repeat refine V7 Xc ?_)
  (intros;(repeat (rename_i hx;subst hx));(try simp only[↓M2,M2,Mb,reduceIte]))
  rename_i w3 hb3
  refine Q7y hb3.sat (hv.up (hS2.trans hb3.stp)) ok.acy hlen ok.sm fun w4 σ4 hk4=>?_
  refine Xx ?_
  rw[Zu]
  have hnx:=L6 (p:=fun f:Fld=>(Yz l c.super f.name).isSome) hn'
  cases hp:(Yz l c.super c.fields[n].name).isSome with
  | true=>
   (try simp only[↓M1,M1,Mb,reduceIte])
   rw[hp,Bool.or_true] at hnx
   have:R=64:=e64 (R7 hn' hp)
   subst this
   exact h _ _ ((hS2.trans hb3.stp).trans hk4)
  | false=>
   (try simp only[↓M1,M1,Mb,reduceIte])
   exact Y3 gf.max hn' ⟨σ4,(hS2.trans hb3.stp).trans hk4,le2.more ⟨(hb3.stp.trans hk4).le⟩,by rw[hnx,hno,hp];rfl⟩
 have hA:Qk l c=false:=by
  have hn': ¬n<c.fields.length:=by simpa using hc
  rw[O3 hn'] at hno;exact hno
 clear hno hc hn e64
 refine Kv (R:=J6) (e:=T.b) hS2 (by decide) fun x3 w3 hk3 ha3 _=>?_
 have hS3:=hS2.trans hk3
 refine M3 c.fields.length (fun n x w'=> ∃σ',Stp w σ w' σ'∧SLe σ1 σ'∧V2 w.heap.size T.b 1 J6 σ' w' x ((c.fields.take n).map (·.kind))) ⟨σ2,hS3,le2,ha3⟩ fun n x w4 d hn hinv=>?_
 obtain ⟨σ4,hS4,le4,ha4⟩:=hinv
 have hq4:=hq1.lift le4
 have gf4:=gf.lift le4
 (try simp only[↓M1,M1,Mb,reduceIte])
 refine ld hS4.sat hq4 rfl ?_
 refine Q9 gf4 ?_
 refine Z1 ?_
 refine Q5 (fun hc=>?_) (fun hc=>?_)
 ·have hn':n<c.fields.length:=by simpa using hc
  obtain ⟨pf,rf⟩:=gf4.elF hn'
  have hkl:=(hnm.2.1 _ (List.getElem_mem hn')).2
  (try simp only[↓M1,M1,Mb,reduceIte])
  refine ld hS4.sat hq4 rfl ?_
  refine Z4 gf4 hn' ?_
  (try simp only[↓M1,M1,Mb,reduceIte])
  refine ld hS4.sat pf rfl ?_
  refine Zb (R:=J6) (x:=c.fields[n].kind) hS4 ha4 ⟨rfl,Nat.le_trans hkl (by decide)⟩ rfl rfl rfl (by rw[List.length_map,List.length_take];omega) (by rw[List.length_map,List.length_take];omega) fun s v' w5 σ5 hnx hS5 ha5 _=>?_
  (try simp only[↓M1,M1,Mb,reduceIte])
  refine Z2 gf.max hn' ⟨σ5,hS5,le4.more hnx.le,?_⟩
  rw[List.take_add_one,List.getElem?_eq_getElem hn',List.map_append]
  exact ha5
 rw[List.take_of_length_le (by
  have: ¬n<c.fields.length:=by simpa using hc
  omega)] at ha4
 clear hc hn hk3 ha3 hS3 hS2 le2 hq2 gf2 hq4 gf4
 have hkl: ∀n,(c.fields.map (·.kind)++(c.methods.take n).flatMap Xf).length≤2000:=fun n=>by
  have h1:=Jl Xf 33 (c.methods.take n) fun m hm=>by
   have:=mp m (List.mem_of_mem_take hm)
   unfold Xf
   split<;>simp<;>omega
  have h2:(c.methods.take n).length≤32:=by rw[List.length_take];omega
  have h3:(c.methods.take n).length*33≤32*33:=Nat.mul_le_mul_right _ h2
  rw[List.length_append,List.length_map];omega
 refine M3 c.methods.length (fun n x w'=> ∃σ',Stp w σ w' σ'∧SLe σ1 σ'∧V2 w.heap.size T.b 1 J6 σ' w' x (c.fields.map (·.kind)++(c.methods.take n).flatMap Xf)) ⟨σ4,hS4,le4,by simpa using ha4⟩ fun n x w5 d hn hinv=>?_
 clear ha4 hS4 le4
 obtain ⟨σ5,hS5,le5,ha5⟩:=hinv
 have hq5:=hq1.lift le5
 have gm5:=gm.lift le5
 have hkn:=hkl n
 (try simp only[↓M1,M1,Mb,reduceIte])
 refine ld hS5.sat hq5 rfl ?_
 refine Q9 gm5 ?_
 refine Z1 ?_
 refine Q5 (fun hc=>?_) (fun hc=>?_)
 ·have hn':n<c.methods.length:=by simpa using hc
  obtain ⟨pv,cv,hv',pm,rm⟩:=gm5.elM hn'
  obtain ⟨gp,_,_,_,gr,_⟩:=rm.parts
  have hpn:=mp _ (List.getElem_mem hn')
  have hrl:=(hnm.2.2 _ (List.getElem_mem hn')).1
  have hnx:(c.methods.take (n+1)).flatMap Xf=(c.methods.take n).flatMap Xf++Xf c.methods[n]:=by
   rw[List.take_add_one,List.getElem?_eq_getElem hn',List.flatMap_append];simp
  refine U9 ?_
  (try simp only[↓M1,M1,Mb,reduceIte])
  refine ld hS5.sat hq5 rfl ?_
  refine Z4 gm5 hn' ?_
  (try simp only[↓M1,M1,Mb,reduceIte])
  refine ld hS5.sat pm rfl ?_
  refine Oy hS5 ha5 gp rfl (by omega) (by omega) fun v6 w6 hn6 hS6 ha6 _=>?_
  (try simp only[↓M1,M1,Mb,reduceIte])
  refine ld hS6.sat hq5 rfl ?_
  refine Z4 gm5 hn' ?_
  (try simp only[↓M1,M1,Mb,reduceIte])
  refine ld hS6.sat pm rfl ?_
  refine Mx ?_
  by_cases he:c.methods[n].result=[]
  ·simp only[he,decide_true,Bool.not_true,↓M1,M1,Mb,reduceIte]
   intro d
   refine Z2 gm.max hn' ⟨σ5,hS6,le5,?_⟩
   rw[hnx]
   unfold Xf
   rw[if_pos he,List.append_nil,←List.append_assoc]
   exact ha6
  ·simp only[he,decide_false,Bool.not_false,↓M1,M1,Mb,reduceIte]
   refine ld hS6.sat hq5 rfl ?_
   refine Z4 gm5 hn' ?_
   (try simp only[↓M1,M1,Mb,reduceIte])
   refine ld hS6.sat pm rfl ?_
   refine Zb (R:=J6) (x:=c.methods[n].result) hS6 ha6 ⟨rfl,Nat.le_trans hrl (by decide)⟩ rfl rfl rfl (by rw[List.length_append];omega) (by rw[List.length_append];omega) fun s v' w7 σ7 hn7 hS7 ha7 _=>?_
   intro d
   (try simp only[↓M1,M1,Mb,reduceIte])
   refine Z2 gm.max hn' ⟨σ7,hS7,le5.more hn7.le,?_⟩
   rw[hnx]
   unfold Xf at ha7⊢
   rw[if_neg he]
   simpa only[List.append_assoc] using ha7
 rw[List.take_of_length_le (by
  have: ¬n<c.methods.length:=by simpa using hc
  omega)] at ha5
 have hkn:=hkl c.methods.length
 rw[List.take_of_length_le (Nat.le_refl _)] at hkn
 have hkE:H0 l c=(Yr c).any (fun s=> !W9 l s):=Q79.symm
 have hkb: ∀s∈Yr c,s.length≤J8:=fun s hs=>by
  unfold Yr at hs
  rcases List.mem_append.1 hs with hs | hs
  ·obtain ⟨f,hf,rfl⟩:=List.mem_map.1 hs
   exact Nat.le_trans (hnm.2.1 f hf).2 (by decide)
  ·obtain ⟨m,hm,hs⟩:=List.mem_flatMap.1 hs
   unfold Xf at hs
   rcases List.mem_append.1 hs with hs | hs
   ·exact Nat.le_trans ((hnm.2.2 m hm).2 s hs) (by decide)
   ·split at hs
    ·simp at hs
    ·simp at hs;subst hs;exact Nat.le_trans (hnm.2.2 m hm).1 (by decide)
 obtain ⟨σ6,hS6,hv6,lee6,_⟩:=ha5.keep hS5
 have le6:=le5.more ⟨lee6⟩
 clear ha5 hq5 gm5 hc hn
 change Sl 1 J6 σ6 x (Yr c) at hv6
 refine U3 (Yr c).length (fun n w'=>Stp w σ w' σ6∧((Yr c).take n).any (fun s=> !W9 l s)=false) ⟨hS6,rfl⟩ fun n w7 d hn hinv=>?_
 obtain ⟨hS7,hno⟩:=hinv
 refine Q9 hv6 ?_
 refine Z1 ?_
 refine Q5 (fun hc=>?_) (fun hc=>?_)
 ·have hn':n<(Yr c).length:=by simpa using hc
  refine Z4 hv6 hn' ?_
  obtain ⟨pk,_⟩:=hv6.elS hn'
  refine X8 hS7.sat pk rfl ?_
  refine Q7a hS7.sat (hv.up hS7) (hkb _ (List.getElem_mem hn')) ?_
  have hnx:=L6 (p:=fun s=> !W9 l s) hn'
  cases hp:W9 l (Yr c)[n] with
  | false=>
   (try simp only[↓M1,M1,Mb,reduceIte])
   have:R=65:=e65 hA (by rw[hkE];exact R7 hn' (by simp[hp]))
   subst this
   exact h _ _ hS7
  | true=>
   (try simp only[↓M1,M1,Mb,reduceIte])
   exact Y3 hv6.max hn' ⟨hS7,by rw[hnx,hno,hp];rfl⟩
 have hB:H0 l c=false:=by
  have hn': ¬n<(Yr c).length:=by simpa using hc
  rw[O3 hn'] at hno;rw[hkE];exact hno
 clear hno hc hn e65 hkE hkb hkn hkl hS5 le5 lee6 hv6
 refine Q2x hS7.sat (hv.up hS7) own (by omega) hlen ok.sm fun vb w8 σ8 hk8 hb8=>?_
 have hS8:=hS7.trans hk8
 refine Kv (R:=L9) (e:=T.c) hS8 (by decide) fun x9 w9 hk9 ha9 _=>?_
 have hml: ∀n,n≤l.length→(T3 l i n).length≤32000:=fun n hn=>by
  unfold T3
  have h1:=Jl (fun k=>if Pt l i k then (l.getD k Cla.zero).methods else []) 32 (List.range n) fun k hk=>by
   have hk':k<l.length:=by have:=List.mem_range.1 hk;omega
   split
   ·rw[Hy hk'];exact (Fv (hmn _ (List.getElem_mem _))).2.1
   ·simp
  rw[List.length_range] at h1
  have h3:n*32≤1000*32:=Nat.mul_le_mul_right _ (by omega)
  omega
 have hbl:(Xb l).length=l.length:=by simp[Xb]
 refine M3 l.length (fun n x w'=> ∃σ',Stp w σ w' σ'∧SLe σ1 σ'∧SLe σ8 σ'∧V2 w.heap.size T.c 7 L9 σ' w' x (T3 l i n)) ⟨σ8,hS8.trans hk9,le6.more ⟨hk8.le⟩,SLe.refl _,ha9⟩ fun n x w10 d hn hinv=>?_
 clear ha9 hk9 hS7 hS8 le6 hS6 hk8
 obtain ⟨σ10,hS10,le10,leb,ha10⟩:=hinv
 have hv10:=hv.up hS10
 refine Q9 hv10 ?_
 refine Z1 ?_
 refine Q5 (fun hc=>?_) (fun hc=>?_)
 ·have hn':n<l.length:=by simpa using hc
  have hmn1:=hml n hn
  have hsuc:=Q5W (l:=l) (i:=i) (n:=n)
  rw[Hy hn'] at hsuc
  obtain ⟨lv2,fv2,mv2,p2,r2⟩:=hv10.elC hn'
  obtain ⟨_,_,g3,_,_⟩:=r2.parts
  have hmn2:=(Fv (hmn _ (List.getElem_mem hn'))).2.1
  refine Wt (fun z w'=>Stp w σ w' σ10∧V2 w.heap.size T.c 7 L9 σ10 w' z (T3 l i (n+1))) ?_ (fun z d w' hz=>?_)
  ·refine Q39 ?_
   have happ: ∀{J:Value→World→Prop},Pt l i n=true→(∀z w',Stp w σ w' σ10→V2 w.heap.size T.c 7 L9 σ10 w' z (T3 l i (n+1))→J z w')→
    X6 P .append [T.f,T.f] T.f [false,false] [x,mv2] w10 J:=fun hu hJ=>
    Oy hS10 ha10 g3 rfl (by omega) (by omega) fun v' w' _ hS' ha' _=>hJ v' w' hS' (by rw[hsuc,if_pos hu];exact ha')
   by_cases e:n=i
   ·have e1:decide ((n:Int)=(i:Int))=true:=by simp[e]
    rw[e1]
    (try simp only[↓M1,M1,Mb,reduceIte])
    refine Z4 hv10 hn' ?_
    (try simp only[↓M1,M1,Mb,reduceIte])
    refine ld hS10.sat p2 rfl ?_
    exact happ (by simp[Pt,e]) fun z w' h1 h2=>⟨h1,h2⟩
   ·have e1:decide ((n:Int)=(i:Int))=false:=by rw[decide_eq_false_iff_not];omega
    rw[e1]
    obtain ⟨cs1,pb,_,rv,rfl,rb⟩:=(hb8.lift leb).el (i:=i) (by rw[hbl];exact hi)
    have hrow:(Xb l)[i]'(by rw[hbl];exact hi)=(List.range l.length).map fun j=>Zo l (Y0 l i) (Y0 l j):=by simp[Xb]
    rw[hrow] at rb
    obtain ⟨cs2,pb2,_,hcs2⟩:=rb.el (i:=n) (by simpa using hn')
    have hcs2:cs2=_:=hcs2
    subst hcs2
    simp only[List.getElem_map,List.getElem_range] at pb2
    (try simp only[↓M1,M1,Mb,reduceIte])
    refine Z4 (hb8.lift leb) (by rw[hbl];exact hi) ?_
    refine X8 hS10.sat pb rfl ?_
    refine Z4 rb (by simpa using hn') ?_
    refine X8 hS10.sat pb2 rfl ?_
    (try simp only[↓M1,M1,Mb,reduceIte])
    cases ho:Zo l (Y0 l i) (Y0 l n) with
    | true=>
     (try simp only[↓M1,M1,Mb,reduceIte])
     refine Z4 hv10 hn' ?_
     (try simp only[↓M1,M1,Mb,reduceIte])
     refine ld hS10.sat p2 rfl ?_
     exact happ (by simp[Pt,ho]) fun z w' h1 h2=>⟨h1,h2⟩
    | false=>
     (try simp only[↓M1,M1,Mb,reduceIte])
     refine ⟨hS10,?_⟩
     have:Pt l i n=false:=by simp[Pt,ho,e]
     rw[hsuc,this]
     simpa using ha10
  ·obtain ⟨hS',ha'⟩:=hz
   (try simp only[↓M1,M1,Mb,reduceIte])
   exact Z2 (by omega) hn' ⟨σ10,hS',le10,leb,ha'⟩
 have hn0:n=l.length:=by
  have: ¬n<l.length:=by simpa using hc
  omega
 subst hn0
 obtain ⟨σ11,hS11,hv11,lee11,_⟩:=ha10.keep hS10
 have le11:=le10.more ⟨lee11⟩
 have hml2:=hml _ (Nat.le_refl l.length)
 have hov:Xm l c=Wn (T3 l i l.length):=by
  unfold Xm
  refine (Q5j fun m=>?_).symm
  rw[Q2v own hi,hname]
 have hlk:Mv l c=(!c.abs&&(T3 l i l.length).any fun m=>Qy l c.name m.name):=by
  unfold Mv
  congr 1
  refine (Q8u fun m=>?_).symm
  rw[Q2v own hi,hname]
 have hsn: ∀m∈T3 l i l.length,SmM m∧NmM m:=fun m hm=>by
  obtain ⟨c2,hc2,hm2⟩:=Q7j hm (Nat.le_refl _)
  exact ⟨(ok.sm c2 hc2).2.2.2 m hm2,(ok.nm c2 hc2).2.2 m hm2⟩
 generalize T3 l i l.length=ms at hov hlk hsn hml2 hv11
 clear ha10 lee11 hS10 le10 leb hv10 hml hc hb8 hbl
 refine U3 ms.length (fun n w'=> ∃σ',Stp w σ w' σ'∧SLe σ11 σ'∧ ∀a b,a<n→b<a→G1 ms a b=false) ⟨σ11,hS11,SLe.refl _,fun a b h=>by omega⟩ fun n w12 d hn hinv=>?_
 obtain ⟨σ12,hS12,le12,hno⟩:=hinv
 have hv12:=hv11.lift le12
 refine Q9 hv12 ?_
 refine Z1 ?_
 refine Q5 (fun hc=>?_) (fun hc=>?_)
 ·have hn':n<ms.length:=by simpa using hc
  refine U3 n (fun m w'=> ∃σ',Stp w σ w' σ'∧SLe σ11 σ'∧ ∀b,b<m→G1 ms n b=false) ⟨σ12,hS12,le12,fun b h=>by omega⟩ fun m w13 d hm hinv=>?_
  obtain ⟨σ13,hS13,le13,hno2⟩:=hinv
  have hv13:=hv11.lift le13
  refine Z1 ?_
  refine Q5 (fun hc=>?_) (fun hc=>?_)
  ·have hm':m<n:=by simpa using hc
   have hm2:m<ms.length:=by omega
   obtain ⟨pv1,cv1,hv1',pn,rn⟩:=hv13.elM hn'
   obtain ⟨pv2,cv2,hv2',pm,rm⟩:=hv13.elM hm2
   obtain ⟨sn1,sn2⟩:=hsn _ (List.getElem_mem hn')
   obtain ⟨sm1,sm2⟩:=hsn _ (List.getElem_mem hm2)
   have hat:G1 ms n m=(decide (ms[n].name=ms[m].name)&& !decide (K9 ms[n]=K9 ms[m])):=by
    unfold G1;rw[Hy hn',Hy hm2]
   have hs13:=hS13.sat
   have hnx:G1 ms n m=false→ ∀b,b<m+1→G1 ms n b=false:=fun e b hb=>by
    by_cases e2:b=m
    ·subst e2;exact e
    ·exact hno2 b (by omega)
   refine U6 hs13 ?_
   (repeat refine V7 Xc ?_)
   by_cases he:ms[n].name=ms[m].name
   ·have hd:decide (ms[n].name=ms[m].name)=true:=by simp[he]
    simp only[hd,reduceIte]
    (repeat (apply V7;(· intros;(repeat (rename_i hx;subst hx));(repeat' (first | (with_reducible exact H9 rfl) | (with_reducible exact F4 (Stp.bel (by (repeat (first | exact Stp.refl (by (first | assumption | exact Stp.sat (by assumption) | exact Hst.sat (by assumption))) | assumption | refine Stp.trans ?_ (by first | assumption | exact Hst.stp (by assumption)))))) rfl) | (with_reducible intro _) | (simp only[↓M2,M2,Mb,reduceIte]) | (with_reducible show Q2 _ _ _ _ _;first | refine X8 aS aL aR ?_ | refine Y4 aS aL aR ?_ | refine ld aS aL aR ?_) | (with_reducible show indexAddr _ _ _ _ _ _;refine Z4 aL au ?_) | (with_reducible show X6 _ _ _ _ _ _ _ _;refine Q9 aL ?_) | (with_reducible show Yy _ _ _ _ _ _;refine U0 aR ?_) | (with_reducible show pick _ _ _ _ _ _;refine G7 ?_) | (with_reducible show Q1 _ _ _ _ _;first | refine Q4q au au au au ?_) | (apply T8;intro hh;(try simp only[hh,reduceIte,↓M2,M2,Mb,reduceIte]))));done)))
    (intros;(repeat (rename_i hx;subst hx));(try simp only[↓M2,M2,Mb,reduceIte]))
    rename_i w14 hb14
    refine Q4q hb14.sat rm sm1 sm2 fun w15 σ15 hk15=>?_
    refine Mx ?_
    (try simp only[↓M1,M1,Mb,reduceIte])
    have hS15:=(hS13.trans hb14.stp).trans hk15
    by_cases hsg:K9 ms[n]=K9 ms[m]
    ·simp only[hsg,decide_true,Bool.not_true,↓M1,M1,Mb,reduceIte]
     refine Y3 (by omega) hm' ⟨σ15,hS15,le13.more ⟨(hb14.stp.trans hk15).le⟩,hnx ?_⟩
     rw[hat,hsg];simp
    ·simp only[hsg,decide_false,Bool.not_false,↓M1,M1,Mb,reduceIte]
     have:R=66:=e66 hA hB (by rw[hov];exact Q7s hn' hm2 (by rw[hat];simp[he,hsg]))
     subst this
     exact h _ _ hS15
   ·have hd:decide (ms[n].name=ms[m].name)=false:=by simp[he]
    simp only[hd,Bool.false_eq_true,reduceIte]
    (repeat refine V7 Xc ?_)
    (intros;(repeat (rename_i hx;subst hx));(try simp only[↓M2,M2,Mb,reduceIte]))
    rename_i w14 hb14
    (try simp only[↓M1,M1,Mb,reduceIte])
    refine Y3 (by omega) hm' ⟨σ13,hS13.trans hb14.stp,le13,hnx ?_⟩
    rw[hat];simp[he]
  ·have hm0:m=n:=by
    have: ¬m<n:=by simpa using hc
    omega
   subst hm0
   (try simp only[↓M1,M1,Mb,reduceIte])
   refine Y3 hv11.max hn' ⟨σ13,hS13,le13,fun a b ha hb=>?_⟩
   by_cases e:a=m
   ·subst e;exact hno2 b hb
   ·exact hno a b (by omega) hb
 have hC:Xm l c=false:=by
  rw[hov]
  have: ¬n<ms.length:=by simpa using hc
  exact Q92 fun x y hx hy=>hno x y (by omega) hy
 clear hno hc hn hv12 hov e66
 refine U3 ms.length (fun n w'=> ∃σ',Stp w σ w' σ'∧SLe σ11 σ'∧(c.abs=true→n=0)∧(ms.take n).any (fun m=>Qy l c.name m.name)=false) ⟨σ12,hS12,le12,fun _=>rfl,rfl⟩ fun n w13 d hn hinv=>?_
 clear hS12 le12
 obtain ⟨σ13,hS13,le13,hab,hno⟩:=hinv
 have hv13:=hv11.lift le13
 have hq13:=hq1.lift (le11.more le13)
 refine Q9 hv13 ?_
 refine Z1 ?_
 by_cases hn':n<ms.length
 ·have e1:decide ((n:Int)<(ms.length:Int))=true:=by simpa using hn'
  rw[e1]
  (try simp only[↓M1,M1,Mb,reduceIte])
  refine ld hS13.sat hq13 rfl ?_
  refine Oq ?_
  (try simp only[↓M1,M1,Mb,reduceIte])
  cases hca:c.abs with
  | true=>
   (try simp only[↓M1,M1,Mb,reduceIte])
   have:R=0:=e0 hA hB hC (by rw[hlk,hca];rfl)
   subst this
   exact h _ _ hS13
  | false=>
   (try simp only[↓M1,M1,Mb,reduceIte])
   obtain ⟨pvn,cvn,hvn,pn,rn⟩:=hv13.elM hn'
   have hs13:=hS13.sat
   have hnx:=L6 (p:=fun m:Hm.Met=>Qy l c.name m.name) hn'
   have hla:Qy l c.name ms[n].name=(!(U1 l c.name ms[n].name).isSome||(o2 (U1 l c.name ms[n].name)).abs):=by
    unfold Qy
    cases U1 l c.name ms[n].name<;>rfl
   generalize hF:(fun o:Option Obj=> ∃cs:List Value,∃e,o=some (.cells cs.toArray e (0,0))∧cs.length=7∧cs[3]? =some (.bool (o2 (U1 l c.name ms[n].name)).abs))=F
   have hFn: ¬F none:=by rw[←hF];rintro ⟨_,_,h,_⟩;cases h
   refine X0P F hs13 ?_
   (repeat (apply V7;(· intros;(repeat (rename_i hx;subst hx));(repeat' (first | (with_reducible exact Q3R rfl) | (with_reducible exact X0j (Stp.bel (by (repeat (first | exact Stp.refl (by (first | assumption | exact Stp.sat (by assumption) | exact Hst.sat (by assumption))) | assumption | refine Stp.trans ?_ (by first | assumption | exact Hst.stp (by assumption)))))) rfl) | (with_reducible intro _) | (simp only[↓M2,M2,Mb,reduceIte]) | (with_reducible show Q2 _ _ _ _ _;first | refine X8 aS aL aR ?_ | refine Y4 aS aL aR ?_ | refine ld aS aL aR ?_) | (with_reducible show indexAddr _ _ _ _ _ _;refine Z4 aL au ?_) | (with_reducible show X6 _ _ _ _ _ _ _ _;refine Q9 aL ?_) | (with_reducible show Yy _ _ _ _ _ _;refine U0 aR ?_) | (with_reducible show pick _ _ _ _ _ _;refine G7 ?_)));done)))
   refine N1 (fun v _=> ∃s,∃ds:List Value,v= .tuple #[s, .agg ds.toArray, .bool (U1 l c.name ms[n].name).isSome]∧ds.length=7∧ds[3]? =some (.bool (o2 (U1 l c.name ms[n].name)).abs)∧ ∀u∈ds,u.oneCell'=true) (fun _ _ _ h _=>h) (fun t180 t185 w hb e1 e2=>?_) ?_
   ·subst e1;subst e2
    refine Q6L hb.sat (hv.up (hS13.trans hb.stp)) ok fun pv cv hv w' σ' hk hr=>⟨.of_below hk.bel,_,_,rfl,rfl,rfl,Rep.one hr⟩
   refine N1 (fun _ _=>True) (fun _ _ _ _ _=>trivial) (fun t186 w hb e=>?_) ?_
   ·obtain ⟨s,ds,rfl,_⟩:=e
    exact Z7 (vs:=[_,_,_]) rfl ⟨.of_below (Below.refl _ _),trivial⟩
   refine N1 (fun v _=> ∃ds:List Value,v= .agg ds.toArray∧ds.length=7∧ds[3]? =some (.bool (o2 (U1 l c.name ms[n].name)).abs)∧ ∀u∈ds,u.oneCell'=true) (fun _ _ _ h _=>h) (fun t186 w hb e=>?_) ?_
   ·obtain ⟨s,ds,rfl,h7⟩:=e
    exact Z7 (vs:=[_,_,_]) rfl ⟨.of_below (Below.refl _ _),ds,rfl,h7⟩
   refine V7 (V:= .bool (U1 l c.name ms[n].name).isSome) (fun t186 w hb e=>?_) ?_
   ·obtain ⟨s,ds,rfl,h7⟩:=e
    exact Z7 (vs:=[_,_,_]) rfl (Q3R rfl)
   refine N1 (X0J w13.heap.size 7 F) (Q6X hFn) (fun w hb=>?_) ?_
   ·exact Bs hb.sat fun b w' hb2 hk hm=>⟨.of_below hk.bel,b,rfl,Nat.le_trans hb.stp.bel.size hb2, .inl ⟨_,hm.2.choose,rfl,hm.2.choose_spec⟩⟩
   refine X09 (fun xs _ w=>X0S w13.heap.size F (xs.headD undef) w) (fun xs _ w w' h hT=>Q6n hFn _ w w' h hT) (fun t18 t188 w hb e1 e2=>?_) ?_
   ·obtain ⟨g,rfl,hg,hd⟩:=e1
    obtain ⟨ds,rfl,h7,h3,h1⟩:=e2
    obtain ⟨cs,e,hl7,hh⟩: ∃cs:List Value,∃e,cs.length=7∧w.heap[g]? =some (.cells cs.toArray e (0,0)):=by
     rcases hd with h | h
     ·exact h
     ·rw[←hF] at h
      obtain ⟨cs,e,h4,h5,_⟩:=h
      exact ⟨cs,e,h5,h4⟩
    refine sta (σ:=fun _=>none) (cs:=cs) (ds:=ds) ⟨rfl,e,hh⟩ hl7 h7 (by rw[List.all_toArray];exact List.all_eq_true.2 h1) fun w' hu hm=>?_
    have hFg:F (w'.heap[g]?):=by
     obtain ⟨_,e',hm'⟩:=hm
     rw[hm',←hF]
     exact ⟨ds,e',rfl,h7,h3⟩
    exact ⟨FinT.of_upd hu hg hFg,g,rfl,hg,hFg⟩
   rintro t179 t183 t184 t180 t185 t186 t187 t188 t189 t18 u15 w14 hb14 rfl rfl rfl rfl rfl _ _ _ rfl _ ⟨g,e,hg,hd⟩
   have e:t18=_:=e
   subst e
   rw[←hF] at hd
   obtain ⟨cs,ty,hh,hl7,h3⟩:=hd
   have hS14:=hS13.trans hb14.stp
   refine Oq ?_
   cases hsm:(U1 l c.name ms[n].name).isSome with
   | false=>
    (try simp only[↓M1,M1,Mb,reduceIte])
    have:R=67:=e67 hA hB hC (by rw[hlk,hca];exact R7 hn' (by rw[hla,hsm];rfl))
    subst this
    exact h _ _ hS14
   | true=>
    (try simp only[↓M1,M1,Mb,reduceIte])
    refine Pz (σ:=fun _=>none) ⟨rfl,ty,hh⟩ h3 ?_
    (try simp only[↓M1,M1,Mb,reduceIte])
    cases hma:(o2 (U1 l c.name ms[n].name)).abs with
    | true=>
     (try simp only[↓M1,M1,Mb,reduceIte])
     have:R=67:=e67 hA hB hC (by rw[hlk,hca];exact R7 hn' (by rw[hla,hma,Bool.or_true]))
     subst this
     exact h _ _ hS14
    | false=>
     (try simp only[↓M1,M1,Mb,reduceIte])
     refine Y3 hv11.max hn' ⟨σ13,hS14,le13,fun e=>False.elim (by simpa using e),?_⟩
     rw[hnx,hno,hla,hsm,hma];rfl
 ·have e1:decide ((n:Int)<(ms.length:Int))=false:=by simpa using hn'
  rw[e1]
  (try simp only[↓M1,M1,Mb,reduceIte])
  rw[O3 hn'] at hno
  have:R=0:=e0 hA hB hC (by rw[hlk,hno,Bool.and_false])
  subst this
  exact h _ _ hS13)
end Go.Proofs.YtjdiakhipmggjaaGreatDoor

namespace Go.Proofs.YtjdiakhipmggjaaGreatDoor
open Go.Emb Go.RowKit Go.Kd Go.Hm
variable {w : World} {K : Value → World → Prop} {σ : Q4} {l : List Cla} {v : Value}
theorem Q9F {w0:World} {σ0:Q4} {frm:Nat} (ha:Xv l) (ho:F2 l) (hl:l.length≤1000) (ap: ∀c∈l,K5 c) (hf:0<frm) (ay: ∀i (D:i<l.length),frm≤i→ ∀u∈J3 l[i],∃j,Y2 l u=some j): ∀(k:Nat) {i:Nat} {b:List Nat} {x:Value} {w:World} {σ:Q4} {K:Value→World→Prop},i<l.length→B2 l (Y0 l i)<k→Tu l b→Stp w0 σ0 w σ→Sl 8 U4 σ v l→V2 w0.heap.size T.d 1 Uj σ w x (ints b)→
 (∀x' w' L,Stp w0 σ0 w' L→SLe σ L→V2 w0.heap.size T.d 1 Uj L w' x' (ints (A0 l frm b i))→K x' w')→Q1 P F.aO [v,x,I frm,I i] w K:=by
 intro k
 induction k with
 | zero=>intro i b x w σ K D hk;omega
 | succ k ih=>
  intro i b x w σ K D hk C hS hv hx h
  refine Ky ?_
  unfold Nk
  rw[Q5y ha ho hf b D] at h
  refine Z1 ?_
  refine Q5 (fun U=>?_) (fun U=>?_)
  ·have U:i<frm:=by have:=of_decide_eq_true U;omega
   rw[if_pos U] at h
   exact h _ _ _ hS (SLe.refl _) hx
  have U: ¬i<frm:=by have:=of_decide_eq_false U;omega
  rw[if_neg U] at h
  have bp:=C.len
  refine U3 b.length (fun n w'=>w'=w∧ ∀m (hm:m<b.length),m<n→b[m]≠i) ⟨rfl,fun m _ h=>by omega⟩ fun n w2 d hn o=>?_
  obtain ⟨hw,J⟩:=o
  subst hw
  refine Q6w hx ?_
  rw[show (ints b).length=b.length from by simp]
  refine Z1 ?_
  refine Q5 (fun A=>?_) (fun A=>?_)
  ·have f:n<b.length:=by simpa using A
   refine Q3t (J9.of_acc hx) (n:=n) (by simpa using f) fun a cs an bq hr=>?_
   obtain ⟨rfl,_⟩:=hr
   refine T7 (by have:=an 0 _ rfl;rwa [add_zero] at this) ?_
   simp only[List.getElem_map]
   refine Q39 ?_
   by_cases e:b[n]=i
   ·have:decide ((b[n]:Int)=i)=true:=by simp[e]
    rw[this]
    refine L7 ?_
    rw[if_pos (e▸List.getElem_mem f)] at h
    exact h _ _ _ hS (SLe.refl _) hx
   ·have:decide ((b[n]:Int)=i)=false:=by rw[decide_eq_false_iff_not];omega
    rw[this]
    refine M0 ?_
    refine M7 ?_
    refine Y3 (by omega) f ⟨rfl,fun m hm bs=>?_⟩
    by_cases e2:m=n
    ·subst e2;exact e
    ·exact J m hm (by omega)
  ·have f: ¬n<b.length:=by simpa using A
   have E:i∉b:=fun aq=>by
    obtain ⟨m,hm,e⟩:=List.getElem_of_mem aq
    exact J m hm (by omega) e
   rw[if_neg E] at h
   have V:l.getD i Cla.zero=l[i]:=by rw[List.getD_eq_getElem?_getD,List.getElem?_eq_getElem D];rfl
   rw[V] at h
   have aw:=ay i D (by omega)
   obtain ⟨lv,fv,mv,p1,r1⟩:=hv.elC D
   obtain ⟨g1,_,_,_,g5⟩:=r1.parts
   have B:=ap _ (List.getElem_mem D)
   clear J E A hn
   refine U6 hS.sat ?_
   (repeat refine V7 Xc ?_)
   refine Q23 (w:=w2) (σ:=σ) (R:=J6) (sz:=1) (e:=T.b) [l[i].super] (fun t w hb e=>?_) ?_
   ·subst e;exact Xa hb.stp [_] [l[i].super] rfl rfl (by simp;rfl) rfl ⟨⟨rfl,g5⟩,trivial⟩ fun v' w' hk ha _=>Q3K hb hk ha
   (repeat refine V7 Xc ?_)
   rintro bu bo bd bk bf bb bl w4 am rfl rfl rfl rfl rfl ⟨ac,W⟩ rfl
   refine Oy ac W g1 rfl (by simp;have:=B.1;omega) (by simp;have:=B.1;omega) fun v5 w5 ao X aa ag=>?_
   obtain ⟨σ6,q,Q,ba,_⟩:=aa.keep X
   have Q:Sl 1 J6 σ6 v5 (J3 l[i]):=Q
   have ax:=hx.up q
   have Z:=hv.up q
   have ab:=hS.trans q
   have ae:SLe σ σ6:=⟨q.le⟩
   clear ao ag aa W ac am X
   refine M3 (J3 l[i]).length (fun n x w'=> ∃L p,Stp w0 σ0 w' L∧SLe σ6 L∧V2 w0.heap.size T.d 1 Uj L w' x (ints p)∧Tu l p∧p=((J3 l[i]).take n).foldl (fun b n=>A0 l frm b ((Y2 l n).getD 0)) b) ⟨σ6,b,ab,SLe.refl _,ax,C,rfl⟩ fun n x7 w7 d hn o=>?_
   obtain ⟨σ7,a5,z,y,ad,g,M⟩:=o
   have r:=Q.lift y
   refine Q9 r ?_
   refine Z1 ?_
   refine Q5 (fun A=>?_) (fun A=>?_)
   ·have f:n<(J3 l[i]).length:=by simpa using A
    refine Z4 r f ?_
    obtain ⟨p7,_⟩:=r.elS f
    refine X8 z.sat p7 rfl ?_
    have H:=Z.lift y
    refine P2 z.sat H ?_
    obtain ⟨j,hj⟩:=aw _ (List.getElem_mem f)
    have br:=Ao ha ho D (by rw[V];exact List.getElem_mem f) hj
    have Y:=(H6 hj).1
    simp only[hj,W0]
    refine ih Y (by omega) g z H ad fun x8 w8 σ8 O a0 N=>?_
    refine M7 ?_
    refine Z2 r.max f ⟨σ8,_,O,y.more a0,N,Bj ha ho hf _ _ _ Y g,?_⟩
    rw[List.take_add_one,List.getElem?_eq_getElem f,List.foldl_append,←M]
    simp[hj]
   ·have f: ¬n<(J3 l[i]).length:=by simpa using A
    rw[List.take_of_length_le (by omega)] at M
    have bw:=g.len
    refine Zb (R:=Uj) (x:=(i:Int)) z ad ⟨rfl,by omega,by omega⟩ rfl rfl rfl (by simp;omega) (by simp;omega) fun s x8 w8 σ8 az O N _=>?_
    refine h _ _ _ O ((ae.more y).more az.le) ?_
    rw[←M]
    simpa [ints] using N
end Go.Proofs.YtjdiakhipmggjaaGreatDoor

namespace Go.Hm
open Go.Kd
def D8 (n i b:Nat):Bool:=decide (i<n)&&decide (128≤b)&&decide (b<192)
def Yb (n a b c d:Nat):Nat:=
 if a<128 then 1
 else if (decide (194≤a)&&decide (a<224)&&D8 n 1 b)=true then 2
 else if (decide (224≤a)&&decide (a<240)&&D8 n 1 b&&D8 n 2 c)=true then
  (if 2048≤a % 16*4096+b % 64*64+c % 64∧(a % 16*4096+b % 64*64+c % 64<55296∨57343<a % 16*4096+b % 64*64+c % 64) then 3 else 0)
 else if (decide (240≤a)&&decide (a<245)&&D8 n 1 b&&D8 n 2 c&&D8 n 3 d)=true then
  (if 65536≤a % 8*262144+b % 64*4096+c % 64*64+d % 64∧a % 8*262144+b % 64*4096+c % 64*64+d % 64≤1114111 then 4 else 0)
 else 0
theorem Q90 (n a b c d:Nat) (p:a<256) (q:b<256) (t:c<256) (s:d<256):
 Yb n a b c d=if (Lib.decodeN n a b c d).1=65533∧(Lib.decodeN n a b c d).2=1 then 0 else (Lib.decodeN n a b c d).2:=by
 have key: ∀v k:Nat,Lib.decodeN n a b c d=(v,k)→ ¬k=1→Yb n a b c d=k→Yb n a b c d=if (Lib.decodeN n a b c d).1=65533∧(Lib.decodeN n a b c d).2=1 then 0 else (Lib.decodeN n a b c d).2:=by
  intro v k h o m
  rw[h,m,if_neg (fun e=>o e.2)]
 have f:Lib.decodeN n a b c d=(65533,1)→Yb n a b c d=0→Yb n a b c d=if (Lib.decodeN n a b c d).1=65533∧(Lib.decodeN n a b c d).2=1 then 0 else (Lib.decodeN n a b c d).2:=by
  intro h m
  rw[h,m];simp
 by_cases c0:a<128
 ·have h:Lib.decodeN n a b c d=(a,1):=by unfold Lib.decodeN;rw[if_pos c0]
  rw[h,if_neg (by simp only;omega)]
  unfold Yb;rw[if_pos c0]
 by_cases i:a / 32=6∧(1<n∧b / 64=2)
 ·by_cases g:a % 32*64+b % 64≥128
  ·refine key _ 2 (by unfold Lib.decodeN;rw[if_neg c0,if_pos i,if_pos g]) (by decide) ?_
   unfold Yb D8
   simp only[Bool.and_eq_true,decide_eq_true_eq]
   rw[if_neg c0,if_pos (by omega)]
  ·refine f (by unfold Lib.decodeN;rw[if_neg c0,if_pos i,if_neg g]) ?_
   unfold Yb D8
   simp only[Bool.and_eq_true,decide_eq_true_eq]
   rw[if_neg c0,if_neg (by omega),if_neg (by omega),if_neg (by omega)]
 by_cases j:a / 16=14∧(1<n∧b / 64=2)∧(2<n∧c / 64=2)
 ·by_cases g:2048≤a % 16*4096+b % 64*64+c % 64∧(a % 16*4096+b % 64*64+c % 64<55296∨57343<a % 16*4096+b % 64*64+c % 64)
  ·refine key _ 3 (by unfold Lib.decodeN;rw[if_neg c0,if_neg i,if_pos j,if_pos (by omega)]) (by decide) ?_
   unfold Yb D8
   simp only[Bool.and_eq_true,decide_eq_true_eq]
   rw[if_neg c0,if_neg (by omega),if_pos (by omega),if_pos g]
  ·refine f (by unfold Lib.decodeN;rw[if_neg c0,if_neg i,if_pos j,if_neg (by omega)]) ?_
   unfold Yb D8
   simp only[Bool.and_eq_true,decide_eq_true_eq]
   rw[if_neg c0,if_neg (by omega),if_pos (by omega),if_neg g]
 by_cases l:a / 8=30∧(1<n∧b / 64=2)∧(2<n∧c / 64=2)∧(3<n∧d / 64=2)
 ·by_cases g:65536≤a % 8*262144+b % 64*4096+c % 64*64+d % 64∧a % 8*262144+b % 64*4096+c % 64*64+d % 64≤1114111
  ·refine key _ 4 (by unfold Lib.decodeN;rw[if_neg c0,if_neg i,if_neg j,if_pos l,if_pos (by omega)]) (by decide) ?_
   unfold Yb D8
   simp only[Bool.and_eq_true,decide_eq_true_eq]
   rw[if_neg c0,if_neg (by omega),if_neg (by omega),if_pos (by omega),if_pos g]
  ·refine f (by unfold Lib.decodeN;rw[if_neg c0,if_neg i,if_neg j,if_pos l,if_neg (by omega)]) ?_
   unfold Yb D8
   simp only[Bool.and_eq_true,decide_eq_true_eq]
   rw[if_neg c0,if_neg (by omega),if_neg (by omega)]
   by_cases r:a<245
   ·rw[if_pos (by omega),if_neg g]
   ·rw[if_neg (by omega)]
 ·refine f (by unfold Lib.decodeN;rw[if_neg c0,if_neg i,if_neg j,if_neg l]) ?_
  unfold Yb D8
  simp only[Bool.and_eq_true,decide_eq_true_eq]
  rw[if_neg c0,if_neg (by omega),if_neg (by omega),if_neg (by omega)]
def X3 (l:X0) (i:Nat):Nat:=(l.getD i 0).toNat
theorem Qe (l:X0) (i:Nat):X3 l i<256:=(l.getD i 0).toNat_lt
def Yc (l:X0):Nat:=Yb l.length (X3 l 0) (X3 l 1) (X3 l 2) (X3 l 3)
theorem Q4o (l:X0):Yc l=if (Lib.decodeL l).1=65533∧(Lib.decodeL l).2=1 then 0 else (Lib.decodeL l).2:=by
 rw[Lib.decodeL_N]
 exact Q90 _ _ _ _ _ (Qe l 0) (Qe l 1) (Qe l 2) (Qe l 3)
theorem Q7T {l:X0} (a:l≠[]) (h:Yc l≠0):1≤Yc l∧Yc l≤l.length:=by
 have b:=Lib.decodeL_le l a
 have c:=Lib.decodeL_width l
 rw[Q4o] at h⊢
 split at h
 ·exact absurd rfl h
 ·rw[if_neg (by assumption)];omega
theorem Q6i {f:Nat} {l:X0} (a:l≠[]):Lib.validGoD (f+1) l=if Yc l=0 then false else Lib.validGoD f (l.drop (Yc l)):=by
 have b:=Lib.decodeL_width l
 simp only[Lib.validGoD,if_neg a]
 rw[Q4o]
 split
 ·rw[if_pos rfl]
 ·rw[if_neg (by omega)]
end Go.Hm
namespace Go.Emb
open Go.RowKit
theorem Q3T {P:Program} {w:World} {K:Value→World→Prop} {k:IntKind} {t:TypeId} {d b:Operand} {a c:Int} (f:0<c∧0≤a) (h:K (.int k (a % c)) w):Q3 P .rem t d b (.int k a) (.int k c) w K:=by
 have e:Q3 P .rem t d b (.int k a) (.int k c) w K=K (.int k (a.tmod c)) w:=X7 (by simp[eqGuard,Go.binOp,Op.intDiv];intro e;omega)
 rw[e,Int.tmod_eq_emod_of_nonneg f.2];exact h
end Go.Emb
namespace Go.Proofs.YtjdiakhipmggjaaGreatDoor
open Go.Emb Go.RowKit Go.Kd Go.Hm
variable {w : World} {K : Value → World → Prop} {σ : Q4}
theorem Wj {a:X0} {i:Nat} (b:i<a.length) (h:K (.int .u8 (X3 a i)) w):D7 P T.b (S a) (I i) w K:=by
 rw[T6 X9 (by omega) (by simpa using b)]
 have:(a[(i:Int).toNat]'(by simpa using b)).toNat=X3 a i:=by
  unfold X3
  rw[List.getD_eq_getElem?_getD,List.getElem?_eq_getElem b];rfl
 rw[this];exact h
theorem Q1V {n:Int} (a:0≤n∧n<256) (h:K (I n) w):conv P T.a0 T.d (.int .u8 n) w K:=by
 rw[Bg Q1Y Q9f,S8 (by omega) (by omega)];exact h
theorem Ut {a:X0} {i:Nat} (h:K (.bool (D8 a.length i (X3 a i))) w):Q1 P F.p [S a,I i] w K:=Fo (by
 unfold Wk
 unfold D8 at h
 simp only[↓M1,M1,Mb,reduceIte]
 by_cases b:i<a.length
 ·have d:decide ((i:Int)<a.length)=true:=by rw[decide_eq_true_eq];omega
  have c:decide (i<a.length)=true:=by simpa using b
  rw[c] at h
  simp only[d,↓M1,M1,Mb,reduceIte]
  refine Wj b ?_
  (try simp only[↓M1,M1,Mb,reduceIte])
  have f:decide ((128:Int)≤(X3 a i:Int))=decide (128≤X3 a i):=by rw[Bool.eq_iff_iff,decide_eq_true_eq,decide_eq_true_eq];omega
  have g:decide ((X3 a i:Int)<192)=decide (X3 a i<192):=by rw[Bool.eq_iff_iff,decide_eq_true_eq,decide_eq_true_eq];omega
  rw[f]
  cases e:decide (128≤X3 a i) with
  | true=>
   rw[e] at h
   simp only[↓M1,M1,Mb,reduceIte]
   refine Wj b ?_
   simp only[g,↓M1,M1,Mb,reduceIte]
   simpa using h
  | false=>
   rw[e] at h
   simp only[↓M1,M1,Mb,reduceIte]
   simpa using h
 ·have d:decide ((i:Int)<a.length)=false:=by rw[decide_eq_false_iff_not];omega
  have c:decide (i<a.length)=false:=by simpa using b
  rw[c] at h
  simp only[d,↓M1,M1,Mb,reduceIte]
  simpa using h)
def Yh (a:X0):Nat:=X3 a 0 % 16*4096+X3 a 1 % 64*64+X3 a 2 % 64
def Ev (a:X0):Nat:=X3 a 0 % 8*262144+X3 a 1 % 64*4096+X3 a 2 % 64*64+X3 a 3 % 64
theorem Q7u (a:X0):Yc a=if X3 a 0<128 then 1
 else if (decide (194≤X3 a 0)&&decide (X3 a 0<224)&&D8 a.length 1 (X3 a 1))=true then 2
 else if (decide (224≤X3 a 0)&&decide (X3 a 0<240)&&D8 a.length 1 (X3 a 1)&&D8 a.length 2 (X3 a 2))=true then
  (if 2048≤Yh a∧(Yh a<55296∨57343<Yh a) then 3 else 0)
 else if (decide (240≤X3 a 0)&&decide (X3 a 0<245)&&D8 a.length 1 (X3 a 1)&&D8 a.length 2 (X3 a 2)&&D8 a.length 3 (X3 a 3))=true then
  (if 65536≤Ev a∧Ev a≤1114111 then 4 else 0)
 else 0:=rfl
set_option maxHeartbeats 2000000 in
theorem Q8K {a:X0} (hne:a≠[]) (hs:X4 w σ) (h: ∀w',Below w.heap.size w w'→K (I (Yc a)) w'):Q1 P F.br [S a] w K:=Ib (by
 unfold Me
 have hl:0<a.length:=List.length_pos_iff.2 hne
 have b0:=Qe a 0
 have b1:=Qe a 1
 have b2:=Qe a 2
 have b3:=Qe a 3
 refine Wj (i:=0) hl ?_
 refine Q1V (by omega) ?_
 refine Wt (fun _ w'=>Below w.heap.size w w'∧Yc a=0) ?_ (fun _ d w' hx=>by
  have:=h w' hx.1
  rw[hx.2] at this
  exact this)
 have hK: ∀n w',Below w.heap.size w w'→Yc a=n→K (I n) w':=fun n w' hb e=>by rw[←e];exact h w' hb
 clear h
 have hcm:=Q7u a
 simp only[↓M1,M1,Mb,reduceIte]
 refine Q5 (fun h1=>?_) (fun h1=>?_)
 ·have:X3 a 0<128:=by have:=of_decide_eq_true h1;omega
  exact hK 1 _ (Below.refl _ _) (by rw[hcm,if_pos this])
 have c0: ¬X3 a 0<128:=by have:=of_decide_eq_false h1;omega
 rw[if_neg c0] at hcm
 by_cases c1:X3 a 0<194
 ·have i1:decide ((194:Int)≤X3 a 0)=false:=by rw[decide_eq_false_iff_not];omega
  have n1:decide (194≤X3 a 0)=false:=by rw[decide_eq_false_iff_not];omega
  have i2:decide ((X3 a 0:Int)<224)=true:=by rw[decide_eq_true_eq];omega
  have n2:decide (X3 a 0<224)=true:=by rw[decide_eq_true_eq];omega
  have i3:decide ((224:Int)≤X3 a 0)=false:=by rw[decide_eq_false_iff_not];omega
  have n3:decide (224≤X3 a 0)=false:=by rw[decide_eq_false_iff_not];omega
  have i4:decide ((X3 a 0:Int)<240)=true:=by rw[decide_eq_true_eq];omega
  have n4:decide (X3 a 0<240)=true:=by rw[decide_eq_true_eq];omega
  have i5:decide ((240:Int)≤X3 a 0)=false:=by rw[decide_eq_false_iff_not];omega
  have n5:decide (240≤X3 a 0)=false:=by rw[decide_eq_false_iff_not];omega
  have i6:decide ((X3 a 0:Int)<245)=true:=by rw[decide_eq_true_eq];omega
  have n6:decide (X3 a 0<245)=true:=by rw[decide_eq_true_eq];omega
  simp only[i1,i2,i3,i4,i5,i6,↓M1,M1,Mb,reduceIte]
  exact ⟨Below.refl _ _,by rw[hcm];simp only[n1,n2,n3,n4,n5,n6,Bool.and_true,Bool.true_and,Bool.false_and,Bool.and_false,Bool.false_eq_true,if_true,if_false,reduceIte]⟩
 by_cases c2:X3 a 0<224
 ·have i1:decide ((194:Int)≤X3 a 0)=true:=by rw[decide_eq_true_eq];omega
  have n1:decide (194≤X3 a 0)=true:=by rw[decide_eq_true_eq];omega
  have i2:decide ((X3 a 0:Int)<224)=true:=by rw[decide_eq_true_eq];omega
  have n2:decide (X3 a 0<224)=true:=by rw[decide_eq_true_eq];omega
  have i3:decide ((224:Int)≤X3 a 0)=false:=by rw[decide_eq_false_iff_not];omega
  have n3:decide (224≤X3 a 0)=false:=by rw[decide_eq_false_iff_not];omega
  have i4:decide ((X3 a 0:Int)<240)=true:=by rw[decide_eq_true_eq];omega
  have n4:decide (X3 a 0<240)=true:=by rw[decide_eq_true_eq];omega
  have i5:decide ((240:Int)≤X3 a 0)=false:=by rw[decide_eq_false_iff_not];omega
  have n5:decide (240≤X3 a 0)=false:=by rw[decide_eq_false_iff_not];omega
  have i6:decide ((X3 a 0:Int)<245)=true:=by rw[decide_eq_true_eq];omega
  have n6:decide (X3 a 0<245)=true:=by rw[decide_eq_true_eq];omega
  simp only[i1,i2,i3,i4,i5,i6,↓M1,M1,Mb,reduceIte]
  refine Ut (i:=1) ?_
  cases A1:D8 a.length 1 (X3 a 1) with
  | true=>simp only[↓M1,M1,Mb,reduceIte];exact hK 2 _ (Below.refl _ _) (by rw[hcm];simp only[A1,n1,n2,n3,n4,n5,n6,Bool.and_true,Bool.true_and,Bool.false_and,Bool.and_false,Bool.false_eq_true,if_true,if_false,reduceIte])
  | false=>simp only[↓M1,M1,Mb,reduceIte];exact ⟨Below.refl _ _,by rw[hcm];simp only[A1,n1,n2,n3,n4,n5,n6,Bool.and_true,Bool.true_and,Bool.false_and,Bool.and_false,Bool.false_eq_true,if_true,if_false,reduceIte]⟩
 by_cases c3:X3 a 0<240
 ·have i1:decide ((194:Int)≤X3 a 0)=true:=by rw[decide_eq_true_eq];omega
  have n1:decide (194≤X3 a 0)=true:=by rw[decide_eq_true_eq];omega
  have i2:decide ((X3 a 0:Int)<224)=false:=by rw[decide_eq_false_iff_not];omega
  have n2:decide (X3 a 0<224)=false:=by rw[decide_eq_false_iff_not];omega
  have i3:decide ((224:Int)≤X3 a 0)=true:=by rw[decide_eq_true_eq];omega
  have n3:decide (224≤X3 a 0)=true:=by rw[decide_eq_true_eq];omega
  have i4:decide ((X3 a 0:Int)<240)=true:=by rw[decide_eq_true_eq];omega
  have n4:decide (X3 a 0<240)=true:=by rw[decide_eq_true_eq];omega
  have i5:decide ((240:Int)≤X3 a 0)=false:=by rw[decide_eq_false_iff_not];omega
  have n5:decide (240≤X3 a 0)=false:=by rw[decide_eq_false_iff_not];omega
  have i6:decide ((X3 a 0:Int)<245)=true:=by rw[decide_eq_true_eq];omega
  have n6:decide (X3 a 0<245)=true:=by rw[decide_eq_true_eq];omega
  simp only[i1,i2,i3,i4,i5,i6,↓M1,M1,Mb,reduceIte]
  refine Ut (i:=1) ?_
  cases A1:D8 a.length 1 (X3 a 1) with
  | false=>simp only[↓M1,M1,Mb,reduceIte];exact ⟨Below.refl _ _,by rw[hcm];simp only[A1,n1,n2,n3,n4,n5,n6,Bool.and_true,Bool.true_and,Bool.false_and,Bool.and_false,Bool.false_eq_true,if_true,if_false,reduceIte]⟩
  | true=>
  simp only[↓M1,M1,Mb,reduceIte]
  refine Ut (i:=2) ?_
  cases A2:D8 a.length 2 (X3 a 2) with
  | false=>simp only[↓M1,M1,Mb,reduceIte];exact ⟨Below.refl _ _,by rw[hcm];simp only[A1,A2,n1,n2,n3,n4,n5,n6,Bool.and_true,Bool.true_and,Bool.false_and,Bool.and_false,Bool.false_eq_true,if_true,if_false,reduceIte]⟩
  | true=>
  simp only[↓M1,M1,Mb,reduceIte]
  simp only[A1,A2,n1,n2,n3,n4,n5,n6,Bool.and_true,Bool.true_and,Bool.false_and,Bool.and_false,Bool.false_eq_true,if_true,if_false,reduceIte] at hcm
  have hl1:1<a.length:=by unfold D8 at A1;simp only[Bool.and_eq_true,decide_eq_true_eq] at A1;exact A1.1.1
  have hl2:2<a.length:=by unfold D8 at A2;simp only[Bool.and_eq_true,decide_eq_true_eq] at A2;exact A2.1.1
  have hw:IntKind.i64.wrap (IntKind.i64.wrap (IntKind.i64.wrap ((X3 a 0:Int) % 16*4096)+IntKind.i64.wrap ((X3 a 1:Int) % 64*64))+(X3 a 2:Int) % 64)=((Yh a:Nat):Int):=by
   rw[S8 (n:=(X3 a 0:Int) % 16*4096) (by omega) (by omega),S8 (n:=(X3 a 1:Int) % 64*64) (by omega) (by omega),S8 (n:=_+(X3 a 1:Int) % 64*64) (by omega) (by omega),S8 (by omega) (by omega)]
   unfold Yh;omega
  refine U6 hs ?_
  have hx1: ∀{w':World} {K:Value→World→Prop},K (.int .u8 (X3 a 1)) w'→D7 P T.b (S a) (.int .i64 1) w' K:=fun hK=>Wj (i:=1) hl1 hK
  have hx2: ∀{w':World} {K:Value→World→Prop},K (.int .u8 (X3 a 2)) w'→D7 P T.b (S a) (.int .i64 2) w' K:=fun hK=>Wj (i:=2) hl2 hK
  (repeat (apply V7;(· intros;(repeat (rename_i hx;subst hx));(repeat' (first | (with_reducible exact H9 rfl) | (with_reducible exact F4 (Stp.bel (by (repeat (first | exact Stp.refl (by (first | assumption | exact Stp.sat (by assumption) | exact Hst.sat (by assumption))) | assumption | refine Stp.trans ?_ (by first | assumption | exact Hst.stp (by assumption)))))) rfl) | (with_reducible intro _) | (simp only[↓M2,M2,Mb,reduceIte]) | (with_reducible refine Q3T au ?_) | (with_reducible refine Q1V au ?_) | (with_reducible refine hx1 ?_) | (with_reducible refine hx2 ?_) | (with_reducible show Q2 _ _ _ _ _;first | refine X8 aS aL aR ?_ | refine Y4 aS aL aR ?_ | refine ld aS aL aR ?_) | (with_reducible show indexAddr _ _ _ _ _ _;refine Z4 aL au ?_) | (with_reducible show X6 _ _ _ _ _ _ _ _;refine Q9 aL ?_) | (with_reducible show Yy _ _ _ _ _ _;refine U0 aR ?_) | (with_reducible show pick _ _ _ _ _ _;refine G7 ?_) | (apply T8;intro hh;(try simp only[hh,reduceIte,↓M2,M2,Mb,reduceIte]))));done)))
  (intros;(repeat (rename_i hx;subst hx));(try simp only[↓M2,M2,Mb,reduceIte]))
  rename_i w2 hb2
  simp only[hw]
  have hb:=hb2.stp.bel
  by_cases e1:2048≤Yh a
  ·by_cases e2:Yh a<55296
   ·simp only[(show decide ((2048:Int)≤(Yh a:Int))=true by rw[decide_eq_true_eq];omega),(show decide ((Yh a:Int)<55296)=true by rw[decide_eq_true_eq];omega),↓M1,M1,Mb,reduceIte]
    exact hK 3 _ hb (by rw[hcm,if_pos ⟨e1, .inl e2⟩])
   ·by_cases e3:57343<Yh a
    ·simp only[(show decide ((2048:Int)≤(Yh a:Int))=true by rw[decide_eq_true_eq];omega),(show decide ((Yh a:Int)<55296)=false by rw[decide_eq_false_iff_not];omega),(show decide ((57343:Int)<(Yh a:Int))=true by rw[decide_eq_true_eq];omega),↓M1,M1,Mb,reduceIte]
     exact hK 3 _ hb (by rw[hcm,if_pos ⟨e1, .inr e3⟩])
    ·simp only[(show decide ((2048:Int)≤(Yh a:Int))=true by rw[decide_eq_true_eq];omega),(show decide ((Yh a:Int)<55296)=false by rw[decide_eq_false_iff_not];omega),(show decide ((57343:Int)<(Yh a:Int))=false by rw[decide_eq_false_iff_not];omega),↓M1,M1,Mb,reduceIte]
     exact ⟨hb,by rw[hcm,if_neg (by omega)]⟩
  ·simp only[(show decide ((2048:Int)≤(Yh a:Int))=false by rw[decide_eq_false_iff_not];omega),↓M1,M1,Mb,reduceIte]
   exact ⟨hb,by rw[hcm,if_neg (by omega)]⟩
 by_cases c4:X3 a 0<245
 ·have i1:decide ((194:Int)≤X3 a 0)=true:=by rw[decide_eq_true_eq];omega
  have n1:decide (194≤X3 a 0)=true:=by rw[decide_eq_true_eq];omega
  have i2:decide ((X3 a 0:Int)<224)=false:=by rw[decide_eq_false_iff_not];omega
  have n2:decide (X3 a 0<224)=false:=by rw[decide_eq_false_iff_not];omega
  have i3:decide ((224:Int)≤X3 a 0)=true:=by rw[decide_eq_true_eq];omega
  have n3:decide (224≤X3 a 0)=true:=by rw[decide_eq_true_eq];omega
  have i4:decide ((X3 a 0:Int)<240)=false:=by rw[decide_eq_false_iff_not];omega
  have n4:decide (X3 a 0<240)=false:=by rw[decide_eq_false_iff_not];omega
  have i5:decide ((240:Int)≤X3 a 0)=true:=by rw[decide_eq_true_eq];omega
  have n5:decide (240≤X3 a 0)=true:=by rw[decide_eq_true_eq];omega
  have i6:decide ((X3 a 0:Int)<245)=true:=by rw[decide_eq_true_eq];omega
  have n6:decide (X3 a 0<245)=true:=by rw[decide_eq_true_eq];omega
  simp only[i1,i2,i3,i4,i5,i6,↓M1,M1,Mb,reduceIte]
  refine Ut (i:=1) ?_
  cases A1:D8 a.length 1 (X3 a 1) with
  | false=>simp only[↓M1,M1,Mb,reduceIte];exact ⟨Below.refl _ _,by rw[hcm];simp only[A1,n1,n2,n3,n4,n5,n6,Bool.and_true,Bool.true_and,Bool.false_and,Bool.and_false,Bool.false_eq_true,if_true,if_false,reduceIte]⟩
  | true=>
  simp only[↓M1,M1,Mb,reduceIte]
  refine Ut (i:=2) ?_
  cases A2:D8 a.length 2 (X3 a 2) with
  | false=>simp only[↓M1,M1,Mb,reduceIte];exact ⟨Below.refl _ _,by rw[hcm];simp only[A1,A2,n1,n2,n3,n4,n5,n6,Bool.and_true,Bool.true_and,Bool.false_and,Bool.and_false,Bool.false_eq_true,if_true,if_false,reduceIte]⟩
  | true=>
  simp only[↓M1,M1,Mb,reduceIte]
  refine Ut (i:=3) ?_
  cases A3:D8 a.length 3 (X3 a 3) with
  | false=>simp only[↓M1,M1,Mb,reduceIte];exact ⟨Below.refl _ _,by rw[hcm];simp only[A1,A2,A3,n1,n2,n3,n4,n5,n6,Bool.and_true,Bool.true_and,Bool.false_and,Bool.and_false,Bool.false_eq_true,if_true,if_false,reduceIte]⟩
  | true=>
  simp only[↓M1,M1,Mb,reduceIte]
  simp only[A1,A2,A3,n1,n2,n3,n4,n5,n6,Bool.and_true,Bool.true_and,Bool.false_and,Bool.and_false,Bool.false_eq_true,if_true,if_false,reduceIte] at hcm
  have hl1:1<a.length:=by unfold D8 at A1;simp only[Bool.and_eq_true,decide_eq_true_eq] at A1;exact A1.1.1
  have hl2:2<a.length:=by unfold D8 at A2;simp only[Bool.and_eq_true,decide_eq_true_eq] at A2;exact A2.1.1
  have hl3:3<a.length:=by unfold D8 at A3;simp only[Bool.and_eq_true,decide_eq_true_eq] at A3;exact A3.1.1
  have hw:IntKind.i64.wrap (IntKind.i64.wrap (IntKind.i64.wrap (IntKind.i64.wrap ((X3 a 0:Int) % 8*262144)+IntKind.i64.wrap ((X3 a 1:Int) % 64*4096))+IntKind.i64.wrap ((X3 a 2:Int) % 64*64))+(X3 a 3:Int) % 64)=((Ev a:Nat):Int):=by
   rw[S8 (n:=(X3 a 0:Int) % 8*262144) (by omega) (by omega),S8 (n:=(X3 a 1:Int) % 64*4096) (by omega) (by omega),S8 (n:=(X3 a 2:Int) % 64*64) (by omega) (by omega),S8 (n:=_+(X3 a 1:Int) % 64*4096) (by omega) (by omega),S8 (n:=_+(X3 a 2:Int) % 64*64) (by omega) (by omega),S8 (by omega) (by omega)]
   unfold Ev;omega
  refine U6 hs ?_
  have hx1: ∀{w':World} {K:Value→World→Prop},K (.int .u8 (X3 a 1)) w'→D7 P T.b (S a) (.int .i64 1) w' K:=fun hK=>Wj (i:=1) hl1 hK
  have hx2: ∀{w':World} {K:Value→World→Prop},K (.int .u8 (X3 a 2)) w'→D7 P T.b (S a) (.int .i64 2) w' K:=fun hK=>Wj (i:=2) hl2 hK
  have hx3: ∀{w':World} {K:Value→World→Prop},K (.int .u8 (X3 a 3)) w'→D7 P T.b (S a) (.int .i64 3) w' K:=fun hK=>Wj (i:=3) hl3 hK
  (repeat (apply V7;(· intros;(repeat (rename_i hx;subst hx));(repeat' (first | (with_reducible exact H9 rfl) | (with_reducible exact F4 (Stp.bel (by (repeat (first | exact Stp.refl (by (first | assumption | exact Stp.sat (by assumption) | exact Hst.sat (by assumption))) | assumption | refine Stp.trans ?_ (by first | assumption | exact Hst.stp (by assumption)))))) rfl) | (with_reducible intro _) | (simp only[↓M2,M2,Mb,reduceIte]) | (with_reducible refine Q3T au ?_) | (with_reducible refine Q1V au ?_) | (with_reducible refine hx1 ?_) | (with_reducible refine hx2 ?_) | (with_reducible refine hx3 ?_) | (with_reducible show Q2 _ _ _ _ _;first | refine X8 aS aL aR ?_ | refine Y4 aS aL aR ?_ | refine ld aS aL aR ?_) | (with_reducible show indexAddr _ _ _ _ _ _;refine Z4 aL au ?_) | (with_reducible show X6 _ _ _ _ _ _ _ _;refine Q9 aL ?_) | (with_reducible show Yy _ _ _ _ _ _;refine U0 aR ?_) | (with_reducible show pick _ _ _ _ _ _;refine G7 ?_) | (apply T8;intro hh;(try simp only[hh,reduceIte,↓M2,M2,Mb,reduceIte]))));done)))
  (intros;(repeat (rename_i hx;subst hx));(try simp only[↓M2,M2,Mb,reduceIte]))
  rename_i w2 hb2
  simp only[hw]
  have hb:=hb2.stp.bel
  by_cases e1:65536≤Ev a
  ·by_cases e2:Ev a≤1114111
   ·simp only[(show decide ((65536:Int)≤(Ev a:Int))=true by rw[decide_eq_true_eq];omega),(show decide ((Ev a:Int)≤1114111)=true by rw[decide_eq_true_eq];omega),↓M1,M1,Mb,reduceIte]
    exact hK 4 _ hb (by rw[hcm,if_pos ⟨e1,e2⟩])
   ·simp only[(show decide ((65536:Int)≤(Ev a:Int))=true by rw[decide_eq_true_eq];omega),(show decide ((Ev a:Int)≤1114111)=false by rw[decide_eq_false_iff_not];omega),↓M1,M1,Mb,reduceIte]
    exact ⟨hb,by rw[hcm,if_neg (by omega)]⟩
  ·simp only[(show decide ((65536:Int)≤(Ev a:Int))=false by rw[decide_eq_false_iff_not];omega),↓M1,M1,Mb,reduceIte]
   exact ⟨hb,by rw[hcm,if_neg (by omega)]⟩
 have i1:decide ((194:Int)≤X3 a 0)=true:=by rw[decide_eq_true_eq];omega
 have n1:decide (194≤X3 a 0)=true:=by rw[decide_eq_true_eq];omega
 have i2:decide ((X3 a 0:Int)<224)=false:=by rw[decide_eq_false_iff_not];omega
 have n2:decide (X3 a 0<224)=false:=by rw[decide_eq_false_iff_not];omega
 have i3:decide ((224:Int)≤X3 a 0)=true:=by rw[decide_eq_true_eq];omega
 have n3:decide (224≤X3 a 0)=true:=by rw[decide_eq_true_eq];omega
 have i4:decide ((X3 a 0:Int)<240)=false:=by rw[decide_eq_false_iff_not];omega
 have n4:decide (X3 a 0<240)=false:=by rw[decide_eq_false_iff_not];omega
 have i5:decide ((240:Int)≤X3 a 0)=true:=by rw[decide_eq_true_eq];omega
 have n5:decide (240≤X3 a 0)=true:=by rw[decide_eq_true_eq];omega
 have i6:decide ((X3 a 0:Int)<245)=false:=by rw[decide_eq_false_iff_not];omega
 have n6:decide (X3 a 0<245)=false:=by rw[decide_eq_false_iff_not];omega
 simp only[i1,i2,i3,i4,i5,i6,↓M1,M1,Mb,reduceIte]
 exact ⟨Below.refl _ _,by rw[hcm];simp only[n1,n2,n3,n4,n5,n6,Bool.and_true,Bool.true_and,Bool.false_and,Bool.and_false,Bool.false_eq_true,if_true,if_false,reduceIte]⟩)
theorem Q70 {s:X0} (t:s.length≤J8) (u:X4 w σ) (h: ∀w',Below w.heap.size w w'→K (.bool (Lib.validD s)) w'):Q1 P F.b9 [S s] w K:=Cy (by
 unfold Vw
 refine Ak (fun f x w'=> ∃r,x=S r∧r.length≤f∧r.length≤J8∧Below w.heap.size w w'∧Lib.validD s=Lib.validGoD f r) s.length ⟨s,rfl,Nat.le_refl _,t,Below.refl _ _,rfl⟩ ?_
 rintro m f x d w1 ⟨r,rfl,p,q,b,c⟩ k
 refine Mx ?_
 by_cases a:r=[]
 ·have e:decide (r=[])=true:=by simpa using a
  simp only[e,↓M1,M1,Mb,reduceIte]
  subst a
  have:Lib.validGoD f []=true:=by cases f<;>simp[Lib.validGoD]
  rw[c,this] at h
  exact h _ b
 ·have e:decide (r=[])=false:=by simpa using a
  simp only[e,↓M1,M1,Mb,reduceIte]
  have o:0<r.length:=List.length_pos_iff.2 a
  obtain ⟨f,rfl⟩: ∃g,f=g+1:=⟨f-1,by omega⟩
  rw[Q6i a] at c
  refine Q8K a (u.below b) fun z n=>?_
  have i:=b.trans (n.mono b.size)
  refine Q39 ?_
  by_cases l:Yc r=0
  ·have j:decide ((Yc r:Int)=0)=true:=by rw[decide_eq_true_eq];omega
   simp only[j,↓M1,M1,Mb,reduceIte]
   rw[c,if_pos l] at h
   exact h _ i
  ·have j:decide ((Yc r:Int)=0)=false:=by rw[decide_eq_false_iff_not];omega
   simp only[j,↓M1,M1,Mb,reduceIte]
   obtain ⟨v,y⟩:=Q7T a l
   rw[Wi X9 (by omega) (by omega)]
   rw[if_neg l] at c
   refine k f _ _ (by omega) ⟨r.drop (Yc r),by simp,by rw[List.length_drop];omega,by rw[List.length_drop];omega,i,c⟩)
end Go.Proofs.YtjdiakhipmggjaaGreatDoor

namespace Go.Proofs.YtjdiakhipmggjaaGreatDoor
open Go.Emb Go.RowKit Go.Kd Go.Hm
variable {w : World} {K : Value → World → Prop} {σ : Q4}
theorem Q3L {σ:Q4}: ∀(xs:List X0),(∀x∈xs,x.length≤J8)→Kk J6 σ (xs.map S) xs
 | [],_=>trivial
 | x::r,h=>⟨⟨rfl,h x (by simp)⟩,Q3L r fun y a=>h y (by simp[a])⟩
def Zq:List X0:=Za.map (·.name)
set_option maxRecDepth 100000 in
theorem Q9U (d:X4 w σ) (h: ∀v w' a,Stp w σ w' a→Sl 1 J6 a v Zq→K v w'):Q1 P F.bC [] w K:=Pl (by
 unfold Nr
 exact T4 (R:=J6) (sz:=1) d (Zq.map S) Zq rfl rfl (by intro v b;obtain ⟨x,_,rfl⟩:=List.mem_map.1 b;rfl) rfl (Q3L _ (by decide)) fun v w' a c b=>h v w' a c b)
theorem Q6l {a:X0} (B:X4 w σ) (h: ∀w' z,Stp w σ w' z→K (I (W0 (I1 a))) w'):Q1 P F.b1 [S a] w K:=Cd (by
 unfold Vh
 refine Q9U B fun v w1 σ1 p n=>?_
 have s:I1 a=Zq.findIdx? fun x=>decide (x=a):=by
  unfold I1 Zq
  rw[List.findIdx?_map];rfl
 have q: ∀o,I1 a=o→K (I (W0 o)) w1:=fun o e=>by rw[←e];exact h _ _ p
 rw[s] at q
 have l:Zq.length=42:=rfl
 generalize Zq=g at n q l
 refine U3 g.length (fun k w'=>w'=w1∧ ∀j (i:j<g.length),j<k→ ¬g[j]=a) ⟨rfl,fun j _ h=>by omega⟩ fun k E d D y=>?_
 obtain ⟨C,f⟩:=y
 subst C
 refine Q9 n ?_
 refine Z1 ?_
 refine Q5 (fun r=>?_) (fun r=>?_)
 ·have b:k<g.length:=by simpa using r
  refine Z4 n b ?_
  obtain ⟨u,_⟩:=n.elS b
  refine X8 p.sat u rfl ?_
  refine Xy ?_
  refine Q5 (fun c=>?_) (fun c=>?_)
  ·have c:g[k]=a:=by simpa using c
   exact q (some k) (by
    rw[List.findIdx?_eq_some_iff_getElem]
    exact ⟨b,by simpa using c,fun j i=>by simpa using f j (by omega) i⟩)
  ·have c: ¬g[k]=a:=by simpa using c
   (try simp only[↓M1,M1,Mb,reduceIte])
   refine Y3 n.max b ⟨rfl,fun j i A=>?_⟩
   by_cases e:j=k
   ·subst e;exact c
   ·exact f j i (by omega)
 ·have b: ¬k<g.length:=by simpa using r
  exact q none (by
   rw[List.findIdx?_eq_none_iff]
   intro m t
   obtain ⟨j,i,rfl⟩:=List.getElem_of_mem t
   simpa using f j i (by omega)))
theorem X0s {o:Option Nat}:decide (W0 o<0)= !o.isSome:=by
 cases o with
 | none=>rfl
 | some i=>
  have: ¬(i:Int)<0:=by omega
  exact decide_eq_false this
def Wp (a:X0):Bool:=decide (a=[105,110,116])||decide (a=[108,111,97,100])||decide (a=[115,116,111,114,101])||decide (a=[106,117,109,112])||decide (a=[98,114,97,110,99,104])
def Ub (a:X0):Bool:=decide (a=[119,111,114,100])||decide (a=[110,101,119])||decide (a=[103,101,116])||decide (a=[112,117,116])||decide (a=[99,97,108,108])||decide (a=[97,114,114,97,121])||decide (a=[105,115])||decide (a=[99,97,115,116])
theorem Q8B (a:X0):O6 a=(Wp a,Ub a,(I1 a).isSome):=by
 unfold O6
 cases h:I1 a with
 | none=>
  have c:=List.findIdx?_eq_none_iff.1 h
  have d: ∀x∈Zq,¬x=a:=by
   intro x f
   obtain ⟨o,l,rfl⟩:=List.mem_map.1 f
   have:=c o l
   simpa using this
  have b: ∀x∈Zq,decide (a=x)=false:=fun x f=>by rw[decide_eq_false_iff_not];exact fun e=>d x f e.symm
  have n:Wp a=false:=by
   unfold Wp
   rw[b _ (by decide),b _ (by decide),b _ (by decide),b _ (by decide),b _ (by decide)];rfl
  have p:Ub a=false:=by
   unfold Ub
   rw[b _ (by decide),b _ (by decide),b _ (by decide),b _ (by decide),b _ (by decide),b _ (by decide),b _ (by decide),b _ (by decide)];rfl
  simp[n,p]
 | some i=>
  obtain ⟨g,k,_⟩:=List.findIdx?_eq_some_iff_getElem.1 h
  have q:Za[i].name=a:=by simpa using k
  have j:Za.getD i ⟨[],false,false⟩=Za[i]:=by rw[List.getD_eq_getElem?_getD,List.getElem?_eq_getElem g];rfl
  have c: ∀o∈Za,o.number=Wp o.name∧o.text=Ub o.name:=by decide
  obtain ⟨m,r⟩:=c _ (List.getElem_mem g)
  simp only[j,Option.isSome_some]
  rw[m,r,q]
def Nl (a:X0):Int:=if Wp a then 1 else if Ub a then 2 else if (I1 a).isSome then 0 else-1
theorem Q7U {a:X0} (g:X4 w σ) (h: ∀w' l,Stp w σ w' l→K (I (Nl a)) w'):Q1 P F.bj [S a] w K:=Bd (by
 unfold Lg
 refine Wt (fun x w'=>w'=w∧x= .bool (Wp a)) ?_ (fun x d w' f=>?_)
 ·unfold Wp
  simp only[↓M1,M1,Mb,reduceIte]
  repeat' (refine Q5 (fun hh=>?_) (fun hh=>?_))
  all_goals (refine ⟨by trivial,?_⟩;congr 1;simp_all)
 ·obtain ⟨rfl,rfl⟩:=f
  cases e:Wp a with
  | true=>
   (try simp only[↓M1,M1,Mb,reduceIte])
   have:=h _ _ (Stp.refl g)
   unfold Nl at this
   simpa [e] using this
  | false=>
   (try simp only[↓M1,M1,Mb,reduceIte])
   refine Wt (fun x b=>b=w'∧x= .bool (Ub a)) ?_ (fun x d b f=>?_)
   ·unfold Ub
    simp only[↓M1,M1,Mb,reduceIte]
    repeat' (refine Q5 (fun hh=>?_) (fun hh=>?_))
    all_goals (refine ⟨by trivial,?_⟩;congr 1;simp_all)
   ·obtain ⟨rfl,rfl⟩:=f
    cases j:Ub a with
    | true=>
     (try simp only[↓M1,M1,Mb,reduceIte])
     have:=h _ _ (Stp.refl g)
     unfold Nl at this
     simpa [e,j] using this
    | false=>
     (try simp only[↓M1,M1,Mb,reduceIte])
     refine Q6l g fun w1 σ1 c=>?_
     have:=h _ _ c
     unfold Nl at this
     simp only[e,j,Bool.false_eq_true,if_false] at this
     simp only[X0s,↓M1,M1,Mb,reduceIte]
     cases k:I1 a with
     | none=>rw[k] at this;simp only[Option.isSome_none,↓M1,M1,Mb,reduceIte];simpa using this
     | some i=>rw[k] at this;simp only[Option.isSome_some,↓M1,M1,Mb,reduceIte];simpa using this)
theorem Q42 (a:X0):decide (Nl a<0)= !(O6 a).2.2∧decide (Nl a=1)=(O6 a).1∧decide (Nl a=2)=(O6 a).2.1:=by
 rw[Q8B]
 have c:Wp a=true→Ub a=false∧(I1 a).isSome=true:=by
  intro h
  unfold Wp at h
  simp only[Bool.or_eq_true,decide_eq_true_eq] at h
  rcases h with (((h | h) | h) | h) | h<;>(subst h;decide)
 have f:Ub a=true→(I1 a).isSome=true:=by
  intro h
  unfold Ub at h
  simp only[Bool.or_eq_true,decide_eq_true_eq] at h
  rcases h with ((((((h | h) | h) | h) | h) | h) | h) | h<;>(subst h;decide)
 unfold Nl
 cases d:Wp a with
 | true=>obtain ⟨e,b⟩:=c d;rw[e,b];decide
 | false=>
  cases g:Ub a with
  | true=>rw[f g];decide
  | false=>cases (I1 a).isSome<;>decide
theorem X1G (s:X0) (c:UInt8):decide (0≤Lib.indexByte s c)=s.any fun b=>decide (b=c):=by
 induction s with
 | nil=>rfl
 | cons b r f=>
  simp only[Lib.indexByte,List.any_cons,←f]
  by_cases e:b=c
  ·simp[e]
  ·have a:(b==c)=false:=by simpa using e
   have g:=Lib.indexByte_ge r c
   simp only[a,e,decide_false,Bool.false_or,Bool.false_eq_true,if_false]
   by_cases d:Lib.indexByte r c= -1
   ·simp[d]
   ·have:(Lib.indexByte r c== -1)=false:=by simpa using d
    simp only[this,Bool.false_eq_true,if_false]
    rw[Bool.eq_iff_iff,decide_eq_true_eq,decide_eq_true_eq];omega
def JB (w:World) (σ:Q4) (b:Bool) (x:Value) (w':World):Prop:= ∃a,Stp w σ w' a∧x= .bool b
theorem JB.mk {w w':World} {σ a:Q4} {b:Bool} (h:Stp w σ w' a):JB w σ b (.bool b) w':=⟨a,h,rfl⟩
theorem JB.of {w w':World} {σ a:Q4} {b c:Bool} (h:Stp w σ w' a) (e:c=b):JB w σ b (.bool c) w':=⟨a,h,by rw[e]⟩
theorem X0V {s:X0} {n:Nat} (h:n<s.length):decide ((X3 s n:Int)=10)=decide (s[n]=10):=by
 unfold X3
 rw[List.getD_eq_getElem?_getD,List.getElem?_eq_getElem h,Bool.eq_iff_iff,decide_eq_true_eq,decide_eq_true_eq]
 simp only[Option.getD_some]
 rw[←UInt8.toNat_inj]
 constructor
 ·intro e;have:s[n].toNat=10:=by omega
  rw[this];rfl
 ·intro e;rw[e];rfl
theorem Zr {α:Type} {xs:List α} {p:α→Bool} {n:Nat} (h:n<xs.length):(xs.take (n+1)).all p=((xs.take n).all p&&p xs[n]):=by
 rw[List.take_add_one,List.getElem?_eq_getElem h,List.all_append];simp
set_option maxHeartbeats 2000000 in
theorem Q6J {i:Ins} {cs:List Value} (hs:X4 w σ) (hi:G8 σ i cs) (h: ∀w' m,Stp w σ w' m→K (I (M6 i)) w'):Q1 P F.bi [.agg cs.toArray] w K:=Gb (by
 obtain ⟨rfl,h1,h2,h3⟩:=hi
 unfold Vn
 refine Y9 hs fun q w1 σ1 R hq=>?_
 have O:=R.sat
 (try simp only[↓M1,M1,Mb,reduceIte])
 refine ld O hq rfl ?_
 refine Q7U O fun w2 σ2 X=>?_
 obtain ⟨t1,U,E⟩:=Q42 i.op
 have f:=R.trans X
 have g:=hq.up X
 have e:=f.sat
 have t:i.s.length≤140737488355328:=by simp only[J8] at h3;omega
 simp only[t1,↓M1,M1,Mb,reduceIte]
 unfold M6 at h
 cases e1:(O6 i.op).2.2 with
 | false=>
  simp only[e1,Bool.not_false,if_true] at h
  (try simp only[↓M1,M1,Mb,reduceIte])
  exact h _ _ f
 | true=>
 simp only[e1,Bool.not_true,Bool.false_eq_true,if_false] at h
 simp only[U,E,↓M1,M1,Mb,reduceIte]
 have k: ∀(b:Bool) (w':World) (m:Q4),Stp w σ w' m→b=(!((!(O6 i.op).1&&decide (i.n≠0))||(!(O6 i.op).2.1&&decide (i.s≠[]))||((O6 i.op).2.1&& !txt i.op i.s)))→
  X1 (.bool (!b)) (K (.int .i64 41) w') (K (.int .i64 0) w'):=by
  intro b w' m u A
  subst A
  rw[Bool.not_not]
  cases A:((!(O6 i.op).1&&decide (i.n≠0))||(!(O6 i.op).2.1&&decide (i.s≠[]))||((O6 i.op).2.1&& !txt i.op i.s)) with
  | true=>simp only[A,if_true] at h;(try simp only[↓M1,M1,Mb,reduceIte]);exact h _ _ u
  | false=>simp only[A,Bool.false_eq_true,if_false] at h;(try simp only[↓M1,M1,Mb,reduceIte]);exact h _ _ u
 clear h
 have ac:(O6 i.op).2.1=true→(O6 i.op).1=false:=by
  intro Q
  rw[←U,decide_eq_false_iff_not]
  rw[←E,decide_eq_true_eq] at Q
  omega
 cases D:(O6 i.op).2.1 with
 | false=>
  rw[D] at k E
  cases y:(O6 i.op).1 with
  | true=>
   rw[y] at k U
   (try simp only[↓M1,M1,Mb,reduceIte])
   simp only[E,↓M1,M1,Mb,reduceIte]
   refine ld e g rfl ?_
   (try simp only[↓M1,M1,Mb,reduceIte])
   refine U9 ?_
   intro d
   simp only[↓M1,M1,Mb,reduceIte]
   exact k _ _ _ f (by simp)
  | false=>
   rw[y] at k U
   (try simp only[↓M1,M1,Mb,reduceIte])
   refine ld e g rfl ?_
   (try simp only[↓M1,M1,Mb,reduceIte])
   by_cases M:i.n=0
   ·have d0:decide (i.n=0)=true:=by simpa using M
    simp only[d0,E,↓M1,M1,Mb,reduceIte]
    refine ld e g rfl ?_
    (try simp only[↓M1,M1,Mb,reduceIte])
    refine U9 ?_
    intro d
    simp only[↓M1,M1,Mb,reduceIte]
    exact k _ _ _ f (by simp[M])
   ·have d0:decide (i.n=0)=false:=by simpa using M
    simp only[d0,↓M1,M1,Mb,reduceIte]
    refine U9 ?_
    intro d
    have H:=k false _ _ f (by simp[M])
    (try simp only[↓M1,M1,Mb,reduceIte] at H⊢)
    exact H
 | true=>
  have y:=ac D
  rw[D,y] at k
  rw[D] at E
  rw[y] at U⊢
  (try simp only[↓M1,M1,Mb,reduceIte])
  refine ld e g rfl ?_
  (try simp only[↓M1,M1,Mb,reduceIte])
  have o: ∀(b c:Bool) (w':World) (m:Q4),decide (i.n=0)=b→Stp w σ w' m→c=(b&&txt i.op i.s)→X1 (.bool (!c)) (K (.int .i64 41) w') (K (.int .i64 0) w'):=by
   intro b c w' m A u r
   refine k c w' m u ?_
   rw[r,←A]
   by_cases M:i.n=0<;>simp[M]
  clear k
  cases A:decide (i.n=0) with
  | false=>
   have v:=fun w' m u=>o false false w' m A u rfl
   clear o
   simp only[E,↓M1,M1,Mb,reduceIte]
   refine Wt (JB w σ false) ?_ (fun x d w' Q=>?_)
   ·refine ld e g rfl ?_
    (try simp only[↓M1,M1,Mb,reduceIte])
    refine Q5 (fun hh=>?_) (fun hh=>?_)
    ·refine M3 (a:=Value.bool false) i.s.length (fun n x w'=>w'=w2∧x=Value.bool false) ⟨rfl,rfl⟩ fun n x w3 d hn l=>?_
     obtain ⟨C,rfl⟩:=l
     subst C
     (try simp only[↓M1,M1,Mb,reduceIte])
     refine ld e g rfl ?_
     (try simp only[↓M1,M1,Mb,reduceIte])
     refine Q5 (fun r=>?_) (fun r=>?_)
     ·have j:n<i.s.length:=by simpa using r
      (try simp only[↓M1,M1,Mb,reduceIte])
      exact Z2 (by omega) j ⟨rfl,rfl⟩
     ·exact .mk f
    refine Q5 (fun hh=>?_) (fun hh=>?_)
    ·exact .mk f
    refine Wt (fun x w'=>w'=w2∧ ∃b:Bool,x=Value.bool b) ?_ (fun z d w' hz=>?_)
    ·refine Q5 (fun hh=>?_) (fun hh=>?_)
     ·exact ⟨rfl,_,rfl⟩
     ·exact ⟨rfl,_,rfl⟩
    obtain ⟨C,b,rfl⟩:=hz
    subst C
    refine Q5 (fun hh=>?_) (fun hh=>?_)
    ·exact .mk f
    refine Q5 (fun hh=>?_) (fun hh=>?_)
    ·exact .mk f
    refine ld e g rfl ?_
    refine Q2H i.s t fun w4 p=>?_
    by_cases N:(P5 i.s).2.2=true
    ·simp only[N,if_true,↓M1,M1,Mb,reduceIte]
     exact .mk (f.trans (Stp.of_below e p))
    ·simp only[N,if_false,↓M1,M1,Mb,reduceIte]
     exact .mk (f.trans (Stp.of_below e p))
   ·obtain ⟨m,u,rfl⟩:=Q
    have H:=v w' m u
    (try simp only[↓M1,M1,Mb,reduceIte] at H⊢)
    exact H
  | true=>
   have v:=fun c w' m u r=>o true c w' m A u r
   clear o
   simp only[E,↓M1,M1,Mb,reduceIte]
   refine Wt (JB w σ (txt i.op i.s)) ?_ (fun x d w' Q=>?_)
   ·refine ld e g rfl ?_
    (try simp only[↓M1,M1,Mb,reduceIte])
    unfold txt
    by_cases o1:i.op=[119,111,114,100]
    ·simp only[if_pos o1,decide_eq_true o1,↓M1,M1,Mb,reduceIte]
     refine ld e g rfl ?_
     (try simp only[↓M1,M1,Mb,reduceIte])
     have af:decide ((i.s.length:Int)≤64)=decide (i.s.length≤64):=by rw[Bool.eq_iff_iff,decide_eq_true_eq,decide_eq_true_eq];omega
     rw[af,X1G,List.not_any_eq_all_not]
     cases ap:decide (i.s.length≤64) with
     | false=>
      (try simp only[↓M1,M1,Mb,reduceIte])
      refine M3 (a:=Value.bool false) i.s.length (fun n x w'=>w'=w2∧x=Value.bool false) ⟨rfl,rfl⟩ fun n x w3 d hn l=>?_
      obtain ⟨C,rfl⟩:=l
      subst C
      (try simp only[↓M1,M1,Mb,reduceIte])
      refine ld e g rfl ?_
      (try simp only[↓M1,M1,Mb,reduceIte])
      refine Q5 (fun r=>?_) (fun r=>?_)
      ·have j:n<i.s.length:=by simpa using r
       (try simp only[↓M1,M1,Mb,reduceIte])
       exact Z2 (by omega) j ⟨rfl,rfl⟩
      ·exact .of f (by simp)
     | true=>
      (try simp only[↓M1,M1,Mb,reduceIte])
      refine ld e g rfl ?_
      refine Q70 h3 e fun w4 p=>?_
      have J:=Stp.of_below e p
      have V:=g.up J
      have W:=J.sat
      have B:=f.trans J
      (try simp only[↓M1,M1,Mb,reduceIte])
      refine M3 (a:=Value.bool (Lib.validD i.s)) i.s.length (fun n x w'=>w'=w4∧x=Value.bool (Lib.validD i.s&&(i.s.take n).all fun c=> !decide (c=10))) ⟨rfl,by simp⟩ fun n x w3 d hn l=>?_
      obtain ⟨C,rfl⟩:=l
      subst C
      (try simp only[↓M1,M1,Mb,reduceIte])
      refine ld W V rfl ?_
      (try simp only[↓M1,M1,Mb,reduceIte])
      refine Q5 (fun r=>?_) (fun r=>?_)
      ·have j:n<i.s.length:=by simpa using r
       have L:(Lib.validD i.s&&(i.s.take (n+1)).all fun c=> !decide (c=10))=((Lib.validD i.s&&(i.s.take n).all fun c=> !decide (c=10))&& !decide (i.s[n]=10)):=by rw[Zr j,Bool.and_assoc]
       generalize ah:(Lib.validD i.s&&(i.s.take n).all fun c=> !decide (c=10))=ag at L⊢
       cases ag with
       | false=>(try simp only[↓M1,M1,Mb,reduceIte]);exact Z2 (by omega) j ⟨rfl,by rw[L];rfl⟩
       | true=>
        (try simp only[↓M1,M1,Mb,reduceIte])
        refine ld W V rfl ?_
        refine Wj j ?_
        simp only[X0V j,↓M1,M1,Mb,reduceIte]
        exact Z2 (by omega) j ⟨rfl,by rw[L];rfl⟩
      ·have j: ¬n<i.s.length:=by simpa using r
       rw[List.take_of_length_le (by omega)]
       exact .of B (by simp)
    ·simp only[if_neg o1,decide_eq_false o1,↓M1,M1,Mb,reduceIte]
     by_cases o2:i.op=[110,101,119]
     ·simp only[if_pos o2,decide_eq_true o2,↓M1,M1,Mb,reduceIte]
      refine ld e g rfl ?_
      refine Qi i.s t ?_
      (try simp only[↓M1,M1,Mb,reduceIte])
      exact .mk f
     ·simp only[if_neg o2,decide_eq_false o2,↓M1,M1,Mb,reduceIte]
      refine Wt (fun x w'=>w'=w2∧x=Value.bool (decide (i.op=[105,115]∨i.op=[99,97,115,116]))) ?_ (fun z d w' hz=>?_)
      ·refine Q5 (fun hh=>?_) (fun hh=>?_)
       ·exact ⟨rfl,by simp_all⟩
       ·exact ⟨rfl,by simp_all⟩
      obtain ⟨C,rfl⟩:=hz
      subst C
      by_cases Z:i.op=[105,115]∨i.op=[99,97,115,116]
      ·simp only[if_pos Z,decide_eq_true Z,↓M1,M1,Mb,reduceIte]
       refine ld e g rfl ?_
       refine Us i.s t ?_
       cases hr:right i.s with
       | false=>(try simp only[↓M1,M1,Mb,reduceIte]);exact .mk f
       | true=>
        (try simp only[↓M1,M1,Mb,reduceIte])
        refine ld e g rfl ?_
        refine Pv i.s ?_
        (try simp only[↓M1,M1,Mb,reduceIte])
        exact .mk f
      ·simp only[if_neg Z,decide_eq_false Z,↓M1,M1,Mb,reduceIte]
       by_cases Y:i.op=[97,114,114,97,121]
       ·simp only[if_pos Y,decide_eq_true Y,↓M1,M1,Mb,reduceIte]
        refine ld e g rfl ?_
        refine Us i.s t ?_
        cases hr:right i.s with
        | false=>(try simp only[↓M1,M1,Mb,reduceIte]);exact .mk f
        | true=>
         (try simp only[↓M1,M1,Mb,reduceIte])
         refine ld e g rfl ?_
         refine Q0G i.s t ?_
         (try simp only[↓M1,M1,Mb,reduceIte])
         have e3:decide (((base i.s).2:Int)<3)=decide (Xq i.s<3):=by
          unfold Xq;rw[if_pos hr,Bool.eq_iff_iff,decide_eq_true_eq,decide_eq_true_eq];omega
         rw[e3]
         exact .mk f
       ·simp only[if_neg Y,decide_eq_false Y,↓M1,M1,Mb,reduceIte]
        refine ld e g rfl ?_
        refine Q2H i.s t fun w4 p=>?_
        have B:=f.trans (Stp.of_below e p)
        by_cases N:(P5 i.s).2.2=true
        ·simp only[N,if_true,↓M1,M1,Mb,reduceIte]
         exact .mk B
        ·have:Xl i.s=false:=by unfold Xl;rw[eq_false_of_ne_true N];rfl
         simp only[N,if_false,↓M1,M1,Mb,reduceIte]
         exact .of B this.symm
   ·obtain ⟨m,u,rfl⟩:=Q
    have H:=v _ w' m u rfl
    simp only[Bool.true_and] at H
    (try simp only[↓M1,M1,Mb,reduceIte])
    exact H)
end Go.Proofs.YtjdiakhipmggjaaGreatDoor

namespace Go.Emb
theorem X0b {w:World} {K:Value→World→Prop} {v:Value} (h:K v w):Q0 (.bool true) true w (fun w J=>J v w) K:=by rw[O9];exact h
theorem X0a {w:World} {K:Value→World→Prop} {v:Value} (h:K v w):Q0 (.bool false) false w (fun w J=>J v w) K:=by rw[C8];exact h
theorem X0Z {w:World} {K:Value→World→Prop} {b:Bool} {run:World→(Value→World→Prop)→Prop} (h:K undef w):Q0 undef b w run K:=by rw[Qf];exact h
class Hd (p : Prop) (q : outParam Prop) : Prop where
  h : q → p
section
variable {P : Program} {w : World} {K : Value → World → Prop} {run : World → (Value → World → Prop) → Prop} {v u : Value} {b : Bool}
instance:Hd (Z8 P .not (.bool b) w K) (K (.bool (!b)) w):=⟨Oq⟩
instance:Hd (Q0 undef b w run K) (K undef w):=⟨X0Z⟩
instance {t:TypeId} {k off:Nat} {ft:TypeId} {sz by_:Nat} {z:Value} {a:Addr} [tf:TF P t k off ft] [tz:TZ P ft sz by_ z] [nz:NZ sz]:Hd (fieldAddr P t (.pointer (some a)) k w K) (K (.pointer (some (a.add off))) w):=⟨Q2c⟩
instance:Hd (pick P (.bool false) v u w K) (K u w):=⟨X0d⟩
instance:Hd (pick P (.bool true) v u w K) (K v w):=⟨Q9D⟩
instance:Hd (Q0 (.bool false) false w run K) (run w K):=⟨X0T⟩
instance:Hd (Q0 (.bool true) true w run K) (run w K):=⟨X0U⟩
instance:Hd (Q0 (.bool false) true w run K) (K undef w):=⟨X0r⟩
instance:Hd (Q0 (.bool true) false w run K) (K undef w):=⟨X06⟩
instance:Hd (Q0 (.bool false) false w (fun w J=>J v w) K) (K v w):=⟨X0a⟩
instance:Hd (Q0 (.bool true) true w (fun w J=>J v w) K) (K v w):=⟨X0b⟩
end
end Go.Emb
namespace Go.Proofs.YtjdiakhipmggjaaGreatDoor
open Go.Emb Go.RowKit Go.Kd Go.Hm
variable {w : World} {K : Value → World → Prop} {σ : Q4}
theorem X0l {xs:List Ins} {v:Value} (r:X4 w σ) (o:Sl 3 G8 σ v xs) (h: ∀e w' m,Stp w σ w' m→decide (e=0)=xs.all (fun i=>decide (M6 i=0))→K (I e) w'):Q1 P F.aQ [v] w K:=Tn (by
 unfold Nt
 refine U3 xs.length (fun n w'=> ∃m,Stp w σ w' m∧(xs.take n).all (fun i=>decide (M6 i=0))=true) ⟨σ,Stp.refl r,rfl⟩ fun n w1 d z j=>?_
 obtain ⟨σ1,a,f⟩:=j
 have g:=o.up a
 refine Q9 g ?_
 refine Z1 ?_
 refine Q5 (fun l=>?_) (fun l=>?_)
 ·have c:n<xs.length:=by simpa using l
  refine Z4 g c ?_
  obtain ⟨q,t⟩:=g.elI c
  refine Y4 a.sat q rfl ?_
  refine Q6J a.sat t fun y p k=>?_
  refine Vr ?_
  by_cases e:M6 xs[n]=0
  ·have:decide (M6 xs[n]=0)=true:=by simpa using e
   simp only[this,↓M1,M1,Mb,reduceIte]
   exact Y3 o.max c ⟨p,a.trans k,by rw[Zr c,f];simpa using e⟩
  ·have:decide (M6 xs[n]=0)=false:=by simpa using e
   simp only[this,↓M1,M1,Mb,reduceIte]
   refine h _ _ _ (a.trans k) ?_
   rw[this]
   symm
   rw[←Bool.not_eq_true,List.all_eq_true]
   intro s
   have:=s _ (List.getElem_mem c)
   simp at this
   exact e this
 ·have c: ¬n<xs.length:=by simpa using l
  rw[List.take_of_length_le (by omega)] at f
  exact h 0 _ _ a (by rw[f];rfl))
theorem Q8l {c:Cla} {cs:List Value} (hs:X4 w σ) (hc:U4 σ c cs) (h: ∀w' σ',Stp w σ w' σ'→K (.bool (Xr c)) w'):Q1 P F.bu [.agg cs.toArray] w K:=Ip (by
 unfold Mc
 obtain ⟨lv,fv,mv,rfl,f1,f2,f3,f4,f5⟩:=hc
 refine Y9 hs fun q w1 σ1 hk1 hq=>?_
 have f1:=f1.up hk1
 have f2:=f2.up hk1
 have f3:=f3.up hk1
 refine U3 c.methods.length (fun n w'=> ∃σ',Stp w1 σ1 w' σ'∧(c.methods.take n).any Jz=false) ⟨σ1,Stp.refl hk1.sat,rfl⟩ fun n w2 d hn hinv=>?_
 obtain ⟨σ2,hk2,hno⟩:=hinv
 have hq2:=hq.up hk2
 have f32:=f3.up hk2
 have f12:=f1.up hk2
 have f22:=f2.up hk2
 have hs2:=hk2.sat
 (try simp only[↓M1,M1,Mb,reduceIte])
 refine ld hs2 hq2 rfl ?_
 refine Q9 f32 ?_
 refine Z1 ?_
 refine Q5 (fun hc=>?_) (fun hc=>?_)
 ·have hn':n<c.methods.length:=by simpa using hc
  (try simp only[↓M1,M1,Mb,reduceIte])
  refine ld hs2 hq2 rfl ?_
  refine Z4 f32 hn' ?_
  obtain ⟨pv,cv,hv,p1,r1⟩:=f32.elM hn'
  refine Y4 hs2 p1 rfl ?_
  refine Y1 hs2 (by rfl) rfl (Rep.one r1) fun q3 w3 σ3 hk3 hq3=>?_
  obtain ⟨g1,g2,g3,_,_,_⟩:=(RMe_lift r1 ⟨hk3.le⟩).parts
  have hS3:=hk1.trans (hk2.trans hk3)
  have hyes:Jz c.methods[n]=true→K (.bool true) w3:=fun e=>by
   have:=h _ _ hS3
   have hm:Xr c=true:=by unfold Xr;rw[R7 hn' e];rfl
   rwa [hm] at this
  have hk23:=hk2.trans hk3
  clear h hk2 hk3 hS3
  have hmax:=f3.max
  (repeat' (first | (with_reducible intro _) | (with_reducible refine U9 ?_) | (simp only[↓M2,M2,Mb,reduceIte]) | (with_reducible first | refine ld aS aL aR ?_ | refine X8 aS aL aR ?_ | refine Y4 aS aL aR ?_ | refine Q9 aL ?_ | refine U0 aR ?_ | refine Y9 aS ?_ | refine W4 aS aL ?_ | refine J4 aS aR ?_ | refine Y1 aS aR aR (Rep.one (by assumption)) ?_ | refine J5 aS aR aR aR ?_ | (refine Y7 (fun hh=>?_) (fun hh=>?_)<;>(try simp only[hh,Bool.not_true,Bool.not_false,↓M2,M2,Mb,reduceIte])) | (refine Q5 (fun hh=>?_) (fun hh=>?_)<;>(try simp only[hh,Bool.not_true,Bool.not_false,↓M2,M2,Mb,reduceIte])))))
  all_goals clear hq hq2 f1 f2 f3 f32 f12 f22 hs hs2 p1 r1 g1 g2 g3 hk1 f4 f5 hq3
  all_goals first
   | (refine hyes ?_;clear hyes hk23;unfold Jz;simp only[Bool.not_false,Bool.not_true,Bool.or_eq_true,decide_eq_true_eq,decide_eq_false_iff_not] at*;omega)
   | (
    have hnx:(c.methods.take (n+1)).any Jz=false:=by
     rw[L6 hn',hno,Bool.false_or];clear hyes hk23;unfold Jz;simp only[Bool.or_eq_false_iff,decide_eq_false_iff_not] at*;omega
    exact Y3 hmax hn' ⟨_,hk23,hnx⟩)
 ·have hn': ¬n<c.methods.length:=by simpa using hc
  rw[O3 hn'] at hno
  have hS2:=hk1.trans hk2
  have hm:Xr c=(decide (32<c.like.length)||decide (32<c.fields.length)||decide (32<c.methods.length)):=by unfold Xr;rw[hno];simp
  rw[hm] at h
  have hK:=h _ _ hS2
  clear h hk2
  (try simp only[↓M1,M1,Mb,reduceIte])
  refine ld hs2 hq2 rfl ?_
  refine Q9 f12 ?_
  have d32: ∀k:Nat,decide ((32:Int)<(k:Int))=decide (32<k):=fun k=>by rw[Bool.eq_iff_iff,decide_eq_true_eq,decide_eq_true_eq];omega
  simp only[d32,↓M1,M1,Mb,reduceIte]
  cases e1:decide (32<c.like.length) with
  | true=>rw[e1] at hK;(try simp only[↓M1,M1,Mb,reduceIte]);simpa using hK
  | false=>
   rw[e1] at hK
   (try simp only[↓M1,M1,Mb,reduceIte])
   refine ld hs2 hq2 rfl ?_
   refine Q9 f22 ?_
   simp only[d32,↓M1,M1,Mb,reduceIte]
   cases e2:decide (32<c.fields.length) with
   | true=>rw[e2] at hK;(try simp only[↓M1,M1,Mb,reduceIte]);simpa using hK
   | false=>
    rw[e2] at hK
    (try simp only[↓M1,M1,Mb,reduceIte])
    refine ld hs2 hq2 rfl ?_
    refine Q9 f32 ?_
    simp only[d32,↓M1,M1,Mb,reduceIte]
    simpa using hK)
theorem Q5p {α:Type} {xs:List α} {p:α→Bool} {n:Nat} (h: ¬n<xs.length):(xs.take n).all p=xs.all p:=by rw[List.take_of_length_le (by omega)]
set_option maxHeartbeats 4000000 in
theorem Tk {m:Hm.Met} {pv cv hv:Value} {w1:World} {σ1:Q4} {q:Addr} {p:Bool} (hs:X4 w σ) (af:Stp w σ w1 σ1) (hq:Z3 σ1 q [S m.name,pv,S m.result, .bool m.abs,I m.locals,cv,hv]) (g1:Sl 1 J6 σ1 pv m.params) (g2:Sl 3 G8 σ1 cv m.code) (g3:Sl 4 Zc σ1 hv m.catches)
 (h: ∀w' N,Stp w σ w' N→K (.bool ((p&&m.params.all right)&&if m.abs then decide (m.locals=0)&&decide (m.code=[])&&decide (m.catches=[])
  else decide (m.code≠[])&&decide ((m.params.length:Int)<m.locals)&&m.code.all (fun i=>decide (M6 i=0))&&m.catches.all (S2 m.code.length))) w'):
 lp (α:=Value×Value) (Value.bool p,(.int .i64 0)) w1 fun X B d_ w=>
  fieldAddr P T.c (.pointer (some q)) 1 w fun c7 w=>
  Q2 P T.e c7 w fun co w=>
  X6 P .len [T.e] T.d [false] [co] w fun b8 w=>
  Q3 P .lss T.d (.tmp 21) (.tmp 24) B.2 b8 w fun dd w=>
  X1 dd (
   Q0 B.1 true w (fieldAddr P T.c (.pointer (some q)) 1) fun ck w=>
   Q0 B.1 true w (Q2 P T.e ck) fun c8 w=>
   Q0 B.1 true w (fun w J=>J B.2 w) fun b1 w=>
   Q0 B.1 true w (indexAddr P T.e c8 b1) fun br w=>
   Q0 B.1 true w (Q2 P T.b br) fun cp w=>
   Q0 B.1 true w (Q1 P F.h [cp]) fun cn w=>
   pick P B.1 cn (.bool false) w fun c3 w=>
   Q3 P .add T.d (.tmp 26) (.const (.int .i64 1)) B.2 (.int .i64 1) w fun cg w=>
   X (c3,cg) w) (
   fieldAddr P T.c (.pointer (some q)) 3 w fun cr w=>
   Q2 P T.q cr w fun ct w=>
   X1 ct (
    Q0 B.1 true w (fieldAddr P T.c (.pointer (some q)) 4) fun bw w=>
    Q0 B.1 true w (Q2 P T.d bw) fun b4 w=>
    Q0 B.1 true w (Q3 P .eql T.d (.tmp 42) (.const (.int .i64 0)) b4 (.int .i64 0)) fun cd w=>
    pick P B.1 cd (.bool false) w fun O w=>
    Q0 O true w (fieldAddr P T.c (.pointer (some q)) 5) fun cl w=>
    Q0 O true w (Q2 P T.m cl) fun cb w=>
    Q0 O true w (X6 P .len [T.m] T.d [false] [cb]) fun b6 w=>
    Q0 O true w (Q3 P .eql T.d (.tmp 48) (.const (.int .i64 0)) b6 (.int .i64 0)) fun db w=>
    pick P O db (.bool false) w fun L w=>
    Q0 L true w (fieldAddr P T.c (.pointer (some q)) 6) fun bo w=>
    Q0 L true w (Q2 P T.o bo) fun b0 w=>
    Q0 L true w (X6 P .len [T.o] T.d [false] [b0]) fun cz w=>
    Q0 L true w (Q3 P .eql T.d (.tmp 54) (.const (.int .i64 0)) cz (.int .i64 0)) fun bm w=>
    pick P L bm (.bool false) w fun cw w=>
    K cw w) (
    fieldAddr P T.c (.pointer (some q)) 5 w fun bi w=>
    Q2 P T.m bi w fun bv w=>
    X6 P .len [T.m] T.d [false] [bv] w fun ag w=>
    lp (α:=Value×Value) (B.1,(.int .i64 0)) w fun Q j d_ w=>
     fieldAddr P T.c (.pointer (some q)) 6 w fun bh w=>
     Q2 P T.o bh w fun bz w=>
     X6 P .len [T.o] T.d [false] [bz] w fun cj w=>
     Q3 P .lss T.d (.tmp 60) (.tmp 63) j.2 cj w fun ch w=>
     X1 ch (
      fieldAddr P T.c (.pointer (some q)) 6 w fun bk w=>
      Q2 P T.o bk w fun c9 w=>
      indexAddr P T.o c9 j.2 w fun c5 w=>
      Q2 P T.p c5 w fun cy w=>
      W1 P T.p w fun t7 w=>
      Z6 P T.p t7 cy w fun _u w=>
      Q0 j.1 true w (fieldAddr P T.p t7 0) fun bn w=>
      Q0 j.1 true w (Q2 P T.d bn) fun ci w=>
      Q0 j.1 true w (Q3 P .geq T.d (.tmp 75) (.const (.int .i64 0)) ci (.int .i64 0)) fun da w=>
      pick P j.1 da (.bool false) w fun E w=>
      Q0 E true w (fieldAddr P T.p t7 0) fun c4 w=>
      Q0 E true w (Q2 P T.d c4) fun b3 w=>
      Q0 E true w (fieldAddr P T.p t7 1) fun ca w=>
      Q0 E true w (Q2 P T.d ca) fun b9 w=>
      Q0 E true w (Q3 P .lss T.d (.tmp 80) (.tmp 82) b3 b9) fun b7 w=>
      pick P E b7 (.bool false) w fun U w=>
      Q0 U true w (fieldAddr P T.p t7 1) fun cc w=>
      Q0 U true w (Q2 P T.d cc) fun bl w=>
      Q0 U true w (fun w J=>J ag w) fun bq w=>
      Q0 U true w (Q3 P .leq T.d (.tmp 87) (.tmp 88) bl bq) fun b2 w=>
      pick P U b2 (.bool false) w fun aa w=>
      Q0 aa true w (fieldAddr P T.p t7 2) fun c6 w=>
      Q0 aa true w (Q2 P T.d c6) fun dc w=>
      Q0 aa true w (Q3 P .geq T.d (.tmp 93) (.const (.int .i64 0)) dc (.int .i64 0)) fun bj w=>
      pick P aa bj (.bool false) w fun M w=>
      Q0 M true w (fieldAddr P T.p t7 2) fun bp w=>
      Q0 M true w (Q2 P T.d bp) fun cf w=>
      Q0 M true w (fun w J=>J ag w) fun cs w=>
      Q0 M true w (Q3 P .lss T.d (.tmp 98) (.tmp 99) cf cs) fun a9 w=>
      pick P M a9 (.bool false) w fun D w=>
      Q0 D true w (fieldAddr P T.p t7 3) fun ax w=>
      Q0 D true w (Q2 P T.b ax) fun a1 w=>
      Q0 D true w (Q1 P F.d [a1]) fun a7 w=>
      pick P D a7 (.bool false) w fun bb w=>
      Q3 P .add T.d (.tmp 65) (.const (.int .i64 1)) j.2 (.int .i64 1) w fun cm w=>
      Q (bb,cm) w) (
      Q0 j.1 true w (fun w J=>J ag w) fun a3 w=>
      Q0 j.1 true w (Q3 P .gtr T.d (.tmp 109) (.const (.int .i64 0)) a3 (.int .i64 0)) fun aq w=>
      pick P j.1 aq (.bool false) w fun g w=>
      Q0 g true w (fieldAddr P T.c (.pointer (some q)) 4) fun ao w=>
      Q0 g true w (Q2 P T.d ao) fun a2 w=>
      Q0 g true w (fieldAddr P T.c (.pointer (some q)) 1) fun an w=>
      Q0 g true w (Q2 P T.e an) fun aw w=>
      Q0 g true w (X6 P .len [T.e] T.d [false] [aw]) fun aj w=>
      Q0 g true w (Q3 P .gtr T.d (.tmp 114) (.tmp 117) a2 aj) fun a8 w=>
      pick P g a8 (.bool false) w fun z w=>
      Q0 z true w (fieldAddr P T.c (.pointer (some q)) 5) fun ap w=>
      Q0 z true w (Q2 P T.m ap) fun a5 w=>
      Q0 z true w (Q1 P F.aQ [a5]) fun a0 w=>
      Q0 z true w (Q3 P .eql T.w (.tmp 123) (.const (.int .i64 0)) a0 (.int .i64 0)) fun a6 w=>
      pick P z a6 (.bool false) w fun bc w=>
      K bc w))):=by
 have b5:=af.sat
 have c0:decide ((m.code.length:Int)=0)=decide (m.code=[]):=by cases m.code<;>simp;omega
 have c1:decide ((m.catches.length:Int)=0)=decide (m.catches=[]):=by cases m.catches<;>simp;omega
 have c2:decide ((0:Int)<m.code.length)=decide (m.code≠[]):=by cases m.code<;>simp
 refine M3 (a:=Value.bool p) m.params.length (fun n x w'=> ∃N,Stp w1 σ1 w' N∧x=Value.bool (p&&(m.params.take n).all right)) ⟨σ1,Stp.refl b5,by simp⟩ fun n x w2 d hn R=>?_
 obtain ⟨σ2,l,rfl⟩:=R
 have k:=hq.up l
 have V:=g1.up l
 have o:=l.sat
 (try simp only[↓M1,M1,Mb,reduceIte])
 refine ld o k rfl ?_
 refine Q9 V ?_
 refine Z1 ?_
 refine Q5 (fun hc=>?_) (fun hc=>?_)
 ·have c:n<m.params.length:=by simpa using hc
  have y:(p&&(m.params.take (n+1)).all right)=((p&&(m.params.take n).all right)&&right m.params[n]):=by rw[Zr c,Bool.and_assoc]
  generalize (p&&(m.params.take n).all right)=f at y⊢
  cases f with
  | false=>(try simp only[↓M1,M1,Mb,reduceIte]);exact Z2 g1.max c ⟨σ2,l,by rw[y];rfl⟩
  | true=>
   (try simp only[↓M1,M1,Mb,reduceIte])
   refine ld o k rfl ?_
   (try simp only[↓M1,M1,Mb,reduceIte])
   refine Z4 V c ?_
   obtain ⟨p1,p2⟩:=V.elS c
   refine X8 o p1 rfl ?_
   refine Us _ (by simp only[J8] at p2;omega) ?_
   (try simp only[↓M1,M1,Mb,reduceIte])
   exact Z2 g1.max c ⟨σ2,l,by rw[y];rfl⟩
 ·have c: ¬n<m.params.length:=by simpa using hc
  rw[Q5p c]
  have ar:=af.trans l
  have ah:=g2.up l
  have W:=g3.up l
  clear af l hq g1 g2 g3 hn hc
  generalize (p&&m.params.all right)=f at h⊢
  refine ld o k rfl ?_
  cases al:m.abs with
  | true=>
   simp only[al,if_true] at h
   have hK:=h _ _ ar
   clear h
   (try simp only[↓M1,M1,Mb,reduceIte])
   cases f with
   | false=>(try simp only[↓M1,M1,Mb,reduceIte]);simpa using hK
   | true=>
    (try simp only[↓M1,M1,Mb,reduceIte])
    refine ld o k rfl ?_
    (try simp only[↓M1,M1,Mb,reduceIte])
    cases ba:decide (m.locals=0) with
    | false=>rw[ba] at hK;(try simp only[↓M1,M1,Mb,reduceIte]);simpa using hK
    | true=>
     rw[ba] at hK
     (try simp only[↓M1,M1,Mb,reduceIte])
     refine ld o k rfl ?_
     refine Q9 ah ?_
     simp only[c0,↓M1,M1,Mb,reduceIte]
     cases ak:decide (m.code=[]) with
     | false=>rw[ak] at hK;(try simp only[↓M1,M1,Mb,reduceIte]);simpa using hK
     | true=>
      rw[ak] at hK
      (try simp only[↓M1,M1,Mb,reduceIte])
      refine ld o k rfl ?_
      refine Q9 W ?_
      simp only[c1,↓M1,M1,Mb,reduceIte]
      simpa using hK
  | false=>
   simp only[al,Bool.false_eq_true,if_false] at h
   (try simp only[↓M1,M1,Mb,reduceIte])
   refine ld o k rfl ?_
   refine Q9 ah ?_
   refine M3 (a:=Value.bool f) m.catches.length (fun n x w'=> ∃N,Stp w2 σ2 w' N∧x=Value.bool (f&&(m.catches.take n).all (S2 m.code.length))) ⟨σ2,Stp.refl o,by simp⟩ fun n x w4 d hn R=>?_
   obtain ⟨σ4,r,rfl⟩:=R
   have H:=k.up r
   have Z:=W.up r
   have A:=r.sat
   (try simp only[↓M1,M1,Mb,reduceIte])
   refine ld A H rfl ?_
   refine Q9 Z ?_
   refine Z1 ?_
   refine Q5 (fun hc=>?_) (fun hc=>?_)
   ·have c:n<m.catches.length:=by simpa using hc
    have y:(f&&(m.catches.take (n+1)).all (S2 m.code.length))=((f&&(m.catches.take n).all (S2 m.code.length))&&S2 m.code.length m.catches[n]):=by rw[Zr c,Bool.and_assoc]
    generalize (f&&(m.catches.take n).all (S2 m.code.length))=bu at y⊢
    (try simp only[↓M1,M1,Mb,reduceIte])
    refine ld A H rfl ?_
    refine Z4 Z c ?_
    obtain ⟨p1,r1⟩:=Z.elK c
    have ay:m.catches[n].cls.length≤140737488355328:=by have:=r1.2.2.2.2;simp only[J8] at this;omega
    refine Y4 A p1 rfl ?_
    refine Y1 A (by rfl) rfl (Rep.one r1) fun q5 w5 σ5 av s=>?_
    have C:=av.sat
    have ae:=r.trans av
    cases bu with
    | false=>(try simp only[↓M1,M1,Mb,reduceIte]);exact Z2 W.max c ⟨σ5,ae,by rw[y];rfl⟩
    | true=>
     have t: ∀b,S2 m.code.length m.catches[n]=b→Rd m.catches.length (fun n x w'=> ∃N,Stp w2 σ2 w' N∧x=Value.bool (f&&(m.catches.take n).all (S2 m.code.length))) (Value.bool b, .int .i64 (IntKind.i64.wrap (n+1))) w5∧Lj m.catches.length (Value.bool b, .int .i64 (IntKind.i64.wrap (n+1)))<Lj m.catches.length (Value.bool true,I n):=fun b e=>Z2 W.max c ⟨σ5,ae,by rw[y,e];rfl⟩
     unfold S2 at t
     generalize m.catches[n]=x at s t ay
     clear y p1 r1 H k Z h
     (try simp only[↓M1,M1,Mb,reduceIte])
     refine ld C s rfl ?_
     (try simp only[↓M1,M1,Mb,reduceIte])
     cases d1:decide (0≤x.frm) with
     | false=>(try simp only[↓M1,M1,Mb,reduceIte]);exact t _ (by simp[d1])
     | true=>
     (try simp only[↓M1,M1,Mb,reduceIte])
     refine ld C s rfl ?_
     (try simp only[↓M1,M1,Mb,reduceIte])
     refine ld C s rfl ?_
     (try simp only[↓M1,M1,Mb,reduceIte])
     cases d2:decide (x.frm<x.to) with
     | false=>(try simp only[↓M1,M1,Mb,reduceIte]);exact t _ (by simp[d1,d2])
     | true=>
     (try simp only[↓M1,M1,Mb,reduceIte])
     refine ld C s rfl ?_
     (try simp only[↓M1,M1,Mb,reduceIte])
     cases d3:decide (x.to≤(m.code.length:Int)) with
     | false=>(try simp only[↓M1,M1,Mb,reduceIte]);exact t _ (by simp[d1,d2,d3])
     | true=>
     (try simp only[↓M1,M1,Mb,reduceIte])
     refine ld C s rfl ?_
     (try simp only[↓M1,M1,Mb,reduceIte])
     cases d4:decide (0≤x.at_) with
     | false=>(try simp only[↓M1,M1,Mb,reduceIte]);exact t _ (by simp[d1,d2,d3,d4])
     | true=>
     (try simp only[↓M1,M1,Mb,reduceIte])
     refine ld C s rfl ?_
     (try simp only[↓M1,M1,Mb,reduceIte])
     cases d5:decide (x.at_<(m.code.length:Int)) with
     | false=>(try simp only[↓M1,M1,Mb,reduceIte]);exact t _ (by simp[d1,d2,d3,d4,d5])
     | true=>
     (try simp only[↓M1,M1,Mb,reduceIte])
     refine ld C s rfl ?_
     refine Qi x.cls ay ?_
     (try simp only[↓M1,M1,Mb,reduceIte])
     exact t _ (by simp[d1,d2,d3,d4,d5])
   ·have c: ¬n<m.catches.length:=by simpa using hc
    rw[Q5p c]
    have Y:=ar.trans r
    have ce:=ah.up r
    have bs:=V.up r
    have hh: ∀w' N,Stp w σ w' N→K (.bool ((f&&m.catches.all (S2 m.code.length))&&(decide (m.code≠[])&&decide ((m.params.length:Int)<m.locals)&&m.code.all (fun i=>decide (M6 i=0))))) w':=by
     intro w' N hk
     have:=h w' N hk
     refine Eq.subst (motive:=fun b=>K (.bool b) w') ?_ this
     cases f<;>cases m.catches.all (S2 m.code.length)<;>simp
    clear h r
    generalize (f&&m.catches.all (S2 m.code.length))=cx at hh⊢
    cases cx with
    | false=>(try simp only[↓M1,M1,Mb,reduceIte]);simpa using hh _ _ Y
    | true=>
     (try simp only[↓M1,M1,Mb,reduceIte])
     simp only[c2,↓M1,M1,Mb,reduceIte]
     cases am:decide (m.code≠[]) with
     | false=>rw[am] at hh;(try simp only[↓M1,M1,Mb,reduceIte]);simpa using hh _ _ Y
     | true=>
      rw[am] at hh
      (try simp only[↓M1,M1,Mb,reduceIte])
      refine ld A H rfl ?_
      (try simp only[↓M1,M1,Mb,reduceIte])
      refine ld A H rfl ?_
      refine Q9 bs ?_
      (try simp only[↓M1,M1,Mb,reduceIte])
      cases bd:decide ((m.params.length:Int)<m.locals) with
      | false=>rw[bd] at hh;(try simp only[↓M1,M1,Mb,reduceIte]);simpa using hh _ _ Y
      | true=>
       rw[bd] at hh
       (try simp only[↓M1,M1,Mb,reduceIte])
       refine ld A H rfl ?_
       refine X0l A ce fun e w6 σ6 cq he=>?_
       simp only[he,↓M1,M1,Mb,reduceIte]
       simpa using hh _ _ (Y.trans cq)
set_option maxHeartbeats 2000000 in
theorem Q63 {m:Hm.Met} {cs:List Value} (n:X4 w σ) (z:L9 σ m cs) (h: ∀w' D,Stp w σ w' D→K (.bool (S5 m)) w'):Q1 P F.z [.agg cs.toArray] w K:=Ca (by
 unfold Um
 obtain ⟨pv,H,J,rfl,C,y,B,E,A,L⟩:=z
 have o:m.name.length≤140737488355328:=by simp only[J8] at E;omega
 have p:m.result.length≤140737488355328:=by simp only[J8] at A;omega
 refine Y9 n fun q w1 σ1 a g=>?_
 have t:=C.up a
 have r:=y.up a
 have s:=B.up a
 have e:=a.sat
 obtain ⟨d,c⟩: ∃b,b=(L5 m.name&&(decide (m.result=[])||right m.result)):=⟨_,rfl⟩
 have k:S5 m=((d&&m.params.all right)&&if m.abs then decide (m.locals=0)&&decide (m.code=[])&&decide (m.catches=[])
  else decide (m.code≠[])&&decide ((m.params.length:Int)<m.locals)&&m.code.all (fun i=>decide (M6 i=0))&&m.catches.all (S2 m.code.length)):=by
  rw[c];unfold S5
  cases L5 m.name<;>cases m.params.all right<;>cases decide (m.result=[])<;>cases right m.result<;>rfl
 rw[k] at h
 clear k
 (repeat refine Hd.h ?_)
 refine ld e g rfl ?_
 refine Fg m.name o ?_
 cases f:L5 m.name with
 | false=>
  have j:d=false:=by rw[c,f];rfl
  (repeat refine Hd.h ?_)
  refine Eq.subst (motive:=fun b=>lp (α:=Value×Value) (Value.bool b, .int .i64 0) w1 _) j ?_
  exact Tk n a g t r s h
 | true=>
  (repeat refine Hd.h ?_)
  refine ld e g rfl ?_
  (repeat refine Hd.h ?_)
  refine Xy ?_
  cases l:decide (m.result=[]) with
  | true=>
   have j:d=true:=by rw[c,f,l];rfl
   (repeat refine Hd.h ?_)
   refine Eq.subst (motive:=fun b=>lp (α:=Value×Value) (Value.bool b, .int .i64 0) w1 _) j ?_
   exact Tk n a g t r s h
  | false=>
   (repeat refine Hd.h ?_)
   refine ld e g rfl ?_
   (repeat refine Hd.h ?_)
   refine Us m.result p ?_
   have j:d=right m.result:=by rw[c,f,l];rfl
   (repeat refine Hd.h ?_)
   refine Eq.subst (motive:=fun b=>lp (α:=Value×Value) (Value.bool b, .int .i64 0) w1 _) j ?_
   exact Tk n a g t r s h)
end Go.Proofs.YtjdiakhipmggjaaGreatDoor

namespace Go.Hm
open Go.Kd
def Wx (c:Cla) (i:Nat):Bool:=W2 (c.like.getD i [])&& !decide (c.like.getD i []=c.name)
def G2 (c:Cla) (i k:Nat):Bool:= !decide (c.like.getD k []=c.like.getD i [])
def Rb (c:Cla) (i:Nat):Fld:=c.fields.getD i Fld.zero
def Ow (c:Cla) (i:Nat):Hm.Met:=c.methods.getD i Hm.Met.zero
def Mt (c:Cla) (i:Nat):Bool:=L5 (Rb c i).name&&right (Rb c i).kind&& !c.iface
def T5 (c:Cla) (i k:Nat):Bool:= !decide ((Rb c k).name=(Rb c i).name)
def Q6P (c:Cla):Bool:=(!c.iface||(c.abs&&decide (c.super=Z9)))&& !(c.abs&&c.fin)
def A8 (c:Cla) (i k:Nat):Bool:= !decide ((Ow c k).name=(Ow c i).name)
theorem Uo {p:Nat→Bool} {n:Nat}:(List.range (n+1)).all p=((List.range n).all p&&p n):=by rw[List.range_succ,List.all_append];simp
theorem D3 {α:Type} {xs:List α} {i:Nat} {d:α} (h:i<xs.length):xs.getD i d=xs[i]:=by rw[List.getD_eq_getElem?_getD,List.getElem?_eq_getElem h];rfl
end Go.Hm
namespace Go.Proofs.YtjdiakhipmggjaaGreatDoor
open Go.Emb Go.RowKit Go.Kd Go.Hm
variable {w : World} {K : Value → World → Prop} {σ : Q4}
def La (c:Cla) (i:Nat):Bool:=S5 (Ow c i)&&(!(Ow c i).abs||c.abs)&&(!c.iface||(Ow c i).abs)
set_option maxHeartbeats 2000000 in
theorem Q1P {c:Cla} {lv fv mv:Value} {w1:World} {σ1:Q4} {q:Addr} {ok:Bool} (ad:X4 w1 σ1) (hq:Z3 σ1 q [S c.name,S c.super,lv, .bool c.iface, .bool c.abs, .bool c.fin,fv,mv]) {i:Nat} {N m0:Nat} {Q:Nat→Value→World→Prop} (g1:Sl 1 J6 σ1 lv c.like) (hi:i<c.like.length)
 (h: ∀w' Z,Stp w1 σ1 w' Z→Rd N Q (Value.bool (ok&&(List.range i).all (G2 c i)), .int .i64 (IntKind.i64.wrap (i+1))) w'∧Lj N (Value.bool (ok&&(List.range i).all (G2 c i)), .int .i64 (IntKind.i64.wrap (i+1)))<m0):
 lp (
  α:=Value×Value) (Value.bool ok,(.int .i64 0)) w1 fun f b d_ w=>
  Q3 P .lss T.d (.tmp 52) (.tmp 53) b.2 (I i) w fun ae w=>
  X1 ae (
   dr w fun e g=>
   Q6 e (fun s=> ∀w:World,g w→Q0 b.1 true w (fieldAddr P T.a (.pointer (some q)) 2) (dk e s w)) fun s=>
   Q6 e (fun l=> ∀w:World,g w→Q0 b.1 true w (fun w J=>J b.2 w) (dk e l w)) fun l=>
   Q6 e (fun v=> ∀w:World,g w→Q0 b.1 true w (fieldAddr P T.a (.pointer (some q)) 2) (dk e v w)) fun v=>
   Q6 e (fun o=> ∀w:World,g w→Q0 b.1 true w (fun w J=>J (I i) w) (dk e o w)) fun o=>
   Q6 e (fun z=> ∀y:Value,∀w:World,g w→s y w→Q0 b.1 true w (Q2 P T.e y) (dk e z w)) fun z=>
   Q6 e (fun A=> ∀r:Value,∀m:Value,∀w:World,g w→z r w→l m w→Q0 b.1 true w (indexAddr P T.e r m) (dk e A w)) fun A=>
   Q6 e (fun H=> ∀t:Value,∀w:World,g w→A t w→Q0 b.1 true w (Q2 P T.b t) (dk e H w)) fun H=>
   Q6 e (fun u=> ∀B:Value,∀w:World,g w→v B w→Q0 b.1 true w (Q2 P T.e B) (dk e u w)) fun u=>
   Q6 e (fun C=> ∀D:Value,∀n:Value,∀w:World,g w→u D w→o n w→Q0 b.1 true w (indexAddr P T.e D n) (dk e C w)) fun C=>
   Q6 e (fun E=> ∀p:Value,∀w:World,g w→C p w→Q0 b.1 true w (Q2 P T.b p) (dk e E w)) fun E=>
   ∀y:Value,∀m:Value,∀B:Value,∀n:Value,∀r:Value,∀t:Value,∀M:Value,∀D:Value,∀p:Value,∀W:Value,∀w:World,g w→s y w→l m w→v B w→o n w→z r w→A t w→H M w→u D w→C p w→E W w→
   Q0 b.1 true w (Q3 P .neq T.b (.tmp 63) (.tmp 68) M W) fun ab w=>
   pick P b.1 ab (.bool false) w fun af w=>
   Q3 P .add T.d (.tmp 55) (.const (.int .i64 1)) b.2 (.int .i64 1) w fun ac w=>
   f (af,ac) w) (
   Q3 P .add T.d (.tmp 31) (.const (.int .i64 1)) (I i) (.int .i64 1) w fun R w=>
   (Rd N Q (b.1,R) w∧Lj N (b.1,R)<m0)):=by
 have aj:=g1.max
 refine M3 (a:=Value.bool ok) i (fun k x w'=> ∃Z,Stp w1 σ1 w' Z∧x=Value.bool (ok&&(List.range k).all (G2 c i))) ⟨σ1,Stp.refl ad,by simp⟩ fun k x w2 d hk U=>?_
 obtain ⟨σ2,j,rfl⟩:=U
 have aq:=hq.up j
 have O:=g1.up j
 have ah:=j.sat
 refine Z1 ?_
 refine Q5 (fun X=>?_) (fun X=>?_)
 ·have ai:k<i:=by simpa using X
  have V:k<c.like.length:=by omega
  have L:(ok&&(List.range (k+1)).all (G2 c i))=((ok&&(List.range k).all (G2 c i))&&G2 c i k):=by rw[Uo,Bool.and_assoc]
  have hQ:G2 c i k= !decide (c.like[k]=c.like[i]):=by unfold G2;rw[D3 V,D3 hi]
  rw[hQ] at L
  obtain ⟨p1,_⟩:=O.elS V
  obtain ⟨p2,_⟩:=O.elS hi
  generalize (ok&&(List.range k).all (G2 c i))=aa at L⊢
  clear h hQ X
  cases aa
  all_goals
   refine U6 ah ?_
   (repeat refine V7 Xc ?_)
   (intros;(repeat (rename_i hx;subst hx));(try simp only[↓M2,M2,Mb,reduceIte]))
   rename_i w3 ag
   exact Z2 (by omega) ai ⟨σ2,j.trans ag.stp,by rw[L];rfl⟩
 ·have Y:k=i:=by
   have: ¬k<i:=by simpa using X
   omega
  subst Y
  (try simp only[↓M1,M1,Mb,reduceIte])
  exact h _ _ j
set_option maxHeartbeats 4000000 in
theorem Q8i {c:Cla} {lv fv mv:Value} {w1:World} {σ1:Q4} {q:Addr} {ok:Bool} (hs1:X4 w1 σ1) (hq:Z3 σ1 q [S c.name,S c.super,lv, .bool c.iface, .bool c.abs, .bool c.fin,fv,mv]) {J:Value→World→Prop} (hn:c.name.length≤J8) (g1:Sl 1 J6 σ1 lv c.like)
 (h: ∀w' σ',Stp w1 σ1 w' σ'→J (.bool (ok&&(List.range c.like.length).all fun i=>Wx c i&&(List.range i).all (G2 c i))) w'):
 lp (α:=Value×Value) (Value.bool ok,(.int .i64 0)) w1 fun again4 x4 d_ w=>
 fieldAddr P T.a (.pointer (some q)) 2 w fun t27 w=>
 Q2 P T.e t27 w fun t28 w=>
 X6 P .len [T.e] T.d [false] [t28] w fun t29 w=>
 Q3 P .lss T.d (.tmp 26) (.tmp 29) x4.2 t29 w fun t30 w=>
 X1 t30 (
  dr w fun Tr Br=>
  Q6 Tr (fun φ35=> ∀w:World,Br w→Q0 x4.1 true w (fieldAddr P T.a (.pointer (some q)) 2) (dk Tr φ35 w)) fun φ35=>
  Q6 Tr (fun φ37=> ∀w:World,Br w→Q0 x4.1 true w (fun w J=>J x4.2 w) (dk Tr φ37 w)) fun φ37=>
  Q6 Tr (fun φ36=> ∀t35:Value,∀w:World,Br w→φ35 t35 w→Q0 x4.1 true w (Q2 P T.e t35) (dk Tr φ36 w)) fun φ36=>
  Q6 Tr (fun φ38=> ∀t36:Value,∀t37:Value,∀w:World,Br w→φ36 t36 w→φ37 t37 w→Q0 x4.1 true w (indexAddr P T.e t36 t37) (dk Tr φ38 w)) fun φ38=>
  Q6 Tr (fun φ39=> ∀t38:Value,∀w:World,Br w→φ38 t38 w→Q0 x4.1 true w (Q2 P T.b t38) (dk Tr φ39 w)) fun φ39=>
  Q6 Tr (fun φ40=> ∀t39:Value,∀w:World,Br w→φ39 t39 w→Q0 x4.1 true w (Q1 P F.d [t39]) (dk Tr φ40 w)) fun φ40=>
  Q6 Tr (fun φ41=> ∀t40:Value,∀w:World,Br w→φ40 t40 w→pick P x4.1 t40 (.bool false) w (dk Tr φ41 w)) fun φ41=>
  Q6 Tr (fun φ43=> ∀t41:Value,∀w:World,Br w→φ41 t41 w→Q0 t41 true w (fieldAddr P T.a (.pointer (some q)) 2) (dk Tr φ43 w)) fun φ43=>
  Q6 Tr (fun φ45=> ∀t41:Value,∀w:World,Br w→φ41 t41 w→Q0 t41 true w (fun w J=>J x4.2 w) (dk Tr φ45 w)) fun φ45=>
  Q6 Tr (fun φ48=> ∀t41:Value,∀w:World,Br w→φ41 t41 w→Q0 t41 true w (fieldAddr P T.a (.pointer (some q)) 0) (dk Tr φ48 w)) fun φ48=>
  Q6 Tr (fun φ44=> ∀t41:Value,∀t43:Value,∀w:World,Br w→φ41 t41 w→φ43 t43 w→Q0 t41 true w (Q2 P T.e t43) (dk Tr φ44 w)) fun φ44=>
  Q6 Tr (fun φ46=> ∀t41:Value,∀t44:Value,∀t45:Value,∀w:World,Br w→φ41 t41 w→φ44 t44 w→φ45 t45 w→Q0 t41 true w (indexAddr P T.e t44 t45) (dk Tr φ46 w)) fun φ46=>
  Q6 Tr (fun φ47=> ∀t41:Value,∀t46:Value,∀w:World,Br w→φ41 t41 w→φ46 t46 w→Q0 t41 true w (Q2 P T.b t46) (dk Tr φ47 w)) fun φ47=>
  Q6 Tr (fun φ49=> ∀t41:Value,∀t48:Value,∀w:World,Br w→φ41 t41 w→φ48 t48 w→Q0 t41 true w (Q2 P T.b t48) (dk Tr φ49 w)) fun φ49=>
  ∀t35:Value,∀t37:Value,∀t36:Value,∀t38:Value,∀t39:Value,∀t40:Value,∀t41:Value,∀t43:Value,∀t45:Value,∀t48:Value,∀t44:Value,∀t46:Value,∀t47:Value,∀t49:Value,∀w:World,Br w→φ35 t35 w→φ37 t37 w→φ36 t36 w→φ38 t38 w→φ39 t39 w→φ40 t40 w→φ41 t41 w→φ43 t43 w→φ45 t45 w→φ48 t48 w→φ44 t44 w→φ46 t46 w→φ47 t47 w→φ49 t49 w→
  Q0 t41 true w (Q3 P .neq T.b (.tmp 47) (.tmp 49) t47 t49) fun t50 w=>
  pick P t41 t50 (.bool false) w fun t51 w=>
  lp (α:=Value×Value) (t51,(.int .i64 0)) w fun again10 x10 d_ w=>
   Q3 P .lss T.d (.tmp 52) (.tmp 53) x10.2 x4.2 w fun t54 w=>
   X1 t54 (
    dr w fun Tr Br=>
    Q6 Tr (fun φ59=> ∀w:World,Br w→Q0 x10.1 true w (fieldAddr P T.a (.pointer (some q)) 2) (dk Tr φ59 w)) fun φ59=>
    Q6 Tr (fun φ61=> ∀w:World,Br w→Q0 x10.1 true w (fun w J=>J x10.2 w) (dk Tr φ61 w)) fun φ61=>
    Q6 Tr (fun φ64=> ∀w:World,Br w→Q0 x10.1 true w (fieldAddr P T.a (.pointer (some q)) 2) (dk Tr φ64 w)) fun φ64=>
    Q6 Tr (fun φ66=> ∀w:World,Br w→Q0 x10.1 true w (fun w J=>J x4.2 w) (dk Tr φ66 w)) fun φ66=>
    Q6 Tr (fun φ60=> ∀t59:Value,∀w:World,Br w→φ59 t59 w→Q0 x10.1 true w (Q2 P T.e t59) (dk Tr φ60 w)) fun φ60=>
    Q6 Tr (fun φ62=> ∀t60:Value,∀t61:Value,∀w:World,Br w→φ60 t60 w→φ61 t61 w→Q0 x10.1 true w (indexAddr P T.e t60 t61) (dk Tr φ62 w)) fun φ62=>
    Q6 Tr (fun φ63=> ∀t62:Value,∀w:World,Br w→φ62 t62 w→Q0 x10.1 true w (Q2 P T.b t62) (dk Tr φ63 w)) fun φ63=>
    Q6 Tr (fun φ65=> ∀t64:Value,∀w:World,Br w→φ64 t64 w→Q0 x10.1 true w (Q2 P T.e t64) (dk Tr φ65 w)) fun φ65=>
    Q6 Tr (fun φ67=> ∀t65:Value,∀t66:Value,∀w:World,Br w→φ65 t65 w→φ66 t66 w→Q0 x10.1 true w (indexAddr P T.e t65 t66) (dk Tr φ67 w)) fun φ67=>
    Q6 Tr (fun φ68=> ∀t67:Value,∀w:World,Br w→φ67 t67 w→Q0 x10.1 true w (Q2 P T.b t67) (dk Tr φ68 w)) fun φ68=>
    ∀t59:Value,∀t61:Value,∀t64:Value,∀t66:Value,∀t60:Value,∀t62:Value,∀t63:Value,∀t65:Value,∀t67:Value,∀t68:Value,∀w:World,Br w→φ59 t59 w→φ61 t61 w→φ64 t64 w→φ66 t66 w→φ60 t60 w→φ62 t62 w→φ63 t63 w→φ65 t65 w→φ67 t67 w→φ68 t68 w→
    Q0 x10.1 true w (Q3 P .neq T.b (.tmp 63) (.tmp 68) t63 t68) fun t69 w=>
    pick P x10.1 t69 (.bool false) w fun t70 w=>
    Q3 P .add T.d (.tmp 55) (.const (.int .i64 1)) x10.2 (.int .i64 1) w fun t56 w=>
    again10 (t70,t56) w) (
    Q3 P .add T.d (.tmp 31) (.const (.int .i64 1)) x4.2 (.int .i64 1) w fun t32 w=>
    again4 (x10.1,t32) w)) (
  J x4.1 w):=by
 have hmax:=g1.max
 refine M3 (a:=Value.bool ok) c.like.length (fun n x w'=> ∃σ',Stp w1 σ1 w' σ'∧x=Value.bool (ok&&(List.range n).all fun i=>Wx c i&&(List.range i).all (G2 c i))) ⟨σ1,Stp.refl hs1,by simp⟩ fun n x w2 d hn2 hinv=>?_
 obtain ⟨σ2,hk2,rfl⟩:=hinv
 have hq2:=hq.up hk2
 have g12:=g1.up hk2
 have hs2:=hk2.sat
 (repeat refine Hd.h ?_)
 refine ld hs2 hq2 rfl ?_
 refine Q9 g12 ?_
 refine Z1 ?_
 refine Q5 (fun hc=>?_) (fun hc=>?_)
 ·have hn':n<c.like.length:=by simpa using hc
  have hnx:(ok&&(List.range (n+1)).all fun i=>Wx c i&&(List.range i).all (G2 c i))=((ok&&(List.range n).all fun i=>Wx c i&&(List.range i).all (G2 c i))&&(Wx c n&&(List.range n).all (G2 c n))):=by rw[Uo,Bool.and_assoc]
  have hP:Wx c n=(W2 c.like[n]&& !decide (c.like[n]=c.name)):=by unfold Wx;rw[D3 hn']
  obtain ⟨p1,p2⟩:=g12.elS hn'
  have p2:c.like[n].length≤140737488355328:=by simp only[J8] at p2;omega
  generalize (ok&&(List.range n).all fun i=>Wx c i&&(List.range i).all (G2 c i))=acc at hnx⊢
  clear h hc
  cases hacc:acc with
  | false=>
   refine U6 hs2 ?_
   (repeat refine V7 Xc ?_)
   intros;(repeat (rename_i hx;subst hx))
   rename_i w3 hb3
   (repeat refine Hd.h ?_)
   refine Q1P hb3.sat hq2 g12 hn' fun w4 σ4 hk4=>?_
   exact Z2 hmax hn' ⟨σ4,hk2.trans (hb3.stp.trans hk4),by rw[hnx,hacc];rfl⟩
  | true=>
   cases hcl:W2 c.like[n] with
   | false=>
    refine U6 hs2 ?_
    have hrc: ∀{w':World} {K:Value→World→Prop},K (.bool false) w'→Q1 P F.d [S c.like[n]] w' K:=fun hK=>Qi _ p2 (by rw[hcl];exact hK)
    (repeat (apply V7;(· intros;(repeat (rename_i hx;subst hx));(repeat' (first | (with_reducible exact H9 rfl) | (with_reducible exact F4 (Stp.bel (by (repeat (first | exact Stp.refl (by (first | assumption | exact Stp.sat (by assumption) | exact Hst.sat (by assumption))) | assumption | refine Stp.trans ?_ (by first | assumption | exact Hst.stp (by assumption)))))) rfl) | (with_reducible intro _) | (simp only[↓M2,M2,Mb,reduceIte]) | (with_reducible refine hrc ?_) | (with_reducible show Q2 _ _ _ _ _;first | refine X8 aS aL aR ?_ | refine Y4 aS aL aR ?_ | refine ld aS aL aR ?_) | (with_reducible show indexAddr _ _ _ _ _ _;refine Z4 aL au ?_) | (with_reducible show X6 _ _ _ _ _ _ _ _;refine Q9 aL ?_) | (with_reducible show Yy _ _ _ _ _ _;refine U0 aR ?_) | (with_reducible show pick _ _ _ _ _ _;refine G7 ?_) | (apply T8;intro hh;(try simp only[hh,reduceIte,↓M2,M2,Mb,reduceIte]))));done)))
    intros;(repeat (rename_i hx;subst hx))
    rename_i w3 hb3
    (repeat refine Hd.h ?_)
    refine Q1P hb3.sat hq2 g12 hn' fun w4 σ4 hk4=>?_
    exact Z2 hmax hn' ⟨σ4,hk2.trans (hb3.stp.trans hk4),by rw[hnx,hacc,hP,hcl];rfl⟩
   | true=>
    refine U6 hs2 ?_
    have hrc: ∀{w':World} {K:Value→World→Prop},K (.bool true) w'→Q1 P F.d [S c.like[n]] w' K:=fun hK=>Qi _ p2 (by rw[hcl];exact hK)
    (repeat (apply V7;(· intros;(repeat (rename_i hx;subst hx));(repeat' (first | (with_reducible exact H9 rfl) | (with_reducible exact F4 (Stp.bel (by (repeat (first | exact Stp.refl (by (first | assumption | exact Stp.sat (by assumption) | exact Hst.sat (by assumption))) | assumption | refine Stp.trans ?_ (by first | assumption | exact Hst.stp (by assumption)))))) rfl) | (with_reducible intro _) | (simp only[↓M2,M2,Mb,reduceIte]) | (with_reducible refine hrc ?_) | (with_reducible show Q2 _ _ _ _ _;first | refine X8 aS aL aR ?_ | refine Y4 aS aL aR ?_ | refine ld aS aL aR ?_) | (with_reducible show indexAddr _ _ _ _ _ _;refine Z4 aL au ?_) | (with_reducible show X6 _ _ _ _ _ _ _ _;refine Q9 aL ?_) | (with_reducible show Yy _ _ _ _ _ _;refine U0 aR ?_) | (with_reducible show pick _ _ _ _ _ _;refine G7 ?_) | (apply T8;intro hh;(try simp only[hh,reduceIte,↓M2,M2,Mb,reduceIte]))));done)))
    intros;(repeat (rename_i hx;subst hx))
    rename_i w3 hb3
    (repeat refine Hd.h ?_)
    refine Mx ?_
    (repeat refine Hd.h ?_)
    refine Q1P hb3.sat hq2 g12 hn' fun w4 σ4 hk4=>?_
    exact Z2 hmax hn' ⟨σ4,hk2.trans (hb3.stp.trans hk4),by rw[hnx,hacc,hP,hcl];simp⟩
 ·have hn': ¬n<c.like.length:=by simpa using hc
  obtain rfl:n=c.like.length:=by omega
  exact h _ _ hk2
set_option maxHeartbeats 2000000 in
theorem Q1g {c:Cla} {lv fv mv:Value} {w1:World} {σ1:Q4} {q:Addr} {ok:Bool} (aj:X4 w1 σ1) (hq:Z3 σ1 q [S c.name,S c.super,lv, .bool c.iface, .bool c.abs, .bool c.fin,fv,mv]) {i:Nat} {N m0:Nat} {Z:Nat→Value→World→Prop} (g2:Sl 3 O4 σ1 fv c.fields) (hi:i<c.fields.length)
 (h: ∀w' σ',Stp w1 σ1 w' σ'→Rd N Z (Value.bool (ok&&(List.range i).all (T5 c i)), .int .i64 (IntKind.i64.wrap (i+1))) w'∧Lj N (Value.bool (ok&&(List.range i).all (T5 c i)), .int .i64 (IntKind.i64.wrap (i+1)))<m0):
 lp (α:=Value×Value) (Value.bool ok,(.int .i64 0)) w1 fun M b d_ w=>
  Q3 P .lss T.d (.tmp 102) (.tmp 103) b.2 (I i) w fun W w=>
  X1 W (
   dr w fun e H=>
   Q6 e (fun z=> ∀w:World,H w→Q0 b.1 true w (fieldAddr P T.a (.pointer (some q)) 6) (dk e z w)) fun z=>
   Q6 e (fun y=> ∀w:World,H w→Q0 b.1 true w (fun w J=>J b.2 w) (dk e y w)) fun y=>
   Q6 e (fun D=> ∀w:World,H w→Q0 b.1 true w (fieldAddr P T.a (.pointer (some q)) 6) (dk e D w)) fun D=>
   Q6 e (fun u=> ∀w:World,H w→Q0 b.1 true w (fun w J=>J (I i) w) (dk e u w)) fun u=>
   Q6 e (fun m=> ∀o:Value,∀w:World,H w→z o w→Q0 b.1 true w (Q2 P T.h o) (dk e m w)) fun m=>
   Q6 e (fun n=> ∀s:Value,∀r:Value,∀w:World,H w→m s w→y r w→Q0 b.1 true w (indexAddr P T.h s r) (dk e n w)) fun n=>
   Q6 e (fun g=> ∀p:Value,∀w:World,H w→n p w→Q0 b.1 true w (fieldAddr P T.j p 0) (dk e g w)) fun g=>
   Q6 e (fun L=> ∀l:Value,∀w:World,H w→g l w→Q0 b.1 true w (Q2 P T.b l) (dk e L w)) fun L=>
   Q6 e (fun t=> ∀j:Value,∀w:World,H w→D j w→Q0 b.1 true w (Q2 P T.h j) (dk e t w)) fun t=>
   Q6 e (fun E=> ∀C:Value,∀f:Value,∀w:World,H w→t C w→u f w→Q0 b.1 true w (indexAddr P T.h C f) (dk e E w)) fun E=>
   Q6 e (fun A=> ∀B:Value,∀w:World,H w→E B w→Q0 b.1 true w (fieldAddr P T.j B 0) (dk e A w)) fun A=>
   Q6 e (fun O=> ∀v:Value,∀w:World,H w→A v w→Q0 b.1 true w (Q2 P T.b v) (dk e O w)) fun O=>
   ∀o:Value,∀r:Value,∀j:Value,∀f:Value,∀s:Value,∀p:Value,∀l:Value,∀R:Value,∀C:Value,∀B:Value,∀v:Value,∀U:Value,∀w:World,H w→z o w→y r w→D j w→u f w→m s w→n p w→g l w→L R w→t C w→E B w→A v w→O U w→
   Q0 b.1 true w (Q3 P .neq T.b (.tmp 114) (.tmp 120) R U) fun X w=>
   pick P b.1 X (.bool false) w fun ab w=>
   Q3 P .add T.d (.tmp 105) (.const (.int .i64 1)) b.2 (.int .i64 1) w fun ad w=>
   M (ab,ad) w) (
   Q3 P .add T.d (.tmp 76) (.const (.int .i64 1)) (I i) (.int .i64 1) w fun aa w=>
   (Rd N Z (b.1,aa) w∧Lj N (b.1,aa)<m0)):=by
 have an:=g2.max
 refine M3 (a:=Value.bool ok) i (fun k x w'=> ∃σ',Stp w1 σ1 w' σ'∧x=Value.bool (ok&&(List.range k).all (T5 c i))) ⟨σ1,Stp.refl aj,by simp⟩ fun k x w2 d hk ac=>?_
 obtain ⟨σ2,Q,rfl⟩:=ac
 have ax:=hq.up Q
 have Y:=g2.up Q
 have al:=Q.sat
 refine Z1 ?_
 refine Q5 (fun hc=>?_) (fun hc=>?_)
 ·have am:k<i:=by simpa using hc
  have ae:k<c.fields.length:=by omega
  have V:(ok&&(List.range (k+1)).all (T5 c i))=((ok&&(List.range k).all (T5 c i))&&T5 c i k):=by rw[Uo,Bool.and_assoc]
  have hQ:T5 c i k= !decide (c.fields[k].name=c.fields[i].name):=by unfold T5 Rb;rw[D3 ae,D3 hi]
  rw[hQ] at V
  obtain ⟨p1,_⟩:=Y.elF ae
  obtain ⟨p2,_⟩:=Y.elF hi
  generalize (ok&&(List.range k).all (T5 c i))=ai at V⊢
  clear h hQ hc
  cases ai
  all_goals
   refine U6 al ?_
   (repeat refine V7 Xc ?_)
   (intros;(repeat (rename_i hx;subst hx));(try simp only[↓M2,M2,Mb,reduceIte]))
   rename_i w3 ak
   exact Z2 (by omega) am ⟨σ2,Q.trans ak.stp,by rw[V];rfl⟩
 ·have ag:k=i:=by
   have: ¬k<i:=by simpa using hc
   omega
  subst ag
  (try simp only[↓M1,M1,Mb,reduceIte])
  exact h _ _ Q
set_option maxHeartbeats 4000000 in
theorem X0e {c:Cla} {lv fv mv:Value} {w1:World} {σ1:Q4} {q:Addr} {ok:Bool} (a7:X4 w1 σ1) (hq:Z3 σ1 q [S c.name,S c.super,lv, .bool c.iface, .bool c.abs, .bool c.fin,fv,mv]) {J:Value→World→Prop} (g2:Sl 3 O4 σ1 fv c.fields)
 (h: ∀w' σ',Stp w1 σ1 w' σ'→J (.bool (ok&&(List.range c.fields.length).all fun i=>Mt c i&&(List.range i).all (T5 c i))) w'):
 lp (
  α:=Value×Value) (Value.bool ok,(.int .i64 0)) w1 fun ac g d_ w=>
  fieldAddr P T.a (.pointer (some q)) 6 w fun bd w=>
  Q2 P T.h bd w fun a9 w=>
  X6 P .len [T.h] T.d [false] [a9] w fun ay w=>
  Q3 P .lss T.d (.tmp 71) (.tmp 74) g.2 ay w fun bj w=>
  X1 bj (
   Q0 g.1 true w (fieldAddr P T.a (.pointer (some q)) 6) fun a6 w=>
   Q0 g.1 true w (Q2 P T.h a6) fun bc w=>
   Q0 g.1 true w (fun w J=>J g.2 w) fun ba w=>
   Q0 g.1 true w (indexAddr P T.h bc ba) fun a8 w=>
   Q0 g.1 true w (fieldAddr P T.j a8 0) fun bf w=>
   Q0 g.1 true w (Q2 P T.b bf) fun a3 w=>
   Q0 g.1 true w (Q1 P F.s [a3]) fun be w=>
   pick P g.1 be (.bool false) w fun m w=>
   Q0 m true w (fieldAddr P T.a (.pointer (some q)) 6) fun a5 w=>
   Q0 m true w (Q2 P T.h a5) fun bi w=>
   Q0 m true w (fun w J=>J g.2 w) fun a0 w=>
   Q0 m true w (indexAddr P T.h bi a0) fun bb w=>
   Q0 m true w (fieldAddr P T.j bb 1) fun bh w=>
   Q0 m true w (Q2 P T.b bh) fun ax w=>
   Q0 m true w (Q1 P F.h [ax]) fun ar w=>
   pick P m ar (.bool false) w fun ae w=>
   Q0 ae true w (fieldAddr P T.a (.pointer (some q)) 3) fun bg w=>
   Q0 ae true w (Q2 P T.q bg) fun a1 w=>
   Q0 ae true w (Z8 P .not a1) fun ao w=>
   pick P ae ao (.bool false) w fun am w=>
   lp (α:=Value×Value) (am,(.int .i64 0)) w fun ab f d_ w=>
    Q3 P .lss T.d (.tmp 102) (.tmp 103) f.2 g.2 w fun aj w=>
    X1 aj (
     dr w fun k Y=>
     Q6 k (fun Q=> ∀w:World,Y w→Q0 f.1 true w (fieldAddr P T.a (.pointer (some q)) 6) (dk k Q w)) fun Q=>
     Q6 k (fun O=> ∀w:World,Y w→Q0 f.1 true w (fun w J=>J f.2 w) (dk k O w)) fun O=>
     Q6 k (fun W=> ∀w:World,Y w→Q0 f.1 true w (fieldAddr P T.a (.pointer (some q)) 6) (dk k W w)) fun W=>
     Q6 k (fun M=> ∀w:World,Y w→Q0 f.1 true w (fun w J=>J g.2 w) (dk k M w)) fun M=>
     Q6 k (fun A=> ∀C:Value,∀w:World,Y w→Q C w→Q0 f.1 true w (Q2 P T.h C) (dk k A w)) fun A=>
     Q6 k (fun B=> ∀H:Value,∀E:Value,∀w:World,Y w→A H w→O E w→Q0 f.1 true w (indexAddr P T.h H E) (dk k B w)) fun B=>
     Q6 k (fun u=> ∀D:Value,∀w:World,Y w→B D w→Q0 f.1 true w (fieldAddr P T.j D 0) (dk k u w)) fun u=>
     Q6 k (fun Z=> ∀z:Value,∀w:World,Y w→u z w→Q0 f.1 true w (Q2 P T.b z) (dk k Z w)) fun Z=>
     Q6 k (fun L=> ∀y:Value,∀w:World,Y w→W y w→Q0 f.1 true w (Q2 P T.h y) (dk k L w)) fun L=>
     Q6 k (fun X=> ∀V:Value,∀t:Value,∀w:World,Y w→L V w→M t w→Q0 f.1 true w (indexAddr P T.h V t) (dk k X w)) fun X=>
     Q6 k (fun R=> ∀U:Value,∀w:World,Y w→X U w→Q0 f.1 true w (fieldAddr P T.j U 0) (dk k R w)) fun R=>
     Q6 k (fun ad=> ∀N:Value,∀w:World,Y w→R N w→Q0 f.1 true w (Q2 P T.b N) (dk k ad w)) fun ad=>
     ∀C:Value,∀E:Value,∀y:Value,∀t:Value,∀H:Value,∀D:Value,∀z:Value,∀af:Value,∀V:Value,∀U:Value,∀N:Value,∀ag:Value,∀w:World,Y w→Q C w→O E w→W y w→M t w→A H w→B D w→u z w→Z af w→L V w→X U w→R N w→ad ag w→
     Q0 f.1 true w (Q3 P .neq T.b (.tmp 114) (.tmp 120) af ag) fun ak w=>
     pick P f.1 ak (.bool false) w fun al w=>
     Q3 P .add T.d (.tmp 105) (.const (.int .i64 1)) f.2 (.int .i64 1) w fun ap w=>
     ab (al,ap) w) (
     Q3 P .add T.d (.tmp 76) (.const (.int .i64 1)) g.2 (.int .i64 1) w fun a4 w=>
     ac (f.1,a4) w)) (
   J g.1 w):=by
 have v:=g2.max
 refine M3 (a:=Value.bool ok) c.fields.length (fun n x w'=> ∃σ',Stp w1 σ1 w' σ'∧x=Value.bool (ok&&(List.range n).all fun i=>Mt c i&&(List.range i).all (T5 c i))) ⟨σ1,Stp.refl a7,by simp⟩ fun n x w2 d bp an=>?_
 obtain ⟨σ2,r,rfl⟩:=an
 have o:=hq.up r
 have p:=g2.up r
 have l:=r.sat
 (repeat refine Hd.h ?_)
 refine ld l o rfl ?_
 refine Q9 p ?_
 refine Z1 ?_
 refine Q5 (fun hc=>?_) (fun hc=>?_)
 ·have j:n<c.fields.length:=by simpa using hc
  have aa:(ok&&(List.range (n+1)).all fun i=>Mt c i&&(List.range i).all (T5 c i))=((ok&&(List.range n).all fun i=>Mt c i&&(List.range i).all (T5 c i))&&(Mt c n&&(List.range n).all (T5 c n))):=by rw[Uo,Bool.and_assoc]
  have hP:Mt c n=(L5 c.fields[n].name&&right c.fields[n].kind&& !c.iface):=by unfold Mt Rb;rw[D3 j]
  obtain ⟨p1,r1⟩:=p.elF j
  have b1:c.fields[n].name.length≤140737488355328:=by have:=r1.2.1;simp only[J8] at this;omega
  have b2:c.fields[n].kind.length≤140737488355328:=by have:=r1.2.2;simp only[J8] at this;omega
  generalize (ok&&(List.range n).all fun i=>Mt c i&&(List.range i).all (T5 c i))=ai at aa⊢
  clear h hc
  have step: ∀b,b=(ai&&Mt c n)→(ai&&(Mt c n&&(List.range n).all (T5 c n)))=(b&&(List.range n).all (T5 c n)):=fun b e=>by rw[e,Bool.and_assoc]
  cases ai with
  | false=>
   (repeat refine Hd.h ?_)
   refine Q1g l o p j fun w4 σ4 s=>?_
   exact Z2 v j ⟨σ4,r.trans s,by rw[aa];rfl⟩
  | true=>
   (repeat refine Hd.h ?_)
   refine ld l o rfl ?_
   (repeat refine Hd.h ?_)
   refine Z4 p j ?_
   (repeat refine Hd.h ?_)
   refine ld l p1 rfl ?_
   (repeat refine Hd.h ?_)
   refine Fg _ b1 ?_
   cases d1:L5 c.fields[n].name with
   | false=>
    (repeat refine Hd.h ?_)
    refine Q1g l o p j fun w4 σ4 s=>?_
    exact Z2 v j ⟨σ4,r.trans s,by rw[aa,step false (by rw[hP,d1];rfl)]⟩
   | true=>
    (repeat refine Hd.h ?_)
    refine ld l o rfl ?_
    (repeat refine Hd.h ?_)
    refine Z4 p j ?_
    (repeat refine Hd.h ?_)
    refine ld l p1 rfl ?_
    (repeat refine Hd.h ?_)
    refine Us _ b2 ?_
    cases d2:right c.fields[n].kind with
    | false=>
     (repeat refine Hd.h ?_)
     refine Q1g l o p j fun w4 σ4 s=>?_
     exact Z2 v j ⟨σ4,r.trans s,by rw[aa,step false (by rw[hP,d1,d2];rfl)]⟩
    | true=>
     (repeat refine Hd.h ?_)
     refine ld l o rfl ?_
     (repeat refine Hd.h ?_)
     refine Q1g l o p j fun w4 σ4 s=>?_
     exact Z2 v j ⟨σ4,r.trans s,by rw[aa,step (!c.iface) (by rw[hP,d1,d2];rfl)]⟩
 ·have j: ¬n<c.fields.length:=by simpa using hc
  obtain rfl:n=c.fields.length:=by omega
  exact h _ _ r
set_option maxHeartbeats 2000000 in
theorem Dy {c:Cla} {lv fv mv:Value} {w1:World} {σ1:Q4} {q:Addr} {ok:Bool} (ac:X4 w1 σ1) (hq:Z3 σ1 q [S c.name,S c.super,lv, .bool c.iface, .bool c.abs, .bool c.fin,fv,mv]) {i:Nat} {q9:Addr} {pv cv hv:Value} {N m0:Nat} {O:Nat→Value→World→Prop} (g3:Sl 7 L9 σ1 mv c.methods) (hi:i<c.methods.length) (Y:Z3 σ1 q9 [S c.methods[i].name,pv,S c.methods[i].result, .bool c.methods[i].abs,I c.methods[i].locals,cv,hv])
 (h: ∀w' σ',Stp w1 σ1 w' σ'→Rd N O (Value.bool (ok&&(List.range i).all (A8 c i)), .int .i64 (IntKind.i64.wrap (i+1))) w'∧Lj N (Value.bool (ok&&(List.range i).all (A8 c i)), .int .i64 (IntKind.i64.wrap (i+1)))<m0):
 lp (α:=Value×Value) (Value.bool ok,(.int .i64 0)) w1 fun A b d_ w=>
  Q3 P .lss T.d (.tmp 158) (.tmp 159) b.2 (I i) w fun M w=>
  X1 M (
   dr w fun e B=>
   Q6 e (fun l=> ∀w:World,B w→Q0 b.1 true w (fieldAddr P T.a (.pointer (some q)) 7) (dk e l w)) fun l=>
   Q6 e (fun s=> ∀w:World,B w→Q0 b.1 true w (fun w J=>J b.2 w) (dk e s w)) fun s=>
   Q6 e (fun o=> ∀w:World,B w→Q0 b.1 true w (fieldAddr P T.c (.pointer (some q9)) 0) (dk e o w)) fun o=>
   Q6 e (fun m=> ∀u:Value,∀w:World,B w→l u w→Q0 b.1 true w (Q2 P T.f u) (dk e m w)) fun m=>
   Q6 e (fun j=> ∀p:Value,∀g:Value,∀w:World,B w→m p w→s g w→Q0 b.1 true w (indexAddr P T.f p g) (dk e j w)) fun j=>
   Q6 e (fun t=> ∀r:Value,∀w:World,B w→j r w→Q0 b.1 true w (fieldAddr P T.c r 0) (dk e t w)) fun t=>
   Q6 e (fun z=> ∀f:Value,∀w:World,B w→t f w→Q0 b.1 true w (Q2 P T.b f) (dk e z w)) fun z=>
   Q6 e (fun y=> ∀n:Value,∀w:World,B w→o n w→Q0 b.1 true w (Q2 P T.b n) (dk e y w)) fun y=>
   ∀u:Value,∀g:Value,∀n:Value,∀p:Value,∀r:Value,∀f:Value,∀D:Value,∀C:Value,∀w:World,B w→l u w→s g w→o n w→m p w→j r w→t f w→z D w→y C w→
   Q0 b.1 true w (Q3 P .neq T.b (.tmp 170) (.tmp 172) D C) fun L w=>
   pick P b.1 L (.bool false) w fun U w=>
   Q3 P .add T.d (.tmp 161) (.const (.int .i64 1)) b.2 (.int .i64 1) w fun V w=>
   A (U,V) w) (
   Q3 P .add T.d (.tmp 128) (.const (.int .i64 1)) (I i) (.int .i64 1) w fun E w=>
   (Rd N O (b.1,E) w∧Lj N (b.1,E)<m0)):=by
 have ag:=g3.max
 refine M3 (a:=Value.bool ok) i (fun k x w'=> ∃σ',Stp w1 σ1 w' σ'∧x=Value.bool (ok&&(List.range k).all (A8 c i))) ⟨σ1,Stp.refl ac,by simp⟩ fun k x w2 d hk Q=>?_
 obtain ⟨σ2,v,rfl⟩:=Q
 have ap:=hq.up v
 have ak:=Y.up v
 have Z:=g3.up v
 have af:=v.sat
 refine Z1 ?_
 refine Q5 (fun W=>?_) (fun W=>?_)
 ·have ad:k<i:=by simpa using W
  have R:k<c.methods.length:=by omega
  have H:(ok&&(List.range (k+1)).all (A8 c i))=((ok&&(List.range k).all (A8 c i))&&A8 c i k):=by rw[Uo,Bool.and_assoc]
  have hQ:A8 c i k= !decide (c.methods[k].name=c.methods[i].name):=by unfold A8 Ow;rw[D3 R,D3 hi]
  rw[hQ] at H
  obtain ⟨am,av,ar,p1,_⟩:=Z.elM R
  generalize (ok&&(List.range k).all (A8 c i))=ab at H⊢
  clear h hQ W
  cases ab
  all_goals
   refine U6 af ?_
   (repeat refine V7 Xc ?_)
   (intros;(repeat (rename_i hx;subst hx));(try simp only[↓M2,M2,Mb,reduceIte]))
   rename_i w3 ae
   exact Z2 (by omega) ad ⟨σ2,v.trans ae.stp,by rw[H];rfl⟩
 ·have X:k=i:=by
   have: ¬k<i:=by simpa using W
   omega
  subst X
  (try simp only[↓M1,M1,Mb,reduceIte])
  exact h _ _ v
set_option maxHeartbeats 4000000 in
theorem X04 {c:Cla} {lv fv mv:Value} {w1:World} {σ1:Q4} {q:Addr} {ok:Bool} (bs:X4 w1 σ1) (hq:Z3 σ1 q [S c.name,S c.super,lv, .bool c.iface, .bool c.abs, .bool c.fin,fv,mv]) {J:Value→World→Prop} (g3:Sl 7 L9 σ1 mv c.methods)
 (h: ∀w' σ',Stp w1 σ1 w' σ'→J (.bool (ok&&(List.range c.methods.length).all fun i=>La c i&&(List.range i).all (A8 c i))) w'):
 lp (α:=Value×Value) (Value.bool ok,(.int .i64 0)) w1 fun ab u d_ w=>
  fieldAddr P T.a (.pointer (some q)) 7 w fun bf w=>
  Q2 P T.f bf w fun bn w=>
  X6 P .len [T.f] T.d [false] [bn] w fun ba w=>
  Q3 P .lss T.d (.tmp 123) (.tmp 126) u.2 ba w fun bg w=>
  X1 bg (
   fieldAddr P T.a (.pointer (some q)) 7 w fun az w=>
   Q2 P T.f az w fun ax w=>
   indexAddr P T.f ax u.2 w fun a5 w=>
   Q2 P T.c a5 w fun bi w=>
   W1 P T.c w fun t9 w=>
   Z6 P T.c t9 bi w fun _u w=>
   Q0 u.1 true w (Q2 P T.c t9) fun a6 w=>
   Q0 u.1 true w (Q1 P F.z [a6]) fun a2 w=>
   pick P u.1 a2 (.bool false) w fun s w=>
   Q0 s true w (fieldAddr P T.c t9 3) fun a4 w=>
   Q0 s true w (Q2 P T.q a4) fun bl w=>
   Q0 s true w (Z8 P .not bl) fun bo w=>
   Q0 s true w (fun w J=>J bo w) fun W w=>
   Q0 W false w (fieldAddr P T.a (.pointer (some q)) 4) fun ar w=>
   Q0 W false w (Q2 P T.q ar) fun bm w=>
   Q0 s true w (pick P W (.bool true) bm) fun a7 w=>
   pick P s a7 (.bool false) w fun r w=>
   Q0 r true w (fieldAddr P T.a (.pointer (some q)) 3) fun a3 w=>
   Q0 r true w (Q2 P T.q a3) fun av w=>
   Q0 r true w (Z8 P .not av) fun a1 w=>
   Q0 r true w (fun w J=>J a1 w) fun V w=>
   Q0 V false w (fieldAddr P T.c t9 3) fun ay w=>
   Q0 V false w (Q2 P T.q ay) fun aw w=>
   Q0 r true w (pick P V (.bool true) aw) fun bd w=>
   pick P r bd (.bool false) w fun bj w=>
   lp (α:=Value×Value) (bj,(.int .i64 0)) w fun Y k d_ w=>
    Q3 P .lss T.d (.tmp 158) (.tmp 159) k.2 u.2 w fun bb w=>
    X1 bb (
     dr w fun y Br=>
     Q6 y (fun B=> ∀w:World,Br w→Q0 k.1 true w (fieldAddr P T.a (.pointer (some q)) 7) (dk y B w)) fun B=>
     Q6 y (fun D=> ∀w:World,Br w→Q0 k.1 true w (fun w J=>J k.2 w) (dk y D w)) fun D=>
     Q6 y (fun M=> ∀w:World,Br w→Q0 k.1 true w (fieldAddr P T.c t9 0) (dk y M w)) fun M=>
     Q6 y (fun L=> ∀E:Value,∀w:World,Br w→B E w→Q0 k.1 true w (Q2 P T.f E) (dk y L w)) fun L=>
     Q6 y (fun H=> ∀N:Value,∀A:Value,∀w:World,Br w→L N w→D A w→Q0 k.1 true w (indexAddr P T.f N A) (dk y H w)) fun H=>
     Q6 y (fun Q=> ∀O:Value,∀w:World,Br w→H O w→Q0 k.1 true w (fieldAddr P T.c O 0) (dk y Q w)) fun Q=>
     Q6 y (fun aa=> ∀z:Value,∀w:World,Br w→Q z w→Q0 k.1 true w (Q2 P T.b z) (dk y aa w)) fun aa=>
     Q6 y (fun Z=> ∀C:Value,∀w:World,Br w→M C w→Q0 k.1 true w (Q2 P T.b C) (dk y Z w)) fun Z=>
     ∀E:Value,∀A:Value,∀C:Value,∀N:Value,∀O:Value,∀z:Value,∀ai:Value,∀ah:Value,∀w:World,Br w→B E w→D A w→M C w→L N w→H O w→Q z w→aa ai w→Z ah w→
     Q0 k.1 true w (Q3 P .neq T.b (.tmp 170) (.tmp 172) ai ah) fun aq w=>
     pick P k.1 aq (.bool false) w fun a8 w=>
     Q3 P .add T.d (.tmp 161) (.const (.int .i64 1)) k.2 (.int .i64 1) w fun bp w=>
     Y (a8,bp) w) (
     Q3 P .add T.d (.tmp 128) (.const (.int .i64 1)) u.2 (.int .i64 1) w fun a9 w=>
     ab (k.1,a9) w)) (
   J u.1 w):=by
 have o:=g3.max
 refine M3 (a:=Value.bool ok) c.methods.length (fun n x w'=> ∃σ',Stp w1 σ1 w' σ'∧x=Value.bool (ok&&(List.range n).all fun i=>La c i&&(List.range i).all (A8 c i))) ⟨σ1,Stp.refl bs,by simp⟩ fun n x w2 d b7 bk=>?_
 obtain ⟨σ2,ad,rfl⟩:=bk
 have ak:=hq.up ad
 have ae:=g3.up ad
 have ag:=ad.sat
 (repeat refine Hd.h ?_)
 refine ld ag ak rfl ?_
 refine Q9 ae ?_
 refine Z1 ?_
 refine Q5 (fun hc=>?_) (fun hc=>?_)
 ·have f:n<c.methods.length:=by simpa using hc
  have v:(ok&&(List.range (n+1)).all fun i=>La c i&&(List.range i).all (A8 c i))=((ok&&(List.range n).all fun i=>La c i&&(List.range i).all (A8 c i))&&(La c n&&(List.range n).all (A8 c n))):=by rw[Uo,Bool.and_assoc]
  have hP:La c n=(S5 c.methods[n]&&(!c.methods[n].abs||c.abs)&&(!c.iface||c.methods[n].abs)):=by unfold La Ow;rw[D3 f]
  obtain ⟨pv,cv,hv,p1,r1⟩:=ae.elM f
  generalize (ok&&(List.range n).all fun i=>La c i&&(List.range i).all (A8 c i))=al at v⊢
  clear h hc
  have step: ∀b,b=(al&&La c n)→(al&&(La c n&&(List.range n).all (A8 c n)))=(b&&(List.range n).all (A8 c n)):=fun b e=>by rw[e,Bool.and_assoc]
  (repeat refine Hd.h ?_)
  refine ld ag ak rfl ?_
  refine Z4 ae f ?_
  refine Y4 ag p1 rfl ?_
  refine Y1 ag (by rfl) rfl (Rep.one r1) fun q9 w3 σ3 ac am=>?_
  have ao:=ac.sat
  have be:=ak.up ac
  have bc:=ae.up ac
  have r3:=RMe_lift r1 ⟨ac.le⟩
  have aj:=ad.trans ac
  cases al with
  | false=>
   (repeat refine Hd.h ?_)
   refine Dy ao be bc f am fun w4 U l=>?_
   exact Z2 o f ⟨U,aj.trans l,by rw[v];rfl⟩
  | true=>
   (repeat refine Hd.h ?_)
   refine Y4 ao am rfl ?_
   (repeat refine Hd.h ?_)
   refine Q63 ao r3 fun w5 σ5 X=>?_
   have m:=X.sat
   have t:=be.up X
   have g:=am.up X
   have R:=bc.up X
   have p:=aj.trans X
   cases d1:S5 c.methods[n] with
   | false=>
    (repeat refine Hd.h ?_)
    refine Dy m t R f g fun w4 U l=>?_
    exact Z2 o f ⟨U,p.trans l,by rw[v,step false (by rw[hP,d1];rfl)]⟩
   | true=>
    (repeat refine Hd.h ?_)
    refine ld m g rfl ?_
    (repeat refine Hd.h ?_)
    have j: ∀b1:Bool,b1=(!c.methods[n].abs||c.abs)→La c n=(b1&&(!c.iface||c.methods[n].abs)):=fun b1 e=>by rw[hP,d1,e];rfl
    cases d2:c.methods[n].abs with
    | false=>
     rw[d2] at j g
     simp only[Bool.not_true,Bool.not_false]
     (repeat refine Hd.h ?_)
     refine ld m t rfl ?_
     (repeat refine Hd.h ?_)
     cases d4:c.iface with
     | false=>
      simp only[Bool.not_true,Bool.not_false]
      (repeat refine Hd.h ?_)
      refine Dy m t R f (by rw[d2];exact g) fun w4 U l=>?_
      exact Z2 o f ⟨U,p.trans l,by rw[v,step true (by rw[j true rfl,d4];rfl)]⟩
     | true=>
      simp only[Bool.not_true,Bool.not_false]
      (repeat refine Hd.h ?_)
      refine ld m g rfl ?_
      (repeat refine Hd.h ?_)
      refine Dy m t R f (by rw[d2];exact g) fun w4 U l=>?_
      exact Z2 o f ⟨U,p.trans l,by rw[v,step false (by rw[j true rfl,d4];rfl)]⟩
    | true=>
     rw[d2] at j g
     simp only[Bool.not_true,Bool.not_false]
     (repeat refine Hd.h ?_)
     refine ld m t rfl ?_
     cases d3:c.abs with
     | false=>
      (repeat refine Hd.h ?_)
      refine Dy m t R f (by rw[d2];exact g) fun w4 U l=>?_
      exact Z2 o f ⟨U,p.trans l,by rw[v,step false (by rw[j false (by rw[d3];rfl)];rfl)]⟩
     | true=>
      (repeat refine Hd.h ?_)
      refine ld m t rfl ?_
      (repeat refine Hd.h ?_)
      cases d4:c.iface with
      | false=>
       simp only[Bool.not_true,Bool.not_false]
       (repeat refine Hd.h ?_)
       refine Dy m t R f (by rw[d2];exact g) fun w4 U l=>?_
       exact Z2 o f ⟨U,p.trans l,by rw[v,step true (by rw[j true (by rw[d3];rfl),d4];rfl)]⟩
      | true=>
       simp only[Bool.not_true,Bool.not_false]
       (repeat refine Hd.h ?_)
       refine ld m g rfl ?_
       (repeat refine Hd.h ?_)
       refine Dy m t R f (by rw[d2];exact g) fun w4 U l=>?_
       exact Z2 o f ⟨U,p.trans l,by rw[v,step true (by rw[j true (by rw[d3];rfl),d4];rfl)]⟩
 ·have f: ¬n<c.methods.length:=by simpa using hc
  obtain rfl:n=c.methods.length:=by omega
  exact h _ _ ad
theorem Q9E {c:Cla} {H L mv:Value} {w1:World} {σ1:Q4} {q:Addr} {ok:Bool} (d:X4 w1 σ1) (g:Z3 σ1 q [S c.name,S c.super,H, .bool c.iface, .bool c.abs, .bool c.fin,L,mv]) (h:K (.bool (ok&&Q6P c)) w1):
 Q0 (Value.bool ok) true w1 (fieldAddr P T.a (.pointer (some q)) 3) fun y w=>
  Q0 (Value.bool ok) true w (Q2 P T.q y) fun u w=>
  Q0 (Value.bool ok) true w (Z8 P .not u) fun n w=>
  Q0 (Value.bool ok) true w (fun w J=>J n w) fun b w=>
  Q0 b false w (fieldAddr P T.a (.pointer (some q)) 4) fun j w=>
  Q0 b false w (Q2 P T.q j) fun t w=>
  Q0 b false w (fun w J=>J t w) fun e w=>
  Q0 e true w (fieldAddr P T.a (.pointer (some q)) 1) fun l w=>
  Q0 e true w (Q2 P T.b l) fun k w=>
  Q0 e true w (Q3 P .eql T.b (.tmp 185) (.const (.string ⟨#[79,98,106,101,99,116]⟩)) k (.string ⟨#[79,98,106,101,99,116]⟩)) fun o w=>
  Q0 b false w (pick P e o (.bool false)) fun z w=>
  Q0 (Value.bool ok) true w (pick P b (.bool true) z) fun v w=>
  pick P (Value.bool ok) v (.bool false) w fun a w=>
  Q0 a true w (fieldAddr P T.a (.pointer (some q)) 4) fun r w=>
  Q0 a true w (Q2 P T.q r) fun p w=>
  Q0 a true w (fun w J=>J p w) fun f w=>
  Q0 f true w (fieldAddr P T.a (.pointer (some q)) 5) fun s w=>
  Q0 f true w (Q2 P T.q s) fun B w=>
  Q0 a true w (pick P f B (.bool false)) fun C w=>
  Q0 a true w (Z8 P .not C) fun m w=>
  pick P a m (.bool false) w fun A w=>
  K A w:=by
 unfold Q6P at h
 have M:decide (c.super=Z9)=decide (c.super=[79,98,106,101,99,116]):=rfl
 rw[M] at h
 cases ok with
 | false=>(try simp only[↓M1,M1,Mb,reduceIte]);simpa using h
 | true=>
  (try simp only[↓M1,M1,Mb,reduceIte])
  refine ld d g rfl ?_
  (try simp only[↓M1,M1,Mb,reduceIte])
  cases D:c.iface with
  | false=>
   rw[D] at h
   (try simp only[↓M1,M1,Mb,reduceIte])
   refine ld d g rfl ?_
   cases i:c.abs with
   | false=>rw[i] at h;(try simp only[↓M1,M1,Mb,reduceIte]);simpa using h
   | true=>
    rw[i] at h
    (try simp only[↓M1,M1,Mb,reduceIte])
    refine ld d g rfl ?_
    (try simp only[↓M1,M1,Mb,reduceIte])
    simpa using h
  | true=>
   rw[D] at h
   (try simp only[↓M1,M1,Mb,reduceIte])
   refine ld d g rfl ?_
   cases i:c.abs with
   | false=>rw[i] at h;(try simp only[↓M1,M1,Mb,reduceIte]);simpa using h
   | true=>
    rw[i] at h
    (try simp only[↓M1,M1,Mb,reduceIte])
    refine ld d g rfl ?_
    (try simp only[↓M1,M1,Mb,reduceIte])
    cases E:decide (c.super=[79,98,106,101,99,116]) with
    | false=>rw[E] at h;(try simp only[↓M1,M1,Mb,reduceIte]);simpa using h
    | true=>
     rw[E] at h
     (try simp only[↓M1,M1,Mb,reduceIte])
     refine ld d g rfl ?_
     simp only[i,↓M1,M1,Mb,reduceIte]
     refine ld d g rfl ?_
     (try simp only[↓M1,M1,Mb,reduceIte])
     simpa using h
end Go.Proofs.YtjdiakhipmggjaaGreatDoor

namespace Go.Proofs.YtjdiakhipmggjaaGreatDoor
open Go.Emb Go.RowKit Go.Kd Go.Hm
variable {w : World} {K : Value → World → Prop} {σ : Q4}
def Q3u (c:Cla):Bool:=((((W2 c.name&&W2 c.super&& !decide (c.name=c.super))&&(List.range c.like.length).all fun i=>Wx c i&&(List.range i).all (G2 c i))&&(List.range c.fields.length).all fun i=>Mt c i&&(List.range i).all (T5 c i))&&(List.range c.methods.length).all fun i=>La c i&&(List.range i).all (A8 c i))&&Q6P c
theorem Q8A {α:Type} {f:α→X0}: ∀(xs a:List α),E1 f a xs=true↔(xs.map f).Nodup∧ ∀x∈xs,∀y∈a,f y≠f x:=by
 intro xs
 induction xs with
 | nil=>intro a;simp[E1]
 | cons x r h=>
  intro a
  simp only[E1,Bool.and_eq_true,h,Bool.not_eq_true',List.map_cons,List.nodup_cons]
  rw[←Bool.not_eq_true,List.any_eq_true]
  simp only[decide_eq_true_eq,not_exists,not_and,List.mem_append,List.mem_cons,List.not_mem_nil,or_false,List.mem_map]
  constructor
  ·rintro ⟨d,g,c⟩
   refine ⟨⟨fun y hy e=>c y hy x (.inr rfl) e.symm,g⟩,fun y hy z b=>?_⟩
   rcases hy with rfl | hy
   ·exact d z b
   ·exact c y hy z (.inl b)
  ·rintro ⟨⟨d,g⟩,c⟩
   refine ⟨fun y hy=>c x (.inl rfl) y hy,g,fun y hy z b=>?_⟩
   rcases b with b | rfl
   ·exact c y (.inr hy) z b
   ·exact fun e=>d y hy e.symm
theorem Ku {α:Type} {f:α→X0} {xs:List α} {p:α→Bool} {P:Nat→Bool} {Q:Nat→Nat→Bool} (d: ∀i (h:i<xs.length),P i=p xs[i]) (e: ∀i (h:i<xs.length) k (o:k<xs.length),Q i k= !decide (f xs[k]=f xs[i])):
 ((List.range xs.length).all fun i=>P i&&(List.range i).all (Q i))=true↔(∀x∈xs,p x=true)∧E1 f [] xs=true:=by
 rw[Q8A,List.all_eq_true]
 simp only[List.mem_range,Bool.and_eq_true,List.all_eq_true,List.not_mem_nil,false_implies,implies_true,and_true]
 rw[List.nodup_iff_pairwise_ne,List.pairwise_iff_getElem]
 simp only[List.length_map,List.getElem_map]
 constructor
 ·intro h
  refine ⟨fun x m=>?_,fun i j a c b=>?_⟩
  ·obtain ⟨i,a,rfl⟩:=List.getElem_of_mem m
   rw[←d i a];exact (h i a).1
  ·have:=(h j c).2 i b
   rw[e j c i a] at this
   simpa using this
 ·rintro ⟨l,n⟩ i a
  refine ⟨by rw[d i a];exact l _ (List.getElem_mem a),fun k g=>?_⟩
  rw[e i a k (by omega)]
  simpa using n k i (by omega) a g
theorem Q93 (c:Cla):Q3u c=Vj c:=by
 have v:=Ku (f:=id) (xs:=c.like) (p:=fun y=>W2 y&& !decide (y=c.name)) (P:=Wx c) (Q:=G2 c) (fun i h=>by unfold Wx;rw[D3 h]) (fun i h k n=>by unfold G2;rw[D3 h,D3 n];rfl)
 have g:=Ku (f:=Fld.name) (xs:=c.fields) (p:=fun f=>L5 f.name&&right f.kind&& !c.iface) (P:=Mt c) (Q:=T5 c) (fun i h=>by unfold Mt Rb;rw[D3 h]) (fun i h k n=>by unfold T5 Rb;rw[D3 h,D3 n])
 have d:=Ku (f:=Hm.Met.name) (xs:=c.methods) (p:=fun m=>S5 m&&(!m.abs||c.abs)&&(!c.iface||m.abs)) (P:=La c) (Q:=A8 c) (fun i h=>by unfold La Ow;rw[D3 h]) (fun i h k n=>by unfold A8 Ow;rw[D3 h,D3 n])
 rw[Bool.eq_iff_iff]
 unfold Q3u Vj Q6P
 simp only[Bool.and_eq_true,v,g,d]
 simp only[Bool.and_eq_true,Bool.not_eq_true',Bool.or_eq_true,Bool.and_eq_false_iff,Bool.or_eq_false_iff,decide_eq_true_eq,decide_eq_false_iff_not,List.all_eq_true,List.mem_cons,List.any_eq_false,Nz,Bool.not_eq_false']
 constructor
 ·rintro ⟨⟨⟨⟨⟨⟨l,o⟩,u⟩,a,s⟩,h6,r⟩,j,t⟩,b,q⟩
  refine ⟨⟨⟨⟨⟨⟨⟨⟨?_,?_⟩,s⟩,?_⟩,q,?_⟩,r⟩,t⟩,?_⟩,fun m d=>(j m d).1.1⟩
  ·rintro x (rfl | rfl | hx)
   ·exact l
   ·exact o
   ·exact (a x hx).1
  ·rintro x (rfl | hx)
   ·exact u
   ·exact fun e=>(a x hx).2 e.symm
  ·cases z:c.iface with
   | false=>exact .inl rfl
   | true=>
    rw[z] at b h6 j
    have b:=b.resolve_left (by decide)
    refine .inr ⟨⟨b,?_⟩,fun m d e=>?_⟩
    ·rw[List.eq_nil_iff_forall_not_mem]
     intro f g
     exact absurd (h6 f g).2 (by decide)
    ·have:=(j m d).2.resolve_left (by decide)
     rw[this] at e;cases e
  ·cases A:c.abs with
   | true=>exact .inr rfl
   | false=>
    rw[A] at j
    refine .inl fun m d e=>?_
    have:=(j m d).1.2.resolve_right (by decide)
    rw[this] at e;cases e
  ·exact fun f g=>(h6 f g).1
 ·rintro ⟨⟨⟨⟨⟨⟨⟨⟨l,o⟩,u⟩,a⟩,s,h6⟩,r⟩,j⟩,t⟩,b⟩
  refine ⟨⟨⟨⟨⟨⟨l _ (.inl rfl),l _ (.inr (.inl rfl))⟩,o _ (.inl rfl)⟩,fun x hx=>⟨l x (.inr (.inr hx)),fun e=>o x (.inr hx) e.symm⟩,u⟩,fun f g=>⟨t f g,?_⟩,r⟩,fun m d=>⟨⟨b m d,?_⟩,?_⟩,j⟩,?_,s⟩
  ·rcases a with a | ⟨⟨_,a⟩,_⟩
   ·exact a
   ·rw[a] at g;simp at g
  ·rcases h6 with h6 | h6
   ·left;exact eq_false_of_ne_true (h6 m d)
   ·exact .inr h6
  ·rcases a with a | ⟨_,a⟩
   ·exact .inl a
   ·right
    cases hx:m.abs with
    | true=>rfl
    | false=>exact absurd hx (a m d)
  ·rcases a with a | ⟨⟨a,_⟩,_⟩
   ·exact .inl a
   ·exact .inr a
set_option maxHeartbeats 4000000 in
theorem Q7B {c:Cla} {cs:List Value} (hs:X4 w σ) (hc:U4 σ c cs) (h: ∀w' σ',Stp w σ w' σ'→K (.bool (Q3u c)) w'):Q1 P F.be [.agg cs.toArray] w K:=Ge (by
 unfold Wu
 obtain ⟨lv,fv,mv,rfl,f1,f2,f3,f4,f5⟩:=hc
 have cz:c.name.length≤140737488355328:=by simp only[J8] at f4;omega
 have c7:c.super.length≤140737488355328:=by simp only[J8] at f5;omega
 refine Y9 hs fun q w1 σ1 bg hq=>?_
 have g1:=f1.up bg
 have g2:=f2.up bg
 have g3:=f3.up bg
 have bn:=bg.sat
 have ci: ∀ok:Bool,ok=(W2 c.name&&W2 c.super&& !decide (c.name=c.super))→_:=fun ok e=>
  Q8i (w1:=w1) (σ1:=σ1) (ok:=ok) bn hq (J:=fun v w=>lp (α:=Value×Value) (v,(.int .i64 0)) w fun bo o d_ w=>
   fieldAddr P T.a (.pointer (some q)) 6 w fun db w=>
   Q2 P T.h db w fun c1 w=>
   X6 P .len [T.h] T.d [false] [c1] w fun cu w=>
   Q3 P .lss T.d (.tmp 71) (.tmp 74) o.2 cu w fun c6 w=>
   X1 c6 (
    Q0 o.1 true w (fieldAddr P T.a (.pointer (some q)) 6) fun cy w=>
    Q0 o.1 true w (Q2 P T.h cy) fun c3 w=>
    Q0 o.1 true w (fun w J=>J o.2 w) fun c2 w=>
    Q0 o.1 true w (indexAddr P T.h c3 c2) fun c0 w=>
    Q0 o.1 true w (fieldAddr P T.j c0 0) fun dc w=>
    Q0 o.1 true w (Q2 P T.b dc) fun c9 w=>
    Q0 o.1 true w (Q1 P F.s [c9]) fun c4 w=>
    pick P o.1 c4 (.bool false) w fun U w=>
    Q0 U true w (fieldAddr P T.a (.pointer (some q)) 6) fun cx w=>
    Q0 U true w (Q2 P T.h cx) fun de w=>
    Q0 U true w (fun w J=>J o.2 w) fun cv w=>
    Q0 U true w (indexAddr P T.h de cv) fun da w=>
    Q0 U true w (fieldAddr P T.j da 1) fun dd w=>
    Q0 U true w (Q2 P T.b dd) fun ct w=>
    Q0 U true w (Q1 P F.h [ct]) fun cq w=>
    pick P U cq (.bool false) w fun cd w=>
    Q0 cd true w (fieldAddr P T.a (.pointer (some q)) 3) fun c5 w=>
    Q0 cd true w (Q2 P T.q c5) fun c8 w=>
    Q0 cd true w (Z8 P .not c8) fun co w=>
    pick P cd co (.bool false) w fun cn w=>
    lp (α:=Value×Value) (cn,(.int .i64 0)) w fun bk l d_ w=>
     Q3 P .lss T.d (.tmp 102) (.tmp 103) l.2 o.2 w fun cl w=>
     X1 cl (
      dr w fun d n=>
      Q6 d (fun az=> ∀w:World,n w→Q0 l.1 true w (fieldAddr P T.a (.pointer (some q)) 6) (dk d az w)) fun az=>
      Q6 d (fun a7=> ∀w:World,n w→Q0 l.1 true w (fun w J=>J l.2 w) (dk d a7 w)) fun a7=>
      Q6 d (fun a1=> ∀w:World,n w→Q0 l.1 true w (fieldAddr P T.a (.pointer (some q)) 6) (dk d a1 w)) fun a1=>
      Q6 d (fun a5=> ∀w:World,n w→Q0 l.1 true w (fun w J=>J o.2 w) (dk d a5 w)) fun a5=>
      Q6 d (fun ar=> ∀a3:Value,∀w:World,n w→az a3 w→Q0 l.1 true w (Q2 P T.h a3) (dk d ar w)) fun ar=>
      Q6 d (fun av=> ∀ax:Value,∀a4:Value,∀w:World,n w→ar ax w→a7 a4 w→Q0 l.1 true w (indexAddr P T.h ax a4) (dk d av w)) fun av=>
      Q6 d (fun a2=> ∀aw:Value,∀w:World,n w→av aw w→Q0 l.1 true w (fieldAddr P T.j aw 0) (dk d a2 w)) fun a2=>
      Q6 d (fun bz=> ∀aq:Value,∀w:World,n w→a2 aq w→Q0 l.1 true w (Q2 P T.b aq) (dk d bz w)) fun bz=>
      Q6 d (fun ay=> ∀ap:Value,∀w:World,n w→a1 ap w→Q0 l.1 true w (Q2 P T.h ap) (dk d ay w)) fun ay=>
      Q6 d (fun ba=> ∀a0:Value,∀ao:Value,∀w:World,n w→ay a0 w→a5 ao w→Q0 l.1 true w (indexAddr P T.h a0 ao) (dk d ba w)) fun ba=>
      Q6 d (fun a8=> ∀a9:Value,∀w:World,n w→ba a9 w→Q0 l.1 true w (fieldAddr P T.j a9 0) (dk d a8 w)) fun a8=>
      Q6 d (fun br=> ∀a6:Value,∀w:World,n w→a8 a6 w→Q0 l.1 true w (Q2 P T.b a6) (dk d br w)) fun br=>
      ∀a3:Value,∀a4:Value,∀ap:Value,∀ao:Value,∀ax:Value,∀aw:Value,∀aq:Value,∀cg:Value,∀a0:Value,∀a9:Value,∀a6:Value,∀ce:Value,∀w:World,n w→az a3 w→a7 a4 w→a1 ap w→a5 ao w→ar ax w→av aw w→a2 aq w→bz cg w→ay a0 w→ba a9 w→a8 a6 w→br ce w→
      Q0 l.1 true w (Q3 P .neq T.b (.tmp 114) (.tmp 120) cg ce) fun cj w=>
      pick P l.1 cj (.bool false) w fun cm w=>
      Q3 P .add T.d (.tmp 105) (.const (.int .i64 1)) l.2 (.int .i64 1) w fun cp w=>
      bk (cm,cp) w) (
      Q3 P .add T.d (.tmp 76) (.const (.int .i64 1)) o.2 (.int .i64 1) w fun cw w=>
      bo (l.1,cw) w)) (
    lp (α:=Value×Value) (o.1,(.int .i64 0)) w fun Q f d_ w=>
     fieldAddr P T.a (.pointer (some q)) 7 w fun b2 w=>
     Q2 P T.f b2 w fun ca w=>
     X6 P .len [T.f] T.d [false] [ca] w fun bx w=>
     Q3 P .lss T.d (.tmp 123) (.tmp 126) f.2 bx w fun b3 w=>
     X1 b3 (
      fieldAddr P T.a (.pointer (some q)) 7 w fun bi w=>
      Q2 P T.f bi w fun bf w=>
      indexAddr P T.f bf f.2 w fun bq w=>
      Q2 P T.c bq w fun b5 w=>
      W1 P T.c w fun t9 w=>
      Z6 P T.c t9 b5 w fun _u w=>
      Q0 f.1 true w (Q2 P T.c t9) fun bs w=>
      Q0 f.1 true w (Q1 P F.z [bs]) fun bl w=>
      pick P f.1 bl (.bool false) w fun k w=>
      Q0 k true w (fieldAddr P T.c t9 3) fun bp w=>
      Q0 k true w (Q2 P T.q bp) fun b7 w=>
      Q0 k true w (Z8 P .not b7) fun cb w=>
      Q0 k true w (fun w J=>J cb w) fun L w=>
      Q0 L false w (fieldAddr P T.a (.pointer (some q)) 4) fun bc w=>
      Q0 L false w (Q2 P T.q bc) fun b8 w=>
      Q0 k true w (pick P L (.bool true) b8) fun bu w=>
      pick P k bu (.bool false) w fun j w=>
      Q0 j true w (fieldAddr P T.a (.pointer (some q)) 3) fun bm w=>
      Q0 j true w (Q2 P T.q bm) fun bd w=>
      Q0 j true w (Z8 P .not bd) fun bj w=>
      Q0 j true w (fun w J=>J bj w) fun H w=>
      Q0 H false w (fieldAddr P T.c t9 3) fun bh w=>
      Q0 H false w (Q2 P T.q bh) fun be w=>
      Q0 j true w (pick P H (.bool true) be) fun b1 w=>
      pick P j b1 (.bool false) w fun b6 w=>
      lp (α:=Value×Value) (b6,(.int .i64 0)) w fun M b d_ w=>
       Q3 P .lss T.d (.tmp 158) (.tmp 159) b.2 f.2 w fun b0 w=>
       X1 b0 (
        dr w fun d n=>
        Q6 d (fun s=> ∀w:World,n w→Q0 b.1 true w (fieldAddr P T.a (.pointer (some q)) 7) (dk d s w)) fun s=>
        Q6 d (fun u=> ∀w:World,n w→Q0 b.1 true w (fun w J=>J b.2 w) (dk d u w)) fun u=>
        Q6 d (fun B=> ∀w:World,n w→Q0 b.1 true w (fieldAddr P T.c t9 0) (dk d B w)) fun B=>
        Q6 d (fun A=> ∀y:Value,∀w:World,n w→s y w→Q0 b.1 true w (Q2 P T.f y) (dk d A w)) fun A=>
        Q6 d (fun z=> ∀C:Value,∀r:Value,∀w:World,n w→A C w→u r w→Q0 b.1 true w (indexAddr P T.f C r) (dk d z w)) fun z=>
        Q6 d (fun E=> ∀D:Value,∀w:World,n w→z D w→Q0 b.1 true w (fieldAddr P T.c D 0) (dk d E w)) fun E=>
        Q6 d (fun O=> ∀p:Value,∀w:World,n w→E p w→Q0 b.1 true w (Q2 P T.b p) (dk d O w)) fun O=>
        Q6 d (fun N=> ∀t:Value,∀w:World,n w→B t w→Q0 b.1 true w (Q2 P T.b t) (dk d N w)) fun N=>
        ∀y:Value,∀r:Value,∀t:Value,∀C:Value,∀D:Value,∀p:Value,∀ab:Value,∀Y:Value,∀w:World,n w→s y w→u r w→B t w→A C w→z D w→E p w→O ab w→N Y w→
        Q0 b.1 true w (Q3 P .neq T.b (.tmp 170) (.tmp 172) ab Y) fun bb w=>
        pick P b.1 bb (.bool false) w fun bv w=>
        Q3 P .add T.d (.tmp 161) (.const (.int .i64 1)) b.2 (.int .i64 1) w fun cc w=>
        M (bv,cc) w) (
        Q3 P .add T.d (.tmp 128) (.const (.int .i64 1)) f.2 (.int .i64 1) w fun bw w=>
        Q (b.1,bw) w)) (
      Q0 f.1 true w (fieldAddr P T.a (.pointer (some q)) 3) fun W w=>
      Q0 f.1 true w (Q2 P T.q W) fun ac w=>
      Q0 f.1 true w (Z8 P .not ac) fun af w=>
      Q0 f.1 true w (fun w J=>J af w) fun g w=>
      Q0 g false w (fieldAddr P T.a (.pointer (some q)) 4) fun aj w=>
      Q0 g false w (Q2 P T.q aj) fun V w=>
      Q0 g false w (fun w J=>J V w) fun i w=>
      Q0 i true w (fieldAddr P T.a (.pointer (some q)) 1) fun ak w=>
      Q0 i true w (Q2 P T.b ak) fun R w=>
      Q0 i true w (Q3 P .eql T.b (.tmp 185) (.const (.string ⟨#[79,98,106,101,99,116]⟩)) R (.string ⟨#[79,98,106,101,99,116]⟩)) fun Z w=>
      Q0 g false w (pick P i Z (.bool false)) fun ad w=>
      Q0 f.1 true w (pick P g (.bool true) ad) fun ae w=>
      pick P f.1 ae (.bool false) w fun a w=>
      Q0 a true w (fieldAddr P T.a (.pointer (some q)) 4) fun ag w=>
      Q0 a true w (Q2 P T.q ag) fun aa w=>
      Q0 a true w (fun w J=>J aa w) fun m w=>
      Q0 m true w (fieldAddr P T.a (.pointer (some q)) 5) fun ah w=>
      Q0 m true w (Q2 P T.q ah) fun am w=>
      Q0 a true w (pick P m am (.bool false)) fun ai w=>
      Q0 a true w (Z8 P .not ai) fun al w=>
      pick P a al (.bool false) w fun X w=>
      K X w))) f4 g1 fun w2 σ2 an=>
  X0e (J:=fun v w=>lp (α:=Value×Value) (v,(.int .i64 0)) w fun Q f d_ w=>
   fieldAddr P T.a (.pointer (some q)) 7 w fun b2 w=>
   Q2 P T.f b2 w fun ca w=>
   X6 P .len [T.f] T.d [false] [ca] w fun bx w=>
   Q3 P .lss T.d (.tmp 123) (.tmp 126) f.2 bx w fun b3 w=>
   X1 b3 (
    fieldAddr P T.a (.pointer (some q)) 7 w fun bi w=>
    Q2 P T.f bi w fun bf w=>
    indexAddr P T.f bf f.2 w fun bq w=>
    Q2 P T.c bq w fun b5 w=>
    W1 P T.c w fun t9 w=>
    Z6 P T.c t9 b5 w fun _u w=>
    Q0 f.1 true w (Q2 P T.c t9) fun bs w=>
    Q0 f.1 true w (Q1 P F.z [bs]) fun bl w=>
    pick P f.1 bl (.bool false) w fun k w=>
    Q0 k true w (fieldAddr P T.c t9 3) fun bp w=>
    Q0 k true w (Q2 P T.q bp) fun b7 w=>
    Q0 k true w (Z8 P .not b7) fun cb w=>
    Q0 k true w (fun w J=>J cb w) fun L w=>
    Q0 L false w (fieldAddr P T.a (.pointer (some q)) 4) fun bc w=>
    Q0 L false w (Q2 P T.q bc) fun b8 w=>
    Q0 k true w (pick P L (.bool true) b8) fun bu w=>
    pick P k bu (.bool false) w fun j w=>
    Q0 j true w (fieldAddr P T.a (.pointer (some q)) 3) fun bm w=>
    Q0 j true w (Q2 P T.q bm) fun bd w=>
    Q0 j true w (Z8 P .not bd) fun bj w=>
    Q0 j true w (fun w J=>J bj w) fun H w=>
    Q0 H false w (fieldAddr P T.c t9 3) fun bh w=>
    Q0 H false w (Q2 P T.q bh) fun be w=>
    Q0 j true w (pick P H (.bool true) be) fun b1 w=>
    pick P j b1 (.bool false) w fun b6 w=>
    lp (α:=Value×Value) (b6,(.int .i64 0)) w fun M b d_ w=>
     Q3 P .lss T.d (.tmp 158) (.tmp 159) b.2 f.2 w fun b0 w=>
     X1 b0 (
      dr w fun d n=>
      Q6 d (fun s=> ∀w:World,n w→Q0 b.1 true w (fieldAddr P T.a (.pointer (some q)) 7) (dk d s w)) fun s=>
      Q6 d (fun u=> ∀w:World,n w→Q0 b.1 true w (fun w J=>J b.2 w) (dk d u w)) fun u=>
      Q6 d (fun B=> ∀w:World,n w→Q0 b.1 true w (fieldAddr P T.c t9 0) (dk d B w)) fun B=>
      Q6 d (fun A=> ∀y:Value,∀w:World,n w→s y w→Q0 b.1 true w (Q2 P T.f y) (dk d A w)) fun A=>
      Q6 d (fun z=> ∀C:Value,∀r:Value,∀w:World,n w→A C w→u r w→Q0 b.1 true w (indexAddr P T.f C r) (dk d z w)) fun z=>
      Q6 d (fun E=> ∀D:Value,∀w:World,n w→z D w→Q0 b.1 true w (fieldAddr P T.c D 0) (dk d E w)) fun E=>
      Q6 d (fun O=> ∀p:Value,∀w:World,n w→E p w→Q0 b.1 true w (Q2 P T.b p) (dk d O w)) fun O=>
      Q6 d (fun N=> ∀t:Value,∀w:World,n w→B t w→Q0 b.1 true w (Q2 P T.b t) (dk d N w)) fun N=>
      ∀y:Value,∀r:Value,∀t:Value,∀C:Value,∀D:Value,∀p:Value,∀ab:Value,∀Y:Value,∀w:World,n w→s y w→u r w→B t w→A C w→z D w→E p w→O ab w→N Y w→
      Q0 b.1 true w (Q3 P .neq T.b (.tmp 170) (.tmp 172) ab Y) fun bb w=>
      pick P b.1 bb (.bool false) w fun bv w=>
      Q3 P .add T.d (.tmp 161) (.const (.int .i64 1)) b.2 (.int .i64 1) w fun cc w=>
      M (bv,cc) w) (
      Q3 P .add T.d (.tmp 128) (.const (.int .i64 1)) f.2 (.int .i64 1) w fun bw w=>
      Q (b.1,bw) w)) (
    Q0 f.1 true w (fieldAddr P T.a (.pointer (some q)) 3) fun W w=>
    Q0 f.1 true w (Q2 P T.q W) fun ac w=>
    Q0 f.1 true w (Z8 P .not ac) fun af w=>
    Q0 f.1 true w (fun w J=>J af w) fun g w=>
    Q0 g false w (fieldAddr P T.a (.pointer (some q)) 4) fun aj w=>
    Q0 g false w (Q2 P T.q aj) fun V w=>
    Q0 g false w (fun w J=>J V w) fun i w=>
    Q0 i true w (fieldAddr P T.a (.pointer (some q)) 1) fun ak w=>
    Q0 i true w (Q2 P T.b ak) fun R w=>
    Q0 i true w (Q3 P .eql T.b (.tmp 185) (.const (.string ⟨#[79,98,106,101,99,116]⟩)) R (.string ⟨#[79,98,106,101,99,116]⟩)) fun Z w=>
    Q0 g false w (pick P i Z (.bool false)) fun ad w=>
    Q0 f.1 true w (pick P g (.bool true) ad) fun ae w=>
    pick P f.1 ae (.bool false) w fun a w=>
    Q0 a true w (fieldAddr P T.a (.pointer (some q)) 4) fun ag w=>
    Q0 a true w (Q2 P T.q ag) fun aa w=>
    Q0 a true w (fun w J=>J aa w) fun m w=>
    Q0 m true w (fieldAddr P T.a (.pointer (some q)) 5) fun ah w=>
    Q0 m true w (Q2 P T.q ah) fun am w=>
    Q0 a true w (pick P m am (.bool false)) fun ai w=>
    Q0 a true w (Z8 P .not ai) fun al w=>
    pick P a al (.bool false) w fun X w=>
    K X w)) an.sat (hq.up an) (g2.up an) fun w3 σ3 b9=>
  X04 (J:=fun v w=>Q0 v true w (fieldAddr P T.a (.pointer (some q)) 3) fun W w=>
   Q0 v true w (Q2 P T.q W) fun ac w=>
   Q0 v true w (Z8 P .not ac) fun af w=>
   Q0 v true w (fun w J=>J af w) fun g w=>
   Q0 g false w (fieldAddr P T.a (.pointer (some q)) 4) fun aj w=>
   Q0 g false w (Q2 P T.q aj) fun V w=>
   Q0 g false w (fun w J=>J V w) fun i w=>
   Q0 i true w (fieldAddr P T.a (.pointer (some q)) 1) fun ak w=>
   Q0 i true w (Q2 P T.b ak) fun R w=>
   Q0 i true w (Q3 P .eql T.b (.tmp 185) (.const (.string ⟨#[79,98,106,101,99,116]⟩)) R (.string ⟨#[79,98,106,101,99,116]⟩)) fun Z w=>
   Q0 g false w (pick P i Z (.bool false)) fun ad w=>
   Q0 v true w (pick P g (.bool true) ad) fun ae w=>
   pick P v ae (.bool false) w fun a w=>
   Q0 a true w (fieldAddr P T.a (.pointer (some q)) 4) fun ag w=>
   Q0 a true w (Q2 P T.q ag) fun aa w=>
   Q0 a true w (fun w J=>J aa w) fun m w=>
   Q0 m true w (fieldAddr P T.a (.pointer (some q)) 5) fun ah w=>
   Q0 m true w (Q2 P T.q ah) fun am w=>
   Q0 a true w (pick P m am (.bool false)) fun ai w=>
   Q0 a true w (Z8 P .not ai) fun al w=>
   pick P a al (.bool false) w fun X w=>
   K X w) b9.sat ((hq.up an).up b9) ((g3.up an).up b9) fun w4 σ4 ch=>
  Q9E (K:=K) ch.sat (((hq.up an).up b9).up ch) (by rw[e];exact h _ _ (bg.trans (an.trans (b9.trans ch))))
 (repeat refine Hd.h ?_)
 refine ld bn hq rfl ?_
 refine Qi c.name cz ?_
 cases d1:W2 c.name with
 | false=>(repeat refine Hd.h ?_);exact ci false (by rw[d1];rfl)
 | true=>
  (repeat refine Hd.h ?_)
  refine ld bn hq rfl ?_
  (repeat refine Hd.h ?_)
  refine Qi c.super c7 ?_
  cases d2:W2 c.super with
  | false=>(repeat refine Hd.h ?_);exact ci false (by rw[d1,d2];rfl)
  | true=>
   (repeat refine Hd.h ?_)
   refine ld bn hq rfl ?_
   (repeat refine Hd.h ?_)
   refine ld bn hq rfl ?_
   (repeat refine Hd.h ?_)
   refine Mx ?_
   (repeat refine Hd.h ?_)
   exact ci _ (by rw[d1,d2];rfl))
theorem Q1M {c:Cla} {cs:List Value} (t:X4 w σ) (d:U4 σ c cs) (h: ∀w' o,Stp w σ w' o→K (I (L3 c)) w'):Q1 P F.bc [.agg cs.toArray] w K:=Cx (by
 unfold Vz
 have g:=Rep.one (R:=U4) d
 obtain ⟨p,r,mv,rfl,n,k,m,s,l⟩:=d
 have d:U4 σ c _:=⟨p,r,mv,rfl,n,k,m,s,l⟩
 refine Y9 t fun q w1 σ1 a j=>?_
 unfold L3 at h
 refine Y4 a.sat j rfl ?_
 refine Q8l a.sat (RCl_lift d ⟨a.le⟩) fun v u b=>?_
 cases f:Xr c with
 | true=>simp only[f,if_true] at h;(try simp only[↓M1,M1,Mb,reduceIte]);exact h _ _ (a.trans b)
 | false=>
  simp only[f,Bool.false_eq_true,if_false] at h
  (try simp only[↓M1,M1,Mb,reduceIte])
  refine Y4 b.sat (j.up b) rfl ?_
  refine Q7B b.sat (RCl_lift d ⟨(a.trans b).le⟩) fun y z e=>?_
  rw[Q93]
  cases i:Vj c with
  | true=>simp only[i,if_true] at h;(try simp only[↓M1,M1,Mb,reduceIte]);exact h _ _ (a.trans (b.trans e))
  | false=>simp only[i,Bool.false_eq_true,if_false] at h;(try simp only[↓M1,M1,Mb,reduceIte]);exact h _ _ (a.trans (b.trans e)))
end Go.Proofs.YtjdiakhipmggjaaGreatDoor

namespace Go.Hm
open Go.Kd
structure Alike (l m : List Cla) : Prop where
  lk : lk l = lk m
  len : l.length = m.length
  weigh : weigh l [] = weigh m []
section
variable {l m : List Cla} (h : Alike l m)
include h
end
theorem X0o {l:List Cla} {frm:Nat}: ∀(f:Nat) (a:List Nat) (i:Nat),∀y∈F6 l frm f a i,y∈a∨frm≤y:=by
 intro f
 induction f with
 | zero=>intro a i y hy;exact .inl hy
 | succ f c=>
  intro a i y hy
  simp only[F6] at hy
  split at hy
  ·exact .inl hy
  ·split at hy
   ·exact .inl hy
   ·rename_i e _
    rcases List.mem_append.1 hy with hy | hy
    ·exact Uz (p:=fun y=>frm≤y) _ _ (fun b x _ z d=>c b _ z d) y hy
    ·simp at hy;omega
theorem Q8M {a:List Cla} (e:F2 a): ∀j∈U7 a 8,8≤j∧j<a.length:=by
 intro j c
 unfold U7 at c
 have f:=Uz (p:=fun y=>8≤y) _ _ (fun b x _ z d=>X0o _ b x z d) j c
 have i:=Uz (p:=fun y=>y<a.length) _ _ (fun b x g z d=>(Q4D e (by omega) _ b x (by
  have:=List.mem_of_mem_drop g
  simpa using this) z d).imp id (·.1)) j c
 exact ⟨f.resolve_left (by simp),i.resolve_left (by simp)⟩
end Go.Hm
namespace Go.Proofs.YtjdiakhipmggjaaGreatDoor
open Go.Emb Go.RowKit Go.Kd Go.Hm
end Go.Proofs.YtjdiakhipmggjaaGreatDoor

namespace Go.Hm
open Go.Kd
theorem Q6a {a:List Cla} {m:Nat} (b:m<a.length):Y2 a (Y0 a m)=some m↔Y2 (a.take m) (Y0 a m)=none:=by
 have e:Y0 a m=a[m].name:=by unfold Y0;rw[List.getD_eq_getElem?_getD,List.getElem?_eq_getElem b];rfl
 unfold Y2
 rw[List.findIdx?_eq_some_iff_getElem,List.findIdx?_eq_none_iff]
 constructor
 ·rintro ⟨i,k,f⟩ c g
  obtain ⟨j,d,rfl⟩:=List.mem_take_iff_getElem.1 g
  simpa using f j (by omega)
 ·intro h
  refine ⟨b,by simp[e],fun j d=>?_⟩
  simpa using h a[j] (List.mem_take_iff_getElem.2 ⟨j,by omega,rfl⟩)
theorem Q6c {a:List Cla} (c:F2 a) {m:Nat} (b:m<a.length):Zo a (Y0 a m) (Y0 a m)=B5 a a[m]:=by
 have d:Y0 a m=a[m].name:=by unfold Y0;rw[List.getD_eq_getElem?_getD,List.getElem?_eq_getElem b];rfl
 unfold Zo B5
 rw[Qh c b,List.getD_eq_getElem?_getD,List.getElem?_eq_getElem b]
 simp only[Option.getD_some,d]
end Go.Hm
namespace Go.Proofs.YtjdiakhipmggjaaGreatDoor
open Go.Emb Go.RowKit Go.Kd Go.Hm
variable {w : World} {K : Value → World → Prop} {σ : Q4} {l : List Cla}
theorem Q5Y: ∀c∈R8,Xr c=false:=by decide
theorem Q6Y {c:Cla} (h:L3 c=0):Xr c=false:=by
 unfold L3 at h
 split at h
 ·cases h
 ·rename_i a;exact eq_false_of_ne_true a
set_option maxHeartbeats 4000000 in
theorem Q9B {lv:Value} (hs:X4 w σ) (hl:Sl 8 U4 σ lv l) (c1:l.length≤900)
 (C: ∀i e w' t,Ej L3 l=some (i,e)→Stp w σ w' t→K (.tuple #[.slice none 0 0,I i,I e]) w')
 (h0: ∀v w' t,Ej L3 l=none→Stp w σ w' t→Sl 8 U4 t v (Q7 l)→Ok (Q7 l)→F2 (Q7 l)→K (.tuple #[v,I 0,I 0]) w'):Q1 P F.bx [lv] w K:=Kw (by
 unfold Nf
 have z:R8.length=8:=rfl
 have di:(Q7 l).length=8+l.length:=by simp[Q7,z]
 refine Q8a hs fun x0 w1 σ1 bo bg=>?_
 refine Q6w bg ?_
 rw[z]
 refine M3 l.length (fun n x w'=> ∃t,Stp w σ w' t∧V2 w.heap.size T.a 8 U4 t w' x (R8++l.take n)∧L1 L3 l 0=L1 L3 (l.drop n) n)
  ⟨σ1,bo,by simpa using bg,rfl⟩ fun n x w4 d L f=>?_
 obtain ⟨σ4,ab,az,H⟩:=f
 have ad:=hl.up ab
 refine Q9 ad ?_
 refine Z1 ?_
 refine Q5 (fun hh=>?_) (fun hh=>?_)
 ·have a:n<l.length:=by simpa using hh
  obtain ⟨b3,bu,ca,p1,r1⟩:=ad.elC a
  refine Z4 ad a ?_
  refine Y4 ab.sat p1 rfl ?_
  refine Q1M ab.sat r1 fun w6 σ6 ac=>?_
  have bk:=ab.trans ac
  have M:=Ua a H
  refine Vr ?_
  refine Q5 (fun m=>?_) (fun m=>?_)
  ·have r: ¬L3 l[n]=0:=by simpa using m
   rw[if_neg r] at M
   refine C _ _ _ _ ?_ bk
   unfold Ej
   rw[M]
  ·have hz:L3 l[n]=0:=by simpa using m
   rw[if_pos hz] at M
   refine Z4 (ad.up ac) a ?_
   refine Y4 ac.sat (p1.up ac) rfl ?_
   have cp:=az.up ac
   have r6:=RCl_lift r1 ⟨ac.le⟩
   refine Zb (R:=U4) (x:=l[n]) bk cp (by simpa [Value.cells] using r6) rfl rfl rfl (by simp[z];omega) (by simp[z];omega) fun s v' w9 σ9 dn o cr a5=>?_
   refine M7 ?_
   refine Z2 ad.max a ⟨σ9,o,?_,M⟩
   rw[List.take_add_one,List.getElem?_eq_getElem a,←List.append_assoc]
   exact cr
 have a: ¬n<l.length:=by simpa using hh
 rw[List.take_of_length_le (by omega)] at az
 rw[List.drop_eq_nil_of_le (by omega)] at H
 have H:L1 L3 l 0=none:=H
 have cg:=B1 H
 have bh: ∀c∈l,K5 c∧Nm c∧c.name≠[]:=fun c hc=>Rs (cg c hc)
 have q: ∀c∈Q7 l,K5 c:=fun c hc=>by
  rcases List.mem_append.1 hc with hc | hc
  ·exact (Yi c hc).1
  ·exact (bh c hc).1
 have a4: ∀c∈Q7 l,Nm c:=fun c hc=>by
  rcases List.mem_append.1 hc with hc | hc
  ·exact (Yi c hc).2.1
  ·exact (bh c hc).2.1
 have aa: ∀c∈Q7 l,Xr c=false:=fun c hc=>by
  rcases List.mem_append.1 hc with hc | hc
  ·exact Q5Y c hc
  ·exact Q6Y (cg c hc)
 have ae:(Q7 l).length≤100000:=by omega
 unfold Ej at C h0
 rw[H] at C h0
 simp only at C h0
 obtain ⟨σ5,p,J,c3,cx⟩:=az.keep ab
 change Sl 8 U4 σ5 x (Q7 l) at J
 clear az ab ad a hh L H bg bo
 have A: ∀{n:Nat} (L:n<l.length),∃(h:8+n<(Q7 l).length),(Q7 l)[8+n]=l[n]:=fun {n} L=>⟨by omega,by
  unfold Q7
  rw[List.getElem_append_right (by rw[z];omega)]
  congr 1
  rw[z];omega⟩
 have bp: ∀{n:Nat} (L:n<l.length),Y0 (Q7 l) (8+n)=l[n].name:=fun {n} L=>by
  obtain ⟨C,h2⟩:=A L
  rw[Bb C,h2]
 have b1: ∀j,j<8→(Y2 ((Q7 l).take j) (Y0 (Q7 l) j)).isSome=false:=by
  have hd: ∀j,j<8→(Y2 (R8.take j) (Y0 R8 j)).isSome=false:=by decide
  intro j hj
  have e1:(Q7 l).take j=R8.take j:=by unfold Q7;rw[List.take_append_of_le_length (by rw[z];omega)]
  have e2:Y0 (Q7 l) j=Y0 R8 j:=by
   unfold Y0 Q7;rw[List.getD_eq_getElem?_getD,List.getD_eq_getElem?_getD,List.getElem?_append_left (by rw[z];omega)]
  rw[e1,e2];exact hd j hj
 refine U3 l.length (fun n w'=>Stp w σ w' σ5∧ ∀j,j<8+n→(Y2 ((Q7 l).take j) (Y0 (Q7 l) j)).isSome=false) ⟨p,by simpa using b1⟩ fun n w5 d L f=>?_
 clear p
 obtain ⟨p,a2⟩:=f
 have al:=hl.up p
 refine Q9 al ?_
 refine Z1 ?_
 refine Q5 (fun hh=>?_) (fun hh=>?_)
 ·have a:n<l.length:=by simpa using hh
  obtain ⟨b3,bu,ca,p1,r1⟩:=al.elC a
  refine Z4 al a ?_
  (try simp only[↓M1,M1,Mb,reduceIte])
  refine ld p.sat p1 rfl ?_
  refine P2 p.sat J ?_
  rw[S8 (by omega) (by omega)]
  refine Vr ?_
  obtain ⟨U,e8⟩:=A a
  rw[←bp a]
  have b5:=Q6a U
  cases ak:Y2 ((Q7 l).take (8+n)) (Y0 (Q7 l) (8+n)) with
  | none=>
   rw[b5.2 ak]
   have e:decide (W0 (some (8+n))=(8:Nat)+(n:Int))=true:=by simp[W0]
   rw[e]
   (try simp only[↓M1,M1,Mb,reduceIte])
   refine Y3 al.max a ⟨p,fun j hj=>?_⟩
   by_cases ej:j=8+n
   ·rw[ej,ak];rfl
   ·exact a2 j (by omega)
  | some i=>
   have r:Y2 (Q7 l) (Y0 (Q7 l) (8+n))≠some (8+n):=fun e=>by rw[b5.1 e] at ak;cases ak
   have e:decide (W0 (Y2 (Q7 l) (Y0 (Q7 l) (8+n)))=(8:Nat)+(n:Int))=false:=by
    rw[decide_eq_false_iff_not]
    intro e
    cases hf:Y2 (Q7 l) (Y0 (Q7 l) (8+n)) with
    | none=>rw[hf] at e;simp only[W0] at e;omega
    | some k=>
     rw[hf] at e r
     simp only[W0] at e
     apply r
     congr 1;omega
   rw[e]
   (try simp only[↓M1,M1,Mb,reduceIte])
   have Y:Es (Q7 l)=some (8+n):=by
    unfold Es
    rw[List.find?_range_eq_some]
    refine ⟨by rw[ak];rfl,by simpa using U,fun j hj=>by rw[a2 j hj];rfl⟩
   refine C _ _ _ _ ?_ p
   rw[Y]
   have:((8+n:Nat):Int)-8=n:=by omega
   simp only[this]
 have a: ¬n<l.length:=by simpa using hh
 have Y:Es (Q7 l)=none:=by
  unfold Es
  rw[List.find?_eq_none]
  intro j hj
  rw[a2 j (by have:=List.mem_range.1 hj;omega)];simp
 rw[Y] at C h0
 simp only at C h0
 have g:=Bh Y
 clear a2 hh a L al b1
 refine U3 l.length (fun n w'=> ∃t,Stp w σ w' t∧SLe σ5 t∧L1 (fun c=>(L2 (Q7 l) c:Int)) l 0=L1 (fun c=>(L2 (Q7 l) c:Int)) (l.drop n) n) ⟨σ5,p,SLe.refl _,rfl⟩ fun n w6 d L f=>?_
 obtain ⟨σ9,o,ai,Z⟩:=f
 have ao:=hl.up o
 refine Q9 ao ?_
 refine Z1 ?_
 refine Q5 (fun hh=>?_) (fun hh=>?_)
 ·have a:n<l.length:=by simpa using hh
  obtain ⟨b3,bu,ca,p1,r1⟩:=ao.elC a
  refine Z4 ao a ?_
  refine Y4 o.sat p1 rfl ?_
  have W:=Ua a Z
  refine Q6u o.sat (J.lift ai) r1 fun w8 ck ax=>?_
  refine Vr ?_
  refine Q5 (fun m=>?_) (fun m=>?_)
  ·have r: ¬(L2 (Q7 l) l[n]:Int)=0:=by simpa using m
   rw[if_neg r] at W
   refine C _ _ _ _ ?_ (o.trans ax)
   rw[W]
  ·have hz:(L2 (Q7 l) l[n]:Int)=0:=by simpa using m
   rw[if_pos hz] at W
   refine M7 ?_
   exact Y3 ao.max a ⟨ck,o.trans ax,ai.more ⟨ax.le⟩,W⟩
 have a: ¬n<l.length:=by simpa using hh
 rw[List.drop_eq_nil_of_le (by omega)] at Z
 have Z:L1 (fun c=>(L2 (Q7 l) c:Int)) l 0=none:=Z
 rw[Z] at C h0
 simp only at C h0
 have b2:=B1 Z
 clear hh a L p ao
 refine Q2x o.sat (J.lift ai) g (by omega) (by omega) q fun vb da bn ay aq=>?_
 have b:=o.trans ay
 have a6:=ai.more ⟨ay.le⟩
 have a1:(Xb (Q7 l)).length=(Q7 l).length:=by simp[Xb]
 refine U3 l.length (fun n w'=>Stp w σ w' bn∧ ∀j (hj:j<l.length),j<n→B5 (Q7 l) l[j]=false) ⟨b,fun j _ h=>by omega⟩ fun n db d L f=>?_
 clear b
 obtain ⟨b,a3⟩:=f
 have an:=hl.up b
 refine Q9 an ?_
 refine Z1 ?_
 refine Q5 (fun hh=>?_) (fun hh=>?_)
 ·have a:n<l.length:=by simpa using hh
  obtain ⟨U,e8⟩:=A a
  refine Uq ⟨by omega,by omega⟩ ?_
  have ec:((8:Nat):Int)+(n:Int)=((8+n:Nat):Int):=by omega
  rw[ec]
  obtain ⟨ds,pb,_,rv,rfl,rb⟩:=aq.el (i:=8+n) (by rw[a1];exact U)
  have bl:(Xb (Q7 l))[8+n]'(by rw[a1];exact U)=(List.range (Q7 l).length).map fun j=>Zo (Q7 l) (Y0 (Q7 l) (8+n)) (Y0 (Q7 l) j):=by simp[Xb]
  rw[bl] at rb
  obtain ⟨cq,bi,_,am⟩:=rb.el (i:=8+n) (by simpa using U)
  have am:cq=_:=am
  subst am
  simp only[List.getElem_map,List.getElem_range] at bi
  rw[Q6c g U,e8] at bi
  refine Z4 aq (by rw[a1];exact U) ?_
  refine X8 b.sat pb rfl ?_
  refine Uq ⟨by omega,by omega⟩ ?_
  rw[ec]
  refine Z4 rb (by simpa using U) ?_
  refine X8 b.sat bi rfl ?_
  cases b9:B5 (Q7 l) l[n] with
  | true=>
   (try simp only[↓M1,M1,Mb,reduceIte])
   have bf:l.findIdx? (B5 (Q7 l))=some n:=by
    rw[List.findIdx?_eq_some_iff_getElem]
    exact ⟨a,b9,fun j hj=>by simpa using a3 j (by omega) hj⟩
   refine C _ _ _ _ ?_ b
   rw[bf]
  | false=>
   (try simp only[↓M1,M1,Mb,reduceIte])
   refine Y3 an.max a ⟨b,fun j hj dd=>?_⟩
   by_cases e:j=n
   ·subst e;exact b9
   ·exact a3 j hj (by omega)
 have a: ¬n<l.length:=by simpa using hh
 have a8: ∀c∈l,B5 (Q7 l) c=false:=fun c hc=>by
  obtain ⟨j,hj,rfl⟩:=List.getElem_of_mem hc
  exact a3 j hj (by omega)
 have bf:l.findIdx? (B5 (Q7 l))=none:=by
  rw[List.findIdx?_eq_none_iff];exact a8
 rw[bf] at C h0
 simp only at C h0
 clear a3 hh a L an aq ay o a1
 have af:=Q4c g (fun c hc=>(bh c hc).2.2) a8
 have aj:Q8m (Q7 l):=fun c hc u hu=>by
  rcases List.mem_append.1 hc with hc | hc
  ·rw[(Yi c hc).2.2] at hu;simp at hu
  ·have:=b2 c hc
   unfold L2 at this
   split at this
   ·simp at this
   ·split at this
    ·simp at this
    ·rename_i B
     have B:c.like.any (N3 (Q7 l))=false:=eq_false_of_ne_true B
     have:=List.any_eq_false.1 B u hu
     unfold N3 at this
     cases hd:lk (Q7 l) u with
     | none=>rw[hd] at this;simp at this
     | some d=>exact ⟨d,rfl⟩
 have ce:Ok (Q7 l):=⟨af,ae,q,aj,a4⟩
 have bq: ∀i (hi:i<(Q7 l).length),8≤i→ ∀u∈J3 (Q7 l)[i],∃j,Y2 (Q7 l) u=some j:=fun i hi U u hu=>by
  have av:i-8<l.length:=by omega
  obtain ⟨du,e8⟩:=A av
  have cu:(Q7 l)[i]=l[i-8]:=by rw[←e8];congr 1;omega
  rw[cu] at hu
  have bc:=List.getElem_mem av
  rcases List.mem_cons.1 hu with hu | hu
  ·have:=b2 _ bc
   unfold L2 at this
   split at this
   ·simp at this
   ·rename_i B
    unfold K8 at B
    rw[←hu] at B
    cases hd:lk (Q7 l) u with
    | none=>rw[hd] at B;simp at B
    | some d=>obtain ⟨_,_,j,hj,_⟩:=U8 hd;exact ⟨j,hj⟩
  ·obtain ⟨d,hd⟩:=aj _ (List.mem_append_right _ bc) u hu
   obtain ⟨_,_,j,hj,_⟩:=U8 hd;exact ⟨j,hj⟩
 refine Kv (R:=Uj) (e:=T.d) b (by decide) fun c7 c4 bb a9 _=>?_
 refine M3 l.length (fun n x' w'=> ∃t D,Stp w σ w' t∧SLe σ5 t∧V2 w.heap.size T.d 1 Uj t w' x' (ints D)∧Tu (Q7 l) D∧D=(((List.range (Q7 l).length).drop 8).take n).foldl (fun D i=>A0 (Q7 l) 8 D i) [])
  ⟨bn,[],b.trans bb,a6,a9,⟨List.nodup_nil,by simp⟩,rfl⟩ fun n x' c9 d L f=>?_
 clear a9 bb b a6 ai
 obtain ⟨dq,D,X,N,aw,ag,ah⟩:=f
 have ap:=hl.up X
 refine Q9 ap ?_
 refine Z1 ?_
 refine Q5 (fun hh=>?_) (fun hh=>?_)
 ·have a:n<l.length:=by simpa using hh
  obtain ⟨U,e8⟩:=A a
  refine Uq ⟨by omega,by omega⟩ ?_
  have ec:((8:Nat):Int)+(n:Int)=((8+n:Nat):Int):=by omega
  rw[ec]
  refine Q9F af g (by omega) q (by omega) bq ((Q7 l).length+1) U (Nat.lt_succ_of_le (Aj _ _)) ag X (J.lift N) aw fun c8 c5 cl bm bw b4=>?_
  refine M7 ?_
  refine Z2 ap.max a ⟨cl,_,bm,N.more bw,b4,Bj af g (by omega) _ _ _ U ag,?_⟩
  rw[List.take_add_one,List.getElem?_drop,List.getElem?_range U,List.foldl_append,←ah]
  rfl
 have a: ¬n<l.length:=by simpa using hh
 have cn:n=l.length:=by omega
 subst cn
 have b8:D=U7 (Q7 l) 8:=by
  rw[ah,List.take_of_length_le (by rw[List.length_drop,List.length_range];omega)];rfl
 subst b8
 clear ah hh a L
 have dp:=ag.len
 have cv:=Q8M g
 obtain ⟨ch,bs,cc,bd,_⟩:=aw.keep X
 have br:=N.more ⟨bd⟩
 clear aw X bd N ap
 have av:(ints (U7 (Q7 l) 8)).length=(U7 (Q7 l) 8).length:=by simp
 refine U3 (U7 (Q7 l) 8).length (fun n w'=> ∃t,Stp w σ w' t∧SLe ch t∧ ∀j∈(U7 (Q7 l) 8).take n,U5 (Q7 l) ((Q7 l).getD j Cla.zero)=0) ⟨ch,bs,SLe.refl _,by simp⟩ fun n df d L f=>?_
 obtain ⟨dv,O,V,a0⟩:=f
 have Q:=cc.lift V
 refine Q9 Q ?_
 rw[av]
 refine Z1 ?_
 refine Q5 (fun hh=>?_) (fun hh=>?_)
 ·have a:n<(U7 (Q7 l) 8).length:=by simpa using hh
  have cb:n<(ints (U7 (Q7 l) 8)).length:=by rw[av];exact a
  refine Z4 Q cb ?_
  obtain ⟨cs,pc,_,ct⟩:=Q.el cb
  obtain ⟨rfl,_⟩:=ct
  simp only[List.getElem_map] at pc
  refine X8 O.sat pc rfl ?_
  have bz:=(cv _ (List.getElem_mem a)).2
  have a5:(Q7 l).getD (U7 (Q7 l) 8)[n] Cla.zero=(Q7 l)[(U7 (Q7 l) 8)[n]]:=by rw[List.getD_eq_getElem?_getD,List.getElem?_eq_getElem bz];rfl
  refine Q5c O.sat (J.lift (br.more V)) ce g (by omega) aa bz fun dj b7 y=>?_
  have a7:=O.trans y
  refine Vr ?_
  refine Q5 (fun m=>?_) (fun m=>?_)
  ·have r: ¬U5 (Q7 l) (Q7 l)[(U7 (Q7 l) 8)[n]]=0:=by simpa using m
   have cw:=Q.up y
   have b6:=pc.up y
   refine U6 y.sat ?_
   (repeat refine V7 Xc ?_)
   (intros;(repeat (rename_i hx;subst hx));(try simp only[↓M2,M2,Mb,reduceIte]))
   rename_i cm ba
   refine X8 ba.sat b6 rfl ?_
   refine Mq ⟨by omega,by omega⟩ ?_
   have E:(U7 (Q7 l) 8).find? (fun j=> !decide (U5 (Q7 l) ((Q7 l).getD j Cla.zero)=0))=some (U7 (Q7 l) 8)[n]:=by
    rw[List.find?_eq_some_iff_getElem]
    refine ⟨by rw[a5];simpa using r,n,a,rfl,fun j hj=>?_⟩
    have:=a0 _ (List.mem_take_iff_getElem.2 ⟨j,by omega,rfl⟩)
    rw[this];simp
   have:=C (((U7 (Q7 l) 8)[n]:Int)-8) (U5 (Q7 l) (Q7 l)[(U7 (Q7 l) 8)[n]]) cm b7 (by rw[E];simp only[a5]) (a7.trans ba.stp)
   exact this
  ·have hz:U5 (Q7 l) (Q7 l)[(U7 (Q7 l) 8)[n]]=0:=by simpa using m
   refine M7 ?_
   refine Y3 (by omega) a ⟨b7,a7,V.more ⟨y.le⟩,fun j hj=>?_⟩
   rw[List.take_add_one,List.getElem?_eq_getElem a] at hj
   rcases List.mem_append.1 hj with hj | hj
   ·exact a0 j hj
   ·simp at hj;subst hj;rw[a5];exact hz
 ·have a: ¬n<(U7 (Q7 l) 8).length:=by simpa using hh
  rw[List.take_of_length_le (by omega)] at a0
  have E:(U7 (Q7 l) 8).find? (fun j=> !decide (U5 (Q7 l) ((Q7 l).getD j Cla.zero)=0))=none:=by
   rw[List.find?_eq_none]
   intro j hj
   rw[a0 j hj];simp
  rw[E] at h0
  exact h0 _ _ _ rfl O (J.lift (br.more V)) ce g)
end Go.Proofs.YtjdiakhipmggjaaGreatDoor

namespace Go.Proofs.YtjdiakhipmggjaaGreatDoor
open Go.Emb Go.RowKit Go.Kd Go.Hm
variable {w : World} {K : Value → World → Prop} {σ : Q4} {l : List Cla} {v : Value}
end Go.Proofs.YtjdiakhipmggjaaGreatDoor

namespace Go.Proofs.YtjdiakhipmggjaaGreatDoor
open Go.Emb Go.RowKit Go.Kd Go.Hm
variable {w : World} {K : Value → World → Prop} {σ : Q4} {l : List Cla} {v : Value}
end Go.Proofs.YtjdiakhipmggjaaGreatDoor

namespace Go.Emb
open Go.RowKit Go.Hm
def RHp (σ:Q4) (x:List Cla×Int×List Cel) (ds:List Value):Prop:= ∃a b,ds=[a,I x.2.1,b]∧Sl 8 U4 σ a x.1∧Sl 2 Yf σ b x.2.2
instance:Rep RHp:=⟨fun hk ⟨lv,cv,h1,h2,h3⟩=>⟨lv,cv,h1,h2.le hk,h3.le hk⟩,fun ⟨lv,cv,h1,h2,h3⟩ u hu=>by
 rw[h1] at hu;simp at hu;rcases hu with rfl | rfl | rfl
 ·exact F8 h2
 ·rfl
 ·exact F8 h3⟩
theorem RHp.out {σ:Q4} {l:List Cla} {room:Int} {cs:List Cel} {ds:List Value} (h:RHp σ (l,room,cs) ds): ∃a b,ds=[a,I room,b]∧Sl 8 U4 σ a l∧Sl 2 Yf σ b cs:=h
end Go.Emb
namespace Go.Proofs.YtjdiakhipmggjaaGreatDoor
open Go.Emb Go.RowKit Go.Kd Go.Hm
variable {w w' : World} {K : Value → World → Prop} {σ σ' : Q4} {ds : List Value} {room : Int} {cs : List Cel} {l : List Cla}
end Go.Proofs.YtjdiakhipmggjaaGreatDoor

namespace Go.Emb
open Go.RowKit Go.Hm
section
variable {α : Type} {P : Program} {R R' : Q4 → α → List Value → Prop} {sz : Nat} {e : TypeId} {σ σ0 σ' : Q4} {v u : Value} {xs ys : List α} {w w0 w' : World} {K : Value → World → Prop}
end
def X14 {α:Type} (c:α) (ds:List Value) (_:Q4) (x:α) (cs:List Value):Prop:=x=c∧cs=ds∧ ∀u∈ds,u.oneCell'=true
instance {α:Type} (c:α) (ds:List Value):Rep (X14 c ds):=⟨fun _ h=>h,fun h u hu=>h.2.2 u (h.2.1▸hu)⟩
end Go.Emb
namespace Go.Proofs.YtjdiakhipmggjaaGreatDoor
open Go.Emb Go.RowKit Go.Kd Go.Hm
variable {w w' : World} {K : Value → World → Prop} {σ σ' : Q4} {ds : List Value} {room : Int} {cs : List Cel} {l : List Cla}
end Go.Proofs.YtjdiakhipmggjaaGreatDoor

namespace Go.Proofs.YtjdiakhipmggjaaGreatDoor
open Go.Emb Go.RowKit Go.Kd Go.Hm
variable {w w' : World} {K : Value → World → Prop} {σ σ' : Q4} {ds : List Value} {room : Int} {cs : List Cel} {l : List Cla}
end Go.Proofs.YtjdiakhipmggjaaGreatDoor

namespace Go.Emb
open Go.RowKit Go.Hm
section
variable {α : Type} {P : Program} {R : Q4 → α → List Value → Prop} {B sz : Nat} {e : TypeId} {σ σ0 : Q4} {v u : Value} {xs : List α} {w w0 w' : World} {K : Value → World → Prop}
end
end Go.Emb
namespace Go.Proofs.YtjdiakhipmggjaaGreatDoor
open Go.Emb Go.RowKit Go.Kd Go.Hm
variable {w w' : World} {K : Value → World → Prop} {σ σ' : Q4} {ds : List Value} {room : Int} {cs : List Cel} {l : List Cla}
end Go.Proofs.YtjdiakhipmggjaaGreatDoor

namespace Go.Proofs.YtjdiakhipmggjaaGreatDoor
open Go.Emb Go.RowKit Go.Kd Go.Hm
variable {w w' : World} {K : Value → World → Prop} {σ σ' : Q4} {ds : List Value} {room : Int} {cs : List Cel} {l : List Cla}
end Go.Proofs.YtjdiakhipmggjaaGreatDoor
