/- Parts of a proof about the given program: its functions as texts of their own, what each computes, plain laws of that. The conditions of each stand in its statement. -/
import Derived.Test.YtfppjenblllfaaaGreatDoorB4
import Derived.Test.YtfppjenblllfaaaGreatDoorB3
import Derived.Lib.TrimUEq
set_option linter.unnecessarySimpa false
set_option linter.defProp false
set_option linter.unusedSectionVars false
set_option linter.unusedVariables false
set_option linter.unusedSimpArgs false
namespace Go.Emb
open Go.RowKit Go.Hm
variable {P : Program} {w w0 w1 w' w'' : World} {K : Value → World → Prop} {σ σ0 σ1 σ' : Q5}
theorem Q0j {t e:TypeId} {sz by_:Nat} {z:Value} [ts:TS P t e] [tz:TZ P e sz by_ z] {a:Addr} {n b i:Nat} (d:i<n) (c:K (.pointer (some (a.add (i*sz)))) w):indexAddr P t (.slice (some a) n b) (I i) w K:=by
 rw[Cg (by omega) (by omega)]
 simpa using c
theorem T2.nx {D:Nat→Prop} {a:List Nat} {n:Nat} {m:Nat→Nat→Bool} (h:T2 σ w a n m) (k:Nxt D w σ w' σ') (d: ∀b∈a,¬D b):T2 σ' w' a n m:=
 ⟨h.1,fun i c=>(h.2 i c).nx k (d _ (List.getElem_mem c))⟩
theorem T2.set {a:List Nat} {n i j:Nat} {b:Bool} {m:Nat→Nat→Bool} (h:T2 σ w a n m) (f:i<a.length) (o:Upd w a[i] w') (g:Z5 σ w' a[i] ((bools n (m i)).set j (.bool b))):T2 σ w' a n (Sc m i j b):=by
 refine ⟨h.1,fun k c=>?_⟩
 by_cases e:k=i
 ·subst e
  rw[Q2E] at g
  have:Sc m k j b k=fun x=>if x=j then b else m k x:=by funext x;simp[Sc]
  rw[this];exact g
 ·have:Sc m i j b k=m k:=by funext x;simp[Sc,e]
  rw[this]
  refine (h.2 k c).upd o fun d=>e ?_
  rcases Nat.lt_trichotomy k i with hlt | hlt | hlt
  ·have:=List.nodup_iff_pairwise_ne.1 h.1
   rw[List.pairwise_iff_getElem] at this
   exact absurd d (this k i c f hlt)
  ·exact hlt
  ·have:=List.nodup_iff_pairwise_ne.1 h.1
   rw[List.pairwise_iff_getElem] at this
   exact absurd d.symm (this i k f c hlt)
end Go.Emb
namespace Go.Proofs.YtfppjenblllfaaaGreatDoor
open Go.Emb Go.RowKit Go.Kd Go.Hm
variable {w : World} {K : Value → World → Prop} {σ : Q5} {l : List Cla} {v : Value}
def Wr (l:List Cla) (i j:Nat):Bool:=match l[i]? with
 | none=>false
 | some c=>(J3 c).any fun u=>decide (Y4 l u=some j)
theorem Q7I (l:List Cla) (i j:Nat):Wr l i j=true↔Hm.Edge l i j:=by
 unfold Wr Hm.Edge
 cases h:l[i]? with
 | none=>simp
 | some c=>simp[List.any_eq_true]
theorem Q8j {l:List Cla} {i j:Nat} (h:l.length≤i):Wr l i j=false:=by
 unfold Wr
 rw[List.getElem?_eq_none h]
set_option maxHeartbeats 4000000 in
theorem Pn (hs:X4 w σ) (hl:Sl 8 U4 σ v l) (ho:G6 l) (hpos:0<l.length) (hlen:l.length≤1000) (hsm: ∀c∈l,T0 c)
 (h: ∀v' w' σ',Stp w σ w' σ'→Sl 1 Q4g σ' v' (C4 l)→K v' w'):Q1 P F.ag [v] w K:=Gv (by
 unfold We
 refine Ao (R:=Q48 l.length) (e:=T.z) (Stp.refl hs) (by decide) fun x0 w1 hk1 ha1 _=>?_
 refine D2 l.length (fun n x w'=> ∃σ' bs,Stp w σ w' σ'∧V6 w.heap.size T.z 1 (Q48 l.length) σ' w' x bs∧T2 σ' w' bs l.length (Wr l)∧bs.length=n∧ ∀b∈bs,w.heap.size≤b∧x.ownBlock≠some b) ⟨σ,[],hk1,ha1,⟨List.nodup_nil,by simp⟩,rfl,by simp⟩ fun n x w2 d hn hinv=>?_
 obtain ⟨σ2,bs,hS2,ha2,hM2,hbl,hb2⟩:=hinv
 refine Q8 (hl.up hS2) ?_
 refine Z0 ?_
 refine Q6 (fun hc=>?_) (fun hc=>?_)
 ·have hn':n<l.length:=by simpa using hc
  have hl2:=hl.up hS2
  refine Q8 hl2 ?_
  refine X13 hS2.sat rfl (by omega) (by omega) fun b w3 hb3 hk3 hm3=>?_
  rw[Q5s] at hm3
  obtain ⟨lv,fv,mv,p1,r1⟩:=hl2.elC hn'
  obtain ⟨g1,_,_,g4,g5⟩:=r1.parts
  have hsmc:=hsm _ (List.getElem_mem hn')
  have hs3:=hk3.sat
  refine U6 hs3 ?_
  (repeat refine U9 I9 ?_)
  refine Q2y (w:=w3) (σ:=σ2) (R:=Y1) (sz:=1) (e:=T.b) [l[n].super] (fun t w hb e=>?_) ?_
  ·subst e;exact Qb hb.stp [_] [l[n].super] rfl rfl (by simp;rfl) rfl ⟨⟨rfl,g5⟩,trivial⟩ fun v' w' hk ha _=>Q4L hb hk ha
  (repeat refine U9 I9 ?_)
  rintro t24 t25 t30 t31 t26 t27 t32 w4 hb4 rfl rfl rfl rfl rfl ⟨f27,a27⟩ rfl
  refine Ow f27 a27 g1 rfl (by simp;have:=hsmc.1;omega) (by simp;have:=hsmc.1;omega) fun v5 w5 hn5 hS5 ha5 hat5=>?_
  obtain ⟨σ6,hS6,hv6,le6,_⟩:=ha5.keep hS5
  have hv6:Sl 1 Y1 σ6 v5 (J3 l[n]):=hv6
  have hb3w:w.heap.size≤b:=Nat.le_trans hS2.bel.size hb3
  have hm6:=hm3.up hS6
  have ha6:=(ha2.up hk3).up hS6
  have hM6:=(hM2.up hk3).up hS6
  have hS26:=(hS2.trans hk3).trans hS6
  have hxb: ∀k,x.ownBlock=some k→k≠b:=fun k e=>by have:=(ha2.mem k e).2.1;omega
  have hbbs:b∉bs:=fun e=>by have:=(hM2.lt e).1;omega
  clear hm3 ha2 hM2 hS6 hS5 ha5 a27 f27 hn5 hat5
  refine J0 (J3 l[n]).length (fun k w'=>Stp w σ w' σ6∧V6 w.heap.size T.z 1 (Q48 l.length) σ6 w' x bs∧T2 σ6 w' bs l.length (Wr l)∧Z5 σ6 w' b (bools l.length fun j=>((J3 l[n]).take k).any fun u=>decide (Y4 l u=some j)))
   ⟨hS26,ha6,hM6,hm6⟩ fun k w7 d7 hk hinv=>?_
  obtain ⟨hS7,ha7,hM7,hm7⟩:=hinv
  refine Q8 hv6 ?_
  refine Z0 ?_
  refine Q6 (fun hc=>?_) (fun hc=>?_)
  ·have hk':k<(J3 l[n]).length:=by simpa using hc
   refine V9 ?_
   refine J5 hv6 hk' ?_
   obtain ⟨p2,p3⟩:=hv6.elS hk'
   refine X8 hS7.sat p2 rfl ?_
   refine F7 hS7.sat (hl.up hS7) ?_
   refine Yb ?_
   rw[K1]
   have hnx: ∀f:Nat→Bool,(∀j,f j=(((J3 l[n]).take k).any (fun u=>decide (Y4 l u=some j))||decide (Y4 l (J3 l[n])[k]=some j)))→f=fun j=>((J3 l[n]).take (k+1)).any fun u=>decide (Y4 l u=some j):=by
    intro f hf;funext j;rw[hf,M3 hk']
   cases hfc:Y4 l (J3 l[n])[k] with
   | none=>
    simp only[Option.isSome_none,↓M1,M1,Mb,reduceIte]
    intro d
    refine Y2 hv6.max hk' ⟨hS7,ha7,hM7,?_⟩
    rw[←hnx (fun j=>((J3 l[n]).take k).any fun u=>decide (Y4 l u=some j)) (fun j=>by rw[hfc];simp)]
    exact hm7
   | some j=>
    have hj:=(D9 hfc).1
    simp only[Option.isSome_some,W5,↓M1,M1,Mb,reduceIte]
    refine Q0j hj ?_
    rw[Nat.mul_one]
    refine Lx hm7 (by rw[Pt];exact hj) (by rfl) (by rfl) fun w8 u8 hm8=>?_
    intro d
    rw[Q2E] at hm8
    refine Y2 hv6.max hk' ⟨u8.stp hS7 hb3w hm7.1,ha7.kp (D:=(· =b)) (.of_upd u8 rfl) hxb,hM7.kp (D:=(· =b)) (.of_upd u8 rfl) (fun c hc e=>hbbs (e▸hc)),?_⟩
    rw[←hnx (fun x=>if x=j then true else _) (fun i=>?_)]
    ·exact hm8
    ·rw[hfc]
     by_cases e:i=j
     ·subst e;simp
     ·have: ¬j=i:=fun e'=>e e'.symm
      simp[e,this]
  ·have hk': ¬k<(J3 l[n]).length:=by simpa using hc
   have hk0:k=(J3 l[n]).length:=by omega
   subst hk0
   rw[List.take_of_length_le (Nat.le_refl _)] at hm7
   have hef:(fun j=>(J3 l[n]).any fun u=>decide (Y4 l u=some j))=Wr l n:=by
    funext j;unfold Wr;rw[List.getElem?_eq_getElem hn']
   rw[hef] at hm7
   have hM8:=(hM7.snoc hbbs hm7).congr (m':=Wr l) (fun i _=>by
    by_cases e:i=bs.length
    ·rw[if_pos e,e,hbl]
    ·rw[if_neg e])
   refine Jm (R:=Q48 l.length) (x:=b) hS7 ha7 rfl rfl rfl rfl (by omega) (by omega) fun s v' w9 σ9 hnx hS9 ha9 hat=>?_
   have hdis: ∀c∈bs++[b],w.heap.size≤c∧x.ownBlock≠some c:=by
    intro c hc
    rcases List.mem_append.1 hc with hc | hc
    ·exact hb2 c hc
    ·simp at hc;subst hc;exact ⟨hb3w,fun e=>hxb _ e rfl⟩
   have hlt9: ∀c∈bs++[b],c<w7.heap.size:=fun c hc=>(hM8.lt hc).1
   refine E5 ?_
   refine Z6 (by omega) hn' ⟨σ9,bs++[b],hS9,ha9,hM8.nx hnx (fun c hc=>(hdis c hc).2),by rw[List.length_append,hbl];rfl,fun c hc=>⟨(hdis c hc).1,fun e=>?_⟩⟩
   rcases hat with hat | hat
   ·exact (hdis c hc).2 (hat▸e)
   ·have:=hat c e;have:=hlt9 c hc;omega
 ·have hn0:n=l.length:=by
   have: ¬n<l.length:=by simpa using hc
   omega
  obtain ⟨σ8,hS8,hv8,le8,old8⟩:=ha2.keep hS2
  have hlb:bs.length=l.length:=by omega
  have hM8:T2 σ8 w2 bs l.length (Wr l):=⟨hM2.1,fun i hi=>⟨(old8 _ (fun e=>(hb2 _ (List.getElem_mem hi)).2 e.symm)).trans (hM2.2 i hi).1,(hM2.2 i hi).2⟩⟩
  have hpx: ∀i (hi:i<bs.length),Z2 σ8 (Ih 1 x i) [.slice (some ⟨bs[i],0,none⟩) l.length l.length]:=fun i hi=>by
   obtain ⟨cs,h1,_,h2⟩:=hv8.el hi
   have h2:cs=_:=h2
   subst h2;exact h1
  clear ha2 hM2 hS2 le8 old8
  refine J0 l.length (fun k w'=> ∃m,Stp w σ w' σ8∧T2 σ8 w' bs l.length m∧Clos (Hm.Edge l) l.length k 0 0 m) ⟨Wr l,hS8,hM8,Clos.start (fun a b _=>Q7I l a b) (fun a b h=>Q8j h)⟩ fun k w3 d3 hk3 hinv=>?_
  obtain ⟨m3,hS3,hM3,hC3⟩:=hinv
  refine Q8 (hl.up hS3) ?_
  refine Z0 ?_
  refine Q6 (fun hc=>?_) (fun hc=>?_)
  ·have hk':k<l.length:=by simpa using hc
   refine J0 l.length (fun i w'=> ∃m,Stp w σ w' σ8∧T2 σ8 w' bs l.length m∧Clos (Hm.Edge l) l.length k i 0 m) ⟨m3,hS3,hM3,hC3⟩ fun i w4 d4 hi4 hinv=>?_
   obtain ⟨m4,hS4,hM4,hC4⟩:=hinv
   refine Q8 (hl.up hS4) ?_
   refine Z0 ?_
   refine Q6 (fun hc=>?_) (fun hc=>?_)
   ·have hi':i<l.length:=by simpa using hc
    refine J0 l.length (fun j w'=> ∃m,Stp w σ w' σ8∧T2 σ8 w' bs l.length m∧Clos (Hm.Edge l) l.length k i j m) ⟨m4,hS4,hM4,hC4⟩ fun j w5 d5 hj5 hinv=>?_
    obtain ⟨m5,hS5,hM5,hC5⟩:=hinv
    refine Q8 (hl.up hS5) ?_
    refine Z0 ?_
    refine Q6 (fun hc=>?_) (fun hc=>?_)
    ·have hj':j<l.length:=by simpa using hc
     have hi6:i<bs.length:=by omega
     have hk6:k<bs.length:=by omega
     have px_i:=hpx i hi6
     have px_k:=hpx k hk6
     have hrd: ∀{w':World} {K:Value→World→Prop} {a b:Nat} {ha:a<bs.length},Hst w5 σ8 w' σ8→b<l.length→K (.bool (m5 a b)) w'→Q2 P T.m (.pointer (some ((⟨bs[a],0,none⟩:Addr).add (b*1)))) w' K:=fun hst hb hK=>by
      rw[Nat.mul_one]
      exact Ql (((hM5.up hst.stp).2 _ _).cell (Q3g hb)) hK
     refine U6 hS5.sat ?_
     (repeat (apply U9;(· intros;(repeat (rename_i hx;subst hx));(repeat' (first | (with_reducible exact B2 rfl) | (with_reducible exact Zx (Stp.bel (by (repeat (first | exact Stp.refl (by (first | assumption | exact Stp.sat (by assumption) | exact Hst.sat (by assumption))) | assumption | refine Stp.trans ?_ (by first | assumption | exact Hst.stp (by assumption)))))) rfl) | (with_reducible intro _) | (simp only[↓M2,M2,Mb,reduceIte]) | (with_reducible refine Q0j au ?_) | (with_reducible refine hrd au au ?_) | (with_reducible show Q2 _ _ _ _ _;first | refine X8 aS aL aR ?_ | refine Y7 aS aL aR ?_ | refine ld aS aL aR ?_) | (with_reducible show indexAddr _ _ _ _ _ _;refine J5 aL au ?_) | (with_reducible show X5 _ _ _ _ _ _ _ _;refine Q8 aL ?_) | (with_reducible show Vn _ _ _ _ _ _;refine V3 aR ?_) | (with_reducible show pick _ _ _ _ _ _;refine Jo ?_) | (apply Li;intro hh;(try simp only[hh,reduceIte,↓M2,M2,Mb,reduceIte]))));done)))
     cases h1:m5 i j
     ·simp only[reduceIte]
      (repeat (apply U9;(· intros;(repeat (rename_i hx;subst hx));(repeat' (first | (with_reducible exact B2 rfl) | (with_reducible exact Zx (Stp.bel (by (repeat (first | exact Stp.refl (by (first | assumption | exact Stp.sat (by assumption) | exact Hst.sat (by assumption))) | assumption | refine Stp.trans ?_ (by first | assumption | exact Hst.stp (by assumption)))))) rfl) | (with_reducible intro _) | (simp only[↓M2,M2,Mb,reduceIte]) | (with_reducible refine Q0j au ?_) | (with_reducible refine hrd au au ?_) | (with_reducible show Q2 _ _ _ _ _;first | refine X8 aS aL aR ?_ | refine Y7 aS aL aR ?_ | refine ld aS aL aR ?_) | (with_reducible show indexAddr _ _ _ _ _ _;refine J5 aL au ?_) | (with_reducible show X5 _ _ _ _ _ _ _ _;refine Q8 aL ?_) | (with_reducible show Vn _ _ _ _ _ _;refine V3 aR ?_) | (with_reducible show pick _ _ _ _ _ _;refine Jo ?_) | (apply Li;intro hh;(try simp only[hh,reduceIte,↓M2,M2,Mb,reduceIte]))));done)))
      (intros;(repeat (rename_i hx;subst hx));(try simp only[↓M2,M2,Mb,reduceIte]))
      rename_i w6 hb6
      refine Q0j hj' ?_
      rw[Nat.mul_one]
      refine Eq.subst (motive:=fun V=>Z4 P T.m (.pointer (some ((⟨bs[i],0,none⟩:Addr).add j))) V w6 _) (show Value.bool (m5 i j||(m5 i k&&m5 k j))=_ from by cases h2:m5 i k<;>simp[h1,h2]) ?_
      refine Lx ((hM5.up hb6.stp).2 i hi6) (by rw[Pt];exact hj') (by rfl) (by rfl) fun w7 u7 hm7=>?_
      (try simp only[↓M1,M1,Mb,reduceIte])
      exact Y2 (by omega) hj' ⟨_,u7.stp (hS5.trans hb6.stp) (hb2 _ (List.getElem_mem hi6)).1 hm7.1,(hM5.up hb6.stp).set hi6 u7 hm7,hC5.next hk' hi' hj'⟩
     ·simp only[Bool.true_eq_false,reduceIte]
      (repeat (apply U9;(· intros;(repeat (rename_i hx;subst hx));(repeat' (first | (with_reducible exact B2 rfl) | (with_reducible exact Zx (Stp.bel (by (repeat (first | exact Stp.refl (by (first | assumption | exact Stp.sat (by assumption) | exact Hst.sat (by assumption))) | assumption | refine Stp.trans ?_ (by first | assumption | exact Hst.stp (by assumption)))))) rfl) | (with_reducible intro _) | (simp only[↓M2,M2,Mb,reduceIte]) | (with_reducible refine Q0j au ?_) | (with_reducible refine hrd au au ?_) | (with_reducible show Q2 _ _ _ _ _;first | refine X8 aS aL aR ?_ | refine Y7 aS aL aR ?_ | refine ld aS aL aR ?_) | (with_reducible show indexAddr _ _ _ _ _ _;refine J5 aL au ?_) | (with_reducible show X5 _ _ _ _ _ _ _ _;refine Q8 aL ?_) | (with_reducible show Vn _ _ _ _ _ _;refine V3 aR ?_) | (with_reducible show pick _ _ _ _ _ _;refine Jo ?_) | (apply Li;intro hh;(try simp only[hh,reduceIte,↓M2,M2,Mb,reduceIte]))));done)))
      (intros;(repeat (rename_i hx;subst hx));(try simp only[↓M2,M2,Mb,reduceIte]))
      rename_i w6 hb6
      refine Q0j hj' ?_
      rw[Nat.mul_one]
      refine Eq.subst (motive:=fun V=>Z4 P T.m (.pointer (some ((⟨bs[i],0,none⟩:Addr).add j))) V w6 _) (show Value.bool (m5 i j||(m5 i k&&m5 k j))=_ from by simp[h1]) ?_
      refine Lx ((hM5.up hb6.stp).2 i hi6) (by rw[Pt];exact hj') (by rfl) (by rfl) fun w7 u7 hm7=>?_
      (try simp only[↓M1,M1,Mb,reduceIte])
      exact Y2 (by omega) hj' ⟨_,u7.stp (hS5.trans hb6.stp) (hb2 _ (List.getElem_mem hi6)).1 hm7.1,(hM5.up hb6.stp).set hi6 u7 hm7,hC5.next hk' hi' hj'⟩
    ·have hj0:j=l.length:=by
      have: ¬j<l.length:=by simpa using hc
      omega
     subst hj0
     refine E5 ?_
     exact Y2 (by omega) hi' ⟨m5,hS5,hM5,hC5.row⟩
   ·have hi0:i=l.length:=by
     have: ¬i<l.length:=by simpa using hc
     omega
    subst hi0
    refine E5 ?_
    exact Y2 (by omega) hk' ⟨m4,hS4,hM4,hC4.round⟩
  ·have hk0:k=l.length:=by
    have: ¬k<l.length:=by simpa using hc
    omega
   subst hk0
   obtain ⟨σ9,hS9,le9,hrows⟩:=hM3.keep hpos (by omega) hS3 (fun b hb=>(hb2 b hb).1)
   refine h _ _ _ hS9 ((hv8.lift le9).conv (by simp[C4,hlb]) fun i hi hj cs hcs=>?_)
   have hcs:cs=_:=hcs
   subst hcs
   refine ⟨_,rfl,?_⟩
   have:=hrows i hi
   have he:(C4 l)[i]=(List.range l.length).map (m3 i):=by
    have hi':i<l.length:=by omega
    simp only[C4,List.getElem_map,List.getElem_range]
    apply List.map_congr_left
    intro j hj
    exact (Clos.all ho hC3 hi' (by simpa using hj)).symm
   rw[he];exact this)
end Go.Proofs.YtfppjenblllfaaaGreatDoor

namespace Go.Emb
open Go.RowKit Go.Hm
structure FinT (B : Nat) (F : Option Obj → Prop) (w w' : World) : Prop where
  os : w'.os = w.os
  tape : w'.tape = w.tape
  output : w'.output = w.output
  size : w.heap.size ≤ w'.heap.size
  old : ∀ k, k < w.heap.size → k < B → w'.heap[k]? = w.heap[k]?
  new : ∀ k, k < w.heap.size → w'.heap[k]? = w.heap[k]? ∨ F (w'.heap[k]?)
section
variable {P : Program} {B : Nat} {F : Option Obj → Prop} {w w' w0 : World} {σ : Q5} {v V : Value} {K : Value → World → Prop}
theorem FinT.of_below (h:Below w.heap.size w w'):FinT B F w w':=⟨h.os,h.tape,h.output,h.size,fun k a _=>h.block k a,fun k a=> .inl (h.block k a)⟩
theorem FinT.of_upd {b:Nat} (h:Upd w b w') (c:B≤b) (hF:F (w'.heap[b]?)):FinT B F w w':=
 ⟨h.os,h.tape,h.output,by rw[h.size];exact Nat.le_refl _,fun k a hB=>h.block k (by omega),fun k a=>by
  by_cases e:k=b
  ·subst e;exact .inr hF
  ·exact .inl (h.block k e)⟩
theorem FinT.hst (h:FinT w0.heap.size F w w') (c:X4 w0 σ) (a:Hst w0 σ w σ):Hst w0 σ w' σ:=
 ⟨Stp.of_below c ⟨h.os.trans a.stp.bel.os,h.tape.trans a.stp.bel.tape,h.output.trans a.stp.bel.output,Nat.le_trans a.stp.bel.size h.size,fun k b=>(h.old k (Nat.lt_of_lt_of_le b a.stp.bel.size) b).trans (a.stp.bel.block k b)⟩⟩
theorem X14 {A:(World→World→Prop)→(World→Prop)→Prop} (F:Option Obj→Prop) (a:X4 w σ) (h:A (FinT w.heap.size F) (fun w'=>Hst w σ w' σ)):dr w A:=
 Q0c _ _ ⟨Stp.of_below a (Below.refl _ _).drew⟩ (fun _ _ b c=>c.hst a b) h
theorem Q53 (h:V=v):dk (FinT B F) (fun v _=>V=v) w v w:=⟨.of_below (Below.refl _ _),h⟩
theorem X0E (a:Below w.heap.size w w') (h:V=v):dk (FinT B F) (fun v _=>V=v) w v w':=⟨.of_below a,h⟩
def X1C (B n:Nat) (F:Option Obj→Prop) (v:Value) (w:World):Prop:= ∃g,v= .pointer (some ⟨g,0,none⟩)∧B≤g∧((∃cs:List Value,∃e,cs.length=n∧w.heap[g]? =some (.cells cs.toArray e (0,0)))∨F (w.heap[g]?))
def X1k (B:Nat) (F:Option Obj→Prop) (v:Value) (w:World):Prop:= ∃g,v= .pointer (some ⟨g,0,none⟩)∧B≤g∧F (w.heap[g]?)
theorem Fb {w:World} {g:Nat} {o:Obj} (h:w.heap[g]? =some o):g<w.heap.size:=(Array.getElem?_eq_some_iff.1 h).1
theorem Q6Q {n:Nat} (hF: ¬F none):Zl (FinT B F) (X1C B n F):=by
 rintro v w w' ⟨g,rfl,hB,c⟩ d
 have a:g<w.heap.size:=by
  rcases c with ⟨cs,e,_,h⟩ | h
  ·exact Fb h
  ·cases b:w.heap[g]? with
   | none=>rw[b] at h;exact absurd h hF
   | some o=>exact Fb b
 rcases d.new g a with h | h
 ·exact ⟨g,rfl,hB,by rw[h];exact c⟩
 ·exact ⟨g,rfl,hB, .inr h⟩
theorem Q7l (hF: ¬F none):Zl (FinT B F) (X1k B F):=by
 rintro v w w' ⟨g,rfl,hB,b⟩ d
 have a:g<w.heap.size:=by
  cases c:w.heap[g]? with
  | none=>rw[c] at b;exact absurd b hF
  | some o=>exact Fb c
 rcases d.new g a with h | h
 ·exact ⟨g,rfl,hB,by rw[h];exact b⟩
 ·exact ⟨g,rfl,hB,h⟩
end
end Go.Emb
namespace Go.Hm
open Go.Kd
theorem Q5O {a b:List Hm.Met} (h: ∀m,m∈a↔m∈b):Lh a=Lh b:=by
 rw[Bool.eq_iff_iff]
 simp only[Lh,List.any_eq_true]
 constructor
 ·rintro ⟨x,c,y,d,e⟩;exact ⟨x,(h x).1 c,y,(h y).1 d,e⟩
 ·rintro ⟨x,c,y,d,e⟩;exact ⟨x,(h x).2 c,y,(h y).2 d,e⟩
theorem Q9j {α:Type} {a b:List α} {p:α→Bool} (h: ∀m,m∈a↔m∈b):a.any p=b.any p:=by
 rw[Bool.eq_iff_iff]
 simp only[List.any_eq_true]
 constructor
 ·rintro ⟨x,c,y⟩;exact ⟨x,(h x).1 c,y⟩
 ·rintro ⟨x,c,y⟩;exact ⟨x,(h x).2 c,y⟩
def Xo (m:Hm.Met):List Q9:=m.params++if m.result=[] then [] else [m.result]
def Zj (c:Cla):List Q9:=c.fields.map (·.kind)++c.methods.flatMap Xo
theorem Q7Z {l:List Cla} {c:Cla}:(Zj c).any (fun s=> !D7 l s)=B0 l c:=by
 unfold Zj B0 Xo
 rw[List.any_append,List.any_map,List.any_flatMap]
 congr 1
 congr 1
 funext m
 rw[List.any_append]
 by_cases e:m.result=[]
 ·simp[e]
 ·simp[e,Bool.or_comm]
def Tm (l:List Cla) (i k:Nat):Bool:=decide (k=i)||A0 l (X9 l i) (X9 l k)
def T9 (l:List Cla) (i n:Nat):List Hm.Met:=(List.range n).flatMap fun k=>if Tm l i k then (l.getD k Cla.zero).methods else []
theorem Q6n {l:List Cla} {i n:Nat}:T9 l i (n+1)=T9 l i n++if Tm l i n then (l.getD n Cla.zero).methods else []:=by
 unfold T9
 rw[List.range_succ,List.flatMap_append]
 simp
theorem Q2G {l:List Cla} (r:G6 l) {i:Nat} (h:i<l.length) (m:Hm.Met):m∈T9 l i l.length↔m∈Vg l (X9 l i):=by
 unfold T9 Vg
 simp only[List.mem_flatMap,List.mem_range]
 have b: ∀k,k<l.length→lk l (X9 l k)=some (l.getD k Cla.zero):=fun k g=>Qq r g
 constructor
 ·rintro ⟨k,g,d⟩
  split at d
  ·rename_i hu
   refine ⟨X9 l k,?_,by rw[b k g];exact d⟩
   rw[Zy,Pw]
   simp only[Tm,Bool.or_eq_true,decide_eq_true_eq,Zp] at hu
   rcases hu with rfl | hu
   ·exact .inl ⟨rfl,_,b _ g⟩
   ·exact .inr hu
  ·simp at d
 ·rintro ⟨u,hu,d⟩
  rw[Zy] at hu
  obtain ⟨c,q⟩:=hu.right
  obtain ⟨s,p,j,A,a⟩:=U1 q
  obtain ⟨n,y⟩:=List.getElem?_eq_some_iff.1 a
  have f:X9 l j=u:=by
   unfold X9;rw[List.getD_eq_getElem?_getD,a];exact s
  refine ⟨j,n,?_⟩
  rw[q] at d
  have:Tm l i j=true:=by
   simp only[Tm,Bool.or_eq_true,decide_eq_true_eq,Zp]
   rw[Pw] at hu
   rcases hu with ⟨e,_⟩ | hu
   ·left
    have z:=b i h
    rw[e,←f] at z
    have o:=G6.find r (i:=i) (c:=l[i]) (List.getElem?_eq_getElem h)
    have t:l[i].name=X9 l i:=by unfold X9;rw[List.getD_eq_getElem?_getD,List.getElem?_eq_getElem h];rfl
    rw[t,e,A] at o
    simpa using o
   ·right;rw[f];exact hu
  rw[if_pos this,List.getD_eq_getElem?_getD,a]
  exact d
theorem Q7E {l:List Cla} {i n:Nat} {m:Hm.Met} (h:m∈T9 l i n) (e:n≤l.length): ∃c∈l,m∈c.methods:=by
 unfold T9 at h
 simp only[List.mem_flatMap,List.mem_range] at h
 obtain ⟨k,d,a⟩:=h
 split at a
 ·have b:k<l.length:=by omega
  rw[List.getD_eq_getElem?_getD,List.getElem?_eq_getElem b] at a
  exact ⟨l[k],List.getElem_mem _,a⟩
 ·simp at a
def G8 (a:List Hm.Met) (x y:Nat):Bool:=decide ((a.getD x Hm.Met.zero).name=(a.getD y Hm.Met.zero).name)&& !decide (P6 (a.getD x Hm.Met.zero)=P6 (a.getD y Hm.Met.zero))
theorem Rc {α:Type} {l:List α} {d:α} {n:Nat} (h:n<l.length):l.getD n d=l[n]:=by rw[List.getD_eq_getElem?_getD,List.getElem?_eq_getElem h];rfl
theorem Q7G {a:List Hm.Met} {x y:Nat} (b:x<a.length) (c:y<a.length) (h:G8 a x y=true):Lh a=true:=by
 unfold Lh
 rw[List.any_eq_true]
 refine ⟨a[x],List.getElem_mem _,?_⟩
 rw[List.any_eq_true]
 refine ⟨a[y],List.getElem_mem _,?_⟩
 unfold G8 at h
 rwa [Rc b,Rc c] at h
theorem Q9g {d:List Hm.Met} (h: ∀x y,x<d.length→y<x→G8 d x y=false):Lh d=false:=by
 unfold Lh
 rw[List.any_eq_false]
 intro a j
 rw[List.any_eq_true]
 rintro ⟨b,k,e⟩
 obtain ⟨x,g,rfl⟩:=List.getElem_of_mem j
 obtain ⟨y,i,rfl⟩:=List.getElem_of_mem k
 have f:G8 d y x=G8 d x y:=by
  unfold G8
  congr 1
  ·rw[Bool.eq_iff_iff];simp[eq_comm]
  ·congr 1;rw[Bool.eq_iff_iff];simp[eq_comm]
 have c:G8 d x y=true:=by unfold G8;rw[Rc g,Rc i];exact e
 rcases Nat.lt_trichotomy x y with hlt | heq | hlt
 ·rw[←f,h y x i hlt] at c;cases c
 ·subst heq;simp[G8] at c
 ·rw[h x y g hlt] at c;cases c
end Go.Hm
namespace Go.Proofs.YtfppjenblllfaaaGreatDoor
open Go.Emb Go.RowKit Go.Kd Go.Hm
variable {w : World} {K : Value → World → Prop} {σ : Q5} {l : List Cla} {v : Value}
theorem Gl {c:Cla} (h:Xx c=false):c.fields.length≤32∧c.methods.length≤32∧ ∀m∈c.methods,m.params.length≤32:=by
 simp only[Xx,Bool.or_eq_false_iff,decide_eq_false_iff_not,List.any_eq_false] at h
 obtain ⟨⟨⟨b,f⟩,d⟩,e⟩:=h
 refine ⟨by omega,by omega,fun m a=>?_⟩
 have:=b m a
 simp only[Uf,Bool.or_eq_true,decide_eq_true_eq,not_or] at this
 omega
set_option maxHeartbeats 8000000 in
theorem Q5q {i:Nat} (hs:X4 w σ) (hv:Sl 8 U4 σ v l) (ok:Ok l) (own:G6 l) (hlen:l.length≤1000) (hmn: ∀c∈l,Xx c=false) (hi:i<l.length)
 (h: ∀w' σ',Stp w σ w' σ'→K (I (V1 l l[i])) w'):Q1 P F.aW [v,I i] w K:=Si (by
 unfold Jz
 obtain ⟨lv,fv,mv,p0,r0⟩:=hv.elC hi
 refine J5 hv hi ?_
 refine Y7 hs p0 rfl ?_
 refine Y5 hs (by rfl) rfl (Rep.one r0) fun q w1 σ1 hk1 hq1=>?_
 have r1:=RCl_lift r0 ⟨hk1.le⟩
 obtain ⟨_,gf,gm,g4,_⟩:=r1.parts
 have hv1:=hv.up hk1
 have hnm:=ok.nm _ (List.getElem_mem hi)
 have hcm:=hmn _ (List.getElem_mem hi)
 have hname:X9 l i=l[i].name:=Ge hi
 generalize hcE:l[i]=c at*
 obtain ⟨mf,mm,mp⟩:=Gl hcm
 have e64:Xi l c=true→V1 l c=64:=fun e=>by unfold V1;simp[e]
 have e65:Xi l c=false→B0 l c=true→V1 l c=65:=fun e e2=>by unfold V1;simp[e,e2]
 have e66:Xi l c=false→B0 l c=false→Xt l c=true→V1 l c=66:=fun e e2 e3=>by unfold V1;simp[e,e2,e3]
 have e67:Xi l c=false→B0 l c=false→Xt l c=false→Mw l c=true→V1 l c=67:=fun e e2 e3 e4=>by unfold V1;simp[e,e2,e3,e4]
 have e0:Xi l c=false→B0 l c=false→Xt l c=false→Mw l c=false→V1 l c=0:=fun e e2 e3 e4=>by unfold V1;simp[e,e2,e3,e4]
 generalize V1 l c=R at*
 clear p0 r0 r1 hcm
 refine J0 c.fields.length (fun n w'=> ∃σ',Stp w σ w' σ'∧SLe σ1 σ'∧(c.fields.take n).any (fun f=>(Xn l c.super f.name).isSome)=false) ⟨σ1,hk1,SLe.refl _,rfl⟩ fun n w2 d hn hinv=>?_
 obtain ⟨σ2,hS2,le2,hno⟩:=hinv
 have hq2:=hq1.lift le2
 have gf2:=gf.lift le2
 (try simp only[↓M1,M1,Mb,reduceIte])
 refine ld hS2.sat hq2 rfl ?_
 refine Q8 gf2 ?_
 refine Z0 ?_
 refine Q6 (fun hc=>?_) (fun hc=>?_)
 ·have hn':n<c.fields.length:=by simpa using hc
  obtain ⟨pf,_⟩:=gf2.elF hn'
  have hs2:=hS2.sat
  refine U6 hs2 ?_
  (repeat refine U9 I9 ?_)
  (intros;(repeat (rename_i hx;subst hx));(try simp only[↓M2,M2,Mb,reduceIte]))
  rename_i w3 hb3
  refine Q7z hb3.sat (hv.up (hS2.trans hb3.stp)) ok.acy hlen ok.sm fun w4 σ4 hk4=>?_
  refine Yb ?_
  rw[K1]
  have hnx:=M3 (p:=fun f:Fld=>(Xn l c.super f.name).isSome) hn'
  cases hp:(Xn l c.super c.fields[n].name).isSome with
  | true=>
   (try simp only[↓M1,M1,Mb,reduceIte])
   rw[hp,Bool.or_true] at hnx
   have:R=64:=e64 (C3 hn' hp)
   subst this
   exact h _ _ ((hS2.trans hb3.stp).trans hk4)
  | false=>
   (try simp only[↓M1,M1,Mb,reduceIte])
   exact Y2 gf.max hn' ⟨σ4,(hS2.trans hb3.stp).trans hk4,le2.more ⟨(hb3.stp.trans hk4).le⟩,by rw[hnx,hno,hp];rfl⟩
 have hA:Xi l c=false:=by
  have hn': ¬n<c.fields.length:=by simpa using hc
  rw[D0 hn'] at hno;exact hno
 clear hno hc hn e64
 refine Ao (R:=Y1) (e:=T.b) hS2 (by decide) fun x3 w3 hk3 ha3 _=>?_
 have hS3:=hS2.trans hk3
 refine D2 c.fields.length (fun n x w'=> ∃σ',Stp w σ w' σ'∧SLe σ1 σ'∧V6 w.heap.size T.b 1 Y1 σ' w' x ((c.fields.take n).map (·.kind))) ⟨σ2,hS3,le2,ha3⟩ fun n x w4 d hn hinv=>?_
 obtain ⟨σ4,hS4,le4,ha4⟩:=hinv
 have hq4:=hq1.lift le4
 have gf4:=gf.lift le4
 (try simp only[↓M1,M1,Mb,reduceIte])
 refine ld hS4.sat hq4 rfl ?_
 refine Q8 gf4 ?_
 refine Z0 ?_
 refine Q6 (fun hc=>?_) (fun hc=>?_)
 ·have hn':n<c.fields.length:=by simpa using hc
  obtain ⟨pf,rf⟩:=gf4.elF hn'
  have hkl:=(hnm.2.1 _ (List.getElem_mem hn')).2
  (try simp only[↓M1,M1,Mb,reduceIte])
  refine ld hS4.sat hq4 rfl ?_
  refine J5 gf4 hn' ?_
  (try simp only[↓M1,M1,Mb,reduceIte])
  refine ld hS4.sat pf rfl ?_
  refine Jm (R:=Y1) (x:=c.fields[n].kind) hS4 ha4 ⟨rfl,Nat.le_trans hkl (by decide)⟩ rfl rfl rfl (by rw[List.length_map,List.length_take];omega) (by rw[List.length_map,List.length_take];omega) fun s v' w5 σ5 hnx hS5 ha5 _=>?_
  (try simp only[↓M1,M1,Mb,reduceIte])
  refine Z6 gf.max hn' ⟨σ5,hS5,le4.more hnx.le,?_⟩
  rw[List.take_add_one,List.getElem?_eq_getElem hn',List.map_append]
  exact ha5
 rw[List.take_of_length_le (by
  have: ¬n<c.fields.length:=by simpa using hc
  omega)] at ha4
 clear hc hn hk3 ha3 hS3 hS2 le2 hq2 gf2 hq4 gf4
 have hkl: ∀n,(c.fields.map (·.kind)++(c.methods.take n).flatMap Xo).length≤2000:=fun n=>by
  have h1:=Uc Xo 33 (c.methods.take n) fun m hm=>by
   have:=mp m (List.mem_of_mem_take hm)
   unfold Xo
   split<;>simp<;>omega
  have h2:(c.methods.take n).length≤32:=by rw[List.length_take];omega
  have h3:(c.methods.take n).length*33≤32*33:=Nat.mul_le_mul_right _ h2
  rw[List.length_append,List.length_map];omega
 refine D2 c.methods.length (fun n x w'=> ∃σ',Stp w σ w' σ'∧SLe σ1 σ'∧V6 w.heap.size T.b 1 Y1 σ' w' x (c.fields.map (·.kind)++(c.methods.take n).flatMap Xo)) ⟨σ4,hS4,le4,by simpa using ha4⟩ fun n x w5 d hn hinv=>?_
 clear ha4 hS4 le4
 obtain ⟨σ5,hS5,le5,ha5⟩:=hinv
 have hq5:=hq1.lift le5
 have gm5:=gm.lift le5
 have hkn:=hkl n
 (try simp only[↓M1,M1,Mb,reduceIte])
 refine ld hS5.sat hq5 rfl ?_
 refine Q8 gm5 ?_
 refine Z0 ?_
 refine Q6 (fun hc=>?_) (fun hc=>?_)
 ·have hn':n<c.methods.length:=by simpa using hc
  obtain ⟨pv,cv,hv',pm,rm⟩:=gm5.elM hn'
  obtain ⟨gp,_,_,_,gr,_⟩:=rm.parts
  have hpn:=mp _ (List.getElem_mem hn')
  have hrl:=(hnm.2.2 _ (List.getElem_mem hn')).1
  have hnx:(c.methods.take (n+1)).flatMap Xo=(c.methods.take n).flatMap Xo++Xo c.methods[n]:=by
   rw[List.take_add_one,List.getElem?_eq_getElem hn',List.flatMap_append];simp
  refine V9 ?_
  (try simp only[↓M1,M1,Mb,reduceIte])
  refine ld hS5.sat hq5 rfl ?_
  refine J5 gm5 hn' ?_
  (try simp only[↓M1,M1,Mb,reduceIte])
  refine ld hS5.sat pm rfl ?_
  refine Ow hS5 ha5 gp rfl (by omega) (by omega) fun v6 w6 hn6 hS6 ha6 _=>?_
  (try simp only[↓M1,M1,Mb,reduceIte])
  refine ld hS6.sat hq5 rfl ?_
  refine J5 gm5 hn' ?_
  (try simp only[↓M1,M1,Mb,reduceIte])
  refine ld hS6.sat pm rfl ?_
  refine Lf ?_
  by_cases he:c.methods[n].result=[]
  ·simp only[he,decide_true,Bool.not_true,↓M1,M1,Mb,reduceIte]
   intro d
   refine Z6 gm.max hn' ⟨σ5,hS6,le5,?_⟩
   rw[hnx]
   unfold Xo
   rw[if_pos he,List.append_nil,←List.append_assoc]
   exact ha6
  ·simp only[he,decide_false,Bool.not_false,↓M1,M1,Mb,reduceIte]
   refine ld hS6.sat hq5 rfl ?_
   refine J5 gm5 hn' ?_
   (try simp only[↓M1,M1,Mb,reduceIte])
   refine ld hS6.sat pm rfl ?_
   refine Jm (R:=Y1) (x:=c.methods[n].result) hS6 ha6 ⟨rfl,Nat.le_trans hrl (by decide)⟩ rfl rfl rfl (by rw[List.length_append];omega) (by rw[List.length_append];omega) fun s v' w7 σ7 hn7 hS7 ha7 _=>?_
   intro d
   (try simp only[↓M1,M1,Mb,reduceIte])
   refine Z6 gm.max hn' ⟨σ7,hS7,le5.more hn7.le,?_⟩
   rw[hnx]
   unfold Xo at ha7⊢
   rw[if_neg he]
   simpa only[List.append_assoc] using ha7
 rw[List.take_of_length_le (by
  have: ¬n<c.methods.length:=by simpa using hc
  omega)] at ha5
 have hkn:=hkl c.methods.length
 rw[List.take_of_length_le (Nat.le_refl _)] at hkn
 have hkE:B0 l c=(Zj c).any (fun s=> !D7 l s):=Q7Z.symm
 have hkb: ∀s∈Zj c,s.length≤Z9:=fun s hs=>by
  unfold Zj at hs
  rcases List.mem_append.1 hs with hs | hs
  ·obtain ⟨f,hf,rfl⟩:=List.mem_map.1 hs
   exact Nat.le_trans (hnm.2.1 f hf).2 (by decide)
  ·obtain ⟨m,hm,hs⟩:=List.mem_flatMap.1 hs
   unfold Xo at hs
   rcases List.mem_append.1 hs with hs | hs
   ·exact Nat.le_trans ((hnm.2.2 m hm).2 s hs) (by decide)
   ·split at hs
    ·simp at hs
    ·simp at hs;subst hs;exact Nat.le_trans (hnm.2.2 m hm).1 (by decide)
 obtain ⟨σ6,hS6,hv6,lee6,_⟩:=ha5.keep hS5
 have le6:=le5.more ⟨lee6⟩
 clear ha5 hq5 gm5 hc hn
 change Sl 1 Y1 σ6 x (Zj c) at hv6
 refine J0 (Zj c).length (fun n w'=>Stp w σ w' σ6∧((Zj c).take n).any (fun s=> !D7 l s)=false) ⟨hS6,rfl⟩ fun n w7 d hn hinv=>?_
 obtain ⟨hS7,hno⟩:=hinv
 refine Q8 hv6 ?_
 refine Z0 ?_
 refine Q6 (fun hc=>?_) (fun hc=>?_)
 ·have hn':n<(Zj c).length:=by simpa using hc
  refine J5 hv6 hn' ?_
  obtain ⟨pk,_⟩:=hv6.elS hn'
  refine X8 hS7.sat pk rfl ?_
  refine Q7q hS7.sat (hv.up hS7) (hkb _ (List.getElem_mem hn')) ?_
  have hnx:=M3 (p:=fun s=> !D7 l s) hn'
  cases hp:D7 l (Zj c)[n] with
  | false=>
   (try simp only[↓M1,M1,Mb,reduceIte])
   have:R=65:=e65 hA (by rw[hkE];exact C3 hn' (by simp[hp]))
   subst this
   exact h _ _ hS7
  | true=>
   (try simp only[↓M1,M1,Mb,reduceIte])
   exact Y2 hv6.max hn' ⟨hS7,by rw[hnx,hno,hp];rfl⟩
 have hB:B0 l c=false:=by
  have hn': ¬n<(Zj c).length:=by simpa using hc
  rw[D0 hn'] at hno;rw[hkE];exact hno
 clear hno hc hn e65 hkE hkb hkn hkl hS5 le5 lee6 hv6
 refine Pn hS7.sat (hv.up hS7) own (by omega) hlen ok.sm fun vb w8 σ8 hk8 hb8=>?_
 have hS8:=hS7.trans hk8
 refine Ao (R:=M5) (e:=T.c) hS8 (by decide) fun x9 w9 hk9 ha9 _=>?_
 have hml: ∀n,n≤l.length→(T9 l i n).length≤32000:=fun n hn=>by
  unfold T9
  have h1:=Uc (fun k=>if Tm l i k then (l.getD k Cla.zero).methods else []) 32 (List.range n) fun k hk=>by
   have hk':k<l.length:=by have:=List.mem_range.1 hk;omega
   split
   ·rw[Rc hk'];exact (Gl (hmn _ (List.getElem_mem _))).2.1
   ·simp
  rw[List.length_range] at h1
  have h3:n*32≤1000*32:=Nat.mul_le_mul_right _ (by omega)
  omega
 have hbl:(C4 l).length=l.length:=by simp[C4]
 refine D2 l.length (fun n x w'=> ∃σ',Stp w σ w' σ'∧SLe σ1 σ'∧SLe σ8 σ'∧V6 w.heap.size T.c 7 M5 σ' w' x (T9 l i n)) ⟨σ8,hS8.trans hk9,le6.more ⟨hk8.le⟩,SLe.refl _,ha9⟩ fun n x w10 d hn hinv=>?_
 clear ha9 hk9 hS7 hS8 le6 hS6 hk8
 obtain ⟨σ10,hS10,le10,leb,ha10⟩:=hinv
 have hv10:=hv.up hS10
 refine Q8 hv10 ?_
 refine Z0 ?_
 refine Q6 (fun hc=>?_) (fun hc=>?_)
 ·have hn':n<l.length:=by simpa using hc
  have hmn1:=hml n hn
  have hsuc:=Q6n (l:=l) (i:=i) (n:=n)
  rw[Rc hn'] at hsuc
  obtain ⟨lv2,fv2,mv2,p2,r2⟩:=hv10.elC hn'
  obtain ⟨_,_,g3,_,_⟩:=r2.parts
  have hmn2:=(Gl (hmn _ (List.getElem_mem hn'))).2.1
  refine Zt (fun z w'=>Stp w σ w' σ10∧V6 w.heap.size T.c 7 M5 σ10 w' z (T9 l i (n+1))) ?_ (fun z d w' hz=>?_)
  ·refine Nh ?_
   have happ: ∀{J:Value→World→Prop},Tm l i n=true→(∀z w',Stp w σ w' σ10→V6 w.heap.size T.c 7 M5 σ10 w' z (T9 l i (n+1))→J z w')→
    X5 P .append [T.g,T.g] T.g [false,false] [x,mv2] w10 J:=fun hu hJ=>
    Ow hS10 ha10 g3 rfl (by omega) (by omega) fun v' w' _ hS' ha' _=>hJ v' w' hS' (by rw[hsuc,if_pos hu];exact ha')
   by_cases e:n=i
   ·have e1:decide ((n:Int)=(i:Int))=true:=by simp[e]
    rw[e1]
    (try simp only[↓M1,M1,Mb,reduceIte])
    refine J5 hv10 hn' ?_
    (try simp only[↓M1,M1,Mb,reduceIte])
    refine ld hS10.sat p2 rfl ?_
    exact happ (by simp[Tm,e]) fun z w' h1 h2=>⟨h1,h2⟩
   ·have e1:decide ((n:Int)=(i:Int))=false:=by rw[decide_eq_false_iff_not];omega
    rw[e1]
    obtain ⟨cs1,pb,_,rv,rfl,rb⟩:=(hb8.lift leb).el (i:=i) (by rw[hbl];exact hi)
    have hrow:(C4 l)[i]'(by rw[hbl];exact hi)=(List.range l.length).map fun j=>A0 l (X9 l i) (X9 l j):=by simp[C4]
    rw[hrow] at rb
    obtain ⟨cs2,pb2,_,hcs2⟩:=rb.el (i:=n) (by simpa using hn')
    have hcs2:cs2=_:=hcs2
    subst hcs2
    simp only[List.getElem_map,List.getElem_range] at pb2
    (try simp only[↓M1,M1,Mb,reduceIte])
    refine J5 (hb8.lift leb) (by rw[hbl];exact hi) ?_
    refine X8 hS10.sat pb rfl ?_
    refine J5 rb (by simpa using hn') ?_
    refine X8 hS10.sat pb2 rfl ?_
    (try simp only[↓M1,M1,Mb,reduceIte])
    cases ho:A0 l (X9 l i) (X9 l n) with
    | true=>
     (try simp only[↓M1,M1,Mb,reduceIte])
     refine J5 hv10 hn' ?_
     (try simp only[↓M1,M1,Mb,reduceIte])
     refine ld hS10.sat p2 rfl ?_
     exact happ (by simp[Tm,ho]) fun z w' h1 h2=>⟨h1,h2⟩
    | false=>
     (try simp only[↓M1,M1,Mb,reduceIte])
     refine ⟨hS10,?_⟩
     have:Tm l i n=false:=by simp[Tm,ho,e]
     rw[hsuc,this]
     simpa using ha10
  ·obtain ⟨hS',ha'⟩:=hz
   (try simp only[↓M1,M1,Mb,reduceIte])
   exact Z6 (by omega) hn' ⟨σ10,hS',le10,leb,ha'⟩
 have hn0:n=l.length:=by
  have: ¬n<l.length:=by simpa using hc
  omega
 subst hn0
 obtain ⟨σ11,hS11,hv11,lee11,_⟩:=ha10.keep hS10
 have le11:=le10.more ⟨lee11⟩
 have hml2:=hml _ (Nat.le_refl l.length)
 have hov:Xt l c=Lh (T9 l i l.length):=by
  unfold Xt
  refine (Q5O fun m=>?_).symm
  rw[Q2G own hi,hname]
 have hlk:Mw l c=(!c.abs&&(T9 l i l.length).any fun m=>Xj l c.name m.name):=by
  unfold Mw
  congr 1
  refine (Q9j fun m=>?_).symm
  rw[Q2G own hi,hname]
 have hsn: ∀m∈T9 l i l.length,SmM m∧NmM m:=fun m hm=>by
  obtain ⟨c2,hc2,hm2⟩:=Q7E hm (Nat.le_refl _)
  exact ⟨(ok.sm c2 hc2).2.2.2 m hm2,(ok.nm c2 hc2).2.2 m hm2⟩
 generalize T9 l i l.length=ms at hov hlk hsn hml2 hv11
 clear ha10 lee11 hS10 le10 leb hv10 hml hc hb8 hbl
 refine J0 ms.length (fun n w'=> ∃σ',Stp w σ w' σ'∧SLe σ11 σ'∧ ∀a b,a<n→b<a→G8 ms a b=false) ⟨σ11,hS11,SLe.refl _,fun a b h=>by omega⟩ fun n w12 d hn hinv=>?_
 obtain ⟨σ12,hS12,le12,hno⟩:=hinv
 have hv12:=hv11.lift le12
 refine Q8 hv12 ?_
 refine Z0 ?_
 refine Q6 (fun hc=>?_) (fun hc=>?_)
 ·have hn':n<ms.length:=by simpa using hc
  refine J0 n (fun m w'=> ∃σ',Stp w σ w' σ'∧SLe σ11 σ'∧ ∀b,b<m→G8 ms n b=false) ⟨σ12,hS12,le12,fun b h=>by omega⟩ fun m w13 d hm hinv=>?_
  obtain ⟨σ13,hS13,le13,hno2⟩:=hinv
  have hv13:=hv11.lift le13
  refine Z0 ?_
  refine Q6 (fun hc=>?_) (fun hc=>?_)
  ·have hm':m<n:=by simpa using hc
   have hm2:m<ms.length:=by omega
   obtain ⟨pv1,cv1,hv1',pn,rn⟩:=hv13.elM hn'
   obtain ⟨pv2,cv2,hv2',pm,rm⟩:=hv13.elM hm2
   obtain ⟨sn1,sn2⟩:=hsn _ (List.getElem_mem hn')
   obtain ⟨sm1,sm2⟩:=hsn _ (List.getElem_mem hm2)
   have hat:G8 ms n m=(decide (ms[n].name=ms[m].name)&& !decide (P6 ms[n]=P6 ms[m])):=by
    unfold G8;rw[Rc hn',Rc hm2]
   have hs13:=hS13.sat
   have hnx:G8 ms n m=false→ ∀b,b<m+1→G8 ms n b=false:=fun e b hb=>by
    by_cases e2:b=m
    ·subst e2;exact e
    ·exact hno2 b (by omega)
   refine U6 hs13 ?_
   (repeat refine U9 I9 ?_)
   by_cases he:ms[n].name=ms[m].name
   ·have hd:decide (ms[n].name=ms[m].name)=true:=by simp[he]
    simp only[hd,reduceIte]
    (repeat (apply U9;(· intros;(repeat (rename_i hx;subst hx));(repeat' (first | (with_reducible exact B2 rfl) | (with_reducible exact Zx (Stp.bel (by (repeat (first | exact Stp.refl (by (first | assumption | exact Stp.sat (by assumption) | exact Hst.sat (by assumption))) | assumption | refine Stp.trans ?_ (by first | assumption | exact Hst.stp (by assumption)))))) rfl) | (with_reducible intro _) | (simp only[↓M2,M2,Mb,reduceIte]) | (with_reducible show Q2 _ _ _ _ _;first | refine X8 aS aL aR ?_ | refine Y7 aS aL aR ?_ | refine ld aS aL aR ?_) | (with_reducible show indexAddr _ _ _ _ _ _;refine J5 aL au ?_) | (with_reducible show X5 _ _ _ _ _ _ _ _;refine Q8 aL ?_) | (with_reducible show Vn _ _ _ _ _ _;refine V3 aR ?_) | (with_reducible show pick _ _ _ _ _ _;refine Jo ?_) | (with_reducible show Q1 _ _ _ _ _;first | refine Q3V au au au au ?_) | (apply Li;intro hh;(try simp only[hh,reduceIte,↓M2,M2,Mb,reduceIte]))));done)))
    (intros;(repeat (rename_i hx;subst hx));(try simp only[↓M2,M2,Mb,reduceIte]))
    rename_i w14 hb14
    refine Q3V hb14.sat rm sm1 sm2 fun w15 σ15 hk15=>?_
    refine Lf ?_
    (try simp only[↓M1,M1,Mb,reduceIte])
    have hS15:=(hS13.trans hb14.stp).trans hk15
    by_cases hsg:P6 ms[n]=P6 ms[m]
    ·simp only[hsg,decide_true,Bool.not_true,↓M1,M1,Mb,reduceIte]
     refine Y2 (by omega) hm' ⟨σ15,hS15,le13.more ⟨(hb14.stp.trans hk15).le⟩,hnx ?_⟩
     rw[hat,hsg];simp
    ·simp only[hsg,decide_false,Bool.not_false,↓M1,M1,Mb,reduceIte]
     have:R=66:=e66 hA hB (by rw[hov];exact Q7G hn' hm2 (by rw[hat];simp[he,hsg]))
     subst this
     exact h _ _ hS15
   ·have hd:decide (ms[n].name=ms[m].name)=false:=by simp[he]
    simp only[hd,Bool.false_eq_true,reduceIte]
    (repeat refine U9 I9 ?_)
    (intros;(repeat (rename_i hx;subst hx));(try simp only[↓M2,M2,Mb,reduceIte]))
    rename_i w14 hb14
    (try simp only[↓M1,M1,Mb,reduceIte])
    refine Y2 (by omega) hm' ⟨σ13,hS13.trans hb14.stp,le13,hnx ?_⟩
    rw[hat];simp[he]
  ·have hm0:m=n:=by
    have: ¬m<n:=by simpa using hc
    omega
   subst hm0
   (try simp only[↓M1,M1,Mb,reduceIte])
   refine Y2 hv11.max hn' ⟨σ13,hS13,le13,fun a b ha hb=>?_⟩
   by_cases e:a=m
   ·subst e;exact hno2 b hb
   ·exact hno a b (by omega) hb
 have hC:Xt l c=false:=by
  rw[hov]
  have: ¬n<ms.length:=by simpa using hc
  exact Q9g fun x y hx hy=>hno x y (by omega) hy
 clear hno hc hn hv12 hov e66
 refine J0 ms.length (fun n w'=> ∃σ',Stp w σ w' σ'∧SLe σ11 σ'∧(c.abs=true→n=0)∧(ms.take n).any (fun m=>Xj l c.name m.name)=false) ⟨σ12,hS12,le12,fun _=>rfl,rfl⟩ fun n w13 d hn hinv=>?_
 clear hS12 le12
 obtain ⟨σ13,hS13,le13,hab,hno⟩:=hinv
 have hv13:=hv11.lift le13
 have hq13:=hq1.lift (le11.more le13)
 refine Q8 hv13 ?_
 refine Z0 ?_
 by_cases hn':n<ms.length
 ·have e1:decide ((n:Int)<(ms.length:Int))=true:=by simpa using hn'
  rw[e1]
  (try simp only[↓M1,M1,Mb,reduceIte])
  refine ld hS13.sat hq13 rfl ?_
  refine Ni ?_
  (try simp only[↓M1,M1,Mb,reduceIte])
  cases hca:c.abs with
  | true=>
   (try simp only[↓M1,M1,Mb,reduceIte])
   have:R=0:=e0 hA hB hC (by rw[hlk,hca];rfl)
   subst this
   exact h _ _ hS13
  | false=>
   (try simp only[↓M1,M1,Mb,reduceIte])
   obtain ⟨pvn,cvn,hvn,pn,rn⟩:=hv13.elM hn'
   have hs13:=hS13.sat
   have hnx:=M3 (p:=fun m:Hm.Met=>Xj l c.name m.name) hn'
   have hla:Xj l c.name ms[n].name=(!(J8 l c.name ms[n].name).isSome||(o2 (J8 l c.name ms[n].name)).abs):=by
    unfold Xj
    cases J8 l c.name ms[n].name<;>rfl
   generalize hF:(fun o:Option Obj=> ∃cs:List Value,∃e,o=some (.cells cs.toArray e (0,0))∧cs.length=7∧cs[3]? =some (.bool (o2 (J8 l c.name ms[n].name)).abs))=F
   have hFn: ¬F none:=by rw[←hF];rintro ⟨_,_,h,_⟩;cases h
   refine X14 F hs13 ?_
   (repeat (apply U9;(· intros;(repeat (rename_i hx;subst hx));(repeat' (first | (with_reducible exact Q53 rfl) | (with_reducible exact X0E (Stp.bel (by (repeat (first | exact Stp.refl (by (first | assumption | exact Stp.sat (by assumption) | exact Hst.sat (by assumption))) | assumption | refine Stp.trans ?_ (by first | assumption | exact Hst.stp (by assumption)))))) rfl) | (with_reducible intro _) | (simp only[↓M2,M2,Mb,reduceIte]) | (with_reducible show Q2 _ _ _ _ _;first | refine X8 aS aL aR ?_ | refine Y7 aS aL aR ?_ | refine ld aS aL aR ?_) | (with_reducible show indexAddr _ _ _ _ _ _;refine J5 aL au ?_) | (with_reducible show X5 _ _ _ _ _ _ _ _;refine Q8 aL ?_) | (with_reducible show Vn _ _ _ _ _ _;refine V3 aR ?_) | (with_reducible show pick _ _ _ _ _ _;refine Jo ?_)));done)))
   refine W7 (fun v _=> ∃s,∃ds:List Value,v= .tuple #[s, .agg ds.toArray, .bool (J8 l c.name ms[n].name).isSome]∧ds.length=7∧ds[3]? =some (.bool (o2 (J8 l c.name ms[n].name)).abs)∧ ∀u∈ds,u.oneCell'=true) (fun _ _ _ h _=>h) (fun t180 t185 w hb e1 e2=>?_) ?_
   ·subst e1;subst e2
    refine Q71 hb.sat (hv.up (hS13.trans hb.stp)) ok fun pv cv hv w' σ' hk hr=>⟨.of_below hk.bel,_,_,rfl,rfl,rfl,Rep.one hr⟩
   refine W7 (fun _ _=>True) (fun _ _ _ _ _=>trivial) (fun t186 w hb e=>?_) ?_
   ·obtain ⟨s,ds,rfl,_⟩:=e
    exact U5 (vs:=[_,_,_]) rfl ⟨.of_below (Below.refl _ _),trivial⟩
   refine W7 (fun v _=> ∃ds:List Value,v= .agg ds.toArray∧ds.length=7∧ds[3]? =some (.bool (o2 (J8 l c.name ms[n].name)).abs)∧ ∀u∈ds,u.oneCell'=true) (fun _ _ _ h _=>h) (fun t186 w hb e=>?_) ?_
   ·obtain ⟨s,ds,rfl,h7⟩:=e
    exact U5 (vs:=[_,_,_]) rfl ⟨.of_below (Below.refl _ _),ds,rfl,h7⟩
   refine U9 (V:= .bool (J8 l c.name ms[n].name).isSome) (fun t186 w hb e=>?_) ?_
   ·obtain ⟨s,ds,rfl,h7⟩:=e
    exact U5 (vs:=[_,_,_]) rfl (Q53 rfl)
   refine W7 (X1C w13.heap.size 7 F) (Q6Q hFn) (fun w hb=>?_) ?_
   ·exact Hi hb.sat fun b w' hb2 hk hm=>⟨.of_below hk.bel,b,rfl,Nat.le_trans hb.stp.bel.size hb2, .inl ⟨_,hm.2.choose,rfl,hm.2.choose_spec⟩⟩
   refine Q64 (fun xs _ w=>X1k w13.heap.size F (xs.headD undef) w) (fun xs _ w w' h hT=>Q7l hFn _ w w' h hT) (fun t18 t188 w hb e1 e2=>?_) ?_
   ·obtain ⟨g,rfl,hg,hd⟩:=e1
    obtain ⟨ds,rfl,h7,h3,h1⟩:=e2
    obtain ⟨cs,e,hl7,hh⟩: ∃cs:List Value,∃e,cs.length=7∧w.heap[g]? =some (.cells cs.toArray e (0,0)):=by
     rcases hd with h | h
     ·exact h
     ·rw[←hF] at h
      obtain ⟨cs,e,h4,h5,_⟩:=h
      exact ⟨cs,e,h5,h4⟩
    refine sta (σ:=fun _=>none) (cs:=cs) (ds:=ds) ⟨rfl,e,hh⟩ hl7 h7 (by rw[List.all_toArray];exact List.all_eq_true.2 h1) fun w' hu hm=>?_
    have hFg:F (w'.heap[g]?):=by
     obtain ⟨_,e',hm'⟩:=hm
     rw[hm',←hF]
     exact ⟨ds,e',rfl,h7,h3⟩
    exact ⟨FinT.of_upd hu hg hFg,g,rfl,hg,hFg⟩
   rintro t179 t183 t184 t180 t185 t186 t187 t188 t189 t18 u15 w14 hb14 rfl rfl rfl rfl rfl _ _ _ rfl _ ⟨g,e,hg,hd⟩
   have e:t18=_:=e
   subst e
   rw[←hF] at hd
   obtain ⟨cs,ty,hh,hl7,h3⟩:=hd
   have hS14:=hS13.trans hb14.stp
   refine Ni ?_
   cases hsm:(J8 l c.name ms[n].name).isSome with
   | false=>
    (try simp only[↓M1,M1,Mb,reduceIte])
    have:R=67:=e67 hA hB hC (by rw[hlk,hca];exact C3 hn' (by rw[hla,hsm];rfl))
    subst this
    exact h _ _ hS14
   | true=>
    (try simp only[↓M1,M1,Mb,reduceIte])
    refine Jx (σ:=fun _=>none) ⟨rfl,ty,hh⟩ h3 ?_
    (try simp only[↓M1,M1,Mb,reduceIte])
    cases hma:(o2 (J8 l c.name ms[n].name)).abs with
    | true=>
     (try simp only[↓M1,M1,Mb,reduceIte])
     have:R=67:=e67 hA hB hC (by rw[hlk,hca];exact C3 hn' (by rw[hla,hma,Bool.or_true]))
     subst this
     exact h _ _ hS14
    | false=>
     (try simp only[↓M1,M1,Mb,reduceIte])
     refine Y2 hv11.max hn' ⟨σ13,hS14,le13,fun e=>False.elim (by simpa using e),?_⟩
     rw[hnx,hno,hla,hsm,hma];rfl
 ·have e1:decide ((n:Int)<(ms.length:Int))=false:=by simpa using hn'
  rw[e1]
  (try simp only[↓M1,M1,Mb,reduceIte])
  rw[D0 hn'] at hno
  have:R=0:=e0 hA hB hC (by rw[hlk,hno,Bool.and_false])
  subst this
  exact h _ _ hS13)
end Go.Proofs.YtfppjenblllfaaaGreatDoor

namespace Go.Proofs.YtfppjenblllfaaaGreatDoor
open Go.Emb Go.RowKit Go.Kd Go.Hm
variable {w : World} {K : Value → World → Prop} {σ : Q5} {v : Value}
def Q1O:List Cla:=[⟨Z7,[],[],false,false,false,[],[]⟩,⟨W0,Z7,[],false,false,false,[⟨P4,N7,false⟩],[]⟩]
def gMk (n:Q9):Cla:=⟨n,W0,[],false,false,true,[],[]⟩
theorem Q5E:B5=Q1O++J4.map gMk:=rfl
theorem Q7A (Q:X4 w σ) (h: ∀u w' g,Stp w σ w' g→V6 w.heap.size T.a 8 U4 g w' u B5→K u w'):Q1 P F.ba [] w K:=Fz (by
 unfold Lc
 refine W1 (cells:= #[S Z7,S [], .slice none 0 0, .bool false, .bool false, .bool false, .slice none 0 0, .slice none 0 0]) (by kernel_rfl) ?_
 refine W1 (cells:= #[S P4,S N7, .bool false]) (by kernel_rfl) ?_
 refine E3 (R:=E6) (sz:=3) Q [.agg #[S P4,S N7, .bool false]] [⟨P4,N7,false⟩] rfl rfl (by simp;rfl) rfl ⟨⟨rfl,by decide,by decide⟩,trivial⟩ fun Y w1 σ1 i m=>?_
 have j:=m
 obtain ⟨H,b,rfl,_⟩:=j
 refine W1 (cells:= #[S W0,S Z7, .slice none 0 0, .bool false, .bool false, .bool false, .slice H 1 b, .slice none 0 0]) (by kernel_rfl) ?_
 refine Qb (R:=U4) (sz:=8) i [.agg #[S Z7,S [], .slice none 0 0, .bool false, .bool false, .bool false, .slice none 0 0, .slice none 0 0], .agg #[S W0,S Z7, .slice none 0 0, .bool false, .bool false, .bool false, .slice H 1 b, .slice none 0 0]]
  Q1O rfl rfl (by simp;exact ⟨rfl,rfl⟩) rfl ⟨⟨_,_,_,rfl,Sl.nil,Sl.nil,Sl.nil,by decide,by decide⟩,⟨_,_,_,rfl,Sl.nil,m,Sl.nil,by decide,by decide⟩,trivial⟩ fun v2 w2 k B _=>?_
 refine E3 (R:=Y1) (sz:=1) k.sat (J4.map S) J4 rfl rfl (by decide) rfl ⟨⟨rfl,by decide⟩,⟨rfl,by decide⟩,⟨rfl,by decide⟩,⟨rfl,by decide⟩,⟨rfl,by decide⟩,⟨rfl,by decide⟩,trivial⟩ fun v3 X J l q=>?_
 have z:=(i.trans k).trans l
 have U:J4.length=6:=rfl
 refine D2 J4.length (fun n x w'=> ∃g,Stp w σ w' g∧SLe J g∧V6 w.heap.size T.a 8 U4 g w' x (Q1O++(J4.take n).map gMk)) ⟨J,z,SLe.refl _,B.up l⟩ fun n x W d Z o=>?_
 obtain ⟨O,f,c,e⟩:=o
 refine Q8 (q.lift c) ?_
 refine Z0 ?_
 refine Q6 (fun D=>?_) (fun D=>?_)
 ·have a:n<J4.length:=by simpa using D
  have r:=q.lift c
  refine J5 r a ?_
  obtain ⟨V,E⟩:=r.elS a
  refine X8 f.sat V rfl ?_
  have N:(Q1O++(J4.take n).map gMk).length≤8:=by
   rw[List.length_append,List.length_map,List.length_take,show Q1O.length=2 from rfl];omega
  have p:(J4.take (n+1)).map gMk=(J4.take n).map gMk++[gMk J4[n]]:=by
   rw[List.take_add_one,List.getElem?_eq_getElem a,List.map_append];rfl
  generalize J4[n]=t at E p
  refine W1 (cells:= #[S t,S W0, .slice none 0 0, .bool false, .bool false, .bool true, .slice none 0 0, .slice none 0 0]) (by kernel_rfl) ?_
  have M:U4 O (gMk t) [S t,S W0, .slice none 0 0, .bool false, .bool false, .bool true, .slice none 0 0, .slice none 0 0]:=⟨_,_,_,rfl,Sl.nil,Sl.nil,Sl.nil,E,(by decide:W0.length≤Z9)⟩
  refine Jm (x:=gMk t) f e M rfl rfl rfl (by omega) (by omega) fun s u w5 L A y C _=>?_
  refine E5 ?_
  refine Z6 (by omega) a ⟨L,y,c.more A.le,?_⟩
  rw[p,←List.append_assoc];exact C
 ·have a: ¬n<J4.length:=by simpa using D
  rw[List.take_of_length_le (by omega),←Q5E] at e
  exact h _ _ _ f e)
end Go.Proofs.YtfppjenblllfaaaGreatDoor

namespace Go.Proofs.YtfppjenblllfaaaGreatDoor
open Go.Emb Go.RowKit Go.Kd Go.Hm
variable {w : World} {K : Value → World → Prop} {σ : Q5} {l : List Cla} {v : Value}
theorem X0f {w0:World} {σ0:Q5} {frm:Nat} (ha:Yg l) (ho:G6 l) (hl:l.length≤1000) (ap: ∀c∈l,T0 c) (hf:0<frm) (ao: ∀i (D:i<l.length),frm≤i→ ∀u∈J3 l[i],∃j,Y4 l u=some j): ∀(k:Nat) {i:Nat} {b:List Nat} {x:Value} {w:World} {σ:Q5} {K:Value→World→Prop},i<l.length→B7 l (X9 l i)<k→Ak l b→Stp w0 σ0 w σ→Sl 8 U4 σ v l→V6 w0.heap.size T.e 1 Ul σ w x (ints b)→
 (∀x' w' N,Stp w0 σ0 w' N→SLe σ N→V6 w0.heap.size T.e 1 Ul N w' x' (ints (Qk l frm b i))→K x' w')→Q1 P F.aQ [v,x,I frm,I i] w K:=by
 intro k
 induction k with
 | zero=>intro i b x w σ K D hk;omega
 | succ k ih=>
  intro i b x w σ K D hk H hS hv hx h
  refine Ae ?_
  unfold Nu
  rw[Q5Q ha ho hf b D] at h
  refine Z0 ?_
  refine Q6 (fun Q=>?_) (fun Q=>?_)
  ·have Q:i<frm:=by have:=of_decide_eq_true Q;omega
   rw[if_pos Q] at h
   exact h _ _ _ hS (SLe.refl _) hx
  have Q: ¬i<frm:=by have:=of_decide_eq_false Q;omega
  rw[if_neg Q] at h
  have be:=H.len
  refine J0 b.length (fun n w'=>w'=w∧ ∀m (hm:m<b.length),m<n→b[m]≠i) ⟨rfl,fun m _ h=>by omega⟩ fun n w2 d hn o=>?_
  obtain ⟨hw,O⟩:=o
  subst hw
  refine Q6u hx ?_
  rw[show (ints b).length=b.length from by simp]
  refine Z0 ?_
  refine Q6 (fun C=>?_) (fun C=>?_)
  ·have f:n<b.length:=by simpa using C
   refine Q4P (J9.of_acc hx) (n:=n) (by simpa using f) fun a cs ay bi hr=>?_
   obtain ⟨rfl,_⟩:=hr
   refine Ql (by have:=ay 0 _ rfl;rwa [add_zero] at this) ?_
   simp only[List.getElem_map]
   refine Nh ?_
   by_cases e:b[n]=i
   ·have:decide ((b[n]:Int)=i)=true:=by simp[e]
    rw[this]
    refine U3 ?_
    rw[if_pos (e▸List.getElem_mem f)] at h
    exact h _ _ _ hS (SLe.refl _) hx
   ·have:decide ((b[n]:Int)=i)=false:=by rw[decide_eq_false_iff_not];omega
    rw[this]
    refine V8 ?_
    refine E5 ?_
    refine Y2 (by omega) f ⟨rfl,fun m hm bd=>?_⟩
    by_cases e2:m=n
    ·subst e2;exact e
    ·exact O m hm (by omega)
  ·have f: ¬n<b.length:=by simpa using C
   have B:i∉b:=fun am=>by
    obtain ⟨m,hm,e⟩:=List.getElem_of_mem am
    exact O m hm (by omega) e
   rw[if_neg B] at h
   have ab:l.getD i Cla.zero=l[i]:=by rw[List.getD_eq_getElem?_getD,List.getElem?_eq_getElem D];rfl
   rw[ab] at h
   have ar:=ao i D (by omega)
   obtain ⟨lv,fv,mv,p1,r1⟩:=hv.elC D
   obtain ⟨g1,_,_,_,g5⟩:=r1.parts
   have E:=ap _ (List.getElem_mem D)
   clear O B C hn
   refine U6 hS.sat ?_
   (repeat refine U9 I9 ?_)
   refine Q2y (w:=w2) (σ:=σ) (R:=Y1) (sz:=1) (e:=T.b) [l[i].super] (fun t w hb e=>?_) ?_
   ·subst e;exact Qb hb.stp [_] [l[i].super] rfl rfl (by simp;rfl) rfl ⟨⟨rfl,g5⟩,trivial⟩ fun v' w' hk ha _=>Q4L hb hk ha
   (repeat refine U9 I9 ?_)
   rintro br bo bf bs bm bj bp w4 av rfl rfl rfl rfl rfl ⟨ah,ac⟩ rfl
   refine Ow ah ac g1 rfl (by simp;have:=E.1;omega) (by simp;have:=E.1;omega) fun v5 w5 ax V ag X=>?_
   obtain ⟨σ6,z,J,bn,_⟩:=ag.keep V
   have J:Sl 1 Y1 σ6 v5 (J3 l[i]):=J
   have az:=hx.up z
   have aa:=hv.up z
   have ae:=hS.trans z
   have Y:SLe σ σ6:=⟨z.le⟩
   clear ax X ag ac ah av V
   refine D2 (J3 l[i]).length (fun n x w'=> ∃N p,Stp w0 σ0 w' N∧SLe σ6 N∧V6 w0.heap.size T.e 1 Ul N w' x (ints p)∧Ak l p∧p=((J3 l[i]).take n).foldl (fun b n=>Qk l frm b ((Y4 l n).getD 0)) b) ⟨σ6,b,ae,SLe.refl _,az,H,rfl⟩ fun n x7 w7 d hn o=>?_
   obtain ⟨σ7,a1,r,q,Z,g,M⟩:=o
   have y:=J.lift q
   refine Q8 y ?_
   refine Z0 ?_
   refine Q6 (fun C=>?_) (fun C=>?_)
   ·have f:n<(J3 l[i]).length:=by simpa using C
    refine J5 y f ?_
    obtain ⟨p7,_⟩:=y.elS f
    refine X8 r.sat p7 rfl ?_
    have A:=aa.lift q
    refine F7 r.sat A ?_
    obtain ⟨j,hj⟩:=ar _ (List.getElem_mem f)
    have bq:=Q0g ha ho D (by rw[ab];exact List.getElem_mem f) hj
    have W:=(D9 hj).1
    simp only[hj,W5]
    refine ih W (by omega) g r A Z fun x8 w8 σ8 U an L=>?_
    refine E5 ?_
    refine Z6 y.max f ⟨σ8,_,U,q.more an,L,Gw ha ho hf _ _ _ W g,?_⟩
    rw[List.take_add_one,List.getElem?_eq_getElem f,List.foldl_append,←M]
    simp[hj]
   ·have f: ¬n<(J3 l[i]).length:=by simpa using C
    rw[List.take_of_length_le (by omega)] at M
    have ba:=g.len
    refine Jm (R:=Ul) (x:=(i:Int)) r Z ⟨rfl,by omega,by omega⟩ rfl rfl rfl (by simp;omega) (by simp;omega) fun s x8 w8 σ8 aq U L _=>?_
    refine h _ _ _ U ((Y.more q).more aq.le) ?_
    rw[←M]
    simpa [ints] using L
end Go.Proofs.YtfppjenblllfaaaGreatDoor

namespace Go.Hm
open Go.Kd
def E8 (n i b:Nat):Bool:=decide (i<n)&&decide (128≤b)&&decide (b<192)
def Ya (n a b c d:Nat):Nat:=
 if a<128 then 1
 else if (decide (194≤a)&&decide (a<224)&&E8 n 1 b)=true then 2
 else if (decide (224≤a)&&decide (a<240)&&E8 n 1 b&&E8 n 2 c)=true then
  (if 2048≤a % 16*4096+b % 64*64+c % 64∧(a % 16*4096+b % 64*64+c % 64<55296∨57343<a % 16*4096+b % 64*64+c % 64) then 3 else 0)
 else if (decide (240≤a)&&decide (a<245)&&E8 n 1 b&&E8 n 2 c&&E8 n 3 d)=true then
  (if 65536≤a % 8*262144+b % 64*4096+c % 64*64+d % 64∧a % 8*262144+b % 64*4096+c % 64*64+d % 64≤1114111 then 4 else 0)
 else 0
theorem Q8T (n a b c d:Nat) (q:a<256) (t:b<256) (r:c<256) (s:d<256):
 Ya n a b c d=if (Lib.decodeN n a b c d).1=65533∧(Lib.decodeN n a b c d).2=1 then 0 else (Lib.decodeN n a b c d).2:=by
 have key: ∀v k:Nat,Lib.decodeN n a b c d=(v,k)→ ¬k=1→Ya n a b c d=k→Ya n a b c d=if (Lib.decodeN n a b c d).1=65533∧(Lib.decodeN n a b c d).2=1 then 0 else (Lib.decodeN n a b c d).2:=by
  intro v k h p o
  rw[h,o,if_neg (fun e=>p e.2)]
 have g:Lib.decodeN n a b c d=(65533,1)→Ya n a b c d=0→Ya n a b c d=if (Lib.decodeN n a b c d).1=65533∧(Lib.decodeN n a b c d).2=1 then 0 else (Lib.decodeN n a b c d).2:=by
  intro h o
  rw[h,o];simp
 by_cases f:a<128
 ·have h:Lib.decodeN n a b c d=(a,1):=by unfold Lib.decodeN;rw[if_pos f]
  rw[h,if_neg (by simp only;omega)]
  unfold Ya;rw[if_pos f]
 by_cases j:a / 32=6∧(1<n∧b / 64=2)
 ·by_cases i:a % 32*64+b % 64≥128
  ·refine key _ 2 (by unfold Lib.decodeN;rw[if_neg f,if_pos j,if_pos i]) (by decide) ?_
   unfold Ya E8
   simp only[Bool.and_eq_true,decide_eq_true_eq]
   rw[if_neg f,if_pos (by omega)]
  ·refine g (by unfold Lib.decodeN;rw[if_neg f,if_pos j,if_neg i]) ?_
   unfold Ya E8
   simp only[Bool.and_eq_true,decide_eq_true_eq]
   rw[if_neg f,if_neg (by omega),if_neg (by omega),if_neg (by omega)]
 by_cases l:a / 16=14∧(1<n∧b / 64=2)∧(2<n∧c / 64=2)
 ·by_cases i:2048≤a % 16*4096+b % 64*64+c % 64∧(a % 16*4096+b % 64*64+c % 64<55296∨57343<a % 16*4096+b % 64*64+c % 64)
  ·refine key _ 3 (by unfold Lib.decodeN;rw[if_neg f,if_neg j,if_pos l,if_pos (by omega)]) (by decide) ?_
   unfold Ya E8
   simp only[Bool.and_eq_true,decide_eq_true_eq]
   rw[if_neg f,if_neg (by omega),if_pos (by omega),if_pos i]
  ·refine g (by unfold Lib.decodeN;rw[if_neg f,if_neg j,if_pos l,if_neg (by omega)]) ?_
   unfold Ya E8
   simp only[Bool.and_eq_true,decide_eq_true_eq]
   rw[if_neg f,if_neg (by omega),if_pos (by omega),if_neg i]
 by_cases m:a / 8=30∧(1<n∧b / 64=2)∧(2<n∧c / 64=2)∧(3<n∧d / 64=2)
 ·by_cases i:65536≤a % 8*262144+b % 64*4096+c % 64*64+d % 64∧a % 8*262144+b % 64*4096+c % 64*64+d % 64≤1114111
  ·refine key _ 4 (by unfold Lib.decodeN;rw[if_neg f,if_neg j,if_neg l,if_pos m,if_pos (by omega)]) (by decide) ?_
   unfold Ya E8
   simp only[Bool.and_eq_true,decide_eq_true_eq]
   rw[if_neg f,if_neg (by omega),if_neg (by omega),if_pos (by omega),if_pos i]
  ·refine g (by unfold Lib.decodeN;rw[if_neg f,if_neg j,if_neg l,if_pos m,if_neg (by omega)]) ?_
   unfold Ya E8
   simp only[Bool.and_eq_true,decide_eq_true_eq]
   rw[if_neg f,if_neg (by omega),if_neg (by omega)]
   by_cases u:a<245
   ·rw[if_pos (by omega),if_neg i]
   ·rw[if_neg (by omega)]
 ·refine g (by unfold Lib.decodeN;rw[if_neg f,if_neg j,if_neg l,if_neg m]) ?_
  unfold Ya E8
  simp only[Bool.and_eq_true,decide_eq_true_eq]
  rw[if_neg f,if_neg (by omega),if_neg (by omega),if_neg (by omega)]
def X3 (l:Q9) (i:Nat):Nat:=(l.getD i 0).toNat
theorem Qt (l:Q9) (i:Nat):X3 l i<256:=(l.getD i 0).toNat_lt
def Yc (l:Q9):Nat:=Ya l.length (X3 l 0) (X3 l 1) (X3 l 2) (X3 l 3)
theorem Q52 (l:Q9):Yc l=if (Lib.decodeL l).1=65533∧(Lib.decodeL l).2=1 then 0 else (Lib.decodeL l).2:=by
 rw[Lib.decodeL_N]
 exact Q8T _ _ _ _ _ (Qt l 0) (Qt l 1) (Qt l 2) (Qt l 3)
theorem Q8D {l:Q9} (a:l≠[]) (h:Yc l≠0):1≤Yc l∧Yc l≤l.length:=by
 have c:=Lib.decodeL_le l a
 have b:=Lib.decodeL_width l
 rw[Q52] at h⊢
 split at h
 ·exact absurd rfl h
 ·rw[if_neg (by assumption)];omega
theorem Q72 {f:Nat} {l:Q9} (a:l≠[]):Lib.validGoD (f+1) l=if Yc l=0 then false else Lib.validGoD f (l.drop (Yc l)):=by
 have b:=Lib.decodeL_width l
 simp only[Lib.validGoD,if_neg a]
 rw[Q52]
 split
 ·rw[if_pos rfl]
 ·rw[if_neg (by omega)]
end Go.Hm
namespace Go.Emb
open Go.RowKit
theorem Q8s {P:Program} {w:World} {K:Value→World→Prop} {k:IntKind} {t:TypeId} {b d:Operand} {a c:Int} (f:0<c∧0≤a) (h:K (.int k (a % c)) w):Q4 P .rem t b d (.int k a) (.int k c) w K:=by
 have e:Q4 P .rem t b d (.int k a) (.int k c) w K=K (.int k (a.tmod c)) w:=Y0 (by simp[eqGuard,Go.binOp,Op.intDiv];intro e;omega)
 rw[e,Int.tmod_eq_emod_of_nonneg f.2];exact h
end Go.Emb
namespace Go.Proofs.YtfppjenblllfaaaGreatDoor
open Go.Emb Go.RowKit Go.Kd Go.Hm
variable {w : World} {K : Value → World → Prop} {σ : Q5}
theorem Lg {a:Q9} {i:Nat} (b:i<a.length) (h:K (.int .u8 (X3 a i)) w):E0 P T.b (S a) (I i) w K:=by
 rw[Qc X7 (by omega) (by simpa using b)]
 have:(a[(i:Int).toNat]'(by simpa using b)).toNat=X3 a i:=by
  unfold X3
  rw[List.getD_eq_getElem?_getD,List.getElem?_eq_getElem b];rfl
 rw[this];exact h
theorem Q2l {n:Int} (a:0≤n∧n<256) (h:K (I n) w):conv P T.w T.e (.int .u8 n) w K:=by
 rw[Q0U Q2w X22,F0 (by omega) (by omega)];exact h
theorem Ut {a:Q9} {i:Nat} (h:K (.bool (E8 a.length i (X3 a i))) w):Q1 P F.p [S a,I i] w K:=Gg (by
 unfold Vr
 unfold E8 at h
 simp only[↓M1,M1,Mb,reduceIte]
 by_cases b:i<a.length
 ·have c:decide ((i:Int)<a.length)=true:=by rw[decide_eq_true_eq];omega
  have d:decide (i<a.length)=true:=by simpa using b
  rw[d] at h
  simp only[c,↓M1,M1,Mb,reduceIte]
  refine Lg b ?_
  (try simp only[↓M1,M1,Mb,reduceIte])
  have f:decide ((128:Int)≤(X3 a i:Int))=decide (128≤X3 a i):=by rw[Bool.eq_iff_iff,decide_eq_true_eq,decide_eq_true_eq];omega
  have g:decide ((X3 a i:Int)<192)=decide (X3 a i<192):=by rw[Bool.eq_iff_iff,decide_eq_true_eq,decide_eq_true_eq];omega
  rw[f]
  cases e:decide (128≤X3 a i) with
  | true=>
   rw[e] at h
   simp only[↓M1,M1,Mb,reduceIte]
   refine Lg b ?_
   simp only[g,↓M1,M1,Mb,reduceIte]
   simpa using h
  | false=>
   rw[e] at h
   simp only[↓M1,M1,Mb,reduceIte]
   simpa using h
 ·have c:decide ((i:Int)<a.length)=false:=by rw[decide_eq_false_iff_not];omega
  have d:decide (i<a.length)=false:=by simpa using b
  rw[d] at h
  simp only[c,↓M1,M1,Mb,reduceIte]
  simpa using h)
def Yw (a:Q9):Nat:=X3 a 0 % 16*4096+X3 a 1 % 64*64+X3 a 2 % 64
def Eo (a:Q9):Nat:=X3 a 0 % 8*262144+X3 a 1 % 64*4096+X3 a 2 % 64*64+X3 a 3 % 64
theorem Q7O (a:Q9):Yc a=if X3 a 0<128 then 1
 else if (decide (194≤X3 a 0)&&decide (X3 a 0<224)&&E8 a.length 1 (X3 a 1))=true then 2
 else if (decide (224≤X3 a 0)&&decide (X3 a 0<240)&&E8 a.length 1 (X3 a 1)&&E8 a.length 2 (X3 a 2))=true then
  (if 2048≤Yw a∧(Yw a<55296∨57343<Yw a) then 3 else 0)
 else if (decide (240≤X3 a 0)&&decide (X3 a 0<245)&&E8 a.length 1 (X3 a 1)&&E8 a.length 2 (X3 a 2)&&E8 a.length 3 (X3 a 3))=true then
  (if 65536≤Eo a∧Eo a≤1114111 then 4 else 0)
 else 0:=rfl
set_option maxHeartbeats 2000000 in
theorem Q9s {a:Q9} (hne:a≠[]) (hs:X4 w σ) (h: ∀w',Below w.heap.size w w'→K (I (Yc a)) w'):Q1 P F.bt [S a] w K:=Kv (by
 unfold Lq
 have hl:0<a.length:=List.length_pos_iff.2 hne
 have b0:=Qt a 0
 have b1:=Qt a 1
 have b2:=Qt a 2
 have b3:=Qt a 3
 refine Lg (i:=0) hl ?_
 refine Q2l (by omega) ?_
 refine Zt (fun _ w'=>Below w.heap.size w w'∧Yc a=0) ?_ (fun _ d w' hx=>by
  have:=h w' hx.1
  rw[hx.2] at this
  exact this)
 have hK: ∀n w',Below w.heap.size w w'→Yc a=n→K (I n) w':=fun n w' hb e=>by rw[←e];exact h w' hb
 clear h
 have hcm:=Q7O a
 simp only[↓M1,M1,Mb,reduceIte]
 refine Q6 (fun h1=>?_) (fun h1=>?_)
 ·have:X3 a 0<128:=by have:=of_decide_eq_true h1;omega
  exact hK 1 _ (Below.refl _ _) (by rw[hcm,if_pos this])
 have c0: ¬X3 a 0<128:=by have:=of_decide_eq_false h1;omega
 rw[if_neg c0] at hcm
 by_cases c1:X3 a 0<194
 ·have i1:decide ((194:Int)≤X3 a 0)=false:=by rw[decide_eq_false_iff_not];omega
  have n1:decide (194≤X3 a 0)=false:=by rw[decide_eq_false_iff_not];omega
  have i2:decide ((X3 a 0:Int)<224)=true:=by rw[decide_eq_true_eq];omega
  have n2:decide (X3 a 0<224)=true:=by rw[decide_eq_true_eq];omega
  have i3:decide ((224:Int)≤X3 a 0)=false:=by rw[decide_eq_false_iff_not];omega
  have n3:decide (224≤X3 a 0)=false:=by rw[decide_eq_false_iff_not];omega
  have i4:decide ((X3 a 0:Int)<240)=true:=by rw[decide_eq_true_eq];omega
  have n4:decide (X3 a 0<240)=true:=by rw[decide_eq_true_eq];omega
  have i5:decide ((240:Int)≤X3 a 0)=false:=by rw[decide_eq_false_iff_not];omega
  have n5:decide (240≤X3 a 0)=false:=by rw[decide_eq_false_iff_not];omega
  have i6:decide ((X3 a 0:Int)<245)=true:=by rw[decide_eq_true_eq];omega
  have n6:decide (X3 a 0<245)=true:=by rw[decide_eq_true_eq];omega
  simp only[i1,i2,i3,i4,i5,i6,↓M1,M1,Mb,reduceIte]
  exact ⟨Below.refl _ _,by rw[hcm];simp only[n1,n2,n3,n4,n5,n6,Bool.and_true,Bool.true_and,Bool.false_and,Bool.and_false,Bool.false_eq_true,if_true,if_false,reduceIte]⟩
 by_cases c2:X3 a 0<224
 ·have i1:decide ((194:Int)≤X3 a 0)=true:=by rw[decide_eq_true_eq];omega
  have n1:decide (194≤X3 a 0)=true:=by rw[decide_eq_true_eq];omega
  have i2:decide ((X3 a 0:Int)<224)=true:=by rw[decide_eq_true_eq];omega
  have n2:decide (X3 a 0<224)=true:=by rw[decide_eq_true_eq];omega
  have i3:decide ((224:Int)≤X3 a 0)=false:=by rw[decide_eq_false_iff_not];omega
  have n3:decide (224≤X3 a 0)=false:=by rw[decide_eq_false_iff_not];omega
  have i4:decide ((X3 a 0:Int)<240)=true:=by rw[decide_eq_true_eq];omega
  have n4:decide (X3 a 0<240)=true:=by rw[decide_eq_true_eq];omega
  have i5:decide ((240:Int)≤X3 a 0)=false:=by rw[decide_eq_false_iff_not];omega
  have n5:decide (240≤X3 a 0)=false:=by rw[decide_eq_false_iff_not];omega
  have i6:decide ((X3 a 0:Int)<245)=true:=by rw[decide_eq_true_eq];omega
  have n6:decide (X3 a 0<245)=true:=by rw[decide_eq_true_eq];omega
  simp only[i1,i2,i3,i4,i5,i6,↓M1,M1,Mb,reduceIte]
  refine Ut (i:=1) ?_
  cases A1:E8 a.length 1 (X3 a 1) with
  | true=>simp only[↓M1,M1,Mb,reduceIte];exact hK 2 _ (Below.refl _ _) (by rw[hcm];simp only[A1,n1,n2,n3,n4,n5,n6,Bool.and_true,Bool.true_and,Bool.false_and,Bool.and_false,Bool.false_eq_true,if_true,if_false,reduceIte])
  | false=>simp only[↓M1,M1,Mb,reduceIte];exact ⟨Below.refl _ _,by rw[hcm];simp only[A1,n1,n2,n3,n4,n5,n6,Bool.and_true,Bool.true_and,Bool.false_and,Bool.and_false,Bool.false_eq_true,if_true,if_false,reduceIte]⟩
 by_cases c3:X3 a 0<240
 ·have i1:decide ((194:Int)≤X3 a 0)=true:=by rw[decide_eq_true_eq];omega
  have n1:decide (194≤X3 a 0)=true:=by rw[decide_eq_true_eq];omega
  have i2:decide ((X3 a 0:Int)<224)=false:=by rw[decide_eq_false_iff_not];omega
  have n2:decide (X3 a 0<224)=false:=by rw[decide_eq_false_iff_not];omega
  have i3:decide ((224:Int)≤X3 a 0)=true:=by rw[decide_eq_true_eq];omega
  have n3:decide (224≤X3 a 0)=true:=by rw[decide_eq_true_eq];omega
  have i4:decide ((X3 a 0:Int)<240)=true:=by rw[decide_eq_true_eq];omega
  have n4:decide (X3 a 0<240)=true:=by rw[decide_eq_true_eq];omega
  have i5:decide ((240:Int)≤X3 a 0)=false:=by rw[decide_eq_false_iff_not];omega
  have n5:decide (240≤X3 a 0)=false:=by rw[decide_eq_false_iff_not];omega
  have i6:decide ((X3 a 0:Int)<245)=true:=by rw[decide_eq_true_eq];omega
  have n6:decide (X3 a 0<245)=true:=by rw[decide_eq_true_eq];omega
  simp only[i1,i2,i3,i4,i5,i6,↓M1,M1,Mb,reduceIte]
  refine Ut (i:=1) ?_
  cases A1:E8 a.length 1 (X3 a 1) with
  | false=>simp only[↓M1,M1,Mb,reduceIte];exact ⟨Below.refl _ _,by rw[hcm];simp only[A1,n1,n2,n3,n4,n5,n6,Bool.and_true,Bool.true_and,Bool.false_and,Bool.and_false,Bool.false_eq_true,if_true,if_false,reduceIte]⟩
  | true=>
  simp only[↓M1,M1,Mb,reduceIte]
  refine Ut (i:=2) ?_
  cases A2:E8 a.length 2 (X3 a 2) with
  | false=>simp only[↓M1,M1,Mb,reduceIte];exact ⟨Below.refl _ _,by rw[hcm];simp only[A1,A2,n1,n2,n3,n4,n5,n6,Bool.and_true,Bool.true_and,Bool.false_and,Bool.and_false,Bool.false_eq_true,if_true,if_false,reduceIte]⟩
  | true=>
  simp only[↓M1,M1,Mb,reduceIte]
  simp only[A1,A2,n1,n2,n3,n4,n5,n6,Bool.and_true,Bool.true_and,Bool.false_and,Bool.and_false,Bool.false_eq_true,if_true,if_false,reduceIte] at hcm
  have hl1:1<a.length:=by unfold E8 at A1;simp only[Bool.and_eq_true,decide_eq_true_eq] at A1;exact A1.1.1
  have hl2:2<a.length:=by unfold E8 at A2;simp only[Bool.and_eq_true,decide_eq_true_eq] at A2;exact A2.1.1
  have hw:IntKind.i64.wrap (IntKind.i64.wrap (IntKind.i64.wrap ((X3 a 0:Int) % 16*4096)+IntKind.i64.wrap ((X3 a 1:Int) % 64*64))+(X3 a 2:Int) % 64)=((Yw a:Nat):Int):=by
   rw[F0 (n:=(X3 a 0:Int) % 16*4096) (by omega) (by omega),F0 (n:=(X3 a 1:Int) % 64*64) (by omega) (by omega),F0 (n:=_+(X3 a 1:Int) % 64*64) (by omega) (by omega),F0 (by omega) (by omega)]
   unfold Yw;omega
  refine U6 hs ?_
  have hx1: ∀{w':World} {K:Value→World→Prop},K (.int .u8 (X3 a 1)) w'→E0 P T.b (S a) (.int .i64 1) w' K:=fun hK=>Lg (i:=1) hl1 hK
  have hx2: ∀{w':World} {K:Value→World→Prop},K (.int .u8 (X3 a 2)) w'→E0 P T.b (S a) (.int .i64 2) w' K:=fun hK=>Lg (i:=2) hl2 hK
  (repeat (apply U9;(· intros;(repeat (rename_i hx;subst hx));(repeat' (first | (with_reducible exact B2 rfl) | (with_reducible exact Zx (Stp.bel (by (repeat (first | exact Stp.refl (by (first | assumption | exact Stp.sat (by assumption) | exact Hst.sat (by assumption))) | assumption | refine Stp.trans ?_ (by first | assumption | exact Hst.stp (by assumption)))))) rfl) | (with_reducible intro _) | (simp only[↓M2,M2,Mb,reduceIte]) | (with_reducible refine Q8s au ?_) | (with_reducible refine Q2l au ?_) | (with_reducible refine hx1 ?_) | (with_reducible refine hx2 ?_) | (with_reducible show Q2 _ _ _ _ _;first | refine X8 aS aL aR ?_ | refine Y7 aS aL aR ?_ | refine ld aS aL aR ?_) | (with_reducible show indexAddr _ _ _ _ _ _;refine J5 aL au ?_) | (with_reducible show X5 _ _ _ _ _ _ _ _;refine Q8 aL ?_) | (with_reducible show Vn _ _ _ _ _ _;refine V3 aR ?_) | (with_reducible show pick _ _ _ _ _ _;refine Jo ?_) | (apply Li;intro hh;(try simp only[hh,reduceIte,↓M2,M2,Mb,reduceIte]))));done)))
  (intros;(repeat (rename_i hx;subst hx));(try simp only[↓M2,M2,Mb,reduceIte]))
  rename_i w2 hb2
  simp only[hw]
  have hb:=hb2.stp.bel
  by_cases e1:2048≤Yw a
  ·by_cases e2:Yw a<55296
   ·simp only[(show decide ((2048:Int)≤(Yw a:Int))=true by rw[decide_eq_true_eq];omega),(show decide ((Yw a:Int)<55296)=true by rw[decide_eq_true_eq];omega),↓M1,M1,Mb,reduceIte]
    exact hK 3 _ hb (by rw[hcm,if_pos ⟨e1, .inl e2⟩])
   ·by_cases e3:57343<Yw a
    ·simp only[(show decide ((2048:Int)≤(Yw a:Int))=true by rw[decide_eq_true_eq];omega),(show decide ((Yw a:Int)<55296)=false by rw[decide_eq_false_iff_not];omega),(show decide ((57343:Int)<(Yw a:Int))=true by rw[decide_eq_true_eq];omega),↓M1,M1,Mb,reduceIte]
     exact hK 3 _ hb (by rw[hcm,if_pos ⟨e1, .inr e3⟩])
    ·simp only[(show decide ((2048:Int)≤(Yw a:Int))=true by rw[decide_eq_true_eq];omega),(show decide ((Yw a:Int)<55296)=false by rw[decide_eq_false_iff_not];omega),(show decide ((57343:Int)<(Yw a:Int))=false by rw[decide_eq_false_iff_not];omega),↓M1,M1,Mb,reduceIte]
     exact ⟨hb,by rw[hcm,if_neg (by omega)]⟩
  ·simp only[(show decide ((2048:Int)≤(Yw a:Int))=false by rw[decide_eq_false_iff_not];omega),↓M1,M1,Mb,reduceIte]
   exact ⟨hb,by rw[hcm,if_neg (by omega)]⟩
 by_cases c4:X3 a 0<245
 ·have i1:decide ((194:Int)≤X3 a 0)=true:=by rw[decide_eq_true_eq];omega
  have n1:decide (194≤X3 a 0)=true:=by rw[decide_eq_true_eq];omega
  have i2:decide ((X3 a 0:Int)<224)=false:=by rw[decide_eq_false_iff_not];omega
  have n2:decide (X3 a 0<224)=false:=by rw[decide_eq_false_iff_not];omega
  have i3:decide ((224:Int)≤X3 a 0)=true:=by rw[decide_eq_true_eq];omega
  have n3:decide (224≤X3 a 0)=true:=by rw[decide_eq_true_eq];omega
  have i4:decide ((X3 a 0:Int)<240)=false:=by rw[decide_eq_false_iff_not];omega
  have n4:decide (X3 a 0<240)=false:=by rw[decide_eq_false_iff_not];omega
  have i5:decide ((240:Int)≤X3 a 0)=true:=by rw[decide_eq_true_eq];omega
  have n5:decide (240≤X3 a 0)=true:=by rw[decide_eq_true_eq];omega
  have i6:decide ((X3 a 0:Int)<245)=true:=by rw[decide_eq_true_eq];omega
  have n6:decide (X3 a 0<245)=true:=by rw[decide_eq_true_eq];omega
  simp only[i1,i2,i3,i4,i5,i6,↓M1,M1,Mb,reduceIte]
  refine Ut (i:=1) ?_
  cases A1:E8 a.length 1 (X3 a 1) with
  | false=>simp only[↓M1,M1,Mb,reduceIte];exact ⟨Below.refl _ _,by rw[hcm];simp only[A1,n1,n2,n3,n4,n5,n6,Bool.and_true,Bool.true_and,Bool.false_and,Bool.and_false,Bool.false_eq_true,if_true,if_false,reduceIte]⟩
  | true=>
  simp only[↓M1,M1,Mb,reduceIte]
  refine Ut (i:=2) ?_
  cases A2:E8 a.length 2 (X3 a 2) with
  | false=>simp only[↓M1,M1,Mb,reduceIte];exact ⟨Below.refl _ _,by rw[hcm];simp only[A1,A2,n1,n2,n3,n4,n5,n6,Bool.and_true,Bool.true_and,Bool.false_and,Bool.and_false,Bool.false_eq_true,if_true,if_false,reduceIte]⟩
  | true=>
  simp only[↓M1,M1,Mb,reduceIte]
  refine Ut (i:=3) ?_
  cases A3:E8 a.length 3 (X3 a 3) with
  | false=>simp only[↓M1,M1,Mb,reduceIte];exact ⟨Below.refl _ _,by rw[hcm];simp only[A1,A2,A3,n1,n2,n3,n4,n5,n6,Bool.and_true,Bool.true_and,Bool.false_and,Bool.and_false,Bool.false_eq_true,if_true,if_false,reduceIte]⟩
  | true=>
  simp only[↓M1,M1,Mb,reduceIte]
  simp only[A1,A2,A3,n1,n2,n3,n4,n5,n6,Bool.and_true,Bool.true_and,Bool.false_and,Bool.and_false,Bool.false_eq_true,if_true,if_false,reduceIte] at hcm
  have hl1:1<a.length:=by unfold E8 at A1;simp only[Bool.and_eq_true,decide_eq_true_eq] at A1;exact A1.1.1
  have hl2:2<a.length:=by unfold E8 at A2;simp only[Bool.and_eq_true,decide_eq_true_eq] at A2;exact A2.1.1
  have hl3:3<a.length:=by unfold E8 at A3;simp only[Bool.and_eq_true,decide_eq_true_eq] at A3;exact A3.1.1
  have hw:IntKind.i64.wrap (IntKind.i64.wrap (IntKind.i64.wrap (IntKind.i64.wrap ((X3 a 0:Int) % 8*262144)+IntKind.i64.wrap ((X3 a 1:Int) % 64*4096))+IntKind.i64.wrap ((X3 a 2:Int) % 64*64))+(X3 a 3:Int) % 64)=((Eo a:Nat):Int):=by
   rw[F0 (n:=(X3 a 0:Int) % 8*262144) (by omega) (by omega),F0 (n:=(X3 a 1:Int) % 64*4096) (by omega) (by omega),F0 (n:=(X3 a 2:Int) % 64*64) (by omega) (by omega),F0 (n:=_+(X3 a 1:Int) % 64*4096) (by omega) (by omega),F0 (n:=_+(X3 a 2:Int) % 64*64) (by omega) (by omega),F0 (by omega) (by omega)]
   unfold Eo;omega
  refine U6 hs ?_
  have hx1: ∀{w':World} {K:Value→World→Prop},K (.int .u8 (X3 a 1)) w'→E0 P T.b (S a) (.int .i64 1) w' K:=fun hK=>Lg (i:=1) hl1 hK
  have hx2: ∀{w':World} {K:Value→World→Prop},K (.int .u8 (X3 a 2)) w'→E0 P T.b (S a) (.int .i64 2) w' K:=fun hK=>Lg (i:=2) hl2 hK
  have hx3: ∀{w':World} {K:Value→World→Prop},K (.int .u8 (X3 a 3)) w'→E0 P T.b (S a) (.int .i64 3) w' K:=fun hK=>Lg (i:=3) hl3 hK
  (repeat (apply U9;(· intros;(repeat (rename_i hx;subst hx));(repeat' (first | (with_reducible exact B2 rfl) | (with_reducible exact Zx (Stp.bel (by (repeat (first | exact Stp.refl (by (first | assumption | exact Stp.sat (by assumption) | exact Hst.sat (by assumption))) | assumption | refine Stp.trans ?_ (by first | assumption | exact Hst.stp (by assumption)))))) rfl) | (with_reducible intro _) | (simp only[↓M2,M2,Mb,reduceIte]) | (with_reducible refine Q8s au ?_) | (with_reducible refine Q2l au ?_) | (with_reducible refine hx1 ?_) | (with_reducible refine hx2 ?_) | (with_reducible refine hx3 ?_) | (with_reducible show Q2 _ _ _ _ _;first | refine X8 aS aL aR ?_ | refine Y7 aS aL aR ?_ | refine ld aS aL aR ?_) | (with_reducible show indexAddr _ _ _ _ _ _;refine J5 aL au ?_) | (with_reducible show X5 _ _ _ _ _ _ _ _;refine Q8 aL ?_) | (with_reducible show Vn _ _ _ _ _ _;refine V3 aR ?_) | (with_reducible show pick _ _ _ _ _ _;refine Jo ?_) | (apply Li;intro hh;(try simp only[hh,reduceIte,↓M2,M2,Mb,reduceIte]))));done)))
  (intros;(repeat (rename_i hx;subst hx));(try simp only[↓M2,M2,Mb,reduceIte]))
  rename_i w2 hb2
  simp only[hw]
  have hb:=hb2.stp.bel
  by_cases e1:65536≤Eo a
  ·by_cases e2:Eo a≤1114111
   ·simp only[(show decide ((65536:Int)≤(Eo a:Int))=true by rw[decide_eq_true_eq];omega),(show decide ((Eo a:Int)≤1114111)=true by rw[decide_eq_true_eq];omega),↓M1,M1,Mb,reduceIte]
    exact hK 4 _ hb (by rw[hcm,if_pos ⟨e1,e2⟩])
   ·simp only[(show decide ((65536:Int)≤(Eo a:Int))=true by rw[decide_eq_true_eq];omega),(show decide ((Eo a:Int)≤1114111)=false by rw[decide_eq_false_iff_not];omega),↓M1,M1,Mb,reduceIte]
    exact ⟨hb,by rw[hcm,if_neg (by omega)]⟩
  ·simp only[(show decide ((65536:Int)≤(Eo a:Int))=false by rw[decide_eq_false_iff_not];omega),↓M1,M1,Mb,reduceIte]
   exact ⟨hb,by rw[hcm,if_neg (by omega)]⟩
 have i1:decide ((194:Int)≤X3 a 0)=true:=by rw[decide_eq_true_eq];omega
 have n1:decide (194≤X3 a 0)=true:=by rw[decide_eq_true_eq];omega
 have i2:decide ((X3 a 0:Int)<224)=false:=by rw[decide_eq_false_iff_not];omega
 have n2:decide (X3 a 0<224)=false:=by rw[decide_eq_false_iff_not];omega
 have i3:decide ((224:Int)≤X3 a 0)=true:=by rw[decide_eq_true_eq];omega
 have n3:decide (224≤X3 a 0)=true:=by rw[decide_eq_true_eq];omega
 have i4:decide ((X3 a 0:Int)<240)=false:=by rw[decide_eq_false_iff_not];omega
 have n4:decide (X3 a 0<240)=false:=by rw[decide_eq_false_iff_not];omega
 have i5:decide ((240:Int)≤X3 a 0)=true:=by rw[decide_eq_true_eq];omega
 have n5:decide (240≤X3 a 0)=true:=by rw[decide_eq_true_eq];omega
 have i6:decide ((X3 a 0:Int)<245)=false:=by rw[decide_eq_false_iff_not];omega
 have n6:decide (X3 a 0<245)=false:=by rw[decide_eq_false_iff_not];omega
 simp only[i1,i2,i3,i4,i5,i6,↓M1,M1,Mb,reduceIte]
 exact ⟨Below.refl _ _,by rw[hcm];simp only[n1,n2,n3,n4,n5,n6,Bool.and_true,Bool.true_and,Bool.false_and,Bool.and_false,Bool.false_eq_true,if_true,if_false,reduceIte]⟩)
theorem Q7N {s:Q9} (q:s.length≤Z9) (t:X4 w σ) (h: ∀w',Below w.heap.size w w'→K (.bool (Lib.validD s)) w'):Q1 P F.bk [S s] w K:=Bf (by
 unfold Wo
 refine Fj (fun f x w'=> ∃r,x=S r∧r.length≤f∧r.length≤Z9∧Below w.heap.size w w'∧Lib.validD s=Lib.validGoD f r) s.length ⟨s,rfl,Nat.le_refl _,q,Below.refl _ _,rfl⟩ ?_
 rintro l f x d w1 ⟨r,rfl,p,u,b,i⟩ m
 refine Lf ?_
 by_cases a:r=[]
 ·have e:decide (r=[])=true:=by simpa using a
  simp only[e,↓M1,M1,Mb,reduceIte]
  subst a
  have:Lib.validGoD f []=true:=by cases f<;>simp[Lib.validGoD]
  rw[i,this] at h
  exact h _ b
 ·have e:decide (r=[])=false:=by simpa using a
  simp only[e,↓M1,M1,Mb,reduceIte]
  have o:0<r.length:=List.length_pos_iff.2 a
  obtain ⟨f,rfl⟩: ∃g,f=g+1:=⟨f-1,by omega⟩
  rw[Q72 a] at i
  refine Q9s a (t.below b) fun z n=>?_
  have c:=b.trans (n.mono b.size)
  refine Nh ?_
  by_cases k:Yc r=0
  ·have j:decide ((Yc r:Int)=0)=true:=by rw[decide_eq_true_eq];omega
   simp only[j,↓M1,M1,Mb,reduceIte]
   rw[i,if_pos k] at h
   exact h _ c
  ·have j:decide ((Yc r:Int)=0)=false:=by rw[decide_eq_false_iff_not];omega
   simp only[j,↓M1,M1,Mb,reduceIte]
   obtain ⟨y,v⟩:=Q8D a k
   rw[Wl X7 (by omega) (by omega)]
   rw[if_neg k] at i
   refine m f _ _ (by omega) ⟨r.drop (Yc r),by simp,by rw[List.length_drop];omega,by rw[List.length_drop];omega,c,i⟩)
end Go.Proofs.YtfppjenblllfaaaGreatDoor

namespace Go.Proofs.YtfppjenblllfaaaGreatDoor
open Go.Emb Go.RowKit Go.Kd Go.Hm
variable {w : World} {K : Value → World → Prop} {σ : Q5}
theorem Q4e {σ:Q5}: ∀(xs:List Q9),(∀x∈xs,x.length≤Z9)→Pz Y1 σ (xs.map S) xs
 | [],_=>trivial
 | x::r,h=>⟨⟨rfl,h x (by simp)⟩,Q4e r fun y a=>h y (by simp[a])⟩
def Zv:List Q9:=Yo.map (·.name)
set_option maxRecDepth 100000 in
theorem X0s (d:X4 w σ) (h: ∀v w' a,Stp w σ w' a→Sl 1 Y1 a v Zv→K v w'):Q1 P F.bv [] w K:=Tt (by
 unfold Ny
 exact E3 (R:=Y1) (sz:=1) d (Zv.map S) Zv rfl rfl (by intro v b;obtain ⟨x,_,rfl⟩:=List.mem_map.1 b;rfl) rfl (Q4e _ (by decide)) fun v w' a c b=>h v w' a c b)
theorem Q7d {a:Q9} (y:X4 w σ) (h: ∀w' z,Stp w σ w' z→K (I (W5 (K8 a))) w'):Q1 P F.aZ [S a] w K:=Cn (by
 unfold Vj
 refine X0s y fun v w1 σ1 l p=>?_
 have r:K8 a=Zv.findIdx? fun x=>decide (x=a):=by
  unfold K8 Zv
  rw[List.findIdx?_map];rfl
 have q: ∀o,K8 a=o→K (I (W5 o)) w1:=fun o e=>by rw[←e];exact h _ _ l
 rw[r] at q
 have n:Zv.length=42:=rfl
 generalize Zv=c at p q n
 refine J0 c.length (fun k w'=>w'=w1∧ ∀j (i:j<c.length),j<k→ ¬c[j]=a) ⟨rfl,fun j _ h=>by omega⟩ fun k E d D u=>?_
 obtain ⟨C,g⟩:=u
 subst C
 refine Q8 p ?_
 refine Z0 ?_
 refine Q6 (fun s=>?_) (fun s=>?_)
 ·have b:k<c.length:=by simpa using s
  refine J5 p b ?_
  obtain ⟨B,_⟩:=p.elS b
  refine X8 l.sat B rfl ?_
  refine Nd ?_
  refine Q6 (fun f=>?_) (fun f=>?_)
  ·have f:c[k]=a:=by simpa using f
   exact q (some k) (by
    rw[List.findIdx?_eq_some_iff_getElem]
    exact ⟨b,by simpa using f,fun j i=>by simpa using g j (by omega) i⟩)
  ·have f: ¬c[k]=a:=by simpa using f
   (try simp only[↓M1,M1,Mb,reduceIte])
   refine Y2 p.max b ⟨rfl,fun j i t=>?_⟩
   by_cases e:j=k
   ·subst e;exact f
   ·exact g j i (by omega)
 ·have b: ¬k<c.length:=by simpa using s
  exact q none (by
   rw[List.findIdx?_eq_none_iff]
   intro m A
   obtain ⟨j,i,rfl⟩:=List.getElem_of_mem A
   simpa using g j i (by omega)))
theorem X0Q {o:Option Nat}:decide (W5 o<0)= !o.isSome:=by
 cases o with
 | none=>rfl
 | some i=>
  have: ¬(i:Int)<0:=by omega
  exact decide_eq_false this
def La (a:Q9):Bool:=decide (a=[105,110,116])||decide (a=[108,111,97,100])||decide (a=[115,116,111,114,101])||decide (a=[106,117,109,112])||decide (a=[98,114,97,110,99,104])
def Uh (a:Q9):Bool:=decide (a=[119,111,114,100])||decide (a=[110,101,119])||decide (a=[103,101,116])||decide (a=[112,117,116])||decide (a=[99,97,108,108])||decide (a=[97,114,114,97,121])||decide (a=[105,115])||decide (a=[99,97,115,116])
theorem Q8K (a:Q9):takes a=(La a,Uh a,(K8 a).isSome):=by
 unfold takes
 cases g:K8 a with
 | none=>
  have c:=List.findIdx?_eq_none_iff.1 g
  have f: ∀x∈Zv,¬x=a:=by
   intro x d
   obtain ⟨o,r,rfl⟩:=List.mem_map.1 d
   have:=c o r
   simpa using this
  have b: ∀x∈Zv,decide (a=x)=false:=fun x d=>by rw[decide_eq_false_iff_not];exact fun e=>f x d e.symm
  have j:La a=false:=by
   unfold La
   rw[b _ (by decide),b _ (by decide),b _ (by decide),b _ (by decide),b _ (by decide)];rfl
  have m:Uh a=false:=by
   unfold Uh
   rw[b _ (by decide),b _ (by decide),b _ (by decide),b _ (by decide),b _ (by decide),b _ (by decide),b _ (by decide),b _ (by decide)];rfl
  simp[j,m]
 | some i=>
  obtain ⟨h,p,_⟩:=List.findIdx?_eq_some_iff_getElem.1 g
  have n:Yo[i].name=a:=by simpa using p
  have k:Yo.getD i ⟨[],false,false⟩=Yo[i]:=by rw[List.getD_eq_getElem?_getD,List.getElem?_eq_getElem h];rfl
  have c: ∀o∈Yo,o.number=La o.name∧o.text=Uh o.name:=by decide
  obtain ⟨q,l⟩:=c _ (List.getElem_mem h)
  simp only[k,Option.isSome_some]
  rw[q,l,n]
def Ns (a:Q9):Int:=if La a then 1 else if Uh a then 2 else if (K8 a).isSome then 0 else-1
theorem Q8g {a:Q9} (e:X4 w σ) (h: ∀w' l,Stp w σ w' l→K (I (Ns a)) w'):Q1 P F.b7 [S a] w K:=Fy (by
 unfold Vy
 refine Zt (fun x w'=>w'=w∧x= .bool (La a)) ?_ (fun x d w' g=>?_)
 ·unfold La
  simp only[↓M1,M1,Mb,reduceIte]
  repeat' (refine Q6 (fun hh=>?_) (fun hh=>?_))
  all_goals (refine ⟨by trivial,?_⟩;congr 1;simp_all)
 ·obtain ⟨rfl,rfl⟩:=g
  cases f:La a with
  | true=>
   (try simp only[↓M1,M1,Mb,reduceIte])
   have:=h _ _ (Stp.refl e)
   unfold Ns at this
   simpa [f] using this
  | false=>
   (try simp only[↓M1,M1,Mb,reduceIte])
   refine Zt (fun x b=>b=w'∧x= .bool (Uh a)) ?_ (fun x d b g=>?_)
   ·unfold Uh
    simp only[↓M1,M1,Mb,reduceIte]
    repeat' (refine Q6 (fun hh=>?_) (fun hh=>?_))
    all_goals (refine ⟨by trivial,?_⟩;congr 1;simp_all)
   ·obtain ⟨rfl,rfl⟩:=g
    cases j:Uh a with
    | true=>
     (try simp only[↓M1,M1,Mb,reduceIte])
     have:=h _ _ (Stp.refl e)
     unfold Ns at this
     simpa [f,j] using this
    | false=>
     (try simp only[↓M1,M1,Mb,reduceIte])
     refine Q7d e fun w1 σ1 c=>?_
     have:=h _ _ c
     unfold Ns at this
     simp only[f,j,Bool.false_eq_true,if_false] at this
     simp only[X0Q,↓M1,M1,Mb,reduceIte]
     cases k:K8 a with
     | none=>rw[k] at this;simp only[Option.isSome_none,↓M1,M1,Mb,reduceIte];simpa using this
     | some i=>rw[k] at this;simp only[Option.isSome_some,↓M1,M1,Mb,reduceIte];simpa using this)
theorem Q3X (a:Q9):decide (Ns a<0)= !(takes a).2.2∧decide (Ns a=1)=(takes a).1∧decide (Ns a=2)=(takes a).2.1:=by
 rw[Q8K]
 have d:La a=true→Uh a=false∧(K8 a).isSome=true:=by
  intro h
  unfold La at h
  simp only[Bool.or_eq_true,decide_eq_true_eq] at h
  rcases h with (((h | h) | h) | h) | h<;>(subst h;decide)
 have g:Uh a=true→(K8 a).isSome=true:=by
  intro h
  unfold Uh at h
  simp only[Bool.or_eq_true,decide_eq_true_eq] at h
  rcases h with ((((((h | h) | h) | h) | h) | h) | h) | h<;>(subst h;decide)
 unfold Ns
 cases c:La a with
 | true=>obtain ⟨b,f⟩:=d c;rw[b,f];decide
 | false=>
  cases e:Uh a with
  | true=>rw[g e];decide
  | false=>cases (K8 a).isSome<;>decide
theorem X2m (s:Q9) (c:UInt8):decide (0≤Lib.indexByte s c)=s.any fun b=>decide (b=c):=by
 induction s with
 | nil=>rfl
 | cons b r f=>
  simp only[Lib.indexByte,List.any_cons,←f]
  by_cases e:b=c
  ·simp[e]
  ·have a:(b==c)=false:=by simpa using e
   have g:=Lib.indexByte_ge r c
   simp only[a,e,decide_false,Bool.false_or,Bool.false_eq_true,if_false]
   by_cases d:Lib.indexByte r c= -1
   ·simp[d]
   ·have:(Lib.indexByte r c== -1)=false:=by simpa using d
    simp only[this,Bool.false_eq_true,if_false]
    rw[Bool.eq_iff_iff,decide_eq_true_eq,decide_eq_true_eq];omega
def JB (w:World) (σ:Q5) (b:Bool) (x:Value) (w':World):Prop:= ∃a,Stp w σ w' a∧x= .bool b
theorem JB.mk {w w':World} {σ a:Q5} {b:Bool} (h:Stp w σ w' a):JB w σ b (.bool b) w':=⟨a,h,rfl⟩
theorem JB.of {w w':World} {σ a:Q5} {b c:Bool} (h:Stp w σ w' a) (e:c=b):JB w σ b (.bool c) w':=⟨a,h,by rw[e]⟩
theorem X1O {s:Q9} {n:Nat} (h:n<s.length):decide ((X3 s n:Int)=10)=decide (s[n]=10):=by
 unfold X3
 rw[List.getD_eq_getElem?_getD,List.getElem?_eq_getElem h,Bool.eq_iff_iff,decide_eq_true_eq,decide_eq_true_eq]
 simp only[Option.getD_some]
 rw[←UInt8.toNat_inj]
 constructor
 ·intro e;have:s[n].toNat=10:=by omega
  rw[this];rfl
 ·intro e;rw[e];rfl
theorem Zr {α:Type} {xs:List α} {p:α→Bool} {n:Nat} (h:n<xs.length):(xs.take (n+1)).all p=((xs.take n).all p&&p xs[n]):=by
 rw[List.take_add_one,List.getElem?_eq_getElem h,List.all_append];simp
set_option maxHeartbeats 2000000 in
theorem Q6S {i:Ins} {cs:List Value} (hs:X4 w σ) (hi:I8 σ i cs) (h: ∀w' m,Stp w σ w' m→K (I (N3 i)) w'):Q1 P F.bj [.agg cs.toArray] w K:=Bn (by
 obtain ⟨rfl,h1,h2,h3⟩:=hi
 unfold Wy
 refine Y8 hs fun q w1 σ1 Q hq=>?_
 have X:=Q.sat
 (try simp only[↓M1,M1,Mb,reduceIte])
 refine ld X hq rfl ?_
 refine Q8g X fun w2 σ2 R=>?_
 obtain ⟨t1,O,H⟩:=Q3X i.op
 have f:=Q.trans R
 have g:=hq.up R
 have e:=f.sat
 have p:i.s.length≤140737488355328:=by simp only[Z9] at h3;omega
 simp only[t1,↓M1,M1,Mb,reduceIte]
 unfold N3 at h
 cases e1:(takes i.op).2.2 with
 | false=>
  simp only[e1,Bool.not_false,if_true] at h
  (try simp only[↓M1,M1,Mb,reduceIte])
  exact h _ _ f
 | true=>
 simp only[e1,Bool.not_true,Bool.false_eq_true,if_false] at h
 simp only[O,H,↓M1,M1,Mb,reduceIte]
 have k: ∀(b:Bool) (w':World) (m:Q5),Stp w σ w' m→b=(!((!(takes i.op).1&&decide (i.n≠0))||(!(takes i.op).2.1&&decide (i.s≠[]))||((takes i.op).2.1&& !txt i.op i.s)))→
  X1 (.bool (!b)) (K (.int .i64 41) w') (K (.int .i64 0) w'):=by
  intro b w' m u A
  subst A
  rw[Bool.not_not]
  cases A:((!(takes i.op).1&&decide (i.n≠0))||(!(takes i.op).2.1&&decide (i.s≠[]))||((takes i.op).2.1&& !txt i.op i.s)) with
  | true=>simp only[A,if_true] at h;(try simp only[↓M1,M1,Mb,reduceIte]);exact h _ _ u
  | false=>simp only[A,Bool.false_eq_true,if_false] at h;(try simp only[↓M1,M1,Mb,reduceIte]);exact h _ _ u
 clear h
 have ag:(takes i.op).2.1=true→(takes i.op).1=false:=by
  intro V
  rw[←O,decide_eq_false_iff_not]
  rw[←H,decide_eq_true_eq] at V
  omega
 cases D:(takes i.op).2.1 with
 | false=>
  rw[D] at k H
  cases y:(takes i.op).1 with
  | true=>
   rw[y] at k O
   (try simp only[↓M1,M1,Mb,reduceIte])
   simp only[H,↓M1,M1,Mb,reduceIte]
   refine ld e g rfl ?_
   (try simp only[↓M1,M1,Mb,reduceIte])
   refine V9 ?_
   intro d
   simp only[↓M1,M1,Mb,reduceIte]
   exact k _ _ _ f (by simp)
  | false=>
   rw[y] at k O
   (try simp only[↓M1,M1,Mb,reduceIte])
   refine ld e g rfl ?_
   (try simp only[↓M1,M1,Mb,reduceIte])
   by_cases M:i.n=0
   ·have d0:decide (i.n=0)=true:=by simpa using M
    simp only[d0,H,↓M1,M1,Mb,reduceIte]
    refine ld e g rfl ?_
    (try simp only[↓M1,M1,Mb,reduceIte])
    refine V9 ?_
    intro d
    simp only[↓M1,M1,Mb,reduceIte]
    exact k _ _ _ f (by simp[M])
   ·have d0:decide (i.n=0)=false:=by simpa using M
    simp only[d0,↓M1,M1,Mb,reduceIte]
    refine V9 ?_
    intro d
    have E:=k false _ _ f (by simp[M])
    (try simp only[↓M1,M1,Mb,reduceIte] at E⊢)
    exact E
 | true=>
  have y:=ag D
  rw[D,y] at k
  rw[D] at H
  rw[y] at O⊢
  (try simp only[↓M1,M1,Mb,reduceIte])
  refine ld e g rfl ?_
  (try simp only[↓M1,M1,Mb,reduceIte])
  have o: ∀(b c:Bool) (w':World) (m:Q5),decide (i.n=0)=b→Stp w σ w' m→c=(b&&txt i.op i.s)→X1 (.bool (!c)) (K (.int .i64 41) w') (K (.int .i64 0) w'):=by
   intro b c w' m A u t
   refine k c w' m u ?_
   rw[t,←A]
   by_cases M:i.n=0<;>simp[M]
  clear k
  cases A:decide (i.n=0) with
  | false=>
   have v:=fun w' m u=>o false false w' m A u rfl
   clear o
   simp only[H,↓M1,M1,Mb,reduceIte]
   refine Zt (JB w σ false) ?_ (fun x d w' V=>?_)
   ·refine ld e g rfl ?_
    (try simp only[↓M1,M1,Mb,reduceIte])
    refine Q6 (fun hh=>?_) (fun hh=>?_)
    ·refine D2 (a:=Value.bool false) i.s.length (fun n x w'=>w'=w2∧x=Value.bool false) ⟨rfl,rfl⟩ fun n x w3 d hn l=>?_
     obtain ⟨C,rfl⟩:=l
     subst C
     (try simp only[↓M1,M1,Mb,reduceIte])
     refine ld e g rfl ?_
     (try simp only[↓M1,M1,Mb,reduceIte])
     refine Q6 (fun t=>?_) (fun t=>?_)
     ·have j:n<i.s.length:=by simpa using t
      (try simp only[↓M1,M1,Mb,reduceIte])
      exact Z6 (by omega) j ⟨rfl,rfl⟩
     ·exact .mk f
    refine Q6 (fun hh=>?_) (fun hh=>?_)
    ·exact .mk f
    refine Zt (fun x w'=>w'=w2∧ ∃b:Bool,x=Value.bool b) ?_ (fun z d w' hz=>?_)
    ·refine Q6 (fun hh=>?_) (fun hh=>?_)
     ·exact ⟨rfl,_,rfl⟩
     ·exact ⟨rfl,_,rfl⟩
    obtain ⟨C,b,rfl⟩:=hz
    subst C
    refine Q6 (fun hh=>?_) (fun hh=>?_)
    ·exact .mk f
    refine Q6 (fun hh=>?_) (fun hh=>?_)
    ·exact .mk f
    refine ld e g rfl ?_
    refine Q2C i.s p fun w4 r=>?_
    by_cases N:(T1 i.s).2.2=true
    ·simp only[N,if_true,↓M1,M1,Mb,reduceIte]
     exact .mk (f.trans (Stp.of_below e r))
    ·simp only[N,if_false,↓M1,M1,Mb,reduceIte]
     exact .mk (f.trans (Stp.of_below e r))
   ·obtain ⟨m,u,rfl⟩:=V
    have E:=v w' m u
    (try simp only[↓M1,M1,Mb,reduceIte] at E⊢)
    exact E
  | true=>
   have v:=fun c w' m u t=>o true c w' m A u t
   clear o
   simp only[H,↓M1,M1,Mb,reduceIte]
   refine Zt (JB w σ (txt i.op i.s)) ?_ (fun x d w' V=>?_)
   ·refine ld e g rfl ?_
    (try simp only[↓M1,M1,Mb,reduceIte])
    unfold txt
    by_cases o1:i.op=[119,111,114,100]
    ·simp only[if_pos o1,decide_eq_true o1,↓M1,M1,Mb,reduceIte]
     refine ld e g rfl ?_
     (try simp only[↓M1,M1,Mb,reduceIte])
     have ad:decide ((i.s.length:Int)≤64)=decide (i.s.length≤64):=by rw[Bool.eq_iff_iff,decide_eq_true_eq,decide_eq_true_eq];omega
     rw[ad,X2m,List.not_any_eq_all_not]
     cases ap:decide (i.s.length≤64) with
     | false=>
      (try simp only[↓M1,M1,Mb,reduceIte])
      refine D2 (a:=Value.bool false) i.s.length (fun n x w'=>w'=w2∧x=Value.bool false) ⟨rfl,rfl⟩ fun n x w3 d hn l=>?_
      obtain ⟨C,rfl⟩:=l
      subst C
      (try simp only[↓M1,M1,Mb,reduceIte])
      refine ld e g rfl ?_
      (try simp only[↓M1,M1,Mb,reduceIte])
      refine Q6 (fun t=>?_) (fun t=>?_)
      ·have j:n<i.s.length:=by simpa using t
       (try simp only[↓M1,M1,Mb,reduceIte])
       exact Z6 (by omega) j ⟨rfl,rfl⟩
      ·exact .of f (by simp)
     | true=>
      (try simp only[↓M1,M1,Mb,reduceIte])
      refine ld e g rfl ?_
      refine Q7N h3 e fun w4 r=>?_
      have L:=Stp.of_below e r
      have U:=g.up L
      have W:=L.sat
      have B:=f.trans L
      (try simp only[↓M1,M1,Mb,reduceIte])
      refine D2 (a:=Value.bool (Lib.validD i.s)) i.s.length (fun n x w'=>w'=w4∧x=Value.bool (Lib.validD i.s&&(i.s.take n).all fun c=> !decide (c=10))) ⟨rfl,by simp⟩ fun n x w3 d hn l=>?_
      obtain ⟨C,rfl⟩:=l
      subst C
      (try simp only[↓M1,M1,Mb,reduceIte])
      refine ld W U rfl ?_
      (try simp only[↓M1,M1,Mb,reduceIte])
      refine Q6 (fun t=>?_) (fun t=>?_)
      ·have j:n<i.s.length:=by simpa using t
       have J:(Lib.validD i.s&&(i.s.take (n+1)).all fun c=> !decide (c=10))=((Lib.validD i.s&&(i.s.take n).all fun c=> !decide (c=10))&& !decide (i.s[n]=10)):=by rw[Zr j,Bool.and_assoc]
       generalize ai:(Lib.validD i.s&&(i.s.take n).all fun c=> !decide (c=10))=ae at J⊢
       cases ae with
       | false=>(try simp only[↓M1,M1,Mb,reduceIte]);exact Z6 (by omega) j ⟨rfl,by rw[J];rfl⟩
       | true=>
        (try simp only[↓M1,M1,Mb,reduceIte])
        refine ld W U rfl ?_
        refine Lg j ?_
        simp only[X1O j,↓M1,M1,Mb,reduceIte]
        exact Z6 (by omega) j ⟨rfl,by rw[J];rfl⟩
      ·have j: ¬n<i.s.length:=by simpa using t
       rw[List.take_of_length_le (by omega)]
       exact .of B (by simp)
    ·simp only[if_neg o1,decide_eq_false o1,↓M1,M1,Mb,reduceIte]
     by_cases o2:i.op=[110,101,119]
     ·simp only[if_pos o2,decide_eq_true o2,↓M1,M1,Mb,reduceIte]
      refine ld e g rfl ?_
      refine Qs i.s p ?_
      (try simp only[↓M1,M1,Mb,reduceIte])
      exact .mk f
     ·simp only[if_neg o2,decide_eq_false o2,↓M1,M1,Mb,reduceIte]
      refine Zt (fun x w'=>w'=w2∧x=Value.bool (decide (i.op=[105,115]∨i.op=[99,97,115,116]))) ?_ (fun z d w' hz=>?_)
      ·refine Q6 (fun hh=>?_) (fun hh=>?_)
       ·exact ⟨rfl,by simp_all⟩
       ·exact ⟨rfl,by simp_all⟩
      obtain ⟨C,rfl⟩:=hz
      subst C
      by_cases Z:i.op=[105,115]∨i.op=[99,97,115,116]
      ·simp only[if_pos Z,decide_eq_true Z,↓M1,M1,Mb,reduceIte]
       refine ld e g rfl ?_
       refine Uw i.s p ?_
       cases hr:right i.s with
       | false=>(try simp only[↓M1,M1,Mb,reduceIte]);exact .mk f
       | true=>
        (try simp only[↓M1,M1,Mb,reduceIte])
        refine ld e g rfl ?_
        refine Oc i.s ?_
        (try simp only[↓M1,M1,Mb,reduceIte])
        exact .mk f
      ·simp only[if_neg Z,decide_eq_false Z,↓M1,M1,Mb,reduceIte]
       by_cases Y:i.op=[97,114,114,97,121]
       ·simp only[if_pos Y,decide_eq_true Y,↓M1,M1,Mb,reduceIte]
        refine ld e g rfl ?_
        refine Uw i.s p ?_
        cases hr:right i.s with
        | false=>(try simp only[↓M1,M1,Mb,reduceIte]);exact .mk f
        | true=>
         (try simp only[↓M1,M1,Mb,reduceIte])
         refine ld e g rfl ?_
         refine Q13 i.s p ?_
         (try simp only[↓M1,M1,Mb,reduceIte])
         have e3:decide (((base i.s).2:Int)<3)=decide (Q19 i.s<3):=by
          unfold Q19;rw[if_pos hr,Bool.eq_iff_iff,decide_eq_true_eq,decide_eq_true_eq];omega
         rw[e3]
         exact .mk f
       ·simp only[if_neg Y,decide_eq_false Y,↓M1,M1,Mb,reduceIte]
        refine ld e g rfl ?_
        refine Q2C i.s p fun w4 r=>?_
        have B:=f.trans (Stp.of_below e r)
        by_cases N:(T1 i.s).2.2=true
        ·simp only[N,if_true,↓M1,M1,Mb,reduceIte]
         exact .mk B
        ·have:Xs i.s=false:=by unfold Xs;rw[eq_false_of_ne_true N];rfl
         simp only[N,if_false,↓M1,M1,Mb,reduceIte]
         exact .of B this.symm
   ·obtain ⟨m,u,rfl⟩:=V
    have E:=v _ w' m u rfl
    simp only[Bool.true_and] at E
    (try simp only[↓M1,M1,Mb,reduceIte])
    exact E)
end Go.Proofs.YtfppjenblllfaaaGreatDoor

namespace Go.Emb
theorem X0r {w:World} {K:Value→World→Prop} {v:Value} (h:K v w):Q0 (.bool true) true w (fun w J=>J v w) K:=by rw[G9];exact h
theorem X0w {w:World} {K:Value→World→Prop} {v:Value} (h:K v w):Q0 (.bool false) false w (fun w J=>J v w) K:=by rw[Vc];exact h
theorem X1N {w:World} {K:Value→World→Prop} {b:Bool} {run:World→(Value→World→Prop)→Prop} (h:K undef w):Q0 undef b w run K:=by rw[Tx];exact h
class Hd (p : Prop) (q : outParam Prop) : Prop where
  h : q → p
section
variable {P : Program} {w : World} {K : Value → World → Prop} {run : World → (Value → World → Prop) → Prop} {v u : Value} {b : Bool}
instance:Hd (Z8 P .not (.bool b) w K) (K (.bool (!b)) w):=⟨Ni⟩
instance:Hd (Q0 undef b w run K) (K undef w):=⟨X1N⟩
instance {t:TypeId} {k off:Nat} {ft:TypeId} {sz by_:Nat} {z:Value} {a:Addr} [tf:TF P t k off ft] [tz:TZ P ft sz by_ z] [nz:NZ sz]:Hd (fieldAddr P t (.pointer (some a)) k w K) (K (.pointer (some (a.add off))) w):=⟨D6⟩
instance:Hd (pick P (.bool false) v u w K) (K u w):=⟨X0R⟩
instance:Hd (pick P (.bool true) v u w K) (K v w):=⟨X0W⟩
instance:Hd (Q0 (.bool false) false w run K) (run w K):=⟨X1F⟩
instance:Hd (Q0 (.bool true) true w run K) (run w K):=⟨X1g⟩
instance:Hd (Q0 (.bool false) true w run K) (K undef w):=⟨X0x⟩
instance:Hd (Q0 (.bool true) false w run K) (K undef w):=⟨X0S⟩
instance:Hd (Q0 (.bool false) false w (fun w J=>J v w) K) (K v w):=⟨X0w⟩
instance:Hd (Q0 (.bool true) true w (fun w J=>J v w) K) (K v w):=⟨X0r⟩
end
end Go.Emb
namespace Go.Proofs.YtfppjenblllfaaaGreatDoor
open Go.Emb Go.RowKit Go.Kd Go.Hm
variable {w : World} {K : Value → World → Prop} {σ : Q5}
theorem X0n {xs:List Ins} {v:Value} (s:X4 w σ) (o:Sl 3 I8 σ v xs) (h: ∀e w' l,Stp w σ w' l→decide (e=0)=xs.all (fun i=>decide (N3 i=0))→K (I e) w'):Q1 P F.aS [v] w K:=Pl (by
 unfold Nq
 refine J0 xs.length (fun n w'=> ∃l,Stp w σ w' l∧(xs.take n).all (fun i=>decide (N3 i=0))=true) ⟨σ,Stp.refl s,rfl⟩ fun n w1 d y k=>?_
 obtain ⟨σ1,a,f⟩:=k
 have g:=o.up a
 refine Q8 g ?_
 refine Z0 ?_
 refine Q6 (fun m=>?_) (fun m=>?_)
 ·have c:n<xs.length:=by simpa using m
  refine J5 g c ?_
  obtain ⟨t,r⟩:=g.elI c
  refine Y7 a.sat t rfl ?_
  refine Q6S a.sat r fun z q j=>?_
  refine I4 ?_
  by_cases e:N3 xs[n]=0
  ·have:decide (N3 xs[n]=0)=true:=by simpa using e
   simp only[this,↓M1,M1,Mb,reduceIte]
   exact Y2 o.max c ⟨q,a.trans j,by rw[Zr c,f];simpa using e⟩
  ·have:decide (N3 xs[n]=0)=false:=by simpa using e
   simp only[this,↓M1,M1,Mb,reduceIte]
   refine h _ _ _ (a.trans j) ?_
   rw[this]
   symm
   rw[←Bool.not_eq_true,List.all_eq_true]
   intro p
   have:=p _ (List.getElem_mem c)
   simp at this
   exact e this
 ·have c: ¬n<xs.length:=by simpa using m
  rw[List.take_of_length_le (by omega)] at f
  exact h 0 _ _ a (by rw[f];rfl))
theorem Q91 {c:Cla} {cs:List Value} (hs:X4 w σ) (hc:U4 σ c cs) (h: ∀w' σ',Stp w σ w' σ'→K (.bool (Xx c)) w'):Q1 P F.bo [.agg cs.toArray] w K:=Ix (by
 unfold Mi
 obtain ⟨lv,fv,mv,rfl,f1,f2,f3,f4,f5⟩:=hc
 refine Y8 hs fun q w1 σ1 hk1 hq=>?_
 have f1:=f1.up hk1
 have f2:=f2.up hk1
 have f3:=f3.up hk1
 refine J0 c.methods.length (fun n w'=> ∃σ',Stp w1 σ1 w' σ'∧(c.methods.take n).any Uf=false) ⟨σ1,Stp.refl hk1.sat,rfl⟩ fun n w2 d hn hinv=>?_
 obtain ⟨σ2,hk2,hno⟩:=hinv
 have hq2:=hq.up hk2
 have f32:=f3.up hk2
 have f12:=f1.up hk2
 have f22:=f2.up hk2
 have hs2:=hk2.sat
 (try simp only[↓M1,M1,Mb,reduceIte])
 refine ld hs2 hq2 rfl ?_
 refine Q8 f32 ?_
 refine Z0 ?_
 refine Q6 (fun hc=>?_) (fun hc=>?_)
 ·have hn':n<c.methods.length:=by simpa using hc
  (try simp only[↓M1,M1,Mb,reduceIte])
  refine ld hs2 hq2 rfl ?_
  refine J5 f32 hn' ?_
  obtain ⟨pv,cv,hv,p1,r1⟩:=f32.elM hn'
  refine Y7 hs2 p1 rfl ?_
  refine Y5 hs2 (by rfl) rfl (Rep.one r1) fun q3 w3 σ3 hk3 hq3=>?_
  obtain ⟨g1,g2,g3,_,_,_⟩:=(RMe_lift r1 ⟨hk3.le⟩).parts
  have hS3:=hk1.trans (hk2.trans hk3)
  have hyes:Uf c.methods[n]=true→K (.bool true) w3:=fun e=>by
   have:=h _ _ hS3
   have hm:Xx c=true:=by unfold Xx;rw[C3 hn' e];rfl
   rwa [hm] at this
  have hk23:=hk2.trans hk3
  clear h hk2 hk3 hS3
  have hmax:=f3.max
  (repeat' (first | (with_reducible intro _) | (with_reducible refine V9 ?_) | (simp only[↓M2,M2,Mb,reduceIte]) | (with_reducible first | refine ld aS aL aR ?_ | refine X8 aS aL aR ?_ | refine Y7 aS aL aR ?_ | refine Q8 aL ?_ | refine V3 aR ?_ | refine Y8 aS ?_ | refine L3 aS aL ?_ | refine J6 aS aR ?_ | refine Y5 aS aR aR (Rep.one (by assumption)) ?_ | refine U0 aS aR aR aR ?_ | (refine Z3 (fun hh=>?_) (fun hh=>?_)<;>(try simp only[hh,Bool.not_true,Bool.not_false,↓M2,M2,Mb,reduceIte])) | (refine Q6 (fun hh=>?_) (fun hh=>?_)<;>(try simp only[hh,Bool.not_true,Bool.not_false,↓M2,M2,Mb,reduceIte])))))
  all_goals clear hq hq2 f1 f2 f3 f32 f12 f22 hs hs2 p1 r1 g1 g2 g3 hk1 f4 f5 hq3
  all_goals first
   | (refine hyes ?_;clear hyes hk23;unfold Uf;simp only[Bool.not_false,Bool.not_true,Bool.or_eq_true,decide_eq_true_eq,decide_eq_false_iff_not] at*;omega)
   | (
    have hnx:(c.methods.take (n+1)).any Uf=false:=by
     rw[M3 hn',hno,Bool.false_or];clear hyes hk23;unfold Uf;simp only[Bool.or_eq_false_iff,decide_eq_false_iff_not] at*;omega
    exact Y2 hmax hn' ⟨_,hk23,hnx⟩)
 ·have hn': ¬n<c.methods.length:=by simpa using hc
  rw[D0 hn'] at hno
  have hS2:=hk1.trans hk2
  have hm:Xx c=(decide (32<c.like.length)||decide (32<c.fields.length)||decide (32<c.methods.length)):=by unfold Xx;rw[hno];simp
  rw[hm] at h
  have hK:=h _ _ hS2
  clear h hk2
  (try simp only[↓M1,M1,Mb,reduceIte])
  refine ld hs2 hq2 rfl ?_
  refine Q8 f12 ?_
  have d32: ∀k:Nat,decide ((32:Int)<(k:Int))=decide (32<k):=fun k=>by rw[Bool.eq_iff_iff,decide_eq_true_eq,decide_eq_true_eq];omega
  simp only[d32,↓M1,M1,Mb,reduceIte]
  cases e1:decide (32<c.like.length) with
  | true=>rw[e1] at hK;(try simp only[↓M1,M1,Mb,reduceIte]);simpa using hK
  | false=>
   rw[e1] at hK
   (try simp only[↓M1,M1,Mb,reduceIte])
   refine ld hs2 hq2 rfl ?_
   refine Q8 f22 ?_
   simp only[d32,↓M1,M1,Mb,reduceIte]
   cases e2:decide (32<c.fields.length) with
   | true=>rw[e2] at hK;(try simp only[↓M1,M1,Mb,reduceIte]);simpa using hK
   | false=>
    rw[e2] at hK
    (try simp only[↓M1,M1,Mb,reduceIte])
    refine ld hs2 hq2 rfl ?_
    refine Q8 f32 ?_
    simp only[d32,↓M1,M1,Mb,reduceIte]
    simpa using hK)
theorem Q5Y {α:Type} {xs:List α} {p:α→Bool} {n:Nat} (h: ¬n<xs.length):(xs.take n).all p=xs.all p:=by rw[List.take_of_length_le (by omega)]
set_option maxHeartbeats 4000000 in
theorem Tb {m:Hm.Met} {pv cv hv:Value} {w1:World} {σ1:Q5} {q:Addr} {p:Bool} (hs:X4 w σ) (af:Stp w σ w1 σ1) (hq:Z2 σ1 q [S m.name,pv,S m.result, .bool m.abs,I m.locals,cv,hv]) (g1:Sl 1 Y1 σ1 pv m.params) (g2:Sl 3 I8 σ1 cv m.code) (g3:Sl 4 Ys σ1 hv m.catches)
 (h: ∀w' U,Stp w σ w' U→K (.bool ((p&&m.params.all right)&&if m.abs then decide (m.locals=0)&&decide (m.code=[])&&decide (m.catches=[])
  else decide (m.code≠[])&&decide ((m.params.length:Int)<m.locals)&&m.code.all (fun i=>decide (N3 i=0))&&m.catches.all (C7 m.code.length))) w'):
 lp (α:=Value×Value) (Value.bool p,(.int .i64 0)) w1 fun V B d_ w=>
  fieldAddr P T.c (.pointer (some q)) 1 w fun ck w=>
  Q2 P T.d ck w fun b5 w=>
  X5 P .len [T.d] T.e [false] [b5] w fun ci w=>
  Q4 P .lss T.e (.tmp 21) (.tmp 24) B.2 ci w fun cr w=>
  X1 cr (
   Q0 B.1 true w (fieldAddr P T.c (.pointer (some q)) 1) fun c7 w=>
   Q0 B.1 true w (Q2 P T.d c7) fun cb w=>
   Q0 B.1 true w (fun w J=>J B.2 w) fun b6 w=>
   Q0 B.1 true w (indexAddr P T.d cb b6) fun c5 w=>
   Q0 B.1 true w (Q2 P T.b c5) fun bz w=>
   Q0 B.1 true w (Q1 P F.i [bz]) fun c9 w=>
   pick P B.1 c9 (.bool false) w fun bx w=>
   Q4 P .add T.e (.tmp 26) (.const (.int .i64 1)) B.2 (.int .i64 1) w fun b1 w=>
   V (bx,b1) w) (
   fieldAddr P T.c (.pointer (some q)) 3 w fun cz w=>
   Q2 P T.m cz w fun db w=>
   X1 db (
    Q0 B.1 true w (fieldAddr P T.c (.pointer (some q)) 4) fun bn w=>
    Q0 B.1 true w (Q2 P T.e bn) fun cd w=>
    Q0 B.1 true w (Q4 P .eql T.e (.tmp 42) (.const (.int .i64 0)) cd (.int .i64 0)) fun b7 w=>
    pick P B.1 b7 (.bool false) w fun Q w=>
    Q0 Q true w (fieldAddr P T.c (.pointer (some q)) 5) fun da w=>
    Q0 Q true w (Q2 P T.l da) fun ce w=>
    Q0 Q true w (X5 P .len [T.l] T.e [false] [ce]) fun bp w=>
    Q0 Q true w (Q4 P .eql T.e (.tmp 48) (.const (.int .i64 0)) bp (.int .i64 0)) fun bq w=>
    pick P Q bq (.bool false) w fun R w=>
    Q0 R true w (fieldAddr P T.c (.pointer (some q)) 6) fun b8 w=>
    Q0 R true w (Q2 P T.o b8) fun bj w=>
    Q0 R true w (X5 P .len [T.o] T.e [false] [bj]) fun cl w=>
    Q0 R true w (Q4 P .eql T.e (.tmp 54) (.const (.int .i64 0)) cl (.int .i64 0)) fun cs w=>
    pick P R cs (.bool false) w fun c8 w=>
    K c8 w) (
    fieldAddr P T.c (.pointer (some q)) 5 w fun bh w=>
    Q2 P T.l bh w fun cf w=>
    X5 P .len [T.l] T.e [false] [cf] w fun ag w=>
    lp (α:=Value×Value) (B.1,(.int .i64 0)) w fun O j d_ w=>
     fieldAddr P T.c (.pointer (some q)) 6 w fun ca w=>
     Q2 P T.o ca w fun bo w=>
     X5 P .len [T.o] T.e [false] [bo] w fun bi w=>
     Q4 P .lss T.e (.tmp 60) (.tmp 63) j.2 bi w fun b9 w=>
     X1 b9 (
      fieldAddr P T.c (.pointer (some q)) 6 w fun bm w=>
      Q2 P T.o bm w fun br w=>
      indexAddr P T.o br j.2 w fun b0 w=>
      Q2 P T.p b0 w fun bu w=>
      W6 P T.p w fun t7 w=>
      Z4 P T.p t7 bu w fun _u w=>
      Q0 j.1 true w (fieldAddr P T.p t7 0) fun cm w=>
      Q0 j.1 true w (Q2 P T.e cm) fun b3 w=>
      Q0 j.1 true w (Q4 P .geq T.e (.tmp 75) (.const (.int .i64 0)) b3 (.int .i64 0)) fun bs w=>
      pick P j.1 bs (.bool false) w fun E w=>
      Q0 E true w (fieldAddr P T.p t7 0) fun cc w=>
      Q0 E true w (Q2 P T.e cc) fun cu w=>
      Q0 E true w (fieldAddr P T.p t7 1) fun c3 w=>
      Q0 E true w (Q2 P T.e c3) fun b2 w=>
      Q0 E true w (Q4 P .lss T.e (.tmp 80) (.tmp 82) cu b2) fun cn w=>
      pick P E cn (.bool false) w fun M w=>
      Q0 M true w (fieldAddr P T.p t7 1) fun ct w=>
      Q0 M true w (Q2 P T.e ct) fun cx w=>
      Q0 M true w (fun w J=>J ag w) fun cj w=>
      Q0 M true w (Q4 P .leq T.e (.tmp 87) (.tmp 88) cx cj) fun b4 w=>
      pick P M b4 (.bool false) w fun W w=>
      Q0 W true w (fieldAddr P T.p t7 2) fun c6 w=>
      Q0 W true w (Q2 P T.e c6) fun cg w=>
      Q0 W true w (Q4 P .geq T.e (.tmp 93) (.const (.int .i64 0)) cg (.int .i64 0)) fun ch w=>
      pick P W ch (.bool false) w fun L w=>
      Q0 L true w (fieldAddr P T.p t7 2) fun dd w=>
      Q0 L true w (Q2 P T.e dd) fun bl w=>
      Q0 L true w (fun w J=>J ag w) fun c4 w=>
      Q0 L true w (Q4 P .lss T.e (.tmp 98) (.tmp 99) bl c4) fun bd w=>
      pick P L bd (.bool false) w fun D w=>
      Q0 D true w (fieldAddr P T.p t7 3) fun a9 w=>
      Q0 D true w (Q2 P T.b a9) fun a8 w=>
      Q0 D true w (Q1 P F.e [a8]) fun aq w=>
      pick P D aq (.bool false) w fun a4 w=>
      Q4 P .add T.e (.tmp 65) (.const (.int .i64 1)) j.2 (.int .i64 1) w fun cy w=>
      O (a4,cy) w) (
      Q0 j.1 true w (fun w J=>J ag w) fun an w=>
      Q0 j.1 true w (Q4 P .gtr T.e (.tmp 109) (.const (.int .i64 0)) an (.int .i64 0)) fun ao w=>
      pick P j.1 ao (.bool false) w fun g w=>
      Q0 g true w (fieldAddr P T.c (.pointer (some q)) 4) fun am w=>
      Q0 g true w (Q2 P T.e am) fun al w=>
      Q0 g true w (fieldAddr P T.c (.pointer (some q)) 1) fun a6 w=>
      Q0 g true w (Q2 P T.d a6) fun a2 w=>
      Q0 g true w (X5 P .len [T.d] T.e [false] [a2]) fun a0 w=>
      Q0 g true w (Q4 P .gtr T.e (.tmp 114) (.tmp 117) al a0) fun a7 w=>
      pick P g a7 (.bool false) w fun z w=>
      Q0 z true w (fieldAddr P T.c (.pointer (some q)) 5) fun av w=>
      Q0 z true w (Q2 P T.l av) fun ap w=>
      Q0 z true w (Q1 P F.aS [ap]) fun ax w=>
      Q0 z true w (Q4 P .eql T.r (.tmp 123) (.const (.int .i64 0)) ax (.int .i64 0)) fun az w=>
      pick P z az (.bool false) w fun ba w=>
      K ba w))):=by
 have dc:=af.sat
 have c0:decide ((m.code.length:Int)=0)=decide (m.code=[]):=by cases m.code<;>simp;omega
 have c1:decide ((m.catches.length:Int)=0)=decide (m.catches=[]):=by cases m.catches<;>simp;omega
 have c2:decide ((0:Int)<m.code.length)=decide (m.code≠[]):=by cases m.code<;>simp
 refine D2 (a:=Value.bool p) m.params.length (fun n x w'=> ∃U,Stp w1 σ1 w' U∧x=Value.bool (p&&(m.params.take n).all right)) ⟨σ1,Stp.refl dc,by simp⟩ fun n x w2 d hn N=>?_
 obtain ⟨σ2,k,rfl⟩:=N
 have l:=hq.up k
 have Y:=g1.up k
 have o:=k.sat
 (try simp only[↓M1,M1,Mb,reduceIte])
 refine ld o l rfl ?_
 refine Q8 Y ?_
 refine Z0 ?_
 refine Q6 (fun hc=>?_) (fun hc=>?_)
 ·have c:n<m.params.length:=by simpa using hc
  have y:(p&&(m.params.take (n+1)).all right)=((p&&(m.params.take n).all right)&&right m.params[n]):=by rw[Zr c,Bool.and_assoc]
  generalize (p&&(m.params.take n).all right)=f at y⊢
  cases f with
  | false=>(try simp only[↓M1,M1,Mb,reduceIte]);exact Z6 g1.max c ⟨σ2,k,by rw[y];rfl⟩
  | true=>
   (try simp only[↓M1,M1,Mb,reduceIte])
   refine ld o l rfl ?_
   (try simp only[↓M1,M1,Mb,reduceIte])
   refine J5 Y c ?_
   obtain ⟨p1,p2⟩:=Y.elS c
   refine X8 o p1 rfl ?_
   refine Uw _ (by simp only[Z9] at p2;omega) ?_
   (try simp only[↓M1,M1,Mb,reduceIte])
   exact Z6 g1.max c ⟨σ2,k,by rw[y];rfl⟩
 ·have c: ¬n<m.params.length:=by simpa using hc
  rw[Q5Y c]
  have ak:=af.trans k
  have ah:=g2.up k
  have X:=g3.up k
  clear af k hq g1 g2 g3 hn hc
  generalize (p&&m.params.all right)=f at h⊢
  refine ld o l rfl ?_
  cases aj:m.abs with
  | true=>
   simp only[aj,if_true] at h
   have hK:=h _ _ ak
   clear h
   (try simp only[↓M1,M1,Mb,reduceIte])
   cases f with
   | false=>(try simp only[↓M1,M1,Mb,reduceIte]);simpa using hK
   | true=>
    (try simp only[↓M1,M1,Mb,reduceIte])
    refine ld o l rfl ?_
    (try simp only[↓M1,M1,Mb,reduceIte])
    cases bc:decide (m.locals=0) with
    | false=>rw[bc] at hK;(try simp only[↓M1,M1,Mb,reduceIte]);simpa using hK
    | true=>
     rw[bc] at hK
     (try simp only[↓M1,M1,Mb,reduceIte])
     refine ld o l rfl ?_
     refine Q8 ah ?_
     simp only[c0,↓M1,M1,Mb,reduceIte]
     cases a5:decide (m.code=[]) with
     | false=>rw[a5] at hK;(try simp only[↓M1,M1,Mb,reduceIte]);simpa using hK
     | true=>
      rw[a5] at hK
      (try simp only[↓M1,M1,Mb,reduceIte])
      refine ld o l rfl ?_
      refine Q8 X ?_
      simp only[c1,↓M1,M1,Mb,reduceIte]
      simpa using hK
  | false=>
   simp only[aj,Bool.false_eq_true,if_false] at h
   (try simp only[↓M1,M1,Mb,reduceIte])
   refine ld o l rfl ?_
   refine Q8 ah ?_
   refine D2 (a:=Value.bool f) m.catches.length (fun n x w'=> ∃U,Stp w2 σ2 w' U∧x=Value.bool (f&&(m.catches.take n).all (C7 m.code.length))) ⟨σ2,Stp.refl o,by simp⟩ fun n x w4 d hn N=>?_
   obtain ⟨σ4,t,rfl⟩:=N
   have H:=l.up t
   have Z:=X.up t
   have r:=t.sat
   (try simp only[↓M1,M1,Mb,reduceIte])
   refine ld r H rfl ?_
   refine Q8 Z ?_
   refine Z0 ?_
   refine Q6 (fun hc=>?_) (fun hc=>?_)
   ·have c:n<m.catches.length:=by simpa using hc
    have y:(f&&(m.catches.take (n+1)).all (C7 m.code.length))=((f&&(m.catches.take n).all (C7 m.code.length))&&C7 m.code.length m.catches[n]):=by rw[Zr c,Bool.and_assoc]
    generalize (f&&(m.catches.take n).all (C7 m.code.length))=cw at y⊢
    (try simp only[↓M1,M1,Mb,reduceIte])
    refine ld r H rfl ?_
    refine J5 Z c ?_
    obtain ⟨p1,r1⟩:=Z.elK c
    have ay:m.catches[n].cls.length≤140737488355328:=by have:=r1.2.2.2.2;simp only[Z9] at this;omega
    refine Y7 r p1 rfl ?_
    refine Y5 r (by rfl) rfl (Rep.one r1) fun q5 w5 σ5 a3 A=>?_
    have C:=a3.sat
    have ac:=t.trans a3
    cases cw with
    | false=>(try simp only[↓M1,M1,Mb,reduceIte]);exact Z6 X.max c ⟨σ5,ac,by rw[y];rfl⟩
    | true=>
     have s: ∀b,C7 m.code.length m.catches[n]=b→Rs m.catches.length (fun n x w'=> ∃U,Stp w2 σ2 w' U∧x=Value.bool (f&&(m.catches.take n).all (C7 m.code.length))) (Value.bool b, .int .i64 (IntKind.i64.wrap (n+1))) w5∧Vx m.catches.length (Value.bool b, .int .i64 (IntKind.i64.wrap (n+1)))<Vx m.catches.length (Value.bool true,I n):=fun b e=>Z6 X.max c ⟨σ5,ac,by rw[y,e];rfl⟩
     unfold C7 at s
     generalize m.catches[n]=x at A s ay
     clear y p1 r1 H l Z h
     (try simp only[↓M1,M1,Mb,reduceIte])
     refine ld C A rfl ?_
     (try simp only[↓M1,M1,Mb,reduceIte])
     cases d1:decide (0≤x.frm) with
     | false=>(try simp only[↓M1,M1,Mb,reduceIte]);exact s _ (by simp[d1])
     | true=>
     (try simp only[↓M1,M1,Mb,reduceIte])
     refine ld C A rfl ?_
     (try simp only[↓M1,M1,Mb,reduceIte])
     refine ld C A rfl ?_
     (try simp only[↓M1,M1,Mb,reduceIte])
     cases d2:decide (x.frm<x.to) with
     | false=>(try simp only[↓M1,M1,Mb,reduceIte]);exact s _ (by simp[d1,d2])
     | true=>
     (try simp only[↓M1,M1,Mb,reduceIte])
     refine ld C A rfl ?_
     (try simp only[↓M1,M1,Mb,reduceIte])
     cases d3:decide (x.to≤(m.code.length:Int)) with
     | false=>(try simp only[↓M1,M1,Mb,reduceIte]);exact s _ (by simp[d1,d2,d3])
     | true=>
     (try simp only[↓M1,M1,Mb,reduceIte])
     refine ld C A rfl ?_
     (try simp only[↓M1,M1,Mb,reduceIte])
     cases d4:decide (0≤x.at_) with
     | false=>(try simp only[↓M1,M1,Mb,reduceIte]);exact s _ (by simp[d1,d2,d3,d4])
     | true=>
     (try simp only[↓M1,M1,Mb,reduceIte])
     refine ld C A rfl ?_
     (try simp only[↓M1,M1,Mb,reduceIte])
     cases d5:decide (x.at_<(m.code.length:Int)) with
     | false=>(try simp only[↓M1,M1,Mb,reduceIte]);exact s _ (by simp[d1,d2,d3,d4,d5])
     | true=>
     (try simp only[↓M1,M1,Mb,reduceIte])
     refine ld C A rfl ?_
     refine Qs x.cls ay ?_
     (try simp only[↓M1,M1,Mb,reduceIte])
     exact s _ (by simp[d1,d2,d3,d4,d5])
   ·have c: ¬n<m.catches.length:=by simpa using hc
    rw[Q5Y c]
    have aa:=ak.trans t
    have bv:=ah.up t
    have bk:=Y.up t
    have hh: ∀w' U,Stp w σ w' U→K (.bool ((f&&m.catches.all (C7 m.code.length))&&(decide (m.code≠[])&&decide ((m.params.length:Int)<m.locals)&&m.code.all (fun i=>decide (N3 i=0))))) w':=by
     intro w' U hk
     have:=h w' U hk
     refine Eq.subst (motive:=fun b=>K (.bool b) w') ?_ this
     cases f<;>cases m.catches.all (C7 m.code.length)<;>simp
    clear h t
    generalize (f&&m.catches.all (C7 m.code.length))=cp at hh⊢
    cases cp with
    | false=>(try simp only[↓M1,M1,Mb,reduceIte]);simpa using hh _ _ aa
    | true=>
     (try simp only[↓M1,M1,Mb,reduceIte])
     simp only[c2,↓M1,M1,Mb,reduceIte]
     cases a1:decide (m.code≠[]) with
     | false=>rw[a1] at hh;(try simp only[↓M1,M1,Mb,reduceIte]);simpa using hh _ _ aa
     | true=>
      rw[a1] at hh
      (try simp only[↓M1,M1,Mb,reduceIte])
      refine ld r H rfl ?_
      (try simp only[↓M1,M1,Mb,reduceIte])
      refine ld r H rfl ?_
      refine Q8 bk ?_
      (try simp only[↓M1,M1,Mb,reduceIte])
      cases bb:decide ((m.params.length:Int)<m.locals) with
      | false=>rw[bb] at hh;(try simp only[↓M1,M1,Mb,reduceIte]);simpa using hh _ _ aa
      | true=>
       rw[bb] at hh
       (try simp only[↓M1,M1,Mb,reduceIte])
       refine ld r H rfl ?_
       refine X0n r bv fun e w6 σ6 bw he=>?_
       simp only[he,↓M1,M1,Mb,reduceIte]
       simpa using hh _ _ (aa.trans bw)
set_option maxHeartbeats 2000000 in
theorem Q6M {m:Hm.Met} {cs:List Value} (n:X4 w σ) (D:M5 σ m cs) (h: ∀w' C,Stp w σ w' C→K (.bool (C8 m)) w'):Q1 P F.x [.agg cs.toArray] w K:=Cv (by
 unfold Vf
 obtain ⟨pv,J,H,rfl,B,y,E,z,A,L⟩:=D
 have r:m.name.length≤140737488355328:=by simp only[Z9] at z;omega
 have o:m.result.length≤140737488355328:=by simp only[Z9] at A;omega
 refine Y8 n fun q w1 σ1 a g=>?_
 have t:=B.up a
 have p:=y.up a
 have s:=E.up a
 have f:=a.sat
 obtain ⟨d,c⟩: ∃b,b=(L6 m.name&&(decide (m.result=[])||right m.result)):=⟨_,rfl⟩
 have l:C8 m=((d&&m.params.all right)&&if m.abs then decide (m.locals=0)&&decide (m.code=[])&&decide (m.catches=[])
  else decide (m.code≠[])&&decide ((m.params.length:Int)<m.locals)&&m.code.all (fun i=>decide (N3 i=0))&&m.catches.all (C7 m.code.length)):=by
  rw[c];unfold C8
  cases L6 m.name<;>cases m.params.all right<;>cases decide (m.result=[])<;>cases right m.result<;>rfl
 rw[l] at h
 clear l
 (repeat refine Hd.h ?_)
 refine ld f g rfl ?_
 refine Ff m.name r ?_
 cases e:L6 m.name with
 | false=>
  have j:d=false:=by rw[c,e];rfl
  (repeat refine Hd.h ?_)
  refine Eq.subst (motive:=fun b=>lp (α:=Value×Value) (Value.bool b, .int .i64 0) w1 _) j ?_
  exact Tb n a g t p s h
 | true=>
  (repeat refine Hd.h ?_)
  refine ld f g rfl ?_
  (repeat refine Hd.h ?_)
  refine Nd ?_
  cases k:decide (m.result=[]) with
  | true=>
   have j:d=true:=by rw[c,e,k];rfl
   (repeat refine Hd.h ?_)
   refine Eq.subst (motive:=fun b=>lp (α:=Value×Value) (Value.bool b, .int .i64 0) w1 _) j ?_
   exact Tb n a g t p s h
  | false=>
   (repeat refine Hd.h ?_)
   refine ld f g rfl ?_
   (repeat refine Hd.h ?_)
   refine Uw m.result o ?_
   have j:d=right m.result:=by rw[c,e,k];rfl
   (repeat refine Hd.h ?_)
   refine Eq.subst (motive:=fun b=>lp (α:=Value×Value) (Value.bool b, .int .i64 0) w1 _) j ?_
   exact Tb n a g t p s h)
end Go.Proofs.YtfppjenblllfaaaGreatDoor

namespace Go.Hm
open Go.Kd
def Ln (c:Cla) (i:Nat):Bool:=W8 (c.like.getD i [])&& !decide (c.like.getD i []=c.name)
def I6 (c:Cla) (i k:Nat):Bool:= !decide (c.like.getD k []=c.like.getD i [])
def Hz (c:Cla) (i:Nat):Fld:=c.fields.getD i Fld.zero
def Df (c:Cla) (i:Nat):Hm.Met:=c.methods.getD i Hm.Met.zero
def Mq (c:Cla) (i:Nat):Bool:=L6 (Hz c i).name&&right (Hz c i).kind&& !c.iface
def Qi (c:Cla) (i k:Nat):Bool:= !decide ((Hz c k).name=(Hz c i).name)
def Q6t (c:Cla):Bool:=(!c.iface||(c.abs&&decide (c.super=Z7)))&& !(c.abs&&c.fin)
def Qh (c:Cla) (i k:Nat):Bool:= !decide ((Df c k).name=(Df c i).name)
theorem Vl {p:Nat→Bool} {n:Nat}:(List.range (n+1)).all p=((List.range n).all p&&p n):=by rw[List.range_succ,List.all_append];simp
theorem E7 {α:Type} {xs:List α} {i:Nat} {d:α} (h:i<xs.length):xs.getD i d=xs[i]:=by rw[List.getD_eq_getElem?_getD,List.getElem?_eq_getElem h];rfl
end Go.Hm
namespace Go.Proofs.YtfppjenblllfaaaGreatDoor
open Go.Emb Go.RowKit Go.Kd Go.Hm
variable {w : World} {K : Value → World → Prop} {σ : Q5}
def Wd (c:Cla) (i:Nat):Bool:=C8 (Df c i)&&(!(Df c i).abs||c.abs)&&(!c.iface||(Df c i).abs)
set_option maxHeartbeats 2000000 in
theorem Q23 {c:Cla} {lv fv mv:Value} {w1:World} {σ1:Q5} {q:Addr} {ok:Bool} (ai:X4 w1 σ1) (hq:Z2 σ1 q [S c.name,S c.super,lv, .bool c.iface, .bool c.abs, .bool c.fin,fv,mv]) {i:Nat} {N m0:Nat} {M:Nat→Value→World→Prop} (g1:Sl 1 Y1 σ1 lv c.like) (hi:i<c.like.length)
 (h: ∀w' σ',Stp w1 σ1 w' σ'→Rs N M (Value.bool (ok&&(List.range i).all (I6 c i)), .int .i64 (IntKind.i64.wrap (i+1))) w'∧Vx N (Value.bool (ok&&(List.range i).all (I6 c i)), .int .i64 (IntKind.i64.wrap (i+1)))<m0):
 lp (
  α:=Value×Value) (Value.bool ok,(.int .i64 0)) w1 fun j b d_ w=>
  Q4 P .lss T.e (.tmp 52) (.tmp 53) b.2 (I i) w fun Y w=>
  X1 Y (
   dr w fun e g=>
   Q7 e (fun l=> ∀w:World,g w→Q0 b.1 true w (fieldAddr P T.a (.pointer (some q)) 2) (dk e l w)) fun l=>
   Q7 e (fun A=> ∀w:World,g w→Q0 b.1 true w (fun w J=>J b.2 w) (dk e A w)) fun A=>
   Q7 e (fun o=> ∀w:World,g w→Q0 b.1 true w (fieldAddr P T.a (.pointer (some q)) 2) (dk e o w)) fun o=>
   Q7 e (fun z=> ∀w:World,g w→Q0 b.1 true w (fun w J=>J (I i) w) (dk e z w)) fun z=>
   Q7 e (fun r=> ∀m:Value,∀w:World,g w→l m w→Q0 b.1 true w (Q2 P T.d m) (dk e r w)) fun r=>
   Q7 e (fun p=> ∀y:Value,∀D:Value,∀w:World,g w→r y w→A D w→Q0 b.1 true w (indexAddr P T.d y D) (dk e p w)) fun p=>
   Q7 e (fun L=> ∀t:Value,∀w:World,g w→p t w→Q0 b.1 true w (Q2 P T.b t) (dk e L w)) fun L=>
   Q7 e (fun u=> ∀C:Value,∀w:World,g w→o C w→Q0 b.1 true w (Q2 P T.d C) (dk e u w)) fun u=>
   Q7 e (fun n=> ∀B:Value,∀v:Value,∀w:World,g w→u B w→z v w→Q0 b.1 true w (indexAddr P T.d B v) (dk e n w)) fun n=>
   Q7 e (fun E=> ∀s:Value,∀w:World,g w→n s w→Q0 b.1 true w (Q2 P T.b s) (dk e E w)) fun E=>
   ∀m:Value,∀D:Value,∀C:Value,∀v:Value,∀y:Value,∀t:Value,∀O:Value,∀B:Value,∀s:Value,∀Q:Value,∀w:World,g w→l m w→A D w→o C w→z v w→r y w→p t w→L O w→u B w→n s w→E Q w→
   Q0 b.1 true w (Q4 P .neq T.b (.tmp 63) (.tmp 68) O Q) fun ae w=>
   pick P b.1 ae (.bool false) w fun ad w=>
   Q4 P .add T.e (.tmp 55) (.const (.int .i64 1)) b.2 (.int .i64 1) w fun ag w=>
   j (ad,ag) w) (
   Q4 P .add T.e (.tmp 31) (.const (.int .i64 1)) (I i) (.int .i64 1) w fun W w=>
   (Rs N M (b.1,W) w∧Vx N (b.1,W)<m0)):=by
 have am:=g1.max
 refine D2 (a:=Value.bool ok) i (fun k x w'=> ∃σ',Stp w1 σ1 w' σ'∧x=Value.bool (ok&&(List.range k).all (I6 c i))) ⟨σ1,Stp.refl ai,by simp⟩ fun k x w2 d hk V=>?_
 obtain ⟨σ2,f,rfl⟩:=V
 have ap:=hq.up f
 have R:=g1.up f
 have ab:=f.sat
 refine Z0 ?_
 refine Q6 (fun X=>?_) (fun X=>?_)
 ·have af:k<i:=by simpa using X
  have U:k<c.like.length:=by omega
  have H:(ok&&(List.range (k+1)).all (I6 c i))=((ok&&(List.range k).all (I6 c i))&&I6 c i k):=by rw[Vl,Bool.and_assoc]
  have hQ:I6 c i k= !decide (c.like[k]=c.like[i]):=by unfold I6;rw[E7 U,E7 hi]
  rw[hQ] at H
  obtain ⟨p1,_⟩:=R.elS U
  obtain ⟨p2,_⟩:=R.elS hi
  generalize (ok&&(List.range k).all (I6 c i))=Z at H⊢
  clear h hQ X
  cases Z
  all_goals
   refine U6 ab ?_
   (repeat refine U9 I9 ?_)
   (intros;(repeat (rename_i hx;subst hx));(try simp only[↓M2,M2,Mb,reduceIte]))
   rename_i w3 ac
   exact Z6 (by omega) af ⟨σ2,f.trans ac.stp,by rw[H];rfl⟩
 ·have aa:k=i:=by
   have: ¬k<i:=by simpa using X
   omega
  subst aa
  (try simp only[↓M1,M1,Mb,reduceIte])
  exact h _ _ f
set_option maxHeartbeats 4000000 in
theorem Q9v {c:Cla} {lv fv mv:Value} {w1:World} {σ1:Q5} {q:Addr} {ok:Bool} (hs1:X4 w1 σ1) (hq:Z2 σ1 q [S c.name,S c.super,lv, .bool c.iface, .bool c.abs, .bool c.fin,fv,mv]) {J:Value→World→Prop} (hn:c.name.length≤Z9) (g1:Sl 1 Y1 σ1 lv c.like)
 (h: ∀w' σ',Stp w1 σ1 w' σ'→J (.bool (ok&&(List.range c.like.length).all fun i=>Ln c i&&(List.range i).all (I6 c i))) w'):
 lp (α:=Value×Value) (Value.bool ok,(.int .i64 0)) w1 fun again4 x4 d_ w=>
 fieldAddr P T.a (.pointer (some q)) 2 w fun t27 w=>
 Q2 P T.d t27 w fun t28 w=>
 X5 P .len [T.d] T.e [false] [t28] w fun t29 w=>
 Q4 P .lss T.e (.tmp 26) (.tmp 29) x4.2 t29 w fun t30 w=>
 X1 t30 (
  dr w fun Tr Br=>
  Q7 Tr (fun φ35=> ∀w:World,Br w→Q0 x4.1 true w (fieldAddr P T.a (.pointer (some q)) 2) (dk Tr φ35 w)) fun φ35=>
  Q7 Tr (fun φ37=> ∀w:World,Br w→Q0 x4.1 true w (fun w J=>J x4.2 w) (dk Tr φ37 w)) fun φ37=>
  Q7 Tr (fun φ36=> ∀t35:Value,∀w:World,Br w→φ35 t35 w→Q0 x4.1 true w (Q2 P T.d t35) (dk Tr φ36 w)) fun φ36=>
  Q7 Tr (fun φ38=> ∀t36:Value,∀t37:Value,∀w:World,Br w→φ36 t36 w→φ37 t37 w→Q0 x4.1 true w (indexAddr P T.d t36 t37) (dk Tr φ38 w)) fun φ38=>
  Q7 Tr (fun φ39=> ∀t38:Value,∀w:World,Br w→φ38 t38 w→Q0 x4.1 true w (Q2 P T.b t38) (dk Tr φ39 w)) fun φ39=>
  Q7 Tr (fun φ40=> ∀t39:Value,∀w:World,Br w→φ39 t39 w→Q0 x4.1 true w (Q1 P F.e [t39]) (dk Tr φ40 w)) fun φ40=>
  Q7 Tr (fun φ41=> ∀t40:Value,∀w:World,Br w→φ40 t40 w→pick P x4.1 t40 (.bool false) w (dk Tr φ41 w)) fun φ41=>
  Q7 Tr (fun φ43=> ∀t41:Value,∀w:World,Br w→φ41 t41 w→Q0 t41 true w (fieldAddr P T.a (.pointer (some q)) 2) (dk Tr φ43 w)) fun φ43=>
  Q7 Tr (fun φ45=> ∀t41:Value,∀w:World,Br w→φ41 t41 w→Q0 t41 true w (fun w J=>J x4.2 w) (dk Tr φ45 w)) fun φ45=>
  Q7 Tr (fun φ48=> ∀t41:Value,∀w:World,Br w→φ41 t41 w→Q0 t41 true w (fieldAddr P T.a (.pointer (some q)) 0) (dk Tr φ48 w)) fun φ48=>
  Q7 Tr (fun φ44=> ∀t41:Value,∀t43:Value,∀w:World,Br w→φ41 t41 w→φ43 t43 w→Q0 t41 true w (Q2 P T.d t43) (dk Tr φ44 w)) fun φ44=>
  Q7 Tr (fun φ46=> ∀t41:Value,∀t44:Value,∀t45:Value,∀w:World,Br w→φ41 t41 w→φ44 t44 w→φ45 t45 w→Q0 t41 true w (indexAddr P T.d t44 t45) (dk Tr φ46 w)) fun φ46=>
  Q7 Tr (fun φ47=> ∀t41:Value,∀t46:Value,∀w:World,Br w→φ41 t41 w→φ46 t46 w→Q0 t41 true w (Q2 P T.b t46) (dk Tr φ47 w)) fun φ47=>
  Q7 Tr (fun φ49=> ∀t41:Value,∀t48:Value,∀w:World,Br w→φ41 t41 w→φ48 t48 w→Q0 t41 true w (Q2 P T.b t48) (dk Tr φ49 w)) fun φ49=>
  ∀t35:Value,∀t37:Value,∀t36:Value,∀t38:Value,∀t39:Value,∀t40:Value,∀t41:Value,∀t43:Value,∀t45:Value,∀t48:Value,∀t44:Value,∀t46:Value,∀t47:Value,∀t49:Value,∀w:World,Br w→φ35 t35 w→φ37 t37 w→φ36 t36 w→φ38 t38 w→φ39 t39 w→φ40 t40 w→φ41 t41 w→φ43 t43 w→φ45 t45 w→φ48 t48 w→φ44 t44 w→φ46 t46 w→φ47 t47 w→φ49 t49 w→
  Q0 t41 true w (Q4 P .neq T.b (.tmp 47) (.tmp 49) t47 t49) fun t50 w=>
  pick P t41 t50 (.bool false) w fun t51 w=>
  lp (α:=Value×Value) (t51,(.int .i64 0)) w fun again10 x10 d_ w=>
   Q4 P .lss T.e (.tmp 52) (.tmp 53) x10.2 x4.2 w fun t54 w=>
   X1 t54 (
    dr w fun Tr Br=>
    Q7 Tr (fun φ59=> ∀w:World,Br w→Q0 x10.1 true w (fieldAddr P T.a (.pointer (some q)) 2) (dk Tr φ59 w)) fun φ59=>
    Q7 Tr (fun φ61=> ∀w:World,Br w→Q0 x10.1 true w (fun w J=>J x10.2 w) (dk Tr φ61 w)) fun φ61=>
    Q7 Tr (fun φ64=> ∀w:World,Br w→Q0 x10.1 true w (fieldAddr P T.a (.pointer (some q)) 2) (dk Tr φ64 w)) fun φ64=>
    Q7 Tr (fun φ66=> ∀w:World,Br w→Q0 x10.1 true w (fun w J=>J x4.2 w) (dk Tr φ66 w)) fun φ66=>
    Q7 Tr (fun φ60=> ∀t59:Value,∀w:World,Br w→φ59 t59 w→Q0 x10.1 true w (Q2 P T.d t59) (dk Tr φ60 w)) fun φ60=>
    Q7 Tr (fun φ62=> ∀t60:Value,∀t61:Value,∀w:World,Br w→φ60 t60 w→φ61 t61 w→Q0 x10.1 true w (indexAddr P T.d t60 t61) (dk Tr φ62 w)) fun φ62=>
    Q7 Tr (fun φ63=> ∀t62:Value,∀w:World,Br w→φ62 t62 w→Q0 x10.1 true w (Q2 P T.b t62) (dk Tr φ63 w)) fun φ63=>
    Q7 Tr (fun φ65=> ∀t64:Value,∀w:World,Br w→φ64 t64 w→Q0 x10.1 true w (Q2 P T.d t64) (dk Tr φ65 w)) fun φ65=>
    Q7 Tr (fun φ67=> ∀t65:Value,∀t66:Value,∀w:World,Br w→φ65 t65 w→φ66 t66 w→Q0 x10.1 true w (indexAddr P T.d t65 t66) (dk Tr φ67 w)) fun φ67=>
    Q7 Tr (fun φ68=> ∀t67:Value,∀w:World,Br w→φ67 t67 w→Q0 x10.1 true w (Q2 P T.b t67) (dk Tr φ68 w)) fun φ68=>
    ∀t59:Value,∀t61:Value,∀t64:Value,∀t66:Value,∀t60:Value,∀t62:Value,∀t63:Value,∀t65:Value,∀t67:Value,∀t68:Value,∀w:World,Br w→φ59 t59 w→φ61 t61 w→φ64 t64 w→φ66 t66 w→φ60 t60 w→φ62 t62 w→φ63 t63 w→φ65 t65 w→φ67 t67 w→φ68 t68 w→
    Q0 x10.1 true w (Q4 P .neq T.b (.tmp 63) (.tmp 68) t63 t68) fun t69 w=>
    pick P x10.1 t69 (.bool false) w fun t70 w=>
    Q4 P .add T.e (.tmp 55) (.const (.int .i64 1)) x10.2 (.int .i64 1) w fun t56 w=>
    again10 (t70,t56) w) (
    Q4 P .add T.e (.tmp 31) (.const (.int .i64 1)) x4.2 (.int .i64 1) w fun t32 w=>
    again4 (x10.1,t32) w)) (
  J x4.1 w):=by
 have hmax:=g1.max
 refine D2 (a:=Value.bool ok) c.like.length (fun n x w'=> ∃σ',Stp w1 σ1 w' σ'∧x=Value.bool (ok&&(List.range n).all fun i=>Ln c i&&(List.range i).all (I6 c i))) ⟨σ1,Stp.refl hs1,by simp⟩ fun n x w2 d hn2 hinv=>?_
 obtain ⟨σ2,hk2,rfl⟩:=hinv
 have hq2:=hq.up hk2
 have g12:=g1.up hk2
 have hs2:=hk2.sat
 (repeat refine Hd.h ?_)
 refine ld hs2 hq2 rfl ?_
 refine Q8 g12 ?_
 refine Z0 ?_
 refine Q6 (fun hc=>?_) (fun hc=>?_)
 ·have hn':n<c.like.length:=by simpa using hc
  have hnx:(ok&&(List.range (n+1)).all fun i=>Ln c i&&(List.range i).all (I6 c i))=((ok&&(List.range n).all fun i=>Ln c i&&(List.range i).all (I6 c i))&&(Ln c n&&(List.range n).all (I6 c n))):=by rw[Vl,Bool.and_assoc]
  have hP:Ln c n=(W8 c.like[n]&& !decide (c.like[n]=c.name)):=by unfold Ln;rw[E7 hn']
  obtain ⟨p1,p2⟩:=g12.elS hn'
  have p2:c.like[n].length≤140737488355328:=by simp only[Z9] at p2;omega
  generalize (ok&&(List.range n).all fun i=>Ln c i&&(List.range i).all (I6 c i))=acc at hnx⊢
  clear h hc
  cases hacc:acc with
  | false=>
   refine U6 hs2 ?_
   (repeat refine U9 I9 ?_)
   intros;(repeat (rename_i hx;subst hx))
   rename_i w3 hb3
   (repeat refine Hd.h ?_)
   refine Q23 hb3.sat hq2 g12 hn' fun w4 σ4 hk4=>?_
   exact Z6 hmax hn' ⟨σ4,hk2.trans (hb3.stp.trans hk4),by rw[hnx,hacc];rfl⟩
  | true=>
   cases hcl:W8 c.like[n] with
   | false=>
    refine U6 hs2 ?_
    have hrc: ∀{w':World} {K:Value→World→Prop},K (.bool false) w'→Q1 P F.e [S c.like[n]] w' K:=fun hK=>Qs _ p2 (by rw[hcl];exact hK)
    (repeat (apply U9;(· intros;(repeat (rename_i hx;subst hx));(repeat' (first | (with_reducible exact B2 rfl) | (with_reducible exact Zx (Stp.bel (by (repeat (first | exact Stp.refl (by (first | assumption | exact Stp.sat (by assumption) | exact Hst.sat (by assumption))) | assumption | refine Stp.trans ?_ (by first | assumption | exact Hst.stp (by assumption)))))) rfl) | (with_reducible intro _) | (simp only[↓M2,M2,Mb,reduceIte]) | (with_reducible refine hrc ?_) | (with_reducible show Q2 _ _ _ _ _;first | refine X8 aS aL aR ?_ | refine Y7 aS aL aR ?_ | refine ld aS aL aR ?_) | (with_reducible show indexAddr _ _ _ _ _ _;refine J5 aL au ?_) | (with_reducible show X5 _ _ _ _ _ _ _ _;refine Q8 aL ?_) | (with_reducible show Vn _ _ _ _ _ _;refine V3 aR ?_) | (with_reducible show pick _ _ _ _ _ _;refine Jo ?_) | (apply Li;intro hh;(try simp only[hh,reduceIte,↓M2,M2,Mb,reduceIte]))));done)))
    intros;(repeat (rename_i hx;subst hx))
    rename_i w3 hb3
    (repeat refine Hd.h ?_)
    refine Q23 hb3.sat hq2 g12 hn' fun w4 σ4 hk4=>?_
    exact Z6 hmax hn' ⟨σ4,hk2.trans (hb3.stp.trans hk4),by rw[hnx,hacc,hP,hcl];rfl⟩
   | true=>
    refine U6 hs2 ?_
    have hrc: ∀{w':World} {K:Value→World→Prop},K (.bool true) w'→Q1 P F.e [S c.like[n]] w' K:=fun hK=>Qs _ p2 (by rw[hcl];exact hK)
    (repeat (apply U9;(· intros;(repeat (rename_i hx;subst hx));(repeat' (first | (with_reducible exact B2 rfl) | (with_reducible exact Zx (Stp.bel (by (repeat (first | exact Stp.refl (by (first | assumption | exact Stp.sat (by assumption) | exact Hst.sat (by assumption))) | assumption | refine Stp.trans ?_ (by first | assumption | exact Hst.stp (by assumption)))))) rfl) | (with_reducible intro _) | (simp only[↓M2,M2,Mb,reduceIte]) | (with_reducible refine hrc ?_) | (with_reducible show Q2 _ _ _ _ _;first | refine X8 aS aL aR ?_ | refine Y7 aS aL aR ?_ | refine ld aS aL aR ?_) | (with_reducible show indexAddr _ _ _ _ _ _;refine J5 aL au ?_) | (with_reducible show X5 _ _ _ _ _ _ _ _;refine Q8 aL ?_) | (with_reducible show Vn _ _ _ _ _ _;refine V3 aR ?_) | (with_reducible show pick _ _ _ _ _ _;refine Jo ?_) | (apply Li;intro hh;(try simp only[hh,reduceIte,↓M2,M2,Mb,reduceIte]))));done)))
    intros;(repeat (rename_i hx;subst hx))
    rename_i w3 hb3
    (repeat refine Hd.h ?_)
    refine Lf ?_
    (repeat refine Hd.h ?_)
    refine Q23 hb3.sat hq2 g12 hn' fun w4 σ4 hk4=>?_
    exact Z6 hmax hn' ⟨σ4,hk2.trans (hb3.stp.trans hk4),by rw[hnx,hacc,hP,hcl];simp⟩
 ·have hn': ¬n<c.like.length:=by simpa using hc
  obtain rfl:n=c.like.length:=by omega
  exact h _ _ hk2
set_option maxHeartbeats 2000000 in
theorem Q1V {c:Cla} {lv fv mv:Value} {w1:World} {σ1:Q5} {q:Addr} {ok:Bool} (am:X4 w1 σ1) (hq:Z2 σ1 q [S c.name,S c.super,lv, .bool c.iface, .bool c.abs, .bool c.fin,fv,mv]) {i:Nat} {N m0:Nat} {W:Nat→Value→World→Prop} (g2:Sl 3 E6 σ1 fv c.fields) (hi:i<c.fields.length)
 (h: ∀w' σ',Stp w1 σ1 w' σ'→Rs N W (Value.bool (ok&&(List.range i).all (Qi c i)), .int .i64 (IntKind.i64.wrap (i+1))) w'∧Vx N (Value.bool (ok&&(List.range i).all (Qi c i)), .int .i64 (IntKind.i64.wrap (i+1)))<m0):
 lp (α:=Value×Value) (Value.bool ok,(.int .i64 0)) w1 fun M b d_ w=>
  Q4 P .lss T.e (.tmp 102) (.tmp 103) b.2 (I i) w fun ac w=>
  X1 ac (
   dr w fun e H=>
   Q7 e (fun y=> ∀w:World,H w→Q0 b.1 true w (fieldAddr P T.a (.pointer (some q)) 6) (dk e y w)) fun y=>
   Q7 e (fun p=> ∀w:World,H w→Q0 b.1 true w (fun w J=>J b.2 w) (dk e p w)) fun p=>
   Q7 e (fun t=> ∀w:World,H w→Q0 b.1 true w (fieldAddr P T.a (.pointer (some q)) 6) (dk e t w)) fun t=>
   Q7 e (fun r=> ∀w:World,H w→Q0 b.1 true w (fun w J=>J (I i) w) (dk e r w)) fun r=>
   Q7 e (fun j=> ∀m:Value,∀w:World,H w→y m w→Q0 b.1 true w (Q2 P T.i m) (dk e j w)) fun j=>
   Q7 e (fun g=> ∀n:Value,∀z:Value,∀w:World,H w→j n w→p z w→Q0 b.1 true w (indexAddr P T.i n z) (dk e g w)) fun g=>
   Q7 e (fun B=> ∀f:Value,∀w:World,H w→g f w→Q0 b.1 true w (fieldAddr P T.k f 0) (dk e B w)) fun B=>
   Q7 e (fun Q=> ∀l:Value,∀w:World,H w→B l w→Q0 b.1 true w (Q2 P T.b l) (dk e Q w)) fun Q=>
   Q7 e (fun s=> ∀u:Value,∀w:World,H w→t u w→Q0 b.1 true w (Q2 P T.i u) (dk e s w)) fun s=>
   Q7 e (fun o=> ∀E:Value,∀D:Value,∀w:World,H w→s E w→r D w→Q0 b.1 true w (indexAddr P T.i E D) (dk e o w)) fun o=>
   Q7 e (fun C=> ∀v:Value,∀w:World,H w→o v w→Q0 b.1 true w (fieldAddr P T.k v 0) (dk e C w)) fun C=>
   Q7 e (fun O=> ∀A:Value,∀w:World,H w→C A w→Q0 b.1 true w (Q2 P T.b A) (dk e O w)) fun O=>
   ∀m:Value,∀z:Value,∀u:Value,∀D:Value,∀n:Value,∀f:Value,∀l:Value,∀R:Value,∀E:Value,∀v:Value,∀A:Value,∀U:Value,∀w:World,H w→y m w→p z w→t u w→r D w→j n w→g f w→B l w→Q R w→s E w→o v w→C A w→O U w→
   Q0 b.1 true w (Q4 P .neq T.b (.tmp 114) (.tmp 120) R U) fun aa w=>
   pick P b.1 aa (.bool false) w fun Y w=>
   Q4 P .add T.e (.tmp 105) (.const (.int .i64 1)) b.2 (.int .i64 1) w fun X w=>
   M (Y,X) w) (
   Q4 P .add T.e (.tmp 76) (.const (.int .i64 1)) (I i) (.int .i64 1) w fun ae w=>
   (Rs N W (b.1,ae) w∧Vx N (b.1,ae)<m0)):=by
 have aq:=g2.max
 refine D2 (a:=Value.bool ok) i (fun k x w'=> ∃σ',Stp w1 σ1 w' σ'∧x=Value.bool (ok&&(List.range k).all (Qi c i))) ⟨σ1,Stp.refl am,by simp⟩ fun k x w2 d hk ab=>?_
 obtain ⟨σ2,L,rfl⟩:=ab
 have aw:=hq.up L
 have ad:=g2.up L
 have ai:=L.sat
 refine Z0 ?_
 refine Q6 (fun hc=>?_) (fun hc=>?_)
 ·have ak:k<i:=by simpa using hc
  have Z:k<c.fields.length:=by omega
  have V:(ok&&(List.range (k+1)).all (Qi c i))=((ok&&(List.range k).all (Qi c i))&&Qi c i k):=by rw[Vl,Bool.and_assoc]
  have hQ:Qi c i k= !decide (c.fields[k].name=c.fields[i].name):=by unfold Qi Hz;rw[E7 Z,E7 hi]
  rw[hQ] at V
  obtain ⟨p1,_⟩:=ad.elF Z
  obtain ⟨p2,_⟩:=ad.elF hi
  generalize (ok&&(List.range k).all (Qi c i))=ag at V⊢
  clear h hQ hc
  cases ag
  all_goals
   refine U6 ai ?_
   (repeat refine U9 I9 ?_)
   (intros;(repeat (rename_i hx;subst hx));(try simp only[↓M2,M2,Mb,reduceIte]))
   rename_i w3 aj
   exact Z6 (by omega) ak ⟨σ2,L.trans aj.stp,by rw[V];rfl⟩
 ·have ah:k=i:=by
   have: ¬k<i:=by simpa using hc
   omega
  subst ah
  (try simp only[↓M1,M1,Mb,reduceIte])
  exact h _ _ L
set_option maxHeartbeats 4000000 in
theorem X0c {c:Cla} {lv fv mv:Value} {w1:World} {σ1:Q5} {q:Addr} {ok:Bool} (bj:X4 w1 σ1) (hq:Z2 σ1 q [S c.name,S c.super,lv, .bool c.iface, .bool c.abs, .bool c.fin,fv,mv]) {J:Value→World→Prop} (g2:Sl 3 E6 σ1 fv c.fields)
 (h: ∀w' σ',Stp w1 σ1 w' σ'→J (.bool (ok&&(List.range c.fields.length).all fun i=>Mq c i&&(List.range i).all (Qi c i))) w'):
 lp (
  α:=Value×Value) (Value.bool ok,(.int .i64 0)) w1 fun Z g d_ w=>
  fieldAddr P T.a (.pointer (some q)) 6 w fun av w=>
  Q2 P T.i av w fun bd w=>
  X5 P .len [T.i] T.e [false] [bd] w fun a1 w=>
  Q4 P .lss T.e (.tmp 71) (.tmp 74) g.2 a1 w fun be w=>
  X1 be (
   Q0 g.1 true w (fieldAddr P T.a (.pointer (some q)) 6) fun a9 w=>
   Q0 g.1 true w (Q2 P T.i a9) fun ba w=>
   Q0 g.1 true w (fun w J=>J g.2 w) fun bc w=>
   Q0 g.1 true w (indexAddr P T.i ba bc) fun a5 w=>
   Q0 g.1 true w (fieldAddr P T.k a5 0) fun a7 w=>
   Q0 g.1 true w (Q2 P T.b a7) fun a6 w=>
   Q0 g.1 true w (Q1 P F.r [a6]) fun a8 w=>
   pick P g.1 a8 (.bool false) w fun p w=>
   Q0 p true w (fieldAddr P T.a (.pointer (some q)) 6) fun bg w=>
   Q0 p true w (Q2 P T.i bg) fun aw w=>
   Q0 p true w (fun w J=>J g.2 w) fun a2 w=>
   Q0 p true w (indexAddr P T.i aw a2) fun bf w=>
   Q0 p true w (fieldAddr P T.k bf 1) fun ar w=>
   Q0 p true w (Q2 P T.b ar) fun ax w=>
   Q0 p true w (Q1 P F.i [ax]) fun a0 w=>
   pick P p a0 (.bool false) w fun ae w=>
   Q0 ae true w (fieldAddr P T.a (.pointer (some q)) 3) fun a4 w=>
   Q0 ae true w (Q2 P T.m a4) fun bb w=>
   Q0 ae true w (Z8 P .not bb) fun ap w=>
   pick P ae ap (.bool false) w fun al w=>
   lp (α:=Value×Value) (al,(.int .i64 0)) w fun aa f d_ w=>
    Q4 P .lss T.e (.tmp 102) (.tmp 103) f.2 g.2 w fun ao w=>
    X1 ao (
     dr w fun k Y=>
     Q7 k (fun N=> ∀w:World,Y w→Q0 f.1 true w (fieldAddr P T.a (.pointer (some q)) 6) (dk k N w)) fun N=>
     Q7 k (fun C=> ∀w:World,Y w→Q0 f.1 true w (fun w J=>J f.2 w) (dk k C w)) fun C=>
     Q7 k (fun H=> ∀w:World,Y w→Q0 f.1 true w (fieldAddr P T.a (.pointer (some q)) 6) (dk k H w)) fun H=>
     Q7 k (fun D=> ∀w:World,Y w→Q0 f.1 true w (fun w J=>J g.2 w) (dk k D w)) fun D=>
     Q7 k (fun v=> ∀z:Value,∀w:World,Y w→N z w→Q0 f.1 true w (Q2 P T.i z) (dk k v w)) fun v=>
     Q7 k (fun u=> ∀A:Value,∀O:Value,∀w:World,Y w→v A w→C O w→Q0 f.1 true w (indexAddr P T.i A O) (dk k u w)) fun u=>
     Q7 k (fun R=> ∀t:Value,∀w:World,Y w→u t w→Q0 f.1 true w (fieldAddr P T.k t 0) (dk k R w)) fun R=>
     Q7 k (fun ad=> ∀y:Value,∀w:World,Y w→R y w→Q0 f.1 true w (Q2 P T.b y) (dk k ad w)) fun ad=>
     Q7 k (fun E=> ∀L:Value,∀w:World,Y w→H L w→Q0 f.1 true w (Q2 P T.i L) (dk k E w)) fun E=>
     Q7 k (fun B=> ∀X:Value,∀W:Value,∀w:World,Y w→E X w→D W w→Q0 f.1 true w (indexAddr P T.i X W) (dk k B w)) fun B=>
     Q7 k (fun U=> ∀M:Value,∀w:World,Y w→B M w→Q0 f.1 true w (fieldAddr P T.k M 0) (dk k U w)) fun U=>
     Q7 k (fun ac=> ∀Q:Value,∀w:World,Y w→U Q w→Q0 f.1 true w (Q2 P T.b Q) (dk k ac w)) fun ac=>
     ∀z:Value,∀O:Value,∀L:Value,∀W:Value,∀A:Value,∀t:Value,∀y:Value,∀af:Value,∀X:Value,∀M:Value,∀Q:Value,∀ag:Value,∀w:World,Y w→N z w→C O w→H L w→D W w→v A w→u t w→R y w→ad af w→E X w→B M w→U Q w→ac ag w→
     Q0 f.1 true w (Q4 P .neq T.b (.tmp 114) (.tmp 120) af ag) fun am w=>
     pick P f.1 am (.bool false) w fun ak w=>
     Q4 P .add T.e (.tmp 105) (.const (.int .i64 1)) f.2 (.int .i64 1) w fun aj w=>
     aa (ak,aj) w) (
     Q4 P .add T.e (.tmp 76) (.const (.int .i64 1)) g.2 (.int .i64 1) w fun bh w=>
     Z (f.1,bh) w)) (
   J g.1 w):=by
 have V:=g2.max
 refine D2 (a:=Value.bool ok) c.fields.length (fun n x w'=> ∃σ',Stp w1 σ1 w' σ'∧x=Value.bool (ok&&(List.range n).all fun i=>Mq c i&&(List.range i).all (Qi c i))) ⟨σ1,Stp.refl bj,by simp⟩ fun n x w2 d bv an=>?_
 obtain ⟨σ2,m,rfl⟩:=an
 have o:=hq.up m
 have r:=g2.up m
 have l:=m.sat
 (repeat refine Hd.h ?_)
 refine ld l o rfl ?_
 refine Q8 r ?_
 refine Z0 ?_
 refine Q6 (fun hc=>?_) (fun hc=>?_)
 ·have j:n<c.fields.length:=by simpa using hc
  have ab:(ok&&(List.range (n+1)).all fun i=>Mq c i&&(List.range i).all (Qi c i))=((ok&&(List.range n).all fun i=>Mq c i&&(List.range i).all (Qi c i))&&(Mq c n&&(List.range n).all (Qi c n))):=by rw[Vl,Bool.and_assoc]
  have hP:Mq c n=(L6 c.fields[n].name&&right c.fields[n].kind&& !c.iface):=by unfold Mq Hz;rw[E7 j]
  obtain ⟨p1,r1⟩:=r.elF j
  have b1:c.fields[n].name.length≤140737488355328:=by have:=r1.2.1;simp only[Z9] at this;omega
  have b2:c.fields[n].kind.length≤140737488355328:=by have:=r1.2.2;simp only[Z9] at this;omega
  generalize (ok&&(List.range n).all fun i=>Mq c i&&(List.range i).all (Qi c i))=ah at ab⊢
  clear h hc
  have step: ∀b,b=(ah&&Mq c n)→(ah&&(Mq c n&&(List.range n).all (Qi c n)))=(b&&(List.range n).all (Qi c n)):=fun b e=>by rw[e,Bool.and_assoc]
  cases ah with
  | false=>
   (repeat refine Hd.h ?_)
   refine Q1V l o r j fun w4 σ4 s=>?_
   exact Z6 V j ⟨σ4,m.trans s,by rw[ab];rfl⟩
  | true=>
   (repeat refine Hd.h ?_)
   refine ld l o rfl ?_
   (repeat refine Hd.h ?_)
   refine J5 r j ?_
   (repeat refine Hd.h ?_)
   refine ld l p1 rfl ?_
   (repeat refine Hd.h ?_)
   refine Ff _ b1 ?_
   cases d1:L6 c.fields[n].name with
   | false=>
    (repeat refine Hd.h ?_)
    refine Q1V l o r j fun w4 σ4 s=>?_
    exact Z6 V j ⟨σ4,m.trans s,by rw[ab,step false (by rw[hP,d1];rfl)]⟩
   | true=>
    (repeat refine Hd.h ?_)
    refine ld l o rfl ?_
    (repeat refine Hd.h ?_)
    refine J5 r j ?_
    (repeat refine Hd.h ?_)
    refine ld l p1 rfl ?_
    (repeat refine Hd.h ?_)
    refine Uw _ b2 ?_
    cases d2:right c.fields[n].kind with
    | false=>
     (repeat refine Hd.h ?_)
     refine Q1V l o r j fun w4 σ4 s=>?_
     exact Z6 V j ⟨σ4,m.trans s,by rw[ab,step false (by rw[hP,d1,d2];rfl)]⟩
    | true=>
     (repeat refine Hd.h ?_)
     refine ld l o rfl ?_
     (repeat refine Hd.h ?_)
     refine Q1V l o r j fun w4 σ4 s=>?_
     exact Z6 V j ⟨σ4,m.trans s,by rw[ab,step (!c.iface) (by rw[hP,d1,d2];rfl)]⟩
 ·have j: ¬n<c.fields.length:=by simpa using hc
  obtain rfl:n=c.fields.length:=by omega
  exact h _ _ m
set_option maxHeartbeats 2000000 in
theorem Ee {c:Cla} {lv fv mv:Value} {w1:World} {σ1:Q5} {q:Addr} {ok:Bool} (af:X4 w1 σ1) (hq:Z2 σ1 q [S c.name,S c.super,lv, .bool c.iface, .bool c.abs, .bool c.fin,fv,mv]) {i:Nat} {q9:Addr} {pv cv hv:Value} {N m0:Nat} {L:Nat→Value→World→Prop} (g3:Sl 7 M5 σ1 mv c.methods) (hi:i<c.methods.length) (X:Z2 σ1 q9 [S c.methods[i].name,pv,S c.methods[i].result, .bool c.methods[i].abs,I c.methods[i].locals,cv,hv])
 (h: ∀w' σ',Stp w1 σ1 w' σ'→Rs N L (Value.bool (ok&&(List.range i).all (Qh c i)), .int .i64 (IntKind.i64.wrap (i+1))) w'∧Vx N (Value.bool (ok&&(List.range i).all (Qh c i)), .int .i64 (IntKind.i64.wrap (i+1)))<m0):
 lp (α:=Value×Value) (Value.bool ok,(.int .i64 0)) w1 fun z b d_ w=>
  Q4 P .lss T.e (.tmp 158) (.tmp 159) b.2 (I i) w fun V w=>
  X1 V (
   dr w fun e B=>
   Q7 e (fun m=> ∀w:World,B w→Q0 b.1 true w (fieldAddr P T.a (.pointer (some q)) 7) (dk e m w)) fun m=>
   Q7 e (fun f=> ∀w:World,B w→Q0 b.1 true w (fun w J=>J b.2 w) (dk e f w)) fun f=>
   Q7 e (fun r=> ∀w:World,B w→Q0 b.1 true w (fieldAddr P T.c (.pointer (some q9)) 0) (dk e r w)) fun r=>
   Q7 e (fun s=> ∀t:Value,∀w:World,B w→m t w→Q0 b.1 true w (Q2 P T.g t) (dk e s w)) fun s=>
   Q7 e (fun n=> ∀p:Value,∀j:Value,∀w:World,B w→s p w→f j w→Q0 b.1 true w (indexAddr P T.g p j) (dk e n w)) fun n=>
   Q7 e (fun g=> ∀l:Value,∀w:World,B w→n l w→Q0 b.1 true w (fieldAddr P T.c l 0) (dk e g w)) fun g=>
   Q7 e (fun y=> ∀o:Value,∀w:World,B w→g o w→Q0 b.1 true w (Q2 P T.b o) (dk e y w)) fun y=>
   Q7 e (fun A=> ∀u:Value,∀w:World,B w→r u w→Q0 b.1 true w (Q2 P T.b u) (dk e A w)) fun A=>
   ∀t:Value,∀j:Value,∀u:Value,∀p:Value,∀l:Value,∀o:Value,∀E:Value,∀D:Value,∀w:World,B w→m t w→f j w→r u w→s p w→n l w→g o w→y E w→A D w→
   Q0 b.1 true w (Q4 P .neq T.b (.tmp 170) (.tmp 172) E D) fun R w=>
   pick P b.1 R (.bool false) w fun U w=>
   Q4 P .add T.e (.tmp 161) (.const (.int .i64 1)) b.2 (.int .i64 1) w fun M w=>
   z (U,M) w) (
   Q4 P .add T.e (.tmp 128) (.const (.int .i64 1)) (I i) (.int .i64 1) w fun C w=>
   (Rs N L (b.1,C) w∧Vx N (b.1,C)<m0)):=by
 have ak:=g3.max
 refine D2 (a:=Value.bool ok) i (fun k x w'=> ∃σ',Stp w1 σ1 w' σ'∧x=Value.bool (ok&&(List.range k).all (Qh c i))) ⟨σ1,Stp.refl af,by simp⟩ fun k x w2 d hk Q=>?_
 obtain ⟨σ2,v,rfl⟩:=Q
 have an:=hq.up v
 have aj:=X.up v
 have Y:=g3.up v
 have ab:=v.sat
 refine Z0 ?_
 refine Q6 (fun W=>?_) (fun W=>?_)
 ·have ad:k<i:=by simpa using W
  have O:k<c.methods.length:=by omega
  have H:(ok&&(List.range (k+1)).all (Qh c i))=((ok&&(List.range k).all (Qh c i))&&Qh c i k):=by rw[Vl,Bool.and_assoc]
  have hQ:Qh c i k= !decide (c.methods[k].name=c.methods[i].name):=by unfold Qh Df;rw[E7 O,E7 hi]
  rw[hQ] at H
  obtain ⟨ao,am,ar,p1,_⟩:=Y.elM O
  generalize (ok&&(List.range k).all (Qh c i))=Z at H⊢
  clear h hQ W
  cases Z
  all_goals
   refine U6 ab ?_
   (repeat refine U9 I9 ?_)
   (intros;(repeat (rename_i hx;subst hx));(try simp only[↓M2,M2,Mb,reduceIte]))
   rename_i w3 ac
   exact Z6 (by omega) ad ⟨σ2,v.trans ac.stp,by rw[H];rfl⟩
 ·have aa:k=i:=by
   have: ¬k<i:=by simpa using W
   omega
  subst aa
  (try simp only[↓M1,M1,Mb,reduceIte])
  exact h _ _ v
set_option maxHeartbeats 4000000 in
theorem X0J {c:Cla} {lv fv mv:Value} {w1:World} {σ1:Q5} {q:Addr} {ok:Bool} (bu:X4 w1 σ1) (hq:Z2 σ1 q [S c.name,S c.super,lv, .bool c.iface, .bool c.abs, .bool c.fin,fv,mv]) {J:Value→World→Prop} (g3:Sl 7 M5 σ1 mv c.methods)
 (h: ∀w' σ',Stp w1 σ1 w' σ'→J (.bool (ok&&(List.range c.methods.length).all fun i=>Wd c i&&(List.range i).all (Qh c i))) w'):
 lp (α:=Value×Value) (Value.bool ok,(.int .i64 0)) w1 fun W v d_ w=>
  fieldAddr P T.a (.pointer (some q)) 7 w fun a3 w=>
  Q2 P T.g a3 w fun bl w=>
  X5 P .len [T.g] T.e [false] [bl] w fun a4 w=>
  Q4 P .lss T.e (.tmp 123) (.tmp 126) v.2 a4 w fun av w=>
  X1 av (
   fieldAddr P T.a (.pointer (some q)) 7 w fun bb w=>
   Q2 P T.g bb w fun bj w=>
   indexAddr P T.g bj v.2 w fun bh w=>
   Q2 P T.c bh w fun aq w=>
   W6 P T.c w fun t9 w=>
   Z4 P T.c t9 aq w fun _u w=>
   Q0 v.1 true w (Q2 P T.c t9) fun ax w=>
   Q0 v.1 true w (Q1 P F.x [ax]) fun bo w=>
   pick P v.1 bo (.bool false) w fun r w=>
   Q0 r true w (fieldAddr P T.c t9 3) fun ar w=>
   Q0 r true w (Q2 P T.m ar) fun ba w=>
   Q0 r true w (Z8 P .not ba) fun a1 w=>
   Q0 r true w (fun w J=>J a1 w) fun ad w=>
   Q0 ad false w (fieldAddr P T.a (.pointer (some q)) 4) fun bn w=>
   Q0 ad false w (Q2 P T.m bn) fun aw w=>
   Q0 r true w (pick P ad (.bool true) aw) fun bg w=>
   pick P r bg (.bool false) w fun s w=>
   Q0 s true w (fieldAddr P T.a (.pointer (some q)) 3) fun a0 w=>
   Q0 s true w (Q2 P T.m a0) fun ay w=>
   Q0 s true w (Z8 P .not ay) fun bi w=>
   Q0 s true w (fun w J=>J bi w) fun V w=>
   Q0 V false w (fieldAddr P T.c t9 3) fun bk w=>
   Q0 V false w (Q2 P T.m bk) fun bm w=>
   Q0 s true w (pick P V (.bool true) bm) fun a7 w=>
   pick P s a7 (.bool false) w fun a2 w=>
   lp (α:=Value×Value) (a2,(.int .i64 0)) w fun Y k d_ w=>
    Q4 P .lss T.e (.tmp 158) (.tmp 159) k.2 v.2 w fun a8 w=>
    X1 a8 (
     dr w fun y Br=>
     Q7 y (fun D=> ∀w:World,Br w→Q0 k.1 true w (fieldAddr P T.a (.pointer (some q)) 7) (dk y D w)) fun D=>
     Q7 y (fun z=> ∀w:World,Br w→Q0 k.1 true w (fun w J=>J k.2 w) (dk y z w)) fun z=>
     Q7 y (fun Q=> ∀w:World,Br w→Q0 k.1 true w (fieldAddr P T.c t9 0) (dk y Q w)) fun Q=>
     Q7 y (fun L=> ∀M:Value,∀w:World,Br w→D M w→Q0 k.1 true w (Q2 P T.g M) (dk y L w)) fun L=>
     Q7 y (fun E=> ∀H:Value,∀B:Value,∀w:World,Br w→L H w→z B w→Q0 k.1 true w (indexAddr P T.g H B) (dk y E w)) fun E=>
     Q7 y (fun A=> ∀C:Value,∀w:World,Br w→E C w→Q0 k.1 true w (fieldAddr P T.c C 0) (dk y A w)) fun A=>
     Q7 y (fun ac=> ∀O:Value,∀w:World,Br w→A O w→Q0 k.1 true w (Q2 P T.b O) (dk y ac w)) fun ac=>
     Q7 y (fun Z=> ∀N:Value,∀w:World,Br w→Q N w→Q0 k.1 true w (Q2 P T.b N) (dk y Z w)) fun Z=>
     ∀M:Value,∀B:Value,∀N:Value,∀H:Value,∀C:Value,∀O:Value,∀ah:Value,∀aj:Value,∀w:World,Br w→D M w→z B w→Q N w→L H w→E C w→A O w→ac ah w→Z aj w→
     Q0 k.1 true w (Q4 P .neq T.b (.tmp 170) (.tmp 172) ah aj) fun a5 w=>
     pick P k.1 a5 (.bool false) w fun bp w=>
     Q4 P .add T.e (.tmp 161) (.const (.int .i64 1)) k.2 (.int .i64 1) w fun be w=>
     Y (bp,be) w) (
     Q4 P .add T.e (.tmp 128) (.const (.int .i64 1)) v.2 (.int .i64 1) w fun a9 w=>
     W (k.1,a9) w)) (
   J v.1 w):=by
 have o:=g3.max
 refine D2 (a:=Value.bool ok) c.methods.length (fun n x w'=> ∃σ',Stp w1 σ1 w' σ'∧x=Value.bool (ok&&(List.range n).all fun i=>Wd c i&&(List.range i).all (Qh c i))) ⟨σ1,Stp.refl bu,by simp⟩ fun n x w2 d b5 az=>?_
 obtain ⟨σ2,ab,rfl⟩:=az
 have am:=hq.up ab
 have af:=g3.up ab
 have ag:=ab.sat
 (repeat refine Hd.h ?_)
 refine ld ag am rfl ?_
 refine Q8 af ?_
 refine Z0 ?_
 refine Q6 (fun hc=>?_) (fun hc=>?_)
 ·have f:n<c.methods.length:=by simpa using hc
  have u:(ok&&(List.range (n+1)).all fun i=>Wd c i&&(List.range i).all (Qh c i))=((ok&&(List.range n).all fun i=>Wd c i&&(List.range i).all (Qh c i))&&(Wd c n&&(List.range n).all (Qh c n))):=by rw[Vl,Bool.and_assoc]
  have hP:Wd c n=(C8 c.methods[n]&&(!c.methods[n].abs||c.abs)&&(!c.iface||c.methods[n].abs)):=by unfold Wd Df;rw[E7 f]
  obtain ⟨pv,cv,hv,p1,r1⟩:=af.elM f
  generalize (ok&&(List.range n).all fun i=>Wd c i&&(List.range i).all (Qh c i))=ao at u⊢
  clear h hc
  have step: ∀b,b=(ao&&Wd c n)→(ao&&(Wd c n&&(List.range n).all (Qh c n)))=(b&&(List.range n).all (Qh c n)):=fun b e=>by rw[e,Bool.and_assoc]
  (repeat refine Hd.h ?_)
  refine ld ag am rfl ?_
  refine J5 af f ?_
  refine Y7 ag p1 rfl ?_
  refine Y5 ag (by rfl) rfl (Rep.one r1) fun q9 w3 σ3 X an=>?_
  have al:=X.sat
  have a6:=am.up X
  have bf:=af.up X
  have r3:=RMe_lift r1 ⟨X.le⟩
  have ai:=ab.trans X
  cases ao with
  | false=>
   (repeat refine Hd.h ?_)
   refine Ee al a6 bf f an fun w4 R l=>?_
   exact Z6 o f ⟨R,ai.trans l,by rw[u];rfl⟩
  | true=>
   (repeat refine Hd.h ?_)
   refine Y7 al an rfl ?_
   (repeat refine Hd.h ?_)
   refine Q6M al r3 fun w5 σ5 aa=>?_
   have m:=aa.sat
   have t:=a6.up aa
   have g:=an.up aa
   have U:=bf.up aa
   have p:=ai.trans aa
   cases d1:C8 c.methods[n] with
   | false=>
    (repeat refine Hd.h ?_)
    refine Ee m t U f g fun w4 R l=>?_
    exact Z6 o f ⟨R,p.trans l,by rw[u,step false (by rw[hP,d1];rfl)]⟩
   | true=>
    (repeat refine Hd.h ?_)
    refine ld m g rfl ?_
    (repeat refine Hd.h ?_)
    have j: ∀b1:Bool,b1=(!c.methods[n].abs||c.abs)→Wd c n=(b1&&(!c.iface||c.methods[n].abs)):=fun b1 e=>by rw[hP,d1,e];rfl
    cases d2:c.methods[n].abs with
    | false=>
     rw[d2] at j g
     simp only[Bool.not_true,Bool.not_false]
     (repeat refine Hd.h ?_)
     refine ld m t rfl ?_
     (repeat refine Hd.h ?_)
     cases d4:c.iface with
     | false=>
      simp only[Bool.not_true,Bool.not_false]
      (repeat refine Hd.h ?_)
      refine Ee m t U f (by rw[d2];exact g) fun w4 R l=>?_
      exact Z6 o f ⟨R,p.trans l,by rw[u,step true (by rw[j true rfl,d4];rfl)]⟩
     | true=>
      simp only[Bool.not_true,Bool.not_false]
      (repeat refine Hd.h ?_)
      refine ld m g rfl ?_
      (repeat refine Hd.h ?_)
      refine Ee m t U f (by rw[d2];exact g) fun w4 R l=>?_
      exact Z6 o f ⟨R,p.trans l,by rw[u,step false (by rw[j true rfl,d4];rfl)]⟩
    | true=>
     rw[d2] at j g
     simp only[Bool.not_true,Bool.not_false]
     (repeat refine Hd.h ?_)
     refine ld m t rfl ?_
     cases d3:c.abs with
     | false=>
      (repeat refine Hd.h ?_)
      refine Ee m t U f (by rw[d2];exact g) fun w4 R l=>?_
      exact Z6 o f ⟨R,p.trans l,by rw[u,step false (by rw[j false (by rw[d3];rfl)];rfl)]⟩
     | true=>
      (repeat refine Hd.h ?_)
      refine ld m t rfl ?_
      (repeat refine Hd.h ?_)
      cases d4:c.iface with
      | false=>
       simp only[Bool.not_true,Bool.not_false]
       (repeat refine Hd.h ?_)
       refine Ee m t U f (by rw[d2];exact g) fun w4 R l=>?_
       exact Z6 o f ⟨R,p.trans l,by rw[u,step true (by rw[j true (by rw[d3];rfl),d4];rfl)]⟩
      | true=>
       simp only[Bool.not_true,Bool.not_false]
       (repeat refine Hd.h ?_)
       refine ld m g rfl ?_
       (repeat refine Hd.h ?_)
       refine Ee m t U f (by rw[d2];exact g) fun w4 R l=>?_
       exact Z6 o f ⟨R,p.trans l,by rw[u,step true (by rw[j true (by rw[d3];rfl),d4];rfl)]⟩
 ·have f: ¬n<c.methods.length:=by simpa using hc
  obtain rfl:n=c.methods.length:=by omega
  exact h _ _ ab
theorem X10 {c:Cla} {L M mv:Value} {w1:World} {σ1:Q5} {q:Addr} {ok:Bool} (d:X4 w1 σ1) (g:Z2 σ1 q [S c.name,S c.super,L, .bool c.iface, .bool c.abs, .bool c.fin,M,mv]) (h:K (.bool (ok&&Q6t c)) w1):
 Q0 (Value.bool ok) true w1 (fieldAddr P T.a (.pointer (some q)) 3) fun r w=>
  Q0 (Value.bool ok) true w (Q2 P T.m r) fun j w=>
  Q0 (Value.bool ok) true w (Z8 P .not j) fun m w=>
  Q0 (Value.bool ok) true w (fun w J=>J m w) fun b w=>
  Q0 b false w (fieldAddr P T.a (.pointer (some q)) 4) fun B w=>
  Q0 b false w (Q2 P T.m B) fun p w=>
  Q0 b false w (fun w J=>J p w) fun e w=>
  Q0 e true w (fieldAddr P T.a (.pointer (some q)) 1) fun n w=>
  Q0 e true w (Q2 P T.b n) fun v w=>
  Q0 e true w (Q4 P .eql T.b (.tmp 185) (.const (.string ⟨#[79,98,106,101,99,116]⟩)) v (.string ⟨#[79,98,106,101,99,116]⟩)) fun t w=>
  Q0 b false w (pick P e t (.bool false)) fun l w=>
  Q0 (Value.bool ok) true w (pick P b (.bool true) l) fun y w=>
  pick P (Value.bool ok) y (.bool false) w fun a w=>
  Q0 a true w (fieldAddr P T.a (.pointer (some q)) 4) fun o w=>
  Q0 a true w (Q2 P T.m o) fun A w=>
  Q0 a true w (fun w J=>J A w) fun f w=>
  Q0 f true w (fieldAddr P T.a (.pointer (some q)) 5) fun k w=>
  Q0 f true w (Q2 P T.m k) fun C w=>
  Q0 a true w (pick P f C (.bool false)) fun z w=>
  Q0 a true w (Z8 P .not z) fun s w=>
  pick P a s (.bool false) w fun u w=>
  K u w:=by
 unfold Q6t at h
 have H:decide (c.super=Z7)=decide (c.super=[79,98,106,101,99,116]):=rfl
 rw[H] at h
 cases ok with
 | false=>(try simp only[↓M1,M1,Mb,reduceIte]);simpa using h
 | true=>
  (try simp only[↓M1,M1,Mb,reduceIte])
  refine ld d g rfl ?_
  (try simp only[↓M1,M1,Mb,reduceIte])
  cases D:c.iface with
  | false=>
   rw[D] at h
   (try simp only[↓M1,M1,Mb,reduceIte])
   refine ld d g rfl ?_
   cases i:c.abs with
   | false=>rw[i] at h;(try simp only[↓M1,M1,Mb,reduceIte]);simpa using h
   | true=>
    rw[i] at h
    (try simp only[↓M1,M1,Mb,reduceIte])
    refine ld d g rfl ?_
    (try simp only[↓M1,M1,Mb,reduceIte])
    simpa using h
  | true=>
   rw[D] at h
   (try simp only[↓M1,M1,Mb,reduceIte])
   refine ld d g rfl ?_
   cases i:c.abs with
   | false=>rw[i] at h;(try simp only[↓M1,M1,Mb,reduceIte]);simpa using h
   | true=>
    rw[i] at h
    (try simp only[↓M1,M1,Mb,reduceIte])
    refine ld d g rfl ?_
    (try simp only[↓M1,M1,Mb,reduceIte])
    cases E:decide (c.super=[79,98,106,101,99,116]) with
    | false=>rw[E] at h;(try simp only[↓M1,M1,Mb,reduceIte]);simpa using h
    | true=>
     rw[E] at h
     (try simp only[↓M1,M1,Mb,reduceIte])
     refine ld d g rfl ?_
     simp only[i,↓M1,M1,Mb,reduceIte]
     refine ld d g rfl ?_
     (try simp only[↓M1,M1,Mb,reduceIte])
     simpa using h
end Go.Proofs.YtfppjenblllfaaaGreatDoor

namespace Go.Proofs.YtfppjenblllfaaaGreatDoor
open Go.Emb Go.RowKit Go.Kd Go.Hm
theorem Q5b {c:Cla} (h:L7 c=0):W8 c.name=true∧W8 c.super=true∧(c.iface=true→c.super=Z7∧c.fields=[]∧c.abs=true∧ ∀m∈c.methods,m.abs=true)∧(∀m∈c.methods,m.abs=true→c.abs=true)∧c.fields.all Nj=true∧c.methods.all C8=true∧H0 Fld.name [] c.fields=true∧H0 Hm.Met.name [] c.methods=true:=by
 unfold L7 at h
 split at h
 ·cases h
 split at h
 ·rename_i j
  simp only[Wz,Bool.and_eq_true] at j
  obtain ⟨⟨⟨⟨⟨⟨⟨⟨k,v⟩,u⟩,i⟩,f⟩,n⟩,t⟩,p⟩,q⟩:=j
  refine ⟨List.all_eq_true.1 k c.name (by simp),List.all_eq_true.1 k c.super (by simp),fun o=>?_,fun m g r=>?_,p,q,n,t⟩
  ·rw[o] at i
   simp only[Bool.true_and,Bool.not_eq_true',Bool.or_eq_false_iff,Bool.not_eq_false',decide_eq_true_eq] at i
   obtain ⟨⟨⟨a,b⟩,d⟩,e⟩:=i
   refine ⟨b,d,a,fun m g=>?_⟩
   have:=List.any_eq_false.1 e m g
   simpa using this
  ·simp only[Bool.not_eq_true',Bool.or_eq_false_iff] at f
   obtain ⟨_,f⟩:=f
   have s:c.methods.any (·.abs)=true:=List.any_eq_true.2 ⟨m,g,r⟩
   rw[s] at f
   simpa using f
 ·cases h
theorem Q6p {l:List Cla} {c:Cla} (b:c∈Q3 l) (a:c.iface=true):c∈l:=by
 rcases List.mem_append.1 b with h | h
 ·have: ∀c∈B5,c.iface=false:=by decide
  rw[this c h] at a;cases a
 ·exact h
section
variable {l : List Cla} (wf : Wf l)
include wf
theorem Wf.likes {c:Cla} (f:c∈Q3 l) {u:Q9} (b:u∈c.like): ∃d,lk (Q3 l) u=some d∧d.iface=true:=by
 rcases List.mem_append.1 f with h | h
 ·rw[(Yl c h).2.2] at b;simp at b
 ·have:=wf.up c h
  unfold L5 at this
  split at this
  ·cases this
  ·split at this
   ·cases this
   ·rename_i a
    have a:=List.any_eq_false.1 (eq_false_of_ne_true a) u b
    unfold O6 at a
    cases e:lk (Q3 l) u with
    | none=>rw[e] at a;simp at a
    | some d=>rw[e] at a;exact ⟨d,rfl,by simpa using a⟩
theorem Wf.above_iface {u b:Q9} (h:Hm.Reach (lk (Q3 l)) u b): ∀d,lk (Q3 l) u=some d→d.iface=true→b=Z7∨ ∃e,lk (Q3 l) b=some e∧e.iface=true:=by
 induction h with
 | refl h=>intro d a c;exact .inr ⟨d,a,c⟩
 | step i hu j m=>
  intro d a c
  rw[i] at a;cases a
  obtain ⟨e,k,_⟩:=U1 i
  rcases List.mem_cons.1 hu with rfl | hu
  ·rw[((Q5b (wf.ck _ (Q6p k c))).2.2.1 c).1] at j
   exact .inl (wf.atRoot j)
  ·obtain ⟨f,n,g⟩:=wf.likes k hu
   exact m f n g
theorem Wf.by_chain {n b:Q9} (h:Hm.Reach (lk (Q3 l)) n b): ∀e,lk (Q3 l) b=some e→e.iface=false→b≠Z7→e∈chain (Q3 l) n:=by
 induction h with
 | refl h=>
  intro e c _ _
  rw[F8 wf.acy,c];simp
 | step m hu o r=>
  intro e c k j
  obtain ⟨en,q,_⟩:=U1 m
  rcases List.mem_cons.1 hu with rfl | hu
  ·rw[F8 wf.acy,m]
   exact List.mem_cons_of_mem _ (r e c k j)
  ·obtain ⟨f,p,d⟩:=wf.likes q hu
   rcases wf.above_iface o f p d with h | ⟨g,i,a⟩
   ·exact absurd h j
   ·rw[c] at i;cases i;rw[k] at a;cases a
theorem Wf.chain_tail: ∀(k:Nat) {n:Q9} {c:Cla},B7 (Q3 l) n<k→c∈chain (Q3 l) n→ ∃a,chain (Q3 l) n=a++chain (Q3 l) c.name:=by
 intro k
 induction k with
 | zero=>intro n c h;omega
 | succ k i=>
  intro n c o hc
  rw[F8 wf.acy] at hc
  cases b:lk (Q3 l) n with
  | none=>rw[b] at hc;simp at hc
  | some d=>
   rw[b] at hc
   have f:=(U1 b).1
   rcases List.mem_cons.1 hc with rfl | hc
   ·exact ⟨[],by rw[f];rfl⟩
   ·cases g:lk (Q3 l) d.super with
    | none=>rw[P0 g] at hc;simp at hc
    | some e=>
     have m:d.super∈J3 d:=by simp[J3]
     obtain ⟨a,j⟩:=i (by have:=Qe wf.acy b m g;omega) hc
     exact ⟨d::a,by rw[F8 wf.acy,b];show d::chain (Q3 l) d.super=_;rw[j];rfl⟩
theorem Wf.fields_tail {n:Q9} {c:Cla} (h:c∈chain (Q3 l) n): ∃a,M7 (Q3 l) n=M7 (Q3 l) c.name++a:=by
 obtain ⟨b,d⟩:=wf.chain_tail _ (Nat.lt_succ_self _) h
 exact ⟨b.reverse.flatMap (·.fields),by unfold M7;rw[d];simp⟩
theorem Wf.none_nil:lk (Q3 l) []=none:=by
 cases h:lk (Q3 l) [] with
 | none=>rfl
 | some c=>exact absurd (wf.lkn h) (by decide)
theorem Wf.fault_fields:M7 (Q3 l) W0=[⟨P4,N7,false⟩]:=by
 unfold M7
 rw[F8 wf.acy,wf.fault]
 simp only
 rw[F8 wf.acy,wf.root]
 simp only
 rw[P0 wf.none_nil]
 rfl
theorem Wf.what {n:Q9} (h:V0 (Q3 l) n W0=true) {c:Cla} (b:lk (Q3 l) n=some c):Xn (Q3 l) n P4=some 0:=by
 have d:=(wf.sub_class b).1 h
 have f:=wf.by_chain d _ wf.fault rfl (by decide)
 obtain ⟨a,e⟩:=wf.fields_tail f
 unfold Xn
 rw[e,show (Cla.mk W0 Z7 [] false false false [⟨P4,N7,false⟩] []).name=W0 from rfl,wf.fault_fields]
 rfl
end
end Go.Proofs.YtfppjenblllfaaaGreatDoor

namespace Go.Hm
open Go.Kd
end Go.Hm
namespace Go.Proofs.YtfppjenblllfaaaGreatDoor
open Go.Emb Go.RowKit Go.Kd Go.Hm
section
variable {l : List Cla} (wf : Wf l)
include wf
end
end Go.Proofs.YtfppjenblllfaaaGreatDoor
namespace Go.Proofs.YtfppjenblllfaaaGreatDoor
open Go.Emb Go.RowKit Go.Kd Go.Hm
end Go.Proofs.YtfppjenblllfaaaGreatDoor
namespace Go.Proofs.YtfppjenblllfaaaGreatDoor
open Go.Emb Go.RowKit Go.Kd Go.Hm
section
variable {l : List Cla} (wf : Wf l)
include wf
end
end Go.Proofs.YtfppjenblllfaaaGreatDoor

namespace Go.Proofs.YtfppjenblllfaaaGreatDoor
open Go.Emb Go.RowKit Go.Kd Go.Hm
variable {w : World} {K : Value → World → Prop} {σ : Q5}
def Q4n (c:Cla):Bool:=((((W8 c.name&&W8 c.super&& !decide (c.name=c.super))&&(List.range c.like.length).all fun i=>Ln c i&&(List.range i).all (I6 c i))&&(List.range c.fields.length).all fun i=>Mq c i&&(List.range i).all (Qi c i))&&(List.range c.methods.length).all fun i=>Wd c i&&(List.range i).all (Qh c i))&&Q6t c
theorem Q94 {α:Type} {f:α→Q9}: ∀(xs a:List α),H0 f a xs=true↔(xs.map f).Nodup∧ ∀x∈xs,∀y∈a,f y≠f x:=by
 intro xs
 induction xs with
 | nil=>intro a;simp[H0]
 | cons x r h=>
  intro a
  simp only[H0,Bool.and_eq_true,h,Bool.not_eq_true',List.map_cons,List.nodup_cons]
  rw[←Bool.not_eq_true,List.any_eq_true]
  simp only[decide_eq_true_eq,not_exists,not_and,List.mem_append,List.mem_cons,List.not_mem_nil,or_false,List.mem_map]
  constructor
  ·rintro ⟨d,g,c⟩
   refine ⟨⟨fun y hy e=>c y hy x (.inr rfl) e.symm,g⟩,fun y hy z b=>?_⟩
   rcases hy with rfl | hy
   ·exact d z b
   ·exact c y hy z (.inl b)
  ·rintro ⟨⟨d,g⟩,c⟩
   refine ⟨fun y hy=>c x (.inl rfl) y hy,g,fun y hy z b=>?_⟩
   rcases b with b | rfl
   ·exact c y (.inr hy) z b
   ·exact fun e=>d y hy e.symm
theorem Am {α:Type} {f:α→Q9} {xs:List α} {p:α→Bool} {P:Nat→Bool} {Q:Nat→Nat→Bool} (d: ∀i (h:i<xs.length),P i=p xs[i]) (c: ∀i (h:i<xs.length) k (o:k<xs.length),Q i k= !decide (f xs[k]=f xs[i])):
 ((List.range xs.length).all fun i=>P i&&(List.range i).all (Q i))=true↔(∀x∈xs,p x=true)∧H0 f [] xs=true:=by
 rw[Q94,List.all_eq_true]
 simp only[List.mem_range,Bool.and_eq_true,List.all_eq_true,List.not_mem_nil,false_implies,implies_true,and_true]
 rw[List.nodup_iff_pairwise_ne,List.pairwise_iff_getElem]
 simp only[List.length_map,List.getElem_map]
 constructor
 ·intro h
  refine ⟨fun x l=>?_,fun i j a e b=>?_⟩
  ·obtain ⟨i,a,rfl⟩:=List.getElem_of_mem l
   rw[←d i a];exact (h i a).1
  ·have:=(h j e).2 i b
   rw[c j e i a] at this
   simpa using this
 ·rintro ⟨n,g⟩ i a
  refine ⟨by rw[d i a];exact n _ (List.getElem_mem a),fun k m=>?_⟩
  rw[c i a k (by omega)]
  simpa using g k i (by omega) a m
theorem Q9d (c:Cla):Q4n c=Wz c:=by
 have z:=Am (f:=id) (xs:=c.like) (p:=fun y=>W8 y&& !decide (y=c.name)) (P:=Ln c) (Q:=I6 c) (fun i h=>by unfold Ln;rw[E7 h]) (fun i h k n=>by unfold I6;rw[E7 h,E7 n];rfl)
 have g:=Am (f:=Fld.name) (xs:=c.fields) (p:=fun f=>L6 f.name&&right f.kind&& !c.iface) (P:=Mq c) (Q:=Qi c) (fun i h=>by unfold Mq Hz;rw[E7 h]) (fun i h k n=>by unfold Qi Hz;rw[E7 h,E7 n])
 have d:=Am (f:=Hm.Met.name) (xs:=c.methods) (p:=fun m=>C8 m&&(!m.abs||c.abs)&&(!c.iface||m.abs)) (P:=Wd c) (Q:=Qh c) (fun i h=>by unfold Wd Df;rw[E7 h]) (fun i h k n=>by unfold Qh Df;rw[E7 h,E7 n])
 rw[Bool.eq_iff_iff]
 unfold Q4n Wz Q6t
 simp only[Bool.and_eq_true,z,g,d]
 simp only[Bool.and_eq_true,Bool.not_eq_true',Bool.or_eq_true,Bool.and_eq_false_iff,Bool.or_eq_false_iff,decide_eq_true_eq,decide_eq_false_iff_not,List.all_eq_true,List.mem_cons,List.any_eq_false,Nj,Bool.not_eq_false']
 constructor
 ·rintro ⟨⟨⟨⟨⟨⟨l,o⟩,t⟩,a,s⟩,h6,r⟩,j,u⟩,b,q⟩
  refine ⟨⟨⟨⟨⟨⟨⟨⟨?_,?_⟩,s⟩,?_⟩,q,?_⟩,r⟩,u⟩,?_⟩,fun m d=>(j m d).1.1⟩
  ·rintro x (rfl | rfl | hx)
   ·exact l
   ·exact o
   ·exact (a x hx).1
  ·rintro x (rfl | hx)
   ·exact t
   ·exact fun e=>(a x hx).2 e.symm
  ·cases v:c.iface with
   | false=>exact .inl rfl
   | true=>
    rw[v] at b h6 j
    have b:=b.resolve_left (by decide)
    refine .inr ⟨⟨b,?_⟩,fun m d e=>?_⟩
    ·rw[List.eq_nil_iff_forall_not_mem]
     intro f g
     exact absurd (h6 f g).2 (by decide)
    ·have:=(j m d).2.resolve_left (by decide)
     rw[this] at e;cases e
  ·cases A:c.abs with
   | true=>exact .inr rfl
   | false=>
    rw[A] at j
    refine .inl fun m d e=>?_
    have:=(j m d).1.2.resolve_right (by decide)
    rw[this] at e;cases e
  ·exact fun f g=>(h6 f g).1
 ·rintro ⟨⟨⟨⟨⟨⟨⟨⟨l,o⟩,t⟩,a⟩,s,h6⟩,r⟩,j⟩,u⟩,b⟩
  refine ⟨⟨⟨⟨⟨⟨l _ (.inl rfl),l _ (.inr (.inl rfl))⟩,o _ (.inl rfl)⟩,fun x hx=>⟨l x (.inr (.inr hx)),fun e=>o x (.inr hx) e.symm⟩,t⟩,fun f g=>⟨u f g,?_⟩,r⟩,fun m d=>⟨⟨b m d,?_⟩,?_⟩,j⟩,?_,s⟩
  ·rcases a with a | ⟨⟨_,a⟩,_⟩
   ·exact a
   ·rw[a] at g;simp at g
  ·rcases h6 with h6 | h6
   ·left;exact eq_false_of_ne_true (h6 m d)
   ·exact .inr h6
  ·rcases a with a | ⟨_,a⟩
   ·exact .inl a
   ·right
    cases hx:m.abs with
    | true=>rfl
    | false=>exact absurd hx (a m d)
  ·rcases a with a | ⟨⟨a,_⟩,_⟩
   ·exact .inl a
   ·exact .inr a
set_option maxHeartbeats 4000000 in
theorem Q8r {c:Cla} {cs:List Value} (hs:X4 w σ) (hc:U4 σ c cs) (h: ∀w' σ',Stp w σ w' σ'→K (.bool (Q4n c)) w'):Q1 P F.be [.agg cs.toArray] w K:=Bj (by
 unfold Vs
 obtain ⟨lv,fv,mv,rfl,f1,f2,f3,f4,f5⟩:=hc
 have cz:c.name.length≤140737488355328:=by simp only[Z9] at f4;omega
 have dc:c.super.length≤140737488355328:=by simp only[Z9] at f5;omega
 refine Y8 hs fun q w1 σ1 bb hq=>?_
 have g1:=f1.up bb
 have g2:=f2.up bb
 have g3:=f3.up bb
 have cb:=bb.sat
 have ci: ∀ok:Bool,ok=(W8 c.name&&W8 c.super&& !decide (c.name=c.super))→_:=fun ok e=>
  Q9v (w1:=w1) (σ1:=σ1) (ok:=ok) cb hq (J:=fun v w=>lp (α:=Value×Value) (v,(.int .i64 0)) w fun bd o d_ w=>
   fieldAddr P T.a (.pointer (some q)) 6 w fun c2 w=>
   Q2 P T.i c2 w fun dd w=>
   X5 P .len [T.i] T.e [false] [dd] w fun c5 w=>
   Q4 P .lss T.e (.tmp 71) (.tmp 74) o.2 c5 w fun cx w=>
   X1 cx (
    Q0 o.1 true w (fieldAddr P T.a (.pointer (some q)) 6) fun c9 w=>
    Q0 o.1 true w (Q2 P T.i c9) fun da w=>
    Q0 o.1 true w (fun w J=>J o.2 w) fun cw w=>
    Q0 o.1 true w (indexAddr P T.i da cw) fun c7 w=>
    Q0 o.1 true w (fieldAddr P T.k c7 0) fun cv w=>
    Q0 o.1 true w (Q2 P T.b cv) fun cu w=>
    Q0 o.1 true w (Q1 P F.r [cu]) fun c8 w=>
    pick P o.1 c8 (.bool false) w fun ag w=>
    Q0 ag true w (fieldAddr P T.a (.pointer (some q)) 6) fun cy w=>
    Q0 ag true w (Q2 P T.i cy) fun c3 w=>
    Q0 ag true w (fun w J=>J o.2 w) fun c6 w=>
    Q0 ag true w (indexAddr P T.i c3 c6) fun de w=>
    Q0 ag true w (fieldAddr P T.k de 1) fun c1 w=>
    Q0 ag true w (Q2 P T.b c1) fun c4 w=>
    Q0 ag true w (Q1 P F.i [c4]) fun cr w=>
    pick P ag cr (.bool false) w fun cd w=>
    Q0 cd true w (fieldAddr P T.a (.pointer (some q)) 3) fun ct w=>
    Q0 cd true w (Q2 P T.m ct) fun db w=>
    Q0 cd true w (Z8 P .not db) fun cp w=>
    pick P cd cp (.bool false) w fun ck w=>
    lp (α:=Value×Value) (ck,(.int .i64 0)) w fun bh l d_ w=>
     Q4 P .lss T.e (.tmp 102) (.tmp 103) l.2 o.2 w fun co w=>
     X1 co (
      dr w fun d n=>
      Q7 d (fun a9=> ∀w:World,n w→Q0 l.1 true w (fieldAddr P T.a (.pointer (some q)) 6) (dk d a9 w)) fun a9=>
      Q7 d (fun a5=> ∀w:World,n w→Q0 l.1 true w (fun w J=>J l.2 w) (dk d a5 w)) fun a5=>
      Q7 d (fun a6=> ∀w:World,n w→Q0 l.1 true w (fieldAddr P T.a (.pointer (some q)) 6) (dk d a6 w)) fun a6=>
      Q7 d (fun av=> ∀w:World,n w→Q0 l.1 true w (fun w J=>J o.2 w) (dk d av w)) fun av=>
      Q7 d (fun ao=> ∀aq:Value,∀w:World,n w→a9 aq w→Q0 l.1 true w (Q2 P T.i aq) (dk d ao w)) fun ao=>
      Q7 d (fun a3=> ∀ar:Value,∀ax:Value,∀w:World,n w→ao ar w→a5 ax w→Q0 l.1 true w (indexAddr P T.i ar ax) (dk d a3 w)) fun a3=>
      Q7 d (fun ba=> ∀a2:Value,∀w:World,n w→a3 a2 w→Q0 l.1 true w (fieldAddr P T.k a2 0) (dk d ba w)) fun ba=>
      Q7 d (fun b6=> ∀ap:Value,∀w:World,n w→ba ap w→Q0 l.1 true w (Q2 P T.b ap) (dk d b6 w)) fun b6=>
      Q7 d (fun aw=> ∀a7:Value,∀w:World,n w→a6 a7 w→Q0 l.1 true w (Q2 P T.i a7) (dk d aw w)) fun aw=>
      Q7 d (fun a4=> ∀a1:Value,∀a0:Value,∀w:World,n w→aw a1 w→av a0 w→Q0 l.1 true w (indexAddr P T.i a1 a0) (dk d a4 w)) fun a4=>
      Q7 d (fun az=> ∀a8:Value,∀w:World,n w→a4 a8 w→Q0 l.1 true w (fieldAddr P T.k a8 0) (dk d az w)) fun az=>
      Q7 d (fun bl=> ∀ay:Value,∀w:World,n w→az ay w→Q0 l.1 true w (Q2 P T.b ay) (dk d bl w)) fun bl=>
      ∀aq:Value,∀ax:Value,∀a7:Value,∀a0:Value,∀ar:Value,∀a2:Value,∀ap:Value,∀ce:Value,∀a1:Value,∀a8:Value,∀ay:Value,∀cf:Value,∀w:World,n w→a9 aq w→a5 ax w→a6 a7 w→av a0 w→ao ar w→a3 a2 w→ba ap w→b6 ce w→aw a1 w→a4 a8 w→az ay w→bl cf w→
      Q0 l.1 true w (Q4 P .neq T.b (.tmp 114) (.tmp 120) ce cf) fun cl w=>
      pick P l.1 cl (.bool false) w fun cj w=>
      Q4 P .add T.e (.tmp 105) (.const (.int .i64 1)) l.2 (.int .i64 1) w fun cn w=>
      bh (cj,cn) w) (
      Q4 P .add T.e (.tmp 76) (.const (.int .i64 1)) o.2 (.int .i64 1) w fun c0 w=>
      bd (l.1,c0) w)) (
    lp (α:=Value×Value) (o.1,(.int .i64 0)) w fun L f d_ w=>
     fieldAddr P T.a (.pointer (some q)) 7 w fun bp w=>
     Q2 P T.g bp w fun b7 w=>
     X5 P .len [T.g] T.e [false] [b7] w fun bq w=>
     Q4 P .lss T.e (.tmp 123) (.tmp 126) f.2 bq w fun bf w=>
     X1 bf (
      fieldAddr P T.a (.pointer (some q)) 7 w fun bx w=>
      Q2 P T.g bx w fun b4 w=>
      indexAddr P T.g b4 f.2 w fun b2 w=>
      Q2 P T.c b2 w fun bc w=>
      W6 P T.c w fun t9 w=>
      Z4 P T.c t9 bc w fun _u w=>
      Q0 f.1 true w (Q2 P T.c t9) fun bi w=>
      Q0 f.1 true w (Q1 P F.x [bi]) fun ca w=>
      pick P f.1 ca (.bool false) w fun j w=>
      Q0 j true w (fieldAddr P T.c t9 3) fun be w=>
      Q0 j true w (Q2 P T.m be) fun bw w=>
      Q0 j true w (Z8 P .not bw) fun bn w=>
      Q0 j true w (fun w J=>J bn w) fun Q w=>
      Q0 Q false w (fieldAddr P T.a (.pointer (some q)) 4) fun b9 w=>
      Q0 Q false w (Q2 P T.m b9) fun bg w=>
      Q0 j true w (pick P Q (.bool true) bg) fun b1 w=>
      pick P j b1 (.bool false) w fun k w=>
      Q0 k true w (fieldAddr P T.a (.pointer (some q)) 3) fun bm w=>
      Q0 k true w (Q2 P T.m bm) fun bj w=>
      Q0 k true w (Z8 P .not bj) fun b3 w=>
      Q0 k true w (fun w J=>J b3 w) fun H w=>
      Q0 H false w (fieldAddr P T.c t9 3) fun b5 w=>
      Q0 H false w (Q2 P T.m b5) fun b8 w=>
      Q0 k true w (pick P H (.bool true) b8) fun bs w=>
      pick P k bs (.bool false) w fun bo w=>
      lp (α:=Value×Value) (bo,(.int .i64 0)) w fun M b d_ w=>
       Q4 P .lss T.e (.tmp 158) (.tmp 159) b.2 f.2 w fun bu w=>
       X1 bu (
        dr w fun d n=>
        Q7 d (fun u=> ∀w:World,n w→Q0 b.1 true w (fieldAddr P T.a (.pointer (some q)) 7) (dk d u w)) fun u=>
        Q7 d (fun p=> ∀w:World,n w→Q0 b.1 true w (fun w J=>J b.2 w) (dk d p w)) fun p=>
        Q7 d (fun E=> ∀w:World,n w→Q0 b.1 true w (fieldAddr P T.c t9 0) (dk d E w)) fun E=>
        Q7 d (fun A=> ∀B:Value,∀w:World,n w→u B w→Q0 b.1 true w (Q2 P T.g B) (dk d A w)) fun A=>
        Q7 d (fun y=> ∀z:Value,∀s:Value,∀w:World,n w→A z w→p s w→Q0 b.1 true w (indexAddr P T.g z s) (dk d y w)) fun y=>
        Q7 d (fun r=> ∀t:Value,∀w:World,n w→y t w→Q0 b.1 true w (fieldAddr P T.c t 0) (dk d r w)) fun r=>
        Q7 d (fun O=> ∀D:Value,∀w:World,n w→r D w→Q0 b.1 true w (Q2 P T.b D) (dk d O w)) fun O=>
        Q7 d (fun N=> ∀C:Value,∀w:World,n w→E C w→Q0 b.1 true w (Q2 P T.b C) (dk d N w)) fun N=>
        ∀B:Value,∀s:Value,∀C:Value,∀z:Value,∀t:Value,∀D:Value,∀aa:Value,∀ai:Value,∀w:World,n w→u B w→p s w→E C w→A z w→y t w→r D w→O aa w→N ai w→
        Q0 b.1 true w (Q4 P .neq T.b (.tmp 170) (.tmp 172) aa ai) fun br w=>
        pick P b.1 br (.bool false) w fun cc w=>
        Q4 P .add T.e (.tmp 161) (.const (.int .i64 1)) b.2 (.int .i64 1) w fun b0 w=>
        M (cc,b0) w) (
        Q4 P .add T.e (.tmp 128) (.const (.int .i64 1)) f.2 (.int .i64 1) w fun bv w=>
        L (b.1,bv) w)) (
      Q0 f.1 true w (fieldAddr P T.a (.pointer (some q)) 3) fun ac w=>
      Q0 f.1 true w (Q2 P T.m ac) fun R w=>
      Q0 f.1 true w (Z8 P .not R) fun ab w=>
      Q0 f.1 true w (fun w J=>J ab w) fun g w=>
      Q0 g false w (fieldAddr P T.a (.pointer (some q)) 4) fun al w=>
      Q0 g false w (Q2 P T.m al) fun Z w=>
      Q0 g false w (fun w J=>J Z w) fun i w=>
      Q0 i true w (fieldAddr P T.a (.pointer (some q)) 1) fun ah w=>
      Q0 i true w (Q2 P T.b ah) fun W w=>
      Q0 i true w (Q4 P .eql T.b (.tmp 185) (.const (.string ⟨#[79,98,106,101,99,116]⟩)) W (.string ⟨#[79,98,106,101,99,116]⟩)) fun V w=>
      Q0 g false w (pick P i V (.bool false)) fun X w=>
      Q0 f.1 true w (pick P g (.bool true) X) fun ad w=>
      pick P f.1 ad (.bool false) w fun a w=>
      Q0 a true w (fieldAddr P T.a (.pointer (some q)) 4) fun Y w=>
      Q0 a true w (Q2 P T.m Y) fun af w=>
      Q0 a true w (fun w J=>J af w) fun m w=>
      Q0 m true w (fieldAddr P T.a (.pointer (some q)) 5) fun U w=>
      Q0 m true w (Q2 P T.m U) fun am w=>
      Q0 a true w (pick P m am (.bool false)) fun ae w=>
      Q0 a true w (Z8 P .not ae) fun aj w=>
      pick P a aj (.bool false) w fun ak w=>
      K ak w))) f4 g1 fun w2 σ2 an=>
  X0c (J:=fun v w=>lp (α:=Value×Value) (v,(.int .i64 0)) w fun L f d_ w=>
   fieldAddr P T.a (.pointer (some q)) 7 w fun bp w=>
   Q2 P T.g bp w fun b7 w=>
   X5 P .len [T.g] T.e [false] [b7] w fun bq w=>
   Q4 P .lss T.e (.tmp 123) (.tmp 126) f.2 bq w fun bf w=>
   X1 bf (
    fieldAddr P T.a (.pointer (some q)) 7 w fun bx w=>
    Q2 P T.g bx w fun b4 w=>
    indexAddr P T.g b4 f.2 w fun b2 w=>
    Q2 P T.c b2 w fun bc w=>
    W6 P T.c w fun t9 w=>
    Z4 P T.c t9 bc w fun _u w=>
    Q0 f.1 true w (Q2 P T.c t9) fun bi w=>
    Q0 f.1 true w (Q1 P F.x [bi]) fun ca w=>
    pick P f.1 ca (.bool false) w fun j w=>
    Q0 j true w (fieldAddr P T.c t9 3) fun be w=>
    Q0 j true w (Q2 P T.m be) fun bw w=>
    Q0 j true w (Z8 P .not bw) fun bn w=>
    Q0 j true w (fun w J=>J bn w) fun Q w=>
    Q0 Q false w (fieldAddr P T.a (.pointer (some q)) 4) fun b9 w=>
    Q0 Q false w (Q2 P T.m b9) fun bg w=>
    Q0 j true w (pick P Q (.bool true) bg) fun b1 w=>
    pick P j b1 (.bool false) w fun k w=>
    Q0 k true w (fieldAddr P T.a (.pointer (some q)) 3) fun bm w=>
    Q0 k true w (Q2 P T.m bm) fun bj w=>
    Q0 k true w (Z8 P .not bj) fun b3 w=>
    Q0 k true w (fun w J=>J b3 w) fun H w=>
    Q0 H false w (fieldAddr P T.c t9 3) fun b5 w=>
    Q0 H false w (Q2 P T.m b5) fun b8 w=>
    Q0 k true w (pick P H (.bool true) b8) fun bs w=>
    pick P k bs (.bool false) w fun bo w=>
    lp (α:=Value×Value) (bo,(.int .i64 0)) w fun M b d_ w=>
     Q4 P .lss T.e (.tmp 158) (.tmp 159) b.2 f.2 w fun bu w=>
     X1 bu (
      dr w fun d n=>
      Q7 d (fun u=> ∀w:World,n w→Q0 b.1 true w (fieldAddr P T.a (.pointer (some q)) 7) (dk d u w)) fun u=>
      Q7 d (fun p=> ∀w:World,n w→Q0 b.1 true w (fun w J=>J b.2 w) (dk d p w)) fun p=>
      Q7 d (fun E=> ∀w:World,n w→Q0 b.1 true w (fieldAddr P T.c t9 0) (dk d E w)) fun E=>
      Q7 d (fun A=> ∀B:Value,∀w:World,n w→u B w→Q0 b.1 true w (Q2 P T.g B) (dk d A w)) fun A=>
      Q7 d (fun y=> ∀z:Value,∀s:Value,∀w:World,n w→A z w→p s w→Q0 b.1 true w (indexAddr P T.g z s) (dk d y w)) fun y=>
      Q7 d (fun r=> ∀t:Value,∀w:World,n w→y t w→Q0 b.1 true w (fieldAddr P T.c t 0) (dk d r w)) fun r=>
      Q7 d (fun O=> ∀D:Value,∀w:World,n w→r D w→Q0 b.1 true w (Q2 P T.b D) (dk d O w)) fun O=>
      Q7 d (fun N=> ∀C:Value,∀w:World,n w→E C w→Q0 b.1 true w (Q2 P T.b C) (dk d N w)) fun N=>
      ∀B:Value,∀s:Value,∀C:Value,∀z:Value,∀t:Value,∀D:Value,∀aa:Value,∀ai:Value,∀w:World,n w→u B w→p s w→E C w→A z w→y t w→r D w→O aa w→N ai w→
      Q0 b.1 true w (Q4 P .neq T.b (.tmp 170) (.tmp 172) aa ai) fun br w=>
      pick P b.1 br (.bool false) w fun cc w=>
      Q4 P .add T.e (.tmp 161) (.const (.int .i64 1)) b.2 (.int .i64 1) w fun b0 w=>
      M (cc,b0) w) (
      Q4 P .add T.e (.tmp 128) (.const (.int .i64 1)) f.2 (.int .i64 1) w fun bv w=>
      L (b.1,bv) w)) (
    Q0 f.1 true w (fieldAddr P T.a (.pointer (some q)) 3) fun ac w=>
    Q0 f.1 true w (Q2 P T.m ac) fun R w=>
    Q0 f.1 true w (Z8 P .not R) fun ab w=>
    Q0 f.1 true w (fun w J=>J ab w) fun g w=>
    Q0 g false w (fieldAddr P T.a (.pointer (some q)) 4) fun al w=>
    Q0 g false w (Q2 P T.m al) fun Z w=>
    Q0 g false w (fun w J=>J Z w) fun i w=>
    Q0 i true w (fieldAddr P T.a (.pointer (some q)) 1) fun ah w=>
    Q0 i true w (Q2 P T.b ah) fun W w=>
    Q0 i true w (Q4 P .eql T.b (.tmp 185) (.const (.string ⟨#[79,98,106,101,99,116]⟩)) W (.string ⟨#[79,98,106,101,99,116]⟩)) fun V w=>
    Q0 g false w (pick P i V (.bool false)) fun X w=>
    Q0 f.1 true w (pick P g (.bool true) X) fun ad w=>
    pick P f.1 ad (.bool false) w fun a w=>
    Q0 a true w (fieldAddr P T.a (.pointer (some q)) 4) fun Y w=>
    Q0 a true w (Q2 P T.m Y) fun af w=>
    Q0 a true w (fun w J=>J af w) fun m w=>
    Q0 m true w (fieldAddr P T.a (.pointer (some q)) 5) fun U w=>
    Q0 m true w (Q2 P T.m U) fun am w=>
    Q0 a true w (pick P m am (.bool false)) fun ae w=>
    Q0 a true w (Z8 P .not ae) fun aj w=>
    pick P a aj (.bool false) w fun ak w=>
    K ak w)) an.sat (hq.up an) (g2.up an) fun w3 σ3 bk=>
  X0J (J:=fun v w=>Q0 v true w (fieldAddr P T.a (.pointer (some q)) 3) fun ac w=>
   Q0 v true w (Q2 P T.m ac) fun R w=>
   Q0 v true w (Z8 P .not R) fun ab w=>
   Q0 v true w (fun w J=>J ab w) fun g w=>
   Q0 g false w (fieldAddr P T.a (.pointer (some q)) 4) fun al w=>
   Q0 g false w (Q2 P T.m al) fun Z w=>
   Q0 g false w (fun w J=>J Z w) fun i w=>
   Q0 i true w (fieldAddr P T.a (.pointer (some q)) 1) fun ah w=>
   Q0 i true w (Q2 P T.b ah) fun W w=>
   Q0 i true w (Q4 P .eql T.b (.tmp 185) (.const (.string ⟨#[79,98,106,101,99,116]⟩)) W (.string ⟨#[79,98,106,101,99,116]⟩)) fun V w=>
   Q0 g false w (pick P i V (.bool false)) fun X w=>
   Q0 v true w (pick P g (.bool true) X) fun ad w=>
   pick P v ad (.bool false) w fun a w=>
   Q0 a true w (fieldAddr P T.a (.pointer (some q)) 4) fun Y w=>
   Q0 a true w (Q2 P T.m Y) fun af w=>
   Q0 a true w (fun w J=>J af w) fun m w=>
   Q0 m true w (fieldAddr P T.a (.pointer (some q)) 5) fun U w=>
   Q0 m true w (Q2 P T.m U) fun am w=>
   Q0 a true w (pick P m am (.bool false)) fun ae w=>
   Q0 a true w (Z8 P .not ae) fun aj w=>
   pick P a aj (.bool false) w fun ak w=>
   K ak w) bk.sat ((hq.up an).up bk) ((g3.up an).up bk) fun w4 σ4 ch=>
  X10 (K:=K) ch.sat (((hq.up an).up bk).up ch) (by rw[e];exact h _ _ (bb.trans (an.trans (bk.trans ch))))
 (repeat refine Hd.h ?_)
 refine ld cb hq rfl ?_
 refine Qs c.name cz ?_
 cases d1:W8 c.name with
 | false=>(repeat refine Hd.h ?_);exact ci false (by rw[d1];rfl)
 | true=>
  (repeat refine Hd.h ?_)
  refine ld cb hq rfl ?_
  (repeat refine Hd.h ?_)
  refine Qs c.super dc ?_
  cases d2:W8 c.super with
  | false=>(repeat refine Hd.h ?_);exact ci false (by rw[d1,d2];rfl)
  | true=>
   (repeat refine Hd.h ?_)
   refine ld cb hq rfl ?_
   (repeat refine Hd.h ?_)
   refine ld cb hq rfl ?_
   (repeat refine Hd.h ?_)
   refine Lf ?_
   (repeat refine Hd.h ?_)
   exact ci _ (by rw[d1,d2];rfl))
theorem Q2i {c:Cla} {cs:List Value} (o:X4 w σ) (e:U4 σ c cs) (h: ∀w' r,Stp w σ w' r→K (I (L7 c)) w'):Q1 P F.bb [.agg cs.toArray] w K:=Fa (by
 unfold Vz
 have g:=Rep.one (R:=U4) e
 obtain ⟨t,k,mv,rfl,p,l,s,m,n⟩:=e
 have e:U4 σ c _:=⟨t,k,mv,rfl,p,l,s,m,n⟩
 refine Y8 o fun q w1 σ1 a i=>?_
 unfold L7 at h
 refine Y7 a.sat i rfl ?_
 refine Q91 a.sat (RCl_lift e ⟨a.le⟩) fun y v b=>?_
 cases j:Xx c with
 | true=>simp only[j,if_true] at h;(try simp only[↓M1,M1,Mb,reduceIte]);exact h _ _ (a.trans b)
 | false=>
  simp only[j,Bool.false_eq_true,if_false] at h
  (try simp only[↓M1,M1,Mb,reduceIte])
  refine Y7 b.sat (i.up b) rfl ?_
  refine Q8r b.sat (RCl_lift e ⟨(a.trans b).le⟩) fun u z d=>?_
  rw[Q9d]
  cases f:Wz c with
  | true=>simp only[f,if_true] at h;(try simp only[↓M1,M1,Mb,reduceIte]);exact h _ _ (a.trans (b.trans d))
  | false=>simp only[f,Bool.false_eq_true,if_false] at h;(try simp only[↓M1,M1,Mb,reduceIte]);exact h _ _ (a.trans (b.trans d)))
end Go.Proofs.YtfppjenblllfaaaGreatDoor

namespace Go.Emb
open Go.RowKit Go.Hm
end Go.Emb
namespace Go.Hm
end Go.Hm
namespace Go.Proofs.YtfppjenblllfaaaGreatDoor
open Go.Emb Go.RowKit Go.Kd Go.Hm
variable {w : World} {K : Value → World → Prop} {σ : Q5} {l : List Cla}
theorem Q44 {a b:Q9} (ok:Ok (Q3 l)) (e:a.length≤Z9) (f:b.length≤Z9):(L1 (Q3 l) a b).length≤Z9:=by
 unfold L1
 split
 ·exact f
 split
 ·exact e
 split
 ·exact Nat.zero_le _
 split
 ·rename_i c d
  have g:=(Q0P ok.acy _ (Nat.lt_succ_self _) (List.mem_of_find?_eq_some d)).2
  have:=(ok.nm c (U1 g).2.1).1
  exact Nat.le_trans this (by decide)
 ·decide
end Go.Proofs.YtfppjenblllfaaaGreatDoor

namespace Go.Hm
open Go.Kd
structure Alike (l m : List Cla) : Prop where
  lk : lk l = lk m
  len : l.length = m.length
  weigh : weigh l [] = weigh m []
section
variable {l m : List Cla} (h : Alike l m)
include h
end
theorem X0p {l:List Cla} {frm:Nat}: ∀(f:Nat) (a:List Nat) (i:Nat),∀y∈I0 l frm f a i,y∈a∨frm≤y:=by
 intro f
 induction f with
 | zero=>intro a i y hy;exact .inl hy
 | succ f c=>
  intro a i y hy
  simp only[I0] at hy
  split at hy
  ·exact .inl hy
  ·split at hy
   ·exact .inl hy
   ·rename_i e _
    rcases List.mem_append.1 hy with hy | hy
    ·exact Uy (p:=fun y=>frm≤y) _ _ (fun b x _ z d=>c b _ z d) y hy
    ·simp at hy;omega
theorem Q9x {a:List Cla} (g:G6 a): ∀j∈U8 a 8,8≤j∧j<a.length:=by
 intro j c
 unfold U8 at c
 have i:=Uy (p:=fun y=>8≤y) _ _ (fun b x _ z d=>X0p _ b x z d) j c
 have f:=Uy (p:=fun y=>y<a.length) _ _ (fun b x e z d=>(Q4Z g (by omega) _ b x (by
  have:=List.mem_of_mem_drop e
  simpa using this) z d).imp id (·.1)) j c
 exact ⟨i.resolve_left (by simp),f.resolve_left (by simp)⟩
end Go.Hm
namespace Go.Proofs.YtfppjenblllfaaaGreatDoor
open Go.Emb Go.RowKit Go.Kd Go.Hm
end Go.Proofs.YtfppjenblllfaaaGreatDoor

namespace Go.Hm
open Go.Kd
theorem Q7f {a:List Cla} {m:Nat} (b:m<a.length):Y4 a (X9 a m)=some m↔Y4 (a.take m) (X9 a m)=none:=by
 have e:X9 a m=a[m].name:=by unfold X9;rw[List.getD_eq_getElem?_getD,List.getElem?_eq_getElem b];rfl
 unfold Y4
 rw[List.findIdx?_eq_some_iff_getElem,List.findIdx?_eq_none_iff]
 constructor
 ·rintro ⟨k,i,d⟩ c f
  obtain ⟨j,g,rfl⟩:=List.mem_take_iff_getElem.1 f
  simpa using d j (by omega)
 ·intro h
  refine ⟨b,by simp[e],fun j g=>?_⟩
  simpa using h a[j] (List.mem_take_iff_getElem.2 ⟨j,by omega,rfl⟩)
theorem Q7b {a:List Cla} (c:G6 a) {m:Nat} (b:m<a.length):A0 a (X9 a m) (X9 a m)=G2 a a[m]:=by
 have d:X9 a m=a[m].name:=by unfold X9;rw[List.getD_eq_getElem?_getD,List.getElem?_eq_getElem b];rfl
 unfold A0 G2
 rw[Qq c b,List.getD_eq_getElem?_getD,List.getElem?_eq_getElem b]
 simp only[Option.getD_some,d]
end Go.Hm
namespace Go.Proofs.YtfppjenblllfaaaGreatDoor
open Go.Emb Go.RowKit Go.Kd Go.Hm
variable {w : World} {K : Value → World → Prop} {σ : Q5} {l : List Cla}
theorem Q6E: ∀c∈B5,Xx c=false:=by decide
theorem Q6F {c:Cla} (h:L7 c=0):Xx c=false:=by
 unfold L7 at h
 split at h
 ·cases h
 ·rename_i a;exact eq_false_of_ne_true a
set_option maxHeartbeats 4000000 in
theorem X0g {lv:Value} (hs:X4 w σ) (hl:Sl 8 U4 σ lv l) (c0:l.length≤900)
 (C: ∀i e w' B,Dx L7 l=some (i,e)→Stp w σ w' B→K (.tuple #[.slice none 0 0,I i,I e]) w')
 (h0: ∀v w' B,Dx L7 l=none→Stp w σ w' B→Sl 8 U4 B v (Q3 l)→Ok (Q3 l)→G6 (Q3 l)→K (.tuple #[v,I 0,I 0]) w'):Q1 P F.bu [lv] w K:=Po (by
 unfold Nx
 have y:B5.length=8:=rfl
 have ds:(Q3 l).length=8+l.length:=by simp[Q3,y]
 refine Q7A hs fun x0 w1 σ1 bl bg=>?_
 refine Q6u bg ?_
 rw[y]
 refine D2 l.length (fun n x w'=> ∃B,Stp w σ w' B∧V6 w.heap.size T.a 8 U4 B w' x (B5++l.take n)∧L4 L7 l 0=L4 L7 (l.drop n) n)
  ⟨σ1,bl,by simpa using bg,rfl⟩ fun n x w4 d J b=>?_
 obtain ⟨σ4,ad,a3,D⟩:=b
 have ab:=hl.up ad
 refine Q8 ab ?_
 refine Z0 ?_
 refine Q6 (fun hh=>?_) (fun hh=>?_)
 ·have a:n<l.length:=by simpa using hh
  obtain ⟨b4,br,bs,p1,r1⟩:=ab.elC a
  refine J5 ab a ?_
  refine Y7 ad.sat p1 rfl ?_
  refine Q2i ad.sat r1 fun w6 σ6 Z=>?_
  have ce:=ad.trans Z
  have Q:=Ui a D
  refine I4 ?_
  refine Q6 (fun m=>?_) (fun m=>?_)
  ·have r: ¬L7 l[n]=0:=by simpa using m
   rw[if_neg r] at Q
   refine C _ _ _ _ ?_ ce
   unfold Dx
   rw[Q]
  ·have hz:L7 l[n]=0:=by simpa using m
   rw[if_pos hz] at Q
   refine J5 (ab.up Z) a ?_
   refine Y7 Z.sat (p1.up Z) rfl ?_
   have cm:=a3.up Z
   have r6:=RCl_lift r1 ⟨Z.le⟩
   refine Jm (R:=U4) (x:=l[n]) ce cm (by simpa [Value.cells] using r6) rfl rfl rfl (by simp[y];omega) (by simp[y];omega) fun s v' w9 σ9 c9 p cr az=>?_
   refine E5 ?_
   refine Z6 ab.max a ⟨σ9,p,?_,Q⟩
   rw[List.take_add_one,List.getElem?_eq_getElem a,←List.append_assoc]
   exact cr
 have a: ¬n<l.length:=by simpa using hh
 rw[List.take_of_length_le (by omega)] at a3
 rw[List.drop_eq_nil_of_le (by omega)] at D
 have D:L4 L7 l 0=none:=D
 have b2:=F6 D
 have bf: ∀c∈l,T0 c∧Nm c∧c.name≠[]:=fun c hc=>Se (b2 c hc)
 have q: ∀c∈Q3 l,T0 c:=fun c hc=>by
  rcases List.mem_append.1 hc with hc | hc
  ·exact (Yl c hc).1
  ·exact (bf c hc).1
 have a2: ∀c∈Q3 l,Nm c:=fun c hc=>by
  rcases List.mem_append.1 hc with hc | hc
  ·exact (Yl c hc).2.1
  ·exact (bf c hc).2.1
 have aa: ∀c∈Q3 l,Xx c=false:=fun c hc=>by
  rcases List.mem_append.1 hc with hc | hc
  ·exact Q6E c hc
  ·exact Q6F (b2 c hc)
 have al:(Q3 l).length≤100000:=by omega
 unfold Dx at C h0
 rw[D] at C h0
 simp only at C h0
 obtain ⟨σ5,o,E,c7,cy⟩:=a3.keep ad
 change Sl 8 U4 σ5 x (Q3 l) at E
 clear a3 ad ab a hh J D bg bl
 have t: ∀{n:Nat} (J:n<l.length),∃(h:8+n<(Q3 l).length),(Q3 l)[8+n]=l[n]:=fun {n} J=>⟨by omega,by
  unfold Q3
  rw[List.getElem_append_right (by rw[y];omega)]
  congr 1
  rw[y];omega⟩
 have b1: ∀{n:Nat} (J:n<l.length),X9 (Q3 l) (8+n)=l[n].name:=fun {n} J=>by
  obtain ⟨C,h2⟩:=t J
  rw[Ge C,h2]
 have bn: ∀j,j<8→(Y4 ((Q3 l).take j) (X9 (Q3 l) j)).isSome=false:=by
  have hd: ∀j,j<8→(Y4 (B5.take j) (X9 B5 j)).isSome=false:=by decide
  intro j hj
  have e1:(Q3 l).take j=B5.take j:=by unfold Q3;rw[List.take_append_of_le_length (by rw[y];omega)]
  have e2:X9 (Q3 l) j=X9 B5 j:=by
   unfold X9 Q3;rw[List.getD_eq_getElem?_getD,List.getD_eq_getElem?_getD,List.getElem?_append_left (by rw[y];omega)]
  rw[e1,e2];exact hd j hj
 refine J0 l.length (fun n w'=>Stp w σ w' σ5∧ ∀j,j<8+n→(Y4 ((Q3 l).take j) (X9 (Q3 l) j)).isSome=false) ⟨o,by simpa using bn⟩ fun n w5 d J b=>?_
 clear o
 obtain ⟨o,a4⟩:=b
 have av:=hl.up o
 refine Q8 av ?_
 refine Z0 ?_
 refine Q6 (fun hh=>?_) (fun hh=>?_)
 ·have a:n<l.length:=by simpa using hh
  obtain ⟨b4,br,bs,p1,r1⟩:=av.elC a
  refine J5 av a ?_
  (try simp only[↓M1,M1,Mb,reduceIte])
  refine ld o.sat p1 rfl ?_
  refine F7 o.sat E ?_
  rw[F0 (by omega) (by omega)]
  refine I4 ?_
  obtain ⟨M,e8⟩:=t a
  rw[←b1 a]
  have cb:=Q7f M
  cases ae:Y4 ((Q3 l).take (8+n)) (X9 (Q3 l) (8+n)) with
  | none=>
   rw[cb.2 ae]
   have e:decide (W5 (some (8+n))=(8:Nat)+(n:Int))=true:=by simp[W5]
   rw[e]
   (try simp only[↓M1,M1,Mb,reduceIte])
   refine Y2 av.max a ⟨o,fun j hj=>?_⟩
   by_cases ej:j=8+n
   ·rw[ej,ae];rfl
   ·exact a4 j (by omega)
  | some i=>
   have r:Y4 (Q3 l) (X9 (Q3 l) (8+n))≠some (8+n):=fun e=>by rw[cb.1 e] at ae;cases ae
   have e:decide (W5 (Y4 (Q3 l) (X9 (Q3 l) (8+n)))=(8:Nat)+(n:Int))=false:=by
    rw[decide_eq_false_iff_not]
    intro e
    cases hf:Y4 (Q3 l) (X9 (Q3 l) (8+n)) with
    | none=>rw[hf] at e;simp only[W5] at e;omega
    | some k=>
     rw[hf] at e r
     simp only[W5] at e
     apply r
     congr 1;omega
   rw[e]
   (try simp only[↓M1,M1,Mb,reduceIte])
   have U:Er (Q3 l)=some (8+n):=by
    unfold Er
    rw[List.find?_range_eq_some]
    refine ⟨by rw[ae];rfl,by simpa using M,fun j hj=>by rw[a4 j hj];rfl⟩
   refine C _ _ _ _ ?_ o
   rw[U]
   have:((8+n:Nat):Int)-8=n:=by omega
   simp only[this]
 have a: ¬n<l.length:=by simpa using hh
 have U:Er (Q3 l)=none:=by
  unfold Er
  rw[List.find?_eq_none]
  intro j hj
  rw[a4 j (by have:=List.mem_range.1 hj;omega)];simp
 rw[U] at C h0
 simp only at C h0
 have g:=Bi U
 clear a4 hh a J av bn
 refine J0 l.length (fun n w'=> ∃B,Stp w σ w' B∧SLe σ5 B∧L4 (fun c=>(L5 (Q3 l) c:Int)) l 0=L4 (fun c=>(L5 (Q3 l) c:Int)) (l.drop n) n) ⟨σ5,o,SLe.refl _,rfl⟩ fun n w6 d J b=>?_
 obtain ⟨σ9,p,ah,ac⟩:=b
 have ao:=hl.up p
 refine Q8 ao ?_
 refine Z0 ?_
 refine Q6 (fun hh=>?_) (fun hh=>?_)
 ·have a:n<l.length:=by simpa using hh
  obtain ⟨b4,br,bs,p1,r1⟩:=ao.elC a
  refine J5 ao a ?_
  refine Y7 p.sat p1 rfl ?_
  have V:=Ui a ac
  refine Q6D p.sat (E.lift ah) r1 fun w8 cp af=>?_
  refine I4 ?_
  refine Q6 (fun m=>?_) (fun m=>?_)
  ·have r: ¬(L5 (Q3 l) l[n]:Int)=0:=by simpa using m
   rw[if_neg r] at V
   refine C _ _ _ _ ?_ (p.trans af)
   rw[V]
  ·have hz:(L5 (Q3 l) l[n]:Int)=0:=by simpa using m
   rw[if_pos hz] at V
   refine E5 ?_
   exact Y2 ao.max a ⟨cp,p.trans af,ah.more ⟨af.le⟩,V⟩
 have a: ¬n<l.length:=by simpa using hh
 rw[List.drop_eq_nil_of_le (by omega)] at ac
 have ac:L4 (fun c=>(L5 (Q3 l) c:Int)) l 0=none:=ac
 rw[ac] at C h0
 simp only at C h0
 have bq:=F6 ac
 clear hh a J o ao
 refine Pn p.sat (E.lift ah) g (by omega) (by omega) q fun vb c6 bo aw ax=>?_
 have f:=p.trans aw
 have a6:=ah.more ⟨aw.le⟩
 have a0:(C4 (Q3 l)).length=(Q3 l).length:=by simp[C4]
 refine J0 l.length (fun n w'=>Stp w σ w' bo∧ ∀j (hj:j<l.length),j<n→G2 (Q3 l) l[j]=false) ⟨f,fun j _ h=>by omega⟩ fun n c8 d J b=>?_
 clear f
 obtain ⟨f,a5⟩:=b
 have ap:=hl.up f
 refine Q8 ap ?_
 refine Z0 ?_
 refine Q6 (fun hh=>?_) (fun hh=>?_)
 ·have a:n<l.length:=by simpa using hh
  obtain ⟨M,e8⟩:=t a
  refine Cf ⟨by omega,by omega⟩ ?_
  have ec:((8:Nat):Int)+(n:Int)=((8+n:Nat):Int):=by omega
  rw[ec]
  obtain ⟨c4,pb,_,rv,rfl,rb⟩:=ax.el (i:=8+n) (by rw[a0];exact M)
  have bm:(C4 (Q3 l))[8+n]'(by rw[a0];exact M)=(List.range (Q3 l).length).map fun j=>A0 (Q3 l) (X9 (Q3 l) (8+n)) (X9 (Q3 l) j):=by simp[C4]
  rw[bm] at rb
  obtain ⟨cn,bi,_,ag⟩:=rb.el (i:=8+n) (by simpa using M)
  have ag:cn=_:=ag
  subst ag
  simp only[List.getElem_map,List.getElem_range] at bi
  rw[Q7b g M,e8] at bi
  refine J5 ax (by rw[a0];exact M) ?_
  refine X8 f.sat pb rfl ?_
  refine Cf ⟨by omega,by omega⟩ ?_
  rw[ec]
  refine J5 rb (by simpa using M) ?_
  refine X8 f.sat bi rfl ?_
  cases b8:G2 (Q3 l) l[n] with
  | true=>
   (try simp only[↓M1,M1,Mb,reduceIte])
   have bh:l.findIdx? (G2 (Q3 l))=some n:=by
    rw[List.findIdx?_eq_some_iff_getElem]
    exact ⟨a,b8,fun j hj=>by simpa using a5 j (by omega) hj⟩
   refine C _ _ _ _ ?_ f
   rw[bh]
  | false=>
   (try simp only[↓M1,M1,Mb,reduceIte])
   refine Y2 ap.max a ⟨f,fun j hj dj=>?_⟩
   by_cases e:j=n
   ·subst e;exact b8
   ·exact a5 j hj (by omega)
 have a: ¬n<l.length:=by simpa using hh
 have bc: ∀c∈l,G2 (Q3 l) c=false:=fun c hc=>by
  obtain ⟨j,hj,rfl⟩:=List.getElem_of_mem hc
  exact a5 j hj (by omega)
 have bh:l.findIdx? (G2 (Q3 l))=none:=by
  rw[List.findIdx?_eq_none_iff];exact bc
 rw[bh] at C h0
 simp only at C h0
 clear a5 hh a J ap ax aw p a0
 have am:=Q4d g (fun c hc=>(bf c hc).2.2) bc
 have ai:Q9h (Q3 l):=fun c hc u hu=>by
  rcases List.mem_append.1 hc with hc | hc
  ·rw[(Yl c hc).2.2] at hu;simp at hu
  ·have:=bq c hc
   unfold L5 at this
   split at this
   ·simp at this
   ·split at this
    ·simp at this
    ·rename_i z
     have z:c.like.any (O6 (Q3 l))=false:=eq_false_of_ne_true z
     have:=List.any_eq_false.1 z u hu
     unfold O6 at this
     cases hd:lk (Q3 l) u with
     | none=>rw[hd] at this;simp at this
     | some d=>exact ⟨d,rfl⟩
 have bu:Ok (Q3 l):=⟨am,al,q,ai,a2⟩
 have ch: ∀i (hi:i<(Q3 l).length),8≤i→ ∀u∈J3 (Q3 l)[i],∃j,Y4 (Q3 l) u=some j:=fun i hi M u hu=>by
  have ak:i-8<l.length:=by omega
  obtain ⟨dg,e8⟩:=t ak
  have cq:(Q3 l)[i]=l[i-8]:=by rw[←e8];congr 1;omega
  rw[cq] at hu
  have bb:=List.getElem_mem ak
  rcases List.mem_cons.1 hu with hu | hu
  ·have:=bq _ bb
   unfold L5 at this
   split at this
   ·simp at this
   ·rename_i z
    unfold P7 at z
    rw[←hu] at z
    cases hd:lk (Q3 l) u with
    | none=>rw[hd] at z;simp at z
    | some d=>obtain ⟨_,_,j,hj,_⟩:=U1 hd;exact ⟨j,hj⟩
  ·obtain ⟨d,hd⟩:=ai _ (List.mem_append_right _ bb) u hu
   obtain ⟨_,_,j,hj,_⟩:=U1 hd;exact ⟨j,hj⟩
 refine Ao (R:=Ul) (e:=T.e) f (by decide) fun de du bd a8 _=>?_
 refine D2 l.length (fun n x' w'=> ∃B H,Stp w σ w' B∧SLe σ5 B∧V6 w.heap.size T.e 1 Ul B w' x' (ints H)∧Ak (Q3 l) H∧H=(((List.range (Q3 l).length).drop 8).take n).foldl (fun H i=>Qk (Q3 l) 8 H i) [])
  ⟨bo,[],f.trans bd,a6,a8,⟨List.nodup_nil,by simp⟩,rfl⟩ fun n x' dq d J b=>?_
 clear a8 bd f a6 ah
 obtain ⟨dm,H,X,W,ar,ay,aj⟩:=b
 have aq:=hl.up X
 refine Q8 aq ?_
 refine Z0 ?_
 refine Q6 (fun hh=>?_) (fun hh=>?_)
 ·have a:n<l.length:=by simpa using hh
  obtain ⟨M,e8⟩:=t a
  refine Cf ⟨by omega,by omega⟩ ?_
  have ec:((8:Nat):Int)+(n:Int)=((8+n:Nat):Int):=by omega
  rw[ec]
  refine X0f am g (by omega) q (by omega) ch ((Q3 l).length+1) M (Nat.lt_succ_of_le (Q02 _ _)) ay X (E.lift W) ar fun dh db cl bv cc ca=>?_
  refine E5 ?_
  refine Z6 aq.max a ⟨cl,_,bv,W.more cc,ca,Gw am g (by omega) _ _ _ M ay,?_⟩
  rw[List.take_add_one,List.getElem?_drop,List.getElem?_range M,List.foldl_append,←aj]
  rfl
 have a: ¬n<l.length:=by simpa using hh
 have cj:n=l.length:=by omega
 subst cj
 have bw:H=U8 (Q3 l) 8:=by
  rw[aj,List.take_of_length_le (by rw[List.length_drop,List.length_range];omega)];rfl
 subst bw
 clear aj hh a J
 have dp:=ay.len
 have co:=Q9x g
 obtain ⟨cf,b3,cd,be,_⟩:=ar.keep X
 have bk:=W.more ⟨be⟩
 clear ar X be W aq
 have ak:(ints (U8 (Q3 l) 8)).length=(U8 (Q3 l) 8).length:=by simp
 refine J0 (U8 (Q3 l) 8).length (fun n w'=> ∃B,Stp w σ w' B∧SLe cf B∧ ∀j∈(U8 (Q3 l) 8).take n,V1 (Q3 l) ((Q3 l).getD j Cla.zero)=0) ⟨cf,b3,SLe.refl _,by simp⟩ fun n c3 d J b=>?_
 obtain ⟨dw,Y,O,a1⟩:=b
 have N:=cd.lift O
 refine Q8 N ?_
 rw[ak]
 refine Z0 ?_
 refine Q6 (fun hh=>?_) (fun hh=>?_)
 ·have a:n<(U8 (Q3 l) 8).length:=by simpa using hh
  have b7:n<(ints (U8 (Q3 l) 8)).length:=by rw[ak];exact a
  refine J5 N b7 ?_
  obtain ⟨cs,pc,_,ck⟩:=N.el b7
  obtain ⟨rfl,_⟩:=ck
  simp only[List.getElem_map] at pc
  refine X8 Y.sat pc rfl ?_
  have b0:=(co _ (List.getElem_mem a)).2
  have az:(Q3 l).getD (U8 (Q3 l) 8)[n] Cla.zero=(Q3 l)[(U8 (Q3 l) 8)[n]]:=by rw[List.getD_eq_getElem?_getD,List.getElem?_eq_getElem b0];rfl
  refine Q5q Y.sat (E.lift (bk.more O)) bu g (by omega) aa b0 fun di b6 A=>?_
  have a9:=Y.trans A
  refine I4 ?_
  refine Q6 (fun m=>?_) (fun m=>?_)
  ·have r: ¬V1 (Q3 l) (Q3 l)[(U8 (Q3 l) 8)[n]]=0:=by simpa using m
   have cw:=N.up A
   have bp:=pc.up A
   refine U6 A.sat ?_
   (repeat refine U9 I9 ?_)
   (intros;(repeat (rename_i hx;subst hx));(try simp only[↓M2,M2,Mb,reduceIte]))
   rename_i cu ba
   refine X8 ba.sat bp rfl ?_
   refine Dj ⟨by omega,by omega⟩ ?_
   have L:(U8 (Q3 l) 8).find? (fun j=> !decide (V1 (Q3 l) ((Q3 l).getD j Cla.zero)=0))=some (U8 (Q3 l) 8)[n]:=by
    rw[List.find?_eq_some_iff_getElem]
    refine ⟨by rw[az];simpa using r,n,a,rfl,fun j hj=>?_⟩
    have:=a1 _ (List.mem_take_iff_getElem.2 ⟨j,by omega,rfl⟩)
    rw[this];simp
   have:=C (((U8 (Q3 l) 8)[n]:Int)-8) (V1 (Q3 l) (Q3 l)[(U8 (Q3 l) 8)[n]]) cu b6 (by rw[L];simp only[az]) (a9.trans ba.stp)
   exact this
  ·have hz:V1 (Q3 l) (Q3 l)[(U8 (Q3 l) 8)[n]]=0:=by simpa using m
   refine E5 ?_
   refine Y2 (by omega) a ⟨b6,a9,O.more ⟨A.le⟩,fun j hj=>?_⟩
   rw[List.take_add_one,List.getElem?_eq_getElem a] at hj
   rcases List.mem_append.1 hj with hj | hj
   ·exact a1 j hj
   ·simp at hj;subst hj;rw[az];exact hz
 ·have a: ¬n<(U8 (Q3 l) 8).length:=by simpa using hh
  rw[List.take_of_length_le (by omega)] at a1
  have L:(U8 (Q3 l) 8).find? (fun j=> !decide (V1 (Q3 l) ((Q3 l).getD j Cla.zero)=0))=none:=by
   rw[List.find?_eq_none]
   intro j hj
   rw[a1 j hj];simp
  rw[L] at h0
  exact h0 _ _ _ rfl Y (E.lift (bk.more O)) bu g)
end Go.Proofs.YtfppjenblllfaaaGreatDoor

namespace Go.Hm
open Go.Kd
def Q7o:Ins:=⟨[105,110,116],1,[]⟩
def Tc:Ins:=⟨[114,101,116,117,114,110],0,[]⟩
def kA:Q9:=[65]
def fX:Fld:=⟨[120],V5,false⟩
def Q06:Fld:=⟨[110,101,120,116],kA,false⟩
def fL:Fld:=⟨[108],[65,91,93],false⟩
def mF:Hm.Met:=⟨[102],[V5,kA],V5,false,3,[Q7o,Tc],[]⟩
def mG:Hm.Met:=⟨[103],[],[],false,1,[Tc],[]⟩
def cA:Cla:=⟨kA,Z7,[],false,false,false,[fX,Q06],[mF,mG]⟩
def cB:Cla:=⟨[66],kA,[[73]],false,false,false,[fL],[]⟩
def cI:Cla:=⟨[73],Z7,[],true,true,false,[],[]⟩
def cD:Cla:=⟨[68],Z7,[],false,true,false,[],[]⟩
def Mu:List Cla:=[cA,cB,cI,cD]
end Go.Hm
namespace Go.Proofs.YtfppjenblllfaaaGreatDoor
open Go.Emb Go.RowKit Go.Kd Go.Hm
variable {w w' : World} {K : Value → World → Prop} {σ σ' : Q5} {ds : List Value} {l : List Cla} {hp tv : Value}
set_option maxRecDepth 100000 in
theorem Q10:Dx L7 Mu=none:=by decide+kernel
theorem X0a: ∀c∈Mu,T0 c:=X1n (by decide)
theorem X0t:Wf Mu:=X1U Q10
theorem Gn:(Q3 Mu).length≤1000:=by decide
set_option maxHeartbeats 1000000 in
theorem Q2H (Y:X4 w σ) (h: ∀v w' σ',Stp w σ w' σ'→Sl 8 U4 σ' v Mu→K v w'):Q1 P F.ax [] w K:=Ru (by
 unfold Ue
 refine W1 (cells:= #[S Q7o.op,I 1,S []]) (by kernel_rfl) ?_
 refine W1 (cells:= #[S Tc.op,I 0,S []]) (by kernel_rfl) ?_
 refine E3 (R:=I8) (sz:=3) Y [.agg #[S Q7o.op,I 1,S []], .agg #[S Tc.op,I 0,S []]] [Q7o,Tc] rfl rfl (by simp;exact ⟨rfl,rfl⟩) rfl ⟨⟨rfl,by decide,by decide,by decide⟩,⟨rfl,by decide,by decide,by decide⟩,trivial⟩ fun v1 w1 σ1 m d=>?_
 refine W1 (cells:= #[S fX.name,S fX.kind, .bool false]) (by kernel_rfl) ?_
 refine W1 (cells:= #[S Q06.name,S Q06.kind, .bool false]) (by kernel_rfl) ?_
 refine E3 (R:=E6) (sz:=3) m.sat [.agg #[S fX.name,S fX.kind, .bool false], .agg #[S Q06.name,S Q06.kind, .bool false]] [fX,Q06] rfl rfl (by simp;exact ⟨rfl,rfl⟩) rfl ⟨⟨rfl,by decide,by decide⟩,⟨rfl,by decide,by decide⟩,trivial⟩ fun v2 w2 σ2 g e=>?_
 refine E3 (R:=Y1) (sz:=1) g.sat [S V5,S kA] [V5,kA] rfl rfl (by simp;exact ⟨rfl,rfl⟩) rfl ⟨⟨rfl,by decide⟩,⟨rfl,by decide⟩,trivial⟩ fun v3 w3 σ3 c p=>?_
 have j:=d;have t:=e;have u:=p
 obtain ⟨L,Q,rfl,_⟩:=j
 obtain ⟨J,H,rfl,_⟩:=t
 obtain ⟨M,D,rfl,_⟩:=u
 have d:=(d.up g).up c
 have e:=e.up c
 refine W1 (cells:= #[S mF.name, .slice M 2 D,S V5, .bool false,I 3, .slice L 2 Q, .slice none 0 0]) (by kernel_rfl) ?_
 refine W1 (cells:= #[S Tc.op,I 0,S []]) (by kernel_rfl) ?_
 refine E3 (R:=I8) (sz:=3) c.sat [.agg #[S Tc.op,I 0,S []]] [Tc] rfl rfl (by simp;rfl) rfl ⟨⟨rfl,by decide,by decide,by decide⟩,trivial⟩ fun v4 w4 σ4 b r=>?_
 have s:=r
 obtain ⟨C,O,rfl,_⟩:=s
 refine W1 (cells:= #[S mG.name, .slice none 0 0,S [], .bool false,I 1, .slice C 1 O, .slice none 0 0]) (by kernel_rfl) ?_
 refine E3 (R:=M5) (sz:=7) b.sat [.agg #[S mF.name, .slice M 2 D,S V5, .bool false,I 3, .slice L 2 Q, .slice none 0 0], .agg #[S mG.name, .slice none 0 0,S [], .bool false,I 1, .slice C 1 O, .slice none 0 0]] [mF,mG] rfl rfl (by simp;exact ⟨rfl,rfl⟩) rfl
  ⟨⟨_,_,_,rfl,p.up b,d.up b,Sl.nil,by decide,by decide,by decide⟩,⟨_,_,_,rfl,Sl.nil,r,Sl.nil,by decide,by decide,by decide⟩,trivial⟩ fun v5 w5 σ5 i k=>?_
 have o:=k
 obtain ⟨X,W,rfl,_⟩:=o
 refine W1 (cells:= #[S kA,S Z7, .slice none 0 0, .bool false, .bool false, .bool false, .slice J 2 H, .slice X 2 W]) (by kernel_rfl) ?_
 refine E3 (R:=Y1) (sz:=1) i.sat [S [73]] [[73]] rfl rfl (by simp;rfl) rfl ⟨⟨rfl,by decide⟩,trivial⟩ fun v6 w6 σ6 f q=>?_
 have n:=q
 obtain ⟨U,V,rfl,_⟩:=n
 refine W1 (cells:= #[S fL.name,S fL.kind, .bool false]) (by kernel_rfl) ?_
 refine E3 (R:=E6) (sz:=3) f.sat [.agg #[S fL.name,S fL.kind, .bool false]] [fL] rfl rfl (by simp;rfl) rfl ⟨⟨rfl,by decide,by decide⟩,trivial⟩ fun v7 w7 σ7 a z=>?_
 have y:=z
 obtain ⟨E,N,rfl,_⟩:=y
 refine W1 (cells:= #[S cB.name,S kA, .slice U 1 V, .bool false, .bool false, .bool false, .slice E 1 N, .slice none 0 0]) (by kernel_rfl) ?_
 refine W1 (cells:= #[S cI.name,S Z7, .slice none 0 0, .bool true, .bool true, .bool false, .slice none 0 0, .slice none 0 0]) (by kernel_rfl) ?_
 refine W1 (cells:= #[S cD.name,S Z7, .slice none 0 0, .bool false, .bool true, .bool false, .slice none 0 0, .slice none 0 0]) (by kernel_rfl) ?_
 refine E3 (R:=U4) (sz:=8) a.sat [.agg #[S kA,S Z7, .slice none 0 0, .bool false, .bool false, .bool false, .slice J 2 H, .slice X 2 W], .agg #[S cB.name,S kA, .slice U 1 V, .bool false, .bool false, .bool false, .slice E 1 N, .slice none 0 0], .agg #[S cI.name,S Z7, .slice none 0 0, .bool true, .bool true, .bool false, .slice none 0 0, .slice none 0 0], .agg #[S cD.name,S Z7, .slice none 0 0, .bool false, .bool true, .bool false, .slice none 0 0, .slice none 0 0]] Mu rfl rfl (by simp;exact ⟨rfl,rfl,rfl,rfl⟩) rfl
  ⟨⟨_,_,_,rfl,Sl.nil,(((e.up b).up i).up f).up a,(k.up f).up a,by decide,by decide⟩,⟨_,_,_,rfl,q.up a,z,Sl.nil,by decide,by decide⟩,⟨_,_,_,rfl,Sl.nil,Sl.nil,Sl.nil,by decide,by decide⟩,⟨_,_,_,rfl,Sl.nil,Sl.nil,Sl.nil,by decide,by decide⟩,trivial⟩ fun Z w8 σ8 A B=>?_
 exact h _ _ _ ((((((((m.trans g).trans c).trans b).trans i).trans f).trans a)).trans A) B)
end Go.Proofs.YtfppjenblllfaaaGreatDoor

namespace Go.Proofs.YtfppjenblllfaaaGreatDoor
open Go.Emb Go.RowKit Go.Kd Go.Hm
variable {w w' : World} {K : Value → World → Prop} {σ σ' : Q5} {v u : Value}
theorem Q46 {xs ys:List Q9} (y:X4 w σ) (c:Sl 1 Y1 σ v xs) (s:Sl 1 Y1 σ u ys) (h: ∀w',Below w.heap.size w w'→K (.bool (decide (xs=ys))) w'):Q1 P F.a1 [v,u] w K:=Lk (by
 have l:=c.max
 unfold K9
 refine Q8 c ?_
 refine Q8 s ?_
 refine I4 ?_
 by_cases m:xs.length=ys.length
 case neg=>
  rw[show (!decide ((xs.length:Int)=(ys.length:Nat)))=true from by simp;omega]
  refine U3 ?_
  have e:decide (xs=ys)=false:=decide_eq_false fun e=>m (by rw[e])
  rw[e] at h
  exact h _ (Below.refl _ _)
 rw[show (!decide ((xs.length:Int)=(ys.length:Nat)))=false from by simp[m]]
 refine V8 ?_
 first | refine Q8 c ?_ | skip
 refine J0 xs.length (fun i w'=>Stp w σ w' σ∧ ∀j (g:j<xs.length) (f:j<ys.length),j<i→xs[j]=ys[j]) ⟨Stp.refl y,fun _ _ _ h=>absurd h (Nat.not_lt_zero _)⟩ fun i w1 d B t=>?_
 obtain ⟨n,q⟩:=t
 first | refine Q8 c ?_ | skip
 refine Z0 ?_
 refine Q6 (fun o=>?_) (fun o=>?_)
 ·have b:i<xs.length:=by simpa using o
  have k:i<ys.length:=by omega
  obtain ⟨z,_⟩:=Sl.elS c b
  obtain ⟨C,_⟩:=Sl.elS s k
  refine U6 n.sat ?_
  (repeat refine U9 I9 ?_)
  (intros;(repeat (rename_i a;subst a));(try simp only[↓M2,M2,Mb,reduceIte]))
  rename_i D p
  have r:=n.trans p.stp
  by_cases a:xs[i]=ys[i]
  ·simp only[decide_eq_true a,Bool.not_true,Uz]
   (try simp only[↓M1,M1,Mb,reduceIte])
   exact Y2 l b ⟨r,fun j g f E=>by
    by_cases e:j=i
    ·subst e;exact a
    ·exact q j g f (by omega)⟩
  ·simp only[decide_eq_false a,Bool.not_false,Mz]
   have e:decide (xs=ys)=false:=decide_eq_false fun e=>a (by subst e;rfl)
   rw[e] at h
   exact h _ r.bel
 ·have A:i=xs.length:=by
   have: ¬i<xs.length:=by simpa using o
   omega
  have e:decide (xs=ys)=true:=decide_eq_true (List.ext_getElem m fun j g f=>q j g f (by omega))
  rw[e] at h
  exact h _ n.bel)
theorem Q2X {xs ys:List Q9} (y:X4 w σ) (c:Sl 1 Y1 σ v xs) (s:Sl 1 Y1 σ u ys) (h: ∀w',Below w.heap.size w w'→K (.bool (decide (xs=ys))) w'):Q1 P F.aG [v,u] w K:=Kx (by
 have l:=c.max
 unfold Mf
 refine Q8 c ?_
 refine Q8 s ?_
 refine I4 ?_
 by_cases m:xs.length=ys.length
 case neg=>
  rw[show (!decide ((xs.length:Int)=(ys.length:Nat)))=true from by simp;omega]
  refine U3 ?_
  have e:decide (xs=ys)=false:=decide_eq_false fun e=>m (by rw[e])
  rw[e] at h
  exact h _ (Below.refl _ _)
 rw[show (!decide ((xs.length:Int)=(ys.length:Nat)))=false from by simp[m]]
 refine V8 ?_
 first | refine Q8 c ?_ | skip
 refine J0 xs.length (fun i w'=>Stp w σ w' σ∧ ∀j (g:j<xs.length) (f:j<ys.length),j<i→xs[j]=ys[j]) ⟨Stp.refl y,fun _ _ _ h=>absurd h (Nat.not_lt_zero _)⟩ fun i w1 d B t=>?_
 obtain ⟨n,q⟩:=t
 first | refine Q8 c ?_ | skip
 refine Z0 ?_
 refine Q6 (fun o=>?_) (fun o=>?_)
 ·have b:i<xs.length:=by simpa using o
  have k:i<ys.length:=by omega
  obtain ⟨z,_⟩:=Sl.elS c b
  obtain ⟨C,_⟩:=Sl.elS s k
  refine U6 n.sat ?_
  (repeat refine U9 I9 ?_)
  (intros;(repeat (rename_i a;subst a));(try simp only[↓M2,M2,Mb,reduceIte]))
  rename_i D p
  have r:=n.trans p.stp
  by_cases a:xs[i]=ys[i]
  ·simp only[decide_eq_true a,Bool.not_true,Uz]
   (try simp only[↓M1,M1,Mb,reduceIte])
   exact Y2 l b ⟨r,fun j g f E=>by
    by_cases e:j=i
    ·subst e;exact a
    ·exact q j g f (by omega)⟩
  ·simp only[decide_eq_false a,Bool.not_false,Mz]
   have e:decide (xs=ys)=false:=decide_eq_false fun e=>a (by subst e;rfl)
   rw[e] at h
   exact h _ r.bel
 ·have A:i=xs.length:=by
   have: ¬i<xs.length:=by simpa using o
   omega
  have e:decide (xs=ys)=true:=decide_eq_true (List.ext_getElem m fun j g f=>q j g f (by omega))
  rw[e] at h
  exact h _ n.bel)
theorem Q8u (a b:Shp):decide (a=b)=((a.seen==b.seen)&&(decide (a.stack=b.stack)&&decide (a.locals=b.locals))):=by
 cases a;cases b
 rw[Bool.eq_iff_iff]
 simp[Shp.mk.injEq,and_assoc]
theorem X0L {a b:Shp} {ds es:List Value} (s:X4 w σ) (t:U7 σ a ds) (p:U7 σ b es) (h: ∀w',Below w.heap.size w w'→K (.bool (decide (a=b))) w'):Q1 P F.cB [.agg ds.toArray, .agg es.toArray] w K:=Q5C (by
 obtain ⟨sv,L,rfl,y,n⟩:=t
 obtain ⟨A,mv,rfl,q,z⟩:=p
 rw[Q8u] at h
 unfold Q0H
 refine Y8 s fun D w1 σ1 m j=>?_
 refine Y8 m.sat fun H J E e f=>?_
 have d:=j.up e
 have c:=m.trans e
 refine D6 ?_
 refine ld (i:=0) e.sat d rfl ?_
 refine D6 ?_
 refine ld (i:=0) e.sat f rfl ?_
 rw[Q6K]
 cases k:(a.seen==b.seen) with
 | false=>
  rw[k] at h
  (repeat refine Hd.h ?_)
  exact h _ c.bel
 | true=>
  rw[k,Bool.true_and] at h
  (repeat refine Hd.h ?_)
  refine ld (i:=1) e.sat d rfl ?_
  (repeat refine Hd.h ?_)
  refine ld (i:=1) e.sat f rfl ?_
  (repeat refine Hd.h ?_)
  refine Q46 e.sat (y.up c) (q.up c) fun C o=>?_
  have g:=Stp.of_below e.sat o
  cases l:decide (a.stack=b.stack) with
  | false=>
   rw[l] at h
   (repeat refine Hd.h ?_)
   exact h _ (c.trans g).bel
  | true=>
   rw[l,Bool.true_and] at h
   (repeat refine Hd.h ?_)
   refine ld (i:=2) g.sat d rfl ?_
   (repeat refine Hd.h ?_)
   refine ld (i:=2) g.sat f rfl ?_
   (repeat refine Hd.h ?_)
   refine Q46 g.sat (n.up c) (z.up c) fun B r=>?_
   (repeat refine Hd.h ?_)
   exact h _ (c.trans (g.trans (Stp.of_below g.sat r))).bel)
theorem Q2N {a b:Shp} {ds es:List Value} (s:X4 w σ) (t:U7 σ a ds) (p:U7 σ b es) (h: ∀w',Below w.heap.size w w'→K (.bool (decide (a=b))) w'):Q1 P F.aE [.agg ds.toArray, .agg es.toArray] w K:=Kn (by
 obtain ⟨sv,L,rfl,y,n⟩:=t
 obtain ⟨A,mv,rfl,q,z⟩:=p
 rw[Q8u] at h
 unfold Ls
 refine Y8 s fun D w1 σ1 m j=>?_
 refine Y8 m.sat fun H J E e f=>?_
 have d:=j.up e
 have c:=m.trans e
 refine D6 ?_
 refine ld (i:=0) e.sat d rfl ?_
 refine D6 ?_
 refine ld (i:=0) e.sat f rfl ?_
 rw[Q6K]
 cases k:(a.seen==b.seen) with
 | false=>
  rw[k] at h
  (repeat refine Hd.h ?_)
  exact h _ c.bel
 | true=>
  rw[k,Bool.true_and] at h
  (repeat refine Hd.h ?_)
  refine ld (i:=1) e.sat d rfl ?_
  (repeat refine Hd.h ?_)
  refine ld (i:=1) e.sat f rfl ?_
  (repeat refine Hd.h ?_)
  refine Q2X e.sat (y.up c) (q.up c) fun C o=>?_
  have g:=Stp.of_below e.sat o
  cases l:decide (a.stack=b.stack) with
  | false=>
   rw[l] at h
   (repeat refine Hd.h ?_)
   exact h _ (c.trans g).bel
  | true=>
   rw[l,Bool.true_and] at h
   (repeat refine Hd.h ?_)
   refine ld (i:=2) g.sat d rfl ?_
   (repeat refine Hd.h ?_)
   refine ld (i:=2) g.sat f rfl ?_
   (repeat refine Hd.h ?_)
   refine Q2X g.sat (n.up c) (z.up c) fun B r=>?_
   (repeat refine Hd.h ?_)
   exact h _ (c.trans (g.trans (Stp.of_below g.sat r))).bel)
end Go.Proofs.YtfppjenblllfaaaGreatDoor

namespace Go.Hm
open Go.Kd
structure Dr where
  stack : List Q9
  locals : List Q9
  e : Int
deriving DecidableEq
def Dr.wrong (d:Dr) (ok:Bool) (e:Int):Dr:=if ok=true then d else if d.e=0 then ⟨d.stack,d.locals,e⟩ else d
def Dr.taken (d:Dr) (n:Nat):List Q9:=if d.e=0∧n≤d.stack.length then d.stack.drop (d.stack.length-n) else List.replicate n []
def Dr.take (d:Dr) (n:Nat):Dr:=if d.e=0∧n≤d.stack.length then ⟨d.stack.take (d.stack.length-n),d.locals,0⟩ else d.wrong (decide (n≤d.stack.length)) 72
def Dr.put (d:Dr) (xs:List Q9):Dr:=if d.e=0 then ⟨d.stack++xs,d.locals,0⟩ else d
def Dr.put1 (d:Dr) (k:Q9):Dr:=if k=[] then d else d.put [k]
def Dr.all (l:List Cla) (d:Dr) (p:Q9) (a:List Q9):Dr:=((d.take a.length).wrong ((List.zipWith (V0 l) (d.taken a.length) a).all id) 73).put1 p
def inL (d:Dr) (n:Int):Bool:=decide (0≤n)&&decide (n<(d.locals.length:Int))
def Q3w (l:List Cla) (a:Q9):Bool:=M4 l a&& !plain a
def Q4i (l:List Cla) (s:Q9):Bool:= !decide (s=O9)&&M4 l s
inductive Dact where
  | puts (k : Q9) | takes (p : Q9) (w : List Q9) | load | store | pop | dup | swap | size | nop | make | get | give | call | array | at_ | set_ | is | cast | ret | equal
deriving DecidableEq
def Q8w (l:List Cla) (c f:Q9) (ok:Bool):Option (Q9×Q9):=if ok=true then (Xn l c f).map fun k=>(c,((M7 l c).getD k Fld.zero).kind) else none
def Gr (l:List Cla) (m:Hm.Met) (i:Ins) (c f:Q9) (ok:Bool) (d:Dr):Dact→Dr
 | .puts k=>d.put [k]
 | .takes p w=>d.all l p w
 | .load=>
  let a:=d.wrong (inL d i.n) 74
  if a.e=0 then (let k:=a.locals.getD i.n.toNat [];let b:=a.wrong (!decide (k=[])) 74;if b.e=0 then b.put [k] else b) else a
 | .store=>
  let a:=d.wrong (inL d i.n) 74
  let b:=a.take 1
  if b.e=0 then ⟨b.stack,b.locals.set i.n.toNat ((a.taken 1).getD 0 []),0⟩ else b
 | .pop=>d.take 1
 | .dup=>(d.take 1).put [(d.taken 1).getD 0 [],(d.taken 1).getD 0 []]
 | .swap=>(d.take 2).put [(d.taken 2).getD 1 [],(d.taken 2).getD 0 []]
 | .size=>((d.take 1).wrong (!decide (elem ((d.taken 1).getD 0 [])=[])) 73).put [V5]
 | .nop=>d
 | .make=>let a:=d.wrong (Q9t l i.s) 76;if a.e=0 then a.put [i.s] else a
 | .get=>match Q8w l c f ok with
  | some (c,k)=>d.all l k [c]
  | none=>(d.wrong false 76).all l [] [[]]
 | .give=>match Q8w l c f ok with
  | some (c,k)=>d.all l [] [c,k]
  | none=>(d.wrong false 76).all l [] [[],[]]
 | .call=>match J8 l c f with
  | some (_,x)=>d.all l x.result (c::x.params)
  | none=>d.wrong false 76
 | .array=>((d.wrong (Q4i l i.s) 76).wrong (right (i.s++[91,93])) 76).all l (i.s++[91,93]) [V5]
 | .at_=>
  let t:=d.taken 2
  (((d.take 2).wrong (V0 l (t.getD 1 []) V5) 73).wrong (!decide (elem (t.getD 0 [])=[])) 73).put [elem (t.getD 0 [])]
 | .set_=>
  let t:=d.taken 3
  let a:=d.take 3
  let k:=if a.e=0 then elem (t.getD 0 []) else []
  ((a.wrong (!decide (k=[])) 73).wrong (V0 l (t.getD 2 []) k) 73).wrong (V0 l (t.getD 1 []) V5) 73
 | .is=>let a:=d.wrong (Q4i l i.s) 76;((a.take 1).wrong (Q3w l ((a.taken 1).getD 0 [])) 73).put [M8]
 | .cast=>let a:=d.wrong (Q4i l i.s) 76;((a.take 1).wrong (Q3w l ((a.taken 1).getD 0 [])) 73).put [i.s]
 | .ret=>if m.result=[] then d else d.all l [] [m.result]
 | .equal=>let t:=d.taken 2;(((d.take 2).wrong (Q3w l (t.getD 1 [])) 73).wrong (Q3w l (t.getD 0 [])) 73).put [M8]
def Q7D:List (Q9×Dact):=[
 ([105,110,116], .puts V5),
 ([116,114,117,101], .puts M8),
 ([102,97,108,115,101], .puts M8),
 ([119,111,114,100], .puts N7),
 ([110,117,108,108], .puts O9),
 ([108,111,97,100], .load),
 ([115,116,111,114,101], .store),
 ([100,117,112], .dup),
 ([115,119,97,112], .swap),
 ([112,111,112], .pop),
 ([110,101,103], .takes V5 [V5]),
 ([110,111,116], .takes M8 [M8]),
 ([98,111,116,104], .takes M8 [M8,M8]),
 ([106,111,105,110], .takes N7 [N7,N7]),
 ([108,101,115,115], .takes M8 [V5,V5]),
 ([115,97,109,101], .takes M8 [V5,V5]),
 ([115,105,122,101], .size),
 ([106,117,109,112], .nop),
 ([98,114,97,110,99,104], .takes [] [M8]),
 ([110,101,119], .make),
 ([103,101,116], .get),
 ([112,117,116], .give),
 ([99,97,108,108], .call),
 ([97,114,114,97,121], .array),
 ([97,116], .at_),
 ([115,101,116], .set_),
 ([105,115], .is),
 ([99,97,115,116], .cast),
 ([114,101,116,117,114,110], .ret),
 ([116,104,114,111,119], .takes [] [W0]),
 ([111,117,116], .takes [] [V5]),
 ([101,113,117,97,108], .equal)]
def Q1D:List Q9:=[[97,100,100],[115,117,98],[109,117,108],[100,105,118],[114,101,109],[97,110,100],[111,114],[120,111,114],[115,104,108],[115,104,114]]
def Gc:List (Q9×Dact):=(Q1D.map fun o=>(o,Dact.takes V5 [V5,V5])).reverse++Q7D.reverse
def doM (l:List Cla) (m:Hm.Met) (i:Ins) (c f:Q9) (ok:Bool) (s:Shp):Shp×Int:=
 match Gc.lookup i.op with
 | none=>(Shp.zero,76)
 | some a=>
  let d:=Gr l m i c f ok ⟨s.stack,s.locals,0⟩ a
  let b:=d.wrong (decide (d.stack.length≤24)) 72
  if b.e=0 then (⟨true,b.stack,b.locals⟩,0) else (Shp.zero,b.e)
theorem Dr.wrong_ok {d:Dr} {ok:Bool} {e:Int} (g:e≠0) (h:(d.wrong ok e).e=0):d.e=0∧ok=true∧d.wrong ok e=d:=by
 unfold Dr.wrong at*
 by_cases b:ok=true
 ·rw[if_pos b] at*;exact ⟨h,b,rfl⟩
 ·rw[if_neg b] at h
  by_cases a:d.e=0
  ·rw[if_pos a] at h;exact absurd h g
  ·rw[if_neg a] at h;exact absurd h a
section
variable {l : List Cla} {m : Hm.Met} {i : Ins} {c f : Q9} {ok : Bool} {d : Dr}
theorem Dr.wrong2 {d:Dr} {b a:Bool} {e:Int}:(d.wrong b e).wrong a e=d.wrong (b&&a) e:=by
 unfold Dr.wrong
 cases b<;>cases a<;>simp<;>split<;>simp_all
end
end Go.Hm

namespace Go.Proofs.YtfppjenblllfaaaGreatDoor
open Go.Emb Go.RowKit Go.Kd Go.Hm
variable {w : World} {K : Value → World → Prop} {σ : Q5}
end Go.Proofs.YtfppjenblllfaaaGreatDoor

namespace Go.Emb
open Go.RowKit Go.Hm
variable {w w0 w1 w' w'' : World} {σ σ0 σ1 σ2 σ' : Q5}
theorem Stp.weak (h:Stp w σ1 w' σ2) (a: ∀b o,σ b=some o→σ1 b=some o):Stp w σ w' σ:=
 ⟨h.bel,fun b o e=>h.sat b o (h.le b o (a b o e)),fun _ _ e=>e,fun _ _=>rfl⟩
end Go.Emb
namespace Go.Proofs.YtfppjenblllfaaaGreatDoor
open Go.Emb Go.RowKit Go.Kd Go.Hm
variable {w : World} {K : Value → World → Prop} {σ : Q5}
end Go.Proofs.YtfppjenblllfaaaGreatDoor

namespace Go.Emb
open Go.RowKit Go.Hm
section
variable {P : Program} {w w' w0 : World} {σ σ' σ0 : Q5} {α : Type} {R : Q5 → α → List Value → Prop} {B sz : Nat} {e : TypeId} {v u : Value} {xs : List α} {K : Value → World → Prop}
theorem X1B {t:TypeId} {by_:Nat} {z:Value} [ts:TS P t e] [tz:TZ P e sz by_ z] (h:J9 B e sz R σ w v xs) {k:Nat} (C:k≤xs.length)
 (r: ∀j,J9 B e sz R σ w j (xs.take k)→j.ownBlock=v.ownBlock→K j w):H4 P t v none (some (I k)) (some (I k)) w K:=by
 obtain ⟨a,c,rfl,M,L,n,A⟩:=h
 have hh: ∀w:World,(Instr.sliceBounds true xs.length c none (some (I k)) (some (I k))).run P w= .ok (0,k,k) w:=by
  intro w
  have J:(k:Int)≤c:=by omega
  simp[Instr.sliceBounds,Instr.sliceBound,asIntOf,J]
 unfold H4
 have:(Instr.sliceAt t (.slice a xs.length c) none (some (I k)) (some (I k))).run P w= .ok (.slice (if k=0 then a else a.map (·.add (0*sz))) (k-0) (k-0)) w:=by
  simp[Instr.sliceAt,run_underlying ts.h,Instr.slice,hh,W4 tz]
 rw[Y0 this]
 have hv:(if k=0 then a else a.map (·.add (0*sz)))=a:=by
  split
  ·rfl
  ·cases a with
   | none=>rfl
   | some b=>simp[Addr.add]
 rw[hv,Nat.sub_zero]
 refine r _ ⟨a,k,by rw[List.length_take,Nat.min_eq_left C],by rw[List.length_take];omega,by omega,n,fun O=>?_⟩ (by cases a<;>rfl)
 obtain ⟨g,l,o,rfl,y,E,q,N,H⟩:=A (by omega)
 have s:k*sz≤c*sz:=Nat.mul_le_mul_right _ (by omega)
 refine ⟨g,l,o,rfl,y,E,q,by omega,fun i x f=>?_⟩
 rw[List.getElem?_take] at f
 split at f
 ·exact H i x f
 ·cases f
theorem J9.updD {b:Nat} (h:J9 B e sz R σ w v xs) (u:Upd w b w') (a:v.ownBlock≠some b):J9 B e sz R σ w' v xs:=
 h.kp (D:=fun j=>j=b) (Kpt.of_upd u rfl) fun k c e=>a (e▸c)
end
end Go.Emb
namespace Go.Proofs.YtfppjenblllfaaaGreatDoor
open Go.Emb Go.RowKit Go.Kd Go.Hm
variable {w w' : World} {K : Value → World → Prop} {σ σ' : Q5} {v u : Value}
theorem Q2a {xs:List Q9} (g:X4 w σ) (hv:Sl 1 Y1 σ v xs) (H:xs.length≤1000000)
 (h: ∀f w',Stp w σ w' σ→V6 w.heap.size T.b 1 Y1 σ w' f xs→K f w'):Q1 P F.b [v] w K:=R7 (by
 unfold N6
 have b:=hv
 obtain ⟨a,k,rfl,z,E,t,C⟩:=hv
 refine Di rfl ?_
 refine Q6 (fun j=>?_) (fun j=>?_)
 ·have:a=none:=by simpa using j
  subst this
  have l:=t rfl
  subst l
  have o:xs=[]:=List.eq_nil_of_length_eq_zero (by omega)
  subst o
  exact h _ w (Stp.refl g) V6.nil
 ·refine Qb (R:=Y1) (sz:=1) (Stp.refl g) [] [] rfl rfl (by simp) (by rfl) trivial fun A w1 q r _=>?_
  refine app q r b (by rfl) (by simp only[List.length_nil];omega) (by simp only[List.length_nil];omega) fun J s y n c _=>?_
  exact h _ s n c)
theorem Q8Q {B:Nat} {xs:List Q9} (n:X4 w σ) (hv:J9 B T.b 1 Y1 σ w v xs) (j:xs.length≤1000000)
 (h: ∀a w' σ',Stp w σ w' σ'→Sl 1 Y1 σ' a xs→K a w'):Q1 P F.b [v] w K:=by
 obtain ⟨s,c,b,g,_⟩:=hv.freeze n
 refine Q2a c g j fun a w' l o=>?_
 have r:=l.weak b.le
 have k:=(J9.of_acc o).down b fun _ _ h=>h
 obtain ⟨σ',q,f,_,_⟩:=k.keep (w0:=w) (σ0:=σ) r
 exact h a w' σ' q f
structure DrIs (B : Nat) (D : Nat → Prop) (σ : Q5) (w : World) (p tv pv cv hv : Value) (m : Hm.Met) (i : Ins) (d : Dr) : Prop where
  ex : ∃ b sv lv, p = .pointer (some ⟨b, 0, none⟩) ∧ B ≤ b ∧ Z5 σ w b [tv, S m.name, pv, S m.result, .bool m.abs, I m.locals, cv, hv, S i.op, I i.n, S i.s, .bool true, sv, lv, I d.e] ∧ J9 B T.b 1 Y1 σ w sv d.stack ∧ J9 B T.b 1 Y1 σ w lv d.locals ∧ (∀ k, sv.ownBlock = some k → k ≠ b ∧ lv.ownBlock ≠ some k) ∧ (∀ k, lv.ownBlock = some k → k ≠ b) ∧ ∀ k, D k ↔ (k = b ∨ sv.ownBlock = some k ∨ lv.ownBlock = some k)
section
variable {B : Nat} {D : Nat → Prop} {p tv pv cv hv : Value} {m : Hm.Met} {i : Ins} {d : Dr}
theorem DrIs.mem (h:DrIs B D σ w p tv pv cv hv m i d) {k:Nat} (hk:D k):B≤k∧k<w.heap.size∧σ k=none:=by
 obtain ⟨b,sv,g,rfl,hB,a,f,c,_,_,hD⟩:=h.ex
 rcases (hD k).1 hk with rfl | hk | hk
 ·exact ⟨hB,a.lt,a.1⟩
 ·exact f.mem hk
 ·exact c.mem hk
theorem DrIs.nx {F:Nat→Prop} (h:DrIs B D σ w p tv pv cv hv m i d) (k:Nxt F w σ w' σ') (a: ∀j,D j→ ¬F j):DrIs B D σ' w' p tv pv cv hv m i d:=by
 obtain ⟨b,sv,l,rfl,hB,o,g,f,q,n,hD⟩:=h.ex
 exact ⟨b,sv,l,rfl,hB,o.nx k (a b ((hD b).2 (.inl rfl))),g.nx k fun j c=>a j ((hD j).2 (.inr (.inl c))),f.nx k fun j c=>a j ((hD j).2 (.inr (.inr c))),q,n,hD⟩
theorem DrIs.up (h:DrIs B D σ w p tv pv cv hv m i d) (k:Stp w σ w' σ'):DrIs B D σ' w' p tv pv cv hv m i d:=
 h.nx (F:=fun _=>False) (.of_stp k) fun _ _=>id
theorem Nxt.rfl0 (a:X4 w σ):Nxt D w σ w σ:= .of_stp (Stp.refl a)
theorem Nxt.updD (f:X4 w σ) {b:Nat} (u:Upd w b w') (h:σ b=none) (g:D b):Nxt D w σ w' σ:=
 ⟨Kpt.of_upd u g,SLe.refl _,fun _ _=>rfl,fun k o c=>by
  have a:k≠b:=fun e=>by subst e;rw[h] at c;cases c
  rw[u.block k a];exact f k o c⟩
theorem Q28 {ok:Bool} {e:Int} (k:X4 w σ) (h:DrIs B D σ w p tv pv cv hv m i d)
 (hh: ∀w',Nxt D w σ w' σ→DrIs B D σ w' p tv pv cv hv m i (d.wrong ok e)→K (.bool (decide ((d.wrong ok e).e=0))) w'):Q1 P F.am [p, .bool ok,I e] w K:=Kz (by
 have o:=h
 obtain ⟨b,sv,H,rfl,hB,l,C,A,r,q,hD⟩:=h.ex
 unfold Mo
 refine Zt (fun _ w'=>Nxt D w σ w' σ∧DrIs B D σ w' (.pointer (some ⟨b,0,none⟩)) tv pv cv hv m i (d.wrong ok e)) ?_ (fun _ J w1 E=>?_)
 ·cases ok with
  | true=>
   simp only[Bool.not_true,↓M1,M1,Mb,reduceIte]
   exact ⟨Nxt.rfl0 k,o⟩
  | false=>
   simp only[Bool.not_false,↓M1,M1,Mb,reduceIte]
   refine Jx (i:=14) l rfl ?_
   by_cases a:d.e=0
   ·simp only[decide_eq_true a,↓M1,M1,Mb,reduceIte]
    refine Lx (i:=14) l (by simp) rfl rfl fun M c g=>?_
    have n:d.wrong false e=⟨d.stack,d.locals,e⟩:=by unfold Dr.wrong;rw[if_neg (by simp),if_pos a]
    rw[n]
    exact ⟨Nxt.updD k c l.1 ((hD b).2 (.inl rfl)),b,sv,H,rfl,hB,g,C.updD c fun e=>(r b e).1 rfl,A.updD c fun e=>q b e rfl,r,q,hD⟩
   ·simp only[decide_eq_false a,↓M1,M1,Mb,reduceIte]
    have n:d.wrong false e=d:=by unfold Dr.wrong;rw[if_neg (by simp),if_neg a]
    rw[n]
    exact ⟨Nxt.rfl0 k,o⟩
 ·obtain ⟨N,s⟩:=E
  have j:=s
  obtain ⟨L,z,y,t,_,f,_⟩:=s.ex
  cases t
  simp only[↓M1,M1,Mb,reduceIte]
  refine Jx (i:=14) f rfl ?_
  simp only[↓M1,M1,Mb,reduceIte]
  exact hh w1 N j)
theorem X29 {ys:List Q9} (X:X4 w σ) (hB:B≤w.heap.size) (h:DrIs B D σ w p tv pv cv hv m i d) (hy:Sl 1 Y1 σ v ys) (hl:d.stack.length+ys.length≤1000000)
 (hh: ∀w' Y,Nxt D w σ w' σ→DrIs B Y σ w' p tv pv cv hv m i (d.put ys)→(∀j,Y j→D j∨w.heap.size≤j)→K (.tuple #[]) w'):Q1 P F.bG [p,v] w K:=Q0p (by
 have h0:=h
 obtain ⟨b,sv,U,rfl,L,o,hq,z,C,W,hD⟩:=h.ex
 unfold Ol
 rw[E9]
 refine D6 ?_
 refine Jx (i:=14) o rfl ?_
 refine Nh ?_
 by_cases r:d.e=0
 case neg=>
  rw[decide_eq_false r]
  refine V8 ?_
  have V:d.put ys=d:=by unfold Dr.put;rw[if_neg r]
  rw[V] at hh
  exact hh w D (Nxt.rfl0 X) h0 fun j hj=> .inl hj
 rw[decide_eq_true r]
 rw[r] at o
 refine U3 ?_
 have V:d.put ys=⟨d.stack++ys,d.locals,0⟩:=by unfold Dr.put;rw[if_pos r]
 rw[V] at hh
 simp only[↓M1,M1,Mb,reduceIte]
 refine Jx (i:=12) o rfl ?_
 refine Q1W X hB hq hy (by rfl) (by omega) (by omega) fun y Q E q l M=>?_
 have g: ∀k,y.ownBlock=some k→sv.ownBlock=some k∨w.heap.size≤k:=fun k f=>by
  rcases M with ⟨a,aa,ea,eb⟩ | ⟨_,t⟩
  ·left;rw[ea];rw[eb] at f;cases a<;>exact f
  ·exact .inr (t k f)
 have n:Kpt (fun k=>sv.ownBlock=some k) w Q:=E.mono fun k _ e=>e.1
 have s:Z5 σ Q b _:=⟨o.1,by obtain ⟨e,he⟩:=o.2;exact ⟨e,(n.block b o.lt fun e=>(C b e).1 rfl).trans he⟩⟩
 have J:=z.kp n fun k f e=>(C k e).2 f
 rw[Sv]
 refine Lx (i:=12) s (by simp) (by obtain ⟨a,c,rfl,_⟩:=l;rfl) (by obtain ⟨a,c,rfl,_⟩:=l;rfl) fun w3 H O=>?_
 have Z:=o.lt
 have A: ∀k,y.ownBlock=some k→k≠b:=fun k f e=>by
  rcases g k f with h | h
  ·exact (C k h).1 e
  ·omega
 have N: ∀k,y.ownBlock=some k→U.ownBlock≠some k:=fun k f e=>by
  rcases g k f with h | h
  ·exact (C k h).2 e
  ·have:=(z.mem e).2.1;omega
 have N2:Nxt D w σ Q σ:=⟨n.mono fun k _ e=>(hD k).2 (.inr (.inl e)),SLe.refl _,fun _ _=>rfl,q⟩
 refine hh w3 (fun k=>k=b∨y.ownBlock=some k∨U.ownBlock=some k) (N2.trans (Nxt.updD q H s.1 ((hD b).2 (.inl rfl)))) ⟨b,y,U,rfl,L,O,l.updD H fun e=>A b e rfl,J.updD H fun e=>W b e rfl,fun k f=>⟨A k f,N k f⟩,W,fun k=>Iff.rfl⟩ fun j hj=>?_
 rcases hj with rfl | hj | hj
 ·exact .inl ((hD _).2 (.inl rfl))
 ·exact (g j hj).imp (fun h=>(hD j).2 (.inr (.inl h))) id
 ·exact .inl ((hD j).2 (.inr (.inr hj))))
end
end Go.Proofs.YtfppjenblllfaaaGreatDoor

namespace Go.Proofs.YtfppjenblllfaaaGreatDoor
open Go.Emb Go.RowKit Go.Kd Go.Hm
variable {w w' : World} {K : Value → World → Prop} {σ σ' : Q5} {v u : Value} {B : Nat} {D : Nat → Prop} {p tv pv cv hv : Value} {m : Hm.Met} {i : Ins} {d : Dr} {l : List Cla}
set_option maxHeartbeats 1000000 in
theorem X1L {n:Nat} (hs:X4 w σ) (h:DrIs B D σ w p tv pv cv hv m i d) (hl:d.stack.length≤1000000) (hn:n≤1000000)
 (hh: ∀v w' σ',Nxt D w σ w' σ'→DrIs B D σ' w' p tv pv cv hv m i (d.take n)→Sl 1 Y1 σ' v (d.taken n)→K v w'):Q1 P F.bw [p,I n] w K:=Ap (by
 have h0:=h
 obtain ⟨b,sv,lv,rfl,hB,hm,hq,ap,h1,h2,hD⟩:=h.ex
 unfold Ob
 simp only[↓M1,M1,Mb,reduceIte]
 refine Jx (i:=12) hm rfl ?_
 refine Bo hq ?_
 refine Yb ?_
 rw[show decide ((n:Int)≤(d.stack.length:Nat))=decide (n≤d.stack.length) from decide_eq_decide.2 (by omega)]
 refine Q28 hs h0 fun w1 z A=>?_
 by_cases j:d.e=0∧n≤d.stack.length
 case neg=>
  have C:d.take n=d.wrong (decide (n≤d.stack.length)) 72:=by unfold Dr.take;rw[if_neg j]
  have N:d.taken n=List.replicate n []:=by unfold Dr.taken;rw[if_neg j]
  have he: ¬(d.wrong (decide (n≤d.stack.length)) 72).e=0:=fun e=>by
   obtain ⟨k1,k2,_⟩:=Dr.wrong_ok (by decide) e
   exact j ⟨k1,by simpa using k2⟩
  rw[C,N] at hh
  rw[decide_eq_false he]
  simp only[Bool.not_false,↓M1,M1,Mb,reduceIte]
  refine X1p (R:=Y1) (sz:=1) ([]:Q9) z.sat (by kernel_rfl) (by decide) ⟨rfl,by decide⟩ (by omega) (by omega) fun v2 w2 E V _=>?_
  obtain ⟨X,s3,q3,am,_⟩:=V.keep E
  exact hh v2 w2 X (z.trans (.of_stp s3)) (A.up s3) q3
 have ew:d.wrong (decide (n≤d.stack.length)) 72=d:=by rw[decide_eq_true j.2];rfl
 have C:d.take n=⟨d.stack.take (d.stack.length-n),d.locals,0⟩:=by unfold Dr.take;rw[if_pos j]
 have N:d.taken n=d.stack.drop (d.stack.length-n):=by unfold Dr.taken;rw[if_pos j]
 rw[ew] at A⊢
 rw[C,N] at hh
 rw[decide_eq_true j.1]
 simp only[Bool.not_true,↓M1,M1,Mb,reduceIte]
 have av:=A
 obtain ⟨b',ah,J,e1,Y,g,r,y,g1,Z,t⟩:=A.ex
 cases e1
 rw[j.1] at g
 refine Jx (i:=12) g rfl ?_
 refine Bo r ?_
 refine Q9G ?_
 rw[F0 (by omega) (by omega),show (d.stack.length:Int)-(n:Int)=((d.stack.length-n:Nat):Int) by omega]
 refine Jx (i:=12) g rfl ?_
 refine Q9B r (d.stack.length-n) (by omega) fun v2 H _=>?_
 refine Q8Q z.sat H (by rw[List.length_drop];omega) fun v3 w3 X f Q=>?_
 have s:=g.up f
 have W:=r.up f
 have L:=y.up f
 refine Jx (i:=12) s rfl ?_
 refine X1B W (k:=d.stack.length-n) (by omega) fun v4 o q=>?_
 rw[Sv]
 refine Lx (i:=12) s (by simp) (by obtain ⟨a,c,rfl,_⟩:=o;rfl) (by obtain ⟨a,c,rfl,_⟩:=o;rfl) fun w5 M U=>?_
 have O:=z.trans (Nxt.of_stp (D:=D) f)
 refine hh v3 w5 X (O.trans (Nxt.updD f.sat M s.1 ((t b).2 (.inl rfl)))) ⟨b,v4,J,rfl,Y,U,o.updD M fun e=>(g1 b (by rw[←q];exact e)).1 rfl,L.updD M fun e=>Z b e rfl,fun k hk=>g1 k (by rw[←q];exact hk),Z,fun k=>by rw[q];exact t k⟩ Q)
theorem X0q {a c:Q9} (n:X4 w σ) (h:DrIs B D σ w p tv pv cv hv m i d) (f:Tab σ tv l) (ok:Ok l) (o:a.length≤Z9) (j:c.length≤Z9)
 (hh: ∀w' σ',Nxt D w σ w' σ'→DrIs B D σ' w' p tv pv cv hv m i (d.wrong (V0 l a c) 73)→K (.tuple #[]) w'):Q1 P F.bp [p,S a,S c] w K:=Ka (by
 have g:=h
 obtain ⟨b,sv,C,rfl,hB,q,z,r,A,y,hD⟩:=h.ex
 unfold Mk
 rw[E9]
 refine D6 ?_
 refine Jx (i:=0) q rfl ?_
 refine Q3G n f ok o j fun w1 σ1 e=>?_
 refine Q28 e.sat (g.up e) fun s k t=>?_
 exact hh s σ1 ((Nxt.of_stp e).trans k) t)
def dnM (y:Value):Nat:=match y with
 | .int _ z=>(z+1).toNat
 | _=>0
set_option maxHeartbeats 1000000 in
theorem X21 {q:Q9} {ys:List Q9} (hs:X4 w σ) (hB:B≤w.heap.size) (h:DrIs B D σ w p tv pv cv hv m i d) (ht:Tab σ tv l) (ok:Ok l) (Z:Sl 1 Y1 σ v ys) (hq:q.length≤Z9) (hl:d.stack.length≤100000) (hn:ys.length≤100000)
 (hh: ∀w' σ' D',Nxt D w σ w' σ'→DrIs B D' σ' w' p tv pv cv hv m i (d.all l q ys)→(∀j,D' j→D j∨w.heap.size≤j)→K (.tuple #[]) w'):Q1 P F.a6 [p,S q,v] w K:=Q0l (by
 unfold On
 refine Q8 Z ?_
 refine X1L hs h (by omega) (by omega) fun ah w1 σ1 s d1 n=>?_
 have M:(d.taken ys.length).length=ys.length:=by
  unfold Dr.taken
  split
  ·rename_i hc;rw[List.length_drop];omega
  ·simp
 have W:=Z.lift s.le
 have Q:=ht.lift s.le
 have H:(d.take ys.length).stack.length≤d.stack.length:=by
  unfold Dr.take
  split
  ·rw[List.length_take];omega
  ·unfold Dr.wrong;split
   ·exact Nat.le_refl _
   ·split<;>exact Nat.le_refl _
 refine Q8 n ?_
 refine Q9G ?_
 rw[M,F0 (by omega) (by omega)]
 refine Zs (fun x w'=> ∃(k:Nat) (σ':Q5),x=I ((k:Int)-1)∧k≤ys.length∧Nxt D w1 σ1 w' σ'∧DrIs B D σ' w' p tv pv cv hv m i ((d.take ys.length).wrong (((List.zipWith (V0 l) (d.taken ys.length) ys).drop k).all id) 73)) (fun x _=>dnM x) ⟨ys.length,σ1,rfl,Nat.le_refl _,Nxt.rfl0 s.sat,by
  rw[List.drop_of_length_le (by simp;omega)];exact d1⟩ ?_
 rintro _ dd w2 ⟨k,Y,rfl,hk,f,t⟩
 refine Yb ?_
 by_cases L:k=0
 ·subst L
  rw[show decide ((0:Int)≤((0:Nat):Int)-1)=false from by decide]
  refine V8 ?_
  rw[List.drop_zero] at t
  refine Lf ?_
  have a:=s.trans f
  have eb: ∀w' σ',Nxt D w2 Y w' σ'→B≤w'.heap.size:=fun w' σ' N=>Nat.le_trans hB (Nat.le_trans a.kp.size N.kp.size)
  by_cases b:q=[]
  ·have r:d.all l q ys=(d.take ys.length).wrong ((List.zipWith (V0 l) (d.taken ys.length) ys).all id) 73:=by unfold Dr.all Dr.put1;rw[if_pos b]
   rw[r] at hh
   rw[show (!decide (q=[]))=false from by simp[b]]
   refine V8 ?_
   exact hh w2 Y D a t fun j U=> .inl U
  ·have r:d.all l q ys=((d.take ys.length).wrong ((List.zipWith (V0 l) (d.taken ys.length) ys).all id) 73).put [q]:=by unfold Dr.all Dr.put1;rw[if_neg b]
   rw[r] at hh
   rw[show (!decide (q=[]))=true from by simp[b]]
   refine U3 ?_
   refine E3 (R:=Y1) (sz:=1) f.sat [S q] [q] rfl rfl (by simp;rfl) rfl ⟨⟨rfl,hq⟩,trivial⟩ fun v3 w3 σ3 g E=>?_
   have aj:((d.take ys.length).wrong ((List.zipWith (V0 l) (d.taken ys.length) ys).all id) 73).stack.length≤d.stack.length:=by
    have e:((d.take ys.length).wrong ((List.zipWith (V0 l) (d.taken ys.length) ys).all id) 73).stack=(d.take ys.length).stack:=by
     unfold Dr.wrong;split
     ·rfl
     ·split<;>rfl
    rw[e];exact H
   refine X29 g.sat (Nat.le_trans hB (Nat.le_trans a.kp.size g.bel.size)) (t.up g) E (by simp only[List.length_cons,List.length_nil];omega) fun X D4 O o y=>?_
   refine hh X σ3 D4 ((a.trans (.of_stp g)).trans O) o fun j U=>(y j U).imp id fun e=>Nat.le_trans a.kp.size (Nat.le_trans g.bel.size e)
 ·rw[decide_eq_true (show (0:Int)≤(k:Int)-1 by omega)]
  refine U3 ?_
  obtain ⟨j,rfl⟩: ∃j,k=j+1:=⟨k-1,by omega⟩
  rw[show (((j+1:Nat):Int)-1)=(j:Int) by omega]
  have V:j<(d.taken ys.length).length:=by omega
  have C:j<ys.length:=by omega
  have J:=n.lift f.le
  have A:=W.lift f.le
  have z:=Q.lift f.le
  obtain ⟨r,f1⟩:=Sl.elS J V
  obtain ⟨e2,f2⟩:=Sl.elS A C
  refine U6 f.sat ?_
  (repeat refine U9 I9 ?_)
  (intros;(repeat (rename_i hx;subst hx));(try simp only[↓M2,M2,Mb,reduceIte]))
  rename_i w3 c
  refine X0q c.sat (t.up c.stp) z ok f1 f2 fun X σ4 O o=>?_
  rw[F0 (by omega) (by omega)]
  rw[Dr.wrong2] at o
  have ed:(((List.zipWith (V0 l) (d.taken ys.length) ys).drop (j+1)).all id&&V0 l (d.taken ys.length)[j] ys[j])=((List.zipWith (V0 l) (d.taken ys.length) ys).drop j).all id:=by
   rw[List.drop_eq_getElem_cons (i:=j) (by simp;omega),List.all_cons,Bool.and_comm]
   simp
  rw[ed] at o
  refine ⟨⟨j,σ4,rfl,by omega,(f.trans (.of_stp c.stp)).trans O,o⟩,?_⟩
  simp only[dnM]
  omega)
end Go.Proofs.YtfppjenblllfaaaGreatDoor

namespace Go.Proofs.YtfppjenblllfaaaGreatDoor
open Go.Emb Go.RowKit Go.Kd Go.Hm
variable {w w' w0 : World} {K : Value → World → Prop} {σ σ' σ0 : Q5} {v u : Value}
def O8 (f:Nat):Value:= .func (.func f) #[] #[]
def Ia (σ:Q5) (a:Dact) (v:Value):Prop:=match a with
 | .puts k=> ∃q,v= .func (.func F.cL) #[] #[.pointer (some q)]∧Z2 σ q [S k]∧k.length≤Z9
 | .takes p ys=>(∃q r b,v= .func (.func F.c7) #[] #[.pointer (some q), .pointer (some r)]∧Z2 σ q [S p]∧Z2 σ r [b]∧Sl 1 Y1 σ b ys∧p.length≤Z9)∨(v=O8 F.bc∧p=V5∧ys=[V5,V5])∨(v=O8 F.aA∧p=M8∧ys=[V5,V5])
 | .load=>v=O8 F.cf
 | .store=>v=O8 F.c8
 | .pop=>v=O8 F.cH
 | .dup=>v=O8 F.cr
 | .swap=>v=O8 F.cg
 | .size=>v=O8 F.ch
 | .nop=>v=O8 F.cI
 | .make=>v=O8 F.c5
 | .get=>v=O8 F.cs
 | .give=>v=O8 F.ci
 | .call=>v=O8 F.cj
 | .array=>v=O8 F.c9
 | .at_=>v=O8 F.cz
 | .set_=>v=O8 F.ct
 | .is=>v=O8 F.cA
 | .cast=>v=O8 F.ck
 | .ret=>v=O8 F.cl
 | .equal=>v=O8 F.ca
theorem Ia.lift {a:Dact} (h:Ia σ a v) (k:SLe σ σ'):Ia σ' a v:=by
 cases a with
 | puts s=>obtain ⟨q,c,d,b⟩:=h;exact ⟨q,c,d.lift k,b⟩
 | takes p ys=>
  rcases h with ⟨q,r,e,c,d,b,f,g⟩ | h
  ·exact .inl ⟨q,r,e,c,d.lift k,b.lift k,f.lift k,g⟩
  ·exact .inr h
 | _=>exact h
def Bv (σ:Q5) (c:List (List UInt8×Value)) (b:List (Q9×Dact)):Prop:= ∀k,match b.lookup k with
 | none=>M0 c k=none
 | some a=> ∃v,M0 c k=some v∧Ia σ a v
theorem Q9b (b:List (List UInt8×Value)) (k x:List UInt8) (v:Value):M0 (Qz b k v) x=if k=x then some v else M0 b x:=by
 induction b with
 | nil=>simp[Qz,M0]
 | cons p r c=>
  unfold Qz
  split
  ·rename_i h
   simp only[M0]
   split
   ·rfl
   ·rename_i a;rw[if_neg (by rw[h];exact a)]
  ·rename_i h
   simp only[M0,c]
   split
   ·rename_i a;rw[if_neg (fun e=>h (by rw[a,e]))]
   ·rfl
theorem Bv.lift {b:List (List UInt8×Value)} {a:List (Q9×Dact)} (h:Bv σ b a) (c:SLe σ σ'):Bv σ' b a:=fun k=>by
 have:=h k
 split at this
 ·exact this
 ·obtain ⟨v,e,d⟩:=this;exact ⟨v,e,d.lift c⟩
theorem Bv.put {c:List (List UInt8×Value)} {b:List (Q9×Dact)} {k:Q9} {a:Dact} (h:Bv σ c b) (f:Ia σ a v):Bv σ (Qz c k v) ((k,a)::b):=fun x=>by
 rw[List.lookup_cons,Q9b]
 by_cases e:x=k
 ·subst e
  simp only[beq_self_eq_true,if_true]
  exact ⟨v,rfl,f⟩
 ·have d:(x==k)=false:=by simpa using e
  rw[d,if_neg (Ne.symm e)]
  exact h x
structure TS (w0 : World) (σ0 : Q5) (w : World) (σ : Q5) (r : Nat) (acts : List (Q9 × Dact)) : Prop where
  stp : Stp w0 σ0 w σ
  ge : w0.heap.size ≤ r
  mp : ∃ mp, E1 σ w r mp ∧ Bv σ mp acts
theorem TS.up {r:Nat} {a:List (Q9×Dact)} (h:TS w0 σ0 w σ r a) (k:Stp w σ w' σ'):TS w0 σ0 w' σ' r a:=by
 obtain ⟨b,d,c⟩:=h.mp
 exact ⟨h.stp.trans k,h.ge,b,d.up k,c.lift ⟨k.le⟩⟩
theorem L9 {r:Nat} {b:List (Q9×Dact)} {k:Q9} {a:Dact} (h:TS w0 σ0 w σ r b) (f:Ia σ a v) (g: ∀w',TS w0 σ0 w' σ r ((k,a)::b)→K undef w'):mapUpdate P T.j (.map (some r)) (S k) v w K:=by
 obtain ⟨l,d,j⟩:=h.mp
 refine Ox X7 d k v fun i e c=>?_
 exact g i ⟨e.stp h.stp h.ge d.1,h.ge,_,c,j.put f⟩
theorem Ts {r:Nat} {a:List (Q9×Dact)} {s:Q9} (h:TS w0 σ0 w σ r a) (e:s.length≤Z9) (c: ∀v w' σ',TS w0 σ0 w' σ' r a→Ia σ' (.puts s) v→K v w'):Q1 P F.aT [S s] w K:=Q5n (by
 unfold Q0u
 refine J6 h.stp.sat rfl fun q w1 σ1 d b=>?_
 refine Q8z ?_
 exact c _ w1 σ1 (h.up d) ⟨q,rfl,b,e⟩)
theorem Q65 {r:Nat} {a:List (Q9×Dact)} {s:Q9} {ys:List Q9} (h:TS w0 σ0 w σ r a) (k:s.length≤Z9) (e:Sl 1 Y1 σ u ys) (j: ∀v w' σ',TS w0 σ0 w' σ' r a→Ia σ' (.takes s ys) v→K v w'):Q1 P F.a3 [S s,u] w K:=Q4l (by
 unfold Af
 refine J6 h.stp.sat rfl fun q w1 σ1 d i=>?_
 refine L3 d.sat (e.up d) fun l m g f c=>?_
 refine Q8z ?_
 have b:=d.trans f
 exact j _ m g (h.up b) (.inl ⟨q,l,u,rfl,i.up f,c,e.up b,k⟩))
theorem Ed {r:Nat} {a:List (Q9×Dact)} {s y:Q9} (h:TS w0 σ0 w σ r a) (e:s.length≤Z9) (f:y.length≤Z9) (d: ∀v w' σ',TS w0 σ0 w' σ' r a→Ia σ' (.takes s [y]) v→K v w'):buildSlice P T.d 1 [(0,S y)] w fun t w=>Q1 P F.a3 [S s,t] w K:=by
 refine E3 (R:=Y1) (sz:=1) h.stp.sat [S y] [y] rfl rfl (by simp;rfl) rfl ⟨⟨rfl,f⟩,trivial⟩ fun g j i c b=>?_
 exact Q65 (h.up c) e b d
theorem Q3W {r:Nat} {a:List (Q9×Dact)} {s y z:Q9} (h:TS w0 σ0 w σ r a) (g:s.length≤Z9) (d:y.length≤Z9) (e:z.length≤Z9) (f: ∀v w' σ',TS w0 σ0 w' σ' r a→Ia σ' (.takes s [y,z]) v→K v w'):buildSlice P T.d 2 [(0,S y),(1,S z)] w fun t w=>Q1 P F.a3 [S s,t] w K:=by
 refine E3 (R:=Y1) (sz:=1) h.stp.sat [S y,S z] [y,z] rfl rfl (by simp;exact ⟨rfl,rfl⟩) rfl ⟨⟨rfl,d⟩,⟨rfl,e⟩,trivial⟩ fun k i j c b=>?_
 exact Q65 (h.up c) g b f
set_option maxHeartbeats 4000000 in
set_option maxRecDepth 100000 in
theorem X0V (hs:X4 w σ) (h: ∀r e w' σ',Stp w σ w' σ'→I5 σ' r e→Bv σ' e Gc→K (.map (some r)) w'):Q1 P F.cp [] w K:=Q4j (by
 unfold Aa
 refine Tq hs fun r w1 hr k1 aj=>?_
 have t0:TS w σ w1 σ r []:=⟨k1,hr,[],aj,fun k=>rfl⟩
 refine Ts (s:=V5) t0 (by decide) fun v1 w1 σ1 s1 f1=>?_
 refine L9 (k:=[105,110,116]) (a:= .puts V5) s1 f1 fun x1 t1=>?_
 refine Ts (s:=M8) t1 (by decide) fun v2 w2 σ2 s2 f2=>?_
 refine L9 (k:=[116,114,117,101]) (a:= .puts M8) s2 f2 fun x2 t2=>?_
 refine Ts (s:=M8) t2 (by decide) fun v3 w3 σ3 R f3=>?_
 refine L9 (k:=[102,97,108,115,101]) (a:= .puts M8) R f3 fun x3 q=>?_
 refine Ts (s:=N7) q (by decide) fun v4 w4 σ4 s4 f4=>?_
 refine L9 (k:=[119,111,114,100]) (a:= .puts N7) s4 f4 fun x4 t4=>?_
 refine Ts (s:=O9) t4 (by decide) fun v5 w5 σ5 s5 f5=>?_
 refine L9 (k:=[110,117,108,108]) (a:= .puts O9) s5 f5 fun x5 t5=>?_
 refine L9 (k:=[108,111,97,100]) (a:= .load) t5 rfl fun x6 t6=>?_
 refine L9 (k:=[115,116,111,114,101]) (a:= .store) t6 rfl fun x7 t7=>?_
 refine L9 (k:=[100,117,112]) (a:= .dup) t7 rfl fun x8 t8=>?_
 refine L9 (k:=[115,119,97,112]) (a:= .swap) t8 rfl fun x9 t9=>?_
 refine L9 (k:=[112,111,112]) (a:= .pop) t9 rfl fun ax aa=>?_
 refine Ed (s:=V5) (y:=V5) aa (by decide) (by decide) fun cl a6 bn H am=>?_
 refine L9 (k:=[110,101,103]) (a:= .takes V5 [V5]) H am fun bf af=>?_
 refine Ed (s:=M8) (y:=M8) af (by decide) (by decide) fun bi cq co p E=>?_
 refine L9 (k:=[110,111,116]) (a:= .takes M8 [M8]) p E fun bg ap=>?_
 refine Q3W (s:=M8) (y:=M8) (z:=M8) ap (by decide) (by decide) (by decide) fun bz cf bu O ah=>?_
 refine L9 (k:=[98,111,116,104]) (a:= .takes M8 [M8,M8]) O ah fun a1 A=>?_
 refine Q3W (s:=N7) (y:=N7) (z:=N7) A (by decide) (by decide) (by decide) fun ay be a9 W D=>?_
 refine L9 (k:=[106,111,105,110]) (a:= .takes N7 [N7,N7]) W D fun bj V=>?_
 refine L9 (k:=[108,101,115,115]) (a:= .takes M8 [V5,V5]) V (.inr (.inr ⟨rfl,rfl,rfl⟩)) fun ch n=>?_
 refine L9 (k:=[115,97,109,101]) (a:= .takes M8 [V5,V5]) n (.inr (.inr ⟨rfl,rfl,rfl⟩)) fun b8 j=>?_
 refine L9 (k:=[115,105,122,101]) (a:= .size) j rfl fun cd t=>?_
 refine L9 (k:=[106,117,109,112]) (a:= .nop) t rfl fun ba Z=>?_
 refine Ed (s:=[]) (y:=M8) Z (by decide) (by decide) fun a2 bv b0 C ao=>?_
 refine L9 (k:=[98,114,97,110,99,104]) (a:= .takes [] [M8]) C ao fun b1 ad=>?_
 refine L9 (k:=[110,101,119]) (a:= .make) ad rfl fun a8 ak=>?_
 refine L9 (k:=[103,101,116]) (a:= .get) ak rfl fun cc ae=>?_
 refine L9 (k:=[112,117,116]) (a:= .give) ae rfl fun a5 Y=>?_
 refine L9 (k:=[99,97,108,108]) (a:= .call) Y rfl fun a3 L=>?_
 refine L9 (k:=[97,114,114,97,121]) (a:= .array) L rfl fun b4 X=>?_
 refine L9 (k:=[97,116]) (a:= .at_) X rfl fun a0 ab=>?_
 refine L9 (k:=[115,101,116]) (a:= .set_) ab rfl fun cb g=>?_
 refine L9 (k:=[105,115]) (a:= .is) g rfl fun b7 J=>?_
 refine L9 (k:=[99,97,115,116]) (a:= .cast) J rfl fun bh ac=>?_
 refine L9 (k:=[114,101,116,117,114,110]) (a:= .ret) ac rfl fun b6 l=>?_
 refine Ed (s:=[]) (y:=W0) l (by decide) (by decide) fun cp cs a7 m N=>?_
 refine L9 (k:=[116,104,114,111,119]) (a:= .takes [] [W0]) m N fun b2 al=>?_
 refine Ed (s:=[]) (y:=V5) al (by decide) (by decide) fun bs b3 ai U B=>?_
 refine L9 (k:=[111,117,116]) (a:= .takes [] [V5]) U B fun bk Q=>?_
 refine L9 (k:=[101,113,117,97,108]) (a:= .equal) Q rfl fun aw M=>?_
 refine W1 (cells:=(Q1D.map S).toArray) (by kernel_rfl) ?_
 refine J0 10 (fun i w'=>TS w σ w' ai r ((((Q1D.take i).map fun o=>(o,Dact.takes V5 [V5,V5])).reverse)++Q7D.reverse)) M fun i w2 d hi f=>?_
 refine Z0 ?_
 refine Q6 (fun hc=>?_) (fun hc=>?_)
 ·have b:i<10:=by simp at hc;omega
  have c:i<Q1D.length:=b
  refine X02 (v:=S Q1D[i]) b (by rw[List.getElem?_map,List.getElem?_eq_getElem c];rfl) ?_
  refine L9 (a:= .takes V5 [V5,V5]) f (.inr (.inl ⟨rfl,rfl,rfl⟩)) fun w3 q=>?_
  (try simp only[↓M1,M1,Mb,reduceIte])
  refine Y2 (by decide) b ?_
  rw[List.take_add_one,List.getElem?_eq_getElem c,Option.toList_some,List.map_append,List.reverse_append]
  exact q
 ·have:i=10:=by simp at hc;omega
  subst this
  obtain ⟨e,q1,q2⟩:=f.mp
  obtain ⟨σ3,R,l3,an,_⟩:=q1.keep f.stp f.ge
  exact h r e w2 σ3 R l3 (q2.lift ⟨an⟩))
end Go.Proofs.YtfppjenblllfaaaGreatDoor

namespace Go.Proofs.YtfppjenblllfaaaGreatDoor
open Go.Emb Go.RowKit Go.Kd Go.Hm
variable {w w' w1 : World} {K : Value → World → Prop} {σ σ' σ1 : Q5} {v u : Value} {B : Nat} {D D1 : Nat → Prop} {p tv pv cv hv : Value} {m : Hm.Met} {i : Ins} {d d' : Dr} {l : List Cla} {E : World → Prop}
def To (B:Nat) (D:Nat→Prop) (w:World) (σ:Q5) (p tv pv cv hv:Value) (m:Hm.Met) (i:Ins) (d':Dr) (E:World→Prop):Prop:=
 ∀w' σ' a,Nxt D w σ w' σ'→DrIs B a σ' w' p tv pv cv hv m i d'→(∀j,a j→D j∨w.heap.size≤j)→E w'
theorem Nxt.chain0 {D F:Nat→Prop} {c:World} {f:Q5} (h:Nxt D w σ w1 σ1) (k:Nxt F w1 σ1 c f) (g: ∀j,j<w.heap.size→F j→D j):Nxt D w σ c f:=
 ⟨⟨k.kp.os.trans h.kp.os,k.kp.tape.trans h.kp.tape,k.kp.output.trans h.kp.output,Nat.le_trans h.kp.size k.kp.size,fun j a b=>(k.kp.block j (Nat.lt_of_lt_of_le a h.kp.size) fun e=>b (g j a e)).trans (h.kp.block j a b)⟩,
  h.le.more k.le,fun j a=>(k.old j (Nat.lt_of_lt_of_le a h.kp.size)).trans (h.old j a),k.sat⟩
theorem To.go (h:To B D w σ p tv pv cv hv m i d' E) (N:Nxt D w σ w1 σ1) (hD: ∀j,D1 j→D j∨w.heap.size≤j):To B D1 w1 σ1 p tv pv cv hv m i d' E:=fun w' σ' g c f a=>
 h w' σ' g (Nxt.chain0 N c fun j b e=>(hD j e).elim id fun h=>by omega) f fun j b=>(a j b).elim (fun e=>hD j e) fun e=> .inr (Nat.le_trans N.kp.size e)
theorem To.up (h:To B D w σ p tv pv cv hv m i d' E) (k:Stp w σ w1 σ1):To B D w1 σ1 p tv pv cv hv m i d' E:=h.go (.of_stp k) fun j a=> .inl a
theorem To.fin (h:To B D w σ p tv pv cv hv m i d' E) (b:X4 w σ) (a:DrIs B D σ w p tv pv cv hv m i d'):E w:=h w σ D (Nxt.rfl0 b) a fun j c=> .inl c
structure AtD (B : Nat) (D : Nat → Prop) (w : World) (σ : Q5) (p tv pv cv hv : Value) (m : Hm.Met) (i : Ins) (l : List Cla) (d : Dr) : Prop where
  sat : X4 w σ
  ge : B ≤ w.heap.size
  dr : DrIs B D σ w p tv pv cv hv m i d
  tab : Tab σ tv l
  ok : Ok l
  len : d.stack.length ≤ 100000
theorem AtD.up (h:AtD B D w σ p tv pv cv hv m i l d) (k:Stp w σ w1 σ1):AtD B D w1 σ1 p tv pv cv hv m i l d:=⟨k.sat,Nat.le_trans h.ge k.bel.size,h.dr.up k,h.tab.lift ⟨k.le⟩,h.ok,h.len⟩
theorem Q9C {q:Q9} {ys:List Q9} (h:AtD B D w σ p tv pv cv hv m i l d) (c:Sl 1 Y1 σ v ys) (a:q.length≤Z9) (b:ys.length≤100000) (hh:To B D w σ p tv pv cv hv m i (d.all l q ys) (K (.tuple #[]))):Q1 P F.a6 [p,S q,v] w K:=
 X21 h.sat h.ge h.dr h.tab h.ok c a h.len b hh
theorem Q8c {q y z:Q9} (h:AtD B D w σ p tv pv cv hv m i l d) (c:q.length≤Z9) (e:y.length≤Z9) (f:z.length≤Z9) (hh:To B D w σ p tv pv cv hv m i (d.all l q [y,z]) E):buildSlice P T.d 2 [(0,S y),(1,S z)] w fun t w=>Q1 P F.a6 [p,S q,t] w fun _ w=>E w:=by
 refine E3 (R:=Y1) (sz:=1) h.sat [S y,S z] [y,z] rfl rfl (by simp;exact ⟨rfl,rfl⟩) rfl ⟨⟨rfl,e⟩,⟨rfl,f⟩,trivial⟩ fun g j k b a=>?_
 exact Q9C (h.up b) a c (by simp) (hh.up b)
def Q9K (l:List Cla) (m:Hm.Met) (i:Ins) (c f:Q9) (k:Bool) (a:Dact):Prop:= ∀{w:World} {σ:Q5} {B:Nat} {D:Nat→Prop} {p tv pv cv hv v:Value} {d:Dr} {K:Value→World→Prop},AtD B D w σ p tv pv cv hv m i l d→Ia σ a v→d.e=0→
 To B D w σ p tv pv cv hv m i (Gr l m i c f k d a) (K (.tuple #[]))→Z1 P v [p] w K
theorem Q9l {c f q:Q9} {k:Bool} {ys:List Q9} (j:ys.length≤100000):Q9K l m i c f k (.takes q ys):=fun {w σ B D p tv pv cv hv v d K} h g _ hh=>by
 have hh:To B D w σ p tv pv cv hv m i (d.all l q ys) (K (.tuple #[])):=hh
 rcases g with ⟨a,b,s,rfl,e,o,r,n⟩ | ⟨rfl,rfl,rfl⟩ | ⟨rfl,rfl,rfl⟩
 ·refine Y9 (first:=[]) (caps:=[.pointer (some a), .pointer (some b)]) (Q27 ?_)
  unfold St
  refine X8 h.sat e rfl ?_
  refine X8 h.sat o rfl ?_
  exact Q9C h r n j hh
 ·refine Y9 (first:=[]) (caps:=[]) (Fm ?_)
  unfold Lj
  exact Q8c (E:=K (.tuple #[])) h (by decide) (by decide) (by decide) hh
 ·refine Y9 (first:=[]) (caps:=[]) (Ss ?_)
  unfold Up
  exact Q8c (E:=K (.tuple #[])) h (by decide) (by decide) (by decide) hh
end Go.Proofs.YtfppjenblllfaaaGreatDoor

namespace Go.Proofs.YtfppjenblllfaaaGreatDoor
open Go.Emb Go.RowKit Go.Kd Go.Hm
variable {w w' w1 : World} {K : Value → World → Prop} {σ σ' σ1 : Q5} {v u : Value} {tv : Value} {m : Hm.Met} {i : Ins} {l : List Cla}
theorem X2h {t:TypeId} {sz by_ k b:Nat} {z:Value} [TG P t true] [TZ P t sz by_ z] {cs ds:List Value} (e:Z5 σ w b cs) (d: ∀i v,ds[i]? =some v→cs[k+i]? =some v) (a:ds.length=sz) (h:K (.agg ds.toArray) w):Q2 P t (.pointer (some ((⟨b,0,none⟩:Addr).add k))) w K:=
 Dt a (fun i v c=>by rw[Sv];exact e.cell (d i v c)) h
theorem Q3E {t:TypeId} {sz by_ b:Nat} {z:Value} [tz:TZ P t sz by_ z] {cs ds:List Value} (a:Z5 σ w b cs) (c:cs.length=sz) (d:ds.length=sz) (f: ∀u∈ds,u.oneCell'=true)
 (h: ∀w',Upd w b w'→Z5 σ w' b ds→K undef w'):Z4 P t (.pointer (some ⟨b,0,none⟩)) (.agg ds.toArray) w K:=
 sta a c d (by rw[List.all_toArray];exact List.all_eq_true.2 f) fun w' e a=>h w' e a
theorem Q6I (h:K (.slice none 0 0) w):Q1 P F.b [.slice none 0 0] w K:=R7 (by
 unfold N6
 refine Di rfl ?_
 exact U3 h)
def QF (w0:World) (σ:Q5) (xs:List Q9) (v:Value) (w':World):Prop:=Stp w0 σ w' σ∧J9 w0.heap.size T.b 1 Y1 σ w' v xs
theorem QF.st {w0:World} {xs:List Q9}:Zl (fun w w'=>Below w.heap.size w w') (QF w0 σ xs):=fun _ _ _ ⟨a,c⟩ b=>⟨a.trans (Stp.of_below a.sat b),c.up (Stp.of_below a.sat b)⟩
theorem Q8R {w0:World} {xs:List Q9} (a:Hst w0 σ w σ) (d:Sl 1 Y1 σ v xs) (c:xs.length≤1000000):Q1 P F.b [v] w (dk (fun w w'=>Below w.heap.size w w') (QF w0 σ xs) w):=
 Q2a a.sat d c fun f w' b e=>⟨b.bel,a.stp.trans b,(J9.of_acc e).mono a.stp.bel.size⟩
def Q3B (d:Dr):Shp×Int:=if d.e=0 then (⟨true,d.stack,d.locals⟩,0) else (Shp.zero,d.e)
def FnF (σ:Q5) (w0:World) (o:Option Dact) (v:Value) (w':World):Prop:= ∃σ',Stp w0 σ w' σ'∧ ∀a,o=some a→Ia σ' a v
def TbF (σ:Q5) (w0:World) (v:Value) (w':World):Prop:= ∃σ' r a,Stp w0 σ w' σ'∧v= .map (some r)∧I5 σ' r a∧Bv σ' a Gc
theorem TbF.st {w0:World}:Zl (fun w w'=>Below w.heap.size w w') (TbF σ w0):=fun _ _ _ ⟨σ',r,c,a,f,b,d⟩ e=>⟨σ',r,c,a.trans (Stp.of_below a.sat e),f,b,d⟩
theorem FnF.st {w0:World} {o:Option Dact}:Zl (fun w w'=>Below w.heap.size w w') (FnF σ w0 o):=fun _ _ _ ⟨σ',a,c⟩ b=>⟨σ',a.trans (Stp.of_below a.sat b),c⟩
set_option maxHeartbeats 2000000 in
theorem X1P {ms is:List Value} {sv:Value} {xs:List Q9} {c f:Q9} {k:Bool} (hs:X4 w σ) (ht:Tab σ tv l) (ok:Ok l) (hm:M5 σ m ms) (hi:I8 σ i is) (hx:Sl 1 Y1 σ sv xs) (hl:xs.length≤1000) (az: ∀a,Gc.lookup i.op=some a→Q9K l m i c f k a)
 (h: ∀ds w' σ',Stp w σ w' σ'→U7 σ' (doM l m i c f k ⟨true,xs,[]⟩).1 ds→K (.tuple #[.agg ds.toArray,I (doM l m i c f k ⟨true,xs,[]⟩).2]) w'):
 Q1 P F.cN [tv, .agg ms.toArray, .agg is.toArray, .agg [.bool true,sv, .slice none 0 0].toArray] w K:=Q8t (by
 obtain ⟨pv,cv,hv,rfl,L⟩:=hm
 obtain ⟨rfl,d6⟩:=hi
 obtain ⟨ta,cb⟩: ∃ta,tv= .pointer (some ta):=by obtain ⟨a,_,_,_,e,_⟩:=ht.ex;exact ⟨a,e⟩
 subst cb
 unfold Q33
 refine Y8 hs fun qm w1 σ1 J cd=>?_
 refine Y8 J.sat fun qi w2 σ2 k2 bo=>?_
 refine Y8 k2.sat fun qs w3 σ3 k3 ce=>?_
 have am:=(cd.up k2).up k3
 have ax:=bo.up k3
 have S3:=(J.trans k2).trans k3
 have bq:=hx.up S3
 refine I2 k3.sat fun b8 Y σ4 an k4 ar=>?_
 have S4:=S3.trans k4
 have cn:=am.up k4
 have aj:=ax.up k4
 have ck:=ce.up k4
 have ca:=bq.up k4
 refine U6 k4.sat ?_
 (repeat refine U9 I9 ?_)
 refine W7 (QF Y σ4 xs) QF.st (fun t w g e=>?_) ?_
 ·subst e
  exact Q8R g ca (by omega)
 (repeat refine U9 I9 ?_)
 refine U9 (V:= .slice none 0 0) (fun t w g e=>?_) ?_
 ·subst e
  exact Q6I (B2 rfl)
 refine W7 (fun v w'=> ∃t,v= .agg #[.bool true,t, .slice none 0 0]∧QF Y σ4 xs t w') (fun _ _ _ ⟨t,M,H⟩ g=>⟨t,M,QF.st _ _ _ H g⟩) (fun q du w g a7 bm=>?_) ?_
 ·subst bm
  refine W1 (cells:= #[.bool true,q, .slice none 0 0]) (by obtain ⟨_,a,dw,rfl,_⟩:=a7;kernel_rfl) ?_
  exact ⟨Below.refl _ _,q,rfl,a7⟩
 rintro _ _ _ _ _ _ _ _ _ w5 dj rfl rfl rfl rfl rfl-rfl rfl ⟨q,rfl,k5,q5⟩
 obtain ⟨b4,bz,b7,_⟩:=L
 refine W1 (cells:= #[.pointer (some ta),S m.name,pv,S m.result, .bool m.abs,I m.locals,cv,hv,S i.op,I i.n,S i.s, .bool true,q, .slice none 0 0,I 0]) (by
  obtain ⟨a1,c1,rfl,_⟩:=b4;obtain ⟨a2,c2,rfl,_⟩:=bz;obtain ⟨a3,c3,rfl,_⟩:=b7;obtain ⟨a4,c4,rfl,_⟩:=q5;kernel_rfl) ?_
 refine Tl k5.sat fun b w6 σ6 g k6 ba=>?_
 have cu:=ar.lt
 have cf:Y.heap.size≤b:=Nat.le_trans k5.bel.size g
 have O:=(ar.up k5).up k6
 have S5:=S4.trans k5
 have S6:=S5.trans k6
 have q6:=q5.up k6
 have ay:DrIs Y.heap.size (fun k=>k=b∨q.ownBlock=some k∨(Value.slice none 0 0).ownBlock=some k) σ6 w6 (.pointer (some ⟨b,0,none⟩)) (.pointer (some ta)) pv cv hv m i ⟨xs,[],0⟩:=
  ⟨b,q, .slice none 0 0,rfl,cf,ba,q6,J9.of_acc V6.nil,fun k A=>⟨fun e=>by have:=(q5.mem A).2.1;omega,nofun⟩,nofun,fun k=>Iff.rfl⟩
 have A6:AtD Y.heap.size _ w6 σ6 (.pointer (some ⟨b,0,none⟩)) (.pointer (some ta)) pv cv hv m i l ⟨xs,[],0⟩:=⟨k6.sat,Nat.le_trans k5.bel.size k6.bel.size,ay,ht.lift ⟨S6.le⟩,ok,by show xs.length≤100000;omega⟩
 generalize (fun k=>k=b∨q.ownBlock=some k∨(Value.slice none 0 0).ownBlock=some k)=D at*
 have ah: ∀k,D k→Y.heap.size≤k:=fun k A=>(A6.dr.mem A).1
 have cy:=(aj.up k5).up k6
 clear ay q5 q6 ba
 generalize (Value.pointer (some ⟨b,0,none⟩))=p at*
 have ap:doM l m i c f k ⟨true,xs,[]⟩=match Gc.lookup i.op with
  | none=>(Shp.zero,76)
  | some a=>Q3B ((Gr l m i c f k ⟨xs,[],0⟩ a).wrong (decide ((Gr l m i c f k ⟨xs,[],0⟩ a).stack.length≤24)) 72):=rfl
 rw[ap] at h
 clear ap
 generalize ho:Gc.lookup i.op=o at*
 refine U6 k6.sat ?_
 (repeat refine U9 I9 ?_)
 refine W7 (TbF σ6 w6) TbF.st (fun w g=>X0V g.sat fun r mp w' σ' J M H=>⟨J.bel,σ',r,mp,g.stp.trans J,rfl,M,H⟩) ?_
 (repeat refine U9 I9 ?_)
 refine W7 (fun v w'=> ∃v0,v= .tuple #[v0, .bool o.isSome]∧FnF σ6 w6 o v0 w') (fun _ _ _ ⟨v0,M,H⟩ g=>⟨v0,M,FnF.st _ _ _ H g⟩) (fun cz dq w g bk bx=>?_) ?_
 ·subst bx
  obtain ⟨σ',r,mp,J,rfl,M,H⟩:=bk
  have h3:=H i.op
  rw[ho] at h3
  refine Q4A (sz:=1) (by_:=8) (z:= .nilFunc) (tz:=⟨by kernel_rfl⟩) X7 (M.is J.sat) i.op ?_
  refine ⟨Below.refl _ _,?_⟩
  cases o with
  | none=>
   have h3:M0 mp i.op=none:=h3
   rw[h3]
   exact ⟨_,rfl,σ',J,fun a e=>by cases e⟩
  | some a=>
   obtain ⟨v,h4,h5⟩:=h3
   rw[h4]
   exact ⟨v,rfl,σ',J,fun a e=>by cases e;exact h5⟩
 refine W7 (FnF σ6 w6 o) FnF.st (fun t w g W=>?_) ?_
 ·obtain ⟨v0,rfl,H⟩:=W
  exact U5 rfl ⟨Below.refl _ _,H⟩
 refine U9 (V:= .bool o.isSome) (fun t w g W=>?_) ?_
 ·obtain ⟨v0,rfl,H⟩:=W
  exact U5 rfl (B2 rfl)
 rintro _ _ _ _ d1 _ w7 da rfl-rfl-bs rfl
 obtain ⟨σ7,k7,hf⟩:=bs
 refine Ni ?_
 cases o with
 | none=>
  refine U3 ?_
  refine W1 (cells:= #[.bool false, .slice none 0 0, .slice none 0 0]) (by kernel_rfl) ?_
  refine T8 (ds:=[.bool false, .slice none 0 0, .slice none 0 0]) (O.up k7) (S6.trans k7) (Nat.le_trans S3.bel.size an) rfl rfl (by simp;exact ⟨rfl,rfl⟩) fun w9 b9 y=>?_
  refine W2 y rfl ?_
  exact h _ _ _ b9.stp ⟨_,_,rfl,Sl.nil,Sl.nil⟩
 | some a=>
  refine V8 ?_
  refine az a rfl (A6.up k7) (hf a rfl) rfl fun w8 σ8 D8 N8 h8 c5=>?_
  replace h: ∀ds w' σ',Stp w σ w' σ'→U7 σ' (Q3B ((Gr l m i c f k ⟨xs,[],0⟩ a).wrong (decide ((Gr l m i c f k ⟨xs,[],0⟩ a).stack.length≤24)) 72)).1 ds→K (.tuple #[.agg ds.toArray,I (Q3B ((Gr l m i c f k ⟨xs,[],0⟩ a).wrong (decide ((Gr l m i c f k ⟨xs,[],0⟩ a).stack.length≤24)) 72)).2]) w':=h
  generalize Gr l m i c f k ⟨xs,[],0⟩ a=d at*
  have S7:=S6.trans k7
  have bp: ∀k,D k→w.heap.size≤k:=fun k A=>Nat.le_trans S4.bel.size (ah k A)
  have Q: ∀k,D8 k→Y.heap.size≤k:=fun k A=>(h8.mem A).1
  have aq:=h8
  obtain ⟨b1,dh,dl,rfl,cc,L,ak,b0,g1,g2,br⟩:=h8.ex
  refine Q3y ?_
  refine D6 ?_
  refine D6 ?_
  refine Jx (i:=12) L rfl ?_
  refine Bo ak ?_
  refine X28 ?_
  rw[show decide (((d.stack.length:Nat):Int)≤24)=decide (d.stack.length≤24) from decide_eq_decide.2 (by omega)]
  refine Q28 N8.sat aq fun w9 N9 h9=>?_
  generalize d.wrong (decide (d.stack.length≤24)) 72=d2 at*
  unfold Q3B at h
  clear aq L ak b0 g1 g2 br h8 cc
  obtain ⟨b2,E,B,e2,dg,U,X,aa,g1,g2,c9⟩:=h9.ex
  cases e2
  have S8:=S7.nx N8 bp
  have S9:=S8.nx N9 fun k A=>Nat.le_trans S4.bel.size (Q k A)
  have a8: ¬D8 b8:=fun e=>by have:=Q _ e;omega
  have ac: ¬D b8:=fun e=>by have:=ah _ e;omega
  have y:=((O.up k7).nx N8 ac).nx N9 a8
  have R:=Nat.le_trans S3.bel.size an
  refine Q3y ?_
  refine D6 ?_
  refine Jx (i:=14) U rfl ?_
  refine I4 ?_
  by_cases he:d2.e=0
  ·simp only[if_pos he] at h
   rw[show (!decide (d2.e=0))=false from by simp[he]]
   refine V8 ?_
   refine Q3y ?_
   refine D6 ?_
   refine X2h (k:=11) (ds:=[.bool true,E,B]) U (fun j v hj=>by rcases j with _ | _ | _ | j<;>first | exact hj | cases hj) rfl ?_
   have M: ∀u∈[Value.bool true,E,B],u.oneCell'=true:=by
    obtain ⟨a1,c1,rfl,_⟩:=X;obtain ⟨a2,c2,rfl,_⟩:=aa;simp;exact ⟨rfl,rfl,rfl⟩
   refine Q3E (ds:=[.bool true,E,B]) y rfl rfl M fun al Z C=>?_
   refine W2 C rfl ?_
   have ci:Stp w σ al σ8:=Z.stp S9 R y.1
   have a6:E.ownBlock≠some b8:=fun e=>by have:=(X.mem e).1;omega
   have aw:B.ownBlock≠some b8:=fun e=>by have:=(aa.mem e).1;omega
   have a0:=(X.updD Z a6).mono S4.bel.size
   have N:=(aa.updD Z aw).mono S4.bel.size
   obtain ⟨σa,Sa,qa,bl,a5⟩:=a0.keep ci
   have bw:=N.shiftR bl fun k A=>(a5 k fun e=>(g1 k e.symm).2 A).trans (N.mem A).2.2
   obtain ⟨σb,Sb,qb,b5,_⟩:=bw.keep Sa
   exact h _ _ _ Sb ⟨E,B,rfl,qa.lift b5,qb⟩
  ·simp only[if_neg he] at h
   rw[show (!decide (d2.e=0))=true from by simp[he]]
   refine U3 ?_
   refine X1j (ds:=[.bool false, .slice none 0 0, .slice none 0 0]) S9 R y rfl rfl ?_
   refine U9 (V:= .pointer (some ⟨b1,0,none⟩)) (fun w g=>Q3y (Bt rfl)) ?_
   refine U9 (V:= .pointer (some ((⟨b1,0,none⟩:Addr).add 14))) (fun t w g e=>by subst e;exact D6 (Bt rfl)) ?_
   refine U9 (V:= .agg [.bool false, .slice none 0 0, .slice none 0 0].toArray) (fun w g=>W1 (by kernel_rfl) (Bt rfl)) ?_
   refine U9 (V:=I d2.e) (fun t w g e=>?_) ?_
   ·subst e
    exact Jx (i:=14) (U.kp g.kp fun e=>by omega) rfl (Bt rfl)
   refine Q9p rfl (by simp;exact ⟨rfl,rfl⟩) (fun v w e=>e) ?_ y.1
   rintro _ _ _ _ _ al bb rfl rfl rfl rfl C
   refine W2 C rfl ?_
   exact h _ _ _ bb.hst.stp ⟨_,_,rfl,Sl.nil,Sl.nil⟩)
end Go.Proofs.YtfppjenblllfaaaGreatDoor

namespace Go.Proofs.YtfppjenblllfaaaGreatDoor
open Go.Emb Go.RowKit Go.Kd Go.Hm
variable {w w' w0 w1 : World} {K : Value → World → Prop} {σ σ' σ0 σ1 : Q5} {v u : Value} {tv : Value} {l : List Cla} {b b6 : Nat} {xs ys : List Q9} {x : Q9}
theorem Q2I {σ1:Q5} {cs ds:List Value} (h:Z5 σ w b cs) (k:Z5 σ1 w b ds):cs=ds:=by
 obtain ⟨_,e,h⟩:=h
 obtain ⟨_,f,k⟩:=k
 rw[h] at k
 have:=Option.some.inj k
 simp at this
 exact this.1
structure ShS (w0 : World) (σ0 : Q5) (w : World) (σ : Q5) (b : Nat) (xs ys : List Q9) : Prop where
  stp : Stp w0 σ0 w σ
  ge : w0.heap.size ≤ b
  ex : ∃ v1 v2, Z5 σ w b [.bool true, v1, v2] ∧ J9 w0.heap.size T.b 1 Y1 σ w v1 xs ∧ J9 w0.heap.size T.b 1 Y1 σ w v2 ys ∧ (∀ k, v1.ownBlock = some k → k ≠ b ∧ v2.ownBlock ≠ some k) ∧ ∀ k, v2.ownBlock = some k → k ≠ b
theorem ShS.up (h:ShS w0 σ0 w σ b xs ys) (k:Stp w σ w' σ'):ShS w0 σ0 w' σ' b xs ys:=by
 obtain ⟨d,c,g,f,a,e,i⟩:=h.ex
 exact ⟨h.stp.trans k,h.ge,d,c,g.up k,f.up k,a.up k,e,i⟩
theorem X1v (g:X4 w σ) (h: ∀b w',ShS w σ w' σ b [] []→K (.pointer (some ⟨b,0,none⟩)) w'):W6 P T.f w fun p w=>Z4 P T.f p (.agg #[.bool true, .slice none 0 0, .slice none 0 0]) w fun _ w=>K p w:=
 Hi g fun b w1 d f a=>Q3E (sz:=3) (ds:=[.bool true, .slice none 0 0, .slice none 0 0]) a rfl rfl (by simp;exact ⟨rfl,rfl⟩) fun i e c=>
  h b i ⟨e.stp f d a.1,d,_,_,c,J9.of_acc V6.nil,J9.of_acc V6.nil,nofun,nofun⟩
theorem X27 {p y:Value} (h:ShS w0 σ0 w σ b xs ys) (O:Z5 σ w b [.bool true,p,y]) (R:Sl 1 Y1 σ u [x]) (X:xs.length≤1000000) (hh: ∀w',ShS w0 σ0 w' σ b (xs++[x]) ys→K undef w'):
 X5 P .append [T.d,T.d] T.d [false,false] [p,u] w fun q w=>fieldAddr P T.f (.pointer (some ⟨b,0,none⟩)) 1 w fun m w=>Z4 P T.d m q w K:=by
 obtain ⟨Y,W,o,N,D,s,B⟩:=h.ex
 have e:=Q2I O o
 simp only[List.cons.injEq,and_true,true_and] at e
 obtain ⟨rfl,rfl⟩:=e
 refine Q1W h.stp.sat h.stp.bel.size N R (by rfl) (by simp only[List.length_cons,List.length_nil];omega) (by simp only[List.length_cons,List.length_nil];omega) fun z U t Z j r=>?_
 have g: ∀k,z.ownBlock=some k→p.ownBlock=some k∨w.heap.size≤k:=fun k d=>by
  rcases r with ⟨a,J,V,M⟩ | ⟨_,f⟩
  ·left;rw[V];rw[M] at d;cases a<;>exact d
  ·exact .inr (f k d)
 have C:=o.kp t fun e=>(s b e.1).1 rfl
 have Q:=D.kp t fun k d e=>(s k e.1).2 d
 have A: ∀k,z.ownBlock=some k→k≠b∧y.ownBlock≠some k:=fun k d=>by
  rcases g k d with h | h
  ·exact s k h
  ·have:=o.lt
   exact ⟨by omega,fun e=>by have:=(D.mem e).2.1;omega⟩
 refine D6 ?_
 refine Lx (i:=1) C (by simp) (by obtain ⟨a,c,rfl,_⟩:=j;rfl) (by obtain ⟨a,c,rfl,_⟩:=j;rfl) fun L n E=>?_
 have H:Stp w0 σ0 U σ:=h.stp.kp t fun k d=>⟨d.2.1,d.2.2⟩
 exact hh L ⟨n.stp H h.ge C.1,h.ge,z,y,E,j.updD n fun e=>(A b e).1 rfl,Q.updD n fun e=>B b e rfl,A,B⟩
theorem X2b {q z:Value} (h:ShS w0 σ0 w σ b xs ys) (Q:Z5 σ w b [.bool true,q,z]) (U:Sl 1 Y1 σ u [x]) (Y:ys.length≤1000000) (hh: ∀w',ShS w0 σ0 w' σ b xs (ys++[x])→K undef w'):
 X5 P .append [T.d,T.d] T.d [false,false] [z,u] w fun r w=>fieldAddr P T.f (.pointer (some ⟨b,0,none⟩)) 2 w fun n w=>Z4 P T.d n r w K:=by
 obtain ⟨Z,X,p,C,O,t,B⟩:=h.ex
 have e:=Q2I Q p
 simp only[List.cons.injEq,and_true,true_and] at e
 obtain ⟨rfl,rfl⟩:=e
 refine Q1W h.stp.sat h.stp.bel.size O U (by rfl) (by simp only[List.length_cons,List.length_nil];omega) (by simp only[List.length_cons,List.length_nil];omega) fun j V y s2 m s=>?_
 have f: ∀k,j.ownBlock=some k→z.ownBlock=some k∨w.heap.size≤k:=fun k d=>by
  rcases s with ⟨a,L,W,N⟩ | ⟨_,g⟩
  ·left;rw[W];rw[N] at d;cases a<;>exact d
  ·exact .inr (g k d)
 have D:=p.kp y fun e=>B b e.1 rfl
 have R:=C.kp y fun k d e=>(t k d).2 e.1
 have A: ∀k,j.ownBlock=some k→k≠b:=fun k d=>by
  rcases f k d with h | h
  ·exact B k h
  ·have:=p.lt
   omega
 have E: ∀k,q.ownBlock=some k→k≠b∧j.ownBlock≠some k:=fun k d=>⟨(t k d).1,fun e=>by
  rcases f k e with h | h
  ·exact (t k d).2 h
  ·have:=(C.mem d).2.1;omega⟩
 refine D6 ?_
 refine Lx (i:=2) D (by simp) (by obtain ⟨a,c,rfl,_⟩:=m;rfl) (by obtain ⟨a,c,rfl,_⟩:=m;rfl) fun M o H=>?_
 have J:Stp w0 σ0 V σ:=h.stp.kp y fun k d=>⟨d.2.1,d.2.2⟩
 exact hh M ⟨o.stp J h.ge D.1,h.ge,q,j,H,R.updD o fun e=>(E b e).1 rfl,m.updD o fun e=>A b e rfl,E,A⟩
theorem X1A {q:List Value} {K:Value→World→Prop} (h:ShS w0 σ0 w σ b xs ys) (S0:Stp w1 σ1 w0 σ0) (n:Z5 σ0 w0 b6 q) (H:q.length=3) (f:w1.heap.size≤b6) (hh: ∀ds w' σ',Stp w1 σ1 w' σ'→U7 σ' ⟨true,xs,ys⟩ ds→K (.agg ds.toArray) w'):
 Q2 P T.f (.pointer (some ⟨b,0,none⟩)) w fun t w=>Z4 P T.f (.pointer (some ⟨b6,0,none⟩)) t w fun _u w=>V7 P T.f (.pointer (some ⟨b6,0,none⟩)) w fun D=>K D w:=by
 obtain ⟨g,o,C,j,m,L,V⟩:=h.ex
 have M:=n.lt
 refine Q6w C rfl ?_
 have N: ∀u∈[Value.bool true,g,o],u.oneCell'=true:=by
  obtain ⟨X,Y,rfl,_⟩:=j;obtain ⟨W,U,rfl,_⟩:=m;simp;exact ⟨rfl,rfl,rfl⟩
 refine Q3E (ds:=[.bool true,g,o]) (n.up h.stp) H rfl N fun Q c J=>?_
 refine W2 J rfl ?_
 have S:=S0.trans h.stp
 have z:Stp w1 σ1 Q σ:=c.stp S f (n.up h.stp).1
 have O:=(j.updD c fun e=>by have:=(j.mem e).1;omega).mono S0.bel.size
 have r:=(m.updD c fun e=>by have:=(m.mem e).1;omega).mono S0.bel.size
 obtain ⟨R,B,y,i,a⟩:=O.keep z
 have d:=r.shiftR i fun k s=>(a k fun e=>(L k e.symm).2 s).trans (r.mem s).2.2
 obtain ⟨σb,E,A,p,_⟩:=d.keep B
 exact hh _ _ _ E ⟨g,o,rfl,y.lift p,A⟩
theorem Pc {d ds:List Value} {s:Shp} {K:Value→World→Prop} (S0:Stp w1 σ1 w σ) (e:Z5 σ w b6 d) (h:d.length=3) (a:w1.heap.size≤b6) (c:U7 σ s ds) (hh: ∀w',Stp w1 σ1 w' σ→K (.agg ds.toArray) w'):
 Z4 P T.f (.pointer (some ⟨b6,0,none⟩)) (.agg ds.toArray) w fun _u w=>V7 P T.f (.pointer (some ⟨b6,0,none⟩)) w fun g=>K g w:=by
 refine Q3E (ds:=ds) e h (by obtain ⟨_,_,rfl,_⟩:=c;rfl) (Rep.one c) fun j f i=>?_
 exact W2 i (by obtain ⟨_,_,rfl,_⟩:=c;rfl) (hh j (f.stp S0 a e.1))
theorem U7.zero:U7 σ Shp.zero [.bool false, .slice none 0 0, .slice none 0 0]:=⟨_,_,rfl,Sl.nil,Sl.nil⟩
theorem Q4F (h:K (.agg [.bool false, .slice none 0 0, .slice none 0 0].toArray) w):O5 P T.f [] w K:=W1 (by kernel_rfl) h
theorem Q8I (h:K (.agg #[.bool true, .slice none 0 0, .slice none 0 0]) w):O5 P T.f [(0, .bool true)] w K:=W1 (by kernel_rfl) h
end Go.Proofs.YtfppjenblllfaaaGreatDoor

namespace Go.Proofs.YtfppjenblllfaaaGreatDoor
open Go.Emb Go.RowKit Go.Kd Go.Hm
variable {w w' w0 w1 : World} {K : Value → World → Prop} {σ σ' σ0 σ1 : Q5} {v u : Value} {tv : Value} {l : List Cla} {b b6 : Nat} {xs ys : List Q9} {x : Q9} {s t : Shp}
theorem Q8J (g:X4 w σ) (e:Sl 1 Y1 σ v xs) (c:xs.length≤1000000)
 (h: ∀a w' σ',Stp w σ w' σ'→Sl 1 Y1 σ' a xs→K a w'):Q1 P F.b [v] w K:=
 Q2a g e c fun a w' f i=>by
  obtain ⟨σ',d,j,_⟩:=i.keep f
  exact h a w' σ' d j
def SlF (w0:World) (σ:Q5) (xs:List Q9) (v:Value) (w':World):Prop:= ∃σ',Stp w0 σ w' σ'∧Sl 1 Y1 σ' v xs
theorem SlF.st:Zl (fun w w'=>Below w.heap.size w w') (SlF w0 σ xs):=fun _ _ _ ⟨σ',a,c⟩ d=>⟨σ',a.trans (Stp.of_below a.sat d),c⟩
theorem Q2Z (c:Hst w0 σ w σ) (e:Sl 1 Y1 σ v xs) (d:xs.length≤1000000):Q1 P F.b [v] w (dk (fun w w'=>Below w.heap.size w w') (SlF w0 σ xs) w):=
 Q8J c.sat e d fun g w' σ' a f=>⟨a.bel,σ',c.stp.trans a,f⟩
theorem U7.liftS {ds:List Value} (h:U7 σ s ds) (k:Stp w σ w' σ'):U7 σ' s ds:=Rep.up k.le h
theorem Q32 {ds:List Value} (hs:X4 w σ) (R:U7 σ s ds) (h1:s.stack.length≤1000000) (W:s.locals.length≤1000000) (h: ∀m w' σ',Stp w σ w' σ'→U7 σ' s m→K (.agg m.toArray) w'):Q1 P F.bJ [.agg ds.toArray] w K:=Q3u (by
 obtain ⟨sv,lv,rfl,y,A⟩:=R
 unfold Ii
 refine Tl hs fun b w1 σ1 c D a=>?_
 have Q:=a.lt
 refine I2 D.sat fun Z M J E C r=>?_
 have p:=D.trans C
 have a:=a.up C
 have y:=y.up p
 have A:=A.up p
 refine U6 C.sat ?_
 (repeat refine U9 I9 ?_)
 refine U9 (V:=sv) (fun t w c e=>by subst e;exact Jx (i:=1) (a.up c.stp) rfl (B2 rfl)) ?_
 refine W7 (SlF M J s.stack) SlF.st (fun t w c e=>by subst e;exact Q2Z c y h1) ?_
 refine U9 (V:=lv) (fun t w c e=>by subst e;exact Jx (i:=2) (a.up c.stp) rfl (B2 rfl)) ?_
 (repeat refine U9 I9 ?_)
 refine W7 (SlF M J s.locals) SlF.st (fun t w c e=>by subst e;exact Q2Z c A W) ?_
 rintro _ _ _ B _ _ o w3 N rfl rfl rfl f5 rfl rfl X
 obtain ⟨σa,ka,g⟩:=f5
 obtain ⟨σb,kb,f⟩:=X
 obtain ⟨σ3,q,Y,lb⟩:=ka.join kb
 have g:=g.lift Y
 have f:=f.lift lb
 have n:=a.up q
 refine Lx (i:=1) n (by simp) (Xb g) (G1 g) fun w4 L k=>?_
 refine D6 ?_
 refine Lx (i:=2) k (by simp) (Xb f) (G1 f) fun w5 H z=>?_
 refine Q6w (cs:=[.bool s.seen,B,o]) z rfl ?_
 have O:=p.trans q
 have S5:=H.stp (L.stp O c n.1) c k.1
 have d:Z≠b:=fun e=>by subst e;omega
 have j:=(((r.up q).upd L d).upd H d)
 exact Pc (s:=s) (K:=K) S5 j rfl (Nat.le_trans D.bel.size E) ⟨B,o,rfl,g,f⟩ fun w6 U=>h _ _ _ U ⟨B,o,rfl,g,f⟩)
theorem X1G {α:Type} {f:Q9→Q9→α} {xs cs:List Q9} {i:Nat} (d:i<xs.length) (c:i<cs.length):(List.zipWith f xs cs).take (i+1)=(List.zipWith f xs cs).take i++[f xs[i] cs[i]]:=by
 have a:i<(List.zipWith f xs cs).length:=by simp;omega
 rw[List.take_add_one,List.getElem?_eq_getElem a]
 simp
theorem X1I {f:Q9→Q9→Q9} {xs cs:List Q9} {e:Q9} (j:xs.length=cs.length):(List.zipWith f xs cs).any (fun s=>decide (s=e))=false↔ ∀i (g:i<xs.length) (c:i<cs.length),f xs[i] cs[i]≠e:=by
 rw[List.any_eq_false]
 constructor
 ·intro h i g c
  have:=h (f xs[i] cs[i]) (List.mem_iff_getElem.2 ⟨i,by simp;omega,by simp⟩)
  simpa using this
 ·intro h x a
  obtain ⟨i,d,rfl⟩:=List.mem_iff_getElem.1 a
  simp at d
  simpa using h i (by omega) (by omega)
set_option maxHeartbeats 1000000 in
theorem Q6b {ds es:List Value} (hs:X4 w σ) (ht:Tab σ tv (Q3 l)) (ok:Ok (Q3 l)) (hr:U7 σ s ds) (hu:U7 σ t es) (h1:s.stack.length≤1000) (h2:s.locals.length≤1000) (h3:t.stack.length≤1000) (h4:t.locals.length≤1000)
 (h: ∀q w' σ',Stp w σ w' σ'→U7 σ' (C1 (Q3 l) s t).1 q→K (.tuple #[.agg q.toArray,I (C1 (Q3 l) s t).2]) w'):Q1 P F.aU [tv, .agg ds.toArray, .agg es.toArray] w K:=Q4D (by
 have ao:=hr
 have an:=hu
 obtain ⟨sv,lv,rfl,q1,Y⟩:=hr
 obtain ⟨bn,b5,rfl,q3,q4⟩:=hu
 unfold Tp
 refine Y8 hs fun qa w1 σ1 k1 c=>?_
 refine Y8 k1.sat fun qb w2 σ2 k2 f=>?_
 have c:=c.up k2
 refine I2 k2.sat fun b6 w3 W o k3 B=>?_
 have c:=c.up k3
 have f:=f.up k3
 have S2:=k1.trans k2
 have a:=S2.trans k3
 have o:w.heap.size≤b6:=Nat.le_trans S2.bel.size o
 have X:=ht.lift ⟨a.le⟩
 refine D6 ?_
 refine ld (i:=0) a.sat c rfl ?_
 refine Ni ?_
 cases e1:s.seen with
 | false=>
  have O:C1 (Q3 l) s t=(t,0):=by unfold C1;rw[if_pos e1]
  rw[O] at h
  refine U3 ?_
  refine Y7 a.sat f rfl ?_
  refine Q32 a.sat (U7.liftS an a) (by omega) (by omega) fun q w4 σ4 k4 y=>?_
  exact Pc (K:=fun r w=>K (.tuple #[r,I 0]) w) (a.trans k4) (B.up k4) rfl o y fun w5 g=>h _ _ _ g y
 | true=>
 refine V8 ?_
 refine D6 ?_
 refine ld (i:=0) a.sat f rfl ?_
 refine Ni ?_
 cases e2:t.seen with
 | false=>
  have O:C1 (Q3 l) s t=(s,0):=by unfold C1;rw[if_neg (by simp[e1]),if_pos e2]
  rw[O] at h
  refine U3 ?_
  refine Y7 a.sat c rfl ?_
  refine Q32 a.sat (U7.liftS ao a) (by omega) (by omega) fun q w4 σ4 k4 y=>?_
  exact Pc (K:=fun r w=>K (.tuple #[r,I 0]) w) (a.trans k4) (B.up k4) rfl o y fun w5 g=>h _ _ _ g y
 | true=>
 refine V8 ?_
 have q1:=q1.up a
 have Y:=Y.up a
 have q3:=q3.up a
 have q4:=q4.up a
 refine D6 ?_
 refine ld (i:=1) a.sat c rfl ?_
 refine Q8 q1 ?_
 refine D6 ?_
 refine ld (i:=1) a.sat f rfl ?_
 refine Q8 q3 ?_
 refine I4 ?_
 have en:C1 (Q3 l) s t=if s.stack.length≠t.stack.length∨s.locals.length≠t.locals.length then (Shp.zero,75)
  else if (List.zipWith (L1 (Q3 l)) s.stack t.stack).any (fun s=>decide (s=[])) then (Shp.zero,75)
  else (⟨true,List.zipWith (L1 (Q3 l)) s.stack t.stack,List.zipWith (G3 (Q3 l)) s.locals t.locals⟩,0):=by
  unfold C1;rw[if_neg (by simp[e1]),if_neg (by simp[e2])]
 rw[en] at h
 clear en
 have N:(s.stack.length≠t.stack.length∨s.locals.length≠t.locals.length)→ ∀w σ',Stp w3 W w σ'→O5 P T.f [] w fun a4 w=>Z4 P T.f (.pointer (some ⟨b6,0,none⟩)) a4 w fun _u w=>V7 P T.f (.pointer (some ⟨b6,0,none⟩)) w fun r0=>K (.tuple #[r0,I 75]) w:=fun E w σ' k=>by
  rw[if_pos E] at h
  refine Q4F ?_
  exact Pc (K:=fun r w=>K (.tuple #[r,I 75]) w) (a.trans k) (B.up k) rfl o U7.zero fun w5 g=>h _ _ _ g U7.zero
 by_cases el:s.stack.length=t.stack.length
 case neg=>
  rw[show (!decide ((s.stack.length:Int)=(t.stack.length:Nat)))=true from by simp;omega]
  (repeat refine Hd.h ?_)
  refine U3 ?_
  exact N (.inl el) w3 W (Stp.refl a.sat)
 rw[show (!decide ((s.stack.length:Int)=(t.stack.length:Nat)))=false from by simp[el]]
 (repeat refine Hd.h ?_)
 refine ld (i:=2) a.sat c rfl ?_
 (repeat refine Hd.h ?_)
 refine Q8 Y ?_
 (repeat refine Hd.h ?_)
 refine ld (i:=2) a.sat f rfl ?_
 (repeat refine Hd.h ?_)
 refine Q8 q4 ?_
 (repeat refine Hd.h ?_)
 refine I4 ?_
 (repeat refine Hd.h ?_)
 by_cases O:s.locals.length=t.locals.length
 case neg=>
  rw[show (!decide ((s.locals.length:Int)=(t.locals.length:Nat)))=true from by simp;omega]
  refine U3 ?_
  exact N (.inr O) w3 W (Stp.refl a.sat)
 rw[show (!decide ((s.locals.length:Int)=(t.locals.length:Nat)))=false from by simp[O]]
 refine V8 ?_
 clear N
 rw[if_neg (by simp[el,O])] at h
 refine Q8I ?_
 refine X1v a.sat fun b w4 A4=>?_
 have S4:=A4.stp
 refine D6 ?_
 refine ld (i:=1) S4.sat (c.up S4) rfl ?_
 refine Q8 q1 ?_
 refine J0 s.stack.length (fun k w'=> ∃σ',ShS w3 W w' σ' b ((List.zipWith (L1 (Q3 l)) s.stack t.stack).take k) []∧ ∀j (g1:j<s.stack.length) (g2:j<t.stack.length),j<k→L1 (Q3 l) s.stack[j] t.stack[j]≠[]) ⟨W,A4,fun j _ _ h=>absurd h (Nat.not_lt_zero _)⟩ fun k w5 d hk hi=>?_
 obtain ⟨σ5,A5,H⟩:=hi
 have g:=A5.stp
 refine Z0 ?_
 refine Q6 (fun E=>?_) (fun E=>?_)
 ·have m:k<s.stack.length:=by simp at E;omega
  have n:k<t.stack.length:=by omega
  refine Js (q1.up g) m fun a1 L A=>?_
  refine X8 g.sat L rfl ?_
  refine D6 ?_
  refine ld (i:=1) g.sat (f.up g) rfl ?_
  refine Js (q3.up g) n fun a2 M C=>?_
  refine X8 g.sat M rfl ?_
  refine Q8y g.sat (X.lift ⟨g.le⟩) ok A C fun w6 σ6 k6=>?_
  have D:=A5.up k6
  refine Nd ?_
  by_cases ej:L1 (Q3 l) s.stack[k] t.stack[k]=[]
  ·rw[decide_eq_true ej]
   refine U3 ?_
   have V:(List.zipWith (L1 (Q3 l)) s.stack t.stack).any (fun s=>decide (s=[]))=true:=by
    rw[←Bool.not_eq_false,X1I el]
    exact fun hh=>hh k m n ej
   rw[if_pos V] at h
   refine Q4F ?_
   exact Pc (K:=fun r w=>K (.tuple #[r,I 75]) w) (a.trans D.stp) (B.up D.stp) rfl o U7.zero fun w5 g=>h _ _ _ g U7.zero
  ·rw[decide_eq_false ej]
   refine V8 ?_
   obtain ⟨v1,v2,m6,p1,p2,n1,n2⟩:=D.ex
   refine D6 ?_
   refine Jx (i:=1) m6 rfl ?_
   have J:=Q44 ok A C
   refine E3 (R:=Y1) (sz:=1) D.stp.sat [S (L1 (Q3 l) s.stack[k] t.stack[k])] [L1 (Q3 l) s.stack[k] t.stack[k]] rfl rfl (by simp;rfl) rfl ⟨⟨rfl,J⟩,trivial⟩ fun v7 w7 σ7 U a6=>?_
   refine X27 (D.up U) (m6.up U) a6 (by rw[List.length_take];omega) fun w8 A8=>?_
   (try simp only[↓M1,M1,Mb,reduceIte])
   refine Y2 (by omega) m ⟨σ7,?_,fun j g1 g2 hj=>?_⟩
   ·rw[X1G m n];exact A8
   ·by_cases e:j=k
    ·subst e;exact ej
    ·exact H j g1 g2 (by omega)
 have Q:k=s.stack.length:=by simp at E;omega
 subst Q
 have V:(List.zipWith (L1 (Q3 l)) s.stack t.stack).any (fun s=>decide (s=[]))=false:=(X1I el).2 fun j g1 g2=>H j g1 g2 g1
 rw[if_neg (by simp[V])] at h
 rw[List.take_of_length_le (by simp;omega)] at A5
 clear H V
 refine D6 ?_
 refine ld (i:=2) g.sat (c.up g) rfl ?_
 refine Q8 (Y.up g) ?_
 refine J0 s.locals.length (fun k w'=> ∃σ',ShS w3 W w' σ' b (List.zipWith (L1 (Q3 l)) s.stack t.stack) ((List.zipWith (G3 (Q3 l)) s.locals t.locals).take k)) ⟨σ5,A5⟩ fun k w6 d hk hi=>?_
 obtain ⟨σ6,D⟩:=hi
 have p:=D.stp
 refine Z0 ?_
 refine Q6 (fun E=>?_) (fun E=>?_)
 ·have m:k<s.locals.length:=by simp at E;omega
  have n:k<t.locals.length:=by omega
  refine Js (Y.up p) m fun a1 L A=>?_
  refine X8 p.sat L rfl ?_
  refine Zt (fun z w'=> ∃σ',Stp w6 σ6 w' σ'∧z=S (G3 (Q3 l) s.locals[k] t.locals[k])∧(G3 (Q3 l) s.locals[k] t.locals[k]).length≤Z9) ?_ fun z d w7 V=>?_
  ·refine Lf ?_
   by_cases e3:s.locals[k]=[]
   ·rw[show (!decide (s.locals[k]=[]))=false from by simp[e3]]
    (repeat refine Hd.h ?_)
    refine V8 ?_
    have Z:G3 (Q3 l) s.locals[k] t.locals[k]=[]:=by unfold G3;rw[if_pos (.inl e3)]
    rw[Z]
    exact ⟨σ6,Stp.refl p.sat,rfl,Nat.zero_le _⟩
   ·rw[show (!decide (s.locals[k]=[]))=true from by simp[e3]]
    (repeat refine Hd.h ?_)
    refine ld (i:=2) p.sat (f.up p) rfl ?_
    (repeat refine Hd.h ?_)
    refine Js (q4.up p) n fun a2 M C=>?_
    (repeat refine Hd.h ?_)
    refine X8 p.sat M rfl ?_
    (repeat refine Hd.h ?_)
    refine Lf ?_
    (repeat refine Hd.h ?_)
    by_cases e4:t.locals[k]=[]
    ·rw[show (!decide (t.locals[k]=[]))=false from by simp[e4]]
     refine V8 ?_
     have Z:G3 (Q3 l) s.locals[k] t.locals[k]=[]:=by unfold G3;rw[if_pos (.inr e4)]
     rw[Z]
     exact ⟨σ6,Stp.refl p.sat,rfl,Nat.zero_le _⟩
    ·rw[show (!decide (t.locals[k]=[]))=true from by simp[e4]]
     refine U3 ?_
     have Z:G3 (Q3 l) s.locals[k] t.locals[k]=L1 (Q3 l) s.locals[k] t.locals[k]:=Q4V _ _ _
     rw[Z]
     refine D6 ?_
     refine ld (i:=2) p.sat (f.up p) rfl ?_
     refine Js (q4.up p) n fun a3 ar b9=>?_
     refine X8 p.sat ar rfl ?_
     refine Q8y p.sat (X.lift ⟨p.le⟩) ok A C fun w7 σ7 U=>?_
     exact ⟨σ7,U,rfl,Q44 ok A C⟩
  ·obtain ⟨σ7,U,rfl,J⟩:=V
   have A7:=D.up U
   obtain ⟨v1,v2,m7,p1,p2,n1,n2⟩:=A7.ex
   refine D6 ?_
   refine Jx (i:=2) m7 rfl ?_
   refine E3 (R:=Y1) (sz:=1) A7.stp.sat [S (G3 (Q3 l) s.locals[k] t.locals[k])] [G3 (Q3 l) s.locals[k] t.locals[k]] rfl rfl (by simp;rfl) rfl ⟨⟨rfl,J⟩,trivial⟩ fun v8 w8 σ8 k8 av=>?_
   refine X2b (A7.up k8) (m7.up k8) av (by rw[List.length_take];omega) fun w9 A9=>?_
   (try simp only[↓M1,M1,Mb,reduceIte])
   refine Y2 (by omega) m ⟨σ8,?_⟩
   rw[X1G m n];exact A9
 have Q:k=s.locals.length:=by simp at E;omega
 subst Q
 rw[List.take_of_length_le (by simp;omega)] at D
 exact X1A (K:=fun r w=>K (.tuple #[r,I 0]) w) D a B rfl o fun q w' σ' k' az=>h q w' σ' k' az)
end Go.Proofs.YtfppjenblllfaaaGreatDoor
