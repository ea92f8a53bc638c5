/- Parts of a proof about the given program: its functions as texts of their own, what each computes, plain laws of that. The conditions of each stand in its statement. -/
import Derived.Test.YtfppjenblllfaaaGreatDoorB4
import Derived.Test.YtfppjenblllfaaaGreatDoorB3
import Derived.Lib.TrimUEq
set_option linter.unnecessarySimpa false
set_option linter.defProp false
set_option linter.unusedSectionVars false
set_option linter.unusedVariables false
set_option linter.unusedSimpArgs false
namespace Go.Emb
open Go.RowKit Go.Hm
variable {P : Program} {w w0 w1 w' w'' : World} {K : Value → World → Prop} {σ σ0 σ1 σ' : Q4}
theorem Q1i {t e:TypeId} {sz by_:Nat} {z:Value} [ts:TS P t e] [tz:TZ P e sz by_ z] {a:Addr} {n b i:Nat} (d:i<n) (c:K (.pointer (some (a.add (i*sz)))) w):indexAddr P t (.slice (some a) n b) (I i) w K:=by
 rw[Rf (by omega) (by omega)]
 simpa using c
theorem Qp.nx {D:Nat→Prop} {a:List Nat} {n:Nat} {m:Nat→Nat→Bool} (h:Qp σ w a n m) (k:Nxt D w σ w' σ') (d: ∀b∈a,¬D b):Qp σ' w' a n m:=
 ⟨h.1,fun i c=>(h.2 i c).nx k (d _ (List.getElem_mem c))⟩
theorem Qp.set {a:List Nat} {n i j:Nat} {b:Bool} {m:Nat→Nat→Bool} (h:Qp σ w a n m) (g:i<a.length) (o:Upd w a[i] w') (f:Z9 σ w' a[i] ((bools n (m i)).set j (.bool b))):Qp σ w' a n (Bl m i j b):=by
 refine ⟨h.1,fun k c=>?_⟩
 by_cases e:k=i
 ·subst e
  rw[Q4e] at f
  have:Bl m k j b k=fun x=>if x=j then b else m k x:=by funext x;simp[Bl]
  rw[this];exact f
 ·have:Bl m i j b k=m k:=by funext x;simp[Bl,e]
  rw[this]
  refine (h.2 k c).upd o fun d=>e ?_
  rcases Nat.lt_trichotomy k i with hlt | hlt | hlt
  ·have:=List.nodup_iff_pairwise_ne.1 h.1
   rw[List.pairwise_iff_getElem] at this
   exact absurd d (this k i c g hlt)
  ·exact hlt
  ·have:=List.nodup_iff_pairwise_ne.1 h.1
   rw[List.pairwise_iff_getElem] at this
   exact absurd d.symm (this i k g c hlt)
end Go.Emb
namespace Go.Proofs.YtfppjenblllfaaaGreatDoor
open Go.Emb Go.RowKit Go.Kd Go.Hm
variable {w : World} {K : Value → World → Prop} {σ : Q4} {l : List Cla} {v : Value}
def Lu (l:List Cla) (i j:Nat):Bool:=match l[i]? with
 | none=>false
 | some c=>(J9 c).any fun u=>decide (Y7 l u=some j)
theorem Q9L (l:List Cla) (i j:Nat):Lu l i j=true↔Hm.Edge l i j:=by
 unfold Lu Hm.Edge
 cases h:l[i]? with
 | none=>simp
 | some c=>simp[List.any_eq_true]
theorem Q9T {l:List Cla} {i j:Nat} (h:l.length≤i):Lu l i j=false:=by
 unfold Lu
 rw[List.getElem?_eq_none h]
set_option maxHeartbeats 4000000 in
theorem Q4p (hs:X4 w σ) (hl:Sl 8 V4 σ v l) (ho:K4 l) (hpos:0<l.length) (hlen:l.length≤1000) (hsm: ∀c∈l,Qn c)
 (h: ∀v' w' σ',Stp w σ w' σ'→Sl 1 X0h σ' v' (Yn l)→K v' w'):Q0 P F.aH [v] w K:=Ka (by
 unfold Lh
 refine Q03 (R:=Q61 l.length) (e:=T.a1) (Stp.refl hs) (by decide) fun x0 w1 hk1 ha1 _=>?_
 refine E3 l.length (fun n x w'=> ∃σ' bs,Stp w σ w' σ'∧V3 w.heap.size T.a1 1 (Q61 l.length) σ' w' x bs∧Qp σ' w' bs l.length (Lu l)∧bs.length=n∧ ∀b∈bs,w.heap.size≤b∧x.ownBlock≠some b) ⟨σ,[],hk1,ha1,⟨List.nodup_nil,by simp⟩,rfl,by simp⟩ fun n x w2 d hn hinv=>?_
 obtain ⟨σ2,bs,hS2,ha2,hM2,hbl,hb2⟩:=hinv
 refine X0 (hl.up hS2) ?_
 refine Z4 ?_
 refine Q6 (fun hc=>?_) (fun hc=>?_)
 ·have hn':n<l.length:=by simpa using hc
  have hl2:=hl.up hS2
  refine X0 hl2 ?_
  refine X3M hS2.sat rfl (by omega) (by omega) fun b w3 hb3 hk3 hm3=>?_
  rw[Q7u] at hm3
  obtain ⟨lv,fv,mv,p1,r1⟩:=hl2.elC hn'
  obtain ⟨g1,_,_,g4,g5⟩:=r1.parts
  have hsmc:=hsm _ (List.getElem_mem hn')
  have hs3:=hk3.sat
  refine U8 hs3 ?_
  (repeat refine Z8 Xq ?_)
  refine Q1k (w:=w3) (σ:=σ2) (R:=X9) (sz:=1) (e:=T.a) [l[n].super] (fun t w hb e=>?_) ?_
  ·subst e;exact Xj hb.stp [_] [l[n].super] rfl rfl (by simp;rfl) rfl ⟨⟨rfl,g5⟩,trivial⟩ fun v' w' hk ha _=>Q2P hb hk ha
  (repeat refine Z8 Xq ?_)
  rintro t24 t25 t30 t31 t26 t27 t32 w4 hb4 rfl rfl rfl rfl rfl ⟨f27,a27⟩ rfl
  refine Hp f27 a27 g1 rfl (by simp;have:=hsmc.1;omega) (by simp;have:=hsmc.1;omega) fun v5 w5 hn5 hS5 ha5 hat5=>?_
  obtain ⟨σ6,hS6,hv6,le6,_⟩:=ha5.keep hS5
  have hv6:Sl 1 X9 σ6 v5 (J9 l[n]):=hv6
  have hb3w:w.heap.size≤b:=Nat.le_trans hS2.bel.size hb3
  have hm6:=hm3.up hS6
  have ha6:=(ha2.up hk3).up hS6
  have hM6:=(hM2.up hk3).up hS6
  have hS26:=(hS2.trans hk3).trans hS6
  have hxb: ∀k,x.ownBlock=some k→k≠b:=fun k e=>by have:=(ha2.mem k e).2.1;omega
  have hbbs:b∉bs:=fun e=>by have:=(hM2.lt e).1;omega
  clear hm3 ha2 hM2 hS6 hS5 ha5 a27 f27 hn5 hat5
  refine U4 (J9 l[n]).length (fun k w'=>Stp w σ w' σ6∧V3 w.heap.size T.a1 1 (Q61 l.length) σ6 w' x bs∧Qp σ6 w' bs l.length (Lu l)∧Z9 σ6 w' b (bools l.length fun j=>((J9 l[n]).take k).any fun u=>decide (Y7 l u=some j)))
   ⟨hS26,ha6,hM6,hm6⟩ fun k w7 d7 hk hinv=>?_
  obtain ⟨hS7,ha7,hM7,hm7⟩:=hinv
  refine X0 hv6 ?_
  refine Z4 ?_
  refine Q6 (fun hc=>?_) (fun hc=>?_)
  ·have hk':k<(J9 l[n]).length:=by simpa using hc
   refine W0 ?_
   refine U7 hv6 hk' ?_
   obtain ⟨p2,p3⟩:=hv6.elS hk'
   refine Y0 hS7.sat p2 rfl ?_
   refine Qg hS7.sat (hl.up hS7) ?_
   refine G1 ?_
   rw[Jp]
   have hnx: ∀f:Nat→Bool,(∀j,f j=(((J9 l[n]).take k).any (fun u=>decide (Y7 l u=some j))||decide (Y7 l (J9 l[n])[k]=some j)))→f=fun j=>((J9 l[n]).take (k+1)).any fun u=>decide (Y7 l u=some j):=by
    intro f hf;funext j;rw[hf,N0 hk']
   cases hfc:Y7 l (J9 l[n])[k] with
   | none=>
    simp only[Option.isSome_none,↓M1,M1,Mb,reduceIte]
    intro d
    refine Y6 hv6.max hk' ⟨hS7,ha7,hM7,?_⟩
    rw[←hnx (fun j=>((J9 l[n]).take k).any fun u=>decide (Y7 l u=some j)) (fun j=>by rw[hfc];simp)]
    exact hm7
   | some j=>
    have hj:=(B1 hfc).1
    simp only[Option.isSome_some,L2,↓M1,M1,Mb,reduceIte]
    refine Q1i hj ?_
    rw[Nat.mul_one]
    refine Og hm7 (by rw[Q0y];exact hj) (by rfl) (by rfl) fun w8 u8 hm8=>?_
    intro d
    rw[Q4e] at hm8
    refine Y6 hv6.max hk' ⟨u8.stp hS7 hb3w hm7.1,ha7.kp (D:=(· =b)) (.of_upd u8 rfl) hxb,hM7.kp (D:=(· =b)) (.of_upd u8 rfl) (fun c hc e=>hbbs (e▸hc)),?_⟩
    rw[←hnx (fun x=>if x=j then true else _) (fun i=>?_)]
    ·exact hm8
    ·rw[hfc]
     by_cases e:i=j
     ·subst e;simp
     ·have: ¬j=i:=fun e'=>e e'.symm
      simp[e,this]
  ·have hk': ¬k<(J9 l[n]).length:=by simpa using hc
   have hk0:k=(J9 l[n]).length:=by omega
   subst hk0
   rw[List.take_of_length_le (Nat.le_refl _)] at hm7
   have hef:(fun j=>(J9 l[n]).any fun u=>decide (Y7 l u=some j))=Lu l n:=by
    funext j;unfold Lu;rw[List.getElem?_eq_getElem hn']
   rw[hef] at hm7
   have hM8:=(hM7.snoc hbbs hm7).congr (m':=Lu l) (fun i _=>by
    by_cases e:i=bs.length
    ·rw[if_pos e,e,hbl]
    ·rw[if_neg e])
   refine Us (R:=Q61 l.length) (x:=b) hS7 ha7 rfl rfl rfl rfl (by omega) (by omega) fun s v' w9 σ9 hnx hS9 ha9 hat=>?_
   have hdis: ∀c∈bs++[b],w.heap.size≤c∧x.ownBlock≠some c:=by
    intro c hc
    rcases List.mem_append.1 hc with hc | hc
    ·exact hb2 c hc
    ·simp at hc;subst hc;exact ⟨hb3w,fun e=>hxb _ e rfl⟩
   have hlt9: ∀c∈bs++[b],c<w7.heap.size:=fun c hc=>(hM8.lt hc).1
   refine H3 ?_
   refine J1 (by omega) hn' ⟨σ9,bs++[b],hS9,ha9,hM8.nx hnx (fun c hc=>(hdis c hc).2),by rw[List.length_append,hbl];rfl,fun c hc=>⟨(hdis c hc).1,fun e=>?_⟩⟩
   rcases hat with hat | hat
   ·exact (hdis c hc).2 (hat▸e)
   ·have:=hat c e;have:=hlt9 c hc;omega
 ·have hn0:n=l.length:=by
   have: ¬n<l.length:=by simpa using hc
   omega
  obtain ⟨σ8,hS8,hv8,le8,old8⟩:=ha2.keep hS2
  have hlb:bs.length=l.length:=by omega
  have hM8:Qp σ8 w2 bs l.length (Lu l):=⟨hM2.1,fun i hi=>⟨(old8 _ (fun e=>(hb2 _ (List.getElem_mem hi)).2 e.symm)).trans (hM2.2 i hi).1,(hM2.2 i hi).2⟩⟩
  have hpx: ∀i (hi:i<bs.length),Z0 σ8 (elA 1 x i) [.slice (some ⟨bs[i],0,none⟩) l.length l.length]:=fun i hi=>by
   obtain ⟨cs,h1,_,h2⟩:=hv8.el hi
   have h2:cs=_:=h2
   subst h2;exact h1
  clear ha2 hM2 hS2 le8 old8
  refine U4 l.length (fun k w'=> ∃m,Stp w σ w' σ8∧Qp σ8 w' bs l.length m∧Clos (Hm.Edge l) l.length k 0 0 m) ⟨Lu l,hS8,hM8,Clos.start (fun a b _=>Q9L l a b) (fun a b h=>Q9T h)⟩ fun k w3 d3 hk3 hinv=>?_
  obtain ⟨m3,hS3,hM3,hC3⟩:=hinv
  refine X0 (hl.up hS3) ?_
  refine Z4 ?_
  refine Q6 (fun hc=>?_) (fun hc=>?_)
  ·have hk':k<l.length:=by simpa using hc
   refine U4 l.length (fun i w'=> ∃m,Stp w σ w' σ8∧Qp σ8 w' bs l.length m∧Clos (Hm.Edge l) l.length k i 0 m) ⟨m3,hS3,hM3,hC3⟩ fun i w4 d4 hi4 hinv=>?_
   obtain ⟨m4,hS4,hM4,hC4⟩:=hinv
   refine X0 (hl.up hS4) ?_
   refine Z4 ?_
   refine Q6 (fun hc=>?_) (fun hc=>?_)
   ·have hi':i<l.length:=by simpa using hc
    refine U4 l.length (fun j w'=> ∃m,Stp w σ w' σ8∧Qp σ8 w' bs l.length m∧Clos (Hm.Edge l) l.length k i j m) ⟨m4,hS4,hM4,hC4⟩ fun j w5 d5 hj5 hinv=>?_
    obtain ⟨m5,hS5,hM5,hC5⟩:=hinv
    refine X0 (hl.up hS5) ?_
    refine Z4 ?_
    refine Q6 (fun hc=>?_) (fun hc=>?_)
    ·have hj':j<l.length:=by simpa using hc
     have hi6:i<bs.length:=by omega
     have hk6:k<bs.length:=by omega
     have px_i:=hpx i hi6
     have px_k:=hpx k hk6
     have hrd: ∀{w':World} {K:Value→World→Prop} {a b:Nat} {ha:a<bs.length},Hst w5 σ8 w' σ8→b<l.length→K (.bool (m5 a b)) w'→Q2 P T.o (.pointer (some ((⟨bs[a],0,none⟩:Addr).add (b*1)))) w' K:=fun hst hb hK=>by
      rw[Nat.mul_one]
      exact P8 (((hM5.up hst.stp).2 _ _).cell (Q4k hb)) hK
     refine U8 hS5.sat ?_
     (repeat (apply Z8;(· intros;(repeat (rename_i hx;subst hx));(repeat' (first | (with_reducible exact Y1 rfl) | (with_reducible exact Jy (Stp.bel (by (repeat (first | exact Stp.refl (by (first | assumption | exact Stp.sat (by assumption) | exact Hst.sat (by assumption))) | assumption | refine Stp.trans ?_ (by first | assumption | exact Hst.stp (by assumption)))))) rfl) | (with_reducible intro _) | (simp only[↓M2,M2,Mb,reduceIte]) | (with_reducible refine Q1i au ?_) | (with_reducible refine hrd au au ?_) | (with_reducible show Q2 _ _ _ _ _;first | refine Y0 aS aL aR ?_ | refine Z2 aS aL aR ?_ | refine ld aS aL aR ?_) | (with_reducible show indexAddr _ _ _ _ _ _;refine U7 aL au ?_) | (with_reducible show X5 _ _ _ _ _ _ _ _;refine X0 aL ?_) | (with_reducible show We _ _ _ _ _ _;refine V6 aR ?_) | (with_reducible show pick _ _ _ _ _ _;refine Uu ?_) | (apply Ln;intro hh;(try simp only[hh,reduceIte,↓M2,M2,Mb,reduceIte]))));done)))
     cases h1:m5 i j
     ·simp only[reduceIte]
      (repeat (apply Z8;(· intros;(repeat (rename_i hx;subst hx));(repeat' (first | (with_reducible exact Y1 rfl) | (with_reducible exact Jy (Stp.bel (by (repeat (first | exact Stp.refl (by (first | assumption | exact Stp.sat (by assumption) | exact Hst.sat (by assumption))) | assumption | refine Stp.trans ?_ (by first | assumption | exact Hst.stp (by assumption)))))) rfl) | (with_reducible intro _) | (simp only[↓M2,M2,Mb,reduceIte]) | (with_reducible refine Q1i au ?_) | (with_reducible refine hrd au au ?_) | (with_reducible show Q2 _ _ _ _ _;first | refine Y0 aS aL aR ?_ | refine Z2 aS aL aR ?_ | refine ld aS aL aR ?_) | (with_reducible show indexAddr _ _ _ _ _ _;refine U7 aL au ?_) | (with_reducible show X5 _ _ _ _ _ _ _ _;refine X0 aL ?_) | (with_reducible show We _ _ _ _ _ _;refine V6 aR ?_) | (with_reducible show pick _ _ _ _ _ _;refine Uu ?_) | (apply Ln;intro hh;(try simp only[hh,reduceIte,↓M2,M2,Mb,reduceIte]))));done)))
      (intros;(repeat (rename_i hx;subst hx));(try simp only[↓M2,M2,Mb,reduceIte]))
      rename_i w6 hb6
      refine Q1i hj' ?_
      rw[Nat.mul_one]
      refine Eq.subst (motive:=fun V=>Z6 P T.o (.pointer (some ((⟨bs[i],0,none⟩:Addr).add j))) V w6 _) (show Value.bool (m5 i j||(m5 i k&&m5 k j))=_ from by cases h2:m5 i k<;>simp[h1,h2]) ?_
      refine Og ((hM5.up hb6.stp).2 i hi6) (by rw[Q0y];exact hj') (by rfl) (by rfl) fun w7 u7 hm7=>?_
      (try simp only[↓M1,M1,Mb,reduceIte])
      exact Y6 (by omega) hj' ⟨_,u7.stp (hS5.trans hb6.stp) (hb2 _ (List.getElem_mem hi6)).1 hm7.1,(hM5.up hb6.stp).set hi6 u7 hm7,hC5.next hk' hi' hj'⟩
     ·simp only[Bool.true_eq_false,reduceIte]
      (repeat (apply Z8;(· intros;(repeat (rename_i hx;subst hx));(repeat' (first | (with_reducible exact Y1 rfl) | (with_reducible exact Jy (Stp.bel (by (repeat (first | exact Stp.refl (by (first | assumption | exact Stp.sat (by assumption) | exact Hst.sat (by assumption))) | assumption | refine Stp.trans ?_ (by first | assumption | exact Hst.stp (by assumption)))))) rfl) | (with_reducible intro _) | (simp only[↓M2,M2,Mb,reduceIte]) | (with_reducible refine Q1i au ?_) | (with_reducible refine hrd au au ?_) | (with_reducible show Q2 _ _ _ _ _;first | refine Y0 aS aL aR ?_ | refine Z2 aS aL aR ?_ | refine ld aS aL aR ?_) | (with_reducible show indexAddr _ _ _ _ _ _;refine U7 aL au ?_) | (with_reducible show X5 _ _ _ _ _ _ _ _;refine X0 aL ?_) | (with_reducible show We _ _ _ _ _ _;refine V6 aR ?_) | (with_reducible show pick _ _ _ _ _ _;refine Uu ?_) | (apply Ln;intro hh;(try simp only[hh,reduceIte,↓M2,M2,Mb,reduceIte]))));done)))
      (intros;(repeat (rename_i hx;subst hx));(try simp only[↓M2,M2,Mb,reduceIte]))
      rename_i w6 hb6
      refine Q1i hj' ?_
      rw[Nat.mul_one]
      refine Eq.subst (motive:=fun V=>Z6 P T.o (.pointer (some ((⟨bs[i],0,none⟩:Addr).add j))) V w6 _) (show Value.bool (m5 i j||(m5 i k&&m5 k j))=_ from by simp[h1]) ?_
      refine Og ((hM5.up hb6.stp).2 i hi6) (by rw[Q0y];exact hj') (by rfl) (by rfl) fun w7 u7 hm7=>?_
      (try simp only[↓M1,M1,Mb,reduceIte])
      exact Y6 (by omega) hj' ⟨_,u7.stp (hS5.trans hb6.stp) (hb2 _ (List.getElem_mem hi6)).1 hm7.1,(hM5.up hb6.stp).set hi6 u7 hm7,hC5.next hk' hi' hj'⟩
    ·have hj0:j=l.length:=by
      have: ¬j<l.length:=by simpa using hc
      omega
     subst hj0
     refine H3 ?_
     exact Y6 (by omega) hi' ⟨m5,hS5,hM5,hC5.row⟩
   ·have hi0:i=l.length:=by
     have: ¬i<l.length:=by simpa using hc
     omega
    subst hi0
    refine H3 ?_
    exact Y6 (by omega) hk' ⟨m4,hS4,hM4,hC4.round⟩
  ·have hk0:k=l.length:=by
    have: ¬k<l.length:=by simpa using hc
    omega
   subst hk0
   obtain ⟨σ9,hS9,le9,hrows⟩:=hM3.keep hpos (by omega) hS3 (fun b hb=>(hb2 b hb).1)
   refine h _ _ _ hS9 ((hv8.lift le9).conv (by simp[Yn,hlb]) fun i hi hj cs hcs=>?_)
   have hcs:cs=_:=hcs
   subst hcs
   refine ⟨_,rfl,?_⟩
   have:=hrows i hi
   have he:(Yn l)[i]=(List.range l.length).map (m3 i):=by
    have hi':i<l.length:=by omega
    simp only[Yn,List.getElem_map,List.getElem_range]
    apply List.map_congr_left
    intro j hj
    exact (Clos.all ho hC3 hi' (by simpa using hj)).symm
   rw[he];exact this)
end Go.Proofs.YtfppjenblllfaaaGreatDoor

namespace Go.Emb
open Go.RowKit Go.Hm
structure FinT (B : Nat) (F : Option Obj → Prop) (w w' : World) : Prop where
  os : w'.os = w.os
  tape : w'.tape = w.tape
  output : w'.output = w.output
  size : w.heap.size ≤ w'.heap.size
  old : ∀ k, k < w.heap.size → k < B → w'.heap[k]? = w.heap[k]?
  new : ∀ k, k < w.heap.size → w'.heap[k]? = w.heap[k]? ∨ F (w'.heap[k]?)
section
variable {P : Program} {B : Nat} {F : Option Obj → Prop} {w w' w0 : World} {σ : Q4} {v V : Value} {K : Value → World → Prop}
theorem FinT.of_below (h:Below w.heap.size w w'):FinT B F w w':=⟨h.os,h.tape,h.output,h.size,fun k a _=>h.block k a,fun k a=> .inl (h.block k a)⟩
theorem FinT.of_upd {b:Nat} (h:Upd w b w') (c:B≤b) (hF:F (w'.heap[b]?)):FinT B F w w':=
 ⟨h.os,h.tape,h.output,by rw[h.size];exact Nat.le_refl _,fun k a hB=>h.block k (by omega),fun k a=>by
  by_cases e:k=b
  ·subst e;exact .inr hF
  ·exact .inl (h.block k e)⟩
theorem FinT.hst (h:FinT w0.heap.size F w w') (c:X4 w0 σ) (a:Hst w0 σ w σ):Hst w0 σ w' σ:=
 ⟨Stp.of_below c ⟨h.os.trans a.stp.bel.os,h.tape.trans a.stp.bel.tape,h.output.trans a.stp.bel.output,Nat.le_trans a.stp.bel.size h.size,fun k b=>(h.old k (Nat.lt_of_lt_of_le b a.stp.bel.size) b).trans (a.stp.bel.block k b)⟩⟩
theorem X3Q {A:(World→World→Prop)→(World→Prop)→Prop} (F:Option Obj→Prop) (a:X4 w σ) (h:A (FinT w.heap.size F) (fun w'=>Hst w σ w' σ)):dr w A:=
 Q15 _ _ ⟨Stp.of_below a (Below.refl _ _).drew⟩ (fun _ _ c b=>b.hst a c) h
theorem Q5Z (h:V=v):dk (FinT B F) (fun v _=>V=v) w v w:=⟨.of_below (Below.refl _ _),h⟩
theorem X2Y (a:Below w.heap.size w w') (h:V=v):dk (FinT B F) (fun v _=>V=v) w v w':=⟨.of_below a,h⟩
def X47 (B n:Nat) (F:Option Obj→Prop) (v:Value) (w:World):Prop:= ∃g,v= .pointer (some ⟨g,0,none⟩)∧B≤g∧((∃cs:List Value,∃e,cs.length=n∧w.heap[g]? =some (.cells cs.toArray e (0,0)))∨F (w.heap[g]?))
def X3L (B:Nat) (F:Option Obj→Prop) (v:Value) (w:World):Prop:= ∃g,v= .pointer (some ⟨g,0,none⟩)∧B≤g∧F (w.heap[g]?)
theorem Ij {w:World} {g:Nat} {o:Obj} (h:w.heap[g]? =some o):g<w.heap.size:=(Array.getElem?_eq_some_iff.1 h).1
theorem Q8o {n:Nat} (hF: ¬F none):P2 (FinT B F) (X47 B n F):=by
 rintro v w w' ⟨g,rfl,hB,b⟩ d
 have a:g<w.heap.size:=by
  rcases b with ⟨cs,e,_,h⟩ | h
  ·exact Ij h
  ·cases c:w.heap[g]? with
   | none=>rw[c] at h;exact absurd h hF
   | some o=>exact Ij c
 rcases d.new g a with h | h
 ·exact ⟨g,rfl,hB,by rw[h];exact b⟩
 ·exact ⟨g,rfl,hB, .inr h⟩
theorem Q91 (hF: ¬F none):P2 (FinT B F) (X3L B F):=by
 rintro v w w' ⟨g,rfl,hB,a⟩ d
 have b:g<w.heap.size:=by
  cases c:w.heap[g]? with
  | none=>rw[c] at a;exact absurd a hF
  | some o=>exact Ij c
 rcases d.new g b with h | h
 ·exact ⟨g,rfl,hB,by rw[h];exact a⟩
 ·exact ⟨g,rfl,hB,h⟩
end
end Go.Emb
namespace Go.Hm
open Go.Kd
theorem Q74 {a b:List Hm.Met} (h: ∀m,m∈a↔m∈b):Lv a=Lv b:=by
 rw[Bool.eq_iff_iff]
 simp only[Lv,List.any_eq_true]
 constructor
 ·rintro ⟨x,c,y,d,e⟩;exact ⟨x,(h x).1 c,y,(h y).1 d,e⟩
 ·rintro ⟨x,c,y,d,e⟩;exact ⟨x,(h x).2 c,y,(h y).2 d,e⟩
theorem X12 {α:Type} {a b:List α} {p:α→Bool} (h: ∀m,m∈a↔m∈b):a.any p=b.any p:=by
 rw[Bool.eq_iff_iff]
 simp only[List.any_eq_true]
 constructor
 ·rintro ⟨x,c,y⟩;exact ⟨x,(h x).1 c,y⟩
 ·rintro ⟨x,c,y⟩;exact ⟨x,(h x).2 c,y⟩
def Yi (m:Hm.Met):List Q9:=m.params++if m.result=[] then [] else [m.result]
def Jn (c:Cla):List Q9:=c.fields.map (·.kind)++c.methods.flatMap Yi
theorem X0m {l:List Cla} {c:Cla}:(Jn c).any (fun s=> !E6 l s)=F8 l c:=by
 unfold Jn F8 Yi
 rw[List.any_append,List.any_map,List.any_flatMap]
 congr 1
 congr 1
 funext m
 rw[List.any_append]
 by_cases e:m.result=[]
 ·simp[e]
 ·simp[e,Bool.or_comm]
def upB (l:List Cla) (i k:Nat):Bool:=decide (k=i)||Jq l (Y3 l i) (Y3 l k)
def Qw (l:List Cla) (i n:Nat):List Hm.Met:=(List.range n).flatMap fun k=>if upB l i k then (l.getD k Cla.zero).methods else []
theorem Q9h {l:List Cla} {i n:Nat}:Qw l i (n+1)=Qw l i n++if upB l i n then (l.getD n Cla.zero).methods else []:=by
 unfold Qw
 rw[List.range_succ,List.flatMap_append]
 simp
theorem Q4b {l:List Cla} (q:K4 l) {i:Nat} (h:i<l.length) (m:Hm.Met):m∈Qw l i l.length↔m∈Vu l (Y3 l i):=by
 unfold Qw Vu
 simp only[List.mem_flatMap,List.mem_range]
 have b: ∀k,k<l.length→lk l (Y3 l k)=some (l.getD k Cla.zero):=fun k g=>Xp q g
 constructor
 ·rintro ⟨k,g,d⟩
  split at d
  ·rename_i hu
   refine ⟨Y3 l k,?_,by rw[b k g];exact d⟩
   rw[Js,Q4f]
   simp only[upB,Bool.or_eq_true,decide_eq_true_eq,Wh] at hu
   rcases hu with rfl | hu
   ·exact .inl ⟨rfl,_,b _ g⟩
   ·exact .inr hu
  ·simp at d
 ·rintro ⟨u,hu,d⟩
  rw[Js] at hu
  obtain ⟨c,r⟩:=hu.right
  obtain ⟨z,p,j,s,a⟩:=V1 r
  obtain ⟨n,A⟩:=List.getElem?_eq_some_iff.1 a
  have f:Y3 l j=u:=by
   unfold Y3;rw[List.getD_eq_getElem?_getD,a];exact z
  refine ⟨j,n,?_⟩
  rw[r] at d
  have:upB l i j=true:=by
   simp only[upB,Bool.or_eq_true,decide_eq_true_eq,Wh]
   rw[Q4f] at hu
   rcases hu with ⟨e,_⟩ | hu
   ·left
    have y:=b i h
    rw[e,←f] at y
    have o:=K4.find q (i:=i) (c:=l[i]) (List.getElem?_eq_getElem h)
    have t:l[i].name=Y3 l i:=by unfold Y3;rw[List.getD_eq_getElem?_getD,List.getElem?_eq_getElem h];rfl
    rw[t,e,s] at o
    simpa using o
   ·right;rw[f];exact hu
  rw[if_pos this,List.getD_eq_getElem?_getD,a]
  exact d
theorem Q9z {l:List Cla} {i n:Nat} {m:Hm.Met} (h:m∈Qw l i n) (d:n≤l.length): ∃c∈l,m∈c.methods:=by
 unfold Qw at h
 simp only[List.mem_flatMap,List.mem_range] at h
 obtain ⟨k,e,a⟩:=h
 split at a
 ·have b:k<l.length:=by omega
  rw[List.getD_eq_getElem?_getD,List.getElem?_eq_getElem b] at a
  exact ⟨l[k],List.getElem_mem _,a⟩
 ·simp at a
def K9 (a:List Hm.Met) (x y:Nat):Bool:=decide ((a.getD x Hm.Met.zero).name=(a.getD y Hm.Met.zero).name)&& !decide (Qh (a.getD x Hm.Met.zero)=Qh (a.getD y Hm.Met.zero))
theorem Cu {α:Type} {l:List α} {d:α} {n:Nat} (h:n<l.length):l.getD n d=l[n]:=by rw[List.getD_eq_getElem?_getD,List.getElem?_eq_getElem h];rfl
theorem X0y {a:List Hm.Met} {x y:Nat} (b:x<a.length) (c:y<a.length) (h:K9 a x y=true):Lv a=true:=by
 unfold Lv
 rw[List.any_eq_true]
 refine ⟨a[x],List.getElem_mem _,?_⟩
 rw[List.any_eq_true]
 refine ⟨a[y],List.getElem_mem _,?_⟩
 unfold K9 at h
 rwa [Cu b,Cu c] at h
theorem X1x {d:List Hm.Met} (h: ∀x y,x<d.length→y<x→K9 d x y=false):Lv d=false:=by
 unfold Lv
 rw[List.any_eq_false]
 intro a k
 rw[List.any_eq_true]
 rintro ⟨b,j,f⟩
 obtain ⟨x,g,rfl⟩:=List.getElem_of_mem k
 obtain ⟨y,i,rfl⟩:=List.getElem_of_mem j
 have e:K9 d y x=K9 d x y:=by
  unfold K9
  congr 1
  ·rw[Bool.eq_iff_iff];simp[eq_comm]
  ·congr 1;rw[Bool.eq_iff_iff];simp[eq_comm]
 have c:K9 d x y=true:=by unfold K9;rw[Cu g,Cu i];exact f
 rcases Nat.lt_trichotomy x y with hlt | heq | hlt
 ·rw[←e,h y x i hlt] at c;cases c
 ·subst heq;simp[K9] at c
 ·rw[h x y g hlt] at c;cases c
end Go.Hm
namespace Go.Proofs.YtfppjenblllfaaaGreatDoor
open Go.Emb Go.RowKit Go.Kd Go.Hm
variable {w : World} {K : Value → World → Prop} {σ : Q4} {l : List Cla} {v : Value}
theorem Is {c:Cla} (h:Yv c=false):c.fields.length≤32∧c.methods.length≤32∧ ∀m∈c.methods,m.params.length≤32:=by
 simp only[Yv,Bool.or_eq_false_iff,decide_eq_false_iff_not,List.any_eq_false] at h
 obtain ⟨⟨⟨b,e⟩,d⟩,f⟩:=h
 refine ⟨by omega,by omega,fun m a=>?_⟩
 have:=b m a
 simp only[Vk,Bool.or_eq_true,decide_eq_true_eq,not_or] at this
 omega
set_option maxHeartbeats 8000000 in
theorem Q77 {i:Nat} (hs:X4 w σ) (hv:Sl 8 V4 σ v l) (ok:Ok l) (own:K4 l) (hlen:l.length≤1000) (hmn: ∀c∈l,Yv c=false) (hi:i<l.length)
 (h: ∀w' σ',Stp w σ w' σ'→K (I (V7 l l[i])) w'):Q0 P F.bf [v,I i] w K:=Bp (by
 unfold Vg
 obtain ⟨lv,fv,mv,p0,r0⟩:=hv.elC hi
 refine U7 hv hi ?_
 refine Z2 hs p0 rfl ?_
 refine Y5 hs (by rfl) rfl (Rep.one r0) fun q w1 σ1 hk1 hq1=>?_
 have r1:=RCl_lift r0 ⟨hk1.le⟩
 obtain ⟨_,gf,gm,g4,_⟩:=r1.parts
 have hv1:=hv.up hk1
 have hnm:=ok.nm _ (List.getElem_mem hi)
 have hcm:=hmn _ (List.getElem_mem hi)
 have hname:Y3 l i=l[i].name:=Kr hi
 generalize hcE:l[i]=c at*
 obtain ⟨mf,mm,mp⟩:=Is hcm
 have e64:Ya l c=true→V7 l c=64:=fun e=>by unfold V7;simp[e]
 have e65:Ya l c=false→F8 l c=true→V7 l c=65:=fun e e2=>by unfold V7;simp[e,e2]
 have e66:Ya l c=false→F8 l c=false→Yt l c=true→V7 l c=66:=fun e e2 e3=>by unfold V7;simp[e,e2,e3]
 have e67:Ya l c=false→F8 l c=false→Yt l c=false→Oz l c=true→V7 l c=67:=fun e e2 e3 e4=>by unfold V7;simp[e,e2,e3,e4]
 have e0:Ya l c=false→F8 l c=false→Yt l c=false→Oz l c=false→V7 l c=0:=fun e e2 e3 e4=>by unfold V7;simp[e,e2,e3,e4]
 generalize V7 l c=R at*
 clear p0 r0 r1 hcm
 refine U4 c.fields.length (fun n w'=> ∃σ',Stp w σ w' σ'∧SLe σ1 σ'∧(c.fields.take n).any (fun f=>(F2 l c.super f.name).isSome)=false) ⟨σ1,hk1,SLe.refl _,rfl⟩ fun n w2 d hn hinv=>?_
 obtain ⟨σ2,hS2,le2,hno⟩:=hinv
 have hq2:=hq1.lift le2
 have gf2:=gf.lift le2
 (try simp only[↓M1,M1,Mb,reduceIte])
 refine ld hS2.sat hq2 rfl ?_
 refine X0 gf2 ?_
 refine Z4 ?_
 refine Q6 (fun hc=>?_) (fun hc=>?_)
 ·have hn':n<c.fields.length:=by simpa using hc
  obtain ⟨pf,_⟩:=gf2.elF hn'
  have hs2:=hS2.sat
  refine U8 hs2 ?_
  (repeat refine Z8 Xq ?_)
  (intros;(repeat (rename_i hx;subst hx));(try simp only[↓M2,M2,Mb,reduceIte]))
  rename_i w3 hb3
  refine X04 hb3.sat (hv.up (hS2.trans hb3.stp)) ok.acy hlen ok.sm fun w4 σ4 hk4=>?_
  refine G1 ?_
  rw[Jp]
  have hnx:=N0 (p:=fun f:Fld=>(F2 l c.super f.name).isSome) hn'
  cases hp:(F2 l c.super c.fields[n].name).isSome with
  | true=>
   (try simp only[↓M1,M1,Mb,reduceIte])
   rw[hp,Bool.or_true] at hnx
   have:R=64:=e64 (B6 hn' hp)
   subst this
   exact h _ _ ((hS2.trans hb3.stp).trans hk4)
  | false=>
   (try simp only[↓M1,M1,Mb,reduceIte])
   exact Y6 gf.max hn' ⟨σ4,(hS2.trans hb3.stp).trans hk4,le2.more ⟨(hb3.stp.trans hk4).le⟩,by rw[hnx,hno,hp];rfl⟩
 have hA:Ya l c=false:=by
  have hn': ¬n<c.fields.length:=by simpa using hc
  rw[E0 hn'] at hno;exact hno
 clear hno hc hn e64
 refine Q03 (R:=X9) (e:=T.a) hS2 (by decide) fun x3 w3 hk3 ha3 _=>?_
 have hS3:=hS2.trans hk3
 refine E3 c.fields.length (fun n x w'=> ∃σ',Stp w σ w' σ'∧SLe σ1 σ'∧V3 w.heap.size T.a 1 X9 σ' w' x ((c.fields.take n).map (·.kind))) ⟨σ2,hS3,le2,ha3⟩ fun n x w4 d hn hinv=>?_
 obtain ⟨σ4,hS4,le4,ha4⟩:=hinv
 have hq4:=hq1.lift le4
 have gf4:=gf.lift le4
 (try simp only[↓M1,M1,Mb,reduceIte])
 refine ld hS4.sat hq4 rfl ?_
 refine X0 gf4 ?_
 refine Z4 ?_
 refine Q6 (fun hc=>?_) (fun hc=>?_)
 ·have hn':n<c.fields.length:=by simpa using hc
  obtain ⟨pf,rf⟩:=gf4.elF hn'
  have hkl:=(hnm.2.1 _ (List.getElem_mem hn')).2
  (try simp only[↓M1,M1,Mb,reduceIte])
  refine ld hS4.sat hq4 rfl ?_
  refine U7 gf4 hn' ?_
  (try simp only[↓M1,M1,Mb,reduceIte])
  refine ld hS4.sat pf rfl ?_
  refine Us (R:=X9) (x:=c.fields[n].kind) hS4 ha4 ⟨rfl,Nat.le_trans hkl (by decide)⟩ rfl rfl rfl (by rw[List.length_map,List.length_take];omega) (by rw[List.length_map,List.length_take];omega) fun s v' w5 σ5 hnx hS5 ha5 _=>?_
  (try simp only[↓M1,M1,Mb,reduceIte])
  refine J1 gf.max hn' ⟨σ5,hS5,le4.more hnx.le,?_⟩
  rw[List.take_add_one,List.getElem?_eq_getElem hn',List.map_append]
  exact ha5
 rw[List.take_of_length_le (by
  have: ¬n<c.fields.length:=by simpa using hc
  omega)] at ha4
 clear hc hn hk3 ha3 hS3 hS2 le2 hq2 gf2 hq4 gf4
 have hkl: ∀n,(c.fields.map (·.kind)++(c.methods.take n).flatMap Yi).length≤2000:=fun n=>by
  have h1:=Uq Yi 33 (c.methods.take n) fun m hm=>by
   have:=mp m (List.mem_of_mem_take hm)
   unfold Yi
   split<;>simp<;>omega
  have h2:(c.methods.take n).length≤32:=by rw[List.length_take];omega
  have h3:(c.methods.take n).length*33≤32*33:=Nat.mul_le_mul_right _ h2
  rw[List.length_append,List.length_map];omega
 refine E3 c.methods.length (fun n x w'=> ∃σ',Stp w σ w' σ'∧SLe σ1 σ'∧V3 w.heap.size T.a 1 X9 σ' w' x (c.fields.map (·.kind)++(c.methods.take n).flatMap Yi)) ⟨σ4,hS4,le4,by simpa using ha4⟩ fun n x w5 d hn hinv=>?_
 clear ha4 hS4 le4
 obtain ⟨σ5,hS5,le5,ha5⟩:=hinv
 have hq5:=hq1.lift le5
 have gm5:=gm.lift le5
 have hkn:=hkl n
 (try simp only[↓M1,M1,Mb,reduceIte])
 refine ld hS5.sat hq5 rfl ?_
 refine X0 gm5 ?_
 refine Z4 ?_
 refine Q6 (fun hc=>?_) (fun hc=>?_)
 ·have hn':n<c.methods.length:=by simpa using hc
  obtain ⟨pv,cv,hv',pm,rm⟩:=gm5.elM hn'
  obtain ⟨gp,_,_,_,gr,_⟩:=rm.parts
  have hpn:=mp _ (List.getElem_mem hn')
  have hrl:=(hnm.2.2 _ (List.getElem_mem hn')).1
  have hnx:(c.methods.take (n+1)).flatMap Yi=(c.methods.take n).flatMap Yi++Yi c.methods[n]:=by
   rw[List.take_add_one,List.getElem?_eq_getElem hn',List.flatMap_append];simp
  refine W0 ?_
  (try simp only[↓M1,M1,Mb,reduceIte])
  refine ld hS5.sat hq5 rfl ?_
  refine U7 gm5 hn' ?_
  (try simp only[↓M1,M1,Mb,reduceIte])
  refine ld hS5.sat pm rfl ?_
  refine Hp hS5 ha5 gp rfl (by omega) (by omega) fun v6 w6 hn6 hS6 ha6 _=>?_
  (try simp only[↓M1,M1,Mb,reduceIte])
  refine ld hS6.sat hq5 rfl ?_
  refine U7 gm5 hn' ?_
  (try simp only[↓M1,M1,Mb,reduceIte])
  refine ld hS6.sat pm rfl ?_
  refine I4 ?_
  by_cases he:c.methods[n].result=[]
  ·simp only[he,decide_true,Bool.not_true,↓M1,M1,Mb,reduceIte]
   intro d
   refine J1 gm.max hn' ⟨σ5,hS6,le5,?_⟩
   rw[hnx]
   unfold Yi
   rw[if_pos he,List.append_nil,←List.append_assoc]
   exact ha6
  ·simp only[he,decide_false,Bool.not_false,↓M1,M1,Mb,reduceIte]
   refine ld hS6.sat hq5 rfl ?_
   refine U7 gm5 hn' ?_
   (try simp only[↓M1,M1,Mb,reduceIte])
   refine ld hS6.sat pm rfl ?_
   refine Us (R:=X9) (x:=c.methods[n].result) hS6 ha6 ⟨rfl,Nat.le_trans hrl (by decide)⟩ rfl rfl rfl (by rw[List.length_append];omega) (by rw[List.length_append];omega) fun s v' w7 σ7 hn7 hS7 ha7 _=>?_
   intro d
   (try simp only[↓M1,M1,Mb,reduceIte])
   refine J1 gm.max hn' ⟨σ7,hS7,le5.more hn7.le,?_⟩
   rw[hnx]
   unfold Yi at ha7⊢
   rw[if_neg he]
   simpa only[List.append_assoc] using ha7
 rw[List.take_of_length_le (by
  have: ¬n<c.methods.length:=by simpa using hc
  omega)] at ha5
 have hkn:=hkl c.methods.length
 rw[List.take_of_length_le (Nat.le_refl _)] at hkn
 have hkE:F8 l c=(Jn c).any (fun s=> !E6 l s):=X0m.symm
 have hkb: ∀s∈Jn c,s.length≤Y9:=fun s hs=>by
  unfold Jn at hs
  rcases List.mem_append.1 hs with hs | hs
  ·obtain ⟨f,hf,rfl⟩:=List.mem_map.1 hs
   exact Nat.le_trans (hnm.2.1 f hf).2 (by decide)
  ·obtain ⟨m,hm,hs⟩:=List.mem_flatMap.1 hs
   unfold Yi at hs
   rcases List.mem_append.1 hs with hs | hs
   ·exact Nat.le_trans ((hnm.2.2 m hm).2 s hs) (by decide)
   ·split at hs
    ·simp at hs
    ·simp at hs;subst hs;exact Nat.le_trans (hnm.2.2 m hm).1 (by decide)
 obtain ⟨σ6,hS6,hv6,lee6,_⟩:=ha5.keep hS5
 have le6:=le5.more ⟨lee6⟩
 clear ha5 hq5 gm5 hc hn
 change Sl 1 X9 σ6 x (Jn c) at hv6
 refine U4 (Jn c).length (fun n w'=>Stp w σ w' σ6∧((Jn c).take n).any (fun s=> !E6 l s)=false) ⟨hS6,rfl⟩ fun n w7 d hn hinv=>?_
 obtain ⟨hS7,hno⟩:=hinv
 refine X0 hv6 ?_
 refine Z4 ?_
 refine Q6 (fun hc=>?_) (fun hc=>?_)
 ·have hn':n<(Jn c).length:=by simpa using hc
  refine U7 hv6 hn' ?_
  obtain ⟨pk,_⟩:=hv6.elS hn'
  refine Y0 hS7.sat pk rfl ?_
  refine X03 hS7.sat (hv.up hS7) (hkb _ (List.getElem_mem hn')) ?_
  have hnx:=N0 (p:=fun s=> !E6 l s) hn'
  cases hp:E6 l (Jn c)[n] with
  | false=>
   (try simp only[↓M1,M1,Mb,reduceIte])
   have:R=65:=e65 hA (by rw[hkE];exact B6 hn' (by simp[hp]))
   subst this
   exact h _ _ hS7
  | true=>
   (try simp only[↓M1,M1,Mb,reduceIte])
   exact Y6 hv6.max hn' ⟨hS7,by rw[hnx,hno,hp];rfl⟩
 have hB:F8 l c=false:=by
  have hn': ¬n<(Jn c).length:=by simpa using hc
  rw[E0 hn'] at hno;rw[hkE];exact hno
 clear hno hc hn e65 hkE hkb hkn hkl hS5 le5 lee6 hv6
 refine Q4p hS7.sat (hv.up hS7) own (by omega) hlen ok.sm fun vb w8 σ8 hk8 hb8=>?_
 have hS8:=hS7.trans hk8
 refine Q03 (R:=L9) (e:=T.d) hS8 (by decide) fun x9 w9 hk9 ha9 _=>?_
 have hml: ∀n,n≤l.length→(Qw l i n).length≤32000:=fun n hn=>by
  unfold Qw
  have h1:=Uq (fun k=>if upB l i k then (l.getD k Cla.zero).methods else []) 32 (List.range n) fun k hk=>by
   have hk':k<l.length:=by have:=List.mem_range.1 hk;omega
   split
   ·rw[Cu hk'];exact (Is (hmn _ (List.getElem_mem _))).2.1
   ·simp
  rw[List.length_range] at h1
  have h3:n*32≤1000*32:=Nat.mul_le_mul_right _ (by omega)
  omega
 have hbl:(Yn l).length=l.length:=by simp[Yn]
 refine E3 l.length (fun n x w'=> ∃σ',Stp w σ w' σ'∧SLe σ1 σ'∧SLe σ8 σ'∧V3 w.heap.size T.d 7 L9 σ' w' x (Qw l i n)) ⟨σ8,hS8.trans hk9,le6.more ⟨hk8.le⟩,SLe.refl _,ha9⟩ fun n x w10 d hn hinv=>?_
 clear ha9 hk9 hS7 hS8 le6 hS6 hk8
 obtain ⟨σ10,hS10,le10,leb,ha10⟩:=hinv
 have hv10:=hv.up hS10
 refine X0 hv10 ?_
 refine Z4 ?_
 refine Q6 (fun hc=>?_) (fun hc=>?_)
 ·have hn':n<l.length:=by simpa using hc
  have hmn1:=hml n hn
  have hsuc:=Q9h (l:=l) (i:=i) (n:=n)
  rw[Cu hn'] at hsuc
  obtain ⟨lv2,fv2,mv2,p2,r2⟩:=hv10.elC hn'
  obtain ⟨_,_,g3,_,_⟩:=r2.parts
  have hmn2:=(Is (hmn _ (List.getElem_mem hn'))).2.1
  refine Zg (fun z w'=>Stp w σ w' σ10∧V3 w.heap.size T.d 7 L9 σ10 w' z (Qw l i (n+1))) ?_ (fun z d w' hz=>?_)
  ·refine Jz ?_
   have happ: ∀{J:Value→World→Prop},upB l i n=true→(∀z w',Stp w σ w' σ10→V3 w.heap.size T.d 7 L9 σ10 w' z (Qw l i (n+1))→J z w')→
    X5 P .append [T.g,T.g] T.g [false,false] [x,mv2] w10 J:=fun hu hJ=>
    Hp hS10 ha10 g3 rfl (by omega) (by omega) fun v' w' _ hS' ha' _=>hJ v' w' hS' (by rw[hsuc,if_pos hu];exact ha')
   by_cases e:n=i
   ·have e1:decide ((n:Int)=(i:Int))=true:=by simp[e]
    rw[e1]
    (try simp only[↓M1,M1,Mb,reduceIte])
    refine U7 hv10 hn' ?_
    (try simp only[↓M1,M1,Mb,reduceIte])
    refine ld hS10.sat p2 rfl ?_
    exact happ (by simp[upB,e]) fun z w' h1 h2=>⟨h1,h2⟩
   ·have e1:decide ((n:Int)=(i:Int))=false:=by rw[decide_eq_false_iff_not];omega
    rw[e1]
    obtain ⟨cs1,pb,_,rv,rfl,rb⟩:=(hb8.lift leb).el (i:=i) (by rw[hbl];exact hi)
    have hrow:(Yn l)[i]'(by rw[hbl];exact hi)=(List.range l.length).map fun j=>Jq l (Y3 l i) (Y3 l j):=by simp[Yn]
    rw[hrow] at rb
    obtain ⟨cs2,pb2,_,hcs2⟩:=rb.el (i:=n) (by simpa using hn')
    have hcs2:cs2=_:=hcs2
    subst hcs2
    simp only[List.getElem_map,List.getElem_range] at pb2
    (try simp only[↓M1,M1,Mb,reduceIte])
    refine U7 (hb8.lift leb) (by rw[hbl];exact hi) ?_
    refine Y0 hS10.sat pb rfl ?_
    refine U7 rb (by simpa using hn') ?_
    refine Y0 hS10.sat pb2 rfl ?_
    (try simp only[↓M1,M1,Mb,reduceIte])
    cases ho:Jq l (Y3 l i) (Y3 l n) with
    | true=>
     (try simp only[↓M1,M1,Mb,reduceIte])
     refine U7 hv10 hn' ?_
     (try simp only[↓M1,M1,Mb,reduceIte])
     refine ld hS10.sat p2 rfl ?_
     exact happ (by simp[upB,ho]) fun z w' h1 h2=>⟨h1,h2⟩
    | false=>
     (try simp only[↓M1,M1,Mb,reduceIte])
     refine ⟨hS10,?_⟩
     have:upB l i n=false:=by simp[upB,ho,e]
     rw[hsuc,this]
     simpa using ha10
  ·obtain ⟨hS',ha'⟩:=hz
   (try simp only[↓M1,M1,Mb,reduceIte])
   exact J1 (by omega) hn' ⟨σ10,hS',le10,leb,ha'⟩
 have hn0:n=l.length:=by
  have: ¬n<l.length:=by simpa using hc
  omega
 subst hn0
 obtain ⟨σ11,hS11,hv11,lee11,_⟩:=ha10.keep hS10
 have le11:=le10.more ⟨lee11⟩
 have hml2:=hml _ (Nat.le_refl l.length)
 have hov:Yt l c=Lv (Qw l i l.length):=by
  unfold Yt
  refine (Q74 fun m=>?_).symm
  rw[Q4b own hi,hname]
 have hlk:Oz l c=(!c.abs&&(Qw l i l.length).any fun m=>Yh l c.name m.name):=by
  unfold Oz
  congr 1
  refine (X12 fun m=>?_).symm
  rw[Q4b own hi,hname]
 have hsn: ∀m∈Qw l i l.length,SmM m∧NmM m:=fun m hm=>by
  obtain ⟨c2,hc2,hm2⟩:=Q9z hm (Nat.le_refl _)
  exact ⟨(ok.sm c2 hc2).2.2.2 m hm2,(ok.nm c2 hc2).2.2 m hm2⟩
 generalize Qw l i l.length=ms at hov hlk hsn hml2 hv11
 clear ha10 lee11 hS10 le10 leb hv10 hml hc hb8 hbl
 refine U4 ms.length (fun n w'=> ∃σ',Stp w σ w' σ'∧SLe σ11 σ'∧ ∀a b,a<n→b<a→K9 ms a b=false) ⟨σ11,hS11,SLe.refl _,fun a b h=>by omega⟩ fun n w12 d hn hinv=>?_
 obtain ⟨σ12,hS12,le12,hno⟩:=hinv
 have hv12:=hv11.lift le12
 refine X0 hv12 ?_
 refine Z4 ?_
 refine Q6 (fun hc=>?_) (fun hc=>?_)
 ·have hn':n<ms.length:=by simpa using hc
  refine U4 n (fun m w'=> ∃σ',Stp w σ w' σ'∧SLe σ11 σ'∧ ∀b,b<m→K9 ms n b=false) ⟨σ12,hS12,le12,fun b h=>by omega⟩ fun m w13 d hm hinv=>?_
  obtain ⟨σ13,hS13,le13,hno2⟩:=hinv
  have hv13:=hv11.lift le13
  refine Z4 ?_
  refine Q6 (fun hc=>?_) (fun hc=>?_)
  ·have hm':m<n:=by simpa using hc
   have hm2:m<ms.length:=by omega
   obtain ⟨pv1,cv1,hv1',pn,rn⟩:=hv13.elM hn'
   obtain ⟨pv2,cv2,hv2',pm,rm⟩:=hv13.elM hm2
   obtain ⟨sn1,sn2⟩:=hsn _ (List.getElem_mem hn')
   obtain ⟨sm1,sm2⟩:=hsn _ (List.getElem_mem hm2)
   have hat:K9 ms n m=(decide (ms[n].name=ms[m].name)&& !decide (Qh ms[n]=Qh ms[m])):=by
    unfold K9;rw[Cu hn',Cu hm2]
   have hs13:=hS13.sat
   have hnx:K9 ms n m=false→ ∀b,b<m+1→K9 ms n b=false:=fun e b hb=>by
    by_cases e2:b=m
    ·subst e2;exact e
    ·exact hno2 b (by omega)
   refine U8 hs13 ?_
   (repeat refine Z8 Xq ?_)
   by_cases he:ms[n].name=ms[m].name
   ·have hd:decide (ms[n].name=ms[m].name)=true:=by simp[he]
    simp only[hd,reduceIte]
    (repeat (apply Z8;(· intros;(repeat (rename_i hx;subst hx));(repeat' (first | (with_reducible exact Y1 rfl) | (with_reducible exact Jy (Stp.bel (by (repeat (first | exact Stp.refl (by (first | assumption | exact Stp.sat (by assumption) | exact Hst.sat (by assumption))) | assumption | refine Stp.trans ?_ (by first | assumption | exact Hst.stp (by assumption)))))) rfl) | (with_reducible intro _) | (simp only[↓M2,M2,Mb,reduceIte]) | (with_reducible show Q2 _ _ _ _ _;first | refine Y0 aS aL aR ?_ | refine Z2 aS aL aR ?_ | refine ld aS aL aR ?_) | (with_reducible show indexAddr _ _ _ _ _ _;refine U7 aL au ?_) | (with_reducible show X5 _ _ _ _ _ _ _ _;refine X0 aL ?_) | (with_reducible show We _ _ _ _ _ _;refine V6 aR ?_) | (with_reducible show pick _ _ _ _ _ _;refine Uu ?_) | (with_reducible show Q0 _ _ _ _ _;first | refine Q6A au au au au ?_) | (apply Ln;intro hh;(try simp only[hh,reduceIte,↓M2,M2,Mb,reduceIte]))));done)))
    (intros;(repeat (rename_i hx;subst hx));(try simp only[↓M2,M2,Mb,reduceIte]))
    rename_i w14 hb14
    refine Q6A hb14.sat rm sm1 sm2 fun w15 σ15 hk15=>?_
    refine I4 ?_
    (try simp only[↓M1,M1,Mb,reduceIte])
    have hS15:=(hS13.trans hb14.stp).trans hk15
    by_cases hsg:Qh ms[n]=Qh ms[m]
    ·simp only[hsg,decide_true,Bool.not_true,↓M1,M1,Mb,reduceIte]
     refine Y6 (by omega) hm' ⟨σ15,hS15,le13.more ⟨(hb14.stp.trans hk15).le⟩,hnx ?_⟩
     rw[hat,hsg];simp
    ·simp only[hsg,decide_false,Bool.not_false,↓M1,M1,Mb,reduceIte]
     have:R=66:=e66 hA hB (by rw[hov];exact X0y hn' hm2 (by rw[hat];simp[he,hsg]))
     subst this
     exact h _ _ hS15
   ·have hd:decide (ms[n].name=ms[m].name)=false:=by simp[he]
    simp only[hd,Bool.false_eq_true,reduceIte]
    (repeat refine Z8 Xq ?_)
    (intros;(repeat (rename_i hx;subst hx));(try simp only[↓M2,M2,Mb,reduceIte]))
    rename_i w14 hb14
    (try simp only[↓M1,M1,Mb,reduceIte])
    refine Y6 (by omega) hm' ⟨σ13,hS13.trans hb14.stp,le13,hnx ?_⟩
    rw[hat];simp[he]
  ·have hm0:m=n:=by
    have: ¬m<n:=by simpa using hc
    omega
   subst hm0
   (try simp only[↓M1,M1,Mb,reduceIte])
   refine Y6 hv11.max hn' ⟨σ13,hS13,le13,fun a b ha hb=>?_⟩
   by_cases e:a=m
   ·subst e;exact hno2 b hb
   ·exact hno a b (by omega) hb
 have hC:Yt l c=false:=by
  rw[hov]
  have: ¬n<ms.length:=by simpa using hc
  exact X1x fun x y hx hy=>hno x y (by omega) hy
 clear hno hc hn hv12 hov e66
 refine U4 ms.length (fun n w'=> ∃σ',Stp w σ w' σ'∧SLe σ11 σ'∧(c.abs=true→n=0)∧(ms.take n).any (fun m=>Yh l c.name m.name)=false) ⟨σ12,hS12,le12,fun _=>rfl,rfl⟩ fun n w13 d hn hinv=>?_
 clear hS12 le12
 obtain ⟨σ13,hS13,le13,hab,hno⟩:=hinv
 have hv13:=hv11.lift le13
 have hq13:=hq1.lift (le11.more le13)
 refine X0 hv13 ?_
 refine Z4 ?_
 by_cases hn':n<ms.length
 ·have e1:decide ((n:Int)<(ms.length:Int))=true:=by simpa using hn'
  rw[e1]
  (try simp only[↓M1,M1,Mb,reduceIte])
  refine ld hS13.sat hq13 rfl ?_
  refine Li ?_
  (try simp only[↓M1,M1,Mb,reduceIte])
  cases hca:c.abs with
  | true=>
   (try simp only[↓M1,M1,Mb,reduceIte])
   have:R=0:=e0 hA hB hC (by rw[hlk,hca];rfl)
   subst this
   exact h _ _ hS13
  | false=>
   (try simp only[↓M1,M1,Mb,reduceIte])
   obtain ⟨pvn,cvn,hvn,pn,rn⟩:=hv13.elM hn'
   have hs13:=hS13.sat
   have hnx:=N0 (p:=fun m:Hm.Met=>Yh l c.name m.name) hn'
   have hla:Yh l c.name ms[n].name=(!(J0 l c.name ms[n].name).isSome||(o2 (J0 l c.name ms[n].name)).abs):=by
    unfold Yh
    cases J0 l c.name ms[n].name<;>rfl
   generalize hF:(fun o:Option Obj=> ∃cs:List Value,∃e,o=some (.cells cs.toArray e (0,0))∧cs.length=7∧cs[3]? =some (.bool (o2 (J0 l c.name ms[n].name)).abs))=F
   have hFn: ¬F none:=by rw[←hF];rintro ⟨_,_,h,_⟩;cases h
   refine X3Q F hs13 ?_
   (repeat (apply Z8;(· intros;(repeat (rename_i hx;subst hx));(repeat' (first | (with_reducible exact Q5Z rfl) | (with_reducible exact X2Y (Stp.bel (by (repeat (first | exact Stp.refl (by (first | assumption | exact Stp.sat (by assumption) | exact Hst.sat (by assumption))) | assumption | refine Stp.trans ?_ (by first | assumption | exact Hst.stp (by assumption)))))) rfl) | (with_reducible intro _) | (simp only[↓M2,M2,Mb,reduceIte]) | (with_reducible show Q2 _ _ _ _ _;first | refine Y0 aS aL aR ?_ | refine Z2 aS aL aR ?_ | refine ld aS aL aR ?_) | (with_reducible show indexAddr _ _ _ _ _ _;refine U7 aL au ?_) | (with_reducible show X5 _ _ _ _ _ _ _ _;refine X0 aL ?_) | (with_reducible show We _ _ _ _ _ _;refine V6 aR ?_) | (with_reducible show pick _ _ _ _ _ _;refine Uu ?_)));done)))
   refine W9 (fun v _=> ∃s,∃ds:List Value,v= .tuple #[s, .agg ds.toArray, .bool (J0 l c.name ms[n].name).isSome]∧ds.length=7∧ds[3]? =some (.bool (o2 (J0 l c.name ms[n].name)).abs)∧ ∀u∈ds,u.oneCell'=true) (fun _ _ _ h _=>h) (fun t180 t185 w hb e1 e2=>?_) ?_
   ·subst e1;subst e2
    refine Q8u hb.sat (hv.up (hS13.trans hb.stp)) ok fun pv cv hv w' σ' hk hr=>⟨.of_below hk.bel,_,_,rfl,rfl,rfl,Rep.one hr⟩
   refine W9 (fun _ _=>True) (fun _ _ _ _ _=>trivial) (fun t186 w hb e=>?_) ?_
   ·obtain ⟨s,ds,rfl,_⟩:=e
    exact Z7 (vs:=[_,_,_]) rfl ⟨.of_below (Below.refl _ _),trivial⟩
   refine W9 (fun v _=> ∃ds:List Value,v= .agg ds.toArray∧ds.length=7∧ds[3]? =some (.bool (o2 (J0 l c.name ms[n].name)).abs)∧ ∀u∈ds,u.oneCell'=true) (fun _ _ _ h _=>h) (fun t186 w hb e=>?_) ?_
   ·obtain ⟨s,ds,rfl,h7⟩:=e
    exact Z7 (vs:=[_,_,_]) rfl ⟨.of_below (Below.refl _ _),ds,rfl,h7⟩
   refine Z8 (V:= .bool (J0 l c.name ms[n].name).isSome) (fun t186 w hb e=>?_) ?_
   ·obtain ⟨s,ds,rfl,h7⟩:=e
    exact Z7 (vs:=[_,_,_]) rfl (Q5Z rfl)
   refine W9 (X47 w13.heap.size 7 F) (Q8o hFn) (fun w hb=>?_) ?_
   ·exact Sj hb.sat fun b w' hb2 hk hm=>⟨.of_below hk.bel,b,rfl,Nat.le_trans hb.stp.bel.size hb2, .inl ⟨_,hm.2.choose,rfl,hm.2.choose_spec⟩⟩
   refine Q7Z (fun xs _ w=>X3L w13.heap.size F (xs.headD undef) w) (fun xs _ w w' h hT=>Q91 hFn _ w w' h hT) (fun t18 t188 w hb e1 e2=>?_) ?_
   ·obtain ⟨g,rfl,hg,hd⟩:=e1
    obtain ⟨ds,rfl,h7,h3,h1⟩:=e2
    obtain ⟨cs,e,hl7,hh⟩: ∃cs:List Value,∃e,cs.length=7∧w.heap[g]? =some (.cells cs.toArray e (0,0)):=by
     rcases hd with h | h
     ·exact h
     ·rw[←hF] at h
      obtain ⟨cs,e,h4,h5,_⟩:=h
      exact ⟨cs,e,h5,h4⟩
    refine sta (σ:=fun _=>none) (cs:=cs) (ds:=ds) ⟨rfl,e,hh⟩ hl7 h7 (by rw[List.all_toArray];exact List.all_eq_true.2 h1) fun w' hu hm=>?_
    have hFg:F (w'.heap[g]?):=by
     obtain ⟨_,e',hm'⟩:=hm
     rw[hm',←hF]
     exact ⟨ds,e',rfl,h7,h3⟩
    exact ⟨FinT.of_upd hu hg hFg,g,rfl,hg,hFg⟩
   rintro t179 t183 t184 t180 t185 t186 t187 t188 t189 t18 u15 w14 hb14 rfl rfl rfl rfl rfl _ _ _ rfl _ ⟨g,e,hg,hd⟩
   have e:t18=_:=e
   subst e
   rw[←hF] at hd
   obtain ⟨cs,ty,hh,hl7,h3⟩:=hd
   have hS14:=hS13.trans hb14.stp
   refine Li ?_
   cases hsm:(J0 l c.name ms[n].name).isSome with
   | false=>
    (try simp only[↓M1,M1,Mb,reduceIte])
    have:R=67:=e67 hA hB hC (by rw[hlk,hca];exact B6 hn' (by rw[hla,hsm];rfl))
    subst this
    exact h _ _ hS14
   | true=>
    (try simp only[↓M1,M1,Mb,reduceIte])
    refine B4 (σ:=fun _=>none) ⟨rfl,ty,hh⟩ h3 ?_
    (try simp only[↓M1,M1,Mb,reduceIte])
    cases hma:(o2 (J0 l c.name ms[n].name)).abs with
    | true=>
     (try simp only[↓M1,M1,Mb,reduceIte])
     have:R=67:=e67 hA hB hC (by rw[hlk,hca];exact B6 hn' (by rw[hla,hma,Bool.or_true]))
     subst this
     exact h _ _ hS14
    | false=>
     (try simp only[↓M1,M1,Mb,reduceIte])
     refine Y6 hv11.max hn' ⟨σ13,hS14,le13,fun e=>False.elim (by simpa using e),?_⟩
     rw[hnx,hno,hla,hsm,hma];rfl
 ·have e1:decide ((n:Int)<(ms.length:Int))=false:=by simpa using hn'
  rw[e1]
  (try simp only[↓M1,M1,Mb,reduceIte])
  rw[E0 hn'] at hno
  have:R=0:=e0 hA hB hC (by rw[hlk,hno,Bool.and_false])
  subst this
  exact h _ _ hS13)
end Go.Proofs.YtfppjenblllfaaaGreatDoor

namespace Go.Proofs.YtfppjenblllfaaaGreatDoor
open Go.Emb Go.RowKit Go.Kd Go.Hm
variable {w : World} {K : Value → World → Prop} {σ : Q4} {v : Value}
def Q2y:List Cla:=[⟨J4,[],[],false,false,false,[],[]⟩,⟨W3,J4,[],false,false,false,[⟨T1,O9,false⟩],[]⟩]
def gMk (n:Q9):Cla:=⟨n,W3,[],false,false,true,[],[]⟩
theorem Q7r:G3=Q2y++U2.map gMk:=rfl
theorem X05 (U:X4 w σ) (h: ∀y w' g,Stp w σ w' g→V3 w.heap.size T.b 8 V4 g w' y G3→K y w'):Q0 P F.bz [] w K:=Gv (by
 unfold Wq
 refine W4 (cells:= #[S J4,S [], .slice none 0 0, .bool false, .bool false, .bool false, .slice none 0 0, .slice none 0 0]) (by kernel_rfl) ?_
 refine W4 (cells:= #[S T1,S O9, .bool false]) (by kernel_rfl) ?_
 refine O4 (R:=E5) (sz:=3) U [.agg #[S T1,S O9, .bool false]] [⟨T1,O9,false⟩] rfl rfl (by simp;rfl) rfl ⟨⟨rfl,by decide,by decide⟩,trivial⟩ fun Y w1 σ1 q k=>?_
 have i:=k
 obtain ⟨E,b,rfl,_⟩:=i
 refine W4 (cells:= #[S W3,S J4, .slice none 0 0, .bool false, .bool false, .bool false, .slice E 1 b, .slice none 0 0]) (by kernel_rfl) ?_
 refine Xj (R:=V4) (sz:=8) q [.agg #[S J4,S [], .slice none 0 0, .bool false, .bool false, .bool false, .slice none 0 0, .slice none 0 0], .agg #[S W3,S J4, .slice none 0 0, .bool false, .bool false, .bool false, .slice E 1 b, .slice none 0 0]]
  Q2y rfl rfl (by simp;exact ⟨rfl,rfl⟩) rfl ⟨⟨_,_,_,rfl,Sl.nil,Sl.nil,Sl.nil,by decide,by decide⟩,⟨_,_,_,rfl,Sl.nil,k,Sl.nil,by decide,by decide⟩,trivial⟩ fun v2 w2 m B _=>?_
 refine O4 (R:=X9) (sz:=1) m.sat (U2.map S) U2 rfl rfl (by decide) rfl ⟨⟨rfl,by decide⟩,⟨rfl,by decide⟩,⟨rfl,by decide⟩,⟨rfl,by decide⟩,⟨rfl,by decide⟩,⟨rfl,by decide⟩,trivial⟩ fun W X J p o=>?_
 have u:=(q.trans m).trans p
 have Q:U2.length=6:=rfl
 refine E3 U2.length (fun n x w'=> ∃g,Stp w σ w' g∧SLe J g∧V3 w.heap.size T.b 8 V4 g w' x (Q2y++(U2.take n).map gMk)) ⟨J,u,SLe.refl _,B.up p⟩ fun n x w4 d Z j=>?_
 obtain ⟨M,c,e,f⟩:=j
 refine X0 (o.lift e) ?_
 refine Z4 ?_
 refine Q6 (fun C=>?_) (fun C=>?_)
 ·have a:n<U2.length:=by simpa using C
  have r:=o.lift e
  refine U7 r a ?_
  obtain ⟨L,H⟩:=r.elS a
  refine Y0 c.sat L rfl ?_
  have O:(Q2y++(U2.take n).map gMk).length≤8:=by
   rw[List.length_append,List.length_map,List.length_take,show Q2y.length=2 from rfl];omega
  have l:(U2.take (n+1)).map gMk=(U2.take n).map gMk++[gMk U2[n]]:=by
   rw[List.take_add_one,List.getElem?_eq_getElem a,List.map_append];rfl
  generalize U2[n]=t at H l
  refine W4 (cells:= #[S t,S W3, .slice none 0 0, .bool false, .bool false, .bool true, .slice none 0 0, .slice none 0 0]) (by kernel_rfl) ?_
  have N:V4 M (gMk t) [S t,S W3, .slice none 0 0, .bool false, .bool false, .bool true, .slice none 0 0, .slice none 0 0]:=⟨_,_,_,rfl,Sl.nil,Sl.nil,Sl.nil,H,(by decide:W3.length≤Y9)⟩
  refine Us (x:=gMk t) c f N rfl rfl rfl (by omega) (by omega) fun s y w5 V D A z _=>?_
  refine H3 ?_
  refine J1 (by omega) a ⟨V,A,e.more D.le,?_⟩
  rw[l,←List.append_assoc];exact z
 ·have a: ¬n<U2.length:=by simpa using C
  rw[List.take_of_length_le (by omega),←Q7r] at f
  exact h _ _ _ c f)
end Go.Proofs.YtfppjenblllfaaaGreatDoor

namespace Go.Proofs.YtfppjenblllfaaaGreatDoor
open Go.Emb Go.RowKit Go.Kd Go.Hm
variable {w : World} {K : Value → World → Prop} {σ : Q4} {l : List Cla} {v : Value}
theorem X2N {w0:World} {σ0:Q4} {frm:Nat} (ha:Yz l) (ho:K4 l) (hl:l.length≤1000) (ax: ∀c∈l,Qn c) (hf:0<frm) (ap: ∀i (C:i<l.length),frm≤i→ ∀u∈J9 l[i],∃j,Y7 l u=some j): ∀(k:Nat) {i:Nat} {out:List Nat} {x:Value} {w:World} {σ:Q4} {K:Value→World→Prop},i<l.length→I5 l (Y3 l i)<k→Few l out→Stp w0 σ0 w σ→Sl 8 V4 σ v l→V3 w0.heap.size T.e 1 Vp σ w x (ints out)→
 (∀x' w' Q,Stp w0 σ0 w' Q→SLe σ Q→V3 w0.heap.size T.e 1 Vp Q w' x' (ints (Xl l frm out i))→K x' w')→Q0 P F.b2 [v,x,I frm,I i] w K:=by
 intro k
 induction k with
 | zero=>intro i out x w σ K C hk;omega
 | succ k ih=>
  intro i out x w σ K C hk A hS hv hx h
  refine Aq ?_
  unfold Eg
  rw[Q85 ha ho hf out C] at h
  refine Z4 ?_
  refine Q6 (fun J=>?_) (fun J=>?_)
  ·have J:i<frm:=by have:=of_decide_eq_true J;omega
   rw[if_pos J] at h
   exact h _ _ _ hS (SLe.refl _) hx
  have J: ¬i<frm:=by have:=of_decide_eq_false J;omega
  rw[if_neg J] at h
  have bh:=A.len
  refine U4 out.length (fun n w'=>w'=w∧ ∀m (hm:m<out.length),m<n→out[m]≠i) ⟨rfl,fun m _ h=>by omega⟩ fun n w2 d hn g=>?_
  obtain ⟨hw,N⟩:=g
  subst hw
  refine Q92 hx ?_
  rw[show (ints out).length=out.length from by simp]
  refine Z4 ?_
  refine Q6 (fun E=>?_) (fun E=>?_)
  ·have b:n<out.length:=by simpa using E
   refine Q3S (J6.of_acc hx) (n:=n) (by simpa using b) fun a cs ar bg hr=>?_
   obtain ⟨rfl,_⟩:=hr
   refine P8 (by have:=ar 0 _ rfl;rwa [add_zero] at this) ?_
   simp only[List.getElem_map]
   refine Jz ?_
   by_cases e:out[n]=i
   ·have:decide ((out[n]:Int)=i)=true:=by simp[e]
    rw[this]
    refine J5 ?_
    rw[if_pos (e▸List.getElem_mem b)] at h
    exact h _ _ _ hS (SLe.refl _) hx
   ·have:decide ((out[n]:Int)=i)=false:=by rw[decide_eq_false_iff_not];omega
    rw[this]
    refine V0 ?_
    refine H3 ?_
    refine Y6 (by omega) b ⟨rfl,fun m hm bp=>?_⟩
    by_cases e2:m=n
    ·subst e2;exact e
    ·exact N m hm (by omega)
  ·have b: ¬n<out.length:=by simpa using E
   have z:i∉out:=fun av=>by
    obtain ⟨m,hm,e⟩:=List.getElem_of_mem av
    exact N m hm (by omega) e
   rw[if_neg z] at h
   have V:l.getD i Cla.zero=l[i]:=by rw[List.getD_eq_getElem?_getD,List.getElem?_eq_getElem C];rfl
   rw[V] at h
   have am:=ap i C (by omega)
   obtain ⟨lv,fv,mv,p1,r1⟩:=hv.elC C
   obtain ⟨g1,_,_,_,g5⟩:=r1.parts
   have B:=ax _ (List.getElem_mem C)
   clear N z E hn
   refine U8 hS.sat ?_
   (repeat refine Z8 Xq ?_)
   refine Q1k (w:=w2) (σ:=σ) (R:=X9) (sz:=1) (e:=T.a) [l[i].super] (fun t w hb e=>?_) ?_
   ·subst e;exact Xj hb.stp [_] [l[i].super] rfl rfl (by simp;rfl) rfl ⟨⟨rfl,g5⟩,trivial⟩ fun v' w' hk ha _=>Q2P hb hk ha
   (repeat refine Z8 Xq ?_)
   rintro bf bn bw bb be bq bu w4 al rfl rfl rfl rfl rfl ⟨Z,ab⟩ rfl
   refine Hp Z ab g1 rfl (by simp;have:=B.1;omega) (by simp;have:=B.1;omega) fun v5 w5 ay af W ag=>?_
   obtain ⟨σ6,r,L,a9,_⟩:=W.keep af
   have L:Sl 1 X9 σ6 v5 (J9 l[i]):=L
   have az:=hx.up r
   have Y:=hv.up r
   have ad:=hS.trans r
   have U:SLe σ σ6:=⟨r.le⟩
   clear ay ag W ab Z al af
   refine E3 (J9 l[i]).length (fun n x w'=> ∃Q o,Stp w0 σ0 w' Q∧SLe σ6 Q∧V3 w0.heap.size T.e 1 Vp Q w' x (ints o)∧Few l o∧o=((J9 l[i]).take n).foldl (fun out n=>Xl l frm out ((Y7 l n).getD 0)) out) ⟨σ6,out,ad,SLe.refl _,az,A,rfl⟩ fun n x7 w7 d hn g=>?_
   obtain ⟨σ7,a4,q,y,ae,f,H⟩:=g
   have p:=L.lift y
   refine X0 p ?_
   refine Z4 ?_
   refine Q6 (fun E=>?_) (fun E=>?_)
   ·have b:n<(J9 l[i]).length:=by simpa using E
    refine U7 p b ?_
    obtain ⟨p7,_⟩:=p.elS b
    refine Y0 q.sat p7 rfl ?_
    have D:=Y.lift y
    refine Qg q.sat D ?_
    obtain ⟨j,hj⟩:=am _ (List.getElem_mem b)
    have bm:=Q1d ha ho C (by rw[V];exact List.getElem_mem b) hj
    have X:=(B1 hj).1
    simp only[hj,L2]
    refine ih X (by omega) f q D ae fun x8 w8 σ8 O aw M=>?_
    refine H3 ?_
    refine J1 p.max b ⟨σ8,_,O,y.more aw,M,Pc ha ho hf _ _ _ X f,?_⟩
    rw[List.take_add_one,List.getElem?_eq_getElem b,List.foldl_append,←H]
    simp[hj]
   ·have b: ¬n<(J9 l[i]).length:=by simpa using E
    rw[List.take_of_length_le (by omega)] at H
    have ba:=f.len
    refine Us (R:=Vp) (x:=(i:Int)) q ae ⟨rfl,by omega,by omega⟩ rfl rfl rfl (by simp;omega) (by simp;omega) fun s x8 w8 σ8 an O M _=>?_
    refine h _ _ _ O ((U.more y).more an.le) ?_
    rw[←H]
    simpa [ints] using M
end Go.Proofs.YtfppjenblllfaaaGreatDoor

namespace Go.Hm
open Go.Kd
def H6 (n i b:Nat):Bool:=decide (i<n)&&decide (128≤b)&&decide (b<192)
def Yy (n a b c d:Nat):Nat:=
 if a<128 then 1
 else if (decide (194≤a)&&decide (a<224)&&H6 n 1 b)=true then 2
 else if (decide (224≤a)&&decide (a<240)&&H6 n 1 b&&H6 n 2 c)=true then
  (if 2048≤a % 16*4096+b % 64*64+c % 64∧(a % 16*4096+b % 64*64+c % 64<55296∨57343<a % 16*4096+b % 64*64+c % 64) then 3 else 0)
 else if (decide (240≤a)&&decide (a<245)&&H6 n 1 b&&H6 n 2 c&&H6 n 3 d)=true then
  (if 65536≤a % 8*262144+b % 64*4096+c % 64*64+d % 64∧a % 8*262144+b % 64*4096+c % 64*64+d % 64≤1114111 then 4 else 0)
 else 0
theorem X1o (n a b c d:Nat) (u:a<256) (t:b<256) (s:c<256) (r:d<256):
 Yy n a b c d=if (Lib.decodeN n a b c d).1=65533∧(Lib.decodeN n a b c d).2=1 then 0 else (Lib.decodeN n a b c d).2:=by
 have key: ∀v k:Nat,Lib.decodeN n a b c d=(v,k)→ ¬k=1→Yy n a b c d=k→Yy n a b c d=if (Lib.decodeN n a b c d).1=65533∧(Lib.decodeN n a b c d).2=1 then 0 else (Lib.decodeN n a b c d).2:=by
  intro v k h p m
  rw[h,m,if_neg (fun e=>p e.2)]
 have g:Lib.decodeN n a b c d=(65533,1)→Yy n a b c d=0→Yy n a b c d=if (Lib.decodeN n a b c d).1=65533∧(Lib.decodeN n a b c d).2=1 then 0 else (Lib.decodeN n a b c d).2:=by
  intro h m
  rw[h,m];simp
 by_cases f:a<128
 ·have h:Lib.decodeN n a b c d=(a,1):=by unfold Lib.decodeN;rw[if_pos f]
  rw[h,if_neg (by simp only;omega)]
  unfold Yy;rw[if_pos f]
 by_cases j:a / 32=6∧(1<n∧b / 64=2)
 ·by_cases i:a % 32*64+b % 64≥128
  ·refine key _ 2 (by unfold Lib.decodeN;rw[if_neg f,if_pos j,if_pos i]) (by decide) ?_
   unfold Yy H6
   simp only[Bool.and_eq_true,decide_eq_true_eq]
   rw[if_neg f,if_pos (by omega)]
  ·refine g (by unfold Lib.decodeN;rw[if_neg f,if_pos j,if_neg i]) ?_
   unfold Yy H6
   simp only[Bool.and_eq_true,decide_eq_true_eq]
   rw[if_neg f,if_neg (by omega),if_neg (by omega),if_neg (by omega)]
 by_cases l:a / 16=14∧(1<n∧b / 64=2)∧(2<n∧c / 64=2)
 ·by_cases i:2048≤a % 16*4096+b % 64*64+c % 64∧(a % 16*4096+b % 64*64+c % 64<55296∨57343<a % 16*4096+b % 64*64+c % 64)
  ·refine key _ 3 (by unfold Lib.decodeN;rw[if_neg f,if_neg j,if_pos l,if_pos (by omega)]) (by decide) ?_
   unfold Yy H6
   simp only[Bool.and_eq_true,decide_eq_true_eq]
   rw[if_neg f,if_neg (by omega),if_pos (by omega),if_pos i]
  ·refine g (by unfold Lib.decodeN;rw[if_neg f,if_neg j,if_pos l,if_neg (by omega)]) ?_
   unfold Yy H6
   simp only[Bool.and_eq_true,decide_eq_true_eq]
   rw[if_neg f,if_neg (by omega),if_pos (by omega),if_neg i]
 by_cases o:a / 8=30∧(1<n∧b / 64=2)∧(2<n∧c / 64=2)∧(3<n∧d / 64=2)
 ·by_cases i:65536≤a % 8*262144+b % 64*4096+c % 64*64+d % 64∧a % 8*262144+b % 64*4096+c % 64*64+d % 64≤1114111
  ·refine key _ 4 (by unfold Lib.decodeN;rw[if_neg f,if_neg j,if_neg l,if_pos o,if_pos (by omega)]) (by decide) ?_
   unfold Yy H6
   simp only[Bool.and_eq_true,decide_eq_true_eq]
   rw[if_neg f,if_neg (by omega),if_neg (by omega),if_pos (by omega),if_pos i]
  ·refine g (by unfold Lib.decodeN;rw[if_neg f,if_neg j,if_neg l,if_pos o,if_neg (by omega)]) ?_
   unfold Yy H6
   simp only[Bool.and_eq_true,decide_eq_true_eq]
   rw[if_neg f,if_neg (by omega),if_neg (by omega)]
   by_cases q:a<245
   ·rw[if_pos (by omega),if_neg i]
   ·rw[if_neg (by omega)]
 ·refine g (by unfold Lib.decodeN;rw[if_neg f,if_neg j,if_neg l,if_neg o]) ?_
  unfold Yy H6
  simp only[Bool.and_eq_true,decide_eq_true_eq]
  rw[if_neg f,if_neg (by omega),if_neg (by omega),if_neg (by omega)]
def X3 (l:Q9) (i:Nat):Nat:=(l.getD i 0).toNat
theorem Xn (l:Q9) (i:Nat):X3 l i<256:=(l.getD i 0).toNat_lt
def Ze (l:Q9):Nat:=Yy l.length (X3 l 0) (X3 l 1) (X3 l 2) (X3 l 3)
theorem Q5W (l:Q9):Ze l=if (Lib.decodeL l).1=65533∧(Lib.decodeL l).2=1 then 0 else (Lib.decodeL l).2:=by
 rw[Lib.decodeL_N]
 exact X1o _ _ _ _ _ (Xn l 0) (Xn l 1) (Xn l 2) (Xn l 3)
theorem X0t {l:Q9} (a:l≠[]) (h:Ze l≠0):1≤Ze l∧Ze l≤l.length:=by
 have c:=Lib.decodeL_le l a
 have b:=Lib.decodeL_width l
 rw[Q5W] at h⊢
 split at h
 ·exact absurd rfl h
 ·rw[if_neg (by assumption)];omega
theorem Q96 {f:Nat} {l:Q9} (a:l≠[]):Lib.validGoD (f+1) l=if Ze l=0 then false else Lib.validGoD f (l.drop (Ze l)):=by
 have b:=Lib.decodeL_width l
 simp only[Lib.validGoD,if_neg a]
 rw[Q5W]
 split
 ·rw[if_pos rfl]
 ·rw[if_neg (by omega)]
end Go.Hm
namespace Go.Emb
open Go.RowKit
theorem X0v {P:Program} {w:World} {K:Value→World→Prop} {k:IntKind} {t:TypeId} {d b:Operand} {a c:Int} (f:0<c∧0≤a) (h:K (.int k (a % c)) w):Q3 P .rem t d b (.int k a) (.int k c) w K:=by
 have e:Q3 P .rem t d b (.int k a) (.int k c) w K=K (.int k (a.tmod c)) w:=Y2 (by simp[eqGuard,Go.binOp,Op.intDiv];intro e;omega)
 rw[e,Int.tmod_eq_emod_of_nonneg f.2];exact h
end Go.Emb
namespace Go.Proofs.YtfppjenblllfaaaGreatDoor
open Go.Emb Go.RowKit Go.Kd Go.Hm
variable {w : World} {K : Value → World → Prop} {σ : Q4}
theorem Mo {a:Q9} {i:Nat} (b:i<a.length) (h:K (.int .u8 (X3 a i)) w):H2 P T.a (S a) (I i) w K:=by
 rw[Xk X7 (by omega) (by simpa using b)]
 have:(a[(i:Int).toNat]'(by simpa using b)).toNat=X3 a i:=by
  unfold X3
  rw[List.getD_eq_getElem?_getD,List.getElem?_eq_getElem b];rfl
 rw[this];exact h
theorem Q3H {n:Int} (a:0≤n∧n<256) (h:K (I n) w):conv P T.y T.e (.int .u8 n) w K:=by
 rw[Q2s Q3Y Q2H,F3 (by omega) (by omega)];exact h
theorem Wo {a:Q9} {i:Nat} (h:K (.bool (H6 a.length i (X3 a i))) w):Q0 P F.u [S a,I i] w K:=Gz (by
 unfold Mh
 unfold H6 at h
 simp only[↓M1,M1,Mb,reduceIte]
 by_cases b:i<a.length
 ·have c:decide ((i:Int)<a.length)=true:=by rw[decide_eq_true_eq];omega
  have d:decide (i<a.length)=true:=by simpa using b
  rw[d] at h
  simp only[c,↓M1,M1,Mb,reduceIte]
  refine Mo b ?_
  (try simp only[↓M1,M1,Mb,reduceIte])
  have f:decide ((128:Int)≤(X3 a i:Int))=decide (128≤X3 a i):=by rw[Bool.eq_iff_iff,decide_eq_true_eq,decide_eq_true_eq];omega
  have g:decide ((X3 a i:Int)<192)=decide (X3 a i<192):=by rw[Bool.eq_iff_iff,decide_eq_true_eq,decide_eq_true_eq];omega
  rw[f]
  cases e:decide (128≤X3 a i) with
  | true=>
   rw[e] at h
   simp only[↓M1,M1,Mb,reduceIte]
   refine Mo b ?_
   simp only[g,↓M1,M1,Mb,reduceIte]
   simpa using h
  | false=>
   rw[e] at h
   simp only[↓M1,M1,Mb,reduceIte]
   simpa using h
 ·have c:decide ((i:Int)<a.length)=false:=by rw[decide_eq_false_iff_not];omega
  have d:decide (i<a.length)=false:=by simpa using b
  rw[d] at h
  simp only[c,↓M1,M1,Mb,reduceIte]
  simpa using h)
def Jb (a:Q9):Nat:=X3 a 0 % 16*4096+X3 a 1 % 64*64+X3 a 2 % 64
def Rh (a:Q9):Nat:=X3 a 0 % 8*262144+X3 a 1 % 64*4096+X3 a 2 % 64*64+X3 a 3 % 64
theorem X0a (a:Q9):Ze a=if X3 a 0<128 then 1
 else if (decide (194≤X3 a 0)&&decide (X3 a 0<224)&&H6 a.length 1 (X3 a 1))=true then 2
 else if (decide (224≤X3 a 0)&&decide (X3 a 0<240)&&H6 a.length 1 (X3 a 1)&&H6 a.length 2 (X3 a 2))=true then
  (if 2048≤Jb a∧(Jb a<55296∨57343<Jb a) then 3 else 0)
 else if (decide (240≤X3 a 0)&&decide (X3 a 0<245)&&H6 a.length 1 (X3 a 1)&&H6 a.length 2 (X3 a 2)&&H6 a.length 3 (X3 a 3))=true then
  (if 65536≤Rh a∧Rh a≤1114111 then 4 else 0)
 else 0:=rfl
set_option maxHeartbeats 2000000 in
theorem X18 {a:Q9} (hne:a≠[]) (hs:X4 w σ) (h: ∀w',Below w.heap.size w w'→K (I (Ze a)) w'):Q0 P F.bR [S a] w K:=Tj (by
 unfold Nx
 have hl:0<a.length:=List.length_pos_iff.2 hne
 have b0:=Xn a 0
 have b1:=Xn a 1
 have b2:=Xn a 2
 have b3:=Xn a 3
 refine Mo (i:=0) hl ?_
 refine Q3H (by omega) ?_
 refine Zg (fun _ w'=>Below w.heap.size w w'∧Ze a=0) ?_ (fun _ d w' hx=>by
  have:=h w' hx.1
  rw[hx.2] at this
  exact this)
 have hK: ∀n w',Below w.heap.size w w'→Ze a=n→K (I n) w':=fun n w' hb e=>by rw[←e];exact h w' hb
 clear h
 have hcm:=X0a a
 simp only[↓M1,M1,Mb,reduceIte]
 refine Q6 (fun h1=>?_) (fun h1=>?_)
 ·have:X3 a 0<128:=by have:=of_decide_eq_true h1;omega
  exact hK 1 _ (Below.refl _ _) (by rw[hcm,if_pos this])
 have c0: ¬X3 a 0<128:=by have:=of_decide_eq_false h1;omega
 rw[if_neg c0] at hcm
 by_cases c1:X3 a 0<194
 ·have i1:decide ((194:Int)≤X3 a 0)=false:=by rw[decide_eq_false_iff_not];omega
  have n1:decide (194≤X3 a 0)=false:=by rw[decide_eq_false_iff_not];omega
  have i2:decide ((X3 a 0:Int)<224)=true:=by rw[decide_eq_true_eq];omega
  have n2:decide (X3 a 0<224)=true:=by rw[decide_eq_true_eq];omega
  have i3:decide ((224:Int)≤X3 a 0)=false:=by rw[decide_eq_false_iff_not];omega
  have n3:decide (224≤X3 a 0)=false:=by rw[decide_eq_false_iff_not];omega
  have i4:decide ((X3 a 0:Int)<240)=true:=by rw[decide_eq_true_eq];omega
  have n4:decide (X3 a 0<240)=true:=by rw[decide_eq_true_eq];omega
  have i5:decide ((240:Int)≤X3 a 0)=false:=by rw[decide_eq_false_iff_not];omega
  have n5:decide (240≤X3 a 0)=false:=by rw[decide_eq_false_iff_not];omega
  have i6:decide ((X3 a 0:Int)<245)=true:=by rw[decide_eq_true_eq];omega
  have n6:decide (X3 a 0<245)=true:=by rw[decide_eq_true_eq];omega
  simp only[i1,i2,i3,i4,i5,i6,↓M1,M1,Mb,reduceIte]
  exact ⟨Below.refl _ _,by rw[hcm];simp only[n1,n2,n3,n4,n5,n6,Bool.and_true,Bool.true_and,Bool.false_and,Bool.and_false,Bool.false_eq_true,if_true,if_false,reduceIte]⟩
 by_cases c2:X3 a 0<224
 ·have i1:decide ((194:Int)≤X3 a 0)=true:=by rw[decide_eq_true_eq];omega
  have n1:decide (194≤X3 a 0)=true:=by rw[decide_eq_true_eq];omega
  have i2:decide ((X3 a 0:Int)<224)=true:=by rw[decide_eq_true_eq];omega
  have n2:decide (X3 a 0<224)=true:=by rw[decide_eq_true_eq];omega
  have i3:decide ((224:Int)≤X3 a 0)=false:=by rw[decide_eq_false_iff_not];omega
  have n3:decide (224≤X3 a 0)=false:=by rw[decide_eq_false_iff_not];omega
  have i4:decide ((X3 a 0:Int)<240)=true:=by rw[decide_eq_true_eq];omega
  have n4:decide (X3 a 0<240)=true:=by rw[decide_eq_true_eq];omega
  have i5:decide ((240:Int)≤X3 a 0)=false:=by rw[decide_eq_false_iff_not];omega
  have n5:decide (240≤X3 a 0)=false:=by rw[decide_eq_false_iff_not];omega
  have i6:decide ((X3 a 0:Int)<245)=true:=by rw[decide_eq_true_eq];omega
  have n6:decide (X3 a 0<245)=true:=by rw[decide_eq_true_eq];omega
  simp only[i1,i2,i3,i4,i5,i6,↓M1,M1,Mb,reduceIte]
  refine Wo (i:=1) ?_
  cases A1:H6 a.length 1 (X3 a 1) with
  | true=>simp only[↓M1,M1,Mb,reduceIte];exact hK 2 _ (Below.refl _ _) (by rw[hcm];simp only[A1,n1,n2,n3,n4,n5,n6,Bool.and_true,Bool.true_and,Bool.false_and,Bool.and_false,Bool.false_eq_true,if_true,if_false,reduceIte])
  | false=>simp only[↓M1,M1,Mb,reduceIte];exact ⟨Below.refl _ _,by rw[hcm];simp only[A1,n1,n2,n3,n4,n5,n6,Bool.and_true,Bool.true_and,Bool.false_and,Bool.and_false,Bool.false_eq_true,if_true,if_false,reduceIte]⟩
 by_cases c3:X3 a 0<240
 ·have i1:decide ((194:Int)≤X3 a 0)=true:=by rw[decide_eq_true_eq];omega
  have n1:decide (194≤X3 a 0)=true:=by rw[decide_eq_true_eq];omega
  have i2:decide ((X3 a 0:Int)<224)=false:=by rw[decide_eq_false_iff_not];omega
  have n2:decide (X3 a 0<224)=false:=by rw[decide_eq_false_iff_not];omega
  have i3:decide ((224:Int)≤X3 a 0)=true:=by rw[decide_eq_true_eq];omega
  have n3:decide (224≤X3 a 0)=true:=by rw[decide_eq_true_eq];omega
  have i4:decide ((X3 a 0:Int)<240)=true:=by rw[decide_eq_true_eq];omega
  have n4:decide (X3 a 0<240)=true:=by rw[decide_eq_true_eq];omega
  have i5:decide ((240:Int)≤X3 a 0)=false:=by rw[decide_eq_false_iff_not];omega
  have n5:decide (240≤X3 a 0)=false:=by rw[decide_eq_false_iff_not];omega
  have i6:decide ((X3 a 0:Int)<245)=true:=by rw[decide_eq_true_eq];omega
  have n6:decide (X3 a 0<245)=true:=by rw[decide_eq_true_eq];omega
  simp only[i1,i2,i3,i4,i5,i6,↓M1,M1,Mb,reduceIte]
  refine Wo (i:=1) ?_
  cases A1:H6 a.length 1 (X3 a 1) with
  | false=>simp only[↓M1,M1,Mb,reduceIte];exact ⟨Below.refl _ _,by rw[hcm];simp only[A1,n1,n2,n3,n4,n5,n6,Bool.and_true,Bool.true_and,Bool.false_and,Bool.and_false,Bool.false_eq_true,if_true,if_false,reduceIte]⟩
  | true=>
  simp only[↓M1,M1,Mb,reduceIte]
  refine Wo (i:=2) ?_
  cases A2:H6 a.length 2 (X3 a 2) with
  | false=>simp only[↓M1,M1,Mb,reduceIte];exact ⟨Below.refl _ _,by rw[hcm];simp only[A1,A2,n1,n2,n3,n4,n5,n6,Bool.and_true,Bool.true_and,Bool.false_and,Bool.and_false,Bool.false_eq_true,if_true,if_false,reduceIte]⟩
  | true=>
  simp only[↓M1,M1,Mb,reduceIte]
  simp only[A1,A2,n1,n2,n3,n4,n5,n6,Bool.and_true,Bool.true_and,Bool.false_and,Bool.and_false,Bool.false_eq_true,if_true,if_false,reduceIte] at hcm
  have hl1:1<a.length:=by unfold H6 at A1;simp only[Bool.and_eq_true,decide_eq_true_eq] at A1;exact A1.1.1
  have hl2:2<a.length:=by unfold H6 at A2;simp only[Bool.and_eq_true,decide_eq_true_eq] at A2;exact A2.1.1
  have hw:IntKind.i64.wrap (IntKind.i64.wrap (IntKind.i64.wrap ((X3 a 0:Int) % 16*4096)+IntKind.i64.wrap ((X3 a 1:Int) % 64*64))+(X3 a 2:Int) % 64)=((Jb a:Nat):Int):=by
   rw[F3 (n:=(X3 a 0:Int) % 16*4096) (by omega) (by omega),F3 (n:=(X3 a 1:Int) % 64*64) (by omega) (by omega),F3 (n:=_+(X3 a 1:Int) % 64*64) (by omega) (by omega),F3 (by omega) (by omega)]
   unfold Jb;omega
  refine U8 hs ?_
  have hx1: ∀{w':World} {K:Value→World→Prop},K (.int .u8 (X3 a 1)) w'→H2 P T.a (S a) (.int .i64 1) w' K:=fun hK=>Mo (i:=1) hl1 hK
  have hx2: ∀{w':World} {K:Value→World→Prop},K (.int .u8 (X3 a 2)) w'→H2 P T.a (S a) (.int .i64 2) w' K:=fun hK=>Mo (i:=2) hl2 hK
  (repeat (apply Z8;(· intros;(repeat (rename_i hx;subst hx));(repeat' (first | (with_reducible exact Y1 rfl) | (with_reducible exact Jy (Stp.bel (by (repeat (first | exact Stp.refl (by (first | assumption | exact Stp.sat (by assumption) | exact Hst.sat (by assumption))) | assumption | refine Stp.trans ?_ (by first | assumption | exact Hst.stp (by assumption)))))) rfl) | (with_reducible intro _) | (simp only[↓M2,M2,Mb,reduceIte]) | (with_reducible refine X0v au ?_) | (with_reducible refine Q3H au ?_) | (with_reducible refine hx1 ?_) | (with_reducible refine hx2 ?_) | (with_reducible show Q2 _ _ _ _ _;first | refine Y0 aS aL aR ?_ | refine Z2 aS aL aR ?_ | refine ld aS aL aR ?_) | (with_reducible show indexAddr _ _ _ _ _ _;refine U7 aL au ?_) | (with_reducible show X5 _ _ _ _ _ _ _ _;refine X0 aL ?_) | (with_reducible show We _ _ _ _ _ _;refine V6 aR ?_) | (with_reducible show pick _ _ _ _ _ _;refine Uu ?_) | (apply Ln;intro hh;(try simp only[hh,reduceIte,↓M2,M2,Mb,reduceIte]))));done)))
  (intros;(repeat (rename_i hx;subst hx));(try simp only[↓M2,M2,Mb,reduceIte]))
  rename_i w2 hb2
  simp only[hw]
  have hb:=hb2.stp.bel
  by_cases e1:2048≤Jb a
  ·by_cases e2:Jb a<55296
   ·simp only[(show decide ((2048:Int)≤(Jb a:Int))=true by rw[decide_eq_true_eq];omega),(show decide ((Jb a:Int)<55296)=true by rw[decide_eq_true_eq];omega),↓M1,M1,Mb,reduceIte]
    exact hK 3 _ hb (by rw[hcm,if_pos ⟨e1, .inl e2⟩])
   ·by_cases e3:57343<Jb a
    ·simp only[(show decide ((2048:Int)≤(Jb a:Int))=true by rw[decide_eq_true_eq];omega),(show decide ((Jb a:Int)<55296)=false by rw[decide_eq_false_iff_not];omega),(show decide ((57343:Int)<(Jb a:Int))=true by rw[decide_eq_true_eq];omega),↓M1,M1,Mb,reduceIte]
     exact hK 3 _ hb (by rw[hcm,if_pos ⟨e1, .inr e3⟩])
    ·simp only[(show decide ((2048:Int)≤(Jb a:Int))=true by rw[decide_eq_true_eq];omega),(show decide ((Jb a:Int)<55296)=false by rw[decide_eq_false_iff_not];omega),(show decide ((57343:Int)<(Jb a:Int))=false by rw[decide_eq_false_iff_not];omega),↓M1,M1,Mb,reduceIte]
     exact ⟨hb,by rw[hcm,if_neg (by omega)]⟩
  ·simp only[(show decide ((2048:Int)≤(Jb a:Int))=false by rw[decide_eq_false_iff_not];omega),↓M1,M1,Mb,reduceIte]
   exact ⟨hb,by rw[hcm,if_neg (by omega)]⟩
 by_cases c4:X3 a 0<245
 ·have i1:decide ((194:Int)≤X3 a 0)=true:=by rw[decide_eq_true_eq];omega
  have n1:decide (194≤X3 a 0)=true:=by rw[decide_eq_true_eq];omega
  have i2:decide ((X3 a 0:Int)<224)=false:=by rw[decide_eq_false_iff_not];omega
  have n2:decide (X3 a 0<224)=false:=by rw[decide_eq_false_iff_not];omega
  have i3:decide ((224:Int)≤X3 a 0)=true:=by rw[decide_eq_true_eq];omega
  have n3:decide (224≤X3 a 0)=true:=by rw[decide_eq_true_eq];omega
  have i4:decide ((X3 a 0:Int)<240)=false:=by rw[decide_eq_false_iff_not];omega
  have n4:decide (X3 a 0<240)=false:=by rw[decide_eq_false_iff_not];omega
  have i5:decide ((240:Int)≤X3 a 0)=true:=by rw[decide_eq_true_eq];omega
  have n5:decide (240≤X3 a 0)=true:=by rw[decide_eq_true_eq];omega
  have i6:decide ((X3 a 0:Int)<245)=true:=by rw[decide_eq_true_eq];omega
  have n6:decide (X3 a 0<245)=true:=by rw[decide_eq_true_eq];omega
  simp only[i1,i2,i3,i4,i5,i6,↓M1,M1,Mb,reduceIte]
  refine Wo (i:=1) ?_
  cases A1:H6 a.length 1 (X3 a 1) with
  | false=>simp only[↓M1,M1,Mb,reduceIte];exact ⟨Below.refl _ _,by rw[hcm];simp only[A1,n1,n2,n3,n4,n5,n6,Bool.and_true,Bool.true_and,Bool.false_and,Bool.and_false,Bool.false_eq_true,if_true,if_false,reduceIte]⟩
  | true=>
  simp only[↓M1,M1,Mb,reduceIte]
  refine Wo (i:=2) ?_
  cases A2:H6 a.length 2 (X3 a 2) with
  | false=>simp only[↓M1,M1,Mb,reduceIte];exact ⟨Below.refl _ _,by rw[hcm];simp only[A1,A2,n1,n2,n3,n4,n5,n6,Bool.and_true,Bool.true_and,Bool.false_and,Bool.and_false,Bool.false_eq_true,if_true,if_false,reduceIte]⟩
  | true=>
  simp only[↓M1,M1,Mb,reduceIte]
  refine Wo (i:=3) ?_
  cases A3:H6 a.length 3 (X3 a 3) with
  | false=>simp only[↓M1,M1,Mb,reduceIte];exact ⟨Below.refl _ _,by rw[hcm];simp only[A1,A2,A3,n1,n2,n3,n4,n5,n6,Bool.and_true,Bool.true_and,Bool.false_and,Bool.and_false,Bool.false_eq_true,if_true,if_false,reduceIte]⟩
  | true=>
  simp only[↓M1,M1,Mb,reduceIte]
  simp only[A1,A2,A3,n1,n2,n3,n4,n5,n6,Bool.and_true,Bool.true_and,Bool.false_and,Bool.and_false,Bool.false_eq_true,if_true,if_false,reduceIte] at hcm
  have hl1:1<a.length:=by unfold H6 at A1;simp only[Bool.and_eq_true,decide_eq_true_eq] at A1;exact A1.1.1
  have hl2:2<a.length:=by unfold H6 at A2;simp only[Bool.and_eq_true,decide_eq_true_eq] at A2;exact A2.1.1
  have hl3:3<a.length:=by unfold H6 at A3;simp only[Bool.and_eq_true,decide_eq_true_eq] at A3;exact A3.1.1
  have hw:IntKind.i64.wrap (IntKind.i64.wrap (IntKind.i64.wrap (IntKind.i64.wrap ((X3 a 0:Int) % 8*262144)+IntKind.i64.wrap ((X3 a 1:Int) % 64*4096))+IntKind.i64.wrap ((X3 a 2:Int) % 64*64))+(X3 a 3:Int) % 64)=((Rh a:Nat):Int):=by
   rw[F3 (n:=(X3 a 0:Int) % 8*262144) (by omega) (by omega),F3 (n:=(X3 a 1:Int) % 64*4096) (by omega) (by omega),F3 (n:=(X3 a 2:Int) % 64*64) (by omega) (by omega),F3 (n:=_+(X3 a 1:Int) % 64*4096) (by omega) (by omega),F3 (n:=_+(X3 a 2:Int) % 64*64) (by omega) (by omega),F3 (by omega) (by omega)]
   unfold Rh;omega
  refine U8 hs ?_
  have hx1: ∀{w':World} {K:Value→World→Prop},K (.int .u8 (X3 a 1)) w'→H2 P T.a (S a) (.int .i64 1) w' K:=fun hK=>Mo (i:=1) hl1 hK
  have hx2: ∀{w':World} {K:Value→World→Prop},K (.int .u8 (X3 a 2)) w'→H2 P T.a (S a) (.int .i64 2) w' K:=fun hK=>Mo (i:=2) hl2 hK
  have hx3: ∀{w':World} {K:Value→World→Prop},K (.int .u8 (X3 a 3)) w'→H2 P T.a (S a) (.int .i64 3) w' K:=fun hK=>Mo (i:=3) hl3 hK
  (repeat (apply Z8;(· intros;(repeat (rename_i hx;subst hx));(repeat' (first | (with_reducible exact Y1 rfl) | (with_reducible exact Jy (Stp.bel (by (repeat (first | exact Stp.refl (by (first | assumption | exact Stp.sat (by assumption) | exact Hst.sat (by assumption))) | assumption | refine Stp.trans ?_ (by first | assumption | exact Hst.stp (by assumption)))))) rfl) | (with_reducible intro _) | (simp only[↓M2,M2,Mb,reduceIte]) | (with_reducible refine X0v au ?_) | (with_reducible refine Q3H au ?_) | (with_reducible refine hx1 ?_) | (with_reducible refine hx2 ?_) | (with_reducible refine hx3 ?_) | (with_reducible show Q2 _ _ _ _ _;first | refine Y0 aS aL aR ?_ | refine Z2 aS aL aR ?_ | refine ld aS aL aR ?_) | (with_reducible show indexAddr _ _ _ _ _ _;refine U7 aL au ?_) | (with_reducible show X5 _ _ _ _ _ _ _ _;refine X0 aL ?_) | (with_reducible show We _ _ _ _ _ _;refine V6 aR ?_) | (with_reducible show pick _ _ _ _ _ _;refine Uu ?_) | (apply Ln;intro hh;(try simp only[hh,reduceIte,↓M2,M2,Mb,reduceIte]))));done)))
  (intros;(repeat (rename_i hx;subst hx));(try simp only[↓M2,M2,Mb,reduceIte]))
  rename_i w2 hb2
  simp only[hw]
  have hb:=hb2.stp.bel
  by_cases e1:65536≤Rh a
  ·by_cases e2:Rh a≤1114111
   ·simp only[(show decide ((65536:Int)≤(Rh a:Int))=true by rw[decide_eq_true_eq];omega),(show decide ((Rh a:Int)≤1114111)=true by rw[decide_eq_true_eq];omega),↓M1,M1,Mb,reduceIte]
    exact hK 4 _ hb (by rw[hcm,if_pos ⟨e1,e2⟩])
   ·simp only[(show decide ((65536:Int)≤(Rh a:Int))=true by rw[decide_eq_true_eq];omega),(show decide ((Rh a:Int)≤1114111)=false by rw[decide_eq_false_iff_not];omega),↓M1,M1,Mb,reduceIte]
    exact ⟨hb,by rw[hcm,if_neg (by omega)]⟩
  ·simp only[(show decide ((65536:Int)≤(Rh a:Int))=false by rw[decide_eq_false_iff_not];omega),↓M1,M1,Mb,reduceIte]
   exact ⟨hb,by rw[hcm,if_neg (by omega)]⟩
 have i1:decide ((194:Int)≤X3 a 0)=true:=by rw[decide_eq_true_eq];omega
 have n1:decide (194≤X3 a 0)=true:=by rw[decide_eq_true_eq];omega
 have i2:decide ((X3 a 0:Int)<224)=false:=by rw[decide_eq_false_iff_not];omega
 have n2:decide (X3 a 0<224)=false:=by rw[decide_eq_false_iff_not];omega
 have i3:decide ((224:Int)≤X3 a 0)=true:=by rw[decide_eq_true_eq];omega
 have n3:decide (224≤X3 a 0)=true:=by rw[decide_eq_true_eq];omega
 have i4:decide ((X3 a 0:Int)<240)=false:=by rw[decide_eq_false_iff_not];omega
 have n4:decide (X3 a 0<240)=false:=by rw[decide_eq_false_iff_not];omega
 have i5:decide ((240:Int)≤X3 a 0)=true:=by rw[decide_eq_true_eq];omega
 have n5:decide (240≤X3 a 0)=true:=by rw[decide_eq_true_eq];omega
 have i6:decide ((X3 a 0:Int)<245)=false:=by rw[decide_eq_false_iff_not];omega
 have n6:decide (X3 a 0<245)=false:=by rw[decide_eq_false_iff_not];omega
 simp only[i1,i2,i3,i4,i5,i6,↓M1,M1,Mb,reduceIte]
 exact ⟨Below.refl _ _,by rw[hcm];simp only[n1,n2,n3,n4,n5,n6,Bool.and_true,Bool.true_and,Bool.false_and,Bool.and_false,Bool.false_eq_true,if_true,if_false,reduceIte]⟩)
theorem Q9H {s:Q9} (q:s.length≤Y9) (t:X4 w σ) (h: ∀w',Below w.heap.size w w'→K (.bool (Lib.validD s)) w'):Q0 P F.bI [S s] w K:=Gr (by
 unfold Wy
 refine Iy (fun f x w'=> ∃r,x=S r∧r.length≤f∧r.length≤Y9∧Below w.heap.size w w'∧Lib.validD s=Lib.validGoD f r) s.length ⟨s,rfl,Nat.le_refl _,q,Below.refl _ _,rfl⟩ ?_
 rintro k f x d w1 ⟨r,rfl,p,u,b,i⟩ j
 refine I4 ?_
 by_cases a:r=[]
 ·have e:decide (r=[])=true:=by simpa using a
  simp only[e,↓M1,M1,Mb,reduceIte]
  subst a
  have:Lib.validGoD f []=true:=by cases f<;>simp[Lib.validGoD]
  rw[i,this] at h
  exact h _ b
 ·have e:decide (r=[])=false:=by simpa using a
  simp only[e,↓M1,M1,Mb,reduceIte]
  have o:0<r.length:=List.length_pos_iff.2 a
  obtain ⟨f,rfl⟩: ∃g,f=g+1:=⟨f-1,by omega⟩
  rw[Q96 a] at i
  refine X18 a (t.below b) fun z m=>?_
  have c:=b.trans (m.mono b.size)
  refine Jz ?_
  by_cases n:Ze r=0
  ·have l:decide ((Ze r:Int)=0)=true:=by rw[decide_eq_true_eq];omega
   simp only[l,↓M1,M1,Mb,reduceIte]
   rw[i,if_pos n] at h
   exact h _ c
  ·have l:decide ((Ze r:Int)=0)=false:=by rw[decide_eq_false_iff_not];omega
   simp only[l,↓M1,M1,Mb,reduceIte]
   obtain ⟨v,y⟩:=X0t a n
   rw[Lt X7 (by omega) (by omega)]
   rw[if_neg n] at i
   refine j f _ _ (by omega) ⟨r.drop (Ze r),by simp,by rw[List.length_drop];omega,by rw[List.length_drop];omega,c,i⟩)
end Go.Proofs.YtfppjenblllfaaaGreatDoor

namespace Go.Proofs.YtfppjenblllfaaaGreatDoor
open Go.Emb Go.RowKit Go.Kd Go.Hm
variable {w : World} {K : Value → World → Prop} {σ : Q4}
theorem Q6p {σ:Q4}: ∀(xs:List Q9),(∀x∈xs,x.length≤Y9)→Gy X9 σ (xs.map S) xs
 | [],_=>trivial
 | x::r,h=>⟨⟨rfl,h x (by simp)⟩,Q6p r fun y a=>h y (by simp[a])⟩
def Jw:List Q9:=Zt.map (·.name)
set_option maxRecDepth 100000 in
theorem X2B (c:X4 w σ) (h: ∀v w' a,Stp w σ w' a→Sl 1 X9 a v Jw→K v w'):Q0 P F.bU [] w K:=Q11 (by
 unfold Dw
 exact O4 (R:=X9) (sz:=1) c (Jw.map S) Jw rfl rfl (by intro v b;obtain ⟨x,_,rfl⟩:=List.mem_map.1 b;rfl) rfl (Q6p _ (by decide)) fun v w' a d b=>h v w' a d b)
theorem Q8N {a:Q9} (C:X4 w σ) (h: ∀w' A,Stp w σ w' A→K (I (L2 (Qf a))) w'):Q0 P F.bo [S a] w K:=Bu (by
 unfold Wc
 refine X2B C fun v w1 σ1 p n=>?_
 have r:Qf a=Jw.findIdx? fun x=>decide (x=a):=by
  unfold Qf Jw
  rw[List.findIdx?_map];rfl
 have q: ∀o,Qf a=o→K (I (L2 o)) w1:=fun o e=>by rw[←e];exact h _ _ p
 rw[r] at q
 have l:Jw.length=42:=rfl
 generalize Jw=g at n q l
 refine U4 g.length (fun k w'=>w'=w1∧ ∀j (i:j<g.length),j<k→ ¬g[j]=a) ⟨rfl,fun j _ h=>by omega⟩ fun k E d D y=>?_
 obtain ⟨u,c⟩:=y
 subst u
 refine X0 n ?_
 refine Z4 ?_
 refine Q6 (fun s=>?_) (fun s=>?_)
 ·have b:k<g.length:=by simpa using s
  refine U7 n b ?_
  obtain ⟨t,_⟩:=n.elS b
  refine Y0 p.sat t rfl ?_
  refine Dg ?_
  refine Q6 (fun f=>?_) (fun f=>?_)
  ·have f:g[k]=a:=by simpa using f
   exact q (some k) (by
    rw[List.findIdx?_eq_some_iff_getElem]
    exact ⟨b,by simpa using f,fun j i=>by simpa using c j (by omega) i⟩)
  ·have f: ¬g[k]=a:=by simpa using f
   (try simp only[↓M1,M1,Mb,reduceIte])
   refine Y6 n.max b ⟨rfl,fun j i B=>?_⟩
   by_cases e:j=k
   ·subst e;exact f
   ·exact c j i (by omega)
 ·have b: ¬k<g.length:=by simpa using s
  exact q none (by
   rw[List.findIdx?_eq_none_iff]
   intro m z
   obtain ⟨j,i,rfl⟩:=List.getElem_of_mem z
   simpa using c j i (by omega)))
theorem X35 {o:Option Nat}:decide (L2 o<0)= !o.isSome:=by
 cases o with
 | none=>rfl
 | some i=>
  have: ¬(i:Int)<0:=by omega
  exact decide_eq_false this
def Mt (a:Q9):Bool:=decide (a=[105,110,116])||decide (a=[108,111,97,100])||decide (a=[115,116,111,114,101])||decide (a=[106,117,109,112])||decide (a=[98,114,97,110,99,104])
def Vj (a:Q9):Bool:=decide (a=[119,111,114,100])||decide (a=[110,101,119])||decide (a=[103,101,116])||decide (a=[112,117,116])||decide (a=[99,97,108,108])||decide (a=[97,114,114,97,121])||decide (a=[105,115])||decide (a=[99,97,115,116])
theorem X1A (a:Q9):takes a=(Mt a,Vj a,(Qf a).isSome):=by
 unfold takes
 cases h:Qf a with
 | none=>
  have c:=List.findIdx?_eq_none_iff.1 h
  have d: ∀x∈Jw,¬x=a:=by
   intro x f
   obtain ⟨o,p,rfl⟩:=List.mem_map.1 f
   have:=c o p
   simpa using this
  have b: ∀x∈Jw,decide (a=x)=false:=fun x f=>by rw[decide_eq_false_iff_not];exact fun e=>d x f e.symm
  have l:Mt a=false:=by
   unfold Mt
   rw[b _ (by decide),b _ (by decide),b _ (by decide),b _ (by decide),b _ (by decide)];rfl
  have j:Vj a=false:=by
   unfold Vj
   rw[b _ (by decide),b _ (by decide),b _ (by decide),b _ (by decide),b _ (by decide),b _ (by decide),b _ (by decide),b _ (by decide)];rfl
  simp[l,j]
 | some i=>
  obtain ⟨g,q,_⟩:=List.findIdx?_eq_some_iff_getElem.1 h
  have r:Zt[i].name=a:=by simpa using q
  have k:Zt.getD i ⟨[],false,false⟩=Zt[i]:=by rw[List.getD_eq_getElem?_getD,List.getElem?_eq_getElem g];rfl
  have c: ∀o∈Zt,o.number=Mt o.name∧o.text=Vj o.name:=by decide
  obtain ⟨n,m⟩:=c _ (List.getElem_mem g)
  simp only[k,Option.isSome_some]
  rw[n,m,r]
def Wz (a:Q9):Int:=if Mt a then 1 else if Vj a then 2 else if (Qf a).isSome then 0 else-1
theorem Q4M {a:Q9} (c:X4 w σ) (h: ∀w' l,Stp w σ w' l→K (I (Wz a)) w'):Q0 P F.aG [S a] w K:=Kb (by
 unfold Mf
 refine Zg (fun x w'=>w'=w∧x= .bool (Mt a)) ?_ (fun x d w' f=>?_)
 ·unfold Mt
  simp only[↓M1,M1,Mb,reduceIte]
  repeat' (refine Q6 (fun hh=>?_) (fun hh=>?_))
  all_goals (refine ⟨by trivial,?_⟩;congr 1;simp_all)
 ·obtain ⟨rfl,rfl⟩:=f
  cases g:Mt a with
  | true=>
   (try simp only[↓M1,M1,Mb,reduceIte])
   have:=h _ _ (Stp.refl c)
   unfold Wz at this
   simpa [g] using this
  | false=>
   (try simp only[↓M1,M1,Mb,reduceIte])
   refine Zg (fun x b=>b=w'∧x= .bool (Vj a)) ?_ (fun x d b f=>?_)
   ·unfold Vj
    simp only[↓M1,M1,Mb,reduceIte]
    repeat' (refine Q6 (fun hh=>?_) (fun hh=>?_))
    all_goals (refine ⟨by trivial,?_⟩;congr 1;simp_all)
   ·obtain ⟨rfl,rfl⟩:=f
    cases j:Vj a with
    | true=>
     (try simp only[↓M1,M1,Mb,reduceIte])
     have:=h _ _ (Stp.refl c)
     unfold Wz at this
     simpa [g,j] using this
    | false=>
     (try simp only[↓M1,M1,Mb,reduceIte])
     refine Q8N c fun w1 σ1 e=>?_
     have:=h _ _ e
     unfold Wz at this
     simp only[g,j,Bool.false_eq_true,if_false] at this
     simp only[X35,↓M1,M1,Mb,reduceIte]
     cases k:Qf a with
     | none=>rw[k] at this;simp only[Option.isSome_none,↓M1,M1,Mb,reduceIte];simpa using this
     | some i=>rw[k] at this;simp only[Option.isSome_some,↓M1,M1,Mb,reduceIte];simpa using this)
theorem Q5L (a:Q9):decide (Wz a<0)= !(takes a).2.2∧decide (Wz a=1)=(takes a).1∧decide (Wz a=2)=(takes a).2.1:=by
 rw[X1A]
 have g:Mt a=true→Vj a=false∧(Qf a).isSome=true:=by
  intro h
  unfold Mt at h
  simp only[Bool.or_eq_true,decide_eq_true_eq] at h
  rcases h with (((h | h) | h) | h) | h<;>(subst h;decide)
 have e:Vj a=true→(Qf a).isSome=true:=by
  intro h
  unfold Vj at h
  simp only[Bool.or_eq_true,decide_eq_true_eq] at h
  rcases h with ((((((h | h) | h) | h) | h) | h) | h) | h<;>(subst h;decide)
 unfold Wz
 cases d:Mt a with
 | true=>obtain ⟨b,c⟩:=g d;rw[b,c];decide
 | false=>
  cases f:Vj a with
  | true=>rw[e f];decide
  | false=>cases (Qf a).isSome<;>decide
theorem X4I (s:Q9) (c:UInt8):decide (0≤Lib.indexByte s c)=s.any fun b=>decide (b=c):=by
 induction s with
 | nil=>rfl
 | cons b r g=>
  simp only[Lib.indexByte,List.any_cons,←g]
  by_cases e:b=c
  ·simp[e]
  ·have a:(b==c)=false:=by simpa using e
   have f:=Lib.indexByte_ge r c
   simp only[a,e,decide_false,Bool.false_or,Bool.false_eq_true,if_false]
   by_cases d:Lib.indexByte r c= -1
   ·simp[d]
   ·have:(Lib.indexByte r c== -1)=false:=by simpa using d
    simp only[this,Bool.false_eq_true,if_false]
    rw[Bool.eq_iff_iff,decide_eq_true_eq,decide_eq_true_eq];omega
def JB (w:World) (σ:Q4) (b:Bool) (x:Value) (w':World):Prop:= ∃a,Stp w σ w' a∧x= .bool b
theorem JB.mk {w w':World} {σ a:Q4} {b:Bool} (h:Stp w σ w' a):JB w σ b (.bool b) w':=⟨a,h,rfl⟩
theorem JB.of {w w':World} {σ a:Q4} {b c:Bool} (h:Stp w σ w' a) (e:c=b):JB w σ b (.bool c) w':=⟨a,h,by rw[e]⟩
theorem X3I {s:Q9} {n:Nat} (h:n<s.length):decide ((X3 s n:Int)=10)=decide (s[n]=10):=by
 unfold X3
 rw[List.getD_eq_getElem?_getD,List.getElem?_eq_getElem h,Bool.eq_iff_iff,decide_eq_true_eq,decide_eq_true_eq]
 simp only[Option.getD_some]
 rw[←UInt8.toNat_inj]
 constructor
 ·intro e;have:s[n].toNat=10:=by omega
  rw[this];rfl
 ·intro e;rw[e];rfl
theorem Jx {α:Type} {xs:List α} {p:α→Bool} {n:Nat} (h:n<xs.length):(xs.take (n+1)).all p=((xs.take n).all p&&p xs[n]):=by
 rw[List.take_add_one,List.getElem?_eq_getElem h,List.all_append];simp
set_option maxHeartbeats 2000000 in
theorem Q97 {i:Ins} {cs:List Value} (hs:X4 w σ) (hi:I0 σ i cs) (h: ∀w' m,Stp w σ w' m→K (I (O6 i)) w'):Q0 P F.bH [.agg cs.toArray] w K:=Ib (by
 obtain ⟨rfl,h1,h2,h3⟩:=hi
 unfold Lw
 refine Z1 hs fun q w1 σ1 W hq=>?_
 have V:=W.sat
 (try simp only[↓M1,M1,Mb,reduceIte])
 refine ld V hq rfl ?_
 refine Q4M V fun Z σ2 U=>?_
 obtain ⟨t1,X,E⟩:=Q5L i.op
 have f:=W.trans U
 have g:=hq.up U
 have e:=f.sat
 have r:i.s.length≤140737488355328:=by simp only[Y9] at h3;omega
 simp only[t1,↓M1,M1,Mb,reduceIte]
 unfold O6 at h
 cases e1:(takes i.op).2.2 with
 | false=>
  simp only[e1,Bool.not_false,if_true] at h
  (try simp only[↓M1,M1,Mb,reduceIte])
  exact h _ _ f
 | true=>
 simp only[e1,Bool.not_true,Bool.false_eq_true,if_false] at h
 simp only[X,E,↓M1,M1,Mb,reduceIte]
 have k: ∀(b:Bool) (w':World) (m:Q4),Stp w σ w' m→b=(!((!(takes i.op).1&&decide (i.n≠0))||(!(takes i.op).2.1&&decide (i.s≠[]))||((takes i.op).2.1&& !txt i.op i.s)))→
  X1 (.bool (!b)) (K (.int .i64 41) w') (K (.int .i64 0) w'):=by
  intro b w' m u C
  subst C
  rw[Bool.not_not]
  cases C:((!(takes i.op).1&&decide (i.n≠0))||(!(takes i.op).2.1&&decide (i.s≠[]))||((takes i.op).2.1&& !txt i.op i.s)) with
  | true=>simp only[C,if_true] at h;(try simp only[↓M1,M1,Mb,reduceIte]);exact h _ _ u
  | false=>simp only[C,Bool.false_eq_true,if_false] at h;(try simp only[↓M1,M1,Mb,reduceIte]);exact h _ _ u
 clear h
 have af:(takes i.op).2.1=true→(takes i.op).1=false:=by
  intro R
  rw[←X,decide_eq_false_iff_not]
  rw[←E,decide_eq_true_eq] at R
  omega
 cases D:(takes i.op).2.1 with
 | false=>
  rw[D] at k E
  cases y:(takes i.op).1 with
  | true=>
   rw[y] at k X
   (try simp only[↓M1,M1,Mb,reduceIte])
   simp only[E,↓M1,M1,Mb,reduceIte]
   refine ld e g rfl ?_
   (try simp only[↓M1,M1,Mb,reduceIte])
   refine W0 ?_
   intro d
   simp only[↓M1,M1,Mb,reduceIte]
   exact k _ _ _ f (by simp)
  | false=>
   rw[y] at k X
   (try simp only[↓M1,M1,Mb,reduceIte])
   refine ld e g rfl ?_
   (try simp only[↓M1,M1,Mb,reduceIte])
   by_cases N:i.n=0
   ·have d0:decide (i.n=0)=true:=by simpa using N
    simp only[d0,E,↓M1,M1,Mb,reduceIte]
    refine ld e g rfl ?_
    (try simp only[↓M1,M1,Mb,reduceIte])
    refine W0 ?_
    intro d
    simp only[↓M1,M1,Mb,reduceIte]
    exact k _ _ _ f (by simp[N])
   ·have d0:decide (i.n=0)=false:=by simpa using N
    simp only[d0,↓M1,M1,Mb,reduceIte]
    refine W0 ?_
    intro d
    have H:=k false _ _ f (by simp[N])
    (try simp only[↓M1,M1,Mb,reduceIte] at H⊢)
    exact H
 | true=>
  have y:=af D
  rw[D,y] at k
  rw[D] at E
  rw[y] at X⊢
  (try simp only[↓M1,M1,Mb,reduceIte])
  refine ld e g rfl ?_
  (try simp only[↓M1,M1,Mb,reduceIte])
  have o: ∀(b c:Bool) (w':World) (m:Q4),decide (i.n=0)=b→Stp w σ w' m→c=(b&&txt i.op i.s)→X1 (.bool (!c)) (K (.int .i64 41) w') (K (.int .i64 0) w'):=by
   intro b c w' m C u t
   refine k c w' m u ?_
   rw[t,←C]
   by_cases N:i.n=0<;>simp[N]
  clear k
  cases C:decide (i.n=0) with
  | false=>
   have v:=fun w' m u=>o false false w' m C u rfl
   clear o
   simp only[E,↓M1,M1,Mb,reduceIte]
   refine Zg (JB w σ false) ?_ (fun x d w' R=>?_)
   ·refine ld e g rfl ?_
    (try simp only[↓M1,M1,Mb,reduceIte])
    refine Q6 (fun hh=>?_) (fun hh=>?_)
    ·refine E3 (a:=Value.bool false) i.s.length (fun n x w'=>w'=Z∧x=Value.bool false) ⟨rfl,rfl⟩ fun n x w3 d hn l=>?_
     obtain ⟨A,rfl⟩:=l
     subst A
     (try simp only[↓M1,M1,Mb,reduceIte])
     refine ld e g rfl ?_
     (try simp only[↓M1,M1,Mb,reduceIte])
     refine Q6 (fun t=>?_) (fun t=>?_)
     ·have j:n<i.s.length:=by simpa using t
      (try simp only[↓M1,M1,Mb,reduceIte])
      exact J1 (by omega) j ⟨rfl,rfl⟩
     ·exact .mk f
    refine Q6 (fun hh=>?_) (fun hh=>?_)
    ·exact .mk f
    refine Zg (fun x w'=>w'=Z∧ ∃b:Bool,x=Value.bool b) ?_ (fun z d w' hz=>?_)
    ·refine Q6 (fun hh=>?_) (fun hh=>?_)
     ·exact ⟨rfl,_,rfl⟩
     ·exact ⟨rfl,_,rfl⟩
    obtain ⟨A,b,rfl⟩:=hz
    subst A
    refine Q6 (fun hh=>?_) (fun hh=>?_)
    ·exact .mk f
    refine Q6 (fun hh=>?_) (fun hh=>?_)
    ·exact .mk f
    refine ld e g rfl ?_
    refine Q43 i.s r fun w4 p=>?_
    by_cases M:(G0 i.s).2.2=true
    ·simp only[M,if_true,↓M1,M1,Mb,reduceIte]
     exact .mk (f.trans (Stp.of_below e p))
    ·simp only[M,if_false,↓M1,M1,Mb,reduceIte]
     exact .mk (f.trans (Stp.of_below e p))
   ·obtain ⟨m,u,rfl⟩:=R
    have H:=v w' m u
    (try simp only[↓M1,M1,Mb,reduceIte] at H⊢)
    exact H
  | true=>
   have v:=fun c w' m u t=>o true c w' m C u t
   clear o
   simp only[E,↓M1,M1,Mb,reduceIte]
   refine Zg (JB w σ (txt i.op i.s)) ?_ (fun x d w' R=>?_)
   ·refine ld e g rfl ?_
    (try simp only[↓M1,M1,Mb,reduceIte])
    unfold txt
    by_cases o1:i.op=[119,111,114,100]
    ·simp only[if_pos o1,decide_eq_true o1,↓M1,M1,Mb,reduceIte]
     refine ld e g rfl ?_
     (try simp only[↓M1,M1,Mb,reduceIte])
     have ad:decide ((i.s.length:Int)≤64)=decide (i.s.length≤64):=by rw[Bool.eq_iff_iff,decide_eq_true_eq,decide_eq_true_eq];omega
     rw[ad,X4I,List.not_any_eq_all_not]
     cases aq:decide (i.s.length≤64) with
     | false=>
      (try simp only[↓M1,M1,Mb,reduceIte])
      refine E3 (a:=Value.bool false) i.s.length (fun n x w'=>w'=Z∧x=Value.bool false) ⟨rfl,rfl⟩ fun n x w3 d hn l=>?_
      obtain ⟨A,rfl⟩:=l
      subst A
      (try simp only[↓M1,M1,Mb,reduceIte])
      refine ld e g rfl ?_
      (try simp only[↓M1,M1,Mb,reduceIte])
      refine Q6 (fun t=>?_) (fun t=>?_)
      ·have j:n<i.s.length:=by simpa using t
       (try simp only[↓M1,M1,Mb,reduceIte])
       exact J1 (by omega) j ⟨rfl,rfl⟩
      ·exact .of f (by simp)
     | true=>
      (try simp only[↓M1,M1,Mb,reduceIte])
      refine ld e g rfl ?_
      refine Q9H h3 e fun w4 p=>?_
      have L:=Stp.of_below e p
      have O:=g.up L
      have Q:=L.sat
      have B:=f.trans L
      (try simp only[↓M1,M1,Mb,reduceIte])
      refine E3 (a:=Value.bool (Lib.validD i.s)) i.s.length (fun n x w'=>w'=w4∧x=Value.bool (Lib.validD i.s&&(i.s.take n).all fun c=> !decide (c=10))) ⟨rfl,by simp⟩ fun n x w3 d hn l=>?_
      obtain ⟨A,rfl⟩:=l
      subst A
      (try simp only[↓M1,M1,Mb,reduceIte])
      refine ld Q O rfl ?_
      (try simp only[↓M1,M1,Mb,reduceIte])
      refine Q6 (fun t=>?_) (fun t=>?_)
      ·have j:n<i.s.length:=by simpa using t
       have J:(Lib.validD i.s&&(i.s.take (n+1)).all fun c=> !decide (c=10))=((Lib.validD i.s&&(i.s.take n).all fun c=> !decide (c=10))&& !decide (i.s[n]=10)):=by rw[Jx j,Bool.and_assoc]
       generalize ah:(Lib.validD i.s&&(i.s.take n).all fun c=> !decide (c=10))=ab at J⊢
       cases ab with
       | false=>(try simp only[↓M1,M1,Mb,reduceIte]);exact J1 (by omega) j ⟨rfl,by rw[J];rfl⟩
       | true=>
        (try simp only[↓M1,M1,Mb,reduceIte])
        refine ld Q O rfl ?_
        refine Mo j ?_
        simp only[X3I j,↓M1,M1,Mb,reduceIte]
        exact J1 (by omega) j ⟨rfl,by rw[J];rfl⟩
      ·have j: ¬n<i.s.length:=by simpa using t
       rw[List.take_of_length_le (by omega)]
       exact .of B (by simp)
    ·simp only[if_neg o1,decide_eq_false o1,↓M1,M1,Mb,reduceIte]
     by_cases o2:i.op=[110,101,119]
     ·simp only[if_pos o2,decide_eq_true o2,↓M1,M1,Mb,reduceIte]
      refine ld e g rfl ?_
      refine Xo i.s r ?_
      (try simp only[↓M1,M1,Mb,reduceIte])
      exact .mk f
     ·simp only[if_neg o2,decide_eq_false o2,↓M1,M1,Mb,reduceIte]
      refine Zg (fun x w'=>w'=Z∧x=Value.bool (decide (i.op=[105,115]∨i.op=[99,97,115,116]))) ?_ (fun z d w' hz=>?_)
      ·refine Q6 (fun hh=>?_) (fun hh=>?_)
       ·exact ⟨rfl,by simp_all⟩
       ·exact ⟨rfl,by simp_all⟩
      obtain ⟨A,rfl⟩:=hz
      subst A
      by_cases o3:i.op=[105,115]∨i.op=[99,97,115,116]
      ·simp only[if_pos o3,decide_eq_true o3,↓M1,M1,Mb,reduceIte]
       refine ld e g rfl ?_
       refine Vx i.s r ?_
       cases hr:right i.s with
       | false=>(try simp only[↓M1,M1,Mb,reduceIte]);exact .mk f
       | true=>
        (try simp only[↓M1,M1,Mb,reduceIte])
        refine ld e g rfl ?_
        refine Q09 i.s ?_
        (try simp only[↓M1,M1,Mb,reduceIte])
        exact .mk f
      ·simp only[if_neg o3,decide_eq_false o3,↓M1,M1,Mb,reduceIte]
       by_cases Y:i.op=[97,114,114,97,121]
       ·simp only[if_pos Y,decide_eq_true Y,↓M1,M1,Mb,reduceIte]
        refine ld e g rfl ?_
        refine Vx i.s r ?_
        cases hr:right i.s with
        | false=>(try simp only[↓M1,M1,Mb,reduceIte]);exact .mk f
        | true=>
         (try simp only[↓M1,M1,Mb,reduceIte])
         refine ld e g rfl ?_
         refine Q27 i.s r ?_
         (try simp only[↓M1,M1,Mb,reduceIte])
         have e3:decide (((base i.s).2:Int)<3)=decide (Q2h i.s<3):=by
          unfold Q2h;rw[if_pos hr,Bool.eq_iff_iff,decide_eq_true_eq,decide_eq_true_eq];omega
         rw[e3]
         exact .mk f
       ·simp only[if_neg Y,decide_eq_false Y,↓M1,M1,Mb,reduceIte]
        refine ld e g rfl ?_
        refine Q43 i.s r fun w4 p=>?_
        have B:=f.trans (Stp.of_below e p)
        by_cases M:(G0 i.s).2.2=true
        ·simp only[M,if_true,↓M1,M1,Mb,reduceIte]
         exact .mk B
        ·have:P9 i.s=false:=by unfold P9;rw[eq_false_of_ne_true M];rfl
         simp only[M,if_false,↓M1,M1,Mb,reduceIte]
         exact .of B this.symm
   ·obtain ⟨m,u,rfl⟩:=R
    have H:=v _ w' m u rfl
    simp only[Bool.true_and] at H
    (try simp only[↓M1,M1,Mb,reduceIte])
    exact H)
end Go.Proofs.YtfppjenblllfaaaGreatDoor

namespace Go.Emb
theorem X2o {w:World} {K:Value→World→Prop} {v:Value} (h:K v w):Q1 (.bool true) true w (fun w J=>J v w) K:=by rw[L4];exact h
theorem X2t {w:World} {K:Value→World→Prop} {v:Value} (h:K v w):Q1 (.bool false) false w (fun w J=>J v w) K:=by rw[N5];exact h
theorem X3g {w:World} {K:Value→World→Prop} {b:Bool} {run:World→(Value→World→Prop)→Prop} (h:K undef w):Q1 undef b w run K:=by rw[E2];exact h
class Hd (p : Prop) (q : outParam Prop) : Prop where
  h : q → p
section
variable {P : Program} {w : World} {K : Value → World → Prop} {run : World → (Value → World → Prop) → Prop} {v u : Value} {b : Bool}
instance:Hd (J3 P .not (.bool b) w K) (K (.bool (!b)) w):=⟨Li⟩
instance:Hd (Q1 undef b w run K) (K undef w):=⟨X3g⟩
instance {t:TypeId} {k off:Nat} {ft:TypeId} {sz by_:Nat} {z:Value} {a:Addr} [tf:TF P t k off ft] [tz:TZ P ft sz by_ z] [nz:NZ sz]:Hd (fieldAddr P t (.pointer (some a)) k w K) (K (.pointer (some (a.add off))) w):=⟨J7⟩
instance:Hd (pick P (.bool false) v u w K) (K u w):=⟨X2D⟩
instance:Hd (pick P (.bool true) v u w K) (K v w):=⟨X2s⟩
instance:Hd (Q1 (.bool false) false w run K) (run w K):=⟨X3r⟩
instance:Hd (Q1 (.bool true) true w run K) (run w K):=⟨X3d⟩
instance:Hd (Q1 (.bool false) true w run K) (K undef w):=⟨X2w⟩
instance:Hd (Q1 (.bool true) false w run K) (K undef w):=⟨X2S⟩
instance:Hd (Q1 (.bool false) false w (fun w J=>J v w) K) (K v w):=⟨X2t⟩
instance:Hd (Q1 (.bool true) true w (fun w J=>J v w) K) (K v w):=⟨X2o⟩
end
end Go.Emb
namespace Go.Proofs.YtfppjenblllfaaaGreatDoor
open Go.Emb Go.RowKit Go.Kd Go.Hm
variable {w : World} {K : Value → World → Prop} {σ : Q4}
theorem X2A {xs:List Ins} {v:Value} (t:X4 w σ) (o:Sl 3 I0 σ v xs) (h: ∀e w' l,Stp w σ w' l→decide (e=0)=xs.all (fun i=>decide (O6 i=0))→K (I e) w'):Q0 P F.bc [v] w K:=Q0W (by
 unfold Dn
 refine U4 xs.length (fun n w'=> ∃l,Stp w σ w' l∧(xs.take n).all (fun i=>decide (O6 i=0))=true) ⟨σ,Stp.refl t,rfl⟩ fun n w1 d y j=>?_
 obtain ⟨σ1,c,f⟩:=j
 have g:=o.up c
 refine X0 g ?_
 refine Z4 ?_
 refine Q6 (fun m=>?_) (fun m=>?_)
 ·have a:n<xs.length:=by simpa using m
  refine U7 g a ?_
  obtain ⟨q,p⟩:=g.elI a
  refine Z2 c.sat q rfl ?_
  refine Q97 c.sat p fun z r k=>?_
  refine A0 ?_
  by_cases e:O6 xs[n]=0
  ·have:decide (O6 xs[n]=0)=true:=by simpa using e
   simp only[this,↓M1,M1,Mb,reduceIte]
   exact Y6 o.max a ⟨r,c.trans k,by rw[Jx a,f];simpa using e⟩
  ·have:decide (O6 xs[n]=0)=false:=by simpa using e
   simp only[this,↓M1,M1,Mb,reduceIte]
   refine h _ _ _ (c.trans k) ?_
   rw[this]
   symm
   rw[←Bool.not_eq_true,List.all_eq_true]
   intro s
   have:=s _ (List.getElem_mem a)
   simp at this
   exact e this
 ·have a: ¬n<xs.length:=by simpa using m
  rw[List.take_of_length_le (by omega)] at f
  exact h 0 _ _ c (by rw[f];rfl))
theorem X11 {c:Cla} {cs:List Value} (hs:X4 w σ) (hc:V4 σ c cs) (h: ∀w' σ',Stp w σ w' σ'→K (.bool (Yv c)) w'):Q0 P F.bN [.agg cs.toArray] w K:=Af (by
 unfold Om
 obtain ⟨lv,fv,mv,rfl,f1,f2,f3,f4,f5⟩:=hc
 refine Z1 hs fun q w1 σ1 hk1 hq=>?_
 have f1:=f1.up hk1
 have f2:=f2.up hk1
 have f3:=f3.up hk1
 refine U4 c.methods.length (fun n w'=> ∃σ',Stp w1 σ1 w' σ'∧(c.methods.take n).any Vk=false) ⟨σ1,Stp.refl hk1.sat,rfl⟩ fun n w2 d hn hinv=>?_
 obtain ⟨σ2,hk2,hno⟩:=hinv
 have hq2:=hq.up hk2
 have f32:=f3.up hk2
 have f12:=f1.up hk2
 have f22:=f2.up hk2
 have hs2:=hk2.sat
 (try simp only[↓M1,M1,Mb,reduceIte])
 refine ld hs2 hq2 rfl ?_
 refine X0 f32 ?_
 refine Z4 ?_
 refine Q6 (fun hc=>?_) (fun hc=>?_)
 ·have hn':n<c.methods.length:=by simpa using hc
  (try simp only[↓M1,M1,Mb,reduceIte])
  refine ld hs2 hq2 rfl ?_
  refine U7 f32 hn' ?_
  obtain ⟨pv,cv,hv,p1,r1⟩:=f32.elM hn'
  refine Z2 hs2 p1 rfl ?_
  refine Y5 hs2 (by rfl) rfl (Rep.one r1) fun q3 w3 σ3 hk3 hq3=>?_
  obtain ⟨g1,g2,g3,_,_,_⟩:=(RMe_lift r1 ⟨hk3.le⟩).parts
  have hS3:=hk1.trans (hk2.trans hk3)
  have hyes:Vk c.methods[n]=true→K (.bool true) w3:=fun e=>by
   have:=h _ _ hS3
   have hm:Yv c=true:=by unfold Yv;rw[B6 hn' e];rfl
   rwa [hm] at this
  have hk23:=hk2.trans hk3
  clear h hk2 hk3 hS3
  have hmax:=f3.max
  (repeat' (first | (with_reducible intro _) | (with_reducible refine W0 ?_) | (simp only[↓M2,M2,Mb,reduceIte]) | (with_reducible first | refine ld aS aL aR ?_ | refine Y0 aS aL aR ?_ | refine Z2 aS aL aR ?_ | refine X0 aL ?_ | refine V6 aR ?_ | refine Z1 aS ?_ | refine L5 aS aL ?_ | refine U0 aS aR ?_ | refine Y5 aS aR aR (Rep.one (by assumption)) ?_ | refine U6 aS aR aR aR ?_ | (refine Z5 (fun hh=>?_) (fun hh=>?_)<;>(try simp only[hh,Bool.not_true,Bool.not_false,↓M2,M2,Mb,reduceIte])) | (refine Q6 (fun hh=>?_) (fun hh=>?_)<;>(try simp only[hh,Bool.not_true,Bool.not_false,↓M2,M2,Mb,reduceIte])))))
  all_goals clear hq hq2 f1 f2 f3 f32 f12 f22 hs hs2 p1 r1 g1 g2 g3 hk1 f4 f5 hq3
  all_goals first
   | (refine hyes ?_;clear hyes hk23;unfold Vk;simp only[Bool.not_false,Bool.not_true,Bool.or_eq_true,decide_eq_true_eq,decide_eq_false_iff_not] at*;omega)
   | (
    have hnx:(c.methods.take (n+1)).any Vk=false:=by
     rw[N0 hn',hno,Bool.false_or];clear hyes hk23;unfold Vk;simp only[Bool.or_eq_false_iff,decide_eq_false_iff_not] at*;omega
    exact Y6 hmax hn' ⟨_,hk23,hnx⟩)
 ·have hn': ¬n<c.methods.length:=by simpa using hc
  rw[E0 hn'] at hno
  have hS2:=hk1.trans hk2
  have hm:Yv c=(decide (32<c.like.length)||decide (32<c.fields.length)||decide (32<c.methods.length)):=by unfold Yv;rw[hno];simp
  rw[hm] at h
  have hK:=h _ _ hS2
  clear h hk2
  (try simp only[↓M1,M1,Mb,reduceIte])
  refine ld hs2 hq2 rfl ?_
  refine X0 f12 ?_
  have d32: ∀k:Nat,decide ((32:Int)<(k:Int))=decide (32<k):=fun k=>by rw[Bool.eq_iff_iff,decide_eq_true_eq,decide_eq_true_eq];omega
  simp only[d32,↓M1,M1,Mb,reduceIte]
  cases e1:decide (32<c.like.length) with
  | true=>rw[e1] at hK;(try simp only[↓M1,M1,Mb,reduceIte]);simpa using hK
  | false=>
   rw[e1] at hK
   (try simp only[↓M1,M1,Mb,reduceIte])
   refine ld hs2 hq2 rfl ?_
   refine X0 f22 ?_
   simp only[d32,↓M1,M1,Mb,reduceIte]
   cases e2:decide (32<c.fields.length) with
   | true=>rw[e2] at hK;(try simp only[↓M1,M1,Mb,reduceIte]);simpa using hK
   | false=>
    rw[e2] at hK
    (try simp only[↓M1,M1,Mb,reduceIte])
    refine ld hs2 hq2 rfl ?_
    refine X0 f32 ?_
    simp only[d32,↓M1,M1,Mb,reduceIte]
    simpa using hK)
theorem Q8j {α:Type} {xs:List α} {p:α→Bool} {n:Nat} (h: ¬n<xs.length):(xs.take n).all p=xs.all p:=by rw[List.take_of_length_le (by omega)]
set_option maxHeartbeats 4000000 in
theorem Q06 {m:Hm.Met} {pv cv hv:Value} {w1:World} {σ1:Q4} {q:Addr} {p:Bool} (hs:X4 w σ) (ah:Stp w σ w1 σ1) (hq:Z0 σ1 q [S m.name,pv,S m.result, .bool m.abs,I m.locals,cv,hv]) (g1:Sl 1 X9 σ1 pv m.params) (g2:Sl 3 I0 σ1 cv m.code) (g3:Sl 4 Yk σ1 hv m.catches)
 (h: ∀w' O,Stp w σ w' O→K (.bool ((p&&m.params.all right)&&if m.abs then decide (m.locals=0)&&decide (m.code=[])&&decide (m.catches=[])
  else decide (m.code≠[])&&decide ((m.params.length:Int)<m.locals)&&m.code.all (fun i=>decide (O6 i=0))&&m.catches.all (B8 m.code.length))) w'):
 lp (α:=Value×Value) (Value.bool p,(.int .i64 0)) w1 fun Y C d_ w=>
  fieldAddr P T.d (.pointer (some q)) 1 w fun dd w=>
  Q2 P T.c dd w fun bx w=>
  X5 P .len [T.c] T.e [false] [bx] w fun c4 w=>
  Q3 P .lss T.e (.tmp 21) (.tmp 24) C.2 c4 w fun ca w=>
  X1 ca (
   Q1 C.1 true w (fieldAddr P T.d (.pointer (some q)) 1) fun br w=>
   Q1 C.1 true w (Q2 P T.c br) fun cl w=>
   Q1 C.1 true w (fun w J=>J C.2 w) fun b2 w=>
   Q1 C.1 true w (indexAddr P T.c cl b2) fun bq w=>
   Q1 C.1 true w (Q2 P T.a bq) fun b6 w=>
   Q1 C.1 true w (Q0 P F.l [b6]) fun bz w=>
   pick P C.1 bz (.bool false) w fun bv w=>
   Q3 P .add T.e (.tmp 26) (.const (.int .i64 1)) C.2 (.int .i64 1) w fun cf w=>
   Y (bv,cf) w) (
   fieldAddr P T.d (.pointer (some q)) 3 w fun dc w=>
   Q2 P T.o dc w fun cc w=>
   X1 cc (
    Q1 C.1 true w (fieldAddr P T.d (.pointer (some q)) 4) fun c9 w=>
    Q1 C.1 true w (Q2 P T.e c9) fun cu w=>
    Q1 C.1 true w (Q3 P .eql T.e (.tmp 42) (.const (.int .i64 0)) cu (.int .i64 0)) fun cs w=>
    pick P C.1 cs (.bool false) w fun Q w=>
    Q1 Q true w (fieldAddr P T.d (.pointer (some q)) 5) fun ck w=>
    Q1 Q true w (Q2 P T.n ck) fun c5 w=>
    Q1 Q true w (X5 P .len [T.n] T.e [false] [c5]) fun co w=>
    Q1 Q true w (Q3 P .eql T.e (.tmp 48) (.const (.int .i64 0)) co (.int .i64 0)) fun cx w=>
    pick P Q cx (.bool false) w fun L w=>
    Q1 L true w (fieldAddr P T.d (.pointer (some q)) 6) fun bk w=>
    Q1 L true w (Q2 P T.q bk) fun bm w=>
    Q1 L true w (X5 P .len [T.q] T.e [false] [bm]) fun c6 w=>
    Q1 L true w (Q3 P .eql T.e (.tmp 54) (.const (.int .i64 0)) c6 (.int .i64 0)) fun c3 w=>
    pick P L c3 (.bool false) w fun bw w=>
    K bw w) (
    fieldAddr P T.d (.pointer (some q)) 5 w fun bu w=>
    Q2 P T.n bu w fun b7 w=>
    X5 P .len [T.n] T.e [false] [b7] w fun af w=>
    lp (α:=Value×Value) (C.1,(.int .i64 0)) w fun N j d_ w=>
     fieldAddr P T.d (.pointer (some q)) 6 w fun cb w=>
     Q2 P T.q cb w fun bp w=>
     X5 P .len [T.q] T.e [false] [bp] w fun bl w=>
     Q3 P .lss T.e (.tmp 60) (.tmp 63) j.2 bl w fun cz w=>
     X1 cz (
      fieldAddr P T.d (.pointer (some q)) 6 w fun bn w=>
      Q2 P T.q bn w fun cd w=>
      indexAddr P T.q cd j.2 w fun cr w=>
      Q2 P T.p cr w fun b5 w=>
      L3 P T.p w fun t7 w=>
      Z6 P T.p t7 b5 w fun _u w=>
      Q1 j.1 true w (fieldAddr P T.p t7 0) fun b3 w=>
      Q1 j.1 true w (Q2 P T.e b3) fun bo w=>
      Q1 j.1 true w (Q3 P .geq T.e (.tmp 75) (.const (.int .i64 0)) bo (.int .i64 0)) fun c7 w=>
      pick P j.1 c7 (.bool false) w fun H w=>
      Q1 H true w (fieldAddr P T.p t7 0) fun b1 w=>
      Q1 H true w (Q2 P T.e b1) fun b4 w=>
      Q1 H true w (fieldAddr P T.p t7 1) fun ct w=>
      Q1 H true w (Q2 P T.e ct) fun bj w=>
      Q1 H true w (Q3 P .lss T.e (.tmp 80) (.tmp 82) b4 bj) fun b9 w=>
      pick P H b9 (.bool false) w fun R w=>
      Q1 R true w (fieldAddr P T.p t7 1) fun bi w=>
      Q1 R true w (Q2 P T.e bi) fun ci w=>
      Q1 R true w (fun w J=>J af w) fun cq w=>
      Q1 R true w (Q3 P .leq T.e (.tmp 87) (.tmp 88) ci cq) fun cj w=>
      pick P R cj (.bool false) w fun aa w=>
      Q1 aa true w (fieldAddr P T.p t7 2) fun cw w=>
      Q1 aa true w (Q2 P T.e cw) fun cg w=>
      Q1 aa true w (Q3 P .geq T.e (.tmp 93) (.const (.int .i64 0)) cg (.int .i64 0)) fun ce w=>
      pick P aa ce (.bool false) w fun U w=>
      Q1 U true w (fieldAddr P T.p t7 2) fun cp w=>
      Q1 U true w (Q2 P T.e cp) fun cy w=>
      Q1 U true w (fun w J=>J af w) fun cn w=>
      Q1 U true w (Q3 P .lss T.e (.tmp 98) (.tmp 99) cy cn) fun a9 w=>
      pick P U a9 (.bool false) w fun D w=>
      Q1 D true w (fieldAddr P T.p t7 3) fun a4 w=>
      Q1 D true w (Q2 P T.a a4) fun bd w=>
      Q1 D true w (Q0 P F.f [bd]) fun al w=>
      pick P D al (.bool false) w fun a6 w=>
      Q3 P .add T.e (.tmp 65) (.const (.int .i64 1)) j.2 (.int .i64 1) w fun bh w=>
      N (a6,bh) w) (
      Q1 j.1 true w (fun w J=>J af w) fun a1 w=>
      Q1 j.1 true w (Q3 P .gtr T.e (.tmp 109) (.const (.int .i64 0)) a1 (.int .i64 0)) fun ao w=>
      pick P j.1 ao (.bool false) w fun g w=>
      Q1 g true w (fieldAddr P T.d (.pointer (some q)) 4) fun a3 w=>
      Q1 g true w (Q2 P T.e a3) fun am w=>
      Q1 g true w (fieldAddr P T.d (.pointer (some q)) 1) fun aj w=>
      Q1 g true w (Q2 P T.c aj) fun aw w=>
      Q1 g true w (X5 P .len [T.c] T.e [false] [aw]) fun a0 w=>
      Q1 g true w (Q3 P .gtr T.e (.tmp 114) (.tmp 117) am a0) fun ba w=>
      pick P g ba (.bool false) w fun y w=>
      Q1 y true w (fieldAddr P T.d (.pointer (some q)) 5) fun a7 w=>
      Q1 y true w (Q2 P T.n a7) fun ap w=>
      Q1 y true w (Q0 P F.bc [ap]) fun ak w=>
      Q1 y true w (Q3 P .eql T.s (.tmp 123) (.const (.int .i64 0)) ak (.int .i64 0)) fun a2 w=>
      pick P y a2 (.bool false) w fun bc w=>
      K bc w))):=by
 have ch:=ah.sat
 have c0:decide ((m.code.length:Int)=0)=decide (m.code=[]):=by cases m.code<;>simp;omega
 have c1:decide ((m.catches.length:Int)=0)=decide (m.catches=[]):=by cases m.catches<;>simp;omega
 have c2:decide ((0:Int)<m.code.length)=decide (m.code≠[]):=by cases m.code<;>simp
 refine E3 (a:=Value.bool p) m.params.length (fun n x w'=> ∃O,Stp w1 σ1 w' O∧x=Value.bool (p&&(m.params.take n).all right)) ⟨σ1,Stp.refl ch,by simp⟩ fun n x w2 d hn M=>?_
 obtain ⟨σ2,l,rfl⟩:=M
 have o:=hq.up l
 have W:=g1.up l
 have k:=l.sat
 (try simp only[↓M1,M1,Mb,reduceIte])
 refine ld k o rfl ?_
 refine X0 W ?_
 refine Z4 ?_
 refine Q6 (fun hc=>?_) (fun hc=>?_)
 ·have c:n<m.params.length:=by simpa using hc
  have A:(p&&(m.params.take (n+1)).all right)=((p&&(m.params.take n).all right)&&right m.params[n]):=by rw[Jx c,Bool.and_assoc]
  generalize (p&&(m.params.take n).all right)=f at A⊢
  cases f with
  | false=>(try simp only[↓M1,M1,Mb,reduceIte]);exact J1 g1.max c ⟨σ2,l,by rw[A];rfl⟩
  | true=>
   (try simp only[↓M1,M1,Mb,reduceIte])
   refine ld k o rfl ?_
   (try simp only[↓M1,M1,Mb,reduceIte])
   refine U7 W c ?_
   obtain ⟨p1,p2⟩:=W.elS c
   refine Y0 k p1 rfl ?_
   refine Vx _ (by simp only[Y9] at p2;omega) ?_
   (try simp only[↓M1,M1,Mb,reduceIte])
   exact J1 g1.max c ⟨σ2,l,by rw[A];rfl⟩
 ·have c: ¬n<m.params.length:=by simpa using hc
  rw[Q8j c]
  have a8:=ah.trans l
  have ag:=g2.up l
  have V:=g3.up l
  clear ah l hq g1 g2 g3 hn hc
  generalize (p&&m.params.all right)=f at h⊢
  refine ld k o rfl ?_
  cases av:m.abs with
  | true=>
   simp only[av,if_true] at h
   have hK:=h _ _ a8
   clear h
   (try simp only[↓M1,M1,Mb,reduceIte])
   cases f with
   | false=>(try simp only[↓M1,M1,Mb,reduceIte]);simpa using hK
   | true=>
    (try simp only[↓M1,M1,Mb,reduceIte])
    refine ld k o rfl ?_
    (try simp only[↓M1,M1,Mb,reduceIte])
    cases ay:decide (m.locals=0) with
    | false=>rw[ay] at hK;(try simp only[↓M1,M1,Mb,reduceIte]);simpa using hK
    | true=>
     rw[ay] at hK
     (try simp only[↓M1,M1,Mb,reduceIte])
     refine ld k o rfl ?_
     refine X0 ag ?_
     simp only[c0,↓M1,M1,Mb,reduceIte]
     cases bb:decide (m.code=[]) with
     | false=>rw[bb] at hK;(try simp only[↓M1,M1,Mb,reduceIte]);simpa using hK
     | true=>
      rw[bb] at hK
      (try simp only[↓M1,M1,Mb,reduceIte])
      refine ld k o rfl ?_
      refine X0 V ?_
      simp only[c1,↓M1,M1,Mb,reduceIte]
      simpa using hK
  | false=>
   simp only[av,Bool.false_eq_true,if_false] at h
   (try simp only[↓M1,M1,Mb,reduceIte])
   refine ld k o rfl ?_
   refine X0 ag ?_
   refine E3 (a:=Value.bool f) m.catches.length (fun n x w'=> ∃O,Stp w2 σ2 w' O∧x=Value.bool (f&&(m.catches.take n).all (B8 m.code.length))) ⟨σ2,Stp.refl k,by simp⟩ fun n x w4 d hn M=>?_
   obtain ⟨σ4,t,rfl⟩:=M
   have E:=o.up t
   have Z:=V.up t
   have s:=t.sat
   (try simp only[↓M1,M1,Mb,reduceIte])
   refine ld s E rfl ?_
   refine X0 Z ?_
   refine Z4 ?_
   refine Q6 (fun hc=>?_) (fun hc=>?_)
   ·have c:n<m.catches.length:=by simpa using hc
    have A:(f&&(m.catches.take (n+1)).all (B8 m.code.length))=((f&&(m.catches.take n).all (B8 m.code.length))&&B8 m.code.length m.catches[n]):=by rw[Jx c,Bool.and_assoc]
    generalize (f&&(m.catches.take n).all (B8 m.code.length))=cm at A⊢
    (try simp only[↓M1,M1,Mb,reduceIte])
    refine ld s E rfl ?_
    refine U7 Z c ?_
    obtain ⟨p1,r1⟩:=Z.elK c
    have a5:m.catches[n].cls.length≤140737488355328:=by have:=r1.2.2.2.2;simp only[Y9] at this;omega
    refine Z2 s p1 rfl ?_
    refine Y5 s (by rfl) rfl (Rep.one r1) fun q5 w5 σ5 an r=>?_
    have B:=an.sat
    have ac:=t.trans an
    cases cm with
    | false=>(try simp only[↓M1,M1,Mb,reduceIte]);exact J1 V.max c ⟨σ5,ac,by rw[A];rfl⟩
    | true=>
     have z: ∀b,B8 m.code.length m.catches[n]=b→Bh m.catches.length (fun n x w'=> ∃O,Stp w2 σ2 w' O∧x=Value.bool (f&&(m.catches.take n).all (B8 m.code.length))) (Value.bool b, .int .i64 (IntKind.i64.wrap (n+1))) w5∧Mz m.catches.length (Value.bool b, .int .i64 (IntKind.i64.wrap (n+1)))<Mz m.catches.length (Value.bool true,I n):=fun b e=>J1 V.max c ⟨σ5,ac,by rw[A,e];rfl⟩
     unfold B8 at z
     generalize m.catches[n]=x at r z a5
     clear A p1 r1 E o Z h
     (try simp only[↓M1,M1,Mb,reduceIte])
     refine ld B r rfl ?_
     (try simp only[↓M1,M1,Mb,reduceIte])
     cases d1:decide (0≤x.frm) with
     | false=>(try simp only[↓M1,M1,Mb,reduceIte]);exact z _ (by simp[d1])
     | true=>
     (try simp only[↓M1,M1,Mb,reduceIte])
     refine ld B r rfl ?_
     (try simp only[↓M1,M1,Mb,reduceIte])
     refine ld B r rfl ?_
     (try simp only[↓M1,M1,Mb,reduceIte])
     cases d2:decide (x.frm<x.to) with
     | false=>(try simp only[↓M1,M1,Mb,reduceIte]);exact z _ (by simp[d1,d2])
     | true=>
     (try simp only[↓M1,M1,Mb,reduceIte])
     refine ld B r rfl ?_
     (try simp only[↓M1,M1,Mb,reduceIte])
     cases d3:decide (x.to≤(m.code.length:Int)) with
     | false=>(try simp only[↓M1,M1,Mb,reduceIte]);exact z _ (by simp[d1,d2,d3])
     | true=>
     (try simp only[↓M1,M1,Mb,reduceIte])
     refine ld B r rfl ?_
     (try simp only[↓M1,M1,Mb,reduceIte])
     cases d4:decide (0≤x.at_) with
     | false=>(try simp only[↓M1,M1,Mb,reduceIte]);exact z _ (by simp[d1,d2,d3,d4])
     | true=>
     (try simp only[↓M1,M1,Mb,reduceIte])
     refine ld B r rfl ?_
     (try simp only[↓M1,M1,Mb,reduceIte])
     cases d5:decide (x.at_<(m.code.length:Int)) with
     | false=>(try simp only[↓M1,M1,Mb,reduceIte]);exact z _ (by simp[d1,d2,d3,d4,d5])
     | true=>
     (try simp only[↓M1,M1,Mb,reduceIte])
     refine ld B r rfl ?_
     refine Xo x.cls a5 ?_
     (try simp only[↓M1,M1,Mb,reduceIte])
     exact z _ (by simp[d1,d2,d3,d4,d5])
   ·have c: ¬n<m.catches.length:=by simpa using hc
    rw[Q8j c]
    have X:=a8.trans t
    have bs:=ag.up t
    have b0:=W.up t
    have hh: ∀w' O,Stp w σ w' O→K (.bool ((f&&m.catches.all (B8 m.code.length))&&(decide (m.code≠[])&&decide ((m.params.length:Int)<m.locals)&&m.code.all (fun i=>decide (O6 i=0))))) w':=by
     intro w' O hk
     have:=h w' O hk
     refine Eq.subst (motive:=fun b=>K (.bool b) w') ?_ this
     cases f<;>cases m.catches.all (B8 m.code.length)<;>simp
    clear h t
    generalize (f&&m.catches.all (B8 m.code.length))=c8 at hh⊢
    cases c8 with
    | false=>(try simp only[↓M1,M1,Mb,reduceIte]);simpa using hh _ _ X
    | true=>
     (try simp only[↓M1,M1,Mb,reduceIte])
     simp only[c2,↓M1,M1,Mb,reduceIte]
     cases ax:decide (m.code≠[]) with
     | false=>rw[ax] at hh;(try simp only[↓M1,M1,Mb,reduceIte]);simpa using hh _ _ X
     | true=>
      rw[ax] at hh
      (try simp only[↓M1,M1,Mb,reduceIte])
      refine ld s E rfl ?_
      (try simp only[↓M1,M1,Mb,reduceIte])
      refine ld s E rfl ?_
      refine X0 b0 ?_
      (try simp only[↓M1,M1,Mb,reduceIte])
      cases ar:decide ((m.params.length:Int)<m.locals) with
      | false=>rw[ar] at hh;(try simp only[↓M1,M1,Mb,reduceIte]);simpa using hh _ _ X
      | true=>
       rw[ar] at hh
       (try simp only[↓M1,M1,Mb,reduceIte])
       refine ld s E rfl ?_
       refine X2A s bs fun e w6 σ6 db he=>?_
       simp only[he,↓M1,M1,Mb,reduceIte]
       simpa using hh _ _ (X.trans db)
set_option maxHeartbeats 2000000 in
theorem Q8P {m:Hm.Met} {cs:List Value} (n:X4 w σ) (A:L9 σ m cs) (h: ∀w' B,Stp w σ w' B→K (.bool (F7 m)) w'):Q0 P F.a2 [.agg cs.toArray] w K:=Fq (by
 unfold Wi
 obtain ⟨pv,L,J,rfl,E,D,C,y,z,H⟩:=A
 have r:m.name.length≤140737488355328:=by simp only[Y9] at y;omega
 have s:m.result.length≤140737488355328:=by simp only[Y9] at z;omega
 refine Z1 n fun q w1 σ1 a g=>?_
 have p:=E.up a
 have t:=D.up a
 have o:=C.up a
 have e:=a.sat
 obtain ⟨d,c⟩: ∃b,b=(M5 m.name&&(decide (m.result=[])||right m.result)):=⟨_,rfl⟩
 have j:F7 m=((d&&m.params.all right)&&if m.abs then decide (m.locals=0)&&decide (m.code=[])&&decide (m.catches=[])
  else decide (m.code≠[])&&decide ((m.params.length:Int)<m.locals)&&m.code.all (fun i=>decide (O6 i=0))&&m.catches.all (B8 m.code.length)):=by
  rw[c];unfold F7
  cases M5 m.name<;>cases m.params.all right<;>cases decide (m.result=[])<;>cases right m.result<;>rfl
 rw[j] at h
 clear j
 (repeat refine Hd.h ?_)
 refine ld e g rfl ?_
 refine Pb m.name r ?_
 cases f:M5 m.name with
 | false=>
  have k:d=false:=by rw[c,f];rfl
  (repeat refine Hd.h ?_)
  refine Eq.subst (motive:=fun b=>lp (α:=Value×Value) (Value.bool b, .int .i64 0) w1 _) k ?_
  exact Q06 n a g p t o h
 | true=>
  (repeat refine Hd.h ?_)
  refine ld e g rfl ?_
  (repeat refine Hd.h ?_)
  refine Dg ?_
  cases l:decide (m.result=[]) with
  | true=>
   have k:d=true:=by rw[c,f,l];rfl
   (repeat refine Hd.h ?_)
   refine Eq.subst (motive:=fun b=>lp (α:=Value×Value) (Value.bool b, .int .i64 0) w1 _) k ?_
   exact Q06 n a g p t o h
  | false=>
   (repeat refine Hd.h ?_)
   refine ld e g rfl ?_
   (repeat refine Hd.h ?_)
   refine Vx m.result s ?_
   have k:d=right m.result:=by rw[c,f,l];rfl
   (repeat refine Hd.h ?_)
   refine Eq.subst (motive:=fun b=>lp (α:=Value×Value) (Value.bool b, .int .i64 0) w1 _) k ?_
   exact Q06 n a g p t o h)
end Go.Proofs.YtfppjenblllfaaaGreatDoor

namespace Go.Hm
open Go.Kd
def Lq (c:Cla) (i:Nat):Bool:=W7 (c.like.getD i [])&& !decide (c.like.getD i []=c.name)
def P5 (c:Cla) (i k:Nat):Bool:= !decide (c.like.getD k []=c.like.getD i [])
def Cr (c:Cla) (i:Nat):Fld:=c.fields.getD i Fld.zero
def Ha (c:Cla) (i:Nat):Hm.Met:=c.methods.getD i Hm.Met.zero
def Db (c:Cla) (i:Nat):Bool:=M5 (Cr c i).name&&right (Cr c i).kind&& !c.iface
def Xb (c:Cla) (i k:Nat):Bool:= !decide ((Cr c k).name=(Cr c i).name)
def Q93 (c:Cla):Bool:=(!c.iface||(c.abs&&decide (c.super=J4)))&& !(c.abs&&c.fin)
def Xf (c:Cla) (i k:Nat):Bool:= !decide ((Ha c k).name=(Ha c i).name)
theorem Wb {p:Nat→Bool} {n:Nat}:(List.range (n+1)).all p=((List.range n).all p&&p n):=by rw[List.range_succ,List.all_append];simp
theorem H4 {α:Type} {xs:List α} {i:Nat} {d:α} (h:i<xs.length):xs.getD i d=xs[i]:=by rw[List.getD_eq_getElem?_getD,List.getElem?_eq_getElem h];rfl
end Go.Hm
namespace Go.Proofs.YtfppjenblllfaaaGreatDoor
open Go.Emb Go.RowKit Go.Kd Go.Hm
variable {w : World} {K : Value → World → Prop} {σ : Q4}
def Wx (c:Cla) (i:Nat):Bool:=F7 (Ha c i)&&(!(Ha c i).abs||c.abs)&&(!c.iface||(Ha c i).abs)
set_option maxHeartbeats 2000000 in
theorem Q3y {c:Cla} {lv fv mv:Value} {w1:World} {σ1:Q4} {q:Addr} {ok:Bool} (Y:X4 w1 σ1) (hq:Z0 σ1 q [S c.name,S c.super,lv, .bool c.iface, .bool c.abs, .bool c.fin,fv,mv]) {i:Nat} {N m0:Nat} {W:Nat→Value→World→Prop} (g1:Sl 1 X9 σ1 lv c.like) (hi:i<c.like.length)
 (h: ∀w' σ',Stp w1 σ1 w' σ'→Bh N W (Value.bool (ok&&(List.range i).all (P5 c i)), .int .i64 (IntKind.i64.wrap (i+1))) w'∧Mz N (Value.bool (ok&&(List.range i).all (P5 c i)), .int .i64 (IntKind.i64.wrap (i+1)))<m0):
 lp (
  α:=Value×Value) (Value.bool ok,(.int .i64 0)) w1 fun g b d_ w=>
  Q3 P .lss T.e (.tmp 52) (.tmp 53) b.2 (I i) w fun ai w=>
  X1 ai (
   dr w fun e f=>
   Q5 e (fun A=> ∀w:World,f w→Q1 b.1 true w (fieldAddr P T.b (.pointer (some q)) 2) (dk e A w)) fun A=>
   Q5 e (fun v=> ∀w:World,f w→Q1 b.1 true w (fun w J=>J b.2 w) (dk e v w)) fun v=>
   Q5 e (fun t=> ∀w:World,f w→Q1 b.1 true w (fieldAddr P T.b (.pointer (some q)) 2) (dk e t w)) fun t=>
   Q5 e (fun u=> ∀w:World,f w→Q1 b.1 true w (fun w J=>J (I i) w) (dk e u w)) fun u=>
   Q5 e (fun D=> ∀n:Value,∀w:World,f w→A n w→Q1 b.1 true w (Q2 P T.c n) (dk e D w)) fun D=>
   Q5 e (fun y=> ∀z:Value,∀m:Value,∀w:World,f w→D z w→v m w→Q1 b.1 true w (indexAddr P T.c z m) (dk e y w)) fun y=>
   Q5 e (fun L=> ∀s:Value,∀w:World,f w→y s w→Q1 b.1 true w (Q2 P T.a s) (dk e L w)) fun L=>
   Q5 e (fun p=> ∀B:Value,∀w:World,f w→t B w→Q1 b.1 true w (Q2 P T.c B) (dk e p w)) fun p=>
   Q5 e (fun C=> ∀o:Value,∀l:Value,∀w:World,f w→p o w→u l w→Q1 b.1 true w (indexAddr P T.c o l) (dk e C w)) fun C=>
   Q5 e (fun E=> ∀r:Value,∀w:World,f w→C r w→Q1 b.1 true w (Q2 P T.a r) (dk e E w)) fun E=>
   ∀n:Value,∀m:Value,∀B:Value,∀l:Value,∀z:Value,∀s:Value,∀O:Value,∀o:Value,∀r:Value,∀M:Value,∀w:World,f w→A n w→v m w→t B w→u l w→D z w→y s w→L O w→p o w→C r w→E M w→
   Q1 b.1 true w (Q3 P .neq T.a (.tmp 63) (.tmp 68) O M) fun ae w=>
   pick P b.1 ae (.bool false) w fun ac w=>
   Q3 P .add T.e (.tmp 55) (.const (.int .i64 1)) b.2 (.int .i64 1) w fun ab w=>
   g (ac,ab) w) (
   Q3 P .add T.e (.tmp 31) (.const (.int .i64 1)) (I i) (.int .i64 1) w fun V w=>
   (Bh N W (b.1,V) w∧Mz N (b.1,V)<m0)):=by
 have an:=g1.max
 refine E3 (a:=Value.bool ok) i (fun k x w'=> ∃σ',Stp w1 σ1 w' σ'∧x=Value.bool (ok&&(List.range k).all (P5 c i))) ⟨σ1,Stp.refl Y,by simp⟩ fun k x w2 d hk R=>?_
 obtain ⟨σ2,j,rfl⟩:=R
 have aq:=hq.up j
 have U:=g1.up j
 have Z:=j.sat
 refine Z4 ?_
 refine Q6 (fun X=>?_) (fun X=>?_)
 ·have ad:k<i:=by simpa using X
  have Q:k<c.like.length:=by omega
  have H:(ok&&(List.range (k+1)).all (P5 c i))=((ok&&(List.range k).all (P5 c i))&&P5 c i k):=by rw[Wb,Bool.and_assoc]
  have hQ:P5 c i k= !decide (c.like[k]=c.like[i]):=by unfold P5;rw[H4 Q,H4 hi]
  rw[hQ] at H
  obtain ⟨p1,_⟩:=U.elS Q
  obtain ⟨p2,_⟩:=U.elS hi
  generalize (ok&&(List.range k).all (P5 c i))=af at H⊢
  clear h hQ X
  cases af
  all_goals
   refine U8 Z ?_
   (repeat refine Z8 Xq ?_)
   (intros;(repeat (rename_i hx;subst hx));(try simp only[↓M2,M2,Mb,reduceIte]))
   rename_i w3 ag
   exact J1 (by omega) ad ⟨σ2,j.trans ag.stp,by rw[H];rfl⟩
 ·have aa:k=i:=by
   have: ¬k<i:=by simpa using X
   omega
  subst aa
  (try simp only[↓M1,M1,Mb,reduceIte])
  exact h _ _ j
set_option maxHeartbeats 4000000 in
theorem X0S {c:Cla} {lv fv mv:Value} {w1:World} {σ1:Q4} {q:Addr} {ok:Bool} (hs1:X4 w1 σ1) (hq:Z0 σ1 q [S c.name,S c.super,lv, .bool c.iface, .bool c.abs, .bool c.fin,fv,mv]) {J:Value→World→Prop} (hn:c.name.length≤Y9) (g1:Sl 1 X9 σ1 lv c.like)
 (h: ∀w' σ',Stp w1 σ1 w' σ'→J (.bool (ok&&(List.range c.like.length).all fun i=>Lq c i&&(List.range i).all (P5 c i))) w'):
 lp (α:=Value×Value) (Value.bool ok,(.int .i64 0)) w1 fun again4 x4 d_ w=>
 fieldAddr P T.b (.pointer (some q)) 2 w fun t27 w=>
 Q2 P T.c t27 w fun t28 w=>
 X5 P .len [T.c] T.e [false] [t28] w fun t29 w=>
 Q3 P .lss T.e (.tmp 26) (.tmp 29) x4.2 t29 w fun t30 w=>
 X1 t30 (
  dr w fun Tr Br=>
  Q5 Tr (fun φ35=> ∀w:World,Br w→Q1 x4.1 true w (fieldAddr P T.b (.pointer (some q)) 2) (dk Tr φ35 w)) fun φ35=>
  Q5 Tr (fun φ37=> ∀w:World,Br w→Q1 x4.1 true w (fun w J=>J x4.2 w) (dk Tr φ37 w)) fun φ37=>
  Q5 Tr (fun φ36=> ∀t35:Value,∀w:World,Br w→φ35 t35 w→Q1 x4.1 true w (Q2 P T.c t35) (dk Tr φ36 w)) fun φ36=>
  Q5 Tr (fun φ38=> ∀t36:Value,∀t37:Value,∀w:World,Br w→φ36 t36 w→φ37 t37 w→Q1 x4.1 true w (indexAddr P T.c t36 t37) (dk Tr φ38 w)) fun φ38=>
  Q5 Tr (fun φ39=> ∀t38:Value,∀w:World,Br w→φ38 t38 w→Q1 x4.1 true w (Q2 P T.a t38) (dk Tr φ39 w)) fun φ39=>
  Q5 Tr (fun φ40=> ∀t39:Value,∀w:World,Br w→φ39 t39 w→Q1 x4.1 true w (Q0 P F.f [t39]) (dk Tr φ40 w)) fun φ40=>
  Q5 Tr (fun φ41=> ∀t40:Value,∀w:World,Br w→φ40 t40 w→pick P x4.1 t40 (.bool false) w (dk Tr φ41 w)) fun φ41=>
  Q5 Tr (fun φ43=> ∀t41:Value,∀w:World,Br w→φ41 t41 w→Q1 t41 true w (fieldAddr P T.b (.pointer (some q)) 2) (dk Tr φ43 w)) fun φ43=>
  Q5 Tr (fun φ45=> ∀t41:Value,∀w:World,Br w→φ41 t41 w→Q1 t41 true w (fun w J=>J x4.2 w) (dk Tr φ45 w)) fun φ45=>
  Q5 Tr (fun φ48=> ∀t41:Value,∀w:World,Br w→φ41 t41 w→Q1 t41 true w (fieldAddr P T.b (.pointer (some q)) 0) (dk Tr φ48 w)) fun φ48=>
  Q5 Tr (fun φ44=> ∀t41:Value,∀t43:Value,∀w:World,Br w→φ41 t41 w→φ43 t43 w→Q1 t41 true w (Q2 P T.c t43) (dk Tr φ44 w)) fun φ44=>
  Q5 Tr (fun φ46=> ∀t41:Value,∀t44:Value,∀t45:Value,∀w:World,Br w→φ41 t41 w→φ44 t44 w→φ45 t45 w→Q1 t41 true w (indexAddr P T.c t44 t45) (dk Tr φ46 w)) fun φ46=>
  Q5 Tr (fun φ47=> ∀t41:Value,∀t46:Value,∀w:World,Br w→φ41 t41 w→φ46 t46 w→Q1 t41 true w (Q2 P T.a t46) (dk Tr φ47 w)) fun φ47=>
  Q5 Tr (fun φ49=> ∀t41:Value,∀t48:Value,∀w:World,Br w→φ41 t41 w→φ48 t48 w→Q1 t41 true w (Q2 P T.a t48) (dk Tr φ49 w)) fun φ49=>
  ∀t35:Value,∀t37:Value,∀t36:Value,∀t38:Value,∀t39:Value,∀t40:Value,∀t41:Value,∀t43:Value,∀t45:Value,∀t48:Value,∀t44:Value,∀t46:Value,∀t47:Value,∀t49:Value,∀w:World,Br w→φ35 t35 w→φ37 t37 w→φ36 t36 w→φ38 t38 w→φ39 t39 w→φ40 t40 w→φ41 t41 w→φ43 t43 w→φ45 t45 w→φ48 t48 w→φ44 t44 w→φ46 t46 w→φ47 t47 w→φ49 t49 w→
  Q1 t41 true w (Q3 P .neq T.a (.tmp 47) (.tmp 49) t47 t49) fun t50 w=>
  pick P t41 t50 (.bool false) w fun t51 w=>
  lp (α:=Value×Value) (t51,(.int .i64 0)) w fun again10 x10 d_ w=>
   Q3 P .lss T.e (.tmp 52) (.tmp 53) x10.2 x4.2 w fun t54 w=>
   X1 t54 (
    dr w fun Tr Br=>
    Q5 Tr (fun φ59=> ∀w:World,Br w→Q1 x10.1 true w (fieldAddr P T.b (.pointer (some q)) 2) (dk Tr φ59 w)) fun φ59=>
    Q5 Tr (fun φ61=> ∀w:World,Br w→Q1 x10.1 true w (fun w J=>J x10.2 w) (dk Tr φ61 w)) fun φ61=>
    Q5 Tr (fun φ64=> ∀w:World,Br w→Q1 x10.1 true w (fieldAddr P T.b (.pointer (some q)) 2) (dk Tr φ64 w)) fun φ64=>
    Q5 Tr (fun φ66=> ∀w:World,Br w→Q1 x10.1 true w (fun w J=>J x4.2 w) (dk Tr φ66 w)) fun φ66=>
    Q5 Tr (fun φ60=> ∀t59:Value,∀w:World,Br w→φ59 t59 w→Q1 x10.1 true w (Q2 P T.c t59) (dk Tr φ60 w)) fun φ60=>
    Q5 Tr (fun φ62=> ∀t60:Value,∀t61:Value,∀w:World,Br w→φ60 t60 w→φ61 t61 w→Q1 x10.1 true w (indexAddr P T.c t60 t61) (dk Tr φ62 w)) fun φ62=>
    Q5 Tr (fun φ63=> ∀t62:Value,∀w:World,Br w→φ62 t62 w→Q1 x10.1 true w (Q2 P T.a t62) (dk Tr φ63 w)) fun φ63=>
    Q5 Tr (fun φ65=> ∀t64:Value,∀w:World,Br w→φ64 t64 w→Q1 x10.1 true w (Q2 P T.c t64) (dk Tr φ65 w)) fun φ65=>
    Q5 Tr (fun φ67=> ∀t65:Value,∀t66:Value,∀w:World,Br w→φ65 t65 w→φ66 t66 w→Q1 x10.1 true w (indexAddr P T.c t65 t66) (dk Tr φ67 w)) fun φ67=>
    Q5 Tr (fun φ68=> ∀t67:Value,∀w:World,Br w→φ67 t67 w→Q1 x10.1 true w (Q2 P T.a t67) (dk Tr φ68 w)) fun φ68=>
    ∀t59:Value,∀t61:Value,∀t64:Value,∀t66:Value,∀t60:Value,∀t62:Value,∀t63:Value,∀t65:Value,∀t67:Value,∀t68:Value,∀w:World,Br w→φ59 t59 w→φ61 t61 w→φ64 t64 w→φ66 t66 w→φ60 t60 w→φ62 t62 w→φ63 t63 w→φ65 t65 w→φ67 t67 w→φ68 t68 w→
    Q1 x10.1 true w (Q3 P .neq T.a (.tmp 63) (.tmp 68) t63 t68) fun t69 w=>
    pick P x10.1 t69 (.bool false) w fun t70 w=>
    Q3 P .add T.e (.tmp 55) (.const (.int .i64 1)) x10.2 (.int .i64 1) w fun t56 w=>
    again10 (t70,t56) w) (
    Q3 P .add T.e (.tmp 31) (.const (.int .i64 1)) x4.2 (.int .i64 1) w fun t32 w=>
    again4 (x10.1,t32) w)) (
  J x4.1 w):=by
 have hmax:=g1.max
 refine E3 (a:=Value.bool ok) c.like.length (fun n x w'=> ∃σ',Stp w1 σ1 w' σ'∧x=Value.bool (ok&&(List.range n).all fun i=>Lq c i&&(List.range i).all (P5 c i))) ⟨σ1,Stp.refl hs1,by simp⟩ fun n x w2 d hn2 hinv=>?_
 obtain ⟨σ2,hk2,rfl⟩:=hinv
 have hq2:=hq.up hk2
 have g12:=g1.up hk2
 have hs2:=hk2.sat
 (repeat refine Hd.h ?_)
 refine ld hs2 hq2 rfl ?_
 refine X0 g12 ?_
 refine Z4 ?_
 refine Q6 (fun hc=>?_) (fun hc=>?_)
 ·have hn':n<c.like.length:=by simpa using hc
  have hnx:(ok&&(List.range (n+1)).all fun i=>Lq c i&&(List.range i).all (P5 c i))=((ok&&(List.range n).all fun i=>Lq c i&&(List.range i).all (P5 c i))&&(Lq c n&&(List.range n).all (P5 c n))):=by rw[Wb,Bool.and_assoc]
  have hP:Lq c n=(W7 c.like[n]&& !decide (c.like[n]=c.name)):=by unfold Lq;rw[H4 hn']
  obtain ⟨p1,p2⟩:=g12.elS hn'
  have p2:c.like[n].length≤140737488355328:=by simp only[Y9] at p2;omega
  generalize (ok&&(List.range n).all fun i=>Lq c i&&(List.range i).all (P5 c i))=acc at hnx⊢
  clear h hc
  cases hacc:acc with
  | false=>
   refine U8 hs2 ?_
   (repeat refine Z8 Xq ?_)
   intros;(repeat (rename_i hx;subst hx))
   rename_i w3 hb3
   (repeat refine Hd.h ?_)
   refine Q3y hb3.sat hq2 g12 hn' fun w4 σ4 hk4=>?_
   exact J1 hmax hn' ⟨σ4,hk2.trans (hb3.stp.trans hk4),by rw[hnx,hacc];rfl⟩
  | true=>
   cases hcl:W7 c.like[n] with
   | false=>
    refine U8 hs2 ?_
    have hrc: ∀{w':World} {K:Value→World→Prop},K (.bool false) w'→Q0 P F.f [S c.like[n]] w' K:=fun hK=>Xo _ p2 (by rw[hcl];exact hK)
    (repeat (apply Z8;(· intros;(repeat (rename_i hx;subst hx));(repeat' (first | (with_reducible exact Y1 rfl) | (with_reducible exact Jy (Stp.bel (by (repeat (first | exact Stp.refl (by (first | assumption | exact Stp.sat (by assumption) | exact Hst.sat (by assumption))) | assumption | refine Stp.trans ?_ (by first | assumption | exact Hst.stp (by assumption)))))) rfl) | (with_reducible intro _) | (simp only[↓M2,M2,Mb,reduceIte]) | (with_reducible refine hrc ?_) | (with_reducible show Q2 _ _ _ _ _;first | refine Y0 aS aL aR ?_ | refine Z2 aS aL aR ?_ | refine ld aS aL aR ?_) | (with_reducible show indexAddr _ _ _ _ _ _;refine U7 aL au ?_) | (with_reducible show X5 _ _ _ _ _ _ _ _;refine X0 aL ?_) | (with_reducible show We _ _ _ _ _ _;refine V6 aR ?_) | (with_reducible show pick _ _ _ _ _ _;refine Uu ?_) | (apply Ln;intro hh;(try simp only[hh,reduceIte,↓M2,M2,Mb,reduceIte]))));done)))
    intros;(repeat (rename_i hx;subst hx))
    rename_i w3 hb3
    (repeat refine Hd.h ?_)
    refine Q3y hb3.sat hq2 g12 hn' fun w4 σ4 hk4=>?_
    exact J1 hmax hn' ⟨σ4,hk2.trans (hb3.stp.trans hk4),by rw[hnx,hacc,hP,hcl];rfl⟩
   | true=>
    refine U8 hs2 ?_
    have hrc: ∀{w':World} {K:Value→World→Prop},K (.bool true) w'→Q0 P F.f [S c.like[n]] w' K:=fun hK=>Xo _ p2 (by rw[hcl];exact hK)
    (repeat (apply Z8;(· intros;(repeat (rename_i hx;subst hx));(repeat' (first | (with_reducible exact Y1 rfl) | (with_reducible exact Jy (Stp.bel (by (repeat (first | exact Stp.refl (by (first | assumption | exact Stp.sat (by assumption) | exact Hst.sat (by assumption))) | assumption | refine Stp.trans ?_ (by first | assumption | exact Hst.stp (by assumption)))))) rfl) | (with_reducible intro _) | (simp only[↓M2,M2,Mb,reduceIte]) | (with_reducible refine hrc ?_) | (with_reducible show Q2 _ _ _ _ _;first | refine Y0 aS aL aR ?_ | refine Z2 aS aL aR ?_ | refine ld aS aL aR ?_) | (with_reducible show indexAddr _ _ _ _ _ _;refine U7 aL au ?_) | (with_reducible show X5 _ _ _ _ _ _ _ _;refine X0 aL ?_) | (with_reducible show We _ _ _ _ _ _;refine V6 aR ?_) | (with_reducible show pick _ _ _ _ _ _;refine Uu ?_) | (apply Ln;intro hh;(try simp only[hh,reduceIte,↓M2,M2,Mb,reduceIte]))));done)))
    intros;(repeat (rename_i hx;subst hx))
    rename_i w3 hb3
    (repeat refine Hd.h ?_)
    refine I4 ?_
    (repeat refine Hd.h ?_)
    refine Q3y hb3.sat hq2 g12 hn' fun w4 σ4 hk4=>?_
    exact J1 hmax hn' ⟨σ4,hk2.trans (hb3.stp.trans hk4),by rw[hnx,hacc,hP,hcl];simp⟩
 ·have hn': ¬n<c.like.length:=by simpa using hc
  obtain rfl:n=c.like.length:=by omega
  exact h _ _ hk2
set_option maxHeartbeats 2000000 in
theorem Q2L {c:Cla} {lv fv mv:Value} {w1:World} {σ1:Q4} {q:Addr} {ok:Bool} (ag:X4 w1 σ1) (hq:Z0 σ1 q [S c.name,S c.super,lv, .bool c.iface, .bool c.abs, .bool c.fin,fv,mv]) {i:Nat} {N m0:Nat} {ae:Nat→Value→World→Prop} (g2:Sl 3 E5 σ1 fv c.fields) (hi:i<c.fields.length)
 (h: ∀w' σ',Stp w1 σ1 w' σ'→Bh N ae (Value.bool (ok&&(List.range i).all (Xb c i)), .int .i64 (IntKind.i64.wrap (i+1))) w'∧Mz N (Value.bool (ok&&(List.range i).all (Xb c i)), .int .i64 (IntKind.i64.wrap (i+1)))<m0):
 lp (α:=Value×Value) (Value.bool ok,(.int .i64 0)) w1 fun L b d_ w=>
  Q3 P .lss T.e (.tmp 102) (.tmp 103) b.2 (I i) w fun ad w=>
  X1 ad (
   dr w fun e H=>
   Q5 e (fun z=> ∀w:World,H w→Q1 b.1 true w (fieldAddr P T.b (.pointer (some q)) 6) (dk e z w)) fun z=>
   Q5 e (fun y=> ∀w:World,H w→Q1 b.1 true w (fun w J=>J b.2 w) (dk e y w)) fun y=>
   Q5 e (fun E=> ∀w:World,H w→Q1 b.1 true w (fieldAddr P T.b (.pointer (some q)) 6) (dk e E w)) fun E=>
   Q5 e (fun j=> ∀w:World,H w→Q1 b.1 true w (fun w J=>J (I i) w) (dk e j w)) fun j=>
   Q5 e (fun p=> ∀r:Value,∀w:World,H w→z r w→Q1 b.1 true w (Q2 P T.i r) (dk e p w)) fun p=>
   Q5 e (fun C=> ∀u:Value,∀s:Value,∀w:World,H w→p u w→y s w→Q1 b.1 true w (indexAddr P T.i u s) (dk e C w)) fun C=>
   Q5 e (fun n=> ∀A:Value,∀w:World,H w→C A w→Q1 b.1 true w (fieldAddr P T.l A 0) (dk e n w)) fun n=>
   Q5 e (fun O=> ∀t:Value,∀w:World,H w→n t w→Q1 b.1 true w (Q2 P T.a t) (dk e O w)) fun O=>
   Q5 e (fun l=> ∀f:Value,∀w:World,H w→E f w→Q1 b.1 true w (Q2 P T.i f) (dk e l w)) fun l=>
   Q5 e (fun g=> ∀B:Value,∀m:Value,∀w:World,H w→l B w→j m w→Q1 b.1 true w (indexAddr P T.i B m) (dk e g w)) fun g=>
   Q5 e (fun o=> ∀v:Value,∀w:World,H w→g v w→Q1 b.1 true w (fieldAddr P T.l v 0) (dk e o w)) fun o=>
   Q5 e (fun M=> ∀D:Value,∀w:World,H w→o D w→Q1 b.1 true w (Q2 P T.a D) (dk e M w)) fun M=>
   ∀r:Value,∀s:Value,∀f:Value,∀m:Value,∀u:Value,∀A:Value,∀t:Value,∀U:Value,∀B:Value,∀v:Value,∀D:Value,∀R:Value,∀w:World,H w→z r w→y s w→E f w→j m w→p u w→C A w→n t w→O U w→l B w→g v w→o D w→M R w→
   Q1 b.1 true w (Q3 P .neq T.a (.tmp 114) (.tmp 120) U R) fun Z w=>
   pick P b.1 Z (.bool false) w fun aa w=>
   Q3 P .add T.e (.tmp 105) (.const (.int .i64 1)) b.2 (.int .i64 1) w fun Y w=>
   L (aa,Y) w) (
   Q3 P .add T.e (.tmp 76) (.const (.int .i64 1)) (I i) (.int .i64 1) w fun ab w=>
   (Bh N ae (b.1,ab) w∧Mz N (b.1,ab)<m0)):=by
 have ar:=g2.max
 refine E3 (a:=Value.bool ok) i (fun k x w'=> ∃σ',Stp w1 σ1 w' σ'∧x=Value.bool (ok&&(List.range k).all (Xb c i))) ⟨σ1,Stp.refl ag,by simp⟩ fun k x w2 d hk ac=>?_
 obtain ⟨σ2,Q,rfl⟩:=ac
 have ax:=hq.up Q
 have W:=g2.up Q
 have ah:=Q.sat
 refine Z4 ?_
 refine Q6 (fun hc=>?_) (fun hc=>?_)
 ·have aj:k<i:=by simpa using hc
  have X:k<c.fields.length:=by omega
  have V:(ok&&(List.range (k+1)).all (Xb c i))=((ok&&(List.range k).all (Xb c i))&&Xb c i k):=by rw[Wb,Bool.and_assoc]
  have hQ:Xb c i k= !decide (c.fields[k].name=c.fields[i].name):=by unfold Xb Cr;rw[H4 X,H4 hi]
  rw[hQ] at V
  obtain ⟨p1,_⟩:=W.elF X
  obtain ⟨p2,_⟩:=W.elF hi
  generalize (ok&&(List.range k).all (Xb c i))=ak at V⊢
  clear h hQ hc
  cases ak
  all_goals
   refine U8 ah ?_
   (repeat refine Z8 Xq ?_)
   (intros;(repeat (rename_i hx;subst hx));(try simp only[↓M2,M2,Mb,reduceIte]))
   rename_i w3 al
   exact J1 (by omega) aj ⟨σ2,Q.trans al.stp,by rw[V];rfl⟩
 ·have ai:k=i:=by
   have: ¬k<i:=by simpa using hc
   omega
  subst ai
  (try simp only[↓M1,M1,Mb,reduceIte])
  exact h _ _ Q
set_option maxHeartbeats 4000000 in
theorem X2Q {c:Cla} {lv fv mv:Value} {w1:World} {σ1:Q4} {q:Addr} {ok:Bool} (a1:X4 w1 σ1) (hq:Z0 σ1 q [S c.name,S c.super,lv, .bool c.iface, .bool c.abs, .bool c.fin,fv,mv]) {J:Value→World→Prop} (g2:Sl 3 E5 σ1 fv c.fields)
 (h: ∀w' σ',Stp w1 σ1 w' σ'→J (.bool (ok&&(List.range c.fields.length).all fun i=>Db c i&&(List.range i).all (Xb c i))) w'):
 lp (
  α:=Value×Value) (Value.bool ok,(.int .i64 0)) w1 fun ab g d_ w=>
  fieldAddr P T.b (.pointer (some q)) 6 w fun ar w=>
  Q2 P T.i ar w fun bb w=>
  X5 P .len [T.i] T.e [false] [bb] w fun bg w=>
  Q3 P .lss T.e (.tmp 71) (.tmp 74) g.2 bg w fun a3 w=>
  X1 a3 (
   Q1 g.1 true w (fieldAddr P T.b (.pointer (some q)) 6) fun bh w=>
   Q1 g.1 true w (Q2 P T.i bh) fun a9 w=>
   Q1 g.1 true w (fun w J=>J g.2 w) fun aw w=>
   Q1 g.1 true w (indexAddr P T.i a9 aw) fun ax w=>
   Q1 g.1 true w (fieldAddr P T.l ax 0) fun bi w=>
   Q1 g.1 true w (Q2 P T.a bi) fun a2 w=>
   Q1 g.1 true w (Q0 P F.w [a2]) fun av w=>
   pick P g.1 av (.bool false) w fun m w=>
   Q1 m true w (fieldAddr P T.b (.pointer (some q)) 6) fun a4 w=>
   Q1 m true w (Q2 P T.i a4) fun ba w=>
   Q1 m true w (fun w J=>J g.2 w) fun a0 w=>
   Q1 m true w (indexAddr P T.i ba a0) fun bc w=>
   Q1 m true w (fieldAddr P T.l bc 1) fun az w=>
   Q1 m true w (Q2 P T.a az) fun ay w=>
   Q1 m true w (Q0 P F.l [ay]) fun bj w=>
   pick P m bj (.bool false) w fun ae w=>
   Q1 ae true w (fieldAddr P T.b (.pointer (some q)) 3) fun bf w=>
   Q1 ae true w (Q2 P T.o bf) fun a5 w=>
   Q1 ae true w (J3 P .not a5) fun am w=>
   pick P ae am (.bool false) w fun ao w=>
   lp (α:=Value×Value) (ao,(.int .i64 0)) w fun Z f d_ w=>
    Q3 P .lss T.e (.tmp 102) (.tmp 103) f.2 g.2 w fun ap w=>
    X1 ap (
     dr w fun k Y=>
     Q5 k (fun O=> ∀w:World,Y w→Q1 f.1 true w (fieldAddr P T.b (.pointer (some q)) 6) (dk k O w)) fun O=>
     Q5 k (fun N=> ∀w:World,Y w→Q1 f.1 true w (fun w J=>J f.2 w) (dk k N w)) fun N=>
     Q5 k (fun X=> ∀w:World,Y w→Q1 f.1 true w (fieldAddr P T.b (.pointer (some q)) 6) (dk k X w)) fun X=>
     Q5 k (fun v=> ∀w:World,Y w→Q1 f.1 true w (fun w J=>J g.2 w) (dk k v w)) fun v=>
     Q5 k (fun C=> ∀D:Value,∀w:World,Y w→O D w→Q1 f.1 true w (Q2 P T.i D) (dk k C w)) fun C=>
     Q5 k (fun V=> ∀L:Value,∀E:Value,∀w:World,Y w→C L w→N E w→Q1 f.1 true w (indexAddr P T.i L E) (dk k V w)) fun V=>
     Q5 k (fun A=> ∀Q:Value,∀w:World,Y w→V Q w→Q1 f.1 true w (fieldAddr P T.l Q 0) (dk k A w)) fun A=>
     Q5 k (fun ac=> ∀H:Value,∀w:World,Y w→A H w→Q1 f.1 true w (Q2 P T.a H) (dk k ac w)) fun ac=>
     Q5 k (fun y=> ∀t:Value,∀w:World,Y w→X t w→Q1 f.1 true w (Q2 P T.i t) (dk k y w)) fun y=>
     Q5 k (fun u=> ∀U:Value,∀z:Value,∀w:World,Y w→y U w→v z w→Q1 f.1 true w (indexAddr P T.i U z) (dk k u w)) fun u=>
     Q5 k (fun B=> ∀M:Value,∀w:World,Y w→u M w→Q1 f.1 true w (fieldAddr P T.l M 0) (dk k B w)) fun B=>
     Q5 k (fun aa=> ∀W:Value,∀w:World,Y w→B W w→Q1 f.1 true w (Q2 P T.a W) (dk k aa w)) fun aa=>
     ∀D:Value,∀E:Value,∀t:Value,∀z:Value,∀L:Value,∀Q:Value,∀H:Value,∀ag:Value,∀U:Value,∀M:Value,∀W:Value,∀af:Value,∀w:World,Y w→O D w→N E w→X t w→v z w→C L w→V Q w→A H w→ac ag w→y U w→u M w→B W w→aa af w→
     Q1 f.1 true w (Q3 P .neq T.a (.tmp 114) (.tmp 120) ag af) fun ak w=>
     pick P f.1 ak (.bool false) w fun al w=>
     Q3 P .add T.e (.tmp 105) (.const (.int .i64 1)) f.2 (.int .i64 1) w fun aj w=>
     Z (al,aj) w) (
     Q3 P .add T.e (.tmp 76) (.const (.int .i64 1)) g.2 (.int .i64 1) w fun a8 w=>
     ab (f.1,a8) w)) (
   J g.1 w):=by
 have R:=g2.max
 refine E3 (a:=Value.bool ok) c.fields.length (fun n x w'=> ∃σ',Stp w1 σ1 w' σ'∧x=Value.bool (ok&&(List.range n).all fun i=>Db c i&&(List.range i).all (Xb c i))) ⟨σ1,Stp.refl a1,by simp⟩ fun n x w2 d bp an=>?_
 obtain ⟨σ2,r,rfl⟩:=an
 have p:=hq.up r
 have o:=g2.up r
 have l:=r.sat
 (repeat refine Hd.h ?_)
 refine ld l p rfl ?_
 refine X0 o ?_
 refine Z4 ?_
 refine Q6 (fun hc=>?_) (fun hc=>?_)
 ·have j:n<c.fields.length:=by simpa using hc
  have ad:(ok&&(List.range (n+1)).all fun i=>Db c i&&(List.range i).all (Xb c i))=((ok&&(List.range n).all fun i=>Db c i&&(List.range i).all (Xb c i))&&(Db c n&&(List.range n).all (Xb c n))):=by rw[Wb,Bool.and_assoc]
  have hP:Db c n=(M5 c.fields[n].name&&right c.fields[n].kind&& !c.iface):=by unfold Db Cr;rw[H4 j]
  obtain ⟨p1,r1⟩:=o.elF j
  have b1:c.fields[n].name.length≤140737488355328:=by have:=r1.2.1;simp only[Y9] at this;omega
  have b2:c.fields[n].kind.length≤140737488355328:=by have:=r1.2.2;simp only[Y9] at this;omega
  generalize (ok&&(List.range n).all fun i=>Db c i&&(List.range i).all (Xb c i))=ai at ad⊢
  clear h hc
  have step: ∀b,b=(ai&&Db c n)→(ai&&(Db c n&&(List.range n).all (Xb c n)))=(b&&(List.range n).all (Xb c n)):=fun b e=>by rw[e,Bool.and_assoc]
  cases ai with
  | false=>
   (repeat refine Hd.h ?_)
   refine Q2L l p o j fun w4 σ4 s=>?_
   exact J1 R j ⟨σ4,r.trans s,by rw[ad];rfl⟩
  | true=>
   (repeat refine Hd.h ?_)
   refine ld l p rfl ?_
   (repeat refine Hd.h ?_)
   refine U7 o j ?_
   (repeat refine Hd.h ?_)
   refine ld l p1 rfl ?_
   (repeat refine Hd.h ?_)
   refine Pb _ b1 ?_
   cases d1:M5 c.fields[n].name with
   | false=>
    (repeat refine Hd.h ?_)
    refine Q2L l p o j fun w4 σ4 s=>?_
    exact J1 R j ⟨σ4,r.trans s,by rw[ad,step false (by rw[hP,d1];rfl)]⟩
   | true=>
    (repeat refine Hd.h ?_)
    refine ld l p rfl ?_
    (repeat refine Hd.h ?_)
    refine U7 o j ?_
    (repeat refine Hd.h ?_)
    refine ld l p1 rfl ?_
    (repeat refine Hd.h ?_)
    refine Vx _ b2 ?_
    cases d2:right c.fields[n].kind with
    | false=>
     (repeat refine Hd.h ?_)
     refine Q2L l p o j fun w4 σ4 s=>?_
     exact J1 R j ⟨σ4,r.trans s,by rw[ad,step false (by rw[hP,d1,d2];rfl)]⟩
    | true=>
     (repeat refine Hd.h ?_)
     refine ld l p rfl ?_
     (repeat refine Hd.h ?_)
     refine Q2L l p o j fun w4 σ4 s=>?_
     exact J1 R j ⟨σ4,r.trans s,by rw[ad,step (!c.iface) (by rw[hP,d1,d2];rfl)]⟩
 ·have j: ¬n<c.fields.length:=by simpa using hc
  obtain rfl:n=c.fields.length:=by omega
  exact h _ _ r
set_option maxHeartbeats 2000000 in
theorem Hy {c:Cla} {lv fv mv:Value} {w1:World} {σ1:Q4} {q:Addr} {ok:Bool} (X:X4 w1 σ1) (hq:Z0 σ1 q [S c.name,S c.super,lv, .bool c.iface, .bool c.abs, .bool c.fin,fv,mv]) {i:Nat} {q9:Addr} {pv cv hv:Value} {N m0:Nat} {V:Nat→Value→World→Prop} (g3:Sl 7 L9 σ1 mv c.methods) (hi:i<c.methods.length) (aa:Z0 σ1 q9 [S c.methods[i].name,pv,S c.methods[i].result, .bool c.methods[i].abs,I c.methods[i].locals,cv,hv])
 (h: ∀w' σ',Stp w1 σ1 w' σ'→Bh N V (Value.bool (ok&&(List.range i).all (Xf c i)), .int .i64 (IntKind.i64.wrap (i+1))) w'∧Mz N (Value.bool (ok&&(List.range i).all (Xf c i)), .int .i64 (IntKind.i64.wrap (i+1)))<m0):
 lp (α:=Value×Value) (Value.bool ok,(.int .i64 0)) w1 fun A b d_ w=>
  Q3 P .lss T.e (.tmp 158) (.tmp 159) b.2 (I i) w fun R w=>
  X1 R (
   dr w fun e B=>
   Q5 e (fun j=> ∀w:World,B w→Q1 b.1 true w (fieldAddr P T.b (.pointer (some q)) 7) (dk e j w)) fun j=>
   Q5 e (fun n=> ∀w:World,B w→Q1 b.1 true w (fun w J=>J b.2 w) (dk e n w)) fun n=>
   Q5 e (fun l=> ∀w:World,B w→Q1 b.1 true w (fieldAddr P T.d (.pointer (some q9)) 0) (dk e l w)) fun l=>
   Q5 e (fun u=> ∀t:Value,∀w:World,B w→j t w→Q1 b.1 true w (Q2 P T.g t) (dk e u w)) fun u=>
   Q5 e (fun p=> ∀s:Value,∀o:Value,∀w:World,B w→u s w→n o w→Q1 b.1 true w (indexAddr P T.g s o) (dk e p w)) fun p=>
   Q5 e (fun r=> ∀m:Value,∀w:World,B w→p m w→Q1 b.1 true w (fieldAddr P T.d m 0) (dk e r w)) fun r=>
   Q5 e (fun z=> ∀f:Value,∀w:World,B w→r f w→Q1 b.1 true w (Q2 P T.a f) (dk e z w)) fun z=>
   Q5 e (fun y=> ∀g:Value,∀w:World,B w→l g w→Q1 b.1 true w (Q2 P T.a g) (dk e y w)) fun y=>
   ∀t:Value,∀o:Value,∀g:Value,∀s:Value,∀m:Value,∀f:Value,∀C:Value,∀E:Value,∀w:World,B w→j t w→n o w→l g w→u s w→p m w→r f w→z C w→y E w→
   Q1 b.1 true w (Q3 P .neq T.a (.tmp 170) (.tmp 172) C E) fun U w=>
   pick P b.1 U (.bool false) w fun L w=>
   Q3 P .add T.e (.tmp 161) (.const (.int .i64 1)) b.2 (.int .i64 1) w fun Q w=>
   A (L,Q) w) (
   Q3 P .add T.e (.tmp 128) (.const (.int .i64 1)) (I i) (.int .i64 1) w fun D w=>
   (Bh N V (b.1,D) w∧Mz N (b.1,D)<m0)):=by
 have al:=g3.max
 refine E3 (a:=Value.bool ok) i (fun k x w'=> ∃σ',Stp w1 σ1 w' σ'∧x=Value.bool (ok&&(List.range k).all (Xf c i))) ⟨σ1,Stp.refl X,by simp⟩ fun k x w2 d hk O=>?_
 obtain ⟨σ2,v,rfl⟩:=O
 have av:=hq.up v
 have ai:=aa.up v
 have Y:=g3.up v
 have Z:=v.sat
 refine Z4 ?_
 refine Q6 (fun W=>?_) (fun W=>?_)
 ·have ac:k<i:=by simpa using W
  have M:k<c.methods.length:=by omega
  have H:(ok&&(List.range (k+1)).all (Xf c i))=((ok&&(List.range k).all (Xf c i))&&Xf c i k):=by rw[Wb,Bool.and_assoc]
  have hQ:Xf c i k= !decide (c.methods[k].name=c.methods[i].name):=by unfold Xf Ha;rw[H4 M,H4 hi]
  rw[hQ] at H
  obtain ⟨ao,ar,ax,p1,_⟩:=Y.elM M
  generalize (ok&&(List.range k).all (Xf c i))=ad at H⊢
  clear h hQ W
  cases ad
  all_goals
   refine U8 Z ?_
   (repeat refine Z8 Xq ?_)
   (intros;(repeat (rename_i hx;subst hx));(try simp only[↓M2,M2,Mb,reduceIte]))
   rename_i w3 ae
   exact J1 (by omega) ac ⟨σ2,v.trans ae.stp,by rw[H];rfl⟩
 ·have ab:k=i:=by
   have: ¬k<i:=by simpa using W
   omega
  subst ab
  (try simp only[↓M1,M1,Mb,reduceIte])
  exact h _ _ v
set_option maxHeartbeats 4000000 in
theorem X2k {c:Cla} {lv fv mv:Value} {w1:World} {σ1:Q4} {q:Addr} {ok:Bool} (bu:X4 w1 σ1) (hq:Z0 σ1 q [S c.name,S c.super,lv, .bool c.iface, .bool c.abs, .bool c.fin,fv,mv]) {J:Value→World→Prop} (g3:Sl 7 L9 σ1 mv c.methods)
 (h: ∀w' σ',Stp w1 σ1 w' σ'→J (.bool (ok&&(List.range c.methods.length).all fun i=>Wx c i&&(List.range i).all (Xf c i))) w'):
 lp (α:=Value×Value) (Value.bool ok,(.int .i64 0)) w1 fun Y u d_ w=>
  fieldAddr P T.b (.pointer (some q)) 7 w fun bd w=>
  Q2 P T.g bd w fun bl w=>
  X5 P .len [T.g] T.e [false] [bl] w fun bm w=>
  Q3 P .lss T.e (.tmp 123) (.tmp 126) u.2 bm w fun bb w=>
  X1 bb (
   fieldAddr P T.b (.pointer (some q)) 7 w fun bi w=>
   Q2 P T.g bi w fun be w=>
   indexAddr P T.g be u.2 w fun a4 w=>
   Q2 P T.d a4 w fun a0 w=>
   L3 P T.d w fun t9 w=>
   Z6 P T.d t9 a0 w fun _u w=>
   Q1 u.1 true w (Q2 P T.d t9) fun bk w=>
   Q1 u.1 true w (Q0 P F.a2 [bk]) fun bc w=>
   pick P u.1 bc (.bool false) w fun s w=>
   Q1 s true w (fieldAddr P T.d t9 3) fun a1 w=>
   Q1 s true w (Q2 P T.o a1) fun av w=>
   Q1 s true w (J3 P .not av) fun ay w=>
   Q1 s true w (fun w J=>J ay w) fun ad w=>
   Q1 ad false w (fieldAddr P T.b (.pointer (some q)) 4) fun bf w=>
   Q1 ad false w (Q2 P T.o bf) fun bj w=>
   Q1 s true w (pick P ad (.bool true) bj) fun a6 w=>
   pick P s a6 (.bool false) w fun p w=>
   Q1 p true w (fieldAddr P T.b (.pointer (some q)) 3) fun a2 w=>
   Q1 p true w (Q2 P T.o a2) fun bg w=>
   Q1 p true w (J3 P .not bg) fun bo w=>
   Q1 p true w (fun w J=>J bo w) fun ab w=>
   Q1 ab false w (fieldAddr P T.d t9 3) fun bh w=>
   Q1 ab false w (Q2 P T.o bh) fun a8 w=>
   Q1 p true w (pick P ab (.bool true) a8) fun aq w=>
   pick P p aq (.bool false) w fun bp w=>
   lp (α:=Value×Value) (bp,(.int .i64 0)) w fun ac k d_ w=>
    Q3 P .lss T.e (.tmp 158) (.tmp 159) k.2 u.2 w fun bn w=>
    X1 bn (
     dr w fun y Br=>
     Q5 y (fun z=> ∀w:World,Br w→Q1 k.1 true w (fieldAddr P T.b (.pointer (some q)) 7) (dk y z w)) fun z=>
     Q5 y (fun B=> ∀w:World,Br w→Q1 k.1 true w (fun w J=>J k.2 w) (dk y B w)) fun B=>
     Q5 y (fun H=> ∀w:World,Br w→Q1 k.1 true w (fieldAddr P T.d t9 0) (dk y H w)) fun H=>
     Q5 y (fun Q=> ∀O:Value,∀w:World,Br w→z O w→Q1 k.1 true w (Q2 P T.g O) (dk y Q w)) fun Q=>
     Q5 y (fun C=> ∀N:Value,∀L:Value,∀w:World,Br w→Q N w→B L w→Q1 k.1 true w (indexAddr P T.g N L) (dk y C w)) fun C=>
     Q5 y (fun M=> ∀A:Value,∀w:World,Br w→C A w→Q1 k.1 true w (fieldAddr P T.d A 0) (dk y M w)) fun M=>
     Q5 y (fun aa=> ∀D:Value,∀w:World,Br w→M D w→Q1 k.1 true w (Q2 P T.a D) (dk y aa w)) fun aa=>
     Q5 y (fun Z=> ∀E:Value,∀w:World,Br w→H E w→Q1 k.1 true w (Q2 P T.a E) (dk y Z w)) fun Z=>
     ∀O:Value,∀L:Value,∀E:Value,∀N:Value,∀A:Value,∀D:Value,∀ah:Value,∀aj:Value,∀w:World,Br w→z O w→B L w→H E w→Q N w→C A w→M D w→aa ah w→Z aj w→
     Q1 k.1 true w (Q3 P .neq T.a (.tmp 170) (.tmp 172) ah aj) fun ba w=>
     pick P k.1 ba (.bool false) w fun ax w=>
     Q3 P .add T.e (.tmp 161) (.const (.int .i64 1)) k.2 (.int .i64 1) w fun a9 w=>
     ac (ax,a9) w) (
     Q3 P .add T.e (.tmp 128) (.const (.int .i64 1)) u.2 (.int .i64 1) w fun az w=>
     Y (k.1,az) w)) (
   J u.1 w):=by
 have o:=g3.max
 refine E3 (a:=Value.bool ok) c.methods.length (fun n x w'=> ∃σ',Stp w1 σ1 w' σ'∧x=Value.bool (ok&&(List.range n).all fun i=>Wx c i&&(List.range i).all (Xf c i))) ⟨σ1,Stp.refl bu,by simp⟩ fun n x w2 d b4 a3=>?_
 obtain ⟨σ2,X,rfl⟩:=a3
 have ao:=hq.up X
 have ae:=g3.up X
 have af:=X.sat
 (repeat refine Hd.h ?_)
 refine ld af ao rfl ?_
 refine X0 ae ?_
 refine Z4 ?_
 refine Q6 (fun hc=>?_) (fun hc=>?_)
 ·have f:n<c.methods.length:=by simpa using hc
  have v:(ok&&(List.range (n+1)).all fun i=>Wx c i&&(List.range i).all (Xf c i))=((ok&&(List.range n).all fun i=>Wx c i&&(List.range i).all (Xf c i))&&(Wx c n&&(List.range n).all (Xf c n))):=by rw[Wb,Bool.and_assoc]
  have hP:Wx c n=(F7 c.methods[n]&&(!c.methods[n].abs||c.abs)&&(!c.iface||c.methods[n].abs)):=by unfold Wx Ha;rw[H4 f]
  obtain ⟨pv,cv,hv,p1,r1⟩:=ae.elM f
  generalize (ok&&(List.range n).all fun i=>Wx c i&&(List.range i).all (Xf c i))=am at v⊢
  clear h hc
  have step: ∀b,b=(am&&Wx c n)→(am&&(Wx c n&&(List.range n).all (Xf c n)))=(b&&(List.range n).all (Xf c n)):=fun b e=>by rw[e,Bool.and_assoc]
  (repeat refine Hd.h ?_)
  refine ld af ao rfl ?_
  refine U7 ae f ?_
  refine Z2 af p1 rfl ?_
  refine Y5 af (by rfl) rfl (Rep.one r1) fun q9 w3 σ3 V ak=>?_
  have al:=V.sat
  have aw:=ao.up V
  have ar:=ae.up V
  have r3:=RMe_lift r1 ⟨V.le⟩
  have ai:=X.trans V
  cases am with
  | false=>
   (repeat refine Hd.h ?_)
   refine Hy al aw ar f ak fun w4 R l=>?_
   exact J1 o f ⟨R,ai.trans l,by rw[v];rfl⟩
  | true=>
   (repeat refine Hd.h ?_)
   refine Z2 al ak rfl ?_
   (repeat refine Hd.h ?_)
   refine Q8P al r3 fun w5 σ5 W=>?_
   have m:=W.sat
   have t:=aw.up W
   have g:=ak.up W
   have U:=ar.up W
   have r:=ai.trans W
   cases d1:F7 c.methods[n] with
   | false=>
    (repeat refine Hd.h ?_)
    refine Hy m t U f g fun w4 R l=>?_
    exact J1 o f ⟨R,r.trans l,by rw[v,step false (by rw[hP,d1];rfl)]⟩
   | true=>
    (repeat refine Hd.h ?_)
    refine ld m g rfl ?_
    (repeat refine Hd.h ?_)
    have j: ∀b1:Bool,b1=(!c.methods[n].abs||c.abs)→Wx c n=(b1&&(!c.iface||c.methods[n].abs)):=fun b1 e=>by rw[hP,d1,e];rfl
    cases d2:c.methods[n].abs with
    | false=>
     rw[d2] at j g
     simp only[Bool.not_true,Bool.not_false]
     (repeat refine Hd.h ?_)
     refine ld m t rfl ?_
     (repeat refine Hd.h ?_)
     cases d4:c.iface with
     | false=>
      simp only[Bool.not_true,Bool.not_false]
      (repeat refine Hd.h ?_)
      refine Hy m t U f (by rw[d2];exact g) fun w4 R l=>?_
      exact J1 o f ⟨R,r.trans l,by rw[v,step true (by rw[j true rfl,d4];rfl)]⟩
     | true=>
      simp only[Bool.not_true,Bool.not_false]
      (repeat refine Hd.h ?_)
      refine ld m g rfl ?_
      (repeat refine Hd.h ?_)
      refine Hy m t U f (by rw[d2];exact g) fun w4 R l=>?_
      exact J1 o f ⟨R,r.trans l,by rw[v,step false (by rw[j true rfl,d4];rfl)]⟩
    | true=>
     rw[d2] at j g
     simp only[Bool.not_true,Bool.not_false]
     (repeat refine Hd.h ?_)
     refine ld m t rfl ?_
     cases d3:c.abs with
     | false=>
      (repeat refine Hd.h ?_)
      refine Hy m t U f (by rw[d2];exact g) fun w4 R l=>?_
      exact J1 o f ⟨R,r.trans l,by rw[v,step false (by rw[j false (by rw[d3];rfl)];rfl)]⟩
     | true=>
      (repeat refine Hd.h ?_)
      refine ld m t rfl ?_
      (repeat refine Hd.h ?_)
      cases d4:c.iface with
      | false=>
       simp only[Bool.not_true,Bool.not_false]
       (repeat refine Hd.h ?_)
       refine Hy m t U f (by rw[d2];exact g) fun w4 R l=>?_
       exact J1 o f ⟨R,r.trans l,by rw[v,step true (by rw[j true (by rw[d3];rfl),d4];rfl)]⟩
      | true=>
       simp only[Bool.not_true,Bool.not_false]
       (repeat refine Hd.h ?_)
       refine ld m g rfl ?_
       (repeat refine Hd.h ?_)
       refine Hy m t U f (by rw[d2];exact g) fun w4 R l=>?_
       exact J1 o f ⟨R,r.trans l,by rw[v,step true (by rw[j true (by rw[d3];rfl),d4];rfl)]⟩
 ·have f: ¬n<c.methods.length:=by simpa using hc
  obtain rfl:n=c.methods.length:=by omega
  exact h _ _ X
theorem X2X {c:Cla} {H M mv:Value} {w1:World} {σ1:Q4} {q:Addr} {ok:Bool} (d:X4 w1 σ1) (g:Z0 σ1 q [S c.name,S c.super,H, .bool c.iface, .bool c.abs, .bool c.fin,M,mv]) (h:K (.bool (ok&&Q93 c)) w1):
 Q1 (Value.bool ok) true w1 (fieldAddr P T.b (.pointer (some q)) 3) fun k w=>
  Q1 (Value.bool ok) true w (Q2 P T.o k) fun u w=>
  Q1 (Value.bool ok) true w (J3 P .not u) fun n w=>
  Q1 (Value.bool ok) true w (fun w J=>J n w) fun b w=>
  Q1 b false w (fieldAddr P T.b (.pointer (some q)) 4) fun C w=>
  Q1 b false w (Q2 P T.o C) fun z w=>
  Q1 b false w (fun w J=>J z w) fun e w=>
  Q1 e true w (fieldAddr P T.b (.pointer (some q)) 1) fun s w=>
  Q1 e true w (Q2 P T.a s) fun m w=>
  Q1 e true w (Q3 P .eql T.a (.tmp 185) (.const (.string ⟨#[79,98,106,101,99,116]⟩)) m (.string ⟨#[79,98,106,101,99,116]⟩)) fun r w=>
  Q1 b false w (pick P e r (.bool false)) fun t w=>
  Q1 (Value.bool ok) true w (pick P b (.bool true) t) fun v w=>
  pick P (Value.bool ok) v (.bool false) w fun a w=>
  Q1 a true w (fieldAddr P T.b (.pointer (some q)) 4) fun j w=>
  Q1 a true w (Q2 P T.o j) fun o w=>
  Q1 a true w (fun w J=>J o w) fun f w=>
  Q1 f true w (fieldAddr P T.b (.pointer (some q)) 5) fun p w=>
  Q1 f true w (Q2 P T.o p) fun y w=>
  Q1 a true w (pick P f y (.bool false)) fun l w=>
  Q1 a true w (J3 P .not l) fun B w=>
  pick P a B (.bool false) w fun A w=>
  K A w:=by
 unfold Q93 at h
 have L:decide (c.super=J4)=decide (c.super=[79,98,106,101,99,116]):=rfl
 rw[L] at h
 cases ok with
 | false=>(try simp only[↓M1,M1,Mb,reduceIte]);simpa using h
 | true=>
  (try simp only[↓M1,M1,Mb,reduceIte])
  refine ld d g rfl ?_
  (try simp only[↓M1,M1,Mb,reduceIte])
  cases E:c.iface with
  | false=>
   rw[E] at h
   (try simp only[↓M1,M1,Mb,reduceIte])
   refine ld d g rfl ?_
   cases i:c.abs with
   | false=>rw[i] at h;(try simp only[↓M1,M1,Mb,reduceIte]);simpa using h
   | true=>
    rw[i] at h
    (try simp only[↓M1,M1,Mb,reduceIte])
    refine ld d g rfl ?_
    (try simp only[↓M1,M1,Mb,reduceIte])
    simpa using h
  | true=>
   rw[E] at h
   (try simp only[↓M1,M1,Mb,reduceIte])
   refine ld d g rfl ?_
   cases i:c.abs with
   | false=>rw[i] at h;(try simp only[↓M1,M1,Mb,reduceIte]);simpa using h
   | true=>
    rw[i] at h
    (try simp only[↓M1,M1,Mb,reduceIte])
    refine ld d g rfl ?_
    (try simp only[↓M1,M1,Mb,reduceIte])
    cases D:decide (c.super=[79,98,106,101,99,116]) with
    | false=>rw[D] at h;(try simp only[↓M1,M1,Mb,reduceIte]);simpa using h
    | true=>
     rw[D] at h
     (try simp only[↓M1,M1,Mb,reduceIte])
     refine ld d g rfl ?_
     simp only[i,↓M1,M1,Mb,reduceIte]
     refine ld d g rfl ?_
     (try simp only[↓M1,M1,Mb,reduceIte])
     simpa using h
end Go.Proofs.YtfppjenblllfaaaGreatDoor

namespace Go.Proofs.YtfppjenblllfaaaGreatDoor
open Go.Emb Go.RowKit Go.Kd Go.Hm
theorem Q78 {c:Cla} (h:M7 c=0):W7 c.name=true∧W7 c.super=true∧(c.iface=true→c.super=J4∧c.fields=[]∧c.abs=true∧ ∀m∈c.methods,m.abs=true)∧(∀m∈c.methods,m.abs=true→c.abs=true)∧c.fields.all Dt=true∧c.methods.all F7=true∧R1 Fld.name [] c.fields=true∧R1 Hm.Met.name [] c.methods=true:=by
 unfold M7 at h
 split at h
 ·cases h
 split at h
 ·rename_i j
  simp only[Lj,Bool.and_eq_true] at j
  obtain ⟨⟨⟨⟨⟨⟨⟨⟨k,v⟩,u⟩,i⟩,f⟩,s⟩,r⟩,o⟩,p⟩:=j
  refine ⟨List.all_eq_true.1 k c.name (by simp),List.all_eq_true.1 k c.super (by simp),fun n=>?_,fun m g t=>?_,o,p,s,r⟩
  ·rw[n] at i
   simp only[Bool.true_and,Bool.not_eq_true',Bool.or_eq_false_iff,Bool.not_eq_false',decide_eq_true_eq] at i
   obtain ⟨⟨⟨a,b⟩,d⟩,e⟩:=i
   refine ⟨b,d,a,fun m g=>?_⟩
   have:=List.any_eq_false.1 e m g
   simpa using this
  ·simp only[Bool.not_eq_true',Bool.or_eq_false_iff] at f
   obtain ⟨_,f⟩:=f
   have q:c.methods.any (·.abs)=true:=List.any_eq_true.2 ⟨m,g,t⟩
   rw[q] at f
   simpa using f
 ·cases h
theorem Q8w {l:List Cla} {c:Cla} (b:c∈Q7 l) (a:c.iface=true):c∈l:=by
 rcases List.mem_append.1 b with h | h
 ·have: ∀c∈G3,c.iface=false:=by decide
  rw[this c h] at a;cases a
 ·exact h
section
variable {l : List Cla} (wf : Wf l)
include wf
theorem Wf.likes {c:Cla} (f:c∈Q7 l) {u:Q9} (b:u∈c.like): ∃d,lk (Q7 l) u=some d∧d.iface=true:=by
 rcases List.mem_append.1 f with h | h
 ·rw[(Jf c h).2.2] at b;simp at b
 ·have:=wf.up c h
  unfold M4 at this
  split at this
  ·cases this
  ·split at this
   ·cases this
   ·rename_i a
    have a:=List.any_eq_false.1 (eq_false_of_ne_true a) u b
    unfold D6 at a
    cases e:lk (Q7 l) u with
    | none=>rw[e] at a;simp at a
    | some d=>rw[e] at a;exact ⟨d,rfl,by simpa using a⟩
theorem Wf.above_iface {u b:Q9} (h:Hm.Reach (lk (Q7 l)) u b): ∀d,lk (Q7 l) u=some d→d.iface=true→b=J4∨ ∃e,lk (Q7 l) b=some e∧e.iface=true:=by
 induction h with
 | refl h=>intro d a c;exact .inr ⟨d,a,c⟩
 | step k hu i n=>
  intro d a c
  rw[k] at a;cases a
  obtain ⟨e,j,_⟩:=V1 k
  rcases List.mem_cons.1 hu with rfl | hu
  ·rw[((Q78 (wf.ck _ (Q8w j c))).2.2.1 c).1] at i
   exact .inl (wf.atRoot i)
  ·obtain ⟨f,m,g⟩:=wf.likes j hu
   exact n f m g
theorem Wf.by_chain {n b:Q9} (h:Hm.Reach (lk (Q7 l)) n b): ∀e,lk (Q7 l) b=some e→e.iface=false→b≠J4→e∈chain (Q7 l) n:=by
 induction h with
 | refl h=>
  intro e c _ _
  rw[I6 wf.acy,c];simp
 | step m hu q o=>
  intro e c i k
  obtain ⟨en,p,_⟩:=V1 m
  rcases List.mem_cons.1 hu with rfl | hu
  ·rw[I6 wf.acy,m]
   exact List.mem_cons_of_mem _ (o e c i k)
  ·obtain ⟨f,r,d⟩:=wf.likes p hu
   rcases wf.above_iface q f r d with h | ⟨g,j,a⟩
   ·exact absurd h k
   ·rw[c] at j;cases j;rw[i] at a;cases a
theorem Wf.chain_tail: ∀(k:Nat) {n:Q9} {c:Cla},I5 (Q7 l) n<k→c∈chain (Q7 l) n→ ∃a,chain (Q7 l) n=a++chain (Q7 l) c.name:=by
 intro k
 induction k with
 | zero=>intro n c h;omega
 | succ k j=>
  intro n c o hc
  rw[I6 wf.acy] at hc
  cases b:lk (Q7 l) n with
  | none=>rw[b] at hc;simp at hc
  | some d=>
   rw[b] at hc
   have f:=(V1 b).1
   rcases List.mem_cons.1 hc with rfl | hc
   ·exact ⟨[],by rw[f];rfl⟩
   ·cases g:lk (Q7 l) d.super with
    | none=>rw[T7 g] at hc;simp at hc
    | some e=>
     have i:d.super∈J9 d:=by simp[J9]
     obtain ⟨a,m⟩:=j (by have:=Yp wf.acy b i g;omega) hc
     exact ⟨d::a,by rw[I6 wf.acy,b];show d::chain (Q7 l) d.super=_;rw[m];rfl⟩
theorem Wf.fields_tail {n:Q9} {c:Cla} (h:c∈chain (Q7 l) n): ∃a,U1 (Q7 l) n=U1 (Q7 l) c.name++a:=by
 obtain ⟨b,d⟩:=wf.chain_tail _ (Nat.lt_succ_self _) h
 exact ⟨b.reverse.flatMap (·.fields),by unfold U1;rw[d];simp⟩
theorem Wf.none_nil:lk (Q7 l) []=none:=by
 cases h:lk (Q7 l) [] with
 | none=>rfl
 | some c=>exact absurd (wf.lkn h) (by decide)
theorem Wf.fault_fields:U1 (Q7 l) W3=[⟨T1,O9,false⟩]:=by
 unfold U1
 rw[I6 wf.acy,wf.fault]
 simp only
 rw[I6 wf.acy,wf.root]
 simp only
 rw[T7 wf.none_nil]
 rfl
theorem Wf.what {n:Q9} (h:O3 (Q7 l) n W3=true) {c:Cla} (d:lk (Q7 l) n=some c):F2 (Q7 l) n T1=some 0:=by
 have b:=(wf.sub_class d).1 h
 have e:=wf.by_chain b _ wf.fault rfl (by decide)
 obtain ⟨a,f⟩:=wf.fields_tail e
 unfold F2
 rw[f,show (Cla.mk W3 J4 [] false false false [⟨T1,O9,false⟩] []).name=W3 from rfl,wf.fault_fields]
 rfl
end
end Go.Proofs.YtfppjenblllfaaaGreatDoor

namespace Go.Hm
open Go.Kd
theorem De {α β:Type} {f:α→Option β}: ∀{l:List α} {y:β},l.findSome? f=some y→ ∃x∈l,f x=some y
 | a::r,y,h=>by
  rw[List.findSome?_cons] at h
  split at h
  ·rename_i z d;cases h;exact ⟨a,by simp,d⟩
  ·obtain ⟨x,b,c⟩:=De h;exact ⟨x,by simp[b],c⟩
theorem Q7i {L:Up} {n:Q9}: ∀(f:Nat) {c:Cla} {u:Q9} {m:Hm.Met},Lk L f c n=some (u,m)→ ∃v∈c.like,Hm.Reach L v u∧ ∃d,L u=some d∧E8 d n=some m:=by
 intro f
 induction f with
 | zero=>intro c u m h;cases h
 | succ f j=>
  intro c u m h
  simp only[Lk] at h
  obtain ⟨v,i,a⟩:=De h
  cases b:L v with
  | none=>rw[b] at a;cases a
  | some d=>
   rw[b] at a
   simp only at a
   cases e:E8 d n with
   | some m'=>rw[e] at a;cases a;exact ⟨_,i, .refl b,d,b,e⟩
   | none=>
    rw[e] at a
    obtain ⟨p,g,o,k⟩:=j a
    exact ⟨v,i, .step b (by simp[J9,g]) o,k⟩
end Go.Hm
namespace Go.Proofs.YtfppjenblllfaaaGreatDoor
open Go.Emb Go.RowKit Go.Kd Go.Hm
section
variable {l : List Cla} (wf : Wf l)
include wf
theorem Wf.method_some {k n o:Q9} {m:Hm.Met} (h:J0 (Q7 l) k n=some (o,m)): ∃c,lk (Q7 l) o=some c∧E8 c n=some m∧Hm.Reach (lk (Q7 l)) k o:=by
 unfold J0 at h
 split at h
 ·rename_i r g
  cases h
  obtain ⟨c,i,a⟩:=De g
  obtain ⟨m',b,j⟩:=Option.map_eq_some_iff.1 a
  cases j
  obtain ⟨f,e⟩:=Bd wf.acy _ (Nat.lt_succ_self _) i
  exact ⟨c,e,b,f⟩
 ·obtain ⟨c,i,a⟩:=De h
  obtain ⟨f,e⟩:=Bd wf.acy _ (Nat.lt_succ_self _) i
  obtain ⟨v,p,g,d,q,s⟩:=Q7i _ a
  exact ⟨d,q,s,f.trans (.step e (by simp[J9,p]) g)⟩
end
end Go.Proofs.YtfppjenblllfaaaGreatDoor
namespace Go.Proofs.YtfppjenblllfaaaGreatDoor
open Go.Emb Go.RowKit Go.Kd Go.Hm
end Go.Proofs.YtfppjenblllfaaaGreatDoor
namespace Go.Proofs.YtfppjenblllfaaaGreatDoor
open Go.Emb Go.RowKit Go.Kd Go.Hm
section
variable {l : List Cla} (wf : Wf l)
include wf
end
end Go.Proofs.YtfppjenblllfaaaGreatDoor

namespace Go.Proofs.YtfppjenblllfaaaGreatDoor
open Go.Emb Go.RowKit Go.Kd Go.Hm
variable {w : World} {K : Value → World → Prop} {σ : Q4}
def Q5S (c:Cla):Bool:=((((W7 c.name&&W7 c.super&& !decide (c.name=c.super))&&(List.range c.like.length).all fun i=>Lq c i&&(List.range i).all (P5 c i))&&(List.range c.fields.length).all fun i=>Db c i&&(List.range i).all (Xb c i))&&(List.range c.methods.length).all fun i=>Wx c i&&(List.range i).all (Xf c i))&&Q93 c
theorem X1e {α:Type} {f:α→Q9}: ∀(xs a:List α),R1 f a xs=true↔(xs.map f).Nodup∧ ∀x∈xs,∀y∈a,f y≠f x:=by
 intro xs
 induction xs with
 | nil=>intro a;simp[R1]
 | cons x r h=>
  intro a
  simp only[R1,Bool.and_eq_true,h,Bool.not_eq_true',List.map_cons,List.nodup_cons]
  rw[←Bool.not_eq_true,List.any_eq_true]
  simp only[decide_eq_true_eq,not_exists,not_and,List.mem_append,List.mem_cons,List.not_mem_nil,or_false,List.mem_map]
  constructor
  ·rintro ⟨g,d,c⟩
   refine ⟨⟨fun y hy e=>c y hy x (.inr rfl) e.symm,d⟩,fun y hy z b=>?_⟩
   rcases hy with rfl | hy
   ·exact g z b
   ·exact c y hy z (.inl b)
  ·rintro ⟨⟨g,d⟩,c⟩
   refine ⟨fun y hy=>c x (.inl rfl) y hy,d,fun y hy z b=>?_⟩
   rcases b with b | rfl
   ·exact c y (.inr hy) z b
   ·exact fun e=>g y hy e.symm
theorem Q01 {α:Type} {f:α→Q9} {xs:List α} {p:α→Bool} {P:Nat→Bool} {Q:Nat→Nat→Bool} (d: ∀i (h:i<xs.length),P i=p xs[i]) (e: ∀i (h:i<xs.length) k (o:k<xs.length),Q i k= !decide (f xs[k]=f xs[i])):
 ((List.range xs.length).all fun i=>P i&&(List.range i).all (Q i))=true↔(∀x∈xs,p x=true)∧R1 f [] xs=true:=by
 rw[X1e,List.all_eq_true]
 simp only[List.mem_range,Bool.and_eq_true,List.all_eq_true,List.not_mem_nil,false_implies,implies_true,and_true]
 rw[List.nodup_iff_pairwise_ne,List.pairwise_iff_getElem]
 simp only[List.length_map,List.getElem_map]
 constructor
 ·intro h
  refine ⟨fun x g=>?_,fun i j a c b=>?_⟩
  ·obtain ⟨i,a,rfl⟩:=List.getElem_of_mem g
   rw[←d i a];exact (h i a).1
  ·have:=(h j c).2 i b
   rw[e j c i a] at this
   simpa using this
 ·rintro ⟨n,m⟩ i a
  refine ⟨by rw[d i a];exact n _ (List.getElem_mem a),fun k l=>?_⟩
  rw[e i a k (by omega)]
  simpa using m k i (by omega) a l
theorem X0X (c:Cla):Q5S c=Lj c:=by
 have z:=Q01 (f:=id) (xs:=c.like) (p:=fun y=>W7 y&& !decide (y=c.name)) (P:=Lq c) (Q:=P5 c) (fun i h=>by unfold Lq;rw[H4 h]) (fun i h k n=>by unfold P5;rw[H4 h,H4 n];rfl)
 have g:=Q01 (f:=Fld.name) (xs:=c.fields) (p:=fun f=>M5 f.name&&right f.kind&& !c.iface) (P:=Db c) (Q:=Xb c) (fun i h=>by unfold Db Cr;rw[H4 h]) (fun i h k n=>by unfold Xb Cr;rw[H4 h,H4 n])
 have d:=Q01 (f:=Hm.Met.name) (xs:=c.methods) (p:=fun m=>F7 m&&(!m.abs||c.abs)&&(!c.iface||m.abs)) (P:=Wx c) (Q:=Xf c) (fun i h=>by unfold Wx Ha;rw[H4 h]) (fun i h k n=>by unfold Xf Ha;rw[H4 h,H4 n])
 rw[Bool.eq_iff_iff]
 unfold Q5S Lj Q93
 simp only[Bool.and_eq_true,z,g,d]
 simp only[Bool.and_eq_true,Bool.not_eq_true',Bool.or_eq_true,Bool.and_eq_false_iff,Bool.or_eq_false_iff,decide_eq_true_eq,decide_eq_false_iff_not,List.all_eq_true,List.mem_cons,List.any_eq_false,Dt,Bool.not_eq_false']
 constructor
 ·rintro ⟨⟨⟨⟨⟨⟨l,o⟩,r⟩,a,u⟩,h6,q⟩,j,t⟩,b,s⟩
  refine ⟨⟨⟨⟨⟨⟨⟨⟨?_,?_⟩,u⟩,?_⟩,s,?_⟩,q⟩,t⟩,?_⟩,fun m d=>(j m d).1.1⟩
  ·rintro x (rfl | rfl | hx)
   ·exact l
   ·exact o
   ·exact (a x hx).1
  ·rintro x (rfl | hx)
   ·exact r
   ·exact fun e=>(a x hx).2 e.symm
  ·cases v:c.iface with
   | false=>exact .inl rfl
   | true=>
    rw[v] at b h6 j
    have b:=b.resolve_left (by decide)
    refine .inr ⟨⟨b,?_⟩,fun m d e=>?_⟩
    ·rw[List.eq_nil_iff_forall_not_mem]
     intro f g
     exact absurd (h6 f g).2 (by decide)
    ·have:=(j m d).2.resolve_left (by decide)
     rw[this] at e;cases e
  ·cases A:c.abs with
   | true=>exact .inr rfl
   | false=>
    rw[A] at j
    refine .inl fun m d e=>?_
    have:=(j m d).1.2.resolve_right (by decide)
    rw[this] at e;cases e
  ·exact fun f g=>(h6 f g).1
 ·rintro ⟨⟨⟨⟨⟨⟨⟨⟨l,o⟩,r⟩,a⟩,u,h6⟩,q⟩,j⟩,t⟩,b⟩
  refine ⟨⟨⟨⟨⟨⟨l _ (.inl rfl),l _ (.inr (.inl rfl))⟩,o _ (.inl rfl)⟩,fun x hx=>⟨l x (.inr (.inr hx)),fun e=>o x (.inr hx) e.symm⟩,r⟩,fun f g=>⟨t f g,?_⟩,q⟩,fun m d=>⟨⟨b m d,?_⟩,?_⟩,j⟩,?_,u⟩
  ·rcases a with a | ⟨⟨_,a⟩,_⟩
   ·exact a
   ·rw[a] at g;simp at g
  ·rcases h6 with h6 | h6
   ·left;exact eq_false_of_ne_true (h6 m d)
   ·exact .inr h6
  ·rcases a with a | ⟨_,a⟩
   ·exact .inl a
   ·right
    cases hx:m.abs with
    | true=>rfl
    | false=>exact absurd hx (a m d)
  ·rcases a with a | ⟨⟨a,_⟩,_⟩
   ·exact .inl a
   ·exact .inr a
set_option maxHeartbeats 4000000 in
theorem X0n {c:Cla} {cs:List Value} (hs:X4 w σ) (hc:V4 σ c cs) (h: ∀w' σ',Stp w σ w' σ'→K (.bool (Q5S c)) w'):Q0 P F.bC [.agg cs.toArray] w K:=Gp (by
 unfold Mk
 obtain ⟨lv,fv,mv,rfl,f1,f2,f3,f4,f5⟩:=hc
 have cx:c.name.length≤140737488355328:=by simp only[Y9] at f4;omega
 have c3:c.super.length≤140737488355328:=by simp only[Y9] at f5;omega
 refine Z1 hs fun q w1 σ1 cb hq=>?_
 have g1:=f1.up cb
 have g2:=f2.up cb
 have g3:=f3.up cb
 have bw:=cb.sat
 have ch: ∀ok:Bool,ok=(W7 c.name&&W7 c.super&& !decide (c.name=c.super))→_:=fun ok e=>
  X0S (w1:=w1) (σ1:=σ1) (ok:=ok) bw hq (J:=fun v w=>lp (α:=Value×Value) (v,(.int .i64 0)) w fun bk o d_ w=>
   fieldAddr P T.b (.pointer (some q)) 6 w fun cq w=>
   Q2 P T.i cq w fun da w=>
   X5 P .len [T.i] T.e [false] [da] w fun cv w=>
   Q3 P .lss T.e (.tmp 71) (.tmp 74) o.2 cv w fun cu w=>
   X1 cu (
    Q1 o.1 true w (fieldAddr P T.b (.pointer (some q)) 6) fun cw w=>
    Q1 o.1 true w (Q2 P T.i cw) fun c8 w=>
    Q1 o.1 true w (fun w J=>J o.2 w) fun ct w=>
    Q1 o.1 true w (indexAddr P T.i c8 ct) fun cy w=>
    Q1 o.1 true w (fieldAddr P T.l cy 0) fun dd w=>
    Q1 o.1 true w (Q2 P T.a dd) fun c2 w=>
    Q1 o.1 true w (Q0 P F.w [c2]) fun cr w=>
    pick P o.1 cr (.bool false) w fun ag w=>
    Q1 ag true w (fieldAddr P T.b (.pointer (some q)) 6) fun c4 w=>
    Q1 ag true w (Q2 P T.i c4) fun c9 w=>
    Q1 ag true w (fun w J=>J o.2 w) fun c1 w=>
    Q1 ag true w (indexAddr P T.i c9 c1) fun db w=>
    Q1 ag true w (fieldAddr P T.l db 1) fun c0 w=>
    Q1 ag true w (Q2 P T.a c0) fun cz w=>
    Q1 ag true w (Q0 P F.l [cz]) fun de w=>
    pick P ag de (.bool false) w fun cd w=>
    Q1 cd true w (fieldAddr P T.b (.pointer (some q)) 3) fun dc w=>
    Q1 cd true w (Q2 P T.o dc) fun c5 w=>
    Q1 cd true w (J3 P .not c5) fun cn w=>
    pick P cd cn (.bool false) w fun ck w=>
    lp (α:=Value×Value) (ck,(.int .i64 0)) w fun b1 l d_ w=>
     Q3 P .lss T.e (.tmp 102) (.tmp 103) l.2 o.2 w fun cp w=>
     X1 cp (
      dr w fun d n=>
      Q5 d (fun aw=> ∀w:World,n w→Q1 l.1 true w (fieldAddr P T.b (.pointer (some q)) 6) (dk d aw w)) fun aw=>
      Q5 d (fun av=> ∀w:World,n w→Q1 l.1 true w (fun w J=>J l.2 w) (dk d av w)) fun av=>
      Q5 d (fun a0=> ∀w:World,n w→Q1 l.1 true w (fieldAddr P T.b (.pointer (some q)) 6) (dk d a0 w)) fun a0=>
      Q5 d (fun a2=> ∀w:World,n w→Q1 l.1 true w (fun w J=>J o.2 w) (dk d a2 w)) fun a2=>
      Q5 d (fun aq=> ∀a6:Value,∀w:World,n w→aw a6 w→Q1 l.1 true w (Q2 P T.i a6) (dk d aq w)) fun aq=>
      Q5 d (fun ba=> ∀ar:Value,∀a7:Value,∀w:World,n w→aq ar w→av a7 w→Q1 l.1 true w (indexAddr P T.i ar a7) (dk d ba w)) fun ba=>
      Q5 d (fun a5=> ∀ax:Value,∀w:World,n w→ba ax w→Q1 l.1 true w (fieldAddr P T.l ax 0) (dk d a5 w)) fun a5=>
      Q5 d (fun bm=> ∀a8:Value,∀w:World,n w→a5 a8 w→Q1 l.1 true w (Q2 P T.a a8) (dk d bm w)) fun bm=>
      Q5 d (fun a3=> ∀ao:Value,∀w:World,n w→a0 ao w→Q1 l.1 true w (Q2 P T.i ao) (dk d a3 w)) fun a3=>
      Q5 d (fun a1=> ∀ay:Value,∀a4:Value,∀w:World,n w→a3 ay w→a2 a4 w→Q1 l.1 true w (indexAddr P T.i ay a4) (dk d a1 w)) fun a1=>
      Q5 d (fun ap=> ∀a9:Value,∀w:World,n w→a1 a9 w→Q1 l.1 true w (fieldAddr P T.l a9 0) (dk d ap w)) fun ap=>
      Q5 d (fun bj=> ∀az:Value,∀w:World,n w→ap az w→Q1 l.1 true w (Q2 P T.a az) (dk d bj w)) fun bj=>
      ∀a6:Value,∀a7:Value,∀ao:Value,∀a4:Value,∀ar:Value,∀ax:Value,∀a8:Value,∀ce:Value,∀ay:Value,∀a9:Value,∀az:Value,∀cf:Value,∀w:World,n w→aw a6 w→av a7 w→a0 ao w→a2 a4 w→aq ar w→ba ax w→a5 a8 w→bm ce w→a3 ay w→a1 a9 w→ap az w→bj cf w→
      Q1 l.1 true w (Q3 P .neq T.a (.tmp 114) (.tmp 120) ce cf) fun cm w=>
      pick P l.1 cm (.bool false) w fun cj w=>
      Q3 P .add T.e (.tmp 105) (.const (.int .i64 1)) l.2 (.int .i64 1) w fun cl w=>
      b1 (cj,cl) w) (
      Q3 P .add T.e (.tmp 76) (.const (.int .i64 1)) o.2 (.int .i64 1) w fun c7 w=>
      bk (l.1,c7) w)) (
    lp (α:=Value×Value) (o.1,(.int .i64 0)) w fun H f d_ w=>
     fieldAddr P T.b (.pointer (some q)) 7 w fun bx w=>
     Q2 P T.g bx w fun b7 w=>
     X5 P .len [T.g] T.e [false] [b7] w fun b9 w=>
     Q3 P .lss T.e (.tmp 123) (.tmp 126) f.2 b9 w fun bu w=>
     X1 bu (
      fieldAddr P T.b (.pointer (some q)) 7 w fun b4 w=>
      Q2 P T.g b4 w fun bz w=>
      indexAddr P T.g bz f.2 w fun bn w=>
      Q2 P T.d bn w fun bh w=>
      L3 P T.d w fun t9 w=>
      Z6 P T.d t9 bh w fun _u w=>
      Q1 f.1 true w (Q2 P T.d t9) fun b6 w=>
      Q1 f.1 true w (Q0 P F.a2 [b6]) fun bv w=>
      pick P f.1 bv (.bool false) w fun k w=>
      Q1 k true w (fieldAddr P T.d t9 3) fun bi w=>
      Q1 k true w (Q2 P T.o bi) fun bc w=>
      Q1 k true w (J3 P .not bc) fun be w=>
      Q1 k true w (fun w J=>J be w) fun Q w=>
      Q1 Q false w (fieldAddr P T.b (.pointer (some q)) 4) fun b0 w=>
      Q1 Q false w (Q2 P T.o b0) fun b5 w=>
      Q1 k true w (pick P Q (.bool true) b5) fun bp w=>
      pick P k bp (.bool false) w fun j w=>
      Q1 j true w (fieldAddr P T.b (.pointer (some q)) 3) fun bl w=>
      Q1 j true w (Q2 P T.o bl) fun b2 w=>
      Q1 j true w (J3 P .not b2) fun cc w=>
      Q1 j true w (fun w J=>J cc w) fun N w=>
      Q1 N false w (fieldAddr P T.d t9 3) fun b3 w=>
      Q1 N false w (Q2 P T.o b3) fun bq w=>
      Q1 j true w (pick P N (.bool true) bq) fun bb w=>
      pick P j bb (.bool false) w fun b8 w=>
      lp (α:=Value×Value) (b8,(.int .i64 0)) w fun O b d_ w=>
       Q3 P .lss T.e (.tmp 158) (.tmp 159) b.2 f.2 w fun ca w=>
       X1 ca (
        dr w fun d n=>
        Q5 d (fun p=> ∀w:World,n w→Q1 b.1 true w (fieldAddr P T.b (.pointer (some q)) 7) (dk d p w)) fun p=>
        Q5 d (fun s=> ∀w:World,n w→Q1 b.1 true w (fun w J=>J b.2 w) (dk d s w)) fun s=>
        Q5 d (fun z=> ∀w:World,n w→Q1 b.1 true w (fieldAddr P T.d t9 0) (dk d z w)) fun z=>
        Q5 d (fun E=> ∀D:Value,∀w:World,n w→p D w→Q1 b.1 true w (Q2 P T.g D) (dk d E w)) fun E=>
        Q5 d (fun t=> ∀C:Value,∀A:Value,∀w:World,n w→E C w→s A w→Q1 b.1 true w (indexAddr P T.g C A) (dk d t w)) fun t=>
        Q5 d (fun B=> ∀r:Value,∀w:World,n w→t r w→Q1 b.1 true w (fieldAddr P T.d r 0) (dk d B w)) fun B=>
        Q5 d (fun M=> ∀u:Value,∀w:World,n w→B u w→Q1 b.1 true w (Q2 P T.a u) (dk d M w)) fun M=>
        Q5 d (fun L=> ∀y:Value,∀w:World,n w→z y w→Q1 b.1 true w (Q2 P T.a y) (dk d L w)) fun L=>
        ∀D:Value,∀A:Value,∀y:Value,∀C:Value,∀r:Value,∀u:Value,∀V:Value,∀ak:Value,∀w:World,n w→p D w→s A w→z y w→E C w→t r w→B u w→M V w→L ak w→
        Q1 b.1 true w (Q3 P .neq T.a (.tmp 170) (.tmp 172) V ak) fun bs w=>
        pick P b.1 bs (.bool false) w fun bd w=>
        Q3 P .add T.e (.tmp 161) (.const (.int .i64 1)) b.2 (.int .i64 1) w fun br w=>
        O (bd,br) w) (
        Q3 P .add T.e (.tmp 128) (.const (.int .i64 1)) f.2 (.int .i64 1) w fun bg w=>
        H (b.1,bg) w)) (
      Q1 f.1 true w (fieldAddr P T.b (.pointer (some q)) 3) fun aj w=>
      Q1 f.1 true w (Q2 P T.o aj) fun ad w=>
      Q1 f.1 true w (J3 P .not ad) fun W w=>
      Q1 f.1 true w (fun w J=>J W w) fun g w=>
      Q1 g false w (fieldAddr P T.b (.pointer (some q)) 4) fun aa w=>
      Q1 g false w (Q2 P T.o aa) fun ai w=>
      Q1 g false w (fun w J=>J ai w) fun i w=>
      Q1 i true w (fieldAddr P T.b (.pointer (some q)) 1) fun Y w=>
      Q1 i true w (Q2 P T.a Y) fun ab w=>
      Q1 i true w (Q3 P .eql T.a (.tmp 185) (.const (.string ⟨#[79,98,106,101,99,116]⟩)) ab (.string ⟨#[79,98,106,101,99,116]⟩)) fun X w=>
      Q1 g false w (pick P i X (.bool false)) fun ah w=>
      Q1 f.1 true w (pick P g (.bool true) ah) fun Z w=>
      pick P f.1 Z (.bool false) w fun a w=>
      Q1 a true w (fieldAddr P T.b (.pointer (some q)) 4) fun R w=>
      Q1 a true w (Q2 P T.o R) fun af w=>
      Q1 a true w (fun w J=>J af w) fun m w=>
      Q1 m true w (fieldAddr P T.b (.pointer (some q)) 5) fun ac w=>
      Q1 m true w (Q2 P T.o ac) fun ae w=>
      Q1 a true w (pick P m ae (.bool false)) fun U w=>
      Q1 a true w (J3 P .not U) fun am w=>
      pick P a am (.bool false) w fun al w=>
      K al w))) f4 g1 fun w2 σ2 an=>
  X2Q (J:=fun v w=>lp (α:=Value×Value) (v,(.int .i64 0)) w fun H f d_ w=>
   fieldAddr P T.b (.pointer (some q)) 7 w fun bx w=>
   Q2 P T.g bx w fun b7 w=>
   X5 P .len [T.g] T.e [false] [b7] w fun b9 w=>
   Q3 P .lss T.e (.tmp 123) (.tmp 126) f.2 b9 w fun bu w=>
   X1 bu (
    fieldAddr P T.b (.pointer (some q)) 7 w fun b4 w=>
    Q2 P T.g b4 w fun bz w=>
    indexAddr P T.g bz f.2 w fun bn w=>
    Q2 P T.d bn w fun bh w=>
    L3 P T.d w fun t9 w=>
    Z6 P T.d t9 bh w fun _u w=>
    Q1 f.1 true w (Q2 P T.d t9) fun b6 w=>
    Q1 f.1 true w (Q0 P F.a2 [b6]) fun bv w=>
    pick P f.1 bv (.bool false) w fun k w=>
    Q1 k true w (fieldAddr P T.d t9 3) fun bi w=>
    Q1 k true w (Q2 P T.o bi) fun bc w=>
    Q1 k true w (J3 P .not bc) fun be w=>
    Q1 k true w (fun w J=>J be w) fun Q w=>
    Q1 Q false w (fieldAddr P T.b (.pointer (some q)) 4) fun b0 w=>
    Q1 Q false w (Q2 P T.o b0) fun b5 w=>
    Q1 k true w (pick P Q (.bool true) b5) fun bp w=>
    pick P k bp (.bool false) w fun j w=>
    Q1 j true w (fieldAddr P T.b (.pointer (some q)) 3) fun bl w=>
    Q1 j true w (Q2 P T.o bl) fun b2 w=>
    Q1 j true w (J3 P .not b2) fun cc w=>
    Q1 j true w (fun w J=>J cc w) fun N w=>
    Q1 N false w (fieldAddr P T.d t9 3) fun b3 w=>
    Q1 N false w (Q2 P T.o b3) fun bq w=>
    Q1 j true w (pick P N (.bool true) bq) fun bb w=>
    pick P j bb (.bool false) w fun b8 w=>
    lp (α:=Value×Value) (b8,(.int .i64 0)) w fun O b d_ w=>
     Q3 P .lss T.e (.tmp 158) (.tmp 159) b.2 f.2 w fun ca w=>
     X1 ca (
      dr w fun d n=>
      Q5 d (fun p=> ∀w:World,n w→Q1 b.1 true w (fieldAddr P T.b (.pointer (some q)) 7) (dk d p w)) fun p=>
      Q5 d (fun s=> ∀w:World,n w→Q1 b.1 true w (fun w J=>J b.2 w) (dk d s w)) fun s=>
      Q5 d (fun z=> ∀w:World,n w→Q1 b.1 true w (fieldAddr P T.d t9 0) (dk d z w)) fun z=>
      Q5 d (fun E=> ∀D:Value,∀w:World,n w→p D w→Q1 b.1 true w (Q2 P T.g D) (dk d E w)) fun E=>
      Q5 d (fun t=> ∀C:Value,∀A:Value,∀w:World,n w→E C w→s A w→Q1 b.1 true w (indexAddr P T.g C A) (dk d t w)) fun t=>
      Q5 d (fun B=> ∀r:Value,∀w:World,n w→t r w→Q1 b.1 true w (fieldAddr P T.d r 0) (dk d B w)) fun B=>
      Q5 d (fun M=> ∀u:Value,∀w:World,n w→B u w→Q1 b.1 true w (Q2 P T.a u) (dk d M w)) fun M=>
      Q5 d (fun L=> ∀y:Value,∀w:World,n w→z y w→Q1 b.1 true w (Q2 P T.a y) (dk d L w)) fun L=>
      ∀D:Value,∀A:Value,∀y:Value,∀C:Value,∀r:Value,∀u:Value,∀V:Value,∀ak:Value,∀w:World,n w→p D w→s A w→z y w→E C w→t r w→B u w→M V w→L ak w→
      Q1 b.1 true w (Q3 P .neq T.a (.tmp 170) (.tmp 172) V ak) fun bs w=>
      pick P b.1 bs (.bool false) w fun bd w=>
      Q3 P .add T.e (.tmp 161) (.const (.int .i64 1)) b.2 (.int .i64 1) w fun br w=>
      O (bd,br) w) (
      Q3 P .add T.e (.tmp 128) (.const (.int .i64 1)) f.2 (.int .i64 1) w fun bg w=>
      H (b.1,bg) w)) (
    Q1 f.1 true w (fieldAddr P T.b (.pointer (some q)) 3) fun aj w=>
    Q1 f.1 true w (Q2 P T.o aj) fun ad w=>
    Q1 f.1 true w (J3 P .not ad) fun W w=>
    Q1 f.1 true w (fun w J=>J W w) fun g w=>
    Q1 g false w (fieldAddr P T.b (.pointer (some q)) 4) fun aa w=>
    Q1 g false w (Q2 P T.o aa) fun ai w=>
    Q1 g false w (fun w J=>J ai w) fun i w=>
    Q1 i true w (fieldAddr P T.b (.pointer (some q)) 1) fun Y w=>
    Q1 i true w (Q2 P T.a Y) fun ab w=>
    Q1 i true w (Q3 P .eql T.a (.tmp 185) (.const (.string ⟨#[79,98,106,101,99,116]⟩)) ab (.string ⟨#[79,98,106,101,99,116]⟩)) fun X w=>
    Q1 g false w (pick P i X (.bool false)) fun ah w=>
    Q1 f.1 true w (pick P g (.bool true) ah) fun Z w=>
    pick P f.1 Z (.bool false) w fun a w=>
    Q1 a true w (fieldAddr P T.b (.pointer (some q)) 4) fun R w=>
    Q1 a true w (Q2 P T.o R) fun af w=>
    Q1 a true w (fun w J=>J af w) fun m w=>
    Q1 m true w (fieldAddr P T.b (.pointer (some q)) 5) fun ac w=>
    Q1 m true w (Q2 P T.o ac) fun ae w=>
    Q1 a true w (pick P m ae (.bool false)) fun U w=>
    Q1 a true w (J3 P .not U) fun am w=>
    pick P a am (.bool false) w fun al w=>
    K al w)) an.sat (hq.up an) (g2.up an) fun w3 σ3 bf=>
  X2k (J:=fun v w=>Q1 v true w (fieldAddr P T.b (.pointer (some q)) 3) fun aj w=>
   Q1 v true w (Q2 P T.o aj) fun ad w=>
   Q1 v true w (J3 P .not ad) fun W w=>
   Q1 v true w (fun w J=>J W w) fun g w=>
   Q1 g false w (fieldAddr P T.b (.pointer (some q)) 4) fun aa w=>
   Q1 g false w (Q2 P T.o aa) fun ai w=>
   Q1 g false w (fun w J=>J ai w) fun i w=>
   Q1 i true w (fieldAddr P T.b (.pointer (some q)) 1) fun Y w=>
   Q1 i true w (Q2 P T.a Y) fun ab w=>
   Q1 i true w (Q3 P .eql T.a (.tmp 185) (.const (.string ⟨#[79,98,106,101,99,116]⟩)) ab (.string ⟨#[79,98,106,101,99,116]⟩)) fun X w=>
   Q1 g false w (pick P i X (.bool false)) fun ah w=>
   Q1 v true w (pick P g (.bool true) ah) fun Z w=>
   pick P v Z (.bool false) w fun a w=>
   Q1 a true w (fieldAddr P T.b (.pointer (some q)) 4) fun R w=>
   Q1 a true w (Q2 P T.o R) fun af w=>
   Q1 a true w (fun w J=>J af w) fun m w=>
   Q1 m true w (fieldAddr P T.b (.pointer (some q)) 5) fun ac w=>
   Q1 m true w (Q2 P T.o ac) fun ae w=>
   Q1 a true w (pick P m ae (.bool false)) fun U w=>
   Q1 a true w (J3 P .not U) fun am w=>
   pick P a am (.bool false) w fun al w=>
   K al w) bf.sat ((hq.up an).up bf) ((g3.up an).up bf) fun w4 σ4 ci=>
  X2X (K:=K) ci.sat (((hq.up an).up bf).up ci) (by rw[e];exact h _ _ (cb.trans (an.trans (bf.trans ci))))
 (repeat refine Hd.h ?_)
 refine ld bw hq rfl ?_
 refine Xo c.name cx ?_
 cases d1:W7 c.name with
 | false=>(repeat refine Hd.h ?_);exact ch false (by rw[d1];rfl)
 | true=>
  (repeat refine Hd.h ?_)
  refine ld bw hq rfl ?_
  (repeat refine Hd.h ?_)
  refine Xo c.super c3 ?_
  cases d2:W7 c.super with
  | false=>(repeat refine Hd.h ?_);exact ch false (by rw[d1,d2];rfl)
  | true=>
   (repeat refine Hd.h ?_)
   refine ld bw hq rfl ?_
   (repeat refine Hd.h ?_)
   refine ld bw hq rfl ?_
   (repeat refine Hd.h ?_)
   refine I4 ?_
   (repeat refine Hd.h ?_)
   exact ch _ (by rw[d1,d2];rfl))
theorem Q3U {c:Cla} {cs:List Value} (s:X4 w σ) (e:V4 σ c cs) (h: ∀w' m,Stp w σ w' m→K (I (M7 c)) w'):Q0 P F.bA [.agg cs.toArray] w K:=Kc (by
 unfold Wr
 have i:=Rep.one (R:=V4) e
 obtain ⟨p,t,mv,rfl,r,o,n,k,l⟩:=e
 have e:V4 σ c _:=⟨p,t,mv,rfl,r,o,n,k,l⟩
 refine Z1 s fun q w1 σ1 b j=>?_
 unfold M7 at h
 refine Z2 b.sat j rfl ?_
 refine X11 b.sat (RCl_lift e ⟨b.le⟩) fun z u a=>?_
 cases f:Yv c with
 | true=>simp only[f,if_true] at h;(try simp only[↓M1,M1,Mb,reduceIte]);exact h _ _ (b.trans a)
 | false=>
  simp only[f,Bool.false_eq_true,if_false] at h
  (try simp only[↓M1,M1,Mb,reduceIte])
  refine Z2 a.sat (j.up a) rfl ?_
  refine X0n a.sat (RCl_lift e ⟨(b.trans a).le⟩) fun v y d=>?_
  rw[X0X]
  cases g:Lj c with
  | true=>simp only[g,if_true] at h;(try simp only[↓M1,M1,Mb,reduceIte]);exact h _ _ (b.trans (a.trans d))
  | false=>simp only[g,Bool.false_eq_true,if_false] at h;(try simp only[↓M1,M1,Mb,reduceIte]);exact h _ _ (b.trans (a.trans d)))
end Go.Proofs.YtfppjenblllfaaaGreatDoor

namespace Go.Emb
open Go.RowKit Go.Hm
end Go.Emb
namespace Go.Hm
end Go.Hm
namespace Go.Proofs.YtfppjenblllfaaaGreatDoor
open Go.Emb Go.RowKit Go.Kd Go.Hm
variable {w : World} {K : Value → World → Prop} {σ : Q4} {l : List Cla}
theorem Q5n {a b:Q9} (ok:Ok (Q7 l)) (g:a.length≤Y9) (f:b.length≤Y9):(I3 (Q7 l) a b).length≤Y9:=by
 unfold I3
 split
 ·exact f
 split
 ·exact g
 split
 ·exact Nat.zero_le _
 split
 ·rename_i c d
  have e:=(Bd ok.acy _ (Nat.lt_succ_self _) (List.mem_of_find?_eq_some d)).2
  have:=(ok.nm c (V1 e).2.1).1
  exact Nat.le_trans this (by decide)
 ·decide
end Go.Proofs.YtfppjenblllfaaaGreatDoor

namespace Go.Hm
open Go.Kd
structure Alike (l m : List Cla) : Prop where
  lk : lk l = lk m
  len : l.length = m.length
  weigh : weigh l [] = weigh m []
section
variable {l m : List Cla} (h : Alike l m)
include h
end
theorem X2P {l:List Cla} {frm:Nat}: ∀(f:Nat) (out:List Nat) (i:Nat),∀y∈P1 l frm f out i,y∈out∨frm≤y:=by
 intro f
 induction f with
 | zero=>intro out i y hy;exact .inl hy
 | succ f c=>
  intro out i y hy
  simp only[P1] at hy
  split at hy
  ·exact .inl hy
  ·split at hy
   ·exact .inl hy
   ·rename_i d _
    rcases List.mem_append.1 hy with hy | hy
    ·exact Vw (p:=fun y=>frm≤y) _ _ (fun b x _ z a=>c b _ z a) y hy
    ·simp at hy;omega
theorem X0U {a:List Cla} (g:K4 a): ∀j∈V5 a 8,8≤j∧j<a.length:=by
 intro j c
 unfold V5 at c
 have i:=Vw (p:=fun y=>8≤y) _ _ (fun b x _ z d=>X2P _ b x z d) j c
 have f:=Vw (p:=fun y=>y<a.length) _ _ (fun b x e z d=>(Q5H g (by omega) _ b x (by
  have:=List.mem_of_mem_drop e
  simpa using this) z d).imp id (·.1)) j c
 exact ⟨i.resolve_left (by simp),f.resolve_left (by simp)⟩
end Go.Hm
namespace Go.Proofs.YtfppjenblllfaaaGreatDoor
open Go.Emb Go.RowKit Go.Kd Go.Hm
end Go.Proofs.YtfppjenblllfaaaGreatDoor

namespace Go.Hm
open Go.Kd
theorem Q8S {a:List Cla} {m:Nat} (b:m<a.length):Y7 a (Y3 a m)=some m↔Y7 (a.take m) (Y3 a m)=none:=by
 have f:Y3 a m=a[m].name:=by unfold Y3;rw[List.getD_eq_getElem?_getD,List.getElem?_eq_getElem b];rfl
 unfold Y7
 rw[List.findIdx?_eq_some_iff_getElem,List.findIdx?_eq_none_iff]
 constructor
 ·rintro ⟨k,i,e⟩ c g
  obtain ⟨j,d,rfl⟩:=List.mem_take_iff_getElem.1 g
  simpa using e j (by omega)
 ·intro h
  refine ⟨b,by simp[f],fun j d=>?_⟩
  simpa using h a[j] (List.mem_take_iff_getElem.2 ⟨j,by omega,rfl⟩)
theorem Q8T {a:List Cla} (d:K4 a) {m:Nat} (b:m<a.length):Jq a (Y3 a m) (Y3 a m)=K0 a a[m]:=by
 have c:Y3 a m=a[m].name:=by unfold Y3;rw[List.getD_eq_getElem?_getD,List.getElem?_eq_getElem b];rfl
 unfold Jq K0
 rw[Xp d b,List.getD_eq_getElem?_getD,List.getElem?_eq_getElem b]
 simp only[Option.getD_some,c]
end Go.Hm
namespace Go.Proofs.YtfppjenblllfaaaGreatDoor
open Go.Emb Go.RowKit Go.Kd Go.Hm
variable {w : World} {K : Value → World → Prop} {σ : Q4} {l : List Cla}
theorem Q9i: ∀c∈G3,Yv c=false:=by decide
theorem Q8D {c:Cla} (h:M7 c=0):Yv c=false:=by
 unfold M7 at h
 split at h
 ·cases h
 ·rename_i a;exact eq_false_of_ne_true a
set_option maxHeartbeats 4000000 in
theorem X2O {lv:Value} (hs:X4 w σ) (hl:Sl 8 V4 σ lv l) (cv:l.length≤900)
 (C: ∀i e w' B,Hw M7 l=some (i,e)→Stp w σ w' B→K (.tuple #[.slice none 0 0,I i,I e]) w')
 (h0: ∀v w' B,Hw M7 l=none→Stp w σ w' B→Sl 8 V4 B v (Q7 l)→Ok (Q7 l)→K4 (Q7 l)→K (.tuple #[v,I 0,I 0]) w'):Q0 P F.bT [lv] w K:=Q0O (by
 unfold Dj
 have y:G3.length=8:=rfl
 have c7:(Q7 l).length=8+l.length:=by simp[Q7,y]
 refine X05 hs fun x0 w1 σ1 cf bf=>?_
 refine Q92 bf ?_
 rw[y]
 refine E3 l.length (fun n x w'=> ∃B,Stp w σ w' B∧V3 w.heap.size T.b 8 V4 B w' x (G3++l.take n)∧M0 M7 l 0=M0 M7 (l.drop n) n)
  ⟨σ1,cf,by simpa using bf,rfl⟩ fun n x w4 d D b=>?_
 obtain ⟨σ4,Y,ay,H⟩:=b
 have aa:=hl.up Y
 refine X0 aa ?_
 refine Z4 ?_
 refine Q6 (fun hh=>?_) (fun hh=>?_)
 ·have a:n<l.length:=by simpa using hh
  obtain ⟨bj,cb,ca,p1,r1⟩:=aa.elC a
  refine U7 aa a ?_
  refine Z2 Y.sat p1 rfl ?_
  refine Q3U Y.sat r1 fun w6 σ6 ac=>?_
  have cd:=Y.trans ac
  have U:=Vh a H
  refine A0 ?_
  refine Q6 (fun m=>?_) (fun m=>?_)
  ·have r: ¬M7 l[n]=0:=by simpa using m
   rw[if_neg r] at U
   refine C _ _ _ _ ?_ cd
   unfold Hw
   rw[U]
  ·have hz:M7 l[n]=0:=by simpa using m
   rw[if_pos hz] at U
   refine U7 (aa.up ac) a ?_
   refine Z2 ac.sat (p1.up ac) rfl ?_
   have cn:=ay.up ac
   have r6:=RCl_lift r1 ⟨ac.le⟩
   refine Us (R:=V4) (x:=l[n]) cd cn (by simpa [Value.cells] using r6) rfl rfl rfl (by simp[y];omega) (by simp[y];omega) fun s v' w9 σ9 du p co a0=>?_
   refine H3 ?_
   refine J1 aa.max a ⟨σ9,p,?_,U⟩
   rw[List.take_add_one,List.getElem?_eq_getElem a,←List.append_assoc]
   exact co
 have a: ¬n<l.length:=by simpa using hh
 rw[List.take_of_length_le (by omega)] at ay
 rw[List.drop_eq_nil_of_le (by omega)] at H
 have H:M0 M7 l 0=none:=H
 have bl:=I7 H
 have bh: ∀c∈l,Qn c∧Nm c∧c.name≠[]:=fun c hc=>Bo (bl c hc)
 have q: ∀c∈Q7 l,Qn c:=fun c hc=>by
  rcases List.mem_append.1 hc with hc | hc
  ·exact (Jf c hc).1
  ·exact (bh c hc).1
 have a1: ∀c∈Q7 l,Nm c:=fun c hc=>by
  rcases List.mem_append.1 hc with hc | hc
  ·exact (Jf c hc).2.1
  ·exact (bh c hc).2.1
 have Z: ∀c∈Q7 l,Yv c=false:=fun c hc=>by
  rcases List.mem_append.1 hc with hc | hc
  ·exact Q9i c hc
  ·exact Q8D (bl c hc)
 have ap:(Q7 l).length≤100000:=by omega
 unfold Hw at C h0
 rw[H] at C h0
 simp only at C h0
 obtain ⟨σ5,o,J,c4,cx⟩:=ay.keep Y
 change Sl 8 V4 σ5 x (Q7 l) at J
 clear ay Y aa a hh D H bf cf
 have A: ∀{n:Nat} (D:n<l.length),∃(h:8+n<(Q7 l).length),(Q7 l)[8+n]=l[n]:=fun {n} D=>⟨by omega,by
  unfold Q7
  rw[List.getElem_append_right (by rw[y];omega)]
  congr 1
  rw[y];omega⟩
 have b2: ∀{n:Nat} (D:n<l.length),Y3 (Q7 l) (8+n)=l[n].name:=fun {n} D=>by
  obtain ⟨C,h2⟩:=A D
  rw[Kr C,h2]
 have b8: ∀j,j<8→(Y7 ((Q7 l).take j) (Y3 (Q7 l) j)).isSome=false:=by
  have hd: ∀j,j<8→(Y7 (G3.take j) (Y3 G3 j)).isSome=false:=by decide
  intro j hj
  have e1:(Q7 l).take j=G3.take j:=by unfold Q7;rw[List.take_append_of_le_length (by rw[y];omega)]
  have e2:Y3 (Q7 l) j=Y3 G3 j:=by
   unfold Y3 Q7;rw[List.getD_eq_getElem?_getD,List.getD_eq_getElem?_getD,List.getElem?_append_left (by rw[y];omega)]
  rw[e1,e2];exact hd j hj
 refine U4 l.length (fun n w'=>Stp w σ w' σ5∧ ∀j,j<8+n→(Y7 ((Q7 l).take j) (Y3 (Q7 l) j)).isSome=false) ⟨o,by simpa using b8⟩ fun n w5 d D b=>?_
 clear o
 obtain ⟨o,a4⟩:=b
 have an:=hl.up o
 refine X0 an ?_
 refine Z4 ?_
 refine Q6 (fun hh=>?_) (fun hh=>?_)
 ·have a:n<l.length:=by simpa using hh
  obtain ⟨bj,cb,ca,p1,r1⟩:=an.elC a
  refine U7 an a ?_
  (try simp only[↓M1,M1,Mb,reduceIte])
  refine ld o.sat p1 rfl ?_
  refine Qg o.sat J ?_
  rw[F3 (by omega) (by omega)]
  refine A0 ?_
  obtain ⟨W,e8⟩:=A a
  rw[←b2 a]
  have bp:=Q8S W
  cases ah:Y7 ((Q7 l).take (8+n)) (Y3 (Q7 l) (8+n)) with
  | none=>
   rw[bp.2 ah]
   have e:decide (L2 (some (8+n))=(8:Nat)+(n:Int))=true:=by simp[L2]
   rw[e]
   (try simp only[↓M1,M1,Mb,reduceIte])
   refine Y6 an.max a ⟨o,fun j hj=>?_⟩
   by_cases ej:j=8+n
   ·rw[ej,ah];rfl
   ·exact a4 j (by omega)
  | some i=>
   have r:Y7 (Q7 l) (Y3 (Q7 l) (8+n))≠some (8+n):=fun e=>by rw[bp.1 e] at ah;cases ah
   have e:decide (L2 (Y7 (Q7 l) (Y3 (Q7 l) (8+n)))=(8:Nat)+(n:Int))=false:=by
    rw[decide_eq_false_iff_not]
    intro e
    cases hf:Y7 (Q7 l) (Y3 (Q7 l) (8+n)) with
    | none=>rw[hf] at e;simp only[L2] at e;omega
    | some k=>
     rw[hf] at e r
     simp only[L2] at e
     apply r
     congr 1;omega
   rw[e]
   (try simp only[↓M1,M1,Mb,reduceIte])
   have V:Rp (Q7 l)=some (8+n):=by
    unfold Rp
    rw[List.find?_range_eq_some]
    refine ⟨by rw[ah];rfl,by simpa using W,fun j hj=>by rw[a4 j hj];rfl⟩
   refine C _ _ _ _ ?_ o
   rw[V]
   have:((8+n:Nat):Int)-8=n:=by omega
   simp only[this]
 have a: ¬n<l.length:=by simpa using hh
 have V:Rp (Q7 l)=none:=by
  unfold Rp
  rw[List.find?_eq_none]
  intro j hj
  rw[a4 j (by have:=List.mem_range.1 hj;omega)];simp
 rw[V] at C h0
 simp only at C h0
 have g:=Ky V
 clear a4 hh a D an b8
 refine U4 l.length (fun n w'=> ∃B,Stp w σ w' B∧SLe σ5 B∧M0 (fun c=>(M4 (Q7 l) c:Int)) l 0=M0 (fun c=>(M4 (Q7 l) c:Int)) (l.drop n) n) ⟨σ5,o,SLe.refl _,rfl⟩ fun n w6 d D b=>?_
 obtain ⟨σ9,p,ak,ab⟩:=b
 have aj:=hl.up p
 refine X0 aj ?_
 refine Z4 ?_
 refine Q6 (fun hh=>?_) (fun hh=>?_)
 ·have a:n<l.length:=by simpa using hh
  obtain ⟨bj,cb,ca,p1,r1⟩:=aj.elC a
  refine U7 aj a ?_
  refine Z2 p.sat p1 rfl ?_
  have Q:=Vh a ab
  refine Q8k p.sat (J.lift ak) r1 fun w8 cq ax=>?_
  refine A0 ?_
  refine Q6 (fun m=>?_) (fun m=>?_)
  ·have r: ¬(M4 (Q7 l) l[n]:Int)=0:=by simpa using m
   rw[if_neg r] at Q
   refine C _ _ _ _ ?_ (p.trans ax)
   rw[Q]
  ·have hz:(M4 (Q7 l) l[n]:Int)=0:=by simpa using m
   rw[if_pos hz] at Q
   refine H3 ?_
   exact Y6 aj.max a ⟨cq,p.trans ax,ak.more ⟨ax.le⟩,Q⟩
 have a: ¬n<l.length:=by simpa using hh
 rw[List.drop_eq_nil_of_le (by omega)] at ab
 have ab:M0 (fun c=>(M4 (Q7 l) c:Int)) l 0=none:=ab
 rw[ab] at C h0
 simp only at C h0
 have b5:=I7 ab
 clear hh a D o aj
 refine Q4p p.sat (J.lift ak) g (by omega) (by omega) q fun vb de bs am aq=>?_
 have f:=p.trans am
 have a7:=ak.more ⟨am.le⟩
 have a2:(Yn (Q7 l)).length=(Q7 l).length:=by simp[Yn]
 refine U4 l.length (fun n w'=>Stp w σ w' bs∧ ∀j (hj:j<l.length),j<n→K0 (Q7 l) l[j]=false) ⟨f,fun j _ h=>by omega⟩ fun n dm d D b=>?_
 clear f
 obtain ⟨f,az⟩:=b
 have ar:=hl.up f
 refine X0 ar ?_
 refine Z4 ?_
 refine Q6 (fun hh=>?_) (fun hh=>?_)
 ·have a:n<l.length:=by simpa using hh
  obtain ⟨W,e8⟩:=A a
  refine Gh ⟨by omega,by omega⟩ ?_
  have ec:((8:Nat):Int)+(n:Int)=((8+n:Nat):Int):=by omega
  rw[ec]
  obtain ⟨dn,pb,_,rv,rfl,rb⟩:=aq.el (i:=8+n) (by rw[a2];exact W)
  have b7:(Yn (Q7 l))[8+n]'(by rw[a2];exact W)=(List.range (Q7 l).length).map fun j=>Jq (Q7 l) (Y3 (Q7 l) (8+n)) (Y3 (Q7 l) j):=by simp[Yn]
  rw[b7] at rb
  obtain ⟨cl,be,_,aw⟩:=rb.el (i:=8+n) (by simpa using W)
  have aw:cl=_:=aw
  subst aw
  simp only[List.getElem_map,List.getElem_range] at be
  rw[Q8T g W,e8] at be
  refine U7 aq (by rw[a2];exact W) ?_
  refine Y0 f.sat pb rfl ?_
  refine Gh ⟨by omega,by omega⟩ ?_
  rw[ec]
  refine U7 rb (by simpa using W) ?_
  refine Y0 f.sat be rfl ?_
  cases b4:K0 (Q7 l) l[n] with
  | true=>
   (try simp only[↓M1,M1,Mb,reduceIte])
   have bg:l.findIdx? (K0 (Q7 l))=some n:=by
    rw[List.findIdx?_eq_some_iff_getElem]
    exact ⟨a,b4,fun j hj=>by simpa using az j (by omega) hj⟩
   refine C _ _ _ _ ?_ f
   rw[bg]
  | false=>
   (try simp only[↓M1,M1,Mb,reduceIte])
   refine Y6 ar.max a ⟨f,fun j hj dj=>?_⟩
   by_cases e:j=n
   ·subst e;exact b4
   ·exact az j hj (by omega)
 have a: ¬n<l.length:=by simpa using hh
 have a8: ∀c∈l,K0 (Q7 l) c=false:=fun c hc=>by
  obtain ⟨j,hj,rfl⟩:=List.getElem_of_mem hc
  exact az j hj (by omega)
 have bg:l.findIdx? (K0 (Q7 l))=none:=by
  rw[List.findIdx?_eq_none_iff];exact a8
 rw[bg] at C h0
 simp only at C h0
 clear az hh a D ar aq am p a2
 have av:=Q6g g (fun c hc=>(bh c hc).2.2) a8
 have ai:Full (Q7 l):=fun c hc u hu=>by
  rcases List.mem_append.1 hc with hc | hc
  ·rw[(Jf c hc).2.2] at hu;simp at hu
  ·have:=b5 c hc
   unfold M4 at this
   split at this
   ·simp at this
   ·split at this
    ·simp at this
    ·rename_i t
     have t:c.like.any (D6 (Q7 l))=false:=eq_false_of_ne_true t
     have:=List.any_eq_false.1 t u hu
     unfold D6 at this
     cases hd:lk (Q7 l) u with
     | none=>rw[hd] at this;simp at this
     | some d=>exact ⟨d,rfl⟩
 have cc:Ok (Q7 l):=⟨av,ap,q,ai,a1⟩
 have b6: ∀i (hi:i<(Q7 l).length),8≤i→ ∀u∈J9 (Q7 l)[i],∃j,Y7 (Q7 l) u=some j:=fun i hi W u hu=>by
  have ao:i-8<l.length:=by omega
  obtain ⟨c2,e8⟩:=A ao
  have cu:(Q7 l)[i]=l[i-8]:=by rw[←e8];congr 1;omega
  rw[cu] at hu
  have a9:=List.getElem_mem ao
  rcases List.mem_cons.1 hu with hu | hu
  ·have:=b5 _ a9
   unfold M4 at this
   split at this
   ·simp at this
   ·rename_i t
    unfold Ql at t
    rw[←hu] at t
    cases hd:lk (Q7 l) u with
    | none=>rw[hd] at t;simp at t
    | some d=>obtain ⟨_,_,j,hj,_⟩:=V1 hd;exact ⟨j,hj⟩
  ·obtain ⟨d,hd⟩:=ai _ (List.mem_append_right _ a9) u hu
   obtain ⟨_,_,j,hj,_⟩:=V1 hd;exact ⟨j,hj⟩
 refine Q03 (R:=Vp) (e:=T.e) f (by decide) fun dq di bc a6 _=>?_
 refine E3 l.length (fun n x' w'=> ∃B out,Stp w σ w' B∧SLe σ5 B∧V3 w.heap.size T.e 1 Vp B w' x' (ints out)∧Few (Q7 l) out∧out=(((List.range (Q7 l).length).drop 8).take n).foldl (fun out i=>Xl (Q7 l) 8 out i) [])
  ⟨bs,[],f.trans bc,a7,a6,⟨List.nodup_nil,by simp⟩,rfl⟩ fun n x' dh d D b=>?_
 clear a6 bc f a7 ak
 obtain ⟨dv,out,M,N,af,ag,ae⟩:=b
 have ad:=hl.up M
 refine X0 ad ?_
 refine Z4 ?_
 refine Q6 (fun hh=>?_) (fun hh=>?_)
 ·have a:n<l.length:=by simpa using hh
  obtain ⟨W,e8⟩:=A a
  refine Gh ⟨by omega,by omega⟩ ?_
  have ec:((8:Nat):Int)+(n:Int)=((8+n:Nat):Int):=by omega
  rw[ec]
  refine X2N av g (by omega) q (by omega) b6 ((Q7 l).length+1) W (Nat.lt_succ_of_le (Q18 _ _)) ag M (J.lift N) af fun dc dp cr bo bk b9=>?_
  refine H3 ?_
  refine J1 ad.max a ⟨cr,_,bo,N.more bk,b9,Pc av g (by omega) _ _ _ W ag,?_⟩
  rw[List.take_add_one,List.getElem?_drop,List.getElem?_range W,List.foldl_append,←ae]
  rfl
 have a: ¬n<l.length:=by simpa using hh
 have cp:n=l.length:=by omega
 subst cp
 have bm:out=V5 (Q7 l) 8:=by
  rw[ae,List.take_of_length_le (by rw[List.length_drop,List.length_range];omega)];rfl
 subst bm
 clear ae hh a D
 have c6:=ag.len
 have ck:=X0U g
 obtain ⟨cg,bu,ce,a5,_⟩:=af.keep M
 have br:=N.more ⟨a5⟩
 clear af M a5 N ad
 have ao:(ints (V5 (Q7 l) 8)).length=(V5 (Q7 l) 8).length:=by simp
 refine U4 (V5 (Q7 l) 8).length (fun n w'=> ∃B,Stp w σ w' B∧SLe cg B∧ ∀j∈(V5 (Q7 l) 8).take n,V7 (Q7 l) ((Q7 l).getD j Cla.zero)=0) ⟨cg,bu,SLe.refl _,by simp⟩ fun n dd d D b=>?_
 obtain ⟨dl,O,L,a3⟩:=b
 have X:=ce.lift L
 refine X0 X ?_
 rw[ao]
 refine Z4 ?_
 refine Q6 (fun hh=>?_) (fun hh=>?_)
 ·have a:n<(V5 (Q7 l) 8).length:=by simpa using hh
  have bz:n<(ints (V5 (Q7 l) 8)).length:=by rw[ao];exact a
  refine U7 X bz ?_
  obtain ⟨cs,pc,_,ct⟩:=X.el bz
  obtain ⟨rfl,_⟩:=ct
  simp only[List.getElem_map] at pc
  refine Y0 O.sat pc rfl ?_
  have b3:=(ck _ (List.getElem_mem a)).2
  have a0:(Q7 l).getD (V5 (Q7 l) 8)[n] Cla.zero=(Q7 l)[(V5 (Q7 l) 8)[n]]:=by rw[List.getD_eq_getElem?_getD,List.getElem?_eq_getElem b3];rfl
  refine Q77 O.sat (J.lift (br.more L)) cc g (by omega) Z b3 fun c3 bw z=>?_
  have ba:=O.trans z
  refine A0 ?_
  refine Q6 (fun m=>?_) (fun m=>?_)
  ·have r: ¬V7 (Q7 l) (Q7 l)[(V5 (Q7 l) 8)[n]]=0:=by simpa using m
   have cw:=X.up z
   have bn:=pc.up z
   refine U8 z.sat ?_
   (repeat refine Z8 Xq ?_)
   (intros;(repeat (rename_i hx;subst hx));(try simp only[↓M2,M2,Mb,reduceIte]))
   rename_i cm bd
   refine Y0 bd.sat bn rfl ?_
   refine Hu ⟨by omega,by omega⟩ ?_
   have E:(V5 (Q7 l) 8).find? (fun j=> !decide (V7 (Q7 l) ((Q7 l).getD j Cla.zero)=0))=some (V5 (Q7 l) 8)[n]:=by
    rw[List.find?_eq_some_iff_getElem]
    refine ⟨by rw[a0];simpa using r,n,a,rfl,fun j hj=>?_⟩
    have:=a3 _ (List.mem_take_iff_getElem.2 ⟨j,by omega,rfl⟩)
    rw[this];simp
   have:=C (((V5 (Q7 l) 8)[n]:Int)-8) (V7 (Q7 l) (Q7 l)[(V5 (Q7 l) 8)[n]]) cm bw (by rw[E];simp only[a0]) (ba.trans bd.stp)
   exact this
  ·have hz:V7 (Q7 l) (Q7 l)[(V5 (Q7 l) 8)[n]]=0:=by simpa using m
   refine H3 ?_
   refine Y6 (by omega) a ⟨bw,ba,L.more ⟨z.le⟩,fun j hj=>?_⟩
   rw[List.take_add_one,List.getElem?_eq_getElem a] at hj
   rcases List.mem_append.1 hj with hj | hj
   ·exact a3 j hj
   ·simp at hj;subst hj;rw[a0];exact hz
 ·have a: ¬n<(V5 (Q7 l) 8).length:=by simpa using hh
  rw[List.take_of_length_le (by omega)] at a3
  have E:(V5 (Q7 l) 8).find? (fun j=> !decide (V7 (Q7 l) ((Q7 l).getD j Cla.zero)=0))=none:=by
   rw[List.find?_eq_none]
   intro j hj
   rw[a3 j hj];simp
  rw[E] at h0
  exact h0 _ _ _ rfl O (J.lift (br.more L)) cc g)
end Go.Proofs.YtfppjenblllfaaaGreatDoor

namespace Go.Hm
open Go.Kd
def Q8W:Ins:=⟨[105,110,116],1,[]⟩
def Q0h:Ins:=⟨[114,101,116,117,114,110],0,[]⟩
def kA:Q9:=[65]
def fX:Fld:=⟨[120],U9,false⟩
def Q13:Fld:=⟨[110,101,120,116],kA,false⟩
def fL:Fld:=⟨[108],[65,91,93],false⟩
def mF:Hm.Met:=⟨[102],[U9,kA],U9,false,3,[Q8W,Q0h],[]⟩
def mG:Hm.Met:=⟨[103],[],[],false,1,[Q0h],[]⟩
def cA:Cla:=⟨kA,J4,[],false,false,false,[fX,Q13],[mF,mG]⟩
def cB:Cla:=⟨[66],kA,[[73]],false,false,false,[fL],[]⟩
def cI:Cla:=⟨[73],J4,[],true,true,false,[],[]⟩
def cD:Cla:=⟨[68],J4,[],false,true,false,[],[]⟩
def Qy:List Cla:=[cA,cB,cI,cD]
end Go.Hm
namespace Go.Proofs.YtfppjenblllfaaaGreatDoor
open Go.Emb Go.RowKit Go.Kd Go.Hm
variable {w w' : World} {K : Value → World → Prop} {σ σ' : Q4} {ds : List Value} {l : List Cla} {hp tv : Value}
set_option maxRecDepth 100000 in
theorem Q2l:Hw M7 Qy=none:=by decide+kernel
theorem X2E: ∀c∈Qy,Qn c:=X3T (by decide)
theorem Q7F:Wf Qy:=X4C Q2l
set_option maxHeartbeats 1000000 in
theorem Q4L (Y:X4 w σ) (h: ∀v w' σ',Stp w σ w' σ'→Sl 8 V4 σ' v Qy→K v w'):Q0 P F.aA [] w K:=Bi (by
 unfold Vb
 refine W4 (cells:= #[S Q8W.op,I 1,S []]) (by kernel_rfl) ?_
 refine W4 (cells:= #[S Q0h.op,I 0,S []]) (by kernel_rfl) ?_
 refine O4 (R:=I0) (sz:=3) Y [.agg #[S Q8W.op,I 1,S []], .agg #[S Q0h.op,I 0,S []]] [Q8W,Q0h] rfl rfl (by simp;exact ⟨rfl,rfl⟩) rfl ⟨⟨rfl,by decide,by decide,by decide⟩,⟨rfl,by decide,by decide,by decide⟩,trivial⟩ fun v1 w1 σ1 s d=>?_
 refine W4 (cells:= #[S fX.name,S fX.kind, .bool false]) (by kernel_rfl) ?_
 refine W4 (cells:= #[S Q13.name,S Q13.kind, .bool false]) (by kernel_rfl) ?_
 refine O4 (R:=E5) (sz:=3) s.sat [.agg #[S fX.name,S fX.kind, .bool false], .agg #[S Q13.name,S Q13.kind, .bool false]] [fX,Q13] rfl rfl (by simp;exact ⟨rfl,rfl⟩) rfl ⟨⟨rfl,by decide,by decide⟩,⟨rfl,by decide,by decide⟩,trivial⟩ fun v2 w2 σ2 g c=>?_
 refine O4 (R:=X9) (sz:=1) g.sat [S U9,S kA] [U9,kA] rfl rfl (by simp;exact ⟨rfl,rfl⟩) rfl ⟨⟨rfl,by decide⟩,⟨rfl,by decide⟩,trivial⟩ fun v3 w3 σ3 e n=>?_
 have u:=d;have k:=c;have p:=n
 obtain ⟨L,D,rfl,_⟩:=u
 obtain ⟨H,Q,rfl,_⟩:=k
 obtain ⟨C,X,rfl,_⟩:=p
 have d:=(d.up g).up e
 have c:=c.up e
 refine W4 (cells:= #[S mF.name, .slice C 2 X,S U9, .bool false,I 3, .slice L 2 D, .slice none 0 0]) (by kernel_rfl) ?_
 refine W4 (cells:= #[S Q0h.op,I 0,S []]) (by kernel_rfl) ?_
 refine O4 (R:=I0) (sz:=3) e.sat [.agg #[S Q0h.op,I 0,S []]] [Q0h] rfl rfl (by simp;rfl) rfl ⟨⟨rfl,by decide,by decide,by decide⟩,trivial⟩ fun v4 w4 σ4 a q=>?_
 have o:=q
 obtain ⟨O,E,rfl,_⟩:=o
 refine W4 (cells:= #[S mG.name, .slice none 0 0,S [], .bool false,I 1, .slice O 1 E, .slice none 0 0]) (by kernel_rfl) ?_
 refine O4 (R:=L9) (sz:=7) a.sat [.agg #[S mF.name, .slice C 2 X,S U9, .bool false,I 3, .slice L 2 D, .slice none 0 0], .agg #[S mG.name, .slice none 0 0,S [], .bool false,I 1, .slice O 1 E, .slice none 0 0]] [mF,mG] rfl rfl (by simp;exact ⟨rfl,rfl⟩) rfl
  ⟨⟨_,_,_,rfl,n.up a,d.up a,Sl.nil,by decide,by decide,by decide⟩,⟨_,_,_,rfl,Sl.nil,q,Sl.nil,by decide,by decide,by decide⟩,trivial⟩ fun v5 w5 σ5 i z=>?_
 have t:=z
 obtain ⟨U,M,rfl,_⟩:=t
 refine W4 (cells:= #[S kA,S J4, .slice none 0 0, .bool false, .bool false, .bool false, .slice H 2 Q, .slice U 2 M]) (by kernel_rfl) ?_
 refine O4 (R:=X9) (sz:=1) i.sat [S [73]] [[73]] rfl rfl (by simp;rfl) rfl ⟨⟨rfl,by decide⟩,trivial⟩ fun v6 w6 σ6 f r=>?_
 have y:=r
 obtain ⟨W,V,rfl,_⟩:=y
 refine W4 (cells:= #[S fL.name,S fL.kind, .bool false]) (by kernel_rfl) ?_
 refine O4 (R:=E5) (sz:=3) f.sat [.agg #[S fL.name,S fL.kind, .bool false]] [fL] rfl rfl (by simp;rfl) rfl ⟨⟨rfl,by decide,by decide⟩,trivial⟩ fun v7 w7 Z b j=>?_
 have m:=j
 obtain ⟨N,J,rfl,_⟩:=m
 refine W4 (cells:= #[S cB.name,S kA, .slice W 1 V, .bool false, .bool false, .bool false, .slice N 1 J, .slice none 0 0]) (by kernel_rfl) ?_
 refine W4 (cells:= #[S cI.name,S J4, .slice none 0 0, .bool true, .bool true, .bool false, .slice none 0 0, .slice none 0 0]) (by kernel_rfl) ?_
 refine W4 (cells:= #[S cD.name,S J4, .slice none 0 0, .bool false, .bool true, .bool false, .slice none 0 0, .slice none 0 0]) (by kernel_rfl) ?_
 refine O4 (R:=V4) (sz:=8) b.sat [.agg #[S kA,S J4, .slice none 0 0, .bool false, .bool false, .bool false, .slice H 2 Q, .slice U 2 M], .agg #[S cB.name,S kA, .slice W 1 V, .bool false, .bool false, .bool false, .slice N 1 J, .slice none 0 0], .agg #[S cI.name,S J4, .slice none 0 0, .bool true, .bool true, .bool false, .slice none 0 0, .slice none 0 0], .agg #[S cD.name,S J4, .slice none 0 0, .bool false, .bool true, .bool false, .slice none 0 0, .slice none 0 0]] Qy rfl rfl (by simp;exact ⟨rfl,rfl,rfl,rfl⟩) rfl
  ⟨⟨_,_,_,rfl,Sl.nil,(((c.up a).up i).up f).up b,(z.up f).up b,by decide,by decide⟩,⟨_,_,_,rfl,r.up b,j,Sl.nil,by decide,by decide⟩,⟨_,_,_,rfl,Sl.nil,Sl.nil,Sl.nil,by decide,by decide⟩,⟨_,_,_,rfl,Sl.nil,Sl.nil,Sl.nil,by decide,by decide⟩,trivial⟩ fun v8 w8 σ8 B A=>?_
 exact h _ _ _ ((((((((s.trans g).trans e).trans a).trans i).trans f).trans b)).trans B) A)
end Go.Proofs.YtfppjenblllfaaaGreatDoor

namespace Go.Proofs.YtfppjenblllfaaaGreatDoor
open Go.Emb Go.RowKit Go.Kd Go.Hm
variable {w w' : World} {K : Value → World → Prop} {σ σ' : Q4} {v u : Value}
theorem Q6Q {xs ys:List Q9} (y:X4 w σ) (c:Sl 1 X9 σ v xs) (s:Sl 1 X9 σ u ys) (h: ∀w',Below w.heap.size w w'→K (.bool (decide (xs=ys))) w'):Q0 P F.a6 [v,u] w K:=Mx (by
 have k:=c.max
 unfold Qc
 refine X0 c ?_
 refine X0 s ?_
 refine A0 ?_
 by_cases m:xs.length=ys.length
 case neg=>
  rw[show (!decide ((xs.length:Int)=(ys.length:Nat)))=true from by simp;omega]
  refine J5 ?_
  have e:decide (xs=ys)=false:=decide_eq_false fun e=>m (by rw[e])
  rw[e] at h
  exact h _ (Below.refl _ _)
 rw[show (!decide ((xs.length:Int)=(ys.length:Nat)))=false from by simp[m]]
 refine V0 ?_
 first | refine X0 c ?_ | skip
 refine U4 xs.length (fun i w'=>Stp w σ w' σ∧ ∀j (g:j<xs.length) (f:j<ys.length),j<i→xs[j]=ys[j]) ⟨Stp.refl y,fun _ _ _ h=>absurd h (Nat.not_lt_zero _)⟩ fun i w1 d z t=>?_
 obtain ⟨o,q⟩:=t
 first | refine X0 c ?_ | skip
 refine Z4 ?_
 refine Q6 (fun n=>?_) (fun n=>?_)
 ·have b:i<xs.length:=by simpa using n
  have l:i<ys.length:=by omega
  obtain ⟨B,_⟩:=Sl.elS c b
  obtain ⟨E,_⟩:=Sl.elS s l
  refine U8 o.sat ?_
  (repeat refine Z8 Xq ?_)
  (intros;(repeat (rename_i a;subst a));(try simp only[↓M2,M2,Mb,reduceIte]))
  rename_i D p
  have r:=o.trans p.stp
  by_cases a:xs[i]=ys[i]
  ·simp only[decide_eq_true a,Bool.not_true,Wl]
   (try simp only[↓M1,M1,Mb,reduceIte])
   exact Y6 k b ⟨r,fun j g f A=>by
    by_cases e:j=i
    ·subst e;exact a
    ·exact q j g f (by omega)⟩
  ·simp only[decide_eq_false a,Bool.not_false,Ov]
   have e:decide (xs=ys)=false:=decide_eq_false fun e=>a (by subst e;rfl)
   rw[e] at h
   exact h _ r.bel
 ·have C:i=xs.length:=by
   have: ¬i<xs.length:=by simpa using n
   omega
  have e:decide (xs=ys)=true:=decide_eq_true (List.ext_getElem m fun j g f=>q j g f (by omega))
  rw[e] at h
  exact h _ o.bel)
theorem Q4c {xs ys:List Q9} (y:X4 w σ) (c:Sl 1 X9 σ v xs) (s:Sl 1 X9 σ u ys) (h: ∀w',Below w.heap.size w w'→K (.bool (decide (xs=ys))) w'):Q0 P F.aO [v,u] w K:=Tz (by
 have k:=c.max
 unfold Oi
 refine X0 c ?_
 refine X0 s ?_
 refine A0 ?_
 by_cases m:xs.length=ys.length
 case neg=>
  rw[show (!decide ((xs.length:Int)=(ys.length:Nat)))=true from by simp;omega]
  refine J5 ?_
  have e:decide (xs=ys)=false:=decide_eq_false fun e=>m (by rw[e])
  rw[e] at h
  exact h _ (Below.refl _ _)
 rw[show (!decide ((xs.length:Int)=(ys.length:Nat)))=false from by simp[m]]
 refine V0 ?_
 first | refine X0 c ?_ | skip
 refine U4 xs.length (fun i w'=>Stp w σ w' σ∧ ∀j (g:j<xs.length) (f:j<ys.length),j<i→xs[j]=ys[j]) ⟨Stp.refl y,fun _ _ _ h=>absurd h (Nat.not_lt_zero _)⟩ fun i w1 d z t=>?_
 obtain ⟨o,q⟩:=t
 first | refine X0 c ?_ | skip
 refine Z4 ?_
 refine Q6 (fun n=>?_) (fun n=>?_)
 ·have b:i<xs.length:=by simpa using n
  have l:i<ys.length:=by omega
  obtain ⟨B,_⟩:=Sl.elS c b
  obtain ⟨E,_⟩:=Sl.elS s l
  refine U8 o.sat ?_
  (repeat refine Z8 Xq ?_)
  (intros;(repeat (rename_i a;subst a));(try simp only[↓M2,M2,Mb,reduceIte]))
  rename_i D p
  have r:=o.trans p.stp
  by_cases a:xs[i]=ys[i]
  ·simp only[decide_eq_true a,Bool.not_true,Wl]
   (try simp only[↓M1,M1,Mb,reduceIte])
   exact Y6 k b ⟨r,fun j g f A=>by
    by_cases e:j=i
    ·subst e;exact a
    ·exact q j g f (by omega)⟩
  ·simp only[decide_eq_false a,Bool.not_false,Ov]
   have e:decide (xs=ys)=false:=decide_eq_false fun e=>a (by subst e;rfl)
   rw[e] at h
   exact h _ r.bel
 ·have C:i=xs.length:=by
   have: ¬i<xs.length:=by simpa using n
   omega
  have e:decide (xs=ys)=true:=decide_eq_true (List.ext_getElem m fun j g f=>q j g f (by omega))
  rw[e] at h
  exact h _ o.bel)
theorem X0u (a b:Shp):decide (a=b)=((a.seen==b.seen)&&(decide (a.stack=b.stack)&&decide (a.locals=b.locals))):=by
 cases a;cases b
 rw[Bool.eq_iff_iff]
 simp[Shp.mk.injEq,and_assoc]
theorem X36 {a b:Shp} {ds es:List Value} (t:X4 w σ) (y:W8 σ a ds) (s:W8 σ b es) (h: ∀w',Below w.heap.size w w'→K (.bool (decide (a=b))) w'):Q0 P F.cL [.agg ds.toArray, .agg es.toArray] w K:=Q7B (by
 obtain ⟨sv,J,rfl,r,q⟩:=y
 obtain ⟨A,mv,rfl,n,z⟩:=s
 rw[X0u] at h
 unfold Q1Q
 refine Z1 t fun D w1 σ1 m j=>?_
 refine Z1 m.sat fun E H B e f=>?_
 have d:=j.up e
 have c:=m.trans e
 refine J7 ?_
 refine ld (i:=0) e.sat d rfl ?_
 refine J7 ?_
 refine ld (i:=0) e.sat f rfl ?_
 rw[Q8m]
 cases l:(a.seen==b.seen) with
 | false=>
  rw[l] at h
  (repeat refine Hd.h ?_)
  exact h _ c.bel
 | true=>
  rw[l,Bool.true_and] at h
  (repeat refine Hd.h ?_)
  refine ld (i:=1) e.sat d rfl ?_
  (repeat refine Hd.h ?_)
  refine ld (i:=1) e.sat f rfl ?_
  (repeat refine Hd.h ?_)
  refine Q6Q e.sat (r.up c) (n.up c) fun C p=>?_
  have g:=Stp.of_below e.sat p
  cases k:decide (a.stack=b.stack) with
  | false=>
   rw[k] at h
   (repeat refine Hd.h ?_)
   exact h _ (c.trans g).bel
  | true=>
   rw[k,Bool.true_and] at h
   (repeat refine Hd.h ?_)
   refine ld (i:=2) g.sat d rfl ?_
   (repeat refine Hd.h ?_)
   refine ld (i:=2) g.sat f rfl ?_
   (repeat refine Hd.h ?_)
   refine Q6Q g.sat (q.up c) (z.up c) fun L o=>?_
   (repeat refine Hd.h ?_)
   exact h _ (c.trans (g.trans (Stp.of_below g.sat o))).bel)
theorem Q4y {a b:Shp} {ds es:List Value} (t:X4 w σ) (y:W8 σ a ds) (s:W8 σ b es) (h: ∀w',Below w.heap.size w w'→K (.bool (decide (a=b))) w'):Q0 P F.aM [.agg ds.toArray, .agg es.toArray] w K:=Pv (by
 obtain ⟨sv,J,rfl,r,q⟩:=y
 obtain ⟨A,mv,rfl,n,z⟩:=s
 rw[X0u] at h
 unfold Nl
 refine Z1 t fun D w1 σ1 m j=>?_
 refine Z1 m.sat fun E H B e f=>?_
 have d:=j.up e
 have c:=m.trans e
 refine J7 ?_
 refine ld (i:=0) e.sat d rfl ?_
 refine J7 ?_
 refine ld (i:=0) e.sat f rfl ?_
 rw[Q8m]
 cases l:(a.seen==b.seen) with
 | false=>
  rw[l] at h
  (repeat refine Hd.h ?_)
  exact h _ c.bel
 | true=>
  rw[l,Bool.true_and] at h
  (repeat refine Hd.h ?_)
  refine ld (i:=1) e.sat d rfl ?_
  (repeat refine Hd.h ?_)
  refine ld (i:=1) e.sat f rfl ?_
  (repeat refine Hd.h ?_)
  refine Q4c e.sat (r.up c) (n.up c) fun C p=>?_
  have g:=Stp.of_below e.sat p
  cases k:decide (a.stack=b.stack) with
  | false=>
   rw[k] at h
   (repeat refine Hd.h ?_)
   exact h _ (c.trans g).bel
  | true=>
   rw[k,Bool.true_and] at h
   (repeat refine Hd.h ?_)
   refine ld (i:=2) g.sat d rfl ?_
   (repeat refine Hd.h ?_)
   refine ld (i:=2) g.sat f rfl ?_
   (repeat refine Hd.h ?_)
   refine Q4c g.sat (q.up c) (z.up c) fun L o=>?_
   (repeat refine Hd.h ?_)
   exact h _ (c.trans (g.trans (Stp.of_below g.sat o))).bel)
end Go.Proofs.YtfppjenblllfaaaGreatDoor

namespace Go.Hm
open Go.Kd
structure Dr where
  stack : List Q9
  locals : List Q9
  e : Int
deriving DecidableEq
def Dr.wrong (d:Dr) (ok:Bool) (e:Int):Dr:=if ok=true then d else if d.e=0 then ⟨d.stack,d.locals,e⟩ else d
def Dr.taken (d:Dr) (n:Nat):List Q9:=if d.e=0∧n≤d.stack.length then d.stack.drop (d.stack.length-n) else List.replicate n []
def Dr.take (d:Dr) (n:Nat):Dr:=if d.e=0∧n≤d.stack.length then ⟨d.stack.take (d.stack.length-n),d.locals,0⟩ else d.wrong (decide (n≤d.stack.length)) 72
def Dr.put (d:Dr) (xs:List Q9):Dr:=if d.e=0 then ⟨d.stack++xs,d.locals,0⟩ else d
def Dr.put1 (d:Dr) (k:Q9):Dr:=if k=[] then d else d.put [k]
def Dr.all (l:List Cla) (d:Dr) (p:Q9) (a:List Q9):Dr:=((d.take a.length).wrong ((List.zipWith (O3 l) (d.taken a.length) a).all id) 73).put1 p
def F0 (d:Dr) (n:Int):Bool:=decide (0≤n)&&decide (n<(d.locals.length:Int))
def Lb (l:List Cla) (a:Q9):Bool:=R0 l a&& !plain a
def Dz (l:List Cla) (s:Q9):Bool:= !decide (s=C2)&&R0 l s
inductive Dact where
  | puts (k : Q9) | takes (p : Q9) (w : List Q9) | load | store | pop | dup | swap | size | nop | make | get | give | call | array | at_ | set_ | is | cast | ret | equal
deriving DecidableEq
def R9 (l:List Cla) (c f:Q9) (ok:Bool):Option (Q9×Q9):=if ok=true then (F2 l c f).map fun k=>(c,((U1 l c).getD k Fld.zero).kind) else none
def V9 (l:List Cla) (m:Hm.Met) (i:Ins) (c f:Q9) (ok:Bool) (d:Dr):Dact→Dr
 | .puts k=>d.put [k]
 | .takes p w=>d.all l p w
 | .load=>
  let a:=d.wrong (F0 d i.n) 74
  if a.e=0 then (let k:=a.locals.getD i.n.toNat [];let b:=a.wrong (!decide (k=[])) 74;if b.e=0 then b.put [k] else b) else a
 | .store=>
  let a:=d.wrong (F0 d i.n) 74
  let b:=a.take 1
  if b.e=0 then ⟨b.stack,b.locals.set i.n.toNat ((a.taken 1).getD 0 []),0⟩ else b
 | .pop=>d.take 1
 | .dup=>(d.take 1).put [(d.taken 1).getD 0 [],(d.taken 1).getD 0 []]
 | .swap=>(d.take 2).put [(d.taken 2).getD 1 [],(d.taken 2).getD 0 []]
 | .size=>((d.take 1).wrong (!decide (elem ((d.taken 1).getD 0 [])=[])) 73).put [U9]
 | .nop=>d
 | .make=>let a:=d.wrong (Zv l i.s) 76;if a.e=0 then a.put [i.s] else a
 | .get=>match R9 l c f ok with
  | some (c,k)=>d.all l k [c]
  | none=>(d.wrong false 76).all l [] [[]]
 | .give=>match R9 l c f ok with
  | some (c,k)=>d.all l [] [c,k]
  | none=>(d.wrong false 76).all l [] [[],[]]
 | .call=>match J0 l c f with
  | some (_,x)=>d.all l x.result (c::x.params)
  | none=>d.wrong false 76
 | .array=>((d.wrong (Dz l i.s) 76).wrong (right (i.s++[91,93])) 76).all l (i.s++[91,93]) [U9]
 | .at_=>
  let t:=d.taken 2
  (((d.take 2).wrong (O3 l (t.getD 1 []) U9) 73).wrong (!decide (elem (t.getD 0 [])=[])) 73).put [elem (t.getD 0 [])]
 | .set_=>
  let t:=d.taken 3
  let a:=d.take 3
  let k:=if a.e=0 then elem (t.getD 0 []) else []
  ((a.wrong (!decide (k=[])) 73).wrong (O3 l (t.getD 2 []) k) 73).wrong (O3 l (t.getD 1 []) U9) 73
 | .is=>let a:=d.wrong (Dz l i.s) 76;((a.take 1).wrong (Lb l ((a.taken 1).getD 0 [])) 73).put [L8]
 | .cast=>let a:=d.wrong (Dz l i.s) 76;((a.take 1).wrong (Lb l ((a.taken 1).getD 0 [])) 73).put [i.s]
 | .ret=>if m.result=[] then d else d.all l [] [m.result]
 | .equal=>let t:=d.taken 2;(((d.take 2).wrong (Lb l (t.getD 1 [])) 73).wrong (Lb l (t.getD 0 [])) 73).put [L8]
def Q9C:List (Q9×Dact):=[
 ([105,110,116], .puts U9),
 ([116,114,117,101], .puts L8),
 ([102,97,108,115,101], .puts L8),
 ([119,111,114,100], .puts O9),
 ([110,117,108,108], .puts C2),
 ([108,111,97,100], .load),
 ([115,116,111,114,101], .store),
 ([100,117,112], .dup),
 ([115,119,97,112], .swap),
 ([112,111,112], .pop),
 ([110,101,103], .takes U9 [U9]),
 ([110,111,116], .takes L8 [L8]),
 ([98,111,116,104], .takes L8 [L8,L8]),
 ([106,111,105,110], .takes O9 [O9,O9]),
 ([108,101,115,115], .takes L8 [U9,U9]),
 ([115,97,109,101], .takes L8 [U9,U9]),
 ([115,105,122,101], .size),
 ([106,117,109,112], .nop),
 ([98,114,97,110,99,104], .takes [] [L8]),
 ([110,101,119], .make),
 ([103,101,116], .get),
 ([112,117,116], .give),
 ([99,97,108,108], .call),
 ([97,114,114,97,121], .array),
 ([97,116], .at_),
 ([115,101,116], .set_),
 ([105,115], .is),
 ([99,97,115,116], .cast),
 ([114,101,116,117,114,110], .ret),
 ([116,104,114,111,119], .takes [] [W3]),
 ([111,117,116], .takes [] [U9]),
 ([101,113,117,97,108], .equal)]
def Q2K:List Q9:=[[97,100,100],[115,117,98],[109,117,108],[100,105,118],[114,101,109],[97,110,100],[111,114],[120,111,114],[115,104,108],[115,104,114]]
def Ly:List (Q9×Dact):=(Q2K.map fun o=>(o,Dact.takes U9 [U9,U9])).reverse++Q9C.reverse
def Rs (l:List Cla) (m:Hm.Met) (i:Ins) (c f:Q9) (ok:Bool) (s:Shp):Shp×Int:=
 match Ly.lookup i.op with
 | none=>(Shp.zero,76)
 | some a=>
  let d:=V9 l m i c f ok ⟨s.stack,s.locals,0⟩ a
  let b:=d.wrong (decide (d.stack.length≤24)) 72
  if b.e=0 then (⟨true,b.stack,b.locals⟩,0) else (Shp.zero,b.e)
def Dr.over (d:Dr) (u:List Q9):Dr:=⟨u++d.stack,d.locals,d.e⟩
theorem Dr.wrong_ok {d:Dr} {ok:Bool} {e:Int} (g:e≠0) (h:(d.wrong ok e).e=0):d.e=0∧ok=true∧d.wrong ok e=d:=by
 unfold Dr.wrong at*
 by_cases b:ok=true
 ·rw[if_pos b] at*;exact ⟨h,b,rfl⟩
 ·rw[if_neg b] at h
  by_cases a:d.e=0
  ·rw[if_pos a] at h;exact absurd h g
  ·rw[if_neg a] at h;exact absurd h a
theorem Dr.wrong_true {d:Dr} {e:Int}:d.wrong true e=d:=rfl
theorem Dr.take_ok {d:Dr} {n:Nat} (h:(d.take n).e=0):d.e=0∧n≤d.stack.length∧d.take n=⟨d.stack.take (d.stack.length-n),d.locals,0⟩∧d.taken n=d.stack.drop (d.stack.length-n):=by
 unfold Dr.take Dr.taken at*
 by_cases a:d.e=0∧n≤d.stack.length
 ·rw[if_pos a,if_pos a];exact ⟨a.1,a.2,rfl,rfl⟩
 ·rw[if_neg a] at h
  obtain ⟨g,b,_⟩:=Dr.wrong_ok (by decide) h
  exact absurd ⟨g,by simpa using b⟩ a
theorem Dr.put_e {d:Dr} {xs:List Q9}:(d.put xs).e=d.e:=by
 unfold Dr.put;split
 ·rename_i h;exact h.symm
 ·rfl
theorem Dr.put_ok {d:Dr} {xs:List Q9} (h:(d.put xs).e=0):d.e=0∧d.put xs=⟨d.stack++xs,d.locals,0⟩:=by
 rw[Dr.put_e] at h
 exact ⟨h,by unfold Dr.put;rw[if_pos h]⟩
theorem Q9t {n:Nat} {u s:List Q9} (h:n≤s.length):(u++s).drop ((u++s).length-n)=s.drop (s.length-n)∧(u++s).take ((u++s).length-n)=u++s.take (s.length-n):=by
 have e:(u++s).length-n=u.length+(s.length-n):=by simp;omega
 rw[e]
 exact ⟨by rw[List.drop_append];simp,by rw[List.take_append,List.take_of_length_le (by omega)];simp⟩
theorem Dr.over_take {d:Dr} {n:Nat} {u:List Q9} (h:(d.take n).e=0):(d.over u).take n=(d.take n).over u∧(d.over u).taken n=d.taken n:=by
 obtain ⟨b,a,o,p⟩:=Dr.take_ok h
 obtain ⟨j,k⟩:=Q9t (u:=u) a
 have g:(d.over u).e=0∧n≤(d.over u).stack.length:=⟨b,by simp[Dr.over];omega⟩
 constructor
 ·unfold Dr.take
  rw[if_pos g,if_pos ⟨b,a⟩]
  unfold Dr.over
  rw[k]
 ·unfold Dr.taken
  rw[if_pos g,if_pos ⟨b,a⟩]
  exact j
theorem Dr.over_wrong {d:Dr} {ok:Bool} {e:Int} {u:List Q9} (g:e≠0) (h:(d.wrong ok e).e=0):(d.over u).wrong ok e=(d.wrong ok e).over u:=by
 obtain ⟨_,b,a⟩:=Dr.wrong_ok g h
 rw[a,b];rfl
theorem Dr.over_put {d:Dr} {xs:List Q9} {u:List Q9} (h:(d.put xs).e=0):(d.over u).put xs=(d.put xs).over u:=by
 obtain ⟨b,a⟩:=Dr.put_ok h
 rw[a]
 unfold Dr.put Dr.over
 rw[if_pos b,List.append_assoc]
theorem Dr.over_put1 {d:Dr} {k:Q9} {u:List Q9} (h:(d.put1 k).e=0):(d.over u).put1 k=(d.put1 k).over u:=by
 unfold Dr.put1 at*
 split
 ·rfl
 ·rename_i a;rw[if_neg a] at h;exact Dr.over_put h
theorem Dr.put1_e {d:Dr} {k:Q9}:(d.put1 k).e=d.e:=by
 unfold Dr.put1;split
 ·rfl
 ·exact Dr.put_e
structure Eff (d d' : Dr) (n p : Nat) : Prop where
  e : d.e = 0
  le : n ≤ d.stack.length
  st : ∃ r, r.length = p ∧ d'.stack = d.stack.take (d.stack.length - n) ++ r
theorem Dr.all_ok {l:List Cla} {d:Dr} {p:Q9} {w:List Q9} (h:(d.all l p w).e=0):Eff d (d.all l p w) w.length (if p=[] then 0 else 1)∧(d.all l p w).locals=d.locals∧ ∀u,(d.over u).all l p w=(d.all l p w).over u:=by
 have j:=h
 unfold Dr.all at h
 rw[Dr.put1_e] at h
 obtain ⟨g,o,a⟩:=Dr.wrong_ok (by decide) h
 obtain ⟨k,n,b,q⟩:=Dr.take_ok g
 refine ⟨⟨k,n,?_⟩,?_,fun u=>?_⟩
 ·unfold Dr.all
  rw[a,b]
  unfold Dr.put1 Dr.put
  split
  ·exact ⟨[],rfl,by simp⟩
  ·exact ⟨[p],rfl,rfl⟩
 ·unfold Dr.all
  rw[a,b]
  unfold Dr.put1 Dr.put
  split<;>rfl
 ·unfold Dr.all at j⊢
  obtain ⟨o1,o2⟩:=Dr.over_take (u:=u) g
  rw[o1,o2,Dr.over_wrong (by decide) h,Dr.over_put1 j]
def Iu (l:List Cla) (m:Hm.Met) (i:Ins) (c f:Q9) (ok:Bool):Dact→Nat×Nat
 | .puts _=>(0,1)
 | .takes p w=>(w.length,if p=[] then 0 else 1)
 | .load=>(0,1)
 | .store=>(1,0)
 | .pop=>(1,0)
 | .dup=>(1,2)
 | .swap=>(2,2)
 | .size=>(1,1)
 | .nop=>(0,0)
 | .make=>(0,1)
 | .get=>match R9 l c f ok with
  | some (_,k)=>(1,if k=[] then 0 else 1)
  | none=>(0,0)
 | .give=>match R9 l c f ok with
  | some _=>(2,0)
  | none=>(0,0)
 | .call=>match J0 l c f with
  | some (_,x)=>(x.params.length+1,if x.result=[] then 0 else 1)
  | none=>(0,0)
 | .array=>(1,1)
 | .at_=>(2,1)
 | .set_=>(3,0)
 | .is=>(1,1)
 | .cast=>(1,1)
 | .ret=>if m.result=[] then (0,0) else (1,0)
 | .equal=>(2,1)
structure Done (l : List Cla) (m : Hm.Met) (i : Ins) (c f : Q9) (ok : Bool) (a : Dact) (d : Dr) (n p : Nat) : Prop where
  eff : Eff d (V9 l m i c f ok d a) n p
  len : (V9 l m i c f ok d a).locals.length = d.locals.length
  loc : a ≠ .store → (V9 l m i c f ok d a).locals = d.locals
  ov : ∀ u, V9 l m i c f ok (d.over u) a = (V9 l m i c f ok d a).over u
theorem Eff.put {d a:Dr} {n p:Nat} {xs:List Q9} (h:Eff d a n p) (o:a.e=0):Eff d (a.put xs) n (p+xs.length):=by
 obtain ⟨j,g,r,b,k⟩:=h
 refine ⟨j,g,r++xs,by simp[b],?_⟩
 unfold Dr.put
 rw[if_pos o]
 simp only[k,List.append_assoc]
theorem Eff.take {d:Dr} {n:Nat} (h:(d.take n).e=0):Eff d (d.take n) n 0:=by
 obtain ⟨g,b,a,_⟩:=Dr.take_ok h
 exact ⟨g,b,[],rfl,by rw[a];simp⟩
theorem Eff.none {d:Dr} (h:d.e=0):Eff d d 0 0:=⟨h,Nat.zero_le _,[],rfl,by simp⟩
theorem Dr.take_loc {d:Dr} {n:Nat} (h:(d.take n).e=0):(d.take n).locals=d.locals:=by rw[(Dr.take_ok h).2.2.1]
theorem Dr.put_loc {d:Dr} {xs:List Q9}:(d.put xs).locals=d.locals:=by unfold Dr.put;split<;>rfl
section
variable {l : List Cla} {m : Hm.Met} {i : Ins} {c f : Q9} {ok : Bool} {d : Dr}
theorem Xs {n p:Nat} {k:Dact} {q:List Q9→Bool} {r:List Q9→List Q9} (a: ∀d,V9 l m i c f ok d k=((d.take n).wrong (q (d.taken n)) 73).put (r (d.taken n))) (o: ∀x,(r x).length=p) (s:k≠ .store) (h:(V9 l m i c f ok d k).e=0):Done l m i c f ok k d n p:=by
 have j:=h
 rw[a,Dr.put_e] at h
 obtain ⟨b,t,g⟩:=Dr.wrong_ok (by decide) h
 refine ⟨?_,?_,fun _=>?_,fun u=>?_⟩
 ·rw[a,g]
  have:=(Eff.take b).put b (xs:=r (d.taken n))
  rwa [Nat.zero_add,o] at this
 ·rw[a,g,Dr.put_loc,Dr.take_loc b]
 ·rw[a,g,Dr.put_loc,Dr.take_loc b]
 ·obtain ⟨o1,o2⟩:=Dr.over_take (u:=u) b
  rw[a] at j
  rw[a,a,o1,o2,Dr.over_wrong (by decide) h,Dr.over_put j]
theorem Da {k:Dact} {p:Q9} {w:List Q9} (a: ∀d,V9 l m i c f ok d k=d.all l p w) (n:k≠ .store) (h:(V9 l m i c f ok d k).e=0):Done l m i c f ok k d w.length (if p=[] then 0 else 1):=by
 rw[a] at h
 obtain ⟨j,b,g⟩:=Dr.all_ok h
 refine ⟨?_,?_,fun _=>?_,fun u=>?_⟩
 ·rw[a];exact j
 ·rw[a,b]
 ·rw[a,b]
 ·rw[a,a];exact g u
theorem Q6E {k:Dact} {x:Q9} {q:Bool} {e:Int} (b:e≠0) (a: ∀d,V9 l m i c f ok d k=(d.wrong q e).put [x]) (o:k≠ .store) (h:(V9 l m i c f ok d k).e=0):Done l m i c f ok k d 0 1:=by
 have n:=h
 rw[a,Dr.put_e] at h
 obtain ⟨j,p,g⟩:=Dr.wrong_ok b h
 refine ⟨?_,?_,fun _=>?_,fun u=>?_⟩
 ·rw[a,g];exact (Eff.none j).put j
 ·rw[a,g,Dr.put_loc]
 ·rw[a,g,Dr.put_loc]
 ·rw[a] at n
  rw[a,a,Dr.over_wrong b h,Dr.over_put n]
theorem Dr.wrong_put {d:Dr} {q:Bool} {e:Int} {xs:List Q9}:(if (d.wrong q e).e=0 then (d.wrong q e).put xs else d.wrong q e)=(d.wrong q e).put xs:=by
 split
 ·rfl
 ·rename_i h;unfold Dr.put;rw[if_neg h]
theorem Dr.wrong2 {d:Dr} {b a:Bool} {e:Int}:(d.wrong b e).wrong a e=d.wrong (b&&a) e:=by
 unfold Dr.wrong
 cases b<;>cases a<;>simp<;>split<;>simp_all
end
end Go.Hm

namespace Go.Proofs.YtfppjenblllfaaaGreatDoor
open Go.Emb Go.RowKit Go.Kd Go.Hm
variable {w : World} {K : Value → World → Prop} {σ : Q4}
end Go.Proofs.YtfppjenblllfaaaGreatDoor

namespace Go.Emb
open Go.RowKit Go.Hm
variable {w w0 w1 w' w'' : World} {σ σ0 σ1 σ2 σ' : Q4}
theorem Stp.weak (h:Stp w σ1 w' σ2) (a: ∀b o,σ b=some o→σ1 b=some o):Stp w σ w' σ:=
 ⟨h.bel,fun b o e=>h.sat b o (h.le b o (a b o e)),fun _ _ e=>e,fun _ _=>rfl⟩
end Go.Emb
namespace Go.Proofs.YtfppjenblllfaaaGreatDoor
open Go.Emb Go.RowKit Go.Kd Go.Hm
variable {w : World} {K : Value → World → Prop} {σ : Q4}
end Go.Proofs.YtfppjenblllfaaaGreatDoor

namespace Go.Emb
open Go.RowKit Go.Hm
section
variable {P : Program} {w w' w0 : World} {σ σ' σ0 : Q4} {α : Type} {R : Q4 → α → List Value → Prop} {B sz : Nat} {e : TypeId} {v u : Value} {xs : List α} {K : Value → World → Prop}
theorem X3P {t:TypeId} {by_:Nat} {z:Value} [ts:TS P t e] [tz:TZ P e sz by_ z] (h:J6 B e sz R σ w v xs) {k:Nat} (C:k≤xs.length)
 (q: ∀j,J6 B e sz R σ w j (xs.take k)→j.ownBlock=v.ownBlock→K j w):R6 P t v none (some (I k)) (some (I k)) w K:=by
 obtain ⟨a,c,rfl,M,L,l,s⟩:=h
 have hh: ∀w:World,(Instr.sliceBounds true xs.length c none (some (I k)) (some (I k))).run P w= .ok (0,k,k) w:=by
  intro w
  have r:(k:Int)≤c:=by omega
  simp[Instr.sliceBounds,Instr.sliceBound,asIntOf,r]
 unfold R6
 have:(Instr.sliceAt t (.slice a xs.length c) none (some (I k)) (some (I k))).run P w= .ok (.slice (if k=0 then a else a.map (·.add (0*sz))) (k-0) (k-0)) w:=by
  simp[Instr.sliceAt,run_underlying ts.h,Instr.slice,hh,W5 tz]
 rw[Y2 this]
 have hv:(if k=0 then a else a.map (·.add (0*sz)))=a:=by
  split
  ·rfl
  ·cases a with
   | none=>rfl
   | some b=>simp[Addr.add]
 rw[hv,Nat.sub_zero]
 refine q _ ⟨a,k,by rw[List.length_take,Nat.min_eq_left C],by rw[List.length_take];omega,by omega,l,fun O=>?_⟩ (by cases a<;>rfl)
 obtain ⟨g,o,n,rfl,H,J,y,N,A⟩:=s (by omega)
 have E:k*sz≤c*sz:=Nat.mul_le_mul_right _ (by omega)
 refine ⟨g,o,n,rfl,H,J,y,by omega,fun i x f=>?_⟩
 rw[List.getElem?_take] at f
 split at f
 ·exact A i x f
 ·cases f
theorem J6.updD {b:Nat} (h:J6 B e sz R σ w v xs) (u:Upd w b w') (a:v.ownBlock≠some b):J6 B e sz R σ w' v xs:=
 h.kp (D:=fun j=>j=b) (Kpt.of_upd u rfl) fun k c e=>a (e▸c)
end
end Go.Emb
namespace Go.Proofs.YtfppjenblllfaaaGreatDoor
open Go.Emb Go.RowKit Go.Kd Go.Hm
variable {w w' : World} {K : Value → World → Prop} {σ σ' : Q4} {v u : Value}
theorem Q3X {xs:List Q9} (j:X4 w σ) (hv:Sl 1 X9 σ v xs) (E:xs.length≤1000000)
 (h: ∀f w',Stp w σ w' σ→V3 w.heap.size T.a 1 X9 σ w' f xs→K f w'):Q0 P F.b [v] w K:=T3 (by
 unfold C9
 have b:=hv
 obtain ⟨a,o,rfl,A,z,s,H⟩:=hv
 refine Gi rfl ?_
 refine Q6 (fun g=>?_) (fun g=>?_)
 ·have:a=none:=by simpa using g
  subst this
  have t:=s rfl
  subst t
  have k:xs=[]:=List.eq_nil_of_length_eq_zero (by omega)
  subst k
  exact h _ w (Stp.refl j) V3.nil
 ·refine Xj (R:=X9) (sz:=1) (Stp.refl j) [] [] rfl rfl (by simp) (by rfl) trivial fun C w1 l r _=>?_
  refine app l r b (by rfl) (by simp only[List.length_nil];omega) (by simp only[List.length_nil];omega) fun J q y n c _=>?_
  exact h _ q n c)
theorem X17 {B:Nat} {xs:List Q9} (n:X4 w σ) (hv:J6 B T.a 1 X9 σ w v xs) (k:xs.length≤1000000)
 (h: ∀a w' σ',Stp w σ w' σ'→Sl 1 X9 σ' a xs→K a w'):Q0 P F.b [v] w K:=by
 obtain ⟨s,c,b,o,_⟩:=hv.freeze n
 refine Q3X c o k fun a w' f q=>?_
 have g:=f.weak b.le
 have r:=(J6.of_acc q).down b fun _ _ h=>h
 obtain ⟨σ',l,j,_,_⟩:=r.keep (w0:=w) (σ0:=σ) g
 exact h a w' σ' l j
structure DrIs (B : Nat) (D : Nat → Prop) (σ : Q4) (w : World) (p tv pv cv hv : Value) (m : Hm.Met) (i : Ins) (d : Dr) : Prop where
  ex : ∃ b sv lv, p = .pointer (some ⟨b, 0, none⟩) ∧ B ≤ b ∧ Z9 σ w b [tv, S m.name, pv, S m.result, .bool m.abs, I m.locals, cv, hv, S i.op, I i.n, S i.s, .bool true, sv, lv, I d.e] ∧ J6 B T.a 1 X9 σ w sv d.stack ∧ J6 B T.a 1 X9 σ w lv d.locals ∧ (∀ k, sv.ownBlock = some k → k ≠ b ∧ lv.ownBlock ≠ some k) ∧ (∀ k, lv.ownBlock = some k → k ≠ b) ∧ ∀ k, D k ↔ (k = b ∨ sv.ownBlock = some k ∨ lv.ownBlock = some k)
section
variable {B : Nat} {D : Nat → Prop} {p tv pv cv hv : Value} {m : Hm.Met} {i : Ins} {d : Dr}
theorem DrIs.mem (h:DrIs B D σ w p tv pv cv hv m i d) {k:Nat} (hk:D k):B≤k∧k<w.heap.size∧σ k=none:=by
 obtain ⟨b,sv,g,rfl,hB,a,f,c,_,_,hD⟩:=h.ex
 rcases (hD k).1 hk with rfl | hk | hk
 ·exact ⟨hB,a.lt,a.1⟩
 ·exact f.mem hk
 ·exact c.mem hk
theorem DrIs.nx {F:Nat→Prop} (h:DrIs B D σ w p tv pv cv hv m i d) (k:Nxt F w σ w' σ') (c: ∀j,D j→ ¬F j):DrIs B D σ' w' p tv pv cv hv m i d:=by
 obtain ⟨b,sv,n,rfl,hB,f,o,l,q,g,hD⟩:=h.ex
 exact ⟨b,sv,n,rfl,hB,f.nx k (c b ((hD b).2 (.inl rfl))),o.nx k fun j a=>c j ((hD j).2 (.inr (.inl a))),l.nx k fun j a=>c j ((hD j).2 (.inr (.inr a))),q,g,hD⟩
theorem DrIs.up (h:DrIs B D σ w p tv pv cv hv m i d) (k:Stp w σ w' σ'):DrIs B D σ' w' p tv pv cv hv m i d:=
 h.nx (F:=fun _=>False) (.of_stp k) fun _ _=>id
theorem Nxt.rfl0 (a:X4 w σ):Nxt D w σ w σ:= .of_stp (Stp.refl a)
theorem Nxt.updD (f:X4 w σ) {b:Nat} (u:Upd w b w') (h:σ b=none) (g:D b):Nxt D w σ w' σ:=
 ⟨Kpt.of_upd u g,SLe.refl _,fun _ _=>rfl,fun k o c=>by
  have a:k≠b:=fun e=>by subst e;rw[h] at c;cases c
  rw[u.block k a];exact f k o c⟩
theorem Q14 {ok:Bool} {e:Int} (n:X4 w σ) (h:DrIs B D σ w p tv pv cv hv m i d)
 (hh: ∀w',Nxt D w σ w' σ→DrIs B D σ w' p tv pv cv hv m i (d.wrong ok e)→K (.bool (decide ((d.wrong ok e).e=0))) w'):Q0 P F.c [p, .bool ok,I e] w K:=Th (by
 have s:=h
 obtain ⟨b,sv,C,rfl,hB,g,H,z,q,o,hD⟩:=h.ex
 unfold Nz
 refine Zg (fun _ w'=>Nxt D w σ w' σ∧DrIs B D σ w' (.pointer (some ⟨b,0,none⟩)) tv pv cv hv m i (d.wrong ok e)) ?_ (fun _ J w1 y=>?_)
 ·cases ok with
  | true=>
   simp only[Bool.not_true,↓M1,M1,Mb,reduceIte]
   exact ⟨Nxt.rfl0 n,s⟩
  | false=>
   simp only[Bool.not_false,↓M1,M1,Mb,reduceIte]
   refine B4 (i:=14) g rfl ?_
   by_cases a:d.e=0
   ·simp only[decide_eq_true a,↓M1,M1,Mb,reduceIte]
    refine Og (i:=14) g (by simp) rfl rfl fun M l f=>?_
    have j:d.wrong false e=⟨d.stack,d.locals,e⟩:=by unfold Dr.wrong;rw[if_neg (by simp),if_pos a]
    rw[j]
    exact ⟨Nxt.updD n l g.1 ((hD b).2 (.inl rfl)),b,sv,C,rfl,hB,f,H.updD l fun e=>(q b e).1 rfl,z.updD l fun e=>o b e rfl,q,o,hD⟩
   ·simp only[decide_eq_false a,↓M1,M1,Mb,reduceIte]
    have j:d.wrong false e=d:=by unfold Dr.wrong;rw[if_neg (by simp),if_neg a]
    rw[j]
    exact ⟨Nxt.rfl0 n,s⟩
 ·obtain ⟨N,r⟩:=y
  have k:=r
  obtain ⟨L,E,A,t,_,c,_⟩:=r.ex
  cases t
  simp only[↓M1,M1,Mb,reduceIte]
  refine B4 (i:=14) c rfl ?_
  simp only[↓M1,M1,Mb,reduceIte]
  exact hh w1 N k)
theorem X1O {ys:List Q9} (Z:X4 w σ) (hB:B≤w.heap.size) (h:DrIs B D σ w p tv pv cv hv m i d) (hy:Sl 1 X9 σ v ys) (hl:d.stack.length+ys.length≤1000000)
 (hh: ∀w' W,Nxt D w σ w' σ→DrIs B W σ w' p tv pv cv hv m i (d.put ys)→(∀j,W j→D j∨w.heap.size≤j)→K (.tuple #[]) w'):Q0 P F.g [p,v] w K:=Q1x (by
 have h0:=h
 obtain ⟨b,sv,Q,rfl,N,n,hq,A,C,X,hD⟩:=h.ex
 unfold Et
 rw[H7]
 refine J7 ?_
 refine B4 (i:=14) n rfl ?_
 refine Jz ?_
 by_cases z:d.e=0
 case neg=>
  rw[decide_eq_false z]
  refine V0 ?_
  have L:d.put ys=d:=by unfold Dr.put;rw[if_neg z]
  rw[L] at hh
  exact hh w D (Nxt.rfl0 Z) h0 fun j hj=> .inl hj
 rw[decide_eq_true z]
 rw[z] at n
 refine J5 ?_
 have L:d.put ys=⟨d.stack++ys,d.locals,0⟩:=by unfold Dr.put;rw[if_pos z]
 rw[L] at hh
 simp only[↓M1,M1,Mb,reduceIte]
 refine B4 (i:=12) n rfl ?_
 refine Q2N Z hB hq hy (by rfl) (by omega) (by omega) fun y O H r l E=>?_
 have g: ∀k,y.ownBlock=some k→sv.ownBlock=some k∨w.heap.size≤k:=fun k f=>by
  rcases E with ⟨a,ag,ea,eb⟩ | ⟨_,s⟩
  ·left;rw[ea];rw[eb] at f;cases a<;>exact f
  ·exact .inr (s k f)
 have o:Kpt (fun k=>sv.ownBlock=some k) w O:=H.mono fun k _ e=>e.1
 have q:Z9 σ O b _:=⟨n.1,by obtain ⟨e,he⟩:=n.2;exact ⟨e,(o.block b n.lt fun e=>(C b e).1 rfl).trans he⟩⟩
 have U:=A.kp o fun k f e=>(C k e).2 f
 rw[Ys]
 refine Og (i:=12) q (by simp) (by obtain ⟨a,c,rfl,_⟩:=l;rfl) (by obtain ⟨a,c,rfl,_⟩:=l;rfl) fun w3 M V=>?_
 have Y:=n.lt
 have t: ∀k,y.ownBlock=some k→k≠b:=fun k f e=>by
  rcases g k f with h | h
  ·exact (C k h).1 e
  ·omega
 have J: ∀k,y.ownBlock=some k→Q.ownBlock≠some k:=fun k f e=>by
  rcases g k f with h | h
  ·exact (C k h).2 e
  ·have:=(A.mem e).2.1;omega
 have N2:Nxt D w σ O σ:=⟨o.mono fun k _ e=>(hD k).2 (.inr (.inl e)),SLe.refl _,fun _ _=>rfl,r⟩
 refine hh w3 (fun k=>k=b∨y.ownBlock=some k∨Q.ownBlock=some k) (N2.trans (Nxt.updD r M q.1 ((hD b).2 (.inl rfl)))) ⟨b,y,Q,rfl,N,V,l.updD M fun e=>t b e rfl,U.updD M fun e=>X b e rfl,fun k f=>⟨t k f,J k f⟩,X,fun k=>Iff.rfl⟩ fun j hj=>?_
 rcases hj with rfl | hj | hj
 ·exact .inl ((hD _).2 (.inl rfl))
 ·exact (g j hj).imp (fun h=>(hD j).2 (.inr (.inl h))) id
 ·exact .inl ((hD j).2 (.inr (.inr hj))))
end
end Go.Proofs.YtfppjenblllfaaaGreatDoor

namespace Go.Proofs.YtfppjenblllfaaaGreatDoor
open Go.Emb Go.RowKit Go.Kd Go.Hm
variable {w w' : World} {K : Value → World → Prop} {σ σ' : Q4} {v u : Value} {B : Nat} {D : Nat → Prop} {p tv pv cv hv : Value} {m : Hm.Met} {i : Ins} {d : Dr} {l : List Cla}
set_option maxHeartbeats 1000000 in
theorem X01 {n:Nat} (hs:X4 w σ) (h:DrIs B D σ w p tv pv cv hv m i d) (hl:d.stack.length≤1000000) (hn:n≤2000000)
 (hh: ∀v w' σ',Nxt D w σ w' σ'→DrIs B D σ' w' p tv pv cv hv m i (d.take n)→Sl 1 X9 σ' v (d.taken n)→K v w'):Q0 P F.i [p,I n] w K:=Aw (by
 have h0:=h
 obtain ⟨b,sv,lv,rfl,hB,hm,hq,al,h1,h2,hD⟩:=h.ex
 unfold Dv
 simp only[↓M1,M1,Mb,reduceIte]
 refine B4 (i:=12) hm rfl ?_
 refine Vi hq ?_
 refine G1 ?_
 rw[show decide ((n:Int)≤(d.stack.length:Nat))=decide (n≤d.stack.length) from decide_eq_decide.2 (by omega)]
 refine Q14 hs h0 fun w1 z A=>?_
 by_cases j:d.e=0∧n≤d.stack.length
 case neg=>
  have J:d.take n=d.wrong (decide (n≤d.stack.length)) 72:=by unfold Dr.take;rw[if_neg j]
  have H:d.taken n=List.replicate n []:=by unfold Dr.taken;rw[if_neg j]
  have he: ¬(d.wrong (decide (n≤d.stack.length)) 72).e=0:=fun e=>by
   obtain ⟨k1,k2,_⟩:=Dr.wrong_ok (by decide) e
   exact j ⟨k1,by simpa using k2⟩
  rw[J,H] at hh
  rw[decide_eq_false he]
  simp only[Bool.not_false,↓M1,M1,Mb,reduceIte]
  refine X48 (R:=X9) (sz:=1) ([]:Q9) z.sat (by kernel_rfl) (by decide) ⟨rfl,by decide⟩ (by omega) (by omega) fun v2 w2 M V _=>?_
  obtain ⟨O,s3,q3,af,_⟩:=V.keep M
  exact hh v2 w2 O (z.trans (.of_stp s3)) (A.up s3) q3
 have ew:d.wrong (decide (n≤d.stack.length)) 72=d:=by rw[decide_eq_true j.2];rfl
 have J:d.take n=⟨d.stack.take (d.stack.length-n),d.locals,0⟩:=by unfold Dr.take;rw[if_pos j]
 have H:d.taken n=d.stack.drop (d.stack.length-n):=by unfold Dr.taken;rw[if_pos j]
 rw[ew] at A⊢
 rw[J,H] at hh
 rw[decide_eq_true j.1]
 simp only[Bool.not_true,↓M1,M1,Mb,reduceIte]
 have ah:=A
 obtain ⟨b',ar,U,e1,Y,g,r,y,Z,g2,t⟩:=A.ex
 cases e1
 rw[j.1] at g
 refine B4 (i:=12) g rfl ?_
 refine Vi r ?_
 refine Q5i ?_
 rw[F3 (by omega) (by omega),show (d.stack.length:Int)-(n:Int)=((d.stack.length-n:Nat):Int) by omega]
 refine B4 (i:=12) g rfl ?_
 refine X24 r (d.stack.length-n) (by omega) fun v2 E _=>?_
 refine X17 z.sat E (by rw[List.length_drop];omega) fun v3 w3 O f N=>?_
 have s:=g.up f
 have Q:=r.up f
 have X:=y.up f
 refine B4 (i:=12) s rfl ?_
 refine X3P Q (k:=d.stack.length-n) (by omega) fun v4 o q=>?_
 rw[Ys]
 refine Og (i:=12) s (by simp) (by obtain ⟨a,c,rfl,_⟩:=o;rfl) (by obtain ⟨a,c,rfl,_⟩:=o;rfl) fun w5 C W=>?_
 have L:=z.trans (Nxt.of_stp (D:=D) f)
 refine hh v3 w5 O (L.trans (Nxt.updD f.sat C s.1 ((t b).2 (.inl rfl)))) ⟨b,v4,U,rfl,Y,W,o.updD C fun e=>(Z b (by rw[←q];exact e)).1 rfl,X.updD C fun e=>g2 b e rfl,fun k hk=>Z k (by rw[←q];exact hk),g2,fun k=>by rw[q];exact t k⟩ N)
theorem Q7E {a c:Q9} (r:X4 w σ) (h:DrIs B D σ w p tv pv cv hv m i d) (g:Tab σ tv l) (ok:Ok l) (s:a.length≤Y9) (o:c.length≤Y9)
 (hh: ∀w' σ',Nxt D w σ w' σ'→DrIs B D σ' w' p tv pv cv hv m i (d.wrong (O3 l a c) 73)→K (.tuple #[]) w'):Q0 P F.a1 [p,S a,S c] w K:=Ad (by
 have t:=h
 obtain ⟨b,sv,C,rfl,hB,n,A,k,z,y,hD⟩:=h.ex
 unfold Od
 rw[H7]
 refine J7 ?_
 refine B4 (i:=0) n rfl ?_
 refine Q5e r g ok s o fun w1 σ1 e=>?_
 refine Q14 e.sat (t.up e) fun q j f=>?_
 exact hh q σ1 ((Nxt.of_stp e).trans j) f)
def dnM (y:Value):Nat:=match y with
 | .int _ z=>(z+1).toNat
 | _=>0
set_option maxHeartbeats 1000000 in
theorem X4i {q:Q9} {ys:List Q9} (hs:X4 w σ) (hB:B≤w.heap.size) (h:DrIs B D σ w p tv pv cv hv m i d) (ht:Tab σ tv l) (ok:Ok l) (X:Sl 1 X9 σ v ys) (hq:q.length≤Y9) (hl:d.stack.length≤100000) (hn:ys.length≤2000000)
 (hh: ∀w' σ' D',Nxt D w σ w' σ'→DrIs B D' σ' w' p tv pv cv hv m i (d.all l q ys)→(∀j,D' j→D j∨w.heap.size≤j)→K (.tuple #[]) w'):Q0 P F.m [p,S q,v] w K:=Q1E (by
 unfold Ey
 refine X0 X ?_
 refine X01 hs h (by omega) (by omega) fun al w1 σ1 t d1 g=>?_
 have V:(d.taken ys.length).length=ys.length:=by
  unfold Dr.taken
  split
  ·rename_i hc;rw[List.length_drop];omega
  ·simp
 have A:=X.lift t.le
 have M:=ht.lift t.le
 have O:(d.take ys.length).stack.length≤d.stack.length:=by
  unfold Dr.take
  split
  ·rw[List.length_take];omega
  ·unfold Dr.wrong;split
   ·exact Nat.le_refl _
   ·split<;>exact Nat.le_refl _
 refine X0 g ?_
 refine Q5i ?_
 rw[V,F3 (by omega) (by omega)]
 refine Jo (fun x w'=> ∃(k:Nat) (σ':Q4),x=I ((k:Int)-1)∧k≤ys.length∧Nxt D w1 σ1 w' σ'∧DrIs B D σ' w' p tv pv cv hv m i ((d.take ys.length).wrong (((List.zipWith (O3 l) (d.taken ys.length) ys).drop k).all id) 73)) (fun x _=>dnM x) ⟨ys.length,σ1,rfl,Nat.le_refl _,Nxt.rfl0 t.sat,by
  rw[List.drop_of_length_le (by simp;omega)];exact d1⟩ ?_
 rintro _ dd Z ⟨k,Y,rfl,hk,f,r⟩
 refine G1 ?_
 by_cases W:k=0
 ·subst W
  rw[show decide ((0:Int)≤((0:Nat):Int)-1)=false from by decide]
  refine V0 ?_
  rw[List.drop_zero] at r
  refine I4 ?_
  have a:=t.trans f
  have eb: ∀w' σ',Nxt D Z Y w' σ'→B≤w'.heap.size:=fun w' σ' N=>Nat.le_trans hB (Nat.le_trans a.kp.size N.kp.size)
  by_cases b:q=[]
  ·have s:d.all l q ys=(d.take ys.length).wrong ((List.zipWith (O3 l) (d.taken ys.length) ys).all id) 73:=by unfold Dr.all Dr.put1;rw[if_pos b]
   rw[s] at hh
   rw[show (!decide (q=[]))=false from by simp[b]]
   refine V0 ?_
   exact hh Z Y D a r fun j C=> .inl C
  ·have s:d.all l q ys=((d.take ys.length).wrong ((List.zipWith (O3 l) (d.taken ys.length) ys).all id) 73).put [q]:=by unfold Dr.all Dr.put1;rw[if_neg b]
   rw[s] at hh
   rw[show (!decide (q=[]))=true from by simp[b]]
   refine J5 ?_
   refine O4 (R:=X9) (sz:=1) f.sat [S q] [q] rfl rfl (by simp;rfl) rfl ⟨⟨rfl,hq⟩,trivial⟩ fun v3 w3 σ3 n L=>?_
   have am:((d.take ys.length).wrong ((List.zipWith (O3 l) (d.taken ys.length) ys).all id) 73).stack.length≤d.stack.length:=by
    have e:((d.take ys.length).wrong ((List.zipWith (O3 l) (d.taken ys.length) ys).all id) 73).stack=(d.take ys.length).stack:=by
     unfold Dr.wrong;split
     ·rfl
     ·split<;>rfl
    rw[e];exact O
   refine X1O n.sat (Nat.le_trans hB (Nat.le_trans a.kp.size n.bel.size)) (r.up n) L (by simp only[List.length_cons,List.length_nil];omega) fun w4 D4 U o E=>?_
   refine hh w4 σ3 D4 ((a.trans (.of_stp n)).trans U) o fun j C=>(E j C).imp id fun e=>Nat.le_trans a.kp.size (Nat.le_trans n.bel.size e)
 ·rw[decide_eq_true (show (0:Int)≤(k:Int)-1 by omega)]
  refine J5 ?_
  obtain ⟨j,rfl⟩: ∃j,k=j+1:=⟨k-1,by omega⟩
  rw[show (((j+1:Nat):Int)-1)=(j:Int) by omega]
  have y:j<(d.taken ys.length).length:=by omega
  have J:j<ys.length:=by omega
  have z:=g.lift f.le
  have H:=A.lift f.le
  have Q:=M.lift f.le
  obtain ⟨s,f1⟩:=Sl.elS z y
  obtain ⟨e2,f2⟩:=Sl.elS H J
  refine U8 f.sat ?_
  (repeat refine Z8 Xq ?_)
  (intros;(repeat (rename_i hx;subst hx));(try simp only[↓M2,M2,Mb,reduceIte]))
  rename_i w3 c
  refine Q7E c.sat (r.up c.stp) Q ok f1 f2 fun w4 σ4 U o=>?_
  rw[F3 (by omega) (by omega)]
  rw[Dr.wrong2] at o
  have ed:(((List.zipWith (O3 l) (d.taken ys.length) ys).drop (j+1)).all id&&O3 l (d.taken ys.length)[j] ys[j])=((List.zipWith (O3 l) (d.taken ys.length) ys).drop j).all id:=by
   rw[List.drop_eq_getElem_cons (i:=j) (by simp;omega),List.all_cons,Bool.and_comm]
   simp
  rw[ed] at o
  refine ⟨⟨j,σ4,rfl,by omega,(f.trans (.of_stp c.stp)).trans U,o⟩,?_⟩
  simp only[dnM]
  omega)
end Go.Proofs.YtfppjenblllfaaaGreatDoor

namespace Go.Proofs.YtfppjenblllfaaaGreatDoor
open Go.Emb Go.RowKit Go.Kd Go.Hm
variable {w w' w0 : World} {K : Value → World → Prop} {σ σ' σ0 : Q4} {v u : Value}
def U5 (f:Nat):Value:= .func (.func f) #[] #[]
def Pp (σ:Q4) (a:Dact) (v:Value):Prop:=match a with
 | .puts k=> ∃q,v= .func (.func F.cz) #[] #[.pointer (some q)]∧Z0 σ q [S k]∧k.length≤Y9
 | .takes p ys=>(∃q r b,v= .func (.func F.cv) #[] #[.pointer (some q), .pointer (some r)]∧Z0 σ q [S p]∧Z0 σ r [b]∧Sl 1 X9 σ b ys∧p.length≤Y9)∨(v=U5 F.bB∧p=U9∧ys=[U9,U9])∨(v=U5 F.aD∧p=L8∧ys=[U9,U9])
 | .load=>v=U5 F.b3
 | .store=>v=U5 F.aP
 | .pop=>v=U5 F.bV
 | .dup=>v=U5 F.bg
 | .swap=>v=U5 F.b4
 | .size=>v=U5 F.b5
 | .nop=>v=U5 F.bW
 | .make=>v=U5 F.aI
 | .get=>v=U5 F.bh
 | .give=>v=U5 F.b6
 | .call=>v=U5 F.b7
 | .array=>v=U5 F.aQ
 | .at_=>v=U5 F.bs
 | .set_=>v=U5 F.bi
 | .is=>v=U5 F.bt
 | .cast=>v=U5 F.b8
 | .ret=>v=U5 F.b9
 | .equal=>v=U5 F.aR
theorem Pp.lift {a:Dact} (h:Pp σ a v) (k:SLe σ σ'):Pp σ' a v:=by
 cases a with
 | puts s=>obtain ⟨q,d,c,b⟩:=h;exact ⟨q,d,c.lift k,b⟩
 | takes p ys=>
  rcases h with ⟨q,r,e,d,c,b,f,g⟩ | h
  ·exact .inl ⟨q,r,e,d,c.lift k,b.lift k,f.lift k,g⟩
  ·exact .inr h
 | _=>exact h
def Kp (σ:Q4) (c:List (List UInt8×Value)) (b:List (Q9×Dact)):Prop:= ∀k,match b.lookup k with
 | none=>M9 c k=none
 | some a=> ∃v,M9 c k=some v∧Pp σ a v
theorem X1g (a:List (List UInt8×Value)) (k x:List UInt8) (v:Value):M9 (Yb a k v) x=if k=x then some v else M9 a x:=by
 induction a with
 | nil=>simp[Yb,M9]
 | cons p r c=>
  unfold Yb
  split
  ·rename_i h
   simp only[M9]
   split
   ·rfl
   ·rename_i b;rw[if_neg (by rw[h];exact b)]
  ·rename_i h
   simp only[M9,c]
   split
   ·rename_i b;rw[if_neg (fun e=>h (by rw[b,e]))]
   ·rfl
theorem Kp.lift {b:List (List UInt8×Value)} {a:List (Q9×Dact)} (h:Kp σ b a) (c:SLe σ σ'):Kp σ' b a:=fun k=>by
 have:=h k
 split at this
 ·exact this
 ·obtain ⟨v,e,d⟩:=this;exact ⟨v,e,d.lift c⟩
theorem Kp.put {c:List (List UInt8×Value)} {b:List (Q9×Dact)} {k:Q9} {a:Dact} (h:Kp σ c b) (f:Pp σ a v):Kp σ (Yb c k v) ((k,a)::b):=fun x=>by
 rw[List.lookup_cons,X1g]
 by_cases e:x=k
 ·subst e
  simp only[beq_self_eq_true,if_true]
  exact ⟨v,rfl,f⟩
 ·have d:(x==k)=false:=by simpa using e
  rw[d,if_neg (Ne.symm e)]
  exact h x
structure TS (w0 : World) (σ0 : Q4) (w : World) (σ : Q4) (r : Nat) (acts : List (Q9 × Dact)) : Prop where
  stp : Stp w0 σ0 w σ
  ge : w0.heap.size ≤ r
  mp : ∃ mp, H0 σ w r mp ∧ Kp σ mp acts
theorem TS.up {r:Nat} {a:List (Q9×Dact)} (h:TS w0 σ0 w σ r a) (k:Stp w σ w' σ'):TS w0 σ0 w' σ' r a:=by
 obtain ⟨b,d,c⟩:=h.mp
 exact ⟨h.stp.trans k,h.ge,b,d.up k,c.lift ⟨k.le⟩⟩
theorem M8 {r:Nat} {b:List (Q9×Dact)} {k:Q9} {a:Dact} (h:TS w0 σ0 w σ r b) (j:Pp σ a v) (f: ∀w',TS w0 σ0 w' σ r ((k,a)::b)→K undef w'):mapUpdate P T.j (.map (some r)) (S k) v w K:=by
 obtain ⟨l,d,g⟩:=h.mp
 refine He X7 d k v fun i e c=>?_
 exact f i ⟨e.stp h.stp h.ge d.1,h.ge,_,c,g.put j⟩
theorem Q0j {r:Nat} {a:List (Q9×Dact)} {s:Q9} (h:TS w0 σ0 w σ r a) (b:s.length≤Y9) (d: ∀v w' σ',TS w0 σ0 w' σ' r a→Pp σ' (.puts s) v→K v w'):Q0 P F.bd [S s] w K:=Q7b (by
 unfold Q1H
 refine U0 h.stp.sat rfl fun q w1 σ1 c e=>?_
 refine Q9R ?_
 exact d _ w1 σ1 (h.up c) ⟨q,rfl,e,b⟩)
theorem Q83 {r:Nat} {a:List (Q9×Dact)} {s:Q9} {ys:List Q9} (h:TS w0 σ0 w σ r a) (l:s.length≤Y9) (e:Sl 1 X9 σ u ys) (i: ∀v w' σ',TS w0 σ0 w' σ' r a→Pp σ' (.takes s ys) v→K v w'):Q0 P F.a7 [S s,u] w K:=Q5V (by
 unfold Q0p
 refine U0 h.stp.sat rfl fun q w1 σ1 d m=>?_
 refine L5 d.sat (e.up d) fun j k g f c=>?_
 refine Q9R ?_
 have b:=d.trans f
 exact i _ k g (h.up b) (.inl ⟨q,j,u,rfl,m.up f,c,e.up b,l⟩))
theorem Ss {r:Nat} {a:List (Q9×Dact)} {s y:Q9} (h:TS w0 σ0 w σ r a) (c:s.length≤Y9) (f:y.length≤Y9) (d: ∀v w' σ',TS w0 σ0 w' σ' r a→Pp σ' (.takes s [y]) v→K v w'):buildSlice P T.c 1 [(0,S y)] w fun t w=>Q0 P F.a7 [S s,t] w K:=by
 refine O4 (R:=X9) (sz:=1) h.stp.sat [S y] [y] rfl rfl (by simp;rfl) rfl ⟨⟨rfl,f⟩,trivial⟩ fun j i g e b=>?_
 exact Q83 (h.up e) c b d
theorem Q5m {r:Nat} {a:List (Q9×Dact)} {s y z:Q9} (h:TS w0 σ0 w σ r a) (g:s.length≤Y9) (c:y.length≤Y9) (f:z.length≤Y9) (d: ∀v w' σ',TS w0 σ0 w' σ' r a→Pp σ' (.takes s [y,z]) v→K v w'):buildSlice P T.c 2 [(0,S y),(1,S z)] w fun t w=>Q0 P F.a7 [S s,t] w K:=by
 refine O4 (R:=X9) (sz:=1) h.stp.sat [S y,S z] [y,z] rfl rfl (by simp;exact ⟨rfl,rfl⟩) rfl ⟨⟨rfl,c⟩,⟨rfl,f⟩,trivial⟩ fun i j k e b=>?_
 exact Q83 (h.up e) g b d
set_option maxHeartbeats 4000000 in
set_option maxRecDepth 100000 in
theorem X30 (hs:X4 w σ) (h: ∀r e w' σ',Stp w σ w' σ'→P6 σ' r e→Kp σ' e Ly→K (.map (some r)) w'):Q0 P F.cF [] w K:=Q5N (by
 unfold Ax
 refine Q0f hs fun r w1 hr k1 an=>?_
 have t0:TS w σ w1 σ r []:=⟨k1,hr,[],an,fun k=>rfl⟩
 refine Q0j (s:=U9) t0 (by decide) fun v1 w1 σ1 s1 f1=>?_
 refine M8 (k:=[105,110,116]) (a:= .puts U9) s1 f1 fun x1 t1=>?_
 refine Q0j (s:=L8) t1 (by decide) fun v2 w2 σ2 s2 f2=>?_
 refine M8 (k:=[116,114,117,101]) (a:= .puts L8) s2 f2 fun x2 t2=>?_
 refine Q0j (s:=L8) t2 (by decide) fun v3 w3 σ3 s3 f3=>?_
 refine M8 (k:=[102,97,108,115,101]) (a:= .puts L8) s3 f3 fun x3 n=>?_
 refine Q0j (s:=O9) n (by decide) fun v4 w4 σ4 s4 f4=>?_
 refine M8 (k:=[119,111,114,100]) (a:= .puts O9) s4 f4 fun x4 t4=>?_
 refine Q0j (s:=C2) t4 (by decide) fun v5 w5 σ5 s5 f5=>?_
 refine M8 (k:=[110,117,108,108]) (a:= .puts C2) s5 f5 fun x5 t5=>?_
 refine M8 (k:=[108,111,97,100]) (a:= .load) t5 rfl fun x6 t6=>?_
 refine M8 (k:=[115,116,111,114,101]) (a:= .store) t6 rfl fun x7 t7=>?_
 refine M8 (k:=[100,117,112]) (a:= .dup) t7 rfl fun x8 t8=>?_
 refine M8 (k:=[115,119,97,112]) (a:= .swap) t8 rfl fun x9 t9=>?_
 refine M8 (k:=[112,111,112]) (a:= .pop) t9 rfl fun cp al=>?_
 refine Ss (s:=U9) (y:=U9) al (by decide) (by decide) fun bx cd b2 J aa=>?_
 refine M8 (k:=[110,101,103]) (a:= .takes U9 [U9]) J aa fun az W=>?_
 refine Ss (s:=L8) (y:=L8) W (by decide) (by decide) fun bl b1 cf Z R=>?_
 refine M8 (k:=[110,111,116]) (a:= .takes L8 [L8]) Z R fun ch l=>?_
 refine Q5m (s:=L8) (y:=L8) (z:=L8) l (by decide) (by decide) (by decide) fun be b0 cl D aj=>?_
 refine M8 (k:=[98,111,116,104]) (a:= .takes L8 [L8,L8]) D aj fun b3 j=>?_
 refine Q5m (s:=O9) (y:=O9) (z:=O9) j (by decide) (by decide) (by decide) fun bj ce ca Y ag=>?_
 refine M8 (k:=[106,111,105,110]) (a:= .takes O9 [O9,O9]) Y ag fun bp L=>?_
 refine M8 (k:=[108,101,115,115]) (a:= .takes L8 [U9,U9]) L (.inr (.inr ⟨rfl,rfl,rfl⟩)) fun cq O=>?_
 refine M8 (k:=[115,97,109,101]) (a:= .takes L8 [U9,U9]) O (.inr (.inr ⟨rfl,rfl,rfl⟩)) fun bu A=>?_
 refine M8 (k:=[115,105,122,101]) (a:= .size) A rfl fun ck ao=>?_
 refine M8 (k:=[106,117,109,112]) (a:= .nop) ao rfl fun a2 q=>?_
 refine Ss (s:=[]) (y:=L8) q (by decide) (by decide) fun bb cs aw t N=>?_
 refine M8 (k:=[98,114,97,110,99,104]) (a:= .takes [] [L8]) t N fun bd B=>?_
 refine M8 (k:=[110,101,119]) (a:= .make) B rfl fun bz m=>?_
 refine M8 (k:=[103,101,116]) (a:= .get) m rfl fun cb ae=>?_
 refine M8 (k:=[112,117,116]) (a:= .give) ae rfl fun bv ap=>?_
 refine M8 (k:=[99,97,108,108]) (a:= .call) ap rfl fun ba E=>?_
 refine M8 (k:=[97,114,114,97,121]) (a:= .array) E rfl fun bf ak=>?_
 refine M8 (k:=[97,116]) (a:= .at_) ak rfl fun a7 Q=>?_
 refine M8 (k:=[115,101,116]) (a:= .set_) Q rfl fun b4 V=>?_
 refine M8 (k:=[105,115]) (a:= .is) V rfl fun ax U=>?_
 refine M8 (k:=[99,97,115,116]) (a:= .cast) U rfl fun br g=>?_
 refine M8 (k:=[114,101,116,117,114,110]) (a:= .ret) g rfl fun bw ai=>?_
 refine Ss (s:=[]) (y:=W3) ai (by decide) (by decide) fun b8 a8 a4 C M=>?_
 refine M8 (k:=[116,104,114,111,119]) (a:= .takes [] [W3]) C M fun b6 p=>?_
 refine Ss (s:=[]) (y:=U9) p (by decide) (by decide) fun b9 cg ab af X=>?_
 refine M8 (k:=[111,117,116]) (a:= .takes [] [U9]) af X fun bm ad=>?_
 refine M8 (k:=[101,113,117,97,108]) (a:= .equal) ad rfl fun bq H=>?_
 refine W4 (cells:=(Q2K.map S).toArray) (by kernel_rfl) ?_
 refine U4 10 (fun i w'=>TS w σ w' ab r ((((Q2K.take i).map fun o=>(o,Dact.takes U9 [U9,U9])).reverse)++Q9C.reverse)) H fun i w2 d hi f=>?_
 refine Z4 ?_
 refine Q6 (fun hc=>?_) (fun hc=>?_)
 ·have b:i<10:=by simp at hc;omega
  have c:i<Q2K.length:=b
  refine X28 (v:=S Q2K[i]) b (by rw[List.getElem?_map,List.getElem?_eq_getElem c];rfl) ?_
  refine M8 (a:= .takes U9 [U9,U9]) f (.inr (.inl ⟨rfl,rfl,rfl⟩)) fun w3 n=>?_
  (try simp only[↓M1,M1,Mb,reduceIte])
  refine Y6 (by decide) b ?_
  rw[List.take_add_one,List.getElem?_eq_getElem c,Option.toList_some,List.map_append,List.reverse_append]
  exact n
 ·have:i=10:=by simp at hc;omega
  subst this
  obtain ⟨e,q1,q2⟩:=f.mp
  obtain ⟨σ3,s3,l3,ah,_⟩:=q1.keep f.stp f.ge
  exact h r e w2 σ3 s3 l3 (q2.lift ⟨ah⟩))
end Go.Proofs.YtfppjenblllfaaaGreatDoor

namespace Go.Proofs.YtfppjenblllfaaaGreatDoor
open Go.Emb Go.RowKit Go.Kd Go.Hm
variable {w w' w1 : World} {K : Value → World → Prop} {σ σ' σ1 : Q4} {v u : Value} {B : Nat} {D D1 : Nat → Prop} {p tv pv cv hv : Value} {m : Hm.Met} {i : Ins} {d d' : Dr} {l : List Cla} {E : World → Prop}
def To (B:Nat) (D:Nat→Prop) (w:World) (σ:Q4) (p tv pv cv hv:Value) (m:Hm.Met) (i:Ins) (d':Dr) (E:World→Prop):Prop:=
 ∀w' σ' a,Nxt D w σ w' σ'→DrIs B a σ' w' p tv pv cv hv m i d'→(∀j,a j→D j∨w.heap.size≤j)→E w'
theorem Nxt.chain0 {D F:Nat→Prop} {f:World} {c:Q4} (h:Nxt D w σ w1 σ1) (k:Nxt F w1 σ1 f c) (g: ∀j,j<w.heap.size→F j→D j):Nxt D w σ f c:=
 ⟨⟨k.kp.os.trans h.kp.os,k.kp.tape.trans h.kp.tape,k.kp.output.trans h.kp.output,Nat.le_trans h.kp.size k.kp.size,fun j a b=>(k.kp.block j (Nat.lt_of_lt_of_le a h.kp.size) fun e=>b (g j a e)).trans (h.kp.block j a b)⟩,
  h.le.more k.le,fun j a=>(k.old j (Nat.lt_of_lt_of_le a h.kp.size)).trans (h.old j a),k.sat⟩
theorem To.go (h:To B D w σ p tv pv cv hv m i d' E) (N:Nxt D w σ w1 σ1) (hD: ∀j,D1 j→D j∨w.heap.size≤j):To B D1 w1 σ1 p tv pv cv hv m i d' E:=fun w' σ' f g c a=>
 h w' σ' f (Nxt.chain0 N g fun j b e=>(hD j e).elim id fun h=>by omega) c fun j b=>(a j b).elim (fun e=>hD j e) fun e=> .inr (Nat.le_trans N.kp.size e)
theorem To.up (h:To B D w σ p tv pv cv hv m i d' E) (k:Stp w σ w1 σ1):To B D w1 σ1 p tv pv cv hv m i d' E:=h.go (.of_stp k) fun j a=> .inl a
theorem To.fin (h:To B D w σ p tv pv cv hv m i d' E) (b:X4 w σ) (c:DrIs B D σ w p tv pv cv hv m i d'):E w:=h w σ D (Nxt.rfl0 b) c fun j a=> .inl a
structure AtD (B : Nat) (D : Nat → Prop) (w : World) (σ : Q4) (p tv pv cv hv : Value) (m : Hm.Met) (i : Ins) (l : List Cla) (d : Dr) : Prop where
  sat : X4 w σ
  ge : B ≤ w.heap.size
  dr : DrIs B D σ w p tv pv cv hv m i d
  tab : Tab σ tv l
  ok : Ok l
  len : d.stack.length ≤ 100000
theorem AtD.up (h:AtD B D w σ p tv pv cv hv m i l d) (k:Stp w σ w1 σ1):AtD B D w1 σ1 p tv pv cv hv m i l d:=⟨k.sat,Nat.le_trans h.ge k.bel.size,h.dr.up k,h.tab.lift ⟨k.le⟩,h.ok,h.len⟩
theorem AtD.go (h:AtD B D w σ p tv pv cv hv m i l d) (N:Nxt D w σ w1 σ1) (a:DrIs B D1 σ1 w1 p tv pv cv hv m i d') (b:d'.stack.length≤100000):AtD B D1 w1 σ1 p tv pv cv hv m i l d':=⟨N.sat,Nat.le_trans h.ge N.kp.size,a,h.tab.lift N.le,h.ok,b⟩
theorem Q57 {q:Q9} {ys:List Q9} (h:AtD B D w σ p tv pv cv hv m i l d) (b:Sl 1 X9 σ v ys) (c:q.length≤Y9) (a:ys.length≤2000000) (hh:To B D w σ p tv pv cv hv m i (d.all l q ys) (K (.tuple #[]))):Q0 P F.m [p,S q,v] w K:=
 X4i h.sat h.ge h.dr h.tab h.ok b c h.len a hh
theorem Q8E {ys:List Q9} (h:AtD B D w σ p tv pv cv hv m i l d) (c:Sl 1 X9 σ v ys) (e:ys.length≤100000) (hh:To B D w σ p tv pv cv hv m i (d.put ys) (K (.tuple #[]))):Q0 P F.g [p,v] w K:=
 X1O h.sat h.ge h.dr c (by have:=h.len;omega) fun w' b N a hD=>hh w' σ b N a hD
theorem Xi {ok:Bool} {e:Int} (h:AtD B D w σ p tv pv cv hv m i l d) (hh:To B D w σ p tv pv cv hv m i (d.wrong ok e) (K (.bool (decide ((d.wrong ok e).e=0))))):Q0 P F.c [p, .bool ok,I e] w K:=
 Q14 h.sat h.dr fun w' N b=>hh w' σ D N b fun j a=> .inl a
theorem Q2M {q y:Q9} (h:AtD B D w σ p tv pv cv hv m i l d) (e:q.length≤Y9) (c:y.length≤Y9) (hh:To B D w σ p tv pv cv hv m i (d.all l q [y]) E):buildSlice P T.c 1 [(0,S y)] w fun t w=>Q0 P F.m [p,S q,t] w fun _ w=>E w:=by
 refine O4 (R:=X9) (sz:=1) h.sat [S y] [y] rfl rfl (by simp;rfl) rfl ⟨⟨rfl,c⟩,trivial⟩ fun f g j b a=>?_
 exact Q57 (h.up b) a e (by simp) (hh.up b)
theorem Q3d {q y z:Q9} (h:AtD B D w σ p tv pv cv hv m i l d) (f:q.length≤Y9) (c:y.length≤Y9) (e:z.length≤Y9) (hh:To B D w σ p tv pv cv hv m i (d.all l q [y,z]) E):buildSlice P T.c 2 [(0,S y),(1,S z)] w fun t w=>Q0 P F.m [p,S q,t] w fun _ w=>E w:=by
 refine O4 (R:=X9) (sz:=1) h.sat [S y,S z] [y,z] rfl rfl (by simp;exact ⟨rfl,rfl⟩) rfl ⟨⟨rfl,c⟩,⟨rfl,e⟩,trivial⟩ fun g j k b a=>?_
 exact Q57 (h.up b) a f (by simp) (hh.up b)
theorem Dm {y:Q9} (h:AtD B D w σ p tv pv cv hv m i l d) (c:y.length≤Y9) (hh:To B D w σ p tv pv cv hv m i (d.put [y]) E):buildSlice P T.c 1 [(0,S y)] w fun t w=>Q0 P F.g [p,t] w fun _ w=>E w:=by
 refine O4 (R:=X9) (sz:=1) h.sat [S y] [y] rfl rfl (by simp;rfl) rfl ⟨⟨rfl,c⟩,trivial⟩ fun e f g b a=>?_
 exact Q8E (h.up b) a (by simp) (hh.up b)
def B7 (l:List Cla) (m:Hm.Met) (i:Ins) (c f:Q9) (k:Bool) (a:Dact):Prop:= ∀{w:World} {σ:Q4} {B:Nat} {D:Nat→Prop} {p tv pv cv hv v:Value} {d:Dr} {K:Value→World→Prop},AtD B D w σ p tv pv cv hv m i l d→Pp σ a v→d.e=0→
 To B D w σ p tv pv cv hv m i (V9 l m i c f k d a) (K (.tuple #[]))→Z3 P v [p] w K
theorem Q6D {c f q:Q9} {k:Bool} {ys:List Q9} (s:ys.length≤100000):B7 l m i c f k (.takes q ys):=fun {w σ B D p tv pv cv hv v d K} h n _ hh=>by
 have hh:To B D w σ p tv pv cv hv m i (d.all l q ys) (K (.tuple #[])):=hh
 rcases n with ⟨a,b,r,rfl,g,e,o,j⟩ | ⟨rfl,rfl,rfl⟩ | ⟨rfl,rfl,rfl⟩
 ·refine X8 (first:=[]) (caps:=[.pointer (some a), .pointer (some b)]) (Q3Q ?_)
  unfold Gg
  refine Y0 h.sat g rfl ?_
  refine Y0 h.sat e rfl ?_
  exact Q57 h o j (by omega) hh
 ·refine X8 (first:=[]) (caps:=[]) (Gq ?_)
  unfold Lx
  exact Q3d (E:=K (.tuple #[])) h (by decide) (by decide) (by decide) hh
 ·refine X8 (first:=[]) (caps:=[]) (Fb ?_)
  unfold Vz
  exact Q3d (E:=K (.tuple #[])) h (by decide) (by decide) (by decide) hh
theorem X2K {c f q:Q9} {k:Bool}:B7 l m i c f k (.puts q):=fun {w σ B D p tv pv cv hv v d K} h g _ hh=>by
 obtain ⟨a,rfl,e,b⟩:=g
 refine X8 (first:=[]) (caps:=[.pointer (some a)]) (Q4X ?_)
 unfold Pr
 refine Y0 h.sat e rfl ?_
 exact Dm (E:=K (.tuple #[])) h b hh
end Go.Proofs.YtfppjenblllfaaaGreatDoor

namespace Go.Hm
open Go.Kd
section
variable {l : List Cla} {m : Hm.Met} {i : Ins} {c f : Q9} {ok : Bool} {d : Dr}
theorem Dr.put_nil {d:Dr}:d.put []=d:=by
 unfold Dr.put
 split
 ·rename_i h;obtain ⟨a,b,e⟩:=d;simp at h;subst h;simp
 ·rfl
theorem Dr.wrong_bad {d:Dr} {q:Bool} {e:Int} (h:d.e≠0):d.wrong q e=d:=by
 unfold Dr.wrong;simp[h]
theorem Q9A {k:Dact} {p:Q9} {w:List Q9} {q:Bool} {e:Int} (a:e≠0) (b: ∀d,V9 l m i c f ok d k=(d.wrong q e).all l p w) (j:k≠ .store) (h:(V9 l m i c f ok d k).e=0):Done l m i c f ok k d w.length (if p=[] then 0 else 1):=by
 have g:=h
 rw[b] at g
 obtain ⟨_,n,_⟩:=Dr.wrong_ok a (Dr.all_ok g).1.e
 subst n
 exact Da (fun d=>by rw[b];rfl) j h
theorem Q3l {n p:Nat} {k:Dact} {q0:Bool} {e:Int} {q:List Q9→Bool} {r:List Q9→List Q9} (a:e≠0) (g: ∀d,V9 l m i c f ok d k=(((d.wrong q0 e).take n).wrong (q ((d.wrong q0 e).taken n)) 73).put (r ((d.wrong q0 e).taken n))) (j: ∀x,(r x).length=p) (o:k≠ .store) (h:(V9 l m i c f ok d k).e=0):Done l m i c f ok k d n p:=by
 have b:=h
 rw[g,Dr.put_e] at b
 obtain ⟨t,_,_⟩:=Dr.wrong_ok (by decide) b
 obtain ⟨_,s,_⟩:=Dr.wrong_ok a (Dr.take_ok t).1
 subst s
 exact Xs (q:=q) (r:=r) (fun d=>by rw[g];rfl) j o h
theorem Q5t {k:Dact} (a: ∀d,V9 l m i c f ok d k=d) (h:(V9 l m i c f ok d k).e=0):Done l m i c f ok k d 0 0:=by
 rw[a] at h
 exact ⟨by rw[a];exact Eff.none h,by rw[a],fun _=>by rw[a],fun u=>by rw[a,a]⟩
theorem X1n {a:Dact} (h:(V9 l m i c f ok d a).e=0):Done l m i c f ok a d (Iu l m i c f ok a).1 (Iu l m i c f ok a).2:=by
 cases a with
 | puts k=>exact Q6E (q:=true) (e:=76) (x:=k) (by decide) (fun _=>rfl) nofun h
 | takes p w=>exact Da (fun _=>rfl) nofun h
 | load=>
  have v: ∀d:Dr,V9 l m i c f ok d .load=((d.wrong (F0 d i.n) 74).wrong (!decide ((d.wrong (F0 d i.n) 74).locals.getD i.n.toNat []=[])) 74).put [(d.wrong (F0 d i.n) 74).locals.getD i.n.toNat []]:=fun d=>by
   show (if (d.wrong (F0 d i.n) 74).e=0 then _ else _)=_
   split
   ·exact Dr.wrong_put
   ·rename_i g;rw[Dr.wrong_bad g];unfold Dr.put;rw[if_neg g]
  have o:=h
  rw[v,Dr.put_e] at o
  obtain ⟨g,H,O⟩:=Dr.wrong_ok (by decide) o
  obtain ⟨B,D,z⟩:=Dr.wrong_ok (by decide) g
  have b:V9 l m i c f ok d .load=d.put [d.locals.getD i.n.toNat []]:=by rw[v,O,z]
  rw[z] at H
  refine ⟨?_,?_,fun _=>?_,fun u=>?_⟩
  ·rw[b];exact (Eff.none B).put B
  ·rw[b,Dr.put_loc]
  ·rw[b,Dr.put_loc]
  ·have y:F0 (d.over u) i.n=true:=D
   have N:V9 l m i c f ok (d.over u) .load=(d.over u).put [d.locals.getD i.n.toNat []]:=by
    rw[v,y]
    show ((d.over u).wrong (!decide (d.locals.getD i.n.toNat []=[])) 74).put _=_
    rw[H];rfl
   rw[b,N]
   exact Dr.over_put (by rw[Dr.put_e];exact B)
 | store=>
  have v: ∀d:Dr,V9 l m i c f ok d .store=if ((d.wrong (F0 d i.n) 74).take 1).e=0 then ⟨((d.wrong (F0 d i.n) 74).take 1).stack,((d.wrong (F0 d i.n) 74).take 1).locals.set i.n.toNat (((d.wrong (F0 d i.n) 74).taken 1).getD 0 []),0⟩ else (d.wrong (F0 d i.n) 74).take 1:=fun d=>rfl
  have o:((d.wrong (F0 d i.n) 74).take 1).e=0:=by
   rw[v] at h
   split at h
   ·assumption
   ·exact h
  obtain ⟨B,D,z⟩:=Dr.wrong_ok (by decide) (Dr.take_ok o).1
  rw[z] at o
  have b:V9 l m i c f ok d .store=⟨(d.take 1).stack,d.locals.set i.n.toNat ((d.taken 1).getD 0 []),0⟩:=by rw[v,z,if_pos o,Dr.take_loc o]
  refine ⟨?_,?_,fun h=>absurd rfl h,fun u=>?_⟩
  ·rw[b]
   obtain ⟨M,L,r,J,Q⟩:=Eff.take o
   exact ⟨M,L,r,J,Q⟩
  ·rw[b];simp
  ·have y:F0 (d.over u) i.n=true:=D
   obtain ⟨o1,o2⟩:=Dr.over_take (u:=u) o
   rw[b,v,y]
   have w1:((d.over u).wrong true 74).take 1=(d.take 1).over u:=o1
   have R:((d.over u).wrong true 74).taken 1=d.taken 1:=o2
   simp only[w1,R]
   rw[if_pos (show ((d.take 1).over u).e=0 from o)]
   show Dr.mk (u++(d.take 1).stack) ((d.take 1).locals.set _ _) 0=_
   rw[Dr.take_loc o];rfl
 | pop=>exact Xs (n:=1) (p:=0) (q:=fun _=>true) (r:=fun _=>[]) (fun _=>Dr.put_nil.symm) (fun _=>rfl) nofun h
 | dup=>exact Xs (n:=1) (p:=2) (q:=fun _=>true) (r:=fun t=>[t.getD 0 [],t.getD 0 []]) (fun _=>rfl) (fun _=>rfl) nofun h
 | swap=>exact Xs (n:=2) (p:=2) (q:=fun _=>true) (r:=fun t=>[t.getD 1 [],t.getD 0 []]) (fun _=>rfl) (fun _=>rfl) nofun h
 | size=>exact Xs (n:=1) (p:=1) (q:=fun t=> !decide (elem (t.getD 0 [])=[])) (r:=fun _=>[U9]) (fun _=>rfl) (fun _=>rfl) nofun h
 | nop=>exact Q5t (fun _=>rfl) h
 | make=>exact Q6E (q:=Zv l i.s) (e:=76) (x:=i.s) (by decide) (fun _=>Dr.wrong_put) nofun h
 | get=>
  cases j:R9 l c f ok with
  | none=>
   have b: ∀d,V9 l m i c f ok d .get=(d.wrong false 76).all l [] [[]]:=fun d=>by simp only[V9,j]
   rw[b] at h
   exact absurd (Dr.wrong_ok (by decide) (Dr.all_ok h).1.e).2.1 nofun
  | some p=>
   obtain ⟨C,E⟩:=p
   have b: ∀d,V9 l m i c f ok d .get=d.all l E [C]:=fun d=>by simp only[V9,j]
   have:=Da b nofun h
   simp only[Iu,j]
   exact this
 | give=>
  cases j:R9 l c f ok with
  | none=>
   have b: ∀d,V9 l m i c f ok d .give=(d.wrong false 76).all l [] [[],[]]:=fun d=>by simp only[V9,j]
   rw[b] at h
   exact absurd (Dr.wrong_ok (by decide) (Dr.all_ok h).1.e).2.1 nofun
  | some p=>
   obtain ⟨C,E⟩:=p
   have b: ∀d,V9 l m i c f ok d .give=d.all l [] [C,E]:=fun d=>by simp only[V9,j]
   have:=Da b nofun h
   simp only[Iu,j]
   exact this
 | call=>
  cases j:J0 l c f with
  | none=>
   have b: ∀d,V9 l m i c f ok d .call=d.wrong false 76:=fun d=>by simp only[V9,j]
   rw[b] at h
   exact absurd (Dr.wrong_ok (by decide) h).2.1 nofun
  | some p=>
   obtain ⟨C,x⟩:=p
   have b: ∀d,V9 l m i c f ok d .call=d.all l x.result (c::x.params):=fun d=>by simp only[V9,j]
   have:=Da b nofun h
   simp only[Iu,j]
   exact this
 | array=>
  have:=Q9A (q:=Dz l i.s&&right (i.s++[91,93])) (e:=76) (p:=i.s++[91,93]) (w:=[U9]) (k:= .array) (by decide) (fun d=>by show ((d.wrong _ _).wrong _ _).all _ _ _=_;rw[Dr.wrong2]) nofun h
  rw[if_neg (by simp)] at this
  exact this
 | at_=>exact Xs (n:=2) (p:=1) (q:=fun t=>O3 l (t.getD 1 []) U9&& !decide (elem (t.getD 0 [])=[])) (r:=fun t=>[elem (t.getD 0 [])]) (fun d=>by show ((((d.take 2).wrong _ _).wrong _ _).put _)=_;rw[Dr.wrong2]) (fun _=>rfl) nofun h
 | set_=>
  refine Xs (n:=3) (p:=0) (q:=fun t=> !decide (elem (t.getD 0 [])=[])&&O3 l (t.getD 2 []) (elem (t.getD 0 []))&&O3 l (t.getD 1 []) U9) (r:=fun _=>[]) (fun d=>?_) (fun _=>rfl) nofun h
  rw[Dr.put_nil]
  show (((d.take 3).wrong (!decide ((if (d.take 3).e=0 then elem ((d.taken 3).getD 0 []) else [])=[])) 73).wrong (O3 l ((d.taken 3).getD 2 []) (if (d.take 3).e=0 then elem ((d.taken 3).getD 0 []) else [])) 73).wrong _ 73=_
  by_cases g:(d.take 3).e=0
  ·rw[if_pos g,Dr.wrong2,Dr.wrong2,Bool.and_assoc]
  ·rw[if_neg g,Dr.wrong_bad g,Dr.wrong_bad g,Dr.wrong_bad g,Dr.wrong_bad g]
 | is=>exact Q3l (n:=1) (p:=1) (q0:=Dz l i.s) (e:=76) (q:=fun t=>Lb l (t.getD 0 [])) (r:=fun _=>[L8]) (by decide) (fun _=>rfl) (fun _=>rfl) nofun h
 | cast=>exact Q3l (n:=1) (p:=1) (q0:=Dz l i.s) (e:=76) (q:=fun t=>Lb l (t.getD 0 [])) (r:=fun _=>[i.s]) (by decide) (fun _=>rfl) (fun _=>rfl) nofun h
 | ret=>
  by_cases A:m.result=[]
  ·have b: ∀d,V9 l m i c f ok d .ret=d:=fun d=>by simp only[V9,A,if_true]
   simp only[Iu,A,if_true]
   exact Q5t b h
  ·have b: ∀d,V9 l m i c f ok d .ret=d.all l [] [m.result]:=fun d=>by simp only[V9,A,if_false]
   have:=Da b nofun h
   simp only[Iu,A,if_false]
   exact this
 | equal=>exact Xs (n:=2) (p:=1) (q:=fun t=>Lb l (t.getD 1 [])&&Lb l (t.getD 0 [])) (r:=fun _=>[L8]) (fun d=>by show ((((d.take 2).wrong _ _).wrong _ _).put _)=_;rw[Dr.wrong2]) (fun _=>rfl) nofun h
theorem Q8I {α β:Type} [BEq α] [LawfulBEq α] {l:List (α×β)} {k:α} {v:β} (h:l.lookup k=some v):(k,v)∈l:=by
 induction l with
 | nil=>cases h
 | cons p r a=>
  rw[List.lookup_cons] at h
  split at h
  ·rename_i e
   have e:k=p.1:=by simpa using e
   cases h
   rw[e];exact List.mem_cons_self
  ·exact List.mem_cons_of_mem _ (a h)
def X1h:Dact→Bool
 | .takes _ w=>decide (w.length≤100000)
 | _=>true
set_option maxRecDepth 100000 in
theorem X3G {x:Q9} {a:Dact} (h:Ly.lookup x=some a):X1h a=true:=by
 have b: ∀p∈Ly,X1h p.2=true:=by decide+kernel
 exact b _ (Q8I h)
theorem X0j {s:Shp} (h:(Rs l m i c f ok s).2=0): ∃a d,Ly.lookup i.op=some a∧d=V9 l m i c f ok ⟨s.stack,s.locals,0⟩ a∧d.e=0∧d.stack.length≤24∧Rs l m i c f ok s=(⟨true,d.stack,d.locals⟩,0)∧Done l m i c f ok a ⟨s.stack,s.locals,0⟩ (Iu l m i c f ok a).1 (Iu l m i c f ok a).2:=by
 unfold Rs at h⊢
 cases g:Ly.lookup i.op with
 | none=>
  rw[g] at h
  have h:(76:Int)=0:=h
  omega
 | some a=>
  rw[g] at h
  simp only at h⊢
  refine ⟨a,_,rfl,rfl,?_⟩
  generalize k:V9 l m i c f ok ⟨s.stack,s.locals,0⟩ a=d at*
  have o:(d.wrong (decide (d.stack.length≤24)) 72).e=0:=by
   split at h
   ·assumption
   ·exact h
  obtain ⟨b,j,n⟩:=Dr.wrong_ok (by decide) o
  exact ⟨b,of_decide_eq_true j,by rw[n,if_pos b],X1n (by rw[k];exact b)⟩
theorem X39 {s t:Shp} (h:(Rs l m i c f ok s).2=0) (k:(Rs l m i c f ok t).2=0):
 ((Rs l m i c f ok s).1.stack.length:Int)-s.stack.length=((Rs l m i c f ok t).1.stack.length:Int)-t.stack.length∧(Rs l m i c f ok s).1.locals.length=s.locals.length∧(Rs l m i c f ok s).1.seen=true∧(Rs l m i c f ok t).1.seen=true:=by
 obtain ⟨a,d,v,u,E,M,A,j⟩:=X0j h
 obtain ⟨o,L,n,q,H,J,w,B⟩:=X0j k
 have:o=a:=by rw[v] at n;exact (Option.some.inj n).symm
 subst this
 rw[A,w]
 obtain ⟨_,z,r,p,e⟩:=j.eff
 obtain ⟨_,y,D,C,b⟩:=B.eff
 have g:=j.len
 rw[←u] at e g
 rw[←q] at b
 refine ⟨?_,g,rfl,rfl⟩
 simp only at z e y b⊢
 rw[e,b]
 simp only[List.length_append,List.length_take,p,C]
 omega
end
end Go.Hm

namespace Go.Emb
open Go.RowKit Go.Hm
section
variable {P : Program} {w w' : World} {σ : Q4} {α : Type} {R : Q4 → α → List Value → Prop} {B : Nat} {e : TypeId} {v u : Value} {xs : List α} {y : α} {K : Value → World → Prop}
theorem X40 {t V:TypeId} {by_ L:Nat} {z Y:Value} [ts:TS P t e] [tz:TZ P e 1 by_ z] [tz':TZ P V 1 L Y] (hs:X4 w σ) (ha:J6 B e 1 R σ w v xs) {n:Nat} (hn:n<xs.length) (hc:u.cells= #[u]) (h1:u.oneCell'=true) (X:R σ y [u])
 (h: ∀w',Upd w (v.ownBlock.getD 0) w'→σ (v.ownBlock.getD 0)=none→v.ownBlock=some (v.ownBlock.getD 0)→J6 B e 1 R σ w' v (xs.set n y)→K undef w'):
 indexAddr P t v (I n) w (fun p w=>Z6 P V p u w K):=by
 obtain ⟨a,M,rfl,Z,c2,f,c3⟩:=ha
 obtain ⟨g,o,c,rfl,q1,W,U,q4,q5⟩:=c3 (by omega)
 rw[Rf (by omega) (by omega)]
 have ea: ∀g o k:Nat,(⟨g,o,none⟩:Addr).add k=⟨g,o+k,none⟩:=fun g o k=>by unfold Addr.add;split<;>simp_all
 have s:(⟨g,o,none⟩:Addr).add ((n:Int).toNat*1)=⟨g,o+n,none⟩:=by rw[ea,Int.toNat_natCast,Nat.mul_one]
 rw[s]
 have ah:=Array.length_toList (xs:=c)
 have C:o+n<c.toList.length:=by omega
 have q:=run_storeCells_at P g (o+n) e [u] 0 c w U (by simp;omega) (by simpa using h1)
 simp only[Nat.add_zero] at q
 have e2:(List.take (o+n) c.toList++[u]++List.drop (o+n+[u].length) c.toList).toArray=(c.toList.set (o+n) u).toArray:=by
  rw[←Q8i C];simp
 rw[e2] at q
 obtain ⟨A,N⟩:=Wu (cs:=(c.toList.set (o+n) u).toArray) U
 unfold Z6
 rw[Wk (w':=w.setRow g (c.toList.set (o+n) u).toArray) (by simp[Instr.storeAt,Instr.sureAddr,storeVar,W5 tz',hc,q])]
 refine h _ A W rfl ⟨_,M,by rw[List.length_set],by rw[List.length_set];exact Z,c2,fun b H=>⟨(f b H).1,(f b H).2.1,by rw[A.size];exact (f b H).2.2.1,(f b H).2.2.2⟩,fun _=>⟨g,o,_,rfl,q1,W,N,?_,fun j x r=>?_⟩⟩
 ·simp;omega
 ·rw[List.toList_toArray]
  have J:j<xs.length:=by have:=(List.getElem?_eq_some_iff.1 r).1;simpa using this
  by_cases Q:j=n
  ·subst Q
   rw[List.getElem?_set_self J] at r
   cases r
   rw[List.drop_set,if_neg (by omega),List.take_set,show o+j-(o+j*1)=0 by omega]
   have hd:List.take 1 (List.drop (o+j*1) c.toList)=[c.toList[o+j]]:=by
    rw[Nat.mul_one,List.drop_eq_getElem_cons C];rfl
   rw[hd];exact X
  ·rw[List.getElem?_set_ne (by omega)] at r
   have:=q5 j x r
   rcases Nat.lt_or_gt_of_ne Q with O | hgt
   ·rw[List.drop_set,if_neg (by omega),List.take_set,List.set_eq_of_length_le (by rw[List.length_take];omega)]
    exact this
   ·rw[List.drop_set,if_pos (by omega)]
    exact this
end
end Go.Emb
namespace Go.Hm
open Go.Kd
def K7 (s:Q9):Q9×Q9×Bool:=if P9 s then ((G0 s).1,(G0 s).2.1,true) else ([],[],false)
theorem Dr.take_len {d:Dr} {n:Nat}:(d.take n).stack.length≤d.stack.length:=by
 unfold Dr.take;split
 ·rw[List.length_take];omega
 ·unfold Dr.wrong;split
  ·exact Nat.le_refl _
  ·split<;>exact Nat.le_refl _
theorem Dr.taken_len {d:Dr} {n:Nat}:(d.taken n).length=n:=by
 unfold Dr.taken;split
 ·rename_i h;rw[List.length_drop];omega
 ·simp
theorem Dr.wrong_st {d:Dr} {ok:Bool} {e:Int}:(d.wrong ok e).stack=d.stack:=by
 unfold Dr.wrong;split
 ·rfl
 ·split<;>rfl
theorem Dr.wrong_lo {d:Dr} {ok:Bool} {e:Int}:(d.wrong ok e).locals=d.locals:=by
 unfold Dr.wrong;split
 ·rfl
 ·split<;>rfl
theorem getD_get {xs:List Q9} {k:Nat} (a:k<xs.length):xs.getD k []=xs[k]:=by simp[List.getD,a]
end Go.Hm
namespace Go.Proofs.YtfppjenblllfaaaGreatDoor
open Go.Emb Go.RowKit Go.Kd Go.Hm
variable {w w' w1 : World} {K : Value → World → Prop} {σ σ' σ1 : Q4} {v u : Value} {B : Nat} {D D1 : Nat → Prop} {p tv pv cv hv : Value} {m : Hm.Met} {i : Ins} {d d' d2 : Dr} {l : List Cla} {E E' : World → Prop}
theorem Re {xs:List Q9} {k:Nat} (f:X4 w σ) (hv:Sl 1 X9 σ v xs) (c:k<xs.length) (h:(xs.getD k []).length≤Y9→K (S (xs.getD k [])) w):indexAddr P T.c v (I k) w fun t w=>Q2 P T.a t w K:=by
 rw[getD_get c] at h
 refine Zw hv c fun g b a=>?_
 exact Y0 f b rfl (h a)
theorem X3S {xs:List Q9} {k:Nat} (hv:J6 B T.a 1 X9 σ w v xs) (b:k<xs.length) (h:(xs.getD k []).length≤Y9→K (S (xs.getD k [])) w):indexAddr P T.c v (I k) w fun t w=>Q2 P T.a t w K:=by
 rw[getD_get b] at h
 refine Q3S hv b fun a cs g _ f=>?_
 obtain ⟨rfl,j⟩:=f
 have c:=g 0 _ rfl
 rw[show a.add 0=a from by unfold Addr.add;rw[if_pos rfl]] at c
 exact P8 c (h j)
theorem AtD.cells (h:AtD B D w σ p tv pv cv hv m i l d): ∃b sv a,p= .pointer (some ⟨b,0,none⟩)∧Z9 σ w b [tv,S m.name,pv,S m.result, .bool m.abs,I m.locals,cv,hv,S i.op,I i.n,S i.s, .bool true,sv,a,I d.e]∧J6 B T.a 1 X9 σ w sv d.stack∧J6 B T.a 1 X9 σ w a d.locals:=by
 obtain ⟨b,sv,a,g,_,f,c,j,_⟩:=h.dr.ex
 exact ⟨b,sv,a,g,f,c,j⟩
theorem AtD.to (h:AtD B D w σ p tv pv cv hv m i l d) (hh:To B D w σ p tv pv cv hv m i d2 E) (c:d'.stack.length≤100000)
 (k: ∀w' σ' a,Nxt D w σ w' σ'→AtD B a w' σ' p tv pv cv hv m i l d'→To B a w' σ' p tv pv cv hv m i d2 E→E' w'):To B D w σ p tv pv cv hv m i d' E':=
 fun w' σ' a N b hD=>k w' σ' a N (h.go N b c) (hh.go N hD)
theorem Na {n:Nat} (h:AtD B D w σ p tv pv cv hv m i l d) (b:n≤1000000) (hh: ∀v w' σ',Nxt D w σ w' σ'→AtD B D w' σ' p tv pv cv hv m i l (d.take n)→Sl 1 X9 σ' v (d.taken n)→K v w'):Q0 P F.i [p,I n] w K:=
 X01 h.sat h.dr (by have:=h.len;omega) (by omega) fun v w' σ' N a hv=>hh v w' σ' N (h.go N a (Nat.le_trans Dr.take_len h.len)) hv
theorem Q3w {a c:Q9} (h:AtD B D w σ p tv pv cv hv m i l d) (f:a.length≤Y9) (k:c.length≤Y9) (hh:To B D w σ p tv pv cv hv m i (d.wrong (O3 l a c) 73) (K (.tuple #[]))):Q0 P F.a1 [p,S a,S c] w K:=
 Q7E h.sat h.dr h.tab h.ok f k fun w' σ' N g=>hh w' σ' D N g fun j b=> .inl b
theorem X0G {a:Q9} (h:AtD B D w σ p tv pv cv hv m i l d) (f:a.length≤Y9) (hh:To B D w σ p tv pv cv hv m i (d.wrong (!decide (elem a=[])) 73) (K (S (elem a)))):Q0 P F.ba [p,S a] w K:=Q0g (by
 unfold Dh
 refine Q5w a (by unfold Y9 at f;omega) fun w1 c=>?_
 have b:=Stp.of_below h.sat c
 refine I4 ?_
 exact Xi (h.up b) (hh.up b))
theorem Q29 {a:Q9} (h:AtD B D w σ p tv pv cv hv m i l d) (j:a.length≤Y9) (hh:To B D w σ p tv pv cv hv m i (d.wrong (Lb l a) 73) (K (.tuple #[]))):Q0 P F.ak [p,S a] w K:=Ir (by
 unfold Lo
 obtain ⟨b,sv,o,rfl,g,k,n⟩:=h.cells
 refine H9 ?_
 refine J7 ?_
 refine B4 (i:=0) g rfl ?_
 refine Sp h.sat h.tab j fun w1 σ1 c=>?_
 have f:=h.up c
 replace hh:=hh.up c
 unfold Lb at hh
 cases e:R0 l a with
 | false=>
  rw[e,Bool.false_and] at hh
  (repeat refine Hd.h ?_)
  exact Xi f hh
 | true=>
  rw[e,Bool.true_and] at hh
  (repeat refine Hd.h ?_)
  refine Jv a ?_
  (repeat refine Hd.h ?_)
  exact Xi f hh)
theorem X1D (h:AtD B D w σ p tv pv cv hv m i l d) (hh:To B D w σ p tv pv cv hv m i ((d.take 1).wrong (Lb l ((d.taken 1).getD 0 [])) 73) (K (S ((d.taken 1).getD 0 [])))):Q0 P F.bm [p] w K:=Q1B (by
 unfold Ew
 refine Na (n:=1) h (by decide) fun o w1 σ1 f b a=>?_
 refine Re (k:=0) b.sat a (by rw[Dr.taken_len];decide) fun g=>?_
 exact Q29 b g (hh.go f fun j c=> .inl c))
theorem dml {b n:Nat} {cs:List Value} {V:Value} {t:TypeId} [TG P t false] (a:Z9 σ w b cs) (c:Hst w σ w' σ) (hv:cs[n]? =some V):Q2 P t (.pointer (some ((⟨b,0,none⟩:Addr).add n))) w' (dk (fun w w'=>Below w.heap.size w w') (fun v _=>V=v) w'):=
 B4 (a.up c.stp) hv (Y1 rfl)
theorem Q3q (h:AtD B D w σ p tv pv cv hv m i l d) (J:i.s.length≤Y9) (hh:To B D w σ p tv pv cv hv m i (d.wrong (Dz l i.s) 76) (K (S i.s))):Q0 P F.ap [p] w K:=Tn (by
 unfold Ob
 obtain ⟨b,sv,Z,rfl,W,hq,X⟩:=h.cells
 unfold Dz at hh
 have f: ∀w1 σ1 q,Stp w σ w1 σ1→(!decide (i.s=C2)&&R0 l i.s)=q→Q0 P F.c [.pointer (some ⟨b,0,none⟩), .bool q,I 76] w1 fun V w=>nilCheck P (.pointer (some ⟨b,0,none⟩)) w fun t w=>fieldAddr P T.m t 2 w fun k w=>fieldAddr P T.k k 2 w fun r w=>Q2 P T.a r w fun o w=>K o w:=fun w1 σ1 q C Q=>by
  subst Q
  refine Xi (h.up C) fun A z H M d2 j=>?_
  obtain ⟨Y,L,U,N,_,n,_⟩:=id d2.ex
  cases N
  refine H9 ?_
  refine J7 ?_
  refine J7 ?_
  refine B4 (i:=10) n rfl ?_
  exact (hh.up C) A z H M d2 j
 refine U8 h.sat ?_
 by_cases g:i.s=C2
 ·have hz0:decide (i.s=[110,117,108,108])=true:=decide_eq_true g
  (repeat (apply Z8;(· intros;(repeat (rename_i c;subst c));(try simp only[hz0,E2,E7,G6,L4,N5,Bool.not_true,Bool.not_false]);first | exact Y1 rfl | exact H9 (Y1 rfl) | exact J7 (Y1 rfl) | exact G1 (Y1 rfl) | exact I4 (Y1 rfl) | (rw[Ys];exact dml (by assumption) (by assumption) rfl) | exact dml (by assumption) (by assumption) rfl | exact Vi (J6.up (by assumption) (Hst.stp (by assumption))) (Y1 rfl);done)))
  (intros;(repeat (rename_i c;subst c)))
  rename_i w1 a
  simp only[hz0,Bool.not_true,Bool.not_false,E2,E7,G6,L4,N5,B0,G7]
  exact f _ _ _ a.stp (by rw[decide_eq_true g];rfl)
 ·have hz0:decide (i.s=[110,117,108,108])=false:=decide_eq_false g
  (repeat (apply Z8;(· intros;(repeat (rename_i c;subst c));(try simp only[hz0,E2,E7,G6,L4,N5,Bool.not_true,Bool.not_false]);first | exact Y1 rfl | exact H9 (Y1 rfl) | exact J7 (Y1 rfl) | exact G1 (Y1 rfl) | exact I4 (Y1 rfl) | (rw[Ys];exact dml (by assumption) (by assumption) rfl) | exact dml (by assumption) (by assumption) rfl | exact Vi (J6.up (by assumption) (Hst.stp (by assumption))) (Y1 rfl);done)))
  (intros;(repeat (rename_i c;subst c)))
  rename_i w1 a
  simp only[hz0,Bool.not_true,Bool.not_false,E2,E7,G6,L4,N5,B0,G7]
  refine Sp a.sat (h.tab.lift ⟨a.stp.le⟩) J fun A z O=>?_
  exact f _ _ _ (a.stp.trans O) (by rw[decide_eq_false g];rfl))
theorem Q8a (h:AtD B D w σ p tv pv cv hv m i l d) (hh:To B D w σ p tv pv cv hv m i (d.wrong (F0 d i.n) 74) (K (if (d.wrong (F0 d i.n) 74).e=0 then I i.n else I (-1)))):Q0 P F.aU [p] w K:=Py (by
 unfold Ni
 obtain ⟨b,sv,Y,rfl,V,Z,W⟩:=h.cells
 unfold F0 at hh
 have f: ∀w1 q,Hst w σ w1 σ→(decide (0≤i.n)&&decide (i.n<(d.locals.length:Int)))=q→Q0 P F.c [.pointer (some ⟨b,0,none⟩), .bool q,I 74] w1 fun z w=>J3 P .not z w fun o w=>X1 o (K (.int .i64 (-1)) w) (nilCheck P (.pointer (some ⟨b,0,none⟩)) w fun s w=>fieldAddr P T.m s 2 w fun k w=>fieldAddr P T.k k 1 w fun t w=>Q2 P T.ad t w fun A w=>K A w):=fun w1 q C O=>by
  subst O
  refine Xi (h.up C.stp) fun U J H M d2 j=>?_
  have:=(hh.up C.stp) U J H M d2 j
  obtain ⟨X,L,Q,N,_,r,_⟩:=id d2.ex
  cases N
  refine Li ?_
  by_cases g:(d.wrong (decide (0≤i.n)&&decide (i.n<(d.locals.length:Int))) 74).e=0
  ·rw[decide_eq_true g,Bool.not_true]
   rw[if_pos g] at this
   refine V0 ?_
   refine H9 ?_
   refine J7 ?_
   refine J7 ?_
   exact B4 (i:=9) r rfl this
  ·rw[decide_eq_false g,Bool.not_false]
   rw[if_neg g] at this
   exact J5 this
 refine U8 h.sat ?_
 cases hz0:decide ((0:Int)≤i.n) with
 | false=>
  (repeat (apply Z8;(· intros;(repeat (rename_i a;subst a));(try simp only[hz0,E2,E7,G6,L4,N5,Bool.not_true,Bool.not_false]);first | exact Y1 rfl | exact H9 (Y1 rfl) | exact J7 (Y1 rfl) | exact G1 (Y1 rfl) | exact I4 (Y1 rfl) | (rw[Ys];exact dml (by assumption) (by assumption) rfl) | exact dml (by assumption) (by assumption) rfl | exact Vi (J6.up (by assumption) (Hst.stp (by assumption))) (Y1 rfl);done)))
  (intros;(repeat (rename_i a;subst a)))
  rename_i w1 c
  simp only[hz0,Bool.not_true,Bool.not_false,E2,E7,G6,L4,N5,B0,G7]
  exact f _ _ c (by rw[hz0];rfl)
 | true=>
  (repeat (apply Z8;(· intros;(repeat (rename_i a;subst a));(try simp only[hz0,E2,E7,G6,L4,N5,Bool.not_true,Bool.not_false]);first | exact Y1 rfl | exact H9 (Y1 rfl) | exact J7 (Y1 rfl) | exact G1 (Y1 rfl) | exact I4 (Y1 rfl) | (rw[Ys];exact dml (by assumption) (by assumption) rfl) | exact dml (by assumption) (by assumption) rfl | exact Vi (J6.up (by assumption) (Hst.stp (by assumption))) (Y1 rfl);done)))
  (intros;(repeat (rename_i a;subst a)))
  rename_i w1 c
  simp only[hz0,Bool.not_true,Bool.not_false,E2,E7,G6,L4,N5,B0,G7]
  refine Z4 ?_
  exact f _ _ c (by rw[hz0];rfl))
end Go.Proofs.YtfppjenblllfaaaGreatDoor
