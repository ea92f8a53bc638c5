/- Parts of a proof about the given program: its functions as texts of their own, what each computes, plain laws of that. The conditions of each stand in its statement. -/
import Derived.Test.YtfppjenblllfaaaGreatDoorB4
import Derived.Test.YtfppjenblllfaaaGreatDoorB3
import Derived.Lib.TrimUEq
set_option linter.unnecessarySimpa false
set_option linter.defProp false
set_option linter.unusedSectionVars false
set_option linter.unusedVariables false
set_option linter.unusedSimpArgs false
namespace Go.Emb
open Go.RowKit Go.Hm
structure FinT (B : Nat) (F : Option Obj → Prop) (w w' : World) : Prop where
  os : w'.os = w.os
  tape : w'.tape = w.tape
  output : w'.output = w.output
  size : w.heap.size ≤ w'.heap.size
  old : ∀ k, k < w.heap.size → k < B → w'.heap[k]? = w.heap[k]?
  new : ∀ k, k < w.heap.size → w'.heap[k]? = w.heap[k]? ∨ F (w'.heap[k]?)
section
variable {P : Program} {B : Nat} {F : Option Obj → Prop} {w w' w0 : World} {σ : Q4} {v V : Value} {K : Value → World → Prop}
theorem FinT.of_below (h:Below w.heap.size w w'):FinT B F w w':=⟨h.os,h.tape,h.output,h.size,fun k a _=>h.block k a,fun k a=> .inl (h.block k a)⟩
theorem FinT.of_upd {b:Nat} (h:Upd w b w') (c:B≤b) (hF:F (w'.heap[b]?)):FinT B F w w':=
 ⟨h.os,h.tape,h.output,by rw[h.size];exact Nat.le_refl _,fun k a hB=>h.block k (by omega),fun k a=>by
  by_cases e:k=b
  ·subst e;exact .inr hF
  ·exact .inl (h.block k e)⟩
theorem FinT.hst (h:FinT w0.heap.size F w w') (c:X4 w0 σ) (a:Hst w0 σ w σ):Hst w0 σ w' σ:=
 ⟨Stp.of_below c ⟨h.os.trans a.stp.bel.os,h.tape.trans a.stp.bel.tape,h.output.trans a.stp.bel.output,Nat.le_trans a.stp.bel.size h.size,fun k b=>(h.old k (Nat.lt_of_lt_of_le b a.stp.bel.size) b).trans (a.stp.bel.block k b)⟩⟩
theorem X1b {A:(World→World→Prop)→(World→Prop)→Prop} (F:Option Obj→Prop) (a:X4 w σ) (h:A (FinT w.heap.size F) (fun w'=>Hst w σ w' σ)):dr w A:=
 Q09 _ _ ⟨Stp.of_below a (Below.refl _ _).drew⟩ (fun _ _ b c=>c.hst a b) h
theorem Q4d (h:V=v):dk (FinT B F) (fun v _=>V=v) w v w:=⟨.of_below (Below.refl _ _),h⟩
theorem X0q (a:Below w.heap.size w w') (h:V=v):dk (FinT B F) (fun v _=>V=v) w v w':=⟨.of_below a,h⟩
def X17 (B n:Nat) (F:Option Obj→Prop) (v:Value) (w:World):Prop:= ∃g,v= .pointer (some ⟨g,0,none⟩)∧B≤g∧((∃cs:List Value,∃e,cs.length=n∧w.heap[g]? =some (.cells cs.toArray e (0,0)))∨F (w.heap[g]?))
def X1N (B:Nat) (F:Option Obj→Prop) (v:Value) (w:World):Prop:= ∃g,v= .pointer (some ⟨g,0,none⟩)∧B≤g∧F (w.heap[g]?)
theorem Bu {w:World} {g:Nat} {o:Obj} (h:w.heap[g]? =some o):g<w.heap.size:=(Array.getElem?_eq_some_iff.1 h).1
theorem Q6N {n:Nat} (hF: ¬F none):K1 (FinT B F) (X17 B n F):=by
 rintro v w w' ⟨g,rfl,hB,b⟩ d
 have a:g<w.heap.size:=by
  rcases b with ⟨cs,e,_,h⟩ | h
  ·exact Bu h
  ·cases c:w.heap[g]? with
   | none=>rw[c] at h;exact absurd h hF
   | some o=>exact Bu c
 rcases d.new g a with h | h
 ·exact ⟨g,rfl,hB,by rw[h];exact b⟩
 ·exact ⟨g,rfl,hB, .inr h⟩
theorem Q7b (hF: ¬F none):K1 (FinT B F) (X1N B F):=by
 rintro v w w' ⟨g,rfl,hB,a⟩ d
 have b:g<w.heap.size:=by
  cases c:w.heap[g]? with
  | none=>rw[c] at a;exact absurd a hF
  | some o=>exact Bu c
 rcases d.new g b with h | h
 ·exact ⟨g,rfl,hB,by rw[h];exact a⟩
 ·exact ⟨g,rfl,hB,h⟩
end
end Go.Emb
namespace Go.Hm
open Go.Kd
theorem Q5f {a b:List Hm.Met} (h: ∀m,m∈a↔m∈b):Vr a=Vr b:=by
 rw[Bool.eq_iff_iff]
 simp only[Vr,List.any_eq_true]
 constructor
 ·rintro ⟨x,c,y,d,e⟩;exact ⟨x,(h x).1 c,y,(h y).1 d,e⟩
 ·rintro ⟨x,c,y,d,e⟩;exact ⟨x,(h x).2 c,y,(h y).2 d,e⟩
theorem Q93 {α:Type} {a b:List α} {p:α→Bool} (h: ∀m,m∈a↔m∈b):a.any p=b.any p:=by
 rw[Bool.eq_iff_iff]
 simp only[List.any_eq_true]
 constructor
 ·rintro ⟨x,c,y⟩;exact ⟨x,(h x).1 c,y⟩
 ·rintro ⟨x,c,y⟩;exact ⟨x,(h x).2 c,y⟩
def Xh (m:Hm.Met):List X0:=m.params++if m.result=[] then [] else [m.result]
def Yq (c:Cla):List X0:=c.fields.map (·.kind)++c.methods.flatMap Xh
theorem Q8y {l:List Cla} {c:Cla}:(Yq c).any (fun s=> !D2 l s)=C8 l c:=by
 unfold Yq C8 Xh
 rw[List.any_append,List.any_map,List.any_flatMap]
 congr 1
 congr 1
 funext m
 rw[List.any_append]
 by_cases e:m.result=[]
 ·simp[e]
 ·simp[e,Bool.or_comm]
def Ad (l:List Cla) (i k:Nat):Bool:=decide (k=i)||Zp l (Y1 l i) (Y1 l k)
def T5 (l:List Cla) (i n:Nat):List Hm.Met:=(List.range n).flatMap fun k=>if Ad l i k then (l.getD k Cla.zero).methods else []
theorem Q7l {l:List Cla} {i n:Nat}:T5 l i (n+1)=T5 l i n++if Ad l i n then (l.getD n Cla.zero).methods else []:=by
 unfold T5
 rw[List.range_succ,List.flatMap_append]
 simp
theorem Q3a {l:List Cla} (r:G2 l) {i:Nat} (h:i<l.length) (m:Hm.Met):m∈T5 l i l.length↔m∈Ut l (Y1 l i):=by
 unfold T5 Ut
 simp only[List.mem_flatMap,List.mem_range]
 have a: ∀k,k<l.length→lk l (Y1 l k)=some (l.getD k Cla.zero):=fun k g=>Qp r g
 constructor
 ·rintro ⟨k,g,d⟩
  split at d
  ·rename_i hu
   refine ⟨Y1 l k,?_,by rw[a k g];exact d⟩
   rw[Zu,Q2Q]
   simp only[Ad,Bool.or_eq_true,decide_eq_true_eq,Ux] at hu
   rcases hu with rfl | hu
   ·exact .inl ⟨rfl,_,a _ g⟩
   ·exact .inr hu
  ·simp at d
 ·rintro ⟨u,hu,d⟩
  rw[Zu] at hu
  obtain ⟨c,q⟩:=hu.right
  obtain ⟨y,p,j,z,b⟩:=U3 q
  obtain ⟨n,s⟩:=List.getElem?_eq_some_iff.1 b
  have f:Y1 l j=u:=by
   unfold Y1;rw[List.getD_eq_getElem?_getD,b];exact y
  refine ⟨j,n,?_⟩
  rw[q] at d
  have:Ad l i j=true:=by
   simp only[Ad,Bool.or_eq_true,decide_eq_true_eq,Ux]
   rw[Q2Q] at hu
   rcases hu with ⟨e,_⟩ | hu
   ·left
    have t:=a i h
    rw[e,←f] at t
    have o:=G2.find r (i:=i) (c:=l[i]) (List.getElem?_eq_getElem h)
    have A:l[i].name=Y1 l i:=by unfold Y1;rw[List.getD_eq_getElem?_getD,List.getElem?_eq_getElem h];rfl
    rw[A,e,z] at o
    simpa using o
   ·right;rw[f];exact hu
  rw[if_pos this,List.getD_eq_getElem?_getD,b]
  exact d
theorem Q7K {l:List Cla} {i n:Nat} {m:Hm.Met} (h:m∈T5 l i n) (d:n≤l.length): ∃c∈l,m∈c.methods:=by
 unfold T5 at h
 simp only[List.mem_flatMap,List.mem_range] at h
 obtain ⟨k,e,a⟩:=h
 split at a
 ·have b:k<l.length:=by omega
  rw[List.getD_eq_getElem?_getD,List.getElem?_eq_getElem b] at a
  exact ⟨l[k],List.getElem_mem _,a⟩
 ·simp at a
def G9 (a:List Hm.Met) (x y:Nat):Bool:=decide ((a.getD x Hm.Met.zero).name=(a.getD y Hm.Met.zero).name)&& !decide (P4 (a.getD x Hm.Met.zero)=P4 (a.getD y Hm.Met.zero))
theorem Rn {α:Type} {l:List α} {d:α} {n:Nat} (h:n<l.length):l.getD n d=l[n]:=by rw[List.getD_eq_getElem?_getD,List.getElem?_eq_getElem h];rfl
theorem Q8t {a:List Hm.Met} {x y:Nat} (b:x<a.length) (c:y<a.length) (h:G9 a x y=true):Vr a=true:=by
 unfold Vr
 rw[List.any_eq_true]
 refine ⟨a[x],List.getElem_mem _,?_⟩
 rw[List.any_eq_true]
 refine ⟨a[y],List.getElem_mem _,?_⟩
 unfold G9 at h
 rwa [Rn b,Rn c] at h
theorem Q9A {d:List Hm.Met} (h: ∀x y,x<d.length→y<x→G9 d x y=false):Vr d=false:=by
 unfold Vr
 rw[List.any_eq_false]
 intro a j
 rw[List.any_eq_true]
 rintro ⟨b,k,f⟩
 obtain ⟨x,g,rfl⟩:=List.getElem_of_mem j
 obtain ⟨y,i,rfl⟩:=List.getElem_of_mem k
 have e:G9 d y x=G9 d x y:=by
  unfold G9
  congr 1
  ·rw[Bool.eq_iff_iff];simp[eq_comm]
  ·congr 1;rw[Bool.eq_iff_iff];simp[eq_comm]
 have c:G9 d x y=true:=by unfold G9;rw[Rn g,Rn i];exact f
 rcases Nat.lt_trichotomy x y with hlt | heq | hlt
 ·rw[←e,h y x i hlt] at c;cases c
 ·subst heq;simp[G9] at c
 ·rw[h x y g hlt] at c;cases c
end Go.Hm
namespace Go.Proofs.YtfppjenblllfaaaGreatDoor
open Go.Emb Go.RowKit Go.Kd Go.Hm
variable {w : World} {K : Value → World → Prop} {σ : Q4} {l : List Cla} {v : Value}
theorem Bw {c:Cla} (h:Xv c=false):c.fields.length≤32∧c.methods.length≤32∧ ∀m∈c.methods,m.params.length≤32:=by
 simp only[Xv,Bool.or_eq_false_iff,decide_eq_false_iff_not,List.any_eq_false] at h
 obtain ⟨⟨⟨b,f⟩,e⟩,d⟩:=h
 refine ⟨by omega,by omega,fun m a=>?_⟩
 have:=b m a
 simp only[Uh,Bool.or_eq_true,decide_eq_true_eq,not_or] at this
 omega
set_option maxHeartbeats 8000000 in
theorem Q5B {i:Nat} (hs:X4 w σ) (hv:Sl 8 U5 σ v l) (ok:Ok l) (own:G2 l) (hlen:l.length≤1000) (hmn: ∀c∈l,Xv c=false) (hi:i<l.length)
 (h: ∀w' σ',Stp w σ w' σ'→K (I (U8 l l[i])) w'):Q0 P F.aS [v,I i] w K:=Sh (by
 unfold Js
 obtain ⟨lv,fv,mv,p0,r0⟩:=hv.elC hi
 refine J9 hv hi ?_
 refine Y7 hs p0 rfl ?_
 refine Y6 hs (by rfl) rfl (Rep.one r0) fun q w1 σ1 hk1 hq1=>?_
 have r1:=RCl_lift r0 ⟨hk1.le⟩
 obtain ⟨_,gf,gm,g4,_⟩:=r1.parts
 have hv1:=hv.up hk1
 have hnm:=ok.nm _ (List.getElem_mem hi)
 have hcm:=hmn _ (List.getElem_mem hi)
 have hname:Y1 l i=l[i].name:=Bo hi
 generalize hcE:l[i]=c at*
 obtain ⟨mf,mm,mp⟩:=Bw hcm
 have e64:Qt l c=true→U8 l c=64:=fun e=>by unfold U8;simp[e]
 have e65:Qt l c=false→C8 l c=true→U8 l c=65:=fun e e2=>by unfold U8;simp[e,e2]
 have e66:Qt l c=false→C8 l c=false→Xo l c=true→U8 l c=66:=fun e e2 e3=>by unfold U8;simp[e,e2,e3]
 have e67:Qt l c=false→C8 l c=false→Xo l c=false→Na l c=true→U8 l c=67:=fun e e2 e3 e4=>by unfold U8;simp[e,e2,e3,e4]
 have e0:Qt l c=false→C8 l c=false→Xo l c=false→Na l c=false→U8 l c=0:=fun e e2 e3 e4=>by unfold U8;simp[e,e2,e3,e4]
 generalize U8 l c=R at*
 clear p0 r0 r1 hcm
 refine Z8 c.fields.length (fun n w'=> ∃σ',Stp w σ w' σ'∧SLe σ1 σ'∧(c.fields.take n).any (fun f=>(Xk l c.super f.name).isSome)=false) ⟨σ1,hk1,SLe.refl _,rfl⟩ fun n w2 d hn hinv=>?_
 obtain ⟨σ2,hS2,le2,hno⟩:=hinv
 have hq2:=hq1.lift le2
 have gf2:=gf.lift le2
 (try simp only[↓M1,M1,Mb,reduceIte])
 refine ld hS2.sat hq2 rfl ?_
 refine Q8 gf2 ?_
 refine Z1 ?_
 refine Q5 (fun hc=>?_) (fun hc=>?_)
 ·have hn':n<c.fields.length:=by simpa using hc
  obtain ⟨pf,_⟩:=gf2.elF hn'
  have hs2:=hS2.sat
  refine V2 hs2 ?_
  (repeat refine U4 Qn ?_)
  (intros;(repeat (rename_i hx;subst hx));(try simp only[↓M2,M2,Mb,reduceIte]))
  rename_i w3 hb3
  refine Q7W hb3.sat (hv.up (hS2.trans hb3.stp)) ok.acy hlen ok.sm fun w4 σ4 hk4=>?_
  refine Zm ?_
  rw[Zw]
  have hnx:=M3 (p:=fun f:Fld=>(Xk l c.super f.name).isSome) hn'
  cases hp:(Xk l c.super c.fields[n].name).isSome with
  | true=>
   (try simp only[↓M1,M1,Mb,reduceIte])
   rw[hp,Bool.or_true] at hnx
   have:R=64:=e64 (C0 hn' hp)
   subst this
   exact h _ _ ((hS2.trans hb3.stp).trans hk4)
  | false=>
   (try simp only[↓M1,M1,Mb,reduceIte])
   exact Y2 gf.max hn' ⟨σ4,(hS2.trans hb3.stp).trans hk4,le2.more ⟨(hb3.stp.trans hk4).le⟩,by rw[hnx,hno,hp];rfl⟩
 have hA:Qt l c=false:=by
  have hn': ¬n<c.fields.length:=by simpa using hc
  rw[O9 hn'] at hno;exact hno
 clear hno hc hn e64
 refine Pa (R:=Y0) (e:=T.b) hS2 (by decide) fun x3 w3 hk3 ha3 _=>?_
 have hS3:=hS2.trans hk3
 refine O8 c.fields.length (fun n x w'=> ∃σ',Stp w σ w' σ'∧SLe σ1 σ'∧V5 w.heap.size T.b 1 Y0 σ' w' x ((c.fields.take n).map (·.kind))) ⟨σ2,hS3,le2,ha3⟩ fun n x w4 d hn hinv=>?_
 obtain ⟨σ4,hS4,le4,ha4⟩:=hinv
 have hq4:=hq1.lift le4
 have gf4:=gf.lift le4
 (try simp only[↓M1,M1,Mb,reduceIte])
 refine ld hS4.sat hq4 rfl ?_
 refine Q8 gf4 ?_
 refine Z1 ?_
 refine Q5 (fun hc=>?_) (fun hc=>?_)
 ·have hn':n<c.fields.length:=by simpa using hc
  obtain ⟨pf,rf⟩:=gf4.elF hn'
  have hkl:=(hnm.2.1 _ (List.getElem_mem hn')).2
  (try simp only[↓M1,M1,Mb,reduceIte])
  refine ld hS4.sat hq4 rfl ?_
  refine J9 gf4 hn' ?_
  (try simp only[↓M1,M1,Mb,reduceIte])
  refine ld hS4.sat pf rfl ?_
  refine Jy (R:=Y0) (x:=c.fields[n].kind) hS4 ha4 ⟨rfl,Nat.le_trans hkl (by decide)⟩ rfl rfl rfl (by rw[List.length_map,List.length_take];omega) (by rw[List.length_map,List.length_take];omega) fun s v' w5 σ5 hnx hS5 ha5 _=>?_
  (try simp only[↓M1,M1,Mb,reduceIte])
  refine Z6 gf.max hn' ⟨σ5,hS5,le4.more hnx.le,?_⟩
  rw[List.take_add_one,List.getElem?_eq_getElem hn',List.map_append]
  exact ha5
 rw[List.take_of_length_le (by
  have: ¬n<c.fields.length:=by simpa using hc
  omega)] at ha4
 clear hc hn hk3 ha3 hS3 hS2 le2 hq2 gf2 hq4 gf4
 have hkl: ∀n,(c.fields.map (·.kind)++(c.methods.take n).flatMap Xh).length≤2000:=fun n=>by
  have h1:=Jr Xh 33 (c.methods.take n) fun m hm=>by
   have:=mp m (List.mem_of_mem_take hm)
   unfold Xh
   split<;>simp<;>omega
  have h2:(c.methods.take n).length≤32:=by rw[List.length_take];omega
  have h3:(c.methods.take n).length*33≤32*33:=Nat.mul_le_mul_right _ h2
  rw[List.length_append,List.length_map];omega
 refine O8 c.methods.length (fun n x w'=> ∃σ',Stp w σ w' σ'∧SLe σ1 σ'∧V5 w.heap.size T.b 1 Y0 σ' w' x (c.fields.map (·.kind)++(c.methods.take n).flatMap Xh)) ⟨σ4,hS4,le4,by simpa using ha4⟩ fun n x w5 d hn hinv=>?_
 clear ha4 hS4 le4
 obtain ⟨σ5,hS5,le5,ha5⟩:=hinv
 have hq5:=hq1.lift le5
 have gm5:=gm.lift le5
 have hkn:=hkl n
 (try simp only[↓M1,M1,Mb,reduceIte])
 refine ld hS5.sat hq5 rfl ?_
 refine Q8 gm5 ?_
 refine Z1 ?_
 refine Q5 (fun hc=>?_) (fun hc=>?_)
 ·have hn':n<c.methods.length:=by simpa using hc
  obtain ⟨pv,cv,hv',pm,rm⟩:=gm5.elM hn'
  obtain ⟨gp,_,_,_,gr,_⟩:=rm.parts
  have hpn:=mp _ (List.getElem_mem hn')
  have hrl:=(hnm.2.2 _ (List.getElem_mem hn')).1
  have hnx:(c.methods.take (n+1)).flatMap Xh=(c.methods.take n).flatMap Xh++Xh c.methods[n]:=by
   rw[List.take_add_one,List.getElem?_eq_getElem hn',List.flatMap_append];simp
  refine V6 ?_
  (try simp only[↓M1,M1,Mb,reduceIte])
  refine ld hS5.sat hq5 rfl ?_
  refine J9 gm5 hn' ?_
  (try simp only[↓M1,M1,Mb,reduceIte])
  refine ld hS5.sat pm rfl ?_
  refine Ox hS5 ha5 gp rfl (by omega) (by omega) fun v6 w6 hn6 hS6 ha6 _=>?_
  (try simp only[↓M1,M1,Mb,reduceIte])
  refine ld hS6.sat hq5 rfl ?_
  refine J9 gm5 hn' ?_
  (try simp only[↓M1,M1,Mb,reduceIte])
  refine ld hS6.sat pm rfl ?_
  refine Ui ?_
  by_cases he:c.methods[n].result=[]
  ·simp only[he,decide_true,Bool.not_true,↓M1,M1,Mb,reduceIte]
   intro d
   refine Z6 gm.max hn' ⟨σ5,hS6,le5,?_⟩
   rw[hnx]
   unfold Xh
   rw[if_pos he,List.append_nil,←List.append_assoc]
   exact ha6
  ·simp only[he,decide_false,Bool.not_false,↓M1,M1,Mb,reduceIte]
   refine ld hS6.sat hq5 rfl ?_
   refine J9 gm5 hn' ?_
   (try simp only[↓M1,M1,Mb,reduceIte])
   refine ld hS6.sat pm rfl ?_
   refine Jy (R:=Y0) (x:=c.methods[n].result) hS6 ha6 ⟨rfl,Nat.le_trans hrl (by decide)⟩ rfl rfl rfl (by rw[List.length_append];omega) (by rw[List.length_append];omega) fun s v' w7 σ7 hn7 hS7 ha7 _=>?_
   intro d
   (try simp only[↓M1,M1,Mb,reduceIte])
   refine Z6 gm.max hn' ⟨σ7,hS7,le5.more hn7.le,?_⟩
   rw[hnx]
   unfold Xh at ha7⊢
   rw[if_neg he]
   simpa only[List.append_assoc] using ha7
 rw[List.take_of_length_le (by
  have: ¬n<c.methods.length:=by simpa using hc
  omega)] at ha5
 have hkn:=hkl c.methods.length
 rw[List.take_of_length_le (Nat.le_refl _)] at hkn
 have hkE:C8 l c=(Yq c).any (fun s=> !D2 l s):=Q8y.symm
 have hkb: ∀s∈Yq c,s.length≤J3:=fun s hs=>by
  unfold Yq at hs
  rcases List.mem_append.1 hs with hs | hs
  ·obtain ⟨f,hf,rfl⟩:=List.mem_map.1 hs
   exact Nat.le_trans (hnm.2.1 f hf).2 (by decide)
  ·obtain ⟨m,hm,hs⟩:=List.mem_flatMap.1 hs
   unfold Xh at hs
   rcases List.mem_append.1 hs with hs | hs
   ·exact Nat.le_trans ((hnm.2.2 m hm).2 s hs) (by decide)
   ·split at hs
    ·simp at hs
    ·simp at hs;subst hs;exact Nat.le_trans (hnm.2.2 m hm).1 (by decide)
 obtain ⟨σ6,hS6,hv6,lee6,_⟩:=ha5.keep hS5
 have le6:=le5.more ⟨lee6⟩
 clear ha5 hq5 gm5 hc hn
 change Sl 1 Y0 σ6 x (Yq c) at hv6
 refine Z8 (Yq c).length (fun n w'=>Stp w σ w' σ6∧((Yq c).take n).any (fun s=> !D2 l s)=false) ⟨hS6,rfl⟩ fun n w7 d hn hinv=>?_
 obtain ⟨hS7,hno⟩:=hinv
 refine Q8 hv6 ?_
 refine Z1 ?_
 refine Q5 (fun hc=>?_) (fun hc=>?_)
 ·have hn':n<(Yq c).length:=by simpa using hc
  refine J9 hv6 hn' ?_
  obtain ⟨pk,_⟩:=hv6.elS hn'
  refine X8 hS7.sat pk rfl ?_
  refine Q8s hS7.sat (hv.up hS7) (hkb _ (List.getElem_mem hn')) ?_
  have hnx:=M3 (p:=fun s=> !D2 l s) hn'
  cases hp:D2 l (Yq c)[n] with
  | false=>
   (try simp only[↓M1,M1,Mb,reduceIte])
   have:R=65:=e65 hA (by rw[hkE];exact C0 hn' (by simp[hp]))
   subst this
   exact h _ _ hS7
  | true=>
   (try simp only[↓M1,M1,Mb,reduceIte])
   exact Y2 hv6.max hn' ⟨hS7,by rw[hnx,hno,hp];rfl⟩
 have hB:C8 l c=false:=by
  have hn': ¬n<(Yq c).length:=by simpa using hc
  rw[O9 hn'] at hno;rw[hkE];exact hno
 clear hno hc hn e65 hkE hkb hkn hkl hS5 le5 lee6 hv6
 refine Q2C hS7.sat (hv.up hS7) own (by omega) hlen ok.sm fun vb w8 σ8 hk8 hb8=>?_
 have hS8:=hS7.trans hk8
 refine Pa (R:=M5) (e:=T.c) hS8 (by decide) fun x9 w9 hk9 ha9 _=>?_
 have hml: ∀n,n≤l.length→(T5 l i n).length≤32000:=fun n hn=>by
  unfold T5
  have h1:=Jr (fun k=>if Ad l i k then (l.getD k Cla.zero).methods else []) 32 (List.range n) fun k hk=>by
   have hk':k<l.length:=by have:=List.mem_range.1 hk;omega
   split
   ·rw[Rn hk'];exact (Bw (hmn _ (List.getElem_mem _))).2.1
   ·simp
  rw[List.length_range] at h1
  have h3:n*32≤1000*32:=Nat.mul_le_mul_right _ (by omega)
  omega
 have hbl:(Xj l).length=l.length:=by simp[Xj]
 refine O8 l.length (fun n x w'=> ∃σ',Stp w σ w' σ'∧SLe σ1 σ'∧SLe σ8 σ'∧V5 w.heap.size T.c 7 M5 σ' w' x (T5 l i n)) ⟨σ8,hS8.trans hk9,le6.more ⟨hk8.le⟩,SLe.refl _,ha9⟩ fun n x w10 d hn hinv=>?_
 clear ha9 hk9 hS7 hS8 le6 hS6 hk8
 obtain ⟨σ10,hS10,le10,leb,ha10⟩:=hinv
 have hv10:=hv.up hS10
 refine Q8 hv10 ?_
 refine Z1 ?_
 refine Q5 (fun hc=>?_) (fun hc=>?_)
 ·have hn':n<l.length:=by simpa using hc
  have hmn1:=hml n hn
  have hsuc:=Q7l (l:=l) (i:=i) (n:=n)
  rw[Rn hn'] at hsuc
  obtain ⟨lv2,fv2,mv2,p2,r2⟩:=hv10.elC hn'
  obtain ⟨_,_,g3,_,_⟩:=r2.parts
  have hmn2:=(Bw (hmn _ (List.getElem_mem hn'))).2.1
  refine Zq (fun z w'=>Stp w σ w' σ10∧V5 w.heap.size T.c 7 M5 σ10 w' z (T5 l i (n+1))) ?_ (fun z d w' hz=>?_)
  ·refine Ll ?_
   have happ: ∀{J:Value→World→Prop},Ad l i n=true→(∀z w',Stp w σ w' σ10→V5 w.heap.size T.c 7 M5 σ10 w' z (T5 l i (n+1))→J z w')→
    X6 P .append [T.g,T.g] T.g [false,false] [x,mv2] w10 J:=fun hu hJ=>
    Ox hS10 ha10 g3 rfl (by omega) (by omega) fun v' w' _ hS' ha' _=>hJ v' w' hS' (by rw[hsuc,if_pos hu];exact ha')
   by_cases e:n=i
   ·have e1:decide ((n:Int)=(i:Int))=true:=by simp[e]
    rw[e1]
    (try simp only[↓M1,M1,Mb,reduceIte])
    refine J9 hv10 hn' ?_
    (try simp only[↓M1,M1,Mb,reduceIte])
    refine ld hS10.sat p2 rfl ?_
    exact happ (by simp[Ad,e]) fun z w' h1 h2=>⟨h1,h2⟩
   ·have e1:decide ((n:Int)=(i:Int))=false:=by rw[decide_eq_false_iff_not];omega
    rw[e1]
    obtain ⟨cs1,pb,_,rv,rfl,rb⟩:=(hb8.lift leb).el (i:=i) (by rw[hbl];exact hi)
    have hrow:(Xj l)[i]'(by rw[hbl];exact hi)=(List.range l.length).map fun j=>Zp l (Y1 l i) (Y1 l j):=by simp[Xj]
    rw[hrow] at rb
    obtain ⟨cs2,pb2,_,hcs2⟩:=rb.el (i:=n) (by simpa using hn')
    have hcs2:cs2=_:=hcs2
    subst hcs2
    simp only[List.getElem_map,List.getElem_range] at pb2
    (try simp only[↓M1,M1,Mb,reduceIte])
    refine J9 (hb8.lift leb) (by rw[hbl];exact hi) ?_
    refine X8 hS10.sat pb rfl ?_
    refine J9 rb (by simpa using hn') ?_
    refine X8 hS10.sat pb2 rfl ?_
    (try simp only[↓M1,M1,Mb,reduceIte])
    cases ho:Zp l (Y1 l i) (Y1 l n) with
    | true=>
     (try simp only[↓M1,M1,Mb,reduceIte])
     refine J9 hv10 hn' ?_
     (try simp only[↓M1,M1,Mb,reduceIte])
     refine ld hS10.sat p2 rfl ?_
     exact happ (by simp[Ad,ho]) fun z w' h1 h2=>⟨h1,h2⟩
    | false=>
     (try simp only[↓M1,M1,Mb,reduceIte])
     refine ⟨hS10,?_⟩
     have:Ad l i n=false:=by simp[Ad,ho,e]
     rw[hsuc,this]
     simpa using ha10
  ·obtain ⟨hS',ha'⟩:=hz
   (try simp only[↓M1,M1,Mb,reduceIte])
   exact Z6 (by omega) hn' ⟨σ10,hS',le10,leb,ha'⟩
 have hn0:n=l.length:=by
  have: ¬n<l.length:=by simpa using hc
  omega
 subst hn0
 obtain ⟨σ11,hS11,hv11,lee11,_⟩:=ha10.keep hS10
 have le11:=le10.more ⟨lee11⟩
 have hml2:=hml _ (Nat.le_refl l.length)
 have hov:Xo l c=Vr (T5 l i l.length):=by
  unfold Xo
  refine (Q5f fun m=>?_).symm
  rw[Q3a own hi,hname]
 have hlk:Na l c=(!c.abs&&(T5 l i l.length).any fun m=>Xi l c.name m.name):=by
  unfold Na
  congr 1
  refine (Q93 fun m=>?_).symm
  rw[Q3a own hi,hname]
 have hsn: ∀m∈T5 l i l.length,SmM m∧NmM m:=fun m hm=>by
  obtain ⟨c2,hc2,hm2⟩:=Q7K hm (Nat.le_refl _)
  exact ⟨(ok.sm c2 hc2).2.2.2 m hm2,(ok.nm c2 hc2).2.2 m hm2⟩
 generalize T5 l i l.length=ms at hov hlk hsn hml2 hv11
 clear ha10 lee11 hS10 le10 leb hv10 hml hc hb8 hbl
 refine Z8 ms.length (fun n w'=> ∃σ',Stp w σ w' σ'∧SLe σ11 σ'∧ ∀a b,a<n→b<a→G9 ms a b=false) ⟨σ11,hS11,SLe.refl _,fun a b h=>by omega⟩ fun n w12 d hn hinv=>?_
 obtain ⟨σ12,hS12,le12,hno⟩:=hinv
 have hv12:=hv11.lift le12
 refine Q8 hv12 ?_
 refine Z1 ?_
 refine Q5 (fun hc=>?_) (fun hc=>?_)
 ·have hn':n<ms.length:=by simpa using hc
  refine Z8 n (fun m w'=> ∃σ',Stp w σ w' σ'∧SLe σ11 σ'∧ ∀b,b<m→G9 ms n b=false) ⟨σ12,hS12,le12,fun b h=>by omega⟩ fun m w13 d hm hinv=>?_
  obtain ⟨σ13,hS13,le13,hno2⟩:=hinv
  have hv13:=hv11.lift le13
  refine Z1 ?_
  refine Q5 (fun hc=>?_) (fun hc=>?_)
  ·have hm':m<n:=by simpa using hc
   have hm2:m<ms.length:=by omega
   obtain ⟨pv1,cv1,hv1',pn,rn⟩:=hv13.elM hn'
   obtain ⟨pv2,cv2,hv2',pm,rm⟩:=hv13.elM hm2
   obtain ⟨sn1,sn2⟩:=hsn _ (List.getElem_mem hn')
   obtain ⟨sm1,sm2⟩:=hsn _ (List.getElem_mem hm2)
   have hat:G9 ms n m=(decide (ms[n].name=ms[m].name)&& !decide (P4 ms[n]=P4 ms[m])):=by
    unfold G9;rw[Rn hn',Rn hm2]
   have hs13:=hS13.sat
   have hnx:G9 ms n m=false→ ∀b,b<m+1→G9 ms n b=false:=fun e b hb=>by
    by_cases e2:b=m
    ·subst e2;exact e
    ·exact hno2 b (by omega)
   refine V2 hs13 ?_
   (repeat refine U4 Qn ?_)
   by_cases he:ms[n].name=ms[m].name
   ·have hd:decide (ms[n].name=ms[m].name)=true:=by simp[he]
    simp only[hd,reduceIte]
    (repeat (apply U4;(· intros;(repeat (rename_i hx;subst hx));(repeat' (first | (with_reducible exact N4 rfl) | (with_reducible exact Zl (Stp.bel (by (repeat (first | exact Stp.refl (by (first | assumption | exact Stp.sat (by assumption) | exact Hst.sat (by assumption))) | assumption | refine Stp.trans ?_ (by first | assumption | exact Hst.stp (by assumption)))))) rfl) | (with_reducible intro _) | (simp only[↓M2,M2,Mb,reduceIte]) | (with_reducible show Q2 _ _ _ _ _;first | refine X8 aS aL aR ?_ | refine Y7 aS aL aR ?_ | refine ld aS aL aR ?_) | (with_reducible show indexAddr _ _ _ _ _ _;refine J9 aL au ?_) | (with_reducible show X6 _ _ _ _ _ _ _ _;refine Q8 aL ?_) | (with_reducible show Vv _ _ _ _ _ _;refine V0 aR ?_) | (with_reducible show pick _ _ _ _ _ _;refine Jn ?_) | (with_reducible show Q0 _ _ _ _ _;first | refine Q43 au au au au ?_) | (apply Wv;intro hh;(try simp only[hh,reduceIte,↓M2,M2,Mb,reduceIte]))));done)))
    (intros;(repeat (rename_i hx;subst hx));(try simp only[↓M2,M2,Mb,reduceIte]))
    rename_i w14 hb14
    refine Q43 hb14.sat rm sm1 sm2 fun w15 σ15 hk15=>?_
    refine Ui ?_
    (try simp only[↓M1,M1,Mb,reduceIte])
    have hS15:=(hS13.trans hb14.stp).trans hk15
    by_cases hsg:P4 ms[n]=P4 ms[m]
    ·simp only[hsg,decide_true,Bool.not_true,↓M1,M1,Mb,reduceIte]
     refine Y2 (by omega) hm' ⟨σ15,hS15,le13.more ⟨(hb14.stp.trans hk15).le⟩,hnx ?_⟩
     rw[hat,hsg];simp
    ·simp only[hsg,decide_false,Bool.not_false,↓M1,M1,Mb,reduceIte]
     have:R=66:=e66 hA hB (by rw[hov];exact Q8t hn' hm2 (by rw[hat];simp[he,hsg]))
     subst this
     exact h _ _ hS15
   ·have hd:decide (ms[n].name=ms[m].name)=false:=by simp[he]
    simp only[hd,Bool.false_eq_true,reduceIte]
    (repeat refine U4 Qn ?_)
    (intros;(repeat (rename_i hx;subst hx));(try simp only[↓M2,M2,Mb,reduceIte]))
    rename_i w14 hb14
    (try simp only[↓M1,M1,Mb,reduceIte])
    refine Y2 (by omega) hm' ⟨σ13,hS13.trans hb14.stp,le13,hnx ?_⟩
    rw[hat];simp[he]
  ·have hm0:m=n:=by
    have: ¬m<n:=by simpa using hc
    omega
   subst hm0
   (try simp only[↓M1,M1,Mb,reduceIte])
   refine Y2 hv11.max hn' ⟨σ13,hS13,le13,fun a b ha hb=>?_⟩
   by_cases e:a=m
   ·subst e;exact hno2 b hb
   ·exact hno a b (by omega) hb
 have hC:Xo l c=false:=by
  rw[hov]
  have: ¬n<ms.length:=by simpa using hc
  exact Q9A fun x y hx hy=>hno x y (by omega) hy
 clear hno hc hn hv12 hov e66
 refine Z8 ms.length (fun n w'=> ∃σ',Stp w σ w' σ'∧SLe σ11 σ'∧(c.abs=true→n=0)∧(ms.take n).any (fun m=>Xi l c.name m.name)=false) ⟨σ12,hS12,le12,fun _=>rfl,rfl⟩ fun n w13 d hn hinv=>?_
 clear hS12 le12
 obtain ⟨σ13,hS13,le13,hab,hno⟩:=hinv
 have hv13:=hv11.lift le13
 have hq13:=hq1.lift (le11.more le13)
 refine Q8 hv13 ?_
 refine Z1 ?_
 by_cases hn':n<ms.length
 ·have e1:decide ((n:Int)<(ms.length:Int))=true:=by simpa using hn'
  rw[e1]
  (try simp only[↓M1,M1,Mb,reduceIte])
  refine ld hS13.sat hq13 rfl ?_
  refine Nh ?_
  (try simp only[↓M1,M1,Mb,reduceIte])
  cases hca:c.abs with
  | true=>
   (try simp only[↓M1,M1,Mb,reduceIte])
   have:R=0:=e0 hA hB hC (by rw[hlk,hca];rfl)
   subst this
   exact h _ _ hS13
  | false=>
   (try simp only[↓M1,M1,Mb,reduceIte])
   obtain ⟨pvn,cvn,hvn,pn,rn⟩:=hv13.elM hn'
   have hs13:=hS13.sat
   have hnx:=M3 (p:=fun m:Hm.Met=>Xi l c.name m.name) hn'
   have hla:Xi l c.name ms[n].name=(!(J7 l c.name ms[n].name).isSome||(o2 (J7 l c.name ms[n].name)).abs):=by
    unfold Xi
    cases J7 l c.name ms[n].name<;>rfl
   generalize hF:(fun o:Option Obj=> ∃cs:List Value,∃e,o=some (.cells cs.toArray e (0,0))∧cs.length=7∧cs[3]? =some (.bool (o2 (J7 l c.name ms[n].name)).abs))=F
   have hFn: ¬F none:=by rw[←hF];rintro ⟨_,_,h,_⟩;cases h
   refine X1b F hs13 ?_
   (repeat (apply U4;(· intros;(repeat (rename_i hx;subst hx));(repeat' (first | (with_reducible exact Q4d rfl) | (with_reducible exact X0q (Stp.bel (by (repeat (first | exact Stp.refl (by (first | assumption | exact Stp.sat (by assumption) | exact Hst.sat (by assumption))) | assumption | refine Stp.trans ?_ (by first | assumption | exact Hst.stp (by assumption)))))) rfl) | (with_reducible intro _) | (simp only[↓M2,M2,Mb,reduceIte]) | (with_reducible show Q2 _ _ _ _ _;first | refine X8 aS aL aR ?_ | refine Y7 aS aL aR ?_ | refine ld aS aL aR ?_) | (with_reducible show indexAddr _ _ _ _ _ _;refine J9 aL au ?_) | (with_reducible show X6 _ _ _ _ _ _ _ _;refine Q8 aL ?_) | (with_reducible show Vv _ _ _ _ _ _;refine V0 aR ?_) | (with_reducible show pick _ _ _ _ _ _;refine Jn ?_)));done)))
   refine W7 (fun v _=> ∃s,∃ds:List Value,v= .tuple #[s, .agg ds.toArray, .bool (J7 l c.name ms[n].name).isSome]∧ds.length=7∧ds[3]? =some (.bool (o2 (J7 l c.name ms[n].name)).abs)∧ ∀u∈ds,u.oneCell'=true) (fun _ _ _ h _=>h) (fun t180 t185 w hb e1 e2=>?_) ?_
   ·subst e1;subst e2
    refine Q6u hb.sat (hv.up (hS13.trans hb.stp)) ok fun pv cv hv w' σ' hk hr=>⟨.of_below hk.bel,_,_,rfl,rfl,rfl,Rep.one hr⟩
   refine W7 (fun _ _=>True) (fun _ _ _ _ _=>trivial) (fun t186 w hb e=>?_) ?_
   ·obtain ⟨s,ds,rfl,_⟩:=e
    exact J8 (vs:=[_,_,_]) rfl ⟨.of_below (Below.refl _ _),trivial⟩
   refine W7 (fun v _=> ∃ds:List Value,v= .agg ds.toArray∧ds.length=7∧ds[3]? =some (.bool (o2 (J7 l c.name ms[n].name)).abs)∧ ∀u∈ds,u.oneCell'=true) (fun _ _ _ h _=>h) (fun t186 w hb e=>?_) ?_
   ·obtain ⟨s,ds,rfl,h7⟩:=e
    exact J8 (vs:=[_,_,_]) rfl ⟨.of_below (Below.refl _ _),ds,rfl,h7⟩
   refine U4 (V:= .bool (J7 l c.name ms[n].name).isSome) (fun t186 w hb e=>?_) ?_
   ·obtain ⟨s,ds,rfl,h7⟩:=e
    exact J8 (vs:=[_,_,_]) rfl (Q4d rfl)
   refine W7 (X17 w13.heap.size 7 F) (Q6N hFn) (fun w hb=>?_) ?_
   ·exact Hi hb.sat fun b w' hb2 hk hm=>⟨.of_below hk.bel,b,rfl,Nat.le_trans hb.stp.bel.size hb2, .inl ⟨_,hm.2.choose,rfl,hm.2.choose_spec⟩⟩
   refine Q6b (fun xs _ w=>X1N w13.heap.size F (xs.headD undef) w) (fun xs _ w w' h hT=>Q7b hFn _ w w' h hT) (fun t18 t188 w hb e1 e2=>?_) ?_
   ·obtain ⟨g,rfl,hg,hd⟩:=e1
    obtain ⟨ds,rfl,h7,h3,h1⟩:=e2
    obtain ⟨cs,e,hl7,hh⟩: ∃cs:List Value,∃e,cs.length=7∧w.heap[g]? =some (.cells cs.toArray e (0,0)):=by
     rcases hd with h | h
     ·exact h
     ·rw[←hF] at h
      obtain ⟨cs,e,h4,h5,_⟩:=h
      exact ⟨cs,e,h5,h4⟩
    refine sta (σ:=fun _=>none) (cs:=cs) (ds:=ds) ⟨rfl,e,hh⟩ hl7 h7 (by rw[List.all_toArray];exact List.all_eq_true.2 h1) fun w' hu hm=>?_
    have hFg:F (w'.heap[g]?):=by
     obtain ⟨_,e',hm'⟩:=hm
     rw[hm',←hF]
     exact ⟨ds,e',rfl,h7,h3⟩
    exact ⟨FinT.of_upd hu hg hFg,g,rfl,hg,hFg⟩
   rintro t179 t183 t184 t180 t185 t186 t187 t188 t189 t18 u15 w14 hb14 rfl rfl rfl rfl rfl _ _ _ rfl _ ⟨g,e,hg,hd⟩
   have e:t18=_:=e
   subst e
   rw[←hF] at hd
   obtain ⟨cs,ty,hh,hl7,h3⟩:=hd
   have hS14:=hS13.trans hb14.stp
   refine Nh ?_
   cases hsm:(J7 l c.name ms[n].name).isSome with
   | false=>
    (try simp only[↓M1,M1,Mb,reduceIte])
    have:R=67:=e67 hA hB hC (by rw[hlk,hca];exact C0 hn' (by rw[hla,hsm];rfl))
    subst this
    exact h _ _ hS14
   | true=>
    (try simp only[↓M1,M1,Mb,reduceIte])
    refine Ub (σ:=fun _=>none) ⟨rfl,ty,hh⟩ h3 ?_
    (try simp only[↓M1,M1,Mb,reduceIte])
    cases hma:(o2 (J7 l c.name ms[n].name)).abs with
    | true=>
     (try simp only[↓M1,M1,Mb,reduceIte])
     have:R=67:=e67 hA hB hC (by rw[hlk,hca];exact C0 hn' (by rw[hla,hma,Bool.or_true]))
     subst this
     exact h _ _ hS14
    | false=>
     (try simp only[↓M1,M1,Mb,reduceIte])
     refine Y2 hv11.max hn' ⟨σ13,hS14,le13,fun e=>False.elim (by simpa using e),?_⟩
     rw[hnx,hno,hla,hsm,hma];rfl
 ·have e1:decide ((n:Int)<(ms.length:Int))=false:=by simpa using hn'
  rw[e1]
  (try simp only[↓M1,M1,Mb,reduceIte])
  rw[O9 hn'] at hno
  have:R=0:=e0 hA hB hC (by rw[hlk,hno,Bool.and_false])
  subst this
  exact h _ _ hS13)
end Go.Proofs.YtfppjenblllfaaaGreatDoor

namespace Go.Proofs.YtfppjenblllfaaaGreatDoor
open Go.Emb Go.RowKit Go.Kd Go.Hm
variable {w : World} {K : Value → World → Prop} {σ : Q4} {v : Value}
def Q1V:List Cla:=[⟨Z7,[],[],false,false,false,[],[]⟩,⟨V8,Z7,[],false,false,false,[⟨I8,N5,false⟩],[]⟩]
def gMk (n:X0):Cla:=⟨n,V8,[],false,false,true,[],[]⟩
theorem Q5A:B1=Q1V++J1.map gMk:=rfl
theorem Q7J (L:X4 w σ) (h: ∀z w' g,Stp w σ w' g→V5 w.heap.size T.a 8 U5 g w' z B1→K z w'):Q0 P F.b6 [] w K:=Ga (by
 unfold Wo
 refine W0 (cells:= #[S Z7,S [], .slice none 0 0, .bool false, .bool false, .bool false, .slice none 0 0, .slice none 0 0]) (by kernel_rfl) ?_
 refine W0 (cells:= #[S I8,S N5, .bool false]) (by kernel_rfl) ?_
 refine D6 (R:=E0) (sz:=3) L [.agg #[S I8,S N5, .bool false]] [⟨I8,N5,false⟩] rfl rfl (by simp;rfl) rfl ⟨⟨rfl,by decide,by decide⟩,trivial⟩ fun X w1 σ1 l o=>?_
 have q:=o
 obtain ⟨H,b,rfl,_⟩:=q
 refine W0 (cells:= #[S V8,S Z7, .slice none 0 0, .bool false, .bool false, .bool false, .slice H 1 b, .slice none 0 0]) (by kernel_rfl) ?_
 refine Qh (R:=U5) (sz:=8) l [.agg #[S Z7,S [], .slice none 0 0, .bool false, .bool false, .bool false, .slice none 0 0, .slice none 0 0], .agg #[S V8,S Z7, .slice none 0 0, .bool false, .bool false, .bool false, .slice H 1 b, .slice none 0 0]]
  Q1V rfl rfl (by simp;exact ⟨rfl,rfl⟩) rfl ⟨⟨_,_,_,rfl,Sl.nil,Sl.nil,Sl.nil,by decide,by decide⟩,⟨_,_,_,rfl,Sl.nil,o,Sl.nil,by decide,by decide⟩,trivial⟩ fun v2 w2 m B _=>?_
 refine D6 (R:=Y0) (sz:=1) m.sat (J1.map S) J1 rfl rfl (by decide) rfl ⟨⟨rfl,by decide⟩,⟨rfl,by decide⟩,⟨rfl,by decide⟩,⟨rfl,by decide⟩,⟨rfl,by decide⟩,⟨rfl,by decide⟩,trivial⟩ fun v3 Y E j k=>?_
 have C:=(l.trans m).trans j
 have Q:J1.length=6:=rfl
 refine O8 J1.length (fun n x w'=> ∃g,Stp w σ w' g∧SLe E g∧V5 w.heap.size T.a 8 U5 g w' x (Q1V++(J1.take n).map gMk)) ⟨E,C,SLe.refl _,B.up j⟩ fun n x Z d hn i=>?_
 obtain ⟨N,f,c,e⟩:=i
 refine Q8 (k.lift c) ?_
 refine Z1 ?_
 refine Q5 (fun A=>?_) (fun A=>?_)
 ·have a:n<J1.length:=by simpa using A
  have r:=k.lift c
  refine J9 r a ?_
  obtain ⟨O,J⟩:=r.elS a
  refine X8 f.sat O rfl ?_
  have M:(Q1V++(J1.take n).map gMk).length≤8:=by
   rw[List.length_append,List.length_map,List.length_take,show Q1V.length=2 from rfl];omega
  have p:(J1.take (n+1)).map gMk=(J1.take n).map gMk++[gMk J1[n]]:=by
   rw[List.take_add_one,List.getElem?_eq_getElem a,List.map_append];rfl
  generalize J1[n]=t at J p
  refine W0 (cells:= #[S t,S V8, .slice none 0 0, .bool false, .bool false, .bool true, .slice none 0 0, .slice none 0 0]) (by kernel_rfl) ?_
  have U:U5 N (gMk t) [S t,S V8, .slice none 0 0, .bool false, .bool false, .bool true, .slice none 0 0, .slice none 0 0]:=⟨_,_,_,rfl,Sl.nil,Sl.nil,Sl.nil,J,(by decide:V8.length≤J3)⟩
  refine Jy (x:=gMk t) f e U rfl rfl rfl (by omega) (by omega) fun s z W V u D y _=>?_
  refine D5 ?_
  refine Z6 (by omega) a ⟨V,D,c.more u.le,?_⟩
  rw[p,←List.append_assoc];exact y
 ·have a: ¬n<J1.length:=by simpa using A
  rw[List.take_of_length_le (by omega),←Q5A] at e
  exact h _ _ _ f e)
end Go.Proofs.YtfppjenblllfaaaGreatDoor

namespace Go.Proofs.YtfppjenblllfaaaGreatDoor
open Go.Emb Go.RowKit Go.Kd Go.Hm
variable {w : World} {K : Value → World → Prop} {σ : Q4} {l : List Cla} {v : Value}
theorem X0F {w0:World} {σ0:Q4} {frm:Nat} (ha:Yg l) (ho:G2 l) (hl:l.length≤1000) (aw: ∀c∈l,P7 c) (hf:0<frm) (av: ∀i (E:i<l.length),frm≤i→ ∀u∈J5 l[i],∃j,Y4 l u=some j): ∀(k:Nat) {i:Nat} {b:List Nat} {x:Value} {w:World} {σ:Q4} {K:Value→World→Prop},i<l.length→F2 l (Y1 l i)<k→Pf l b→Stp w0 σ0 w σ→Sl 8 U5 σ v l→V5 w0.heap.size T.e 1 Uo σ w x (ints b)→
 (∀x' w' O,Stp w0 σ0 w' O→SLe σ O→V5 w0.heap.size T.e 1 Uo O w' x' (ints (Qa l frm b i))→K x' w')→Q0 P F.aN [v,x,I frm,I i] w K:=by
 intro k
 induction k with
 | zero=>intro i b x w σ K E hk;omega
 | succ k ih=>
  intro i b x w σ K E hk A hS hv hx h
  refine Pn ?_
  unfold Of
  rw[Q6r ha ho hf b E] at h
  refine Z1 ?_
  refine Q5 (fun L=>?_) (fun L=>?_)
  ·have L:i<frm:=by have:=of_decide_eq_true L;omega
   rw[if_pos L] at h
   exact h _ _ _ hS (SLe.refl _) hx
  have L: ¬i<frm:=by have:=of_decide_eq_false L;omega
  rw[if_neg L] at h
  have bs:=A.len
  refine Z8 b.length (fun n w'=>w'=w∧ ∀m (hm:m<b.length),m<n→b[m]≠i) ⟨rfl,fun m _ h=>by omega⟩ fun n w2 d hn o=>?_
  obtain ⟨hw,J⟩:=o
  subst hw
  refine Q6D hx ?_
  rw[show (ints b).length=b.length from by simp]
  refine Z1 ?_
  refine Q5 (fun C=>?_) (fun C=>?_)
  ·have f:n<b.length:=by simpa using C
   refine Q3X (U2.of_acc hx) (n:=n) (by simpa using f) fun a cs am bl hr=>?_
   obtain ⟨rfl,_⟩:=hr
   refine Qg (by have:=am 0 _ rfl;rwa [add_zero] at this) ?_
   simp only[List.getElem_map]
   refine Ll ?_
   by_cases e:b[n]=i
   ·have:decide ((b[n]:Int)=i)=true:=by simp[e]
    rw[this]
    refine V9 ?_
    rw[if_pos (e▸List.getElem_mem f)] at h
    exact h _ _ _ hS (SLe.refl _) hx
   ·have:decide ((b[n]:Int)=i)=false:=by rw[decide_eq_false_iff_not];omega
    rw[this]
    refine V7 ?_
    refine D5 ?_
    refine Y2 (by omega) f ⟨rfl,fun m hm be=>?_⟩
    by_cases e2:m=n
    ·subst e2;exact e
    ·exact J m hm (by omega)
  ·have f: ¬n<b.length:=by simpa using C
   have D:i∉b:=fun aq=>by
    obtain ⟨m,hm,e⟩:=List.getElem_of_mem aq
    exact J m hm (by omega) e
   rw[if_neg D] at h
   have W:l.getD i Cla.zero=l[i]:=by rw[List.getD_eq_getElem?_getD,List.getElem?_eq_getElem E];rfl
   rw[W] at h
   have an:=av i E (by omega)
   obtain ⟨lv,fv,mv,p1,r1⟩:=hv.elC E
   obtain ⟨g1,_,_,_,g5⟩:=r1.parts
   have H:=aw _ (List.getElem_mem E)
   clear J D C hn
   refine V2 hS.sat ?_
   (repeat refine U4 Qn ?_)
   refine Q2e (w:=w2) (σ:=σ) (R:=Y0) (sz:=1) (e:=T.b) [l[i].super] (fun t w hb e=>?_) ?_
   ·subst e;exact Qh hb.stp [_] [l[i].super] rfl rfl (by simp;rfl) rfl ⟨⟨rfl,g5⟩,trivial⟩ fun v' w' hk ha _=>Q3N hb hk ha
   (repeat refine U4 Qn ?_)
   rintro bk bd a9 bh bf bn ba w4 ax rfl rfl rfl rfl rfl ⟨Z,X⟩ rfl
   refine Ox Z X g1 rfl (by simp;have:=H.1;omega) (by simp;have:=H.1;omega) fun v5 w5 ay ag V Y=>?_
   obtain ⟨σ6,y,Q,bi,_⟩:=V.keep ag
   have Q:Sl 1 Y0 σ6 v5 (J5 l[i]):=Q
   have ap:=hx.up y
   have aa:=hv.up y
   have ac:=hS.trans y
   have ae:SLe σ σ6:=⟨y.le⟩
   clear ay Y V X Z ax ag
   refine O8 (J5 l[i]).length (fun n x w'=> ∃O p,Stp w0 σ0 w' O∧SLe σ6 O∧V5 w0.heap.size T.e 1 Uo O w' x (ints p)∧Pf l p∧p=((J5 l[i]).take n).foldl (fun b n=>Qa l frm b ((Y4 l n).getD 0)) b) ⟨σ6,b,ac,SLe.refl _,ap,A,rfl⟩ fun n x7 w7 d hn o=>?_
   obtain ⟨σ7,a5,z,r,af,g,M⟩:=o
   have q:=Q.lift r
   refine Q8 q ?_
   refine Z1 ?_
   refine Q5 (fun C=>?_) (fun C=>?_)
   ·have f:n<(J5 l[i]).length:=by simpa using C
    refine J9 q f ?_
    obtain ⟨p7,_⟩:=q.elS f
    refine X8 z.sat p7 rfl ?_
    have B:=aa.lift r
    refine P5 z.sat B ?_
    obtain ⟨j,hj⟩:=an _ (List.getElem_mem f)
    have bx:=Ar ha ho E (by rw[W];exact List.getElem_mem f) hj
    have ah:=(R0 hj).1
    simp only[hj,W5]
    refine ih ah (by omega) g z B af fun x8 w8 σ8 N ar U=>?_
    refine D5 ?_
    refine Z6 q.max f ⟨σ8,_,N,r.more ar,U,Ge ha ho hf _ _ _ ah g,?_⟩
    rw[List.take_add_one,List.getElem?_eq_getElem f,List.foldl_append,←M]
    simp[hj]
   ·have f: ¬n<(J5 l[i]).length:=by simpa using C
    rw[List.take_of_length_le (by omega)] at M
    have bw:=g.len
    refine Jy (R:=Uo) (x:=(i:Int)) z af ⟨rfl,by omega,by omega⟩ rfl rfl rfl (by simp;omega) (by simp;omega) fun s x8 w8 σ8 az N U _=>?_
    refine h _ _ _ N ((ae.more r).more az.le) ?_
    rw[←M]
    simpa [ints] using U
end Go.Proofs.YtfppjenblllfaaaGreatDoor

namespace Go.Hm
open Go.Kd
def E5 (n i b:Nat):Bool:=decide (i<n)&&decide (128≤b)&&decide (b<192)
def Yd (n a b c d:Nat):Nat:=
 if a<128 then 1
 else if (decide (194≤a)&&decide (a<224)&&E5 n 1 b)=true then 2
 else if (decide (224≤a)&&decide (a<240)&&E5 n 1 b&&E5 n 2 c)=true then
  (if 2048≤a % 16*4096+b % 64*64+c % 64∧(a % 16*4096+b % 64*64+c % 64<55296∨57343<a % 16*4096+b % 64*64+c % 64) then 3 else 0)
 else if (decide (240≤a)&&decide (a<245)&&E5 n 1 b&&E5 n 2 c&&E5 n 3 d)=true then
  (if 65536≤a % 8*262144+b % 64*4096+c % 64*64+d % 64∧a % 8*262144+b % 64*4096+c % 64*64+d % 64≤1114111 then 4 else 0)
 else 0
theorem Q8X (n a b c d:Nat) (s:a<256) (r:b<256) (q:c<256) (u:d<256):
 Yd n a b c d=if (Lib.decodeN n a b c d).1=65533∧(Lib.decodeN n a b c d).2=1 then 0 else (Lib.decodeN n a b c d).2:=by
 have key: ∀v k:Nat,Lib.decodeN n a b c d=(v,k)→ ¬k=1→Yd n a b c d=k→Yd n a b c d=if (Lib.decodeN n a b c d).1=65533∧(Lib.decodeN n a b c d).2=1 then 0 else (Lib.decodeN n a b c d).2:=by
  intro v k h p o
  rw[h,o,if_neg (fun e=>p e.2)]
 have g:Lib.decodeN n a b c d=(65533,1)→Yd n a b c d=0→Yd n a b c d=if (Lib.decodeN n a b c d).1=65533∧(Lib.decodeN n a b c d).2=1 then 0 else (Lib.decodeN n a b c d).2:=by
  intro h o
  rw[h,o];simp
 by_cases f:a<128
 ·have h:Lib.decodeN n a b c d=(a,1):=by unfold Lib.decodeN;rw[if_pos f]
  rw[h,if_neg (by simp only;omega)]
  unfold Yd;rw[if_pos f]
 by_cases j:a / 32=6∧(1<n∧b / 64=2)
 ·by_cases i:a % 32*64+b % 64≥128
  ·refine key _ 2 (by unfold Lib.decodeN;rw[if_neg f,if_pos j,if_pos i]) (by decide) ?_
   unfold Yd E5
   simp only[Bool.and_eq_true,decide_eq_true_eq]
   rw[if_neg f,if_pos (by omega)]
  ·refine g (by unfold Lib.decodeN;rw[if_neg f,if_pos j,if_neg i]) ?_
   unfold Yd E5
   simp only[Bool.and_eq_true,decide_eq_true_eq]
   rw[if_neg f,if_neg (by omega),if_neg (by omega),if_neg (by omega)]
 by_cases l:a / 16=14∧(1<n∧b / 64=2)∧(2<n∧c / 64=2)
 ·by_cases i:2048≤a % 16*4096+b % 64*64+c % 64∧(a % 16*4096+b % 64*64+c % 64<55296∨57343<a % 16*4096+b % 64*64+c % 64)
  ·refine key _ 3 (by unfold Lib.decodeN;rw[if_neg f,if_neg j,if_pos l,if_pos (by omega)]) (by decide) ?_
   unfold Yd E5
   simp only[Bool.and_eq_true,decide_eq_true_eq]
   rw[if_neg f,if_neg (by omega),if_pos (by omega),if_pos i]
  ·refine g (by unfold Lib.decodeN;rw[if_neg f,if_neg j,if_pos l,if_neg (by omega)]) ?_
   unfold Yd E5
   simp only[Bool.and_eq_true,decide_eq_true_eq]
   rw[if_neg f,if_neg (by omega),if_pos (by omega),if_neg i]
 by_cases m:a / 8=30∧(1<n∧b / 64=2)∧(2<n∧c / 64=2)∧(3<n∧d / 64=2)
 ·by_cases i:65536≤a % 8*262144+b % 64*4096+c % 64*64+d % 64∧a % 8*262144+b % 64*4096+c % 64*64+d % 64≤1114111
  ·refine key _ 4 (by unfold Lib.decodeN;rw[if_neg f,if_neg j,if_neg l,if_pos m,if_pos (by omega)]) (by decide) ?_
   unfold Yd E5
   simp only[Bool.and_eq_true,decide_eq_true_eq]
   rw[if_neg f,if_neg (by omega),if_neg (by omega),if_pos (by omega),if_pos i]
  ·refine g (by unfold Lib.decodeN;rw[if_neg f,if_neg j,if_neg l,if_pos m,if_neg (by omega)]) ?_
   unfold Yd E5
   simp only[Bool.and_eq_true,decide_eq_true_eq]
   rw[if_neg f,if_neg (by omega),if_neg (by omega)]
   by_cases t:a<245
   ·rw[if_pos (by omega),if_neg i]
   ·rw[if_neg (by omega)]
 ·refine g (by unfold Lib.decodeN;rw[if_neg f,if_neg j,if_neg l,if_neg m]) ?_
  unfold Yd E5
  simp only[Bool.and_eq_true,decide_eq_true_eq]
  rw[if_neg f,if_neg (by omega),if_neg (by omega),if_neg (by omega)]
def X3 (l:X0) (i:Nat):Nat:=(l.getD i 0).toNat
theorem Qm (l:X0) (i:Nat):X3 l i<256:=(l.getD i 0).toNat_lt
def Ye (l:X0):Nat:=Yd l.length (X3 l 0) (X3 l 1) (X3 l 2) (X3 l 3)
theorem Q4Q (l:X0):Ye l=if (Lib.decodeL l).1=65533∧(Lib.decodeL l).2=1 then 0 else (Lib.decodeL l).2:=by
 rw[Lib.decodeL_N]
 exact Q8X _ _ _ _ _ (Qm l 0) (Qm l 1) (Qm l 2) (Qm l 3)
theorem Q7P {l:X0} (a:l≠[]) (h:Ye l≠0):1≤Ye l∧Ye l≤l.length:=by
 have b:=Lib.decodeL_le l a
 have c:=Lib.decodeL_width l
 rw[Q4Q] at h⊢
 split at h
 ·exact absurd rfl h
 ·rw[if_neg (by assumption)];omega
theorem Q6M {f:Nat} {l:X0} (a:l≠[]):Lib.validGoD (f+1) l=if Ye l=0 then false else Lib.validGoD f (l.drop (Ye l)):=by
 have b:=Lib.decodeL_width l
 simp only[Lib.validGoD,if_neg a]
 rw[Q4Q]
 split
 ·rw[if_pos rfl]
 ·rw[if_neg (by omega)]
end Go.Hm
namespace Go.Emb
open Go.RowKit
theorem Q8J {P:Program} {w:World} {K:Value→World→Prop} {k:IntKind} {t:TypeId} {b d:Operand} {a c:Int} (f:0<c∧0≤a) (h:K (.int k (a % c)) w):Q3 P .rem t b d (.int k a) (.int k c) w K:=by
 have e:Q3 P .rem t b d (.int k a) (.int k c) w K=K (.int k (a.tmod c)) w:=X9 (by simp[eqGuard,Go.binOp,Op.intDiv];intro e;omega)
 rw[e,Int.tmod_eq_emod_of_nonneg f.2];exact h
end Go.Emb
namespace Go.Proofs.YtfppjenblllfaaaGreatDoor
open Go.Emb Go.RowKit Go.Kd Go.Hm
variable {w : World} {K : Value → World → Prop} {σ : Q4}
theorem Vu {a:X0} {i:Nat} (b:i<a.length) (h:K (.int .u8 (X3 a i)) w):D9 P T.b (S a) (I i) w K:=by
 rw[A0 X7 (by omega) (by simpa using b)]
 have:(a[(i:Int).toNat]'(by simpa using b)).toNat=X3 a i:=by
  unfold X3
  rw[List.getD_eq_getElem?_getD,List.getElem?_eq_getElem b];rfl
 rw[this];exact h
theorem Q2h {n:Int} (a:0≤n∧n<256) (h:K (I n) w):conv P T.w T.e (.int .u8 n) w K:=by
 rw[Q12 Q26 X2f,B5 (by omega) (by omega)];exact h
theorem Vk {a:X0} {i:Nat} (h:K (.bool (E5 a.length i (X3 a i))) w):Q0 P F.q [S a,I i] w K:=Fc (by
 unfold Vq
 unfold E5 at h
 simp only[↓M1,M1,Mb,reduceIte]
 by_cases b:i<a.length
 ·have d:decide ((i:Int)<a.length)=true:=by rw[decide_eq_true_eq];omega
  have c:decide (i<a.length)=true:=by simpa using b
  rw[c] at h
  simp only[d,↓M1,M1,Mb,reduceIte]
  refine Vu b ?_
  (try simp only[↓M1,M1,Mb,reduceIte])
  have g:decide ((128:Int)≤(X3 a i:Int))=decide (128≤X3 a i):=by rw[Bool.eq_iff_iff,decide_eq_true_eq,decide_eq_true_eq];omega
  have f:decide ((X3 a i:Int)<192)=decide (X3 a i<192):=by rw[Bool.eq_iff_iff,decide_eq_true_eq,decide_eq_true_eq];omega
  rw[g]
  cases e:decide (128≤X3 a i) with
  | true=>
   rw[e] at h
   simp only[↓M1,M1,Mb,reduceIte]
   refine Vu b ?_
   simp only[f,↓M1,M1,Mb,reduceIte]
   simpa using h
  | false=>
   rw[e] at h
   simp only[↓M1,M1,Mb,reduceIte]
   simpa using h
 ·have d:decide ((i:Int)<a.length)=false:=by rw[decide_eq_false_iff_not];omega
  have c:decide (i<a.length)=false:=by simpa using b
  rw[c] at h
  simp only[d,↓M1,M1,Mb,reduceIte]
  simpa using h)
def Yz (a:X0):Nat:=X3 a 0 % 16*4096+X3 a 1 % 64*64+X3 a 2 % 64
def Ed (a:X0):Nat:=X3 a 0 % 8*262144+X3 a 1 % 64*4096+X3 a 2 % 64*64+X3 a 3 % 64
theorem Q7C (a:X0):Ye a=if X3 a 0<128 then 1
 else if (decide (194≤X3 a 0)&&decide (X3 a 0<224)&&E5 a.length 1 (X3 a 1))=true then 2
 else if (decide (224≤X3 a 0)&&decide (X3 a 0<240)&&E5 a.length 1 (X3 a 1)&&E5 a.length 2 (X3 a 2))=true then
  (if 2048≤Yz a∧(Yz a<55296∨57343<Yz a) then 3 else 0)
 else if (decide (240≤X3 a 0)&&decide (X3 a 0<245)&&E5 a.length 1 (X3 a 1)&&E5 a.length 2 (X3 a 2)&&E5 a.length 3 (X3 a 3))=true then
  (if 65536≤Ed a∧Ed a≤1114111 then 4 else 0)
 else 0:=rfl
set_option maxHeartbeats 2000000 in
theorem Q9s {a:X0} (hne:a≠[]) (hs:X4 w σ) (h: ∀w',Below w.heap.size w w'→K (I (Ye a)) w'):Q0 P F.bq [S a] w K:=Kf (by
 unfold Ly
 have hl:0<a.length:=List.length_pos_iff.2 hne
 have b0:=Qm a 0
 have b1:=Qm a 1
 have b2:=Qm a 2
 have b3:=Qm a 3
 refine Vu (i:=0) hl ?_
 refine Q2h (by omega) ?_
 refine Zq (fun _ w'=>Below w.heap.size w w'∧Ye a=0) ?_ (fun _ d w' hx=>by
  have:=h w' hx.1
  rw[hx.2] at this
  exact this)
 have hK: ∀n w',Below w.heap.size w w'→Ye a=n→K (I n) w':=fun n w' hb e=>by rw[←e];exact h w' hb
 clear h
 have hcm:=Q7C a
 simp only[↓M1,M1,Mb,reduceIte]
 refine Q5 (fun h1=>?_) (fun h1=>?_)
 ·have:X3 a 0<128:=by have:=of_decide_eq_true h1;omega
  exact hK 1 _ (Below.refl _ _) (by rw[hcm,if_pos this])
 have c0: ¬X3 a 0<128:=by have:=of_decide_eq_false h1;omega
 rw[if_neg c0] at hcm
 by_cases c1:X3 a 0<194
 ·have i1:decide ((194:Int)≤X3 a 0)=false:=by rw[decide_eq_false_iff_not];omega
  have n1:decide (194≤X3 a 0)=false:=by rw[decide_eq_false_iff_not];omega
  have i2:decide ((X3 a 0:Int)<224)=true:=by rw[decide_eq_true_eq];omega
  have n2:decide (X3 a 0<224)=true:=by rw[decide_eq_true_eq];omega
  have i3:decide ((224:Int)≤X3 a 0)=false:=by rw[decide_eq_false_iff_not];omega
  have n3:decide (224≤X3 a 0)=false:=by rw[decide_eq_false_iff_not];omega
  have i4:decide ((X3 a 0:Int)<240)=true:=by rw[decide_eq_true_eq];omega
  have n4:decide (X3 a 0<240)=true:=by rw[decide_eq_true_eq];omega
  have i5:decide ((240:Int)≤X3 a 0)=false:=by rw[decide_eq_false_iff_not];omega
  have n5:decide (240≤X3 a 0)=false:=by rw[decide_eq_false_iff_not];omega
  have i6:decide ((X3 a 0:Int)<245)=true:=by rw[decide_eq_true_eq];omega
  have n6:decide (X3 a 0<245)=true:=by rw[decide_eq_true_eq];omega
  simp only[i1,i2,i3,i4,i5,i6,↓M1,M1,Mb,reduceIte]
  exact ⟨Below.refl _ _,by rw[hcm];simp only[n1,n2,n3,n4,n5,n6,Bool.and_true,Bool.true_and,Bool.false_and,Bool.and_false,Bool.false_eq_true,if_true,if_false,reduceIte]⟩
 by_cases c2:X3 a 0<224
 ·have i1:decide ((194:Int)≤X3 a 0)=true:=by rw[decide_eq_true_eq];omega
  have n1:decide (194≤X3 a 0)=true:=by rw[decide_eq_true_eq];omega
  have i2:decide ((X3 a 0:Int)<224)=true:=by rw[decide_eq_true_eq];omega
  have n2:decide (X3 a 0<224)=true:=by rw[decide_eq_true_eq];omega
  have i3:decide ((224:Int)≤X3 a 0)=false:=by rw[decide_eq_false_iff_not];omega
  have n3:decide (224≤X3 a 0)=false:=by rw[decide_eq_false_iff_not];omega
  have i4:decide ((X3 a 0:Int)<240)=true:=by rw[decide_eq_true_eq];omega
  have n4:decide (X3 a 0<240)=true:=by rw[decide_eq_true_eq];omega
  have i5:decide ((240:Int)≤X3 a 0)=false:=by rw[decide_eq_false_iff_not];omega
  have n5:decide (240≤X3 a 0)=false:=by rw[decide_eq_false_iff_not];omega
  have i6:decide ((X3 a 0:Int)<245)=true:=by rw[decide_eq_true_eq];omega
  have n6:decide (X3 a 0<245)=true:=by rw[decide_eq_true_eq];omega
  simp only[i1,i2,i3,i4,i5,i6,↓M1,M1,Mb,reduceIte]
  refine Vk (i:=1) ?_
  cases A1:E5 a.length 1 (X3 a 1) with
  | true=>simp only[↓M1,M1,Mb,reduceIte];exact hK 2 _ (Below.refl _ _) (by rw[hcm];simp only[A1,n1,n2,n3,n4,n5,n6,Bool.and_true,Bool.true_and,Bool.false_and,Bool.and_false,Bool.false_eq_true,if_true,if_false,reduceIte])
  | false=>simp only[↓M1,M1,Mb,reduceIte];exact ⟨Below.refl _ _,by rw[hcm];simp only[A1,n1,n2,n3,n4,n5,n6,Bool.and_true,Bool.true_and,Bool.false_and,Bool.and_false,Bool.false_eq_true,if_true,if_false,reduceIte]⟩
 by_cases c3:X3 a 0<240
 ·have i1:decide ((194:Int)≤X3 a 0)=true:=by rw[decide_eq_true_eq];omega
  have n1:decide (194≤X3 a 0)=true:=by rw[decide_eq_true_eq];omega
  have i2:decide ((X3 a 0:Int)<224)=false:=by rw[decide_eq_false_iff_not];omega
  have n2:decide (X3 a 0<224)=false:=by rw[decide_eq_false_iff_not];omega
  have i3:decide ((224:Int)≤X3 a 0)=true:=by rw[decide_eq_true_eq];omega
  have n3:decide (224≤X3 a 0)=true:=by rw[decide_eq_true_eq];omega
  have i4:decide ((X3 a 0:Int)<240)=true:=by rw[decide_eq_true_eq];omega
  have n4:decide (X3 a 0<240)=true:=by rw[decide_eq_true_eq];omega
  have i5:decide ((240:Int)≤X3 a 0)=false:=by rw[decide_eq_false_iff_not];omega
  have n5:decide (240≤X3 a 0)=false:=by rw[decide_eq_false_iff_not];omega
  have i6:decide ((X3 a 0:Int)<245)=true:=by rw[decide_eq_true_eq];omega
  have n6:decide (X3 a 0<245)=true:=by rw[decide_eq_true_eq];omega
  simp only[i1,i2,i3,i4,i5,i6,↓M1,M1,Mb,reduceIte]
  refine Vk (i:=1) ?_
  cases A1:E5 a.length 1 (X3 a 1) with
  | false=>simp only[↓M1,M1,Mb,reduceIte];exact ⟨Below.refl _ _,by rw[hcm];simp only[A1,n1,n2,n3,n4,n5,n6,Bool.and_true,Bool.true_and,Bool.false_and,Bool.and_false,Bool.false_eq_true,if_true,if_false,reduceIte]⟩
  | true=>
  simp only[↓M1,M1,Mb,reduceIte]
  refine Vk (i:=2) ?_
  cases A2:E5 a.length 2 (X3 a 2) with
  | false=>simp only[↓M1,M1,Mb,reduceIte];exact ⟨Below.refl _ _,by rw[hcm];simp only[A1,A2,n1,n2,n3,n4,n5,n6,Bool.and_true,Bool.true_and,Bool.false_and,Bool.and_false,Bool.false_eq_true,if_true,if_false,reduceIte]⟩
  | true=>
  simp only[↓M1,M1,Mb,reduceIte]
  simp only[A1,A2,n1,n2,n3,n4,n5,n6,Bool.and_true,Bool.true_and,Bool.false_and,Bool.and_false,Bool.false_eq_true,if_true,if_false,reduceIte] at hcm
  have hl1:1<a.length:=by unfold E5 at A1;simp only[Bool.and_eq_true,decide_eq_true_eq] at A1;exact A1.1.1
  have hl2:2<a.length:=by unfold E5 at A2;simp only[Bool.and_eq_true,decide_eq_true_eq] at A2;exact A2.1.1
  have hw:IntKind.i64.wrap (IntKind.i64.wrap (IntKind.i64.wrap ((X3 a 0:Int) % 16*4096)+IntKind.i64.wrap ((X3 a 1:Int) % 64*64))+(X3 a 2:Int) % 64)=((Yz a:Nat):Int):=by
   rw[B5 (n:=(X3 a 0:Int) % 16*4096) (by omega) (by omega),B5 (n:=(X3 a 1:Int) % 64*64) (by omega) (by omega),B5 (n:=_+(X3 a 1:Int) % 64*64) (by omega) (by omega),B5 (by omega) (by omega)]
   unfold Yz;omega
  refine V2 hs ?_
  have hx1: ∀{w':World} {K:Value→World→Prop},K (.int .u8 (X3 a 1)) w'→D9 P T.b (S a) (.int .i64 1) w' K:=fun hK=>Vu (i:=1) hl1 hK
  have hx2: ∀{w':World} {K:Value→World→Prop},K (.int .u8 (X3 a 2)) w'→D9 P T.b (S a) (.int .i64 2) w' K:=fun hK=>Vu (i:=2) hl2 hK
  (repeat (apply U4;(· intros;(repeat (rename_i hx;subst hx));(repeat' (first | (with_reducible exact N4 rfl) | (with_reducible exact Zl (Stp.bel (by (repeat (first | exact Stp.refl (by (first | assumption | exact Stp.sat (by assumption) | exact Hst.sat (by assumption))) | assumption | refine Stp.trans ?_ (by first | assumption | exact Hst.stp (by assumption)))))) rfl) | (with_reducible intro _) | (simp only[↓M2,M2,Mb,reduceIte]) | (with_reducible refine Q8J au ?_) | (with_reducible refine Q2h au ?_) | (with_reducible refine hx1 ?_) | (with_reducible refine hx2 ?_) | (with_reducible show Q2 _ _ _ _ _;first | refine X8 aS aL aR ?_ | refine Y7 aS aL aR ?_ | refine ld aS aL aR ?_) | (with_reducible show indexAddr _ _ _ _ _ _;refine J9 aL au ?_) | (with_reducible show X6 _ _ _ _ _ _ _ _;refine Q8 aL ?_) | (with_reducible show Vv _ _ _ _ _ _;refine V0 aR ?_) | (with_reducible show pick _ _ _ _ _ _;refine Jn ?_) | (apply Wv;intro hh;(try simp only[hh,reduceIte,↓M2,M2,Mb,reduceIte]))));done)))
  (intros;(repeat (rename_i hx;subst hx));(try simp only[↓M2,M2,Mb,reduceIte]))
  rename_i w2 hb2
  simp only[hw]
  have hb:=hb2.stp.bel
  by_cases e1:2048≤Yz a
  ·by_cases e2:Yz a<55296
   ·simp only[(show decide ((2048:Int)≤(Yz a:Int))=true by rw[decide_eq_true_eq];omega),(show decide ((Yz a:Int)<55296)=true by rw[decide_eq_true_eq];omega),↓M1,M1,Mb,reduceIte]
    exact hK 3 _ hb (by rw[hcm,if_pos ⟨e1, .inl e2⟩])
   ·by_cases e3:57343<Yz a
    ·simp only[(show decide ((2048:Int)≤(Yz a:Int))=true by rw[decide_eq_true_eq];omega),(show decide ((Yz a:Int)<55296)=false by rw[decide_eq_false_iff_not];omega),(show decide ((57343:Int)<(Yz a:Int))=true by rw[decide_eq_true_eq];omega),↓M1,M1,Mb,reduceIte]
     exact hK 3 _ hb (by rw[hcm,if_pos ⟨e1, .inr e3⟩])
    ·simp only[(show decide ((2048:Int)≤(Yz a:Int))=true by rw[decide_eq_true_eq];omega),(show decide ((Yz a:Int)<55296)=false by rw[decide_eq_false_iff_not];omega),(show decide ((57343:Int)<(Yz a:Int))=false by rw[decide_eq_false_iff_not];omega),↓M1,M1,Mb,reduceIte]
     exact ⟨hb,by rw[hcm,if_neg (by omega)]⟩
  ·simp only[(show decide ((2048:Int)≤(Yz a:Int))=false by rw[decide_eq_false_iff_not];omega),↓M1,M1,Mb,reduceIte]
   exact ⟨hb,by rw[hcm,if_neg (by omega)]⟩
 by_cases c4:X3 a 0<245
 ·have i1:decide ((194:Int)≤X3 a 0)=true:=by rw[decide_eq_true_eq];omega
  have n1:decide (194≤X3 a 0)=true:=by rw[decide_eq_true_eq];omega
  have i2:decide ((X3 a 0:Int)<224)=false:=by rw[decide_eq_false_iff_not];omega
  have n2:decide (X3 a 0<224)=false:=by rw[decide_eq_false_iff_not];omega
  have i3:decide ((224:Int)≤X3 a 0)=true:=by rw[decide_eq_true_eq];omega
  have n3:decide (224≤X3 a 0)=true:=by rw[decide_eq_true_eq];omega
  have i4:decide ((X3 a 0:Int)<240)=false:=by rw[decide_eq_false_iff_not];omega
  have n4:decide (X3 a 0<240)=false:=by rw[decide_eq_false_iff_not];omega
  have i5:decide ((240:Int)≤X3 a 0)=true:=by rw[decide_eq_true_eq];omega
  have n5:decide (240≤X3 a 0)=true:=by rw[decide_eq_true_eq];omega
  have i6:decide ((X3 a 0:Int)<245)=true:=by rw[decide_eq_true_eq];omega
  have n6:decide (X3 a 0<245)=true:=by rw[decide_eq_true_eq];omega
  simp only[i1,i2,i3,i4,i5,i6,↓M1,M1,Mb,reduceIte]
  refine Vk (i:=1) ?_
  cases A1:E5 a.length 1 (X3 a 1) with
  | false=>simp only[↓M1,M1,Mb,reduceIte];exact ⟨Below.refl _ _,by rw[hcm];simp only[A1,n1,n2,n3,n4,n5,n6,Bool.and_true,Bool.true_and,Bool.false_and,Bool.and_false,Bool.false_eq_true,if_true,if_false,reduceIte]⟩
  | true=>
  simp only[↓M1,M1,Mb,reduceIte]
  refine Vk (i:=2) ?_
  cases A2:E5 a.length 2 (X3 a 2) with
  | false=>simp only[↓M1,M1,Mb,reduceIte];exact ⟨Below.refl _ _,by rw[hcm];simp only[A1,A2,n1,n2,n3,n4,n5,n6,Bool.and_true,Bool.true_and,Bool.false_and,Bool.and_false,Bool.false_eq_true,if_true,if_false,reduceIte]⟩
  | true=>
  simp only[↓M1,M1,Mb,reduceIte]
  refine Vk (i:=3) ?_
  cases A3:E5 a.length 3 (X3 a 3) with
  | false=>simp only[↓M1,M1,Mb,reduceIte];exact ⟨Below.refl _ _,by rw[hcm];simp only[A1,A2,A3,n1,n2,n3,n4,n5,n6,Bool.and_true,Bool.true_and,Bool.false_and,Bool.and_false,Bool.false_eq_true,if_true,if_false,reduceIte]⟩
  | true=>
  simp only[↓M1,M1,Mb,reduceIte]
  simp only[A1,A2,A3,n1,n2,n3,n4,n5,n6,Bool.and_true,Bool.true_and,Bool.false_and,Bool.and_false,Bool.false_eq_true,if_true,if_false,reduceIte] at hcm
  have hl1:1<a.length:=by unfold E5 at A1;simp only[Bool.and_eq_true,decide_eq_true_eq] at A1;exact A1.1.1
  have hl2:2<a.length:=by unfold E5 at A2;simp only[Bool.and_eq_true,decide_eq_true_eq] at A2;exact A2.1.1
  have hl3:3<a.length:=by unfold E5 at A3;simp only[Bool.and_eq_true,decide_eq_true_eq] at A3;exact A3.1.1
  have hw:IntKind.i64.wrap (IntKind.i64.wrap (IntKind.i64.wrap (IntKind.i64.wrap ((X3 a 0:Int) % 8*262144)+IntKind.i64.wrap ((X3 a 1:Int) % 64*4096))+IntKind.i64.wrap ((X3 a 2:Int) % 64*64))+(X3 a 3:Int) % 64)=((Ed a:Nat):Int):=by
   rw[B5 (n:=(X3 a 0:Int) % 8*262144) (by omega) (by omega),B5 (n:=(X3 a 1:Int) % 64*4096) (by omega) (by omega),B5 (n:=(X3 a 2:Int) % 64*64) (by omega) (by omega),B5 (n:=_+(X3 a 1:Int) % 64*4096) (by omega) (by omega),B5 (n:=_+(X3 a 2:Int) % 64*64) (by omega) (by omega),B5 (by omega) (by omega)]
   unfold Ed;omega
  refine V2 hs ?_
  have hx1: ∀{w':World} {K:Value→World→Prop},K (.int .u8 (X3 a 1)) w'→D9 P T.b (S a) (.int .i64 1) w' K:=fun hK=>Vu (i:=1) hl1 hK
  have hx2: ∀{w':World} {K:Value→World→Prop},K (.int .u8 (X3 a 2)) w'→D9 P T.b (S a) (.int .i64 2) w' K:=fun hK=>Vu (i:=2) hl2 hK
  have hx3: ∀{w':World} {K:Value→World→Prop},K (.int .u8 (X3 a 3)) w'→D9 P T.b (S a) (.int .i64 3) w' K:=fun hK=>Vu (i:=3) hl3 hK
  (repeat (apply U4;(· intros;(repeat (rename_i hx;subst hx));(repeat' (first | (with_reducible exact N4 rfl) | (with_reducible exact Zl (Stp.bel (by (repeat (first | exact Stp.refl (by (first | assumption | exact Stp.sat (by assumption) | exact Hst.sat (by assumption))) | assumption | refine Stp.trans ?_ (by first | assumption | exact Hst.stp (by assumption)))))) rfl) | (with_reducible intro _) | (simp only[↓M2,M2,Mb,reduceIte]) | (with_reducible refine Q8J au ?_) | (with_reducible refine Q2h au ?_) | (with_reducible refine hx1 ?_) | (with_reducible refine hx2 ?_) | (with_reducible refine hx3 ?_) | (with_reducible show Q2 _ _ _ _ _;first | refine X8 aS aL aR ?_ | refine Y7 aS aL aR ?_ | refine ld aS aL aR ?_) | (with_reducible show indexAddr _ _ _ _ _ _;refine J9 aL au ?_) | (with_reducible show X6 _ _ _ _ _ _ _ _;refine Q8 aL ?_) | (with_reducible show Vv _ _ _ _ _ _;refine V0 aR ?_) | (with_reducible show pick _ _ _ _ _ _;refine Jn ?_) | (apply Wv;intro hh;(try simp only[hh,reduceIte,↓M2,M2,Mb,reduceIte]))));done)))
  (intros;(repeat (rename_i hx;subst hx));(try simp only[↓M2,M2,Mb,reduceIte]))
  rename_i w2 hb2
  simp only[hw]
  have hb:=hb2.stp.bel
  by_cases e1:65536≤Ed a
  ·by_cases e2:Ed a≤1114111
   ·simp only[(show decide ((65536:Int)≤(Ed a:Int))=true by rw[decide_eq_true_eq];omega),(show decide ((Ed a:Int)≤1114111)=true by rw[decide_eq_true_eq];omega),↓M1,M1,Mb,reduceIte]
    exact hK 4 _ hb (by rw[hcm,if_pos ⟨e1,e2⟩])
   ·simp only[(show decide ((65536:Int)≤(Ed a:Int))=true by rw[decide_eq_true_eq];omega),(show decide ((Ed a:Int)≤1114111)=false by rw[decide_eq_false_iff_not];omega),↓M1,M1,Mb,reduceIte]
    exact ⟨hb,by rw[hcm,if_neg (by omega)]⟩
  ·simp only[(show decide ((65536:Int)≤(Ed a:Int))=false by rw[decide_eq_false_iff_not];omega),↓M1,M1,Mb,reduceIte]
   exact ⟨hb,by rw[hcm,if_neg (by omega)]⟩
 have i1:decide ((194:Int)≤X3 a 0)=true:=by rw[decide_eq_true_eq];omega
 have n1:decide (194≤X3 a 0)=true:=by rw[decide_eq_true_eq];omega
 have i2:decide ((X3 a 0:Int)<224)=false:=by rw[decide_eq_false_iff_not];omega
 have n2:decide (X3 a 0<224)=false:=by rw[decide_eq_false_iff_not];omega
 have i3:decide ((224:Int)≤X3 a 0)=true:=by rw[decide_eq_true_eq];omega
 have n3:decide (224≤X3 a 0)=true:=by rw[decide_eq_true_eq];omega
 have i4:decide ((X3 a 0:Int)<240)=false:=by rw[decide_eq_false_iff_not];omega
 have n4:decide (X3 a 0<240)=false:=by rw[decide_eq_false_iff_not];omega
 have i5:decide ((240:Int)≤X3 a 0)=true:=by rw[decide_eq_true_eq];omega
 have n5:decide (240≤X3 a 0)=true:=by rw[decide_eq_true_eq];omega
 have i6:decide ((X3 a 0:Int)<245)=false:=by rw[decide_eq_false_iff_not];omega
 have n6:decide (X3 a 0<245)=false:=by rw[decide_eq_false_iff_not];omega
 simp only[i1,i2,i3,i4,i5,i6,↓M1,M1,Mb,reduceIte]
 exact ⟨Below.refl _ _,by rw[hcm];simp only[n1,n2,n3,n4,n5,n6,Bool.and_true,Bool.true_and,Bool.false_and,Bool.and_false,Bool.false_eq_true,if_true,if_false,reduceIte]⟩)
theorem Q7x {s:X0} (p:s.length≤J3) (q:X4 w σ) (h: ∀w',Below w.heap.size w w'→K (.bool (Lib.validD s)) w'):Q0 P F.bg [S s] w K:=Gn (by
 unfold Vt
 refine Ba (fun f x w'=> ∃r,x=S r∧r.length≤f∧r.length≤J3∧Below w.heap.size w w'∧Lib.validD s=Lib.validGoD f r) s.length ⟨s,rfl,Nat.le_refl _,p,Below.refl _ _,rfl⟩ ?_
 rintro k f x d w1 ⟨r,rfl,t,u,b,c⟩ n
 refine Ui ?_
 by_cases a:r=[]
 ·have e:decide (r=[])=true:=by simpa using a
  simp only[e,↓M1,M1,Mb,reduceIte]
  subst a
  have:Lib.validGoD f []=true:=by cases f<;>simp[Lib.validGoD]
  rw[c,this] at h
  exact h _ b
 ·have e:decide (r=[])=false:=by simpa using a
  simp only[e,↓M1,M1,Mb,reduceIte]
  have o:0<r.length:=List.length_pos_iff.2 a
  obtain ⟨f,rfl⟩: ∃g,f=g+1:=⟨f-1,by omega⟩
  rw[Q6M a] at c
  refine Q9s a (q.below b) fun v l=>?_
  have i:=b.trans (l.mono b.size)
  refine Ll ?_
  by_cases m:Ye r=0
  ·have j:decide ((Ye r:Int)=0)=true:=by rw[decide_eq_true_eq];omega
   simp only[j,↓M1,M1,Mb,reduceIte]
   rw[c,if_pos m] at h
   exact h _ i
  ·have j:decide ((Ye r:Int)=0)=false:=by rw[decide_eq_false_iff_not];omega
   simp only[j,↓M1,M1,Mb,reduceIte]
   obtain ⟨y,z⟩:=Q7P a m
   rw[Wl X7 (by omega) (by omega)]
   rw[if_neg m] at c
   refine n f _ _ (by omega) ⟨r.drop (Ye r),by simp,by rw[List.length_drop];omega,by rw[List.length_drop];omega,i,c⟩)
end Go.Proofs.YtfppjenblllfaaaGreatDoor

namespace Go.Proofs.YtfppjenblllfaaaGreatDoor
open Go.Emb Go.RowKit Go.Kd Go.Hm
variable {w : World} {K : Value → World → Prop} {σ : Q4}
theorem Q44 {σ:Q4}: ∀(xs:List X0),(∀x∈xs,x.length≤J3)→Tv Y0 σ (xs.map S) xs
 | [],_=>trivial
 | x::r,h=>⟨⟨rfl,h x (by simp)⟩,Q44 r fun y a=>h y (by simp[a])⟩
def Zt:List X0:=Zd.map (·.name)
set_option maxRecDepth 100000 in
theorem X12 (c:X4 w σ) (h: ∀v w' a,Stp w σ w' a→Sl 1 Y0 a v Zt→K v w'):Q0 P F.bt [] w K:=Pj (by
 unfold Oa
 exact D6 (R:=Y0) (sz:=1) c (Zt.map S) Zt rfl rfl (by intro v b;obtain ⟨x,_,rfl⟩:=List.mem_map.1 b;rfl) rfl (Q44 _ (by decide)) fun v w' a d b=>h v w' a d b)
theorem Q6Z {a:X0} (y:X4 w σ) (h: ∀w' t,Stp w σ w' t→K (I (W5 (I5 a))) w'):Q0 P F.aV [S a] w K:=Su (by
 unfold Vm
 refine X12 y fun v w1 σ1 l p=>?_
 have r:I5 a=Zt.findIdx? fun x=>decide (x=a):=by
  unfold I5 Zt
  rw[List.findIdx?_map];rfl
 have q: ∀o,I5 a=o→K (I (W5 o)) w1:=fun o e=>by rw[←e];exact h _ _ l
 rw[r] at q
 have n:Zt.length=42:=rfl
 generalize Zt=g at p q n
 refine Z8 g.length (fun k w'=>w'=w1∧ ∀j (i:j<g.length),j<k→ ¬g[j]=a) ⟨rfl,fun j _ h=>by omega⟩ fun k E d D A=>?_
 obtain ⟨C,c⟩:=A
 subst C
 refine Q8 p ?_
 refine Z1 ?_
 refine Q5 (fun s=>?_) (fun s=>?_)
 ·have b:k<g.length:=by simpa using s
  refine J9 p b ?_
  obtain ⟨B,_⟩:=p.elS b
  refine X8 l.sat B rfl ?_
  refine Ng ?_
  refine Q5 (fun f=>?_) (fun f=>?_)
  ·have f:g[k]=a:=by simpa using f
   exact q (some k) (by
    rw[List.findIdx?_eq_some_iff_getElem]
    exact ⟨b,by simpa using f,fun j i=>by simpa using c j (by omega) i⟩)
  ·have f: ¬g[k]=a:=by simpa using f
   (try simp only[↓M1,M1,Mb,reduceIte])
   refine Y2 p.max b ⟨rfl,fun j i u=>?_⟩
   by_cases e:j=k
   ·subst e;exact f
   ·exact c j i (by omega)
 ·have b: ¬k<g.length:=by simpa using s
  exact q none (by
   rw[List.findIdx?_eq_none_iff]
   intro m z
   obtain ⟨j,i,rfl⟩:=List.getElem_of_mem z
   simpa using c j i (by omega)))
theorem X0E {o:Option Nat}:decide (W5 o<0)= !o.isSome:=by
 cases o with
 | none=>rfl
 | some i=>
  have: ¬(i:Int)<0:=by omega
  exact decide_eq_false this
def Wi (a:X0):Bool:=decide (a=[105,110,116])||decide (a=[108,111,97,100])||decide (a=[115,116,111,114,101])||decide (a=[106,117,109,112])||decide (a=[98,114,97,110,99,104])
def Uf (a:X0):Bool:=decide (a=[119,111,114,100])||decide (a=[110,101,119])||decide (a=[103,101,116])||decide (a=[112,117,116])||decide (a=[99,97,108,108])||decide (a=[97,114,114,97,121])||decide (a=[105,115])||decide (a=[99,97,115,116])
theorem Q8Z (a:X0):takes a=(Wi a,Uf a,(I5 a).isSome):=by
 unfold takes
 cases g:I5 a with
 | none=>
  have c:=List.findIdx?_eq_none_iff.1 g
  have d: ∀x∈Zt,¬x=a:=by
   intro x f
   obtain ⟨o,q,rfl⟩:=List.mem_map.1 f
   have:=c o q
   simpa using this
  have b: ∀x∈Zt,decide (a=x)=false:=fun x f=>by rw[decide_eq_false_iff_not];exact fun e=>d x f e.symm
  have m:Wi a=false:=by
   unfold Wi
   rw[b _ (by decide),b _ (by decide),b _ (by decide),b _ (by decide),b _ (by decide)];rfl
  have r:Uf a=false:=by
   unfold Uf
   rw[b _ (by decide),b _ (by decide),b _ (by decide),b _ (by decide),b _ (by decide),b _ (by decide),b _ (by decide),b _ (by decide)];rfl
  simp[m,r]
 | some i=>
  obtain ⟨h,p,_⟩:=List.findIdx?_eq_some_iff_getElem.1 g
  have j:Zd[i].name=a:=by simpa using p
  have n:Zd.getD i ⟨[],false,false⟩=Zd[i]:=by rw[List.getD_eq_getElem?_getD,List.getElem?_eq_getElem h];rfl
  have c: ∀o∈Zd,o.number=Wi o.name∧o.text=Uf o.name:=by decide
  obtain ⟨l,k⟩:=c _ (List.getElem_mem h)
  simp only[n,Option.isSome_some]
  rw[l,k,j]
def Nr (a:X0):Int:=if Wi a then 1 else if Uf a then 2 else if (I5 a).isSome then 0 else-1
theorem Q8e {a:X0} (c:X4 w σ) (h: ∀w' l,Stp w σ w' l→K (I (Nr a)) w'):Q0 P F.b3 [S a] w K:=Fx (by
 unfold Vw
 refine Zq (fun x w'=>w'=w∧x= .bool (Wi a)) ?_ (fun x d w' e=>?_)
 ·unfold Wi
  simp only[↓M1,M1,Mb,reduceIte]
  repeat' (refine Q5 (fun hh=>?_) (fun hh=>?_))
  all_goals (refine ⟨by trivial,?_⟩;congr 1;simp_all)
 ·obtain ⟨rfl,rfl⟩:=e
  cases f:Wi a with
  | true=>
   (try simp only[↓M1,M1,Mb,reduceIte])
   have:=h _ _ (Stp.refl c)
   unfold Nr at this
   simpa [f] using this
  | false=>
   (try simp only[↓M1,M1,Mb,reduceIte])
   refine Zq (fun x b=>b=w'∧x= .bool (Uf a)) ?_ (fun x d b e=>?_)
   ·unfold Uf
    simp only[↓M1,M1,Mb,reduceIte]
    repeat' (refine Q5 (fun hh=>?_) (fun hh=>?_))
    all_goals (refine ⟨by trivial,?_⟩;congr 1;simp_all)
   ·obtain ⟨rfl,rfl⟩:=e
    cases j:Uf a with
    | true=>
     (try simp only[↓M1,M1,Mb,reduceIte])
     have:=h _ _ (Stp.refl c)
     unfold Nr at this
     simpa [f,j] using this
    | false=>
     (try simp only[↓M1,M1,Mb,reduceIte])
     refine Q6Z c fun w1 σ1 g=>?_
     have:=h _ _ g
     unfold Nr at this
     simp only[f,j,Bool.false_eq_true,if_false] at this
     simp only[X0E,↓M1,M1,Mb,reduceIte]
     cases k:I5 a with
     | none=>rw[k] at this;simp only[Option.isSome_none,↓M1,M1,Mb,reduceIte];simpa using this
     | some i=>rw[k] at this;simp only[Option.isSome_some,↓M1,M1,Mb,reduceIte];simpa using this)
theorem Q4v (a:X0):decide (Nr a<0)= !(takes a).2.2∧decide (Nr a=1)=(takes a).1∧decide (Nr a=2)=(takes a).2.1:=by
 rw[Q8Z]
 have c:Wi a=true→Uf a=false∧(I5 a).isSome=true:=by
  intro h
  unfold Wi at h
  simp only[Bool.or_eq_true,decide_eq_true_eq] at h
  rcases h with (((h | h) | h) | h) | h<;>(subst h;decide)
 have g:Uf a=true→(I5 a).isSome=true:=by
  intro h
  unfold Uf at h
  simp only[Bool.or_eq_true,decide_eq_true_eq] at h
  rcases h with ((((((h | h) | h) | h) | h) | h) | h) | h<;>(subst h;decide)
 unfold Nr
 cases e:Wi a with
 | true=>obtain ⟨f,b⟩:=c e;rw[f,b];decide
 | false=>
  cases d:Uf a with
  | true=>rw[g d];decide
  | false=>cases (I5 a).isSome<;>decide
theorem X2u (s:X0) (c:UInt8):decide (0≤Lib.indexByte s c)=s.any fun b=>decide (b=c):=by
 induction s with
 | nil=>rfl
 | cons b r f=>
  simp only[Lib.indexByte,List.any_cons,←f]
  by_cases e:b=c
  ·simp[e]
  ·have a:(b==c)=false:=by simpa using e
   have g:=Lib.indexByte_ge r c
   simp only[a,e,decide_false,Bool.false_or,Bool.false_eq_true,if_false]
   by_cases d:Lib.indexByte r c= -1
   ·simp[d]
   ·have:(Lib.indexByte r c== -1)=false:=by simpa using d
    simp only[this,Bool.false_eq_true,if_false]
    rw[Bool.eq_iff_iff,decide_eq_true_eq,decide_eq_true_eq];omega
def JB (w:World) (σ:Q4) (b:Bool) (x:Value) (w':World):Prop:= ∃a,Stp w σ w' a∧x= .bool b
theorem JB.mk {w w':World} {σ a:Q4} {b:Bool} (h:Stp w σ w' a):JB w σ b (.bool b) w':=⟨a,h,rfl⟩
theorem JB.of {w w':World} {σ a:Q4} {b c:Bool} (h:Stp w σ w' a) (e:c=b):JB w σ b (.bool c) w':=⟨a,h,by rw[e]⟩
theorem X1A {s:X0} {n:Nat} (h:n<s.length):decide ((X3 s n:Int)=10)=decide (s[n]=10):=by
 unfold X3
 rw[List.getD_eq_getElem?_getD,List.getElem?_eq_getElem h,Bool.eq_iff_iff,decide_eq_true_eq,decide_eq_true_eq]
 simp only[Option.getD_some]
 rw[←UInt8.toNat_inj]
 constructor
 ·intro e;have:s[n].toNat=10:=by omega
  rw[this];rfl
 ·intro e;rw[e];rfl
theorem Zr {α:Type} {xs:List α} {p:α→Bool} {n:Nat} (h:n<xs.length):(xs.take (n+1)).all p=((xs.take n).all p&&p xs[n]):=by
 rw[List.take_add_one,List.getElem?_eq_getElem h,List.all_append];simp
set_option maxHeartbeats 2000000 in
theorem Q6E {i:Ins} {cs:List Value} (hs:X4 w σ) (hi:I3 σ i cs) (h: ∀w' m,Stp w σ w' m→K (I (N0 i)) w'):Q0 P F.bf [.agg cs.toArray] w K:=By (by
 obtain ⟨rfl,h1,h2,h3⟩:=hi
 unfold Wc
 refine Y9 hs fun q w1 σ1 O hq=>?_
 have R:=O.sat
 (try simp only[↓M1,M1,Mb,reduceIte])
 refine ld R hq rfl ?_
 refine Q8e R fun w2 σ2 Q=>?_
 obtain ⟨t1,V,E⟩:=Q4v i.op
 have f:=O.trans Q
 have g:=hq.up Q
 have e:=f.sat
 have p:i.s.length≤140737488355328:=by simp only[J3] at h3;omega
 simp only[t1,↓M1,M1,Mb,reduceIte]
 unfold N0 at h
 cases e1:(takes i.op).2.2 with
 | false=>
  simp only[e1,Bool.not_false,if_true] at h
  (try simp only[↓M1,M1,Mb,reduceIte])
  exact h _ _ f
 | true=>
 simp only[e1,Bool.not_true,Bool.false_eq_true,if_false] at h
 simp only[V,E,↓M1,M1,Mb,reduceIte]
 have k: ∀(b:Bool) (w':World) (m:Q4),Stp w σ w' m→b=(!((!(takes i.op).1&&decide (i.n≠0))||(!(takes i.op).2.1&&decide (i.s≠[]))||((takes i.op).2.1&& !txt i.op i.s)))→
  X1 (.bool (!b)) (K (.int .i64 41) w') (K (.int .i64 0) w'):=by
  intro b w' m u A
  subst A
  rw[Bool.not_not]
  cases A:((!(takes i.op).1&&decide (i.n≠0))||(!(takes i.op).2.1&&decide (i.s≠[]))||((takes i.op).2.1&& !txt i.op i.s)) with
  | true=>simp only[A,if_true] at h;(try simp only[↓M1,M1,Mb,reduceIte]);exact h _ _ u
  | false=>simp only[A,Bool.false_eq_true,if_false] at h;(try simp only[↓M1,M1,Mb,reduceIte]);exact h _ _ u
 clear h
 have ab:(takes i.op).2.1=true→(takes i.op).1=false:=by
  intro U
  rw[←V,decide_eq_false_iff_not]
  rw[←E,decide_eq_true_eq] at U
  omega
 cases B:(takes i.op).2.1 with
 | false=>
  rw[B] at k E
  cases v:(takes i.op).1 with
  | true=>
   rw[v] at k V
   (try simp only[↓M1,M1,Mb,reduceIte])
   simp only[E,↓M1,M1,Mb,reduceIte]
   refine ld e g rfl ?_
   (try simp only[↓M1,M1,Mb,reduceIte])
   refine V6 ?_
   intro d
   simp only[↓M1,M1,Mb,reduceIte]
   exact k _ _ _ f (by simp)
  | false=>
   rw[v] at k V
   (try simp only[↓M1,M1,Mb,reduceIte])
   refine ld e g rfl ?_
   (try simp only[↓M1,M1,Mb,reduceIte])
   by_cases M:i.n=0
   ·have d0:decide (i.n=0)=true:=by simpa using M
    simp only[d0,E,↓M1,M1,Mb,reduceIte]
    refine ld e g rfl ?_
    (try simp only[↓M1,M1,Mb,reduceIte])
    refine V6 ?_
    intro d
    simp only[↓M1,M1,Mb,reduceIte]
    exact k _ _ _ f (by simp[M])
   ·have d0:decide (i.n=0)=false:=by simpa using M
    simp only[d0,↓M1,M1,Mb,reduceIte]
    refine V6 ?_
    intro d
    have H:=k false _ _ f (by simp[M])
    (try simp only[↓M1,M1,Mb,reduceIte] at H⊢)
    exact H
 | true=>
  have v:=ab B
  rw[B,v] at k
  rw[B] at E
  rw[v] at V⊢
  (try simp only[↓M1,M1,Mb,reduceIte])
  refine ld e g rfl ?_
  (try simp only[↓M1,M1,Mb,reduceIte])
  have o: ∀(b c:Bool) (w':World) (m:Q4),decide (i.n=0)=b→Stp w σ w' m→c=(b&&txt i.op i.s)→X1 (.bool (!c)) (K (.int .i64 41) w') (K (.int .i64 0) w'):=by
   intro b c w' m A u r
   refine k c w' m u ?_
   rw[r,←A]
   by_cases M:i.n=0<;>simp[M]
  clear k
  cases A:decide (i.n=0) with
  | false=>
   have y:=fun w' m u=>o false false w' m A u rfl
   clear o
   simp only[E,↓M1,M1,Mb,reduceIte]
   refine Zq (JB w σ false) ?_ (fun x d w' U=>?_)
   ·refine ld e g rfl ?_
    (try simp only[↓M1,M1,Mb,reduceIte])
    refine Q5 (fun hh=>?_) (fun hh=>?_)
    ·refine O8 (a:=Value.bool false) i.s.length (fun n x w'=>w'=w2∧x=Value.bool false) ⟨rfl,rfl⟩ fun n x w3 d hn l=>?_
     obtain ⟨C,rfl⟩:=l
     subst C
     (try simp only[↓M1,M1,Mb,reduceIte])
     refine ld e g rfl ?_
     (try simp only[↓M1,M1,Mb,reduceIte])
     refine Q5 (fun r=>?_) (fun r=>?_)
     ·have j:n<i.s.length:=by simpa using r
      (try simp only[↓M1,M1,Mb,reduceIte])
      exact Z6 (by omega) j ⟨rfl,rfl⟩
     ·exact .mk f
    refine Q5 (fun hh=>?_) (fun hh=>?_)
    ·exact .mk f
    refine Zq (fun x w'=>w'=w2∧ ∃b:Bool,x=Value.bool b) ?_ (fun z d w' hz=>?_)
    ·refine Q5 (fun hh=>?_) (fun hh=>?_)
     ·exact ⟨rfl,_,rfl⟩
     ·exact ⟨rfl,_,rfl⟩
    obtain ⟨C,b,rfl⟩:=hz
    subst C
    refine Q5 (fun hh=>?_) (fun hh=>?_)
    ·exact .mk f
    refine Q5 (fun hh=>?_) (fun hh=>?_)
    ·exact .mk f
    refine ld e g rfl ?_
    refine Q2V i.s p fun w4 t=>?_
    by_cases N:(P6 i.s).2.2=true
    ·simp only[N,if_true,↓M1,M1,Mb,reduceIte]
     exact .mk (f.trans (Stp.of_below e t))
    ·simp only[N,if_false,↓M1,M1,Mb,reduceIte]
     exact .mk (f.trans (Stp.of_below e t))
   ·obtain ⟨m,u,rfl⟩:=U
    have H:=y w' m u
    (try simp only[↓M1,M1,Mb,reduceIte] at H⊢)
    exact H
  | true=>
   have y:=fun c w' m u r=>o true c w' m A u r
   clear o
   simp only[E,↓M1,M1,Mb,reduceIte]
   refine Zq (JB w σ (txt i.op i.s)) ?_ (fun x d w' U=>?_)
   ·refine ld e g rfl ?_
    (try simp only[↓M1,M1,Mb,reduceIte])
    unfold txt
    by_cases o1:i.op=[119,111,114,100]
    ·simp only[if_pos o1,decide_eq_true o1,↓M1,M1,Mb,reduceIte]
     refine ld e g rfl ?_
     (try simp only[↓M1,M1,Mb,reduceIte])
     have ag:decide ((i.s.length:Int)≤64)=decide (i.s.length≤64):=by rw[Bool.eq_iff_iff,decide_eq_true_eq,decide_eq_true_eq];omega
     rw[ag,X2u,List.not_any_eq_all_not]
     cases ar:decide (i.s.length≤64) with
     | false=>
      (try simp only[↓M1,M1,Mb,reduceIte])
      refine O8 (a:=Value.bool false) i.s.length (fun n x w'=>w'=w2∧x=Value.bool false) ⟨rfl,rfl⟩ fun n x w3 d hn l=>?_
      obtain ⟨C,rfl⟩:=l
      subst C
      (try simp only[↓M1,M1,Mb,reduceIte])
      refine ld e g rfl ?_
      (try simp only[↓M1,M1,Mb,reduceIte])
      refine Q5 (fun r=>?_) (fun r=>?_)
      ·have j:n<i.s.length:=by simpa using r
       (try simp only[↓M1,M1,Mb,reduceIte])
       exact Z6 (by omega) j ⟨rfl,rfl⟩
      ·exact .of f (by simp)
     | true=>
      (try simp only[↓M1,M1,Mb,reduceIte])
      refine ld e g rfl ?_
      refine Q7x h3 e fun w4 t=>?_
      have L:=Stp.of_below e t
      have X:=g.up L
      have W:=L.sat
      have D:=f.trans L
      (try simp only[↓M1,M1,Mb,reduceIte])
      refine O8 (a:=Value.bool (Lib.validD i.s)) i.s.length (fun n x w'=>w'=w4∧x=Value.bool (Lib.validD i.s&&(i.s.take n).all fun c=> !decide (c=10))) ⟨rfl,by simp⟩ fun n x w3 d hn l=>?_
      obtain ⟨C,rfl⟩:=l
      subst C
      (try simp only[↓M1,M1,Mb,reduceIte])
      refine ld W X rfl ?_
      (try simp only[↓M1,M1,Mb,reduceIte])
      refine Q5 (fun r=>?_) (fun r=>?_)
      ·have j:n<i.s.length:=by simpa using r
       have J:(Lib.validD i.s&&(i.s.take (n+1)).all fun c=> !decide (c=10))=((Lib.validD i.s&&(i.s.take n).all fun c=> !decide (c=10))&& !decide (i.s[n]=10)):=by rw[Zr j,Bool.and_assoc]
       generalize ah:(Lib.validD i.s&&(i.s.take n).all fun c=> !decide (c=10))=ac at J⊢
       cases ac with
       | false=>(try simp only[↓M1,M1,Mb,reduceIte]);exact Z6 (by omega) j ⟨rfl,by rw[J];rfl⟩
       | true=>
        (try simp only[↓M1,M1,Mb,reduceIte])
        refine ld W X rfl ?_
        refine Vu j ?_
        simp only[X1A j,↓M1,M1,Mb,reduceIte]
        exact Z6 (by omega) j ⟨rfl,by rw[J];rfl⟩
      ·have j: ¬n<i.s.length:=by simpa using r
       rw[List.take_of_length_le (by omega)]
       exact .of D (by simp)
    ·simp only[if_neg o1,decide_eq_false o1,↓M1,M1,Mb,reduceIte]
     by_cases o2:i.op=[110,101,119]
     ·simp only[if_pos o2,decide_eq_true o2,↓M1,M1,Mb,reduceIte]
      refine ld e g rfl ?_
      refine Qq i.s p ?_
      (try simp only[↓M1,M1,Mb,reduceIte])
      exact .mk f
     ·simp only[if_neg o2,decide_eq_false o2,↓M1,M1,Mb,reduceIte]
      refine Zq (fun x w'=>w'=w2∧x=Value.bool (decide (i.op=[105,115]∨i.op=[99,97,115,116]))) ?_ (fun z d w' hz=>?_)
      ·refine Q5 (fun hh=>?_) (fun hh=>?_)
       ·exact ⟨rfl,by simp_all⟩
       ·exact ⟨rfl,by simp_all⟩
      obtain ⟨C,rfl⟩:=hz
      subst C
      by_cases Y:i.op=[105,115]∨i.op=[99,97,115,116]
      ·simp only[if_pos Y,decide_eq_true Y,↓M1,M1,Mb,reduceIte]
       refine ld e g rfl ?_
       refine Vh i.s p ?_
       cases hr:right i.s with
       | false=>(try simp only[↓M1,M1,Mb,reduceIte]);exact .mk f
       | true=>
        (try simp only[↓M1,M1,Mb,reduceIte])
        refine ld e g rfl ?_
        refine Tp i.s ?_
        (try simp only[↓M1,M1,Mb,reduceIte])
        exact .mk f
      ·simp only[if_neg Y,decide_eq_false Y,↓M1,M1,Mb,reduceIte]
       by_cases Z:i.op=[97,114,114,97,121]
       ·simp only[if_pos Z,decide_eq_true Z,↓M1,M1,Mb,reduceIte]
        refine ld e g rfl ?_
        refine Vh i.s p ?_
        cases hr:right i.s with
        | false=>(try simp only[↓M1,M1,Mb,reduceIte]);exact .mk f
        | true=>
         (try simp only[↓M1,M1,Mb,reduceIte])
         refine ld e g rfl ?_
         refine Q0N i.s p ?_
         (try simp only[↓M1,M1,Mb,reduceIte])
         have e3:decide (((base i.s).2:Int)<3)=decide (Q15 i.s<3):=by
          unfold Q15;rw[if_pos hr,Bool.eq_iff_iff,decide_eq_true_eq,decide_eq_true_eq];omega
         rw[e3]
         exact .mk f
       ·simp only[if_neg Z,decide_eq_false Z,↓M1,M1,Mb,reduceIte]
        refine ld e g rfl ?_
        refine Q2V i.s p fun w4 t=>?_
        have D:=f.trans (Stp.of_below e t)
        by_cases N:(P6 i.s).2.2=true
        ·simp only[N,if_true,↓M1,M1,Mb,reduceIte]
         exact .mk D
        ·have:Xr i.s=false:=by unfold Xr;rw[eq_false_of_ne_true N];rfl
         simp only[N,if_false,↓M1,M1,Mb,reduceIte]
         exact .of D this.symm
   ·obtain ⟨m,u,rfl⟩:=U
    have H:=y _ w' m u rfl
    simp only[Bool.true_and] at H
    (try simp only[↓M1,M1,Mb,reduceIte])
    exact H)
end Go.Proofs.YtfppjenblllfaaaGreatDoor

namespace Go.Emb
theorem X0M {w:World} {K:Value→World→Prop} {v:Value} (h:K v w):Q1 (.bool true) true w (fun w J=>J v w) K:=by rw[G4];exact h
theorem X13 {w:World} {K:Value→World→Prop} {v:Value} (h:K v w):Q1 (.bool false) false w (fun w J=>J v w) K:=by rw[Vl];exact h
theorem X1L {w:World} {K:Value→World→Prop} {b:Bool} {run:World→(Value→World→Prop)→Prop} (h:K undef w):Q1 undef b w run K:=by rw[Pc];exact h
class Hd (p : Prop) (q : outParam Prop) : Prop where
  h : q → p
section
variable {P : Program} {w : World} {K : Value → World → Prop} {run : World → (Value → World → Prop) → Prop} {v u : Value} {b : Bool}
instance:Hd (J0 P .not (.bool b) w K) (K (.bool (!b)) w):=⟨Nh⟩
instance:Hd (Q1 undef b w run K) (K undef w):=⟨X1L⟩
instance {t:TypeId} {k off:Nat} {ft:TypeId} {sz by_:Nat} {z:Value} {a:Addr} [tf:TF P t k off ft] [tz:TZ P ft sz by_ z] [nz:NZ sz]:Hd (fieldAddr P t (.pointer (some a)) k w K) (K (.pointer (some (a.add off))) w):=⟨O3⟩
instance:Hd (pick P (.bool false) v u w K) (K u w):=⟨X0h⟩
instance:Hd (pick P (.bool true) v u w K) (K v w):=⟨X0K⟩
instance:Hd (Q1 (.bool false) false w run K) (run w K):=⟨X1T⟩
instance:Hd (Q1 (.bool true) true w run K) (run w K):=⟨X1l⟩
instance:Hd (Q1 (.bool false) true w run K) (K undef w):=⟨X10⟩
instance:Hd (Q1 (.bool true) false w run K) (K undef w):=⟨X0r⟩
instance:Hd (Q1 (.bool false) false w (fun w J=>J v w) K) (K v w):=⟨X13⟩
instance:Hd (Q1 (.bool true) true w (fun w J=>J v w) K) (K v w):=⟨X0M⟩
end
end Go.Emb
namespace Go.Proofs.YtfppjenblllfaaaGreatDoor
open Go.Emb Go.RowKit Go.Kd Go.Hm
variable {w : World} {K : Value → World → Prop} {σ : Q4}
theorem X0j {xs:List Ins} {v:Value} (q:X4 w σ) (o:Sl 3 I3 σ v xs) (h: ∀e w' l,Stp w σ w' l→decide (e=0)=xs.all (fun i=>decide (N0 i=0))→K (I e) w'):Q0 P F.aP [v] w K:=Af (by
 unfold Ny
 refine Z8 xs.length (fun n w'=> ∃l,Stp w σ w' l∧(xs.take n).all (fun i=>decide (N0 i=0))=true) ⟨σ,Stp.refl q,rfl⟩ fun n w1 d z j=>?_
 obtain ⟨σ1,a,f⟩:=j
 have g:=o.up a
 refine Q8 g ?_
 refine Z1 ?_
 refine Q5 (fun m=>?_) (fun m=>?_)
 ·have c:n<xs.length:=by simpa using m
  refine J9 g c ?_
  obtain ⟨t,r⟩:=g.elI c
  refine Y7 a.sat t rfl ?_
  refine Q6E a.sat r fun y p k=>?_
  refine Xg ?_
  by_cases e:N0 xs[n]=0
  ·have:decide (N0 xs[n]=0)=true:=by simpa using e
   simp only[this,↓M1,M1,Mb,reduceIte]
   exact Y2 o.max c ⟨p,a.trans k,by rw[Zr c,f];simpa using e⟩
  ·have:decide (N0 xs[n]=0)=false:=by simpa using e
   simp only[this,↓M1,M1,Mb,reduceIte]
   refine h _ _ _ (a.trans k) ?_
   rw[this]
   symm
   rw[←Bool.not_eq_true,List.all_eq_true]
   intro s
   have:=s _ (List.getElem_mem c)
   simp at this
   exact e this
 ·have c: ¬n<xs.length:=by simpa using m
  rw[List.take_of_length_le (by omega)] at f
  exact h 0 _ _ a (by rw[f];rfl))
theorem Q9i {c:Cla} {cs:List Value} (hs:X4 w σ) (hc:U5 σ c cs) (h: ∀w' σ',Stp w σ w' σ'→K (.bool (Xv c)) w'):Q0 P F.bl [.agg cs.toArray] w K:=Ig (by
 unfold Mo
 obtain ⟨lv,fv,mv,rfl,f1,f2,f3,f4,f5⟩:=hc
 refine Y9 hs fun q w1 σ1 hk1 hq=>?_
 have f1:=f1.up hk1
 have f2:=f2.up hk1
 have f3:=f3.up hk1
 refine Z8 c.methods.length (fun n w'=> ∃σ',Stp w1 σ1 w' σ'∧(c.methods.take n).any Uh=false) ⟨σ1,Stp.refl hk1.sat,rfl⟩ fun n w2 d hn hinv=>?_
 obtain ⟨σ2,hk2,hno⟩:=hinv
 have hq2:=hq.up hk2
 have f32:=f3.up hk2
 have f12:=f1.up hk2
 have f22:=f2.up hk2
 have hs2:=hk2.sat
 (try simp only[↓M1,M1,Mb,reduceIte])
 refine ld hs2 hq2 rfl ?_
 refine Q8 f32 ?_
 refine Z1 ?_
 refine Q5 (fun hc=>?_) (fun hc=>?_)
 ·have hn':n<c.methods.length:=by simpa using hc
  (try simp only[↓M1,M1,Mb,reduceIte])
  refine ld hs2 hq2 rfl ?_
  refine J9 f32 hn' ?_
  obtain ⟨pv,cv,hv,p1,r1⟩:=f32.elM hn'
  refine Y7 hs2 p1 rfl ?_
  refine Y6 hs2 (by rfl) rfl (Rep.one r1) fun q3 w3 σ3 hk3 hq3=>?_
  obtain ⟨g1,g2,g3,_,_,_⟩:=(RMe_lift r1 ⟨hk3.le⟩).parts
  have hS3:=hk1.trans (hk2.trans hk3)
  have hyes:Uh c.methods[n]=true→K (.bool true) w3:=fun e=>by
   have:=h _ _ hS3
   have hm:Xv c=true:=by unfold Xv;rw[C0 hn' e];rfl
   rwa [hm] at this
  have hk23:=hk2.trans hk3
  clear h hk2 hk3 hS3
  have hmax:=f3.max
  (repeat' (first | (with_reducible intro _) | (with_reducible refine V6 ?_) | (simp only[↓M2,M2,Mb,reduceIte]) | (with_reducible first | refine ld aS aL aR ?_ | refine X8 aS aL aR ?_ | refine Y7 aS aL aR ?_ | refine Q8 aL ?_ | refine V0 aR ?_ | refine Y9 aS ?_ | refine L1 aS aL ?_ | refine J6 aS aR ?_ | refine Y6 aS aR aR (Rep.one (by assumption)) ?_ | refine U0 aS aR aR aR ?_ | (refine Z4 (fun hh=>?_) (fun hh=>?_)<;>(try simp only[hh,Bool.not_true,Bool.not_false,↓M2,M2,Mb,reduceIte])) | (refine Q5 (fun hh=>?_) (fun hh=>?_)<;>(try simp only[hh,Bool.not_true,Bool.not_false,↓M2,M2,Mb,reduceIte])))))
  all_goals clear hq hq2 f1 f2 f3 f32 f12 f22 hs hs2 p1 r1 g1 g2 g3 hk1 f4 f5 hq3
  all_goals first
   | (refine hyes ?_;clear hyes hk23;unfold Uh;simp only[Bool.not_false,Bool.not_true,Bool.or_eq_true,decide_eq_true_eq,decide_eq_false_iff_not] at*;omega)
   | (
    have hnx:(c.methods.take (n+1)).any Uh=false:=by
     rw[M3 hn',hno,Bool.false_or];clear hyes hk23;unfold Uh;simp only[Bool.or_eq_false_iff,decide_eq_false_iff_not] at*;omega
    exact Y2 hmax hn' ⟨_,hk23,hnx⟩)
 ·have hn': ¬n<c.methods.length:=by simpa using hc
  rw[O9 hn'] at hno
  have hS2:=hk1.trans hk2
  have hm:Xv c=(decide (32<c.like.length)||decide (32<c.fields.length)||decide (32<c.methods.length)):=by unfold Xv;rw[hno];simp
  rw[hm] at h
  have hK:=h _ _ hS2
  clear h hk2
  (try simp only[↓M1,M1,Mb,reduceIte])
  refine ld hs2 hq2 rfl ?_
  refine Q8 f12 ?_
  have d32: ∀k:Nat,decide ((32:Int)<(k:Int))=decide (32<k):=fun k=>by rw[Bool.eq_iff_iff,decide_eq_true_eq,decide_eq_true_eq];omega
  simp only[d32,↓M1,M1,Mb,reduceIte]
  cases e1:decide (32<c.like.length) with
  | true=>rw[e1] at hK;(try simp only[↓M1,M1,Mb,reduceIte]);simpa using hK
  | false=>
   rw[e1] at hK
   (try simp only[↓M1,M1,Mb,reduceIte])
   refine ld hs2 hq2 rfl ?_
   refine Q8 f22 ?_
   simp only[d32,↓M1,M1,Mb,reduceIte]
   cases e2:decide (32<c.fields.length) with
   | true=>rw[e2] at hK;(try simp only[↓M1,M1,Mb,reduceIte]);simpa using hK
   | false=>
    rw[e2] at hK
    (try simp only[↓M1,M1,Mb,reduceIte])
    refine ld hs2 hq2 rfl ?_
    refine Q8 f32 ?_
    simp only[d32,↓M1,M1,Mb,reduceIte]
    simpa using hK)
theorem Q6k {α:Type} {xs:List α} {p:α→Bool} {n:Nat} (h: ¬n<xs.length):(xs.take n).all p=xs.all p:=by rw[List.take_of_length_le (by omega)]
set_option maxHeartbeats 4000000 in
theorem Tu {m:Hm.Met} {pv cv hv:Value} {w1:World} {σ1:Q4} {q:Addr} {y:Bool} (hs:X4 w σ) (ag:Stp w σ w1 σ1) (hq:Z2 σ1 q [S m.name,pv,S m.result, .bool m.abs,I m.locals,cv,hv]) (g1:Sl 1 Y0 σ1 pv m.params) (g2:Sl 3 I3 σ1 cv m.code) (g3:Sl 4 Yo σ1 hv m.catches)
 (h: ∀w' R,Stp w σ w' R→K (.bool ((y&&m.params.all right)&&if m.abs then decide (m.locals=0)&&decide (m.code=[])&&decide (m.catches=[])
  else decide (m.code≠[])&&decide ((m.params.length:Int)<m.locals)&&m.code.all (fun i=>decide (N0 i=0))&&m.catches.all (C3 m.code.length))) w'):
 lp (α:=Value×Value) (Value.bool y,(.int .i64 0)) w1 fun V B d_ w=>
  fieldAddr P T.c (.pointer (some q)) 1 w fun cs w=>
  Q2 P T.d cs w fun bq w=>
  X6 P .len [T.d] T.e [false] [bq] w fun bn w=>
  Q3 P .lss T.e (.tmp 21) (.tmp 24) B.2 bn w fun bm w=>
  X1 bm (
   Q1 B.1 true w (fieldAddr P T.c (.pointer (some q)) 1) fun cx w=>
   Q1 B.1 true w (Q2 P T.d cx) fun cy w=>
   Q1 B.1 true w (fun w J=>J B.2 w) fun bo w=>
   Q1 B.1 true w (indexAddr P T.d cy bo) fun cp w=>
   Q1 B.1 true w (Q2 P T.b cp) fun c8 w=>
   Q1 B.1 true w (Q0 P F.i [c8]) fun c3 w=>
   pick P B.1 c3 (.bool false) w fun b0 w=>
   Q3 P .add T.e (.tmp 26) (.const (.int .i64 1)) B.2 (.int .i64 1) w fun cz w=>
   V (b0,cz) w) (
   fieldAddr P T.c (.pointer (some q)) 3 w fun ce w=>
   Q2 P T.m ce w fun bs w=>
   X1 bs (
    Q1 B.1 true w (fieldAddr P T.c (.pointer (some q)) 4) fun cb w=>
    Q1 B.1 true w (Q2 P T.e cb) fun cd w=>
    Q1 B.1 true w (Q3 P .eql T.e (.tmp 42) (.const (.int .i64 0)) cd (.int .i64 0)) fun bp w=>
    pick P B.1 bp (.bool false) w fun Q w=>
    Q1 Q true w (fieldAddr P T.c (.pointer (some q)) 5) fun co w=>
    Q1 Q true w (Q2 P T.l co) fun c5 w=>
    Q1 Q true w (X6 P .len [T.l] T.e [false] [c5]) fun bw w=>
    Q1 Q true w (Q3 P .eql T.e (.tmp 48) (.const (.int .i64 0)) bw (.int .i64 0)) fun ca w=>
    pick P Q ca (.bool false) w fun U w=>
    Q1 U true w (fieldAddr P T.c (.pointer (some q)) 6) fun bi w=>
    Q1 U true w (Q2 P T.o bi) fun c6 w=>
    Q1 U true w (X6 P .len [T.o] T.e [false] [c6]) fun cm w=>
    Q1 U true w (Q3 P .eql T.e (.tmp 54) (.const (.int .i64 0)) cm (.int .i64 0)) fun cf w=>
    pick P U cf (.bool false) w fun bl w=>
    K bl w) (
    fieldAddr P T.c (.pointer (some q)) 5 w fun b5 w=>
    Q2 P T.l b5 w fun b3 w=>
    X6 P .len [T.l] T.e [false] [b3] w fun ah w=>
    lp (α:=Value×Value) (B.1,(.int .i64 0)) w fun L j d_ w=>
     fieldAddr P T.c (.pointer (some q)) 6 w fun b8 w=>
     Q2 P T.o b8 w fun b4 w=>
     X6 P .len [T.o] T.e [false] [b4] w fun bj w=>
     Q3 P .lss T.e (.tmp 60) (.tmp 63) j.2 bj w fun dc w=>
     X1 dc (
      fieldAddr P T.c (.pointer (some q)) 6 w fun c4 w=>
      Q2 P T.o c4 w fun cl w=>
      indexAddr P T.o cl j.2 w fun c7 w=>
      Q2 P T.p c7 w fun ct w=>
      W3 P T.p w fun t7 w=>
      Z3 P T.p t7 ct w fun _u w=>
      Q1 j.1 true w (fieldAddr P T.p t7 0) fun cu w=>
      Q1 j.1 true w (Q2 P T.e cu) fun b6 w=>
      Q1 j.1 true w (Q3 P .geq T.e (.tmp 75) (.const (.int .i64 0)) b6 (.int .i64 0)) fun cn w=>
      pick P j.1 cn (.bool false) w fun H w=>
      Q1 H true w (fieldAddr P T.p t7 0) fun ch w=>
      Q1 H true w (Q2 P T.e ch) fun cq w=>
      Q1 H true w (fieldAddr P T.p t7 1) fun bu w=>
      Q1 H true w (Q2 P T.e bu) fun bh w=>
      Q1 H true w (Q3 P .lss T.e (.tmp 80) (.tmp 82) cq bh) fun bz w=>
      pick P H bz (.bool false) w fun N w=>
      Q1 N true w (fieldAddr P T.p t7 1) fun cj w=>
      Q1 N true w (Q2 P T.e cj) fun bk w=>
      Q1 N true w (fun w J=>J ah w) fun bx w=>
      Q1 N true w (Q3 P .leq T.e (.tmp 87) (.tmp 88) bk bx) fun ci w=>
      pick P N ci (.bool false) w fun X w=>
      Q1 X true w (fieldAddr P T.p t7 2) fun bv w=>
      Q1 X true w (Q2 P T.e bv) fun b7 w=>
      Q1 X true w (Q3 P .geq T.e (.tmp 93) (.const (.int .i64 0)) b7 (.int .i64 0)) fun da w=>
      pick P X da (.bool false) w fun O w=>
      Q1 O true w (fieldAddr P T.p t7 2) fun b9 w=>
      Q1 O true w (Q2 P T.e b9) fun cr w=>
      Q1 O true w (fun w J=>J ah w) fun cw w=>
      Q1 O true w (Q3 P .lss T.e (.tmp 98) (.tmp 99) cr cw) fun am w=>
      pick P O am (.bool false) w fun D w=>
      Q1 D true w (fieldAddr P T.p t7 3) fun bd w=>
      Q1 D true w (Q2 P T.b bd) fun ax w=>
      Q1 D true w (Q0 P F.e [ax]) fun a2 w=>
      pick P D a2 (.bool false) w fun bc w=>
      Q3 P .add T.e (.tmp 65) (.const (.int .i64 1)) j.2 (.int .i64 1) w fun cc w=>
      L (bc,cc) w) (
      Q1 j.1 true w (fun w J=>J ah w) fun bb w=>
      Q1 j.1 true w (Q3 P .gtr T.e (.tmp 109) (.const (.int .i64 0)) bb (.int .i64 0)) fun a4 w=>
      pick P j.1 a4 (.bool false) w fun g w=>
      Q1 g true w (fieldAddr P T.c (.pointer (some q)) 4) fun az w=>
      Q1 g true w (Q2 P T.e az) fun a9 w=>
      Q1 g true w (fieldAddr P T.c (.pointer (some q)) 1) fun ay w=>
      Q1 g true w (Q2 P T.d ay) fun a5 w=>
      Q1 g true w (X6 P .len [T.d] T.e [false] [a5]) fun ao w=>
      Q1 g true w (Q3 P .gtr T.e (.tmp 114) (.tmp 117) a9 ao) fun a0 w=>
      pick P g a0 (.bool false) w fun r w=>
      Q1 r true w (fieldAddr P T.c (.pointer (some q)) 5) fun ap w=>
      Q1 r true w (Q2 P T.l ap) fun ar w=>
      Q1 r true w (Q0 P F.aP [ar]) fun aw w=>
      Q1 r true w (Q3 P .eql T.r (.tmp 123) (.const (.int .i64 0)) aw (.int .i64 0)) fun a8 w=>
      pick P r a8 (.bool false) w fun al w=>
      K al w))):=by
 have ck:=ag.sat
 have c0:decide ((m.code.length:Int)=0)=decide (m.code=[]):=by cases m.code<;>simp;omega
 have c1:decide ((m.catches.length:Int)=0)=decide (m.catches=[]):=by cases m.catches<;>simp;omega
 have c2:decide ((0:Int)<m.code.length)=decide (m.code≠[]):=by cases m.code<;>simp
 refine O8 (a:=Value.bool y) m.params.length (fun n x w'=> ∃R,Stp w1 σ1 w' R∧x=Value.bool (y&&(m.params.take n).all right)) ⟨σ1,Stp.refl ck,by simp⟩ fun n x w2 d hn M=>?_
 obtain ⟨σ2,k,rfl⟩:=M
 have l:=hq.up k
 have Z:=g1.up k
 have o:=k.sat
 (try simp only[↓M1,M1,Mb,reduceIte])
 refine ld o l rfl ?_
 refine Q8 Z ?_
 refine Z1 ?_
 refine Q5 (fun hc=>?_) (fun hc=>?_)
 ·have c:n<m.params.length:=by simpa using hc
  have p:(y&&(m.params.take (n+1)).all right)=((y&&(m.params.take n).all right)&&right m.params[n]):=by rw[Zr c,Bool.and_assoc]
  generalize (y&&(m.params.take n).all right)=f at p⊢
  cases f with
  | false=>(try simp only[↓M1,M1,Mb,reduceIte]);exact Z6 g1.max c ⟨σ2,k,by rw[p];rfl⟩
  | true=>
   (try simp only[↓M1,M1,Mb,reduceIte])
   refine ld o l rfl ?_
   (try simp only[↓M1,M1,Mb,reduceIte])
   refine J9 Z c ?_
   obtain ⟨p1,p2⟩:=Z.elS c
   refine X8 o p1 rfl ?_
   refine Vh _ (by simp only[J3] at p2;omega) ?_
   (try simp only[↓M1,M1,Mb,reduceIte])
   exact Z6 g1.max c ⟨σ2,k,by rw[p];rfl⟩
 ·have c: ¬n<m.params.length:=by simpa using hc
  rw[Q6k c]
  have an:=ag.trans k
  have af:=g2.up k
  have Y:=g3.up k
  clear ag k hq g1 g2 g3 hn hc
  generalize (y&&m.params.all right)=f at h⊢
  refine ld o l rfl ?_
  cases ba:m.abs with
  | true=>
   simp only[ba,if_true] at h
   have hK:=h _ _ an
   clear h
   (try simp only[↓M1,M1,Mb,reduceIte])
   cases f with
   | false=>(try simp only[↓M1,M1,Mb,reduceIte]);simpa using hK
   | true=>
    (try simp only[↓M1,M1,Mb,reduceIte])
    refine ld o l rfl ?_
    (try simp only[↓M1,M1,Mb,reduceIte])
    cases a7:decide (m.locals=0) with
    | false=>rw[a7] at hK;(try simp only[↓M1,M1,Mb,reduceIte]);simpa using hK
    | true=>
     rw[a7] at hK
     (try simp only[↓M1,M1,Mb,reduceIte])
     refine ld o l rfl ?_
     refine Q8 af ?_
     simp only[c0,↓M1,M1,Mb,reduceIte]
     cases aj:decide (m.code=[]) with
     | false=>rw[aj] at hK;(try simp only[↓M1,M1,Mb,reduceIte]);simpa using hK
     | true=>
      rw[aj] at hK
      (try simp only[↓M1,M1,Mb,reduceIte])
      refine ld o l rfl ?_
      refine Q8 Y ?_
      simp only[c1,↓M1,M1,Mb,reduceIte]
      simpa using hK
  | false=>
   simp only[ba,Bool.false_eq_true,if_false] at h
   (try simp only[↓M1,M1,Mb,reduceIte])
   refine ld o l rfl ?_
   refine Q8 af ?_
   refine O8 (a:=Value.bool f) m.catches.length (fun n x w'=> ∃R,Stp w2 σ2 w' R∧x=Value.bool (f&&(m.catches.take n).all (C3 m.code.length))) ⟨σ2,Stp.refl o,by simp⟩ fun n x w4 d hn M=>?_
   obtain ⟨σ4,z,rfl⟩:=M
   have E:=l.up z
   have aa:=Y.up z
   have s:=z.sat
   (try simp only[↓M1,M1,Mb,reduceIte])
   refine ld s E rfl ?_
   refine Q8 aa ?_
   refine Z1 ?_
   refine Q5 (fun hc=>?_) (fun hc=>?_)
   ·have c:n<m.catches.length:=by simpa using hc
    have p:(f&&(m.catches.take (n+1)).all (C3 m.code.length))=((f&&(m.catches.take n).all (C3 m.code.length))&&C3 m.code.length m.catches[n]):=by rw[Zr c,Bool.and_assoc]
    generalize (f&&(m.catches.take n).all (C3 m.code.length))=b1 at p⊢
    (try simp only[↓M1,M1,Mb,reduceIte])
    refine ld s E rfl ?_
    refine J9 aa c ?_
    obtain ⟨p1,r1⟩:=aa.elK c
    have a1:m.catches[n].cls.length≤140737488355328:=by have:=r1.2.2.2.2;simp only[J3] at this;omega
    refine Y7 s p1 rfl ?_
    refine Y6 s (by rfl) rfl (Rep.one r1) fun q5 w5 σ5 av t=>?_
    have C:=av.sat
    have ac:=z.trans av
    cases b1 with
    | false=>(try simp only[↓M1,M1,Mb,reduceIte]);exact Z6 Y.max c ⟨σ5,ac,by rw[p];rfl⟩
    | true=>
     have A: ∀b,C3 m.code.length m.catches[n]=b→Rs m.catches.length (fun n x w'=> ∃R,Stp w2 σ2 w' R∧x=Value.bool (f&&(m.catches.take n).all (C3 m.code.length))) (Value.bool b, .int .i64 (IntKind.i64.wrap (n+1))) w5∧Vx m.catches.length (Value.bool b, .int .i64 (IntKind.i64.wrap (n+1)))<Vx m.catches.length (Value.bool true,I n):=fun b e=>Z6 Y.max c ⟨σ5,ac,by rw[p,e];rfl⟩
     unfold C3 at A
     generalize m.catches[n]=x at t A a1
     clear p p1 r1 E l aa h
     (try simp only[↓M1,M1,Mb,reduceIte])
     refine ld C t rfl ?_
     (try simp only[↓M1,M1,Mb,reduceIte])
     cases d1:decide (0≤x.frm) with
     | false=>(try simp only[↓M1,M1,Mb,reduceIte]);exact A _ (by simp[d1])
     | true=>
     (try simp only[↓M1,M1,Mb,reduceIte])
     refine ld C t rfl ?_
     (try simp only[↓M1,M1,Mb,reduceIte])
     refine ld C t rfl ?_
     (try simp only[↓M1,M1,Mb,reduceIte])
     cases d2:decide (x.frm<x.to) with
     | false=>(try simp only[↓M1,M1,Mb,reduceIte]);exact A _ (by simp[d1,d2])
     | true=>
     (try simp only[↓M1,M1,Mb,reduceIte])
     refine ld C t rfl ?_
     (try simp only[↓M1,M1,Mb,reduceIte])
     cases d3:decide (x.to≤(m.code.length:Int)) with
     | false=>(try simp only[↓M1,M1,Mb,reduceIte]);exact A _ (by simp[d1,d2,d3])
     | true=>
     (try simp only[↓M1,M1,Mb,reduceIte])
     refine ld C t rfl ?_
     (try simp only[↓M1,M1,Mb,reduceIte])
     cases d4:decide (0≤x.at_) with
     | false=>(try simp only[↓M1,M1,Mb,reduceIte]);exact A _ (by simp[d1,d2,d3,d4])
     | true=>
     (try simp only[↓M1,M1,Mb,reduceIte])
     refine ld C t rfl ?_
     (try simp only[↓M1,M1,Mb,reduceIte])
     cases d5:decide (x.at_<(m.code.length:Int)) with
     | false=>(try simp only[↓M1,M1,Mb,reduceIte]);exact A _ (by simp[d1,d2,d3,d4,d5])
     | true=>
     (try simp only[↓M1,M1,Mb,reduceIte])
     refine ld C t rfl ?_
     refine Qq x.cls a1 ?_
     (try simp only[↓M1,M1,Mb,reduceIte])
     exact A _ (by simp[d1,d2,d3,d4,d5])
   ·have c: ¬n<m.catches.length:=by simpa using hc
    rw[Q6k c]
    have W:=an.trans z
    have c9:=af.up z
    have cg:=Z.up z
    have hh: ∀w' R,Stp w σ w' R→K (.bool ((f&&m.catches.all (C3 m.code.length))&&(decide (m.code≠[])&&decide ((m.params.length:Int)<m.locals)&&m.code.all (fun i=>decide (N0 i=0))))) w':=by
     intro w' R hk
     have:=h w' R hk
     refine Eq.subst (motive:=fun b=>K (.bool b) w') ?_ this
     cases f<;>cases m.catches.all (C3 m.code.length)<;>simp
    clear h z
    generalize (f&&m.catches.all (C3 m.code.length))=dd at hh⊢
    cases dd with
    | false=>(try simp only[↓M1,M1,Mb,reduceIte]);simpa using hh _ _ W
    | true=>
     (try simp only[↓M1,M1,Mb,reduceIte])
     simp only[c2,↓M1,M1,Mb,reduceIte]
     cases a3:decide (m.code≠[]) with
     | false=>rw[a3] at hh;(try simp only[↓M1,M1,Mb,reduceIte]);simpa using hh _ _ W
     | true=>
      rw[a3] at hh
      (try simp only[↓M1,M1,Mb,reduceIte])
      refine ld s E rfl ?_
      (try simp only[↓M1,M1,Mb,reduceIte])
      refine ld s E rfl ?_
      refine Q8 cg ?_
      (try simp only[↓M1,M1,Mb,reduceIte])
      cases a6:decide ((m.params.length:Int)<m.locals) with
      | false=>rw[a6] at hh;(try simp only[↓M1,M1,Mb,reduceIte]);simpa using hh _ _ W
      | true=>
       rw[a6] at hh
       (try simp only[↓M1,M1,Mb,reduceIte])
       refine ld s E rfl ?_
       refine X0j s c9 fun e w6 σ6 br he=>?_
       simp only[he,↓M1,M1,Mb,reduceIte]
       simpa using hh _ _ (W.trans br)
set_option maxHeartbeats 2000000 in
theorem Q6B {m:Hm.Met} {cs:List Value} (n:X4 w σ) (C:M5 σ m cs) (h: ∀w' y,Stp w σ w' y→K (.bool (C9 m)) w'):Q0 P F.x [.agg cs.toArray] w K:=Cr (by
 unfold Ur
 obtain ⟨pv,H,L,rfl,D,z,B,E,A,J⟩:=C
 have s:m.name.length≤140737488355328:=by simp only[J3] at E;omega
 have o:m.result.length≤140737488355328:=by simp only[J3] at A;omega
 refine Y9 n fun q w1 σ1 a g=>?_
 have t:=D.up a
 have r:=z.up a
 have p:=B.up a
 have e:=a.sat
 obtain ⟨d,c⟩: ∃b,b=(L5 m.name&&(decide (m.result=[])||right m.result)):=⟨_,rfl⟩
 have l:C9 m=((d&&m.params.all right)&&if m.abs then decide (m.locals=0)&&decide (m.code=[])&&decide (m.catches=[])
  else decide (m.code≠[])&&decide ((m.params.length:Int)<m.locals)&&m.code.all (fun i=>decide (N0 i=0))&&m.catches.all (C3 m.code.length)):=by
  rw[c];unfold C9
  cases L5 m.name<;>cases m.params.all right<;>cases decide (m.result=[])<;>cases right m.result<;>rfl
 rw[l] at h
 clear l
 (repeat refine Hd.h ?_)
 refine ld e g rfl ?_
 refine Bm m.name s ?_
 cases f:L5 m.name with
 | false=>
  have j:d=false:=by rw[c,f];rfl
  (repeat refine Hd.h ?_)
  refine Eq.subst (motive:=fun b=>lp (α:=Value×Value) (Value.bool b, .int .i64 0) w1 _) j ?_
  exact Tu n a g t r p h
 | true=>
  (repeat refine Hd.h ?_)
  refine ld e g rfl ?_
  (repeat refine Hd.h ?_)
  refine Ng ?_
  cases k:decide (m.result=[]) with
  | true=>
   have j:d=true:=by rw[c,f,k];rfl
   (repeat refine Hd.h ?_)
   refine Eq.subst (motive:=fun b=>lp (α:=Value×Value) (Value.bool b, .int .i64 0) w1 _) j ?_
   exact Tu n a g t r p h
  | false=>
   (repeat refine Hd.h ?_)
   refine ld e g rfl ?_
   (repeat refine Hd.h ?_)
   refine Vh m.result o ?_
   have j:d=right m.result:=by rw[c,f,k];rfl
   (repeat refine Hd.h ?_)
   refine Eq.subst (motive:=fun b=>lp (α:=Value×Value) (Value.bool b, .int .i64 0) w1 _) j ?_
   exact Tu n a g t r p h)
end Go.Proofs.YtfppjenblllfaaaGreatDoor

namespace Go.Hm
open Go.Kd
def Vo (c:Cla) (i:Nat):Bool:=W6 (c.like.getD i [])&& !decide (c.like.getD i []=c.name)
def I1 (c:Cla) (i k:Nat):Bool:= !decide (c.like.getD k []=c.like.getD i [])
def Rq (c:Cla) (i:Nat):Fld:=c.fields.getD i Fld.zero
def Oy (c:Cla) (i:Nat):Hm.Met:=c.methods.getD i Hm.Met.zero
def Mx (c:Cla) (i:Nat):Bool:=L5 (Rq c i).name&&right (Rq c i).kind&& !c.iface
def Qb (c:Cla) (i k:Nat):Bool:= !decide ((Rq c k).name=(Rq c i).name)
def Q6I (c:Cla):Bool:=(!c.iface||(c.abs&&decide (c.super=Z7)))&& !(c.abs&&c.fin)
def Qc (c:Cla) (i k:Nat):Bool:= !decide ((Oy c k).name=(Oy c i).name)
theorem Vf {p:Nat→Bool} {n:Nat}:(List.range (n+1)).all p=((List.range n).all p&&p n):=by rw[List.range_succ,List.all_append];simp
theorem E3 {α:Type} {xs:List α} {i:Nat} {d:α} (h:i<xs.length):xs.getD i d=xs[i]:=by rw[List.getD_eq_getElem?_getD,List.getElem?_eq_getElem h];rfl
end Go.Hm
namespace Go.Proofs.YtfppjenblllfaaaGreatDoor
open Go.Emb Go.RowKit Go.Kd Go.Hm
variable {w : World} {K : Value → World → Prop} {σ : Q4}
def Lf (c:Cla) (i:Nat):Bool:=C9 (Oy c i)&&(!(Oy c i).abs||c.abs)&&(!c.iface||(Oy c i).abs)
set_option maxHeartbeats 2000000 in
theorem Q1X {c:Cla} {lv fv mv:Value} {w1:World} {σ1:Q4} {q:Addr} {ok:Bool} (aa:X4 w1 σ1) (hq:Z2 σ1 q [S c.name,S c.super,lv, .bool c.iface, .bool c.abs, .bool c.fin,fv,mv]) {i:Nat} {N m0:Nat} {W:Nat→Value→World→Prop} (g1:Sl 1 Y0 σ1 lv c.like) (hi:i<c.like.length)
 (h: ∀w' σ',Stp w1 σ1 w' σ'→Rs N W (Value.bool (ok&&(List.range i).all (I1 c i)), .int .i64 (IntKind.i64.wrap (i+1))) w'∧Vx N (Value.bool (ok&&(List.range i).all (I1 c i)), .int .i64 (IntKind.i64.wrap (i+1)))<m0):
 lp (
  α:=Value×Value) (Value.bool ok,(.int .i64 0)) w1 fun g b d_ w=>
  Q3 P .lss T.e (.tmp 52) (.tmp 53) b.2 (I i) w fun ab w=>
  X1 ab (
   dr w fun e j=>
   Q7 e (fun t=> ∀w:World,j w→Q1 b.1 true w (fieldAddr P T.a (.pointer (some q)) 2) (dk e t w)) fun t=>
   Q7 e (fun B=> ∀w:World,j w→Q1 b.1 true w (fun w J=>J b.2 w) (dk e B w)) fun B=>
   Q7 e (fun D=> ∀w:World,j w→Q1 b.1 true w (fieldAddr P T.a (.pointer (some q)) 2) (dk e D w)) fun D=>
   Q7 e (fun s=> ∀w:World,j w→Q1 b.1 true w (fun w J=>J (I i) w) (dk e s w)) fun s=>
   Q7 e (fun u=> ∀y:Value,∀w:World,j w→t y w→Q1 b.1 true w (Q2 P T.d y) (dk e u w)) fun u=>
   Q7 e (fun r=> ∀m:Value,∀C:Value,∀w:World,j w→u m w→B C w→Q1 b.1 true w (indexAddr P T.d m C) (dk e r w)) fun r=>
   Q7 e (fun H=> ∀A:Value,∀w:World,j w→r A w→Q1 b.1 true w (Q2 P T.b A) (dk e H w)) fun H=>
   Q7 e (fun p=> ∀z:Value,∀w:World,j w→D z w→Q1 b.1 true w (Q2 P T.d z) (dk e p w)) fun p=>
   Q7 e (fun l=> ∀o:Value,∀n:Value,∀w:World,j w→p o w→s n w→Q1 b.1 true w (indexAddr P T.d o n) (dk e l w)) fun l=>
   Q7 e (fun L=> ∀v:Value,∀w:World,j w→l v w→Q1 b.1 true w (Q2 P T.b v) (dk e L w)) fun L=>
   ∀y:Value,∀C:Value,∀z:Value,∀n:Value,∀m:Value,∀A:Value,∀Q:Value,∀o:Value,∀v:Value,∀U:Value,∀w:World,j w→t y w→B C w→D z w→s n w→u m w→r A w→H Q w→p o w→l v w→L U w→
   Q1 b.1 true w (Q3 P .neq T.b (.tmp 63) (.tmp 68) Q U) fun ah w=>
   pick P b.1 ah (.bool false) w fun af w=>
   Q3 P .add T.e (.tmp 55) (.const (.int .i64 1)) b.2 (.int .i64 1) w fun Z w=>
   g (af,Z) w) (
   Q3 P .add T.e (.tmp 31) (.const (.int .i64 1)) (I i) (.int .i64 1) w fun R w=>
   (Rs N W (b.1,R) w∧Vx N (b.1,R)<m0)):=by
 have al:=g1.max
 refine O8 (a:=Value.bool ok) i (fun k x w'=> ∃σ',Stp w1 σ1 w' σ'∧x=Value.bool (ok&&(List.range k).all (I1 c i))) ⟨σ1,Stp.refl aa,by simp⟩ fun k x w2 d hk M=>?_
 obtain ⟨σ2,f,rfl⟩:=M
 have ar:=hq.up f
 have V:=g1.up f
 have ad:=f.sat
 refine Z1 ?_
 refine Q5 (fun X=>?_) (fun X=>?_)
 ·have ai:k<i:=by simpa using X
  have O:k<c.like.length:=by omega
  have E:(ok&&(List.range (k+1)).all (I1 c i))=((ok&&(List.range k).all (I1 c i))&&I1 c i k):=by rw[Vf,Bool.and_assoc]
  have hQ:I1 c i k= !decide (c.like[k]=c.like[i]):=by unfold I1;rw[E3 O,E3 hi]
  rw[hQ] at E
  obtain ⟨p1,_⟩:=V.elS O
  obtain ⟨p2,_⟩:=V.elS hi
  generalize (ok&&(List.range k).all (I1 c i))=ag at E⊢
  clear h hQ X
  cases ag
  all_goals
   refine V2 ad ?_
   (repeat refine U4 Qn ?_)
   (intros;(repeat (rename_i hx;subst hx));(try simp only[↓M2,M2,Mb,reduceIte]))
   rename_i w3 Y
   exact Z6 (by omega) ai ⟨σ2,f.trans Y.stp,by rw[E];rfl⟩
 ·have ac:k=i:=by
   have: ¬k<i:=by simpa using X
   omega
  subst ac
  (try simp only[↓M1,M1,Mb,reduceIte])
  exact h _ _ f
set_option maxHeartbeats 4000000 in
theorem Q9r {c:Cla} {lv fv mv:Value} {w1:World} {σ1:Q4} {q:Addr} {ok:Bool} (hs1:X4 w1 σ1) (hq:Z2 σ1 q [S c.name,S c.super,lv, .bool c.iface, .bool c.abs, .bool c.fin,fv,mv]) {J:Value→World→Prop} (hn:c.name.length≤J3) (g1:Sl 1 Y0 σ1 lv c.like)
 (h: ∀w' σ',Stp w1 σ1 w' σ'→J (.bool (ok&&(List.range c.like.length).all fun i=>Vo c i&&(List.range i).all (I1 c i))) w'):
 lp (α:=Value×Value) (Value.bool ok,(.int .i64 0)) w1 fun again4 x4 d_ w=>
 fieldAddr P T.a (.pointer (some q)) 2 w fun t27 w=>
 Q2 P T.d t27 w fun t28 w=>
 X6 P .len [T.d] T.e [false] [t28] w fun t29 w=>
 Q3 P .lss T.e (.tmp 26) (.tmp 29) x4.2 t29 w fun t30 w=>
 X1 t30 (
  dr w fun Tr Br=>
  Q7 Tr (fun φ35=> ∀w:World,Br w→Q1 x4.1 true w (fieldAddr P T.a (.pointer (some q)) 2) (dk Tr φ35 w)) fun φ35=>
  Q7 Tr (fun φ37=> ∀w:World,Br w→Q1 x4.1 true w (fun w J=>J x4.2 w) (dk Tr φ37 w)) fun φ37=>
  Q7 Tr (fun φ36=> ∀t35:Value,∀w:World,Br w→φ35 t35 w→Q1 x4.1 true w (Q2 P T.d t35) (dk Tr φ36 w)) fun φ36=>
  Q7 Tr (fun φ38=> ∀t36:Value,∀t37:Value,∀w:World,Br w→φ36 t36 w→φ37 t37 w→Q1 x4.1 true w (indexAddr P T.d t36 t37) (dk Tr φ38 w)) fun φ38=>
  Q7 Tr (fun φ39=> ∀t38:Value,∀w:World,Br w→φ38 t38 w→Q1 x4.1 true w (Q2 P T.b t38) (dk Tr φ39 w)) fun φ39=>
  Q7 Tr (fun φ40=> ∀t39:Value,∀w:World,Br w→φ39 t39 w→Q1 x4.1 true w (Q0 P F.e [t39]) (dk Tr φ40 w)) fun φ40=>
  Q7 Tr (fun φ41=> ∀t40:Value,∀w:World,Br w→φ40 t40 w→pick P x4.1 t40 (.bool false) w (dk Tr φ41 w)) fun φ41=>
  Q7 Tr (fun φ43=> ∀t41:Value,∀w:World,Br w→φ41 t41 w→Q1 t41 true w (fieldAddr P T.a (.pointer (some q)) 2) (dk Tr φ43 w)) fun φ43=>
  Q7 Tr (fun φ45=> ∀t41:Value,∀w:World,Br w→φ41 t41 w→Q1 t41 true w (fun w J=>J x4.2 w) (dk Tr φ45 w)) fun φ45=>
  Q7 Tr (fun φ48=> ∀t41:Value,∀w:World,Br w→φ41 t41 w→Q1 t41 true w (fieldAddr P T.a (.pointer (some q)) 0) (dk Tr φ48 w)) fun φ48=>
  Q7 Tr (fun φ44=> ∀t41:Value,∀t43:Value,∀w:World,Br w→φ41 t41 w→φ43 t43 w→Q1 t41 true w (Q2 P T.d t43) (dk Tr φ44 w)) fun φ44=>
  Q7 Tr (fun φ46=> ∀t41:Value,∀t44:Value,∀t45:Value,∀w:World,Br w→φ41 t41 w→φ44 t44 w→φ45 t45 w→Q1 t41 true w (indexAddr P T.d t44 t45) (dk Tr φ46 w)) fun φ46=>
  Q7 Tr (fun φ47=> ∀t41:Value,∀t46:Value,∀w:World,Br w→φ41 t41 w→φ46 t46 w→Q1 t41 true w (Q2 P T.b t46) (dk Tr φ47 w)) fun φ47=>
  Q7 Tr (fun φ49=> ∀t41:Value,∀t48:Value,∀w:World,Br w→φ41 t41 w→φ48 t48 w→Q1 t41 true w (Q2 P T.b t48) (dk Tr φ49 w)) fun φ49=>
  ∀t35:Value,∀t37:Value,∀t36:Value,∀t38:Value,∀t39:Value,∀t40:Value,∀t41:Value,∀t43:Value,∀t45:Value,∀t48:Value,∀t44:Value,∀t46:Value,∀t47:Value,∀t49:Value,∀w:World,Br w→φ35 t35 w→φ37 t37 w→φ36 t36 w→φ38 t38 w→φ39 t39 w→φ40 t40 w→φ41 t41 w→φ43 t43 w→φ45 t45 w→φ48 t48 w→φ44 t44 w→φ46 t46 w→φ47 t47 w→φ49 t49 w→
  Q1 t41 true w (Q3 P .neq T.b (.tmp 47) (.tmp 49) t47 t49) fun t50 w=>
  pick P t41 t50 (.bool false) w fun t51 w=>
  lp (α:=Value×Value) (t51,(.int .i64 0)) w fun again10 x10 d_ w=>
   Q3 P .lss T.e (.tmp 52) (.tmp 53) x10.2 x4.2 w fun t54 w=>
   X1 t54 (
    dr w fun Tr Br=>
    Q7 Tr (fun φ59=> ∀w:World,Br w→Q1 x10.1 true w (fieldAddr P T.a (.pointer (some q)) 2) (dk Tr φ59 w)) fun φ59=>
    Q7 Tr (fun φ61=> ∀w:World,Br w→Q1 x10.1 true w (fun w J=>J x10.2 w) (dk Tr φ61 w)) fun φ61=>
    Q7 Tr (fun φ64=> ∀w:World,Br w→Q1 x10.1 true w (fieldAddr P T.a (.pointer (some q)) 2) (dk Tr φ64 w)) fun φ64=>
    Q7 Tr (fun φ66=> ∀w:World,Br w→Q1 x10.1 true w (fun w J=>J x4.2 w) (dk Tr φ66 w)) fun φ66=>
    Q7 Tr (fun φ60=> ∀t59:Value,∀w:World,Br w→φ59 t59 w→Q1 x10.1 true w (Q2 P T.d t59) (dk Tr φ60 w)) fun φ60=>
    Q7 Tr (fun φ62=> ∀t60:Value,∀t61:Value,∀w:World,Br w→φ60 t60 w→φ61 t61 w→Q1 x10.1 true w (indexAddr P T.d t60 t61) (dk Tr φ62 w)) fun φ62=>
    Q7 Tr (fun φ63=> ∀t62:Value,∀w:World,Br w→φ62 t62 w→Q1 x10.1 true w (Q2 P T.b t62) (dk Tr φ63 w)) fun φ63=>
    Q7 Tr (fun φ65=> ∀t64:Value,∀w:World,Br w→φ64 t64 w→Q1 x10.1 true w (Q2 P T.d t64) (dk Tr φ65 w)) fun φ65=>
    Q7 Tr (fun φ67=> ∀t65:Value,∀t66:Value,∀w:World,Br w→φ65 t65 w→φ66 t66 w→Q1 x10.1 true w (indexAddr P T.d t65 t66) (dk Tr φ67 w)) fun φ67=>
    Q7 Tr (fun φ68=> ∀t67:Value,∀w:World,Br w→φ67 t67 w→Q1 x10.1 true w (Q2 P T.b t67) (dk Tr φ68 w)) fun φ68=>
    ∀t59:Value,∀t61:Value,∀t64:Value,∀t66:Value,∀t60:Value,∀t62:Value,∀t63:Value,∀t65:Value,∀t67:Value,∀t68:Value,∀w:World,Br w→φ59 t59 w→φ61 t61 w→φ64 t64 w→φ66 t66 w→φ60 t60 w→φ62 t62 w→φ63 t63 w→φ65 t65 w→φ67 t67 w→φ68 t68 w→
    Q1 x10.1 true w (Q3 P .neq T.b (.tmp 63) (.tmp 68) t63 t68) fun t69 w=>
    pick P x10.1 t69 (.bool false) w fun t70 w=>
    Q3 P .add T.e (.tmp 55) (.const (.int .i64 1)) x10.2 (.int .i64 1) w fun t56 w=>
    again10 (t70,t56) w) (
    Q3 P .add T.e (.tmp 31) (.const (.int .i64 1)) x4.2 (.int .i64 1) w fun t32 w=>
    again4 (x10.1,t32) w)) (
  J x4.1 w):=by
 have hmax:=g1.max
 refine O8 (a:=Value.bool ok) c.like.length (fun n x w'=> ∃σ',Stp w1 σ1 w' σ'∧x=Value.bool (ok&&(List.range n).all fun i=>Vo c i&&(List.range i).all (I1 c i))) ⟨σ1,Stp.refl hs1,by simp⟩ fun n x w2 d hn2 hinv=>?_
 obtain ⟨σ2,hk2,rfl⟩:=hinv
 have hq2:=hq.up hk2
 have g12:=g1.up hk2
 have hs2:=hk2.sat
 (repeat refine Hd.h ?_)
 refine ld hs2 hq2 rfl ?_
 refine Q8 g12 ?_
 refine Z1 ?_
 refine Q5 (fun hc=>?_) (fun hc=>?_)
 ·have hn':n<c.like.length:=by simpa using hc
  have hnx:(ok&&(List.range (n+1)).all fun i=>Vo c i&&(List.range i).all (I1 c i))=((ok&&(List.range n).all fun i=>Vo c i&&(List.range i).all (I1 c i))&&(Vo c n&&(List.range n).all (I1 c n))):=by rw[Vf,Bool.and_assoc]
  have hP:Vo c n=(W6 c.like[n]&& !decide (c.like[n]=c.name)):=by unfold Vo;rw[E3 hn']
  obtain ⟨p1,p2⟩:=g12.elS hn'
  have p2:c.like[n].length≤140737488355328:=by simp only[J3] at p2;omega
  generalize (ok&&(List.range n).all fun i=>Vo c i&&(List.range i).all (I1 c i))=acc at hnx⊢
  clear h hc
  cases hacc:acc with
  | false=>
   refine V2 hs2 ?_
   (repeat refine U4 Qn ?_)
   intros;(repeat (rename_i hx;subst hx))
   rename_i w3 hb3
   (repeat refine Hd.h ?_)
   refine Q1X hb3.sat hq2 g12 hn' fun w4 σ4 hk4=>?_
   exact Z6 hmax hn' ⟨σ4,hk2.trans (hb3.stp.trans hk4),by rw[hnx,hacc];rfl⟩
  | true=>
   cases hcl:W6 c.like[n] with
   | false=>
    refine V2 hs2 ?_
    have hrc: ∀{w':World} {K:Value→World→Prop},K (.bool false) w'→Q0 P F.e [S c.like[n]] w' K:=fun hK=>Qq _ p2 (by rw[hcl];exact hK)
    (repeat (apply U4;(· intros;(repeat (rename_i hx;subst hx));(repeat' (first | (with_reducible exact N4 rfl) | (with_reducible exact Zl (Stp.bel (by (repeat (first | exact Stp.refl (by (first | assumption | exact Stp.sat (by assumption) | exact Hst.sat (by assumption))) | assumption | refine Stp.trans ?_ (by first | assumption | exact Hst.stp (by assumption)))))) rfl) | (with_reducible intro _) | (simp only[↓M2,M2,Mb,reduceIte]) | (with_reducible refine hrc ?_) | (with_reducible show Q2 _ _ _ _ _;first | refine X8 aS aL aR ?_ | refine Y7 aS aL aR ?_ | refine ld aS aL aR ?_) | (with_reducible show indexAddr _ _ _ _ _ _;refine J9 aL au ?_) | (with_reducible show X6 _ _ _ _ _ _ _ _;refine Q8 aL ?_) | (with_reducible show Vv _ _ _ _ _ _;refine V0 aR ?_) | (with_reducible show pick _ _ _ _ _ _;refine Jn ?_) | (apply Wv;intro hh;(try simp only[hh,reduceIte,↓M2,M2,Mb,reduceIte]))));done)))
    intros;(repeat (rename_i hx;subst hx))
    rename_i w3 hb3
    (repeat refine Hd.h ?_)
    refine Q1X hb3.sat hq2 g12 hn' fun w4 σ4 hk4=>?_
    exact Z6 hmax hn' ⟨σ4,hk2.trans (hb3.stp.trans hk4),by rw[hnx,hacc,hP,hcl];rfl⟩
   | true=>
    refine V2 hs2 ?_
    have hrc: ∀{w':World} {K:Value→World→Prop},K (.bool true) w'→Q0 P F.e [S c.like[n]] w' K:=fun hK=>Qq _ p2 (by rw[hcl];exact hK)
    (repeat (apply U4;(· intros;(repeat (rename_i hx;subst hx));(repeat' (first | (with_reducible exact N4 rfl) | (with_reducible exact Zl (Stp.bel (by (repeat (first | exact Stp.refl (by (first | assumption | exact Stp.sat (by assumption) | exact Hst.sat (by assumption))) | assumption | refine Stp.trans ?_ (by first | assumption | exact Hst.stp (by assumption)))))) rfl) | (with_reducible intro _) | (simp only[↓M2,M2,Mb,reduceIte]) | (with_reducible refine hrc ?_) | (with_reducible show Q2 _ _ _ _ _;first | refine X8 aS aL aR ?_ | refine Y7 aS aL aR ?_ | refine ld aS aL aR ?_) | (with_reducible show indexAddr _ _ _ _ _ _;refine J9 aL au ?_) | (with_reducible show X6 _ _ _ _ _ _ _ _;refine Q8 aL ?_) | (with_reducible show Vv _ _ _ _ _ _;refine V0 aR ?_) | (with_reducible show pick _ _ _ _ _ _;refine Jn ?_) | (apply Wv;intro hh;(try simp only[hh,reduceIte,↓M2,M2,Mb,reduceIte]))));done)))
    intros;(repeat (rename_i hx;subst hx))
    rename_i w3 hb3
    (repeat refine Hd.h ?_)
    refine Ui ?_
    (repeat refine Hd.h ?_)
    refine Q1X hb3.sat hq2 g12 hn' fun w4 σ4 hk4=>?_
    exact Z6 hmax hn' ⟨σ4,hk2.trans (hb3.stp.trans hk4),by rw[hnx,hacc,hP,hcl];simp⟩
 ·have hn': ¬n<c.like.length:=by simpa using hc
  obtain rfl:n=c.like.length:=by omega
  exact h _ _ hk2
set_option maxHeartbeats 2000000 in
theorem Q1h {c:Cla} {lv fv mv:Value} {w1:World} {σ1:Q4} {q:Addr} {ok:Bool} (ah:X4 w1 σ1) (hq:Z2 σ1 q [S c.name,S c.super,lv, .bool c.iface, .bool c.abs, .bool c.fin,fv,mv]) {i:Nat} {N m0:Nat} {ae:Nat→Value→World→Prop} (g2:Sl 3 E0 σ1 fv c.fields) (hi:i<c.fields.length)
 (h: ∀w' σ',Stp w1 σ1 w' σ'→Rs N ae (Value.bool (ok&&(List.range i).all (Qb c i)), .int .i64 (IntKind.i64.wrap (i+1))) w'∧Vx N (Value.bool (ok&&(List.range i).all (Qb c i)), .int .i64 (IntKind.i64.wrap (i+1)))<m0):
 lp (α:=Value×Value) (Value.bool ok,(.int .i64 0)) w1 fun O b d_ w=>
  Q3 P .lss T.e (.tmp 102) (.tmp 103) b.2 (I i) w fun ab w=>
  X1 ab (
   dr w fun e H=>
   Q7 e (fun z=> ∀w:World,H w→Q1 b.1 true w (fieldAddr P T.a (.pointer (some q)) 6) (dk e z w)) fun z=>
   Q7 e (fun B=> ∀w:World,H w→Q1 b.1 true w (fun w J=>J b.2 w) (dk e B w)) fun B=>
   Q7 e (fun v=> ∀w:World,H w→Q1 b.1 true w (fieldAddr P T.a (.pointer (some q)) 6) (dk e v w)) fun v=>
   Q7 e (fun g=> ∀w:World,H w→Q1 b.1 true w (fun w J=>J (I i) w) (dk e g w)) fun g=>
   Q7 e (fun j=> ∀D:Value,∀w:World,H w→z D w→Q1 b.1 true w (Q2 P T.i D) (dk e j w)) fun j=>
   Q7 e (fun u=> ∀n:Value,∀o:Value,∀w:World,H w→j n w→B o w→Q1 b.1 true w (indexAddr P T.i n o) (dk e u w)) fun u=>
   Q7 e (fun A=> ∀t:Value,∀w:World,H w→u t w→Q1 b.1 true w (fieldAddr P T.k t 0) (dk e A w)) fun A=>
   Q7 e (fun M=> ∀E:Value,∀w:World,H w→A E w→Q1 b.1 true w (Q2 P T.b E) (dk e M w)) fun M=>
   Q7 e (fun l=> ∀C:Value,∀w:World,H w→v C w→Q1 b.1 true w (Q2 P T.i C) (dk e l w)) fun l=>
   Q7 e (fun m=> ∀p:Value,∀s:Value,∀w:World,H w→l p w→g s w→Q1 b.1 true w (indexAddr P T.i p s) (dk e m w)) fun m=>
   Q7 e (fun y=> ∀f:Value,∀w:World,H w→m f w→Q1 b.1 true w (fieldAddr P T.k f 0) (dk e y w)) fun y=>
   Q7 e (fun Q=> ∀r:Value,∀w:World,H w→y r w→Q1 b.1 true w (Q2 P T.b r) (dk e Q w)) fun Q=>
   ∀D:Value,∀o:Value,∀C:Value,∀s:Value,∀n:Value,∀t:Value,∀E:Value,∀U:Value,∀p:Value,∀f:Value,∀r:Value,∀R:Value,∀w:World,H w→z D w→B o w→v C w→g s w→j n w→u t w→A E w→M U w→l p w→m f w→y r w→Q R w→
   Q1 b.1 true w (Q3 P .neq T.b (.tmp 114) (.tmp 120) U R) fun Z w=>
   pick P b.1 Z (.bool false) w fun aa w=>
   Q3 P .add T.e (.tmp 105) (.const (.int .i64 1)) b.2 (.int .i64 1) w fun ad w=>
   O (aa,ad) w) (
   Q3 P .add T.e (.tmp 76) (.const (.int .i64 1)) (I i) (.int .i64 1) w fun ac w=>
   (Rs N ae (b.1,ac) w∧Vx N (b.1,ac)<m0)):=by
 have ar:=g2.max
 refine O8 (a:=Value.bool ok) i (fun k x w'=> ∃σ',Stp w1 σ1 w' σ'∧x=Value.bool (ok&&(List.range k).all (Qb c i))) ⟨σ1,Stp.refl ah,by simp⟩ fun k x w2 d hk W=>?_
 obtain ⟨σ2,L,rfl⟩:=W
 have ax:=hq.up L
 have Y:=g2.up L
 have aj:=L.sat
 refine Z1 ?_
 refine Q5 (fun hc=>?_) (fun hc=>?_)
 ·have am:k<i:=by simpa using hc
  have X:k<c.fields.length:=by omega
  have V:(ok&&(List.range (k+1)).all (Qb c i))=((ok&&(List.range k).all (Qb c i))&&Qb c i k):=by rw[Vf,Bool.and_assoc]
  have hQ:Qb c i k= !decide (c.fields[k].name=c.fields[i].name):=by unfold Qb Rq;rw[E3 X,E3 hi]
  rw[hQ] at V
  obtain ⟨p1,_⟩:=Y.elF X
  obtain ⟨p2,_⟩:=Y.elF hi
  generalize (ok&&(List.range k).all (Qb c i))=al at V⊢
  clear h hQ hc
  cases al
  all_goals
   refine V2 aj ?_
   (repeat refine U4 Qn ?_)
   (intros;(repeat (rename_i hx;subst hx));(try simp only[↓M2,M2,Mb,reduceIte]))
   rename_i w3 ag
   exact Z6 (by omega) am ⟨σ2,L.trans ag.stp,by rw[V];rfl⟩
 ·have ai:k=i:=by
   have: ¬k<i:=by simpa using hc
   omega
  subst ai
  (try simp only[↓M1,M1,Mb,reduceIte])
  exact h _ _ L
set_option maxHeartbeats 4000000 in
theorem X0V {c:Cla} {lv fv mv:Value} {w1:World} {σ1:Q4} {q:Addr} {ok:Bool} (a1:X4 w1 σ1) (hq:Z2 σ1 q [S c.name,S c.super,lv, .bool c.iface, .bool c.abs, .bool c.fin,fv,mv]) {J:Value→World→Prop} (g2:Sl 3 E0 σ1 fv c.fields)
 (h: ∀w' σ',Stp w1 σ1 w' σ'→J (.bool (ok&&(List.range c.fields.length).all fun i=>Mx c i&&(List.range i).all (Qb c i))) w'):
 lp (
  α:=Value×Value) (Value.bool ok,(.int .i64 0)) w1 fun aa g d_ w=>
  fieldAddr P T.a (.pointer (some q)) 6 w fun ax w=>
  Q2 P T.i ax w fun a4 w=>
  X6 P .len [T.i] T.e [false] [a4] w fun a8 w=>
  Q3 P .lss T.e (.tmp 71) (.tmp 74) g.2 a8 w fun bh w=>
  X1 bh (
   Q1 g.1 true w (fieldAddr P T.a (.pointer (some q)) 6) fun a3 w=>
   Q1 g.1 true w (Q2 P T.i a3) fun a5 w=>
   Q1 g.1 true w (fun w J=>J g.2 w) fun ar w=>
   Q1 g.1 true w (indexAddr P T.i a5 ar) fun bd w=>
   Q1 g.1 true w (fieldAddr P T.k bd 0) fun ba w=>
   Q1 g.1 true w (Q2 P T.b ba) fun be w=>
   Q1 g.1 true w (Q0 P F.s [be]) fun a2 w=>
   pick P g.1 a2 (.bool false) w fun m w=>
   Q1 m true w (fieldAddr P T.a (.pointer (some q)) 6) fun a0 w=>
   Q1 m true w (Q2 P T.i a0) fun az w=>
   Q1 m true w (fun w J=>J g.2 w) fun av w=>
   Q1 m true w (indexAddr P T.i az av) fun a7 w=>
   Q1 m true w (fieldAddr P T.k a7 1) fun bj w=>
   Q1 m true w (Q2 P T.b bj) fun bg w=>
   Q1 m true w (Q0 P F.i [bg]) fun bb w=>
   pick P m bb (.bool false) w fun ae w=>
   Q1 ae true w (fieldAddr P T.a (.pointer (some q)) 3) fun a6 w=>
   Q1 ae true w (Q2 P T.m a6) fun a9 w=>
   Q1 ae true w (J0 P .not a9) fun ak w=>
   pick P ae ak (.bool false) w fun ap w=>
   lp (α:=Value×Value) (ap,(.int .i64 0)) w fun ac f d_ w=>
    Q3 P .lss T.e (.tmp 102) (.tmp 103) f.2 g.2 w fun an w=>
    X1 an (
     dr w fun k Y=>
     Q7 k (fun O=> ∀w:World,Y w→Q1 f.1 true w (fieldAddr P T.a (.pointer (some q)) 6) (dk k O w)) fun O=>
     Q7 k (fun R=> ∀w:World,Y w→Q1 f.1 true w (fun w J=>J f.2 w) (dk k R w)) fun R=>
     Q7 k (fun M=> ∀w:World,Y w→Q1 f.1 true w (fieldAddr P T.a (.pointer (some q)) 6) (dk k M w)) fun M=>
     Q7 k (fun u=> ∀w:World,Y w→Q1 f.1 true w (fun w J=>J g.2 w) (dk k u w)) fun u=>
     Q7 k (fun v=> ∀V:Value,∀w:World,Y w→O V w→Q1 f.1 true w (Q2 P T.i V) (dk k v w)) fun v=>
     Q7 k (fun L=> ∀A:Value,∀B:Value,∀w:World,Y w→v A w→R B w→Q1 f.1 true w (indexAddr P T.i A B) (dk k L w)) fun L=>
     Q7 k (fun Q=> ∀H:Value,∀w:World,Y w→L H w→Q1 f.1 true w (fieldAddr P T.k H 0) (dk k Q w)) fun Q=>
     Q7 k (fun ab=> ∀X:Value,∀w:World,Y w→Q X w→Q1 f.1 true w (Q2 P T.b X) (dk k ab w)) fun ab=>
     Q7 k (fun y=> ∀U:Value,∀w:World,Y w→M U w→Q1 f.1 true w (Q2 P T.i U) (dk k y w)) fun y=>
     Q7 k (fun z=> ∀C:Value,∀E:Value,∀w:World,Y w→y C w→u E w→Q1 f.1 true w (indexAddr P T.i C E) (dk k z w)) fun z=>
     Q7 k (fun N=> ∀t:Value,∀w:World,Y w→z t w→Q1 f.1 true w (fieldAddr P T.k t 0) (dk k N w)) fun N=>
     Q7 k (fun ad=> ∀D:Value,∀w:World,Y w→N D w→Q1 f.1 true w (Q2 P T.b D) (dk k ad w)) fun ad=>
     ∀V:Value,∀B:Value,∀U:Value,∀E:Value,∀A:Value,∀H:Value,∀X:Value,∀ag:Value,∀C:Value,∀t:Value,∀D:Value,∀af:Value,∀w:World,Y w→O V w→R B w→M U w→u E w→v A w→L H w→Q X w→ab ag w→y C w→z t w→N D w→ad af w→
     Q1 f.1 true w (Q3 P .neq T.b (.tmp 114) (.tmp 120) ag af) fun al w=>
     pick P f.1 al (.bool false) w fun am w=>
     Q3 P .add T.e (.tmp 105) (.const (.int .i64 1)) f.2 (.int .i64 1) w fun ao w=>
     ac (am,ao) w) (
     Q3 P .add T.e (.tmp 76) (.const (.int .i64 1)) g.2 (.int .i64 1) w fun bf w=>
     aa (f.1,bf) w)) (
   J g.1 w):=by
 have W:=g2.max
 refine O8 (a:=Value.bool ok) c.fields.length (fun n x w'=> ∃σ',Stp w1 σ1 w' σ'∧x=Value.bool (ok&&(List.range n).all fun i=>Mx c i&&(List.range i).all (Qb c i))) ⟨σ1,Stp.refl a1,by simp⟩ fun n x w2 d bp aj=>?_
 obtain ⟨σ2,o,rfl⟩:=aj
 have p:=hq.up o
 have r:=g2.up o
 have l:=o.sat
 (repeat refine Hd.h ?_)
 refine ld l p rfl ?_
 refine Q8 r ?_
 refine Z1 ?_
 refine Q5 (fun hc=>?_) (fun hc=>?_)
 ·have j:n<c.fields.length:=by simpa using hc
  have Z:(ok&&(List.range (n+1)).all fun i=>Mx c i&&(List.range i).all (Qb c i))=((ok&&(List.range n).all fun i=>Mx c i&&(List.range i).all (Qb c i))&&(Mx c n&&(List.range n).all (Qb c n))):=by rw[Vf,Bool.and_assoc]
  have hP:Mx c n=(L5 c.fields[n].name&&right c.fields[n].kind&& !c.iface):=by unfold Mx Rq;rw[E3 j]
  obtain ⟨p1,r1⟩:=r.elF j
  have b1:c.fields[n].name.length≤140737488355328:=by have:=r1.2.1;simp only[J3] at this;omega
  have b2:c.fields[n].kind.length≤140737488355328:=by have:=r1.2.2;simp only[J3] at this;omega
  generalize (ok&&(List.range n).all fun i=>Mx c i&&(List.range i).all (Qb c i))=ai at Z⊢
  clear h hc
  have step: ∀b,b=(ai&&Mx c n)→(ai&&(Mx c n&&(List.range n).all (Qb c n)))=(b&&(List.range n).all (Qb c n)):=fun b e=>by rw[e,Bool.and_assoc]
  cases ai with
  | false=>
   (repeat refine Hd.h ?_)
   refine Q1h l p r j fun w4 σ4 s=>?_
   exact Z6 W j ⟨σ4,o.trans s,by rw[Z];rfl⟩
  | true=>
   (repeat refine Hd.h ?_)
   refine ld l p rfl ?_
   (repeat refine Hd.h ?_)
   refine J9 r j ?_
   (repeat refine Hd.h ?_)
   refine ld l p1 rfl ?_
   (repeat refine Hd.h ?_)
   refine Bm _ b1 ?_
   cases d1:L5 c.fields[n].name with
   | false=>
    (repeat refine Hd.h ?_)
    refine Q1h l p r j fun w4 σ4 s=>?_
    exact Z6 W j ⟨σ4,o.trans s,by rw[Z,step false (by rw[hP,d1];rfl)]⟩
   | true=>
    (repeat refine Hd.h ?_)
    refine ld l p rfl ?_
    (repeat refine Hd.h ?_)
    refine J9 r j ?_
    (repeat refine Hd.h ?_)
    refine ld l p1 rfl ?_
    (repeat refine Hd.h ?_)
    refine Vh _ b2 ?_
    cases d2:right c.fields[n].kind with
    | false=>
     (repeat refine Hd.h ?_)
     refine Q1h l p r j fun w4 σ4 s=>?_
     exact Z6 W j ⟨σ4,o.trans s,by rw[Z,step false (by rw[hP,d1,d2];rfl)]⟩
    | true=>
     (repeat refine Hd.h ?_)
     refine ld l p rfl ?_
     (repeat refine Hd.h ?_)
     refine Q1h l p r j fun w4 σ4 s=>?_
     exact Z6 W j ⟨σ4,o.trans s,by rw[Z,step (!c.iface) (by rw[hP,d1,d2];rfl)]⟩
 ·have j: ¬n<c.fields.length:=by simpa using hc
  obtain rfl:n=c.fields.length:=by omega
  exact h _ _ o
set_option maxHeartbeats 2000000 in
theorem Ep {c:Cla} {lv fv mv:Value} {w1:World} {σ1:Q4} {q:Addr} {ok:Bool} (Y:X4 w1 σ1) (hq:Z2 σ1 q [S c.name,S c.super,lv, .bool c.iface, .bool c.abs, .bool c.fin,fv,mv]) {i:Nat} {q9:Addr} {pv cv hv:Value} {N m0:Nat} {V:Nat→Value→World→Prop} (g3:Sl 7 M5 σ1 mv c.methods) (hi:i<c.methods.length) (aa:Z2 σ1 q9 [S c.methods[i].name,pv,S c.methods[i].result, .bool c.methods[i].abs,I c.methods[i].locals,cv,hv])
 (h: ∀w' σ',Stp w1 σ1 w' σ'→Rs N V (Value.bool (ok&&(List.range i).all (Qc c i)), .int .i64 (IntKind.i64.wrap (i+1))) w'∧Vx N (Value.bool (ok&&(List.range i).all (Qc c i)), .int .i64 (IntKind.i64.wrap (i+1)))<m0):
 lp (α:=Value×Value) (Value.bool ok,(.int .i64 0)) w1 fun z b d_ w=>
  Q3 P .lss T.e (.tmp 158) (.tmp 159) b.2 (I i) w fun Q w=>
  X1 Q (
   dr w fun e B=>
   Q7 e (fun l=> ∀w:World,B w→Q1 b.1 true w (fieldAddr P T.a (.pointer (some q)) 7) (dk e l w)) fun l=>
   Q7 e (fun o=> ∀w:World,B w→Q1 b.1 true w (fun w J=>J b.2 w) (dk e o w)) fun o=>
   Q7 e (fun j=> ∀w:World,B w→Q1 b.1 true w (fieldAddr P T.c (.pointer (some q9)) 0) (dk e j w)) fun j=>
   Q7 e (fun n=> ∀m:Value,∀w:World,B w→l m w→Q1 b.1 true w (Q2 P T.g m) (dk e n w)) fun n=>
   Q7 e (fun s=> ∀p:Value,∀t:Value,∀w:World,B w→n p w→o t w→Q1 b.1 true w (indexAddr P T.g p t) (dk e s w)) fun s=>
   Q7 e (fun u=> ∀r:Value,∀w:World,B w→s r w→Q1 b.1 true w (fieldAddr P T.c r 0) (dk e u w)) fun u=>
   Q7 e (fun y=> ∀g:Value,∀w:World,B w→u g w→Q1 b.1 true w (Q2 P T.b g) (dk e y w)) fun y=>
   Q7 e (fun A=> ∀f:Value,∀w:World,B w→j f w→Q1 b.1 true w (Q2 P T.b f) (dk e A w)) fun A=>
   ∀m:Value,∀t:Value,∀f:Value,∀p:Value,∀r:Value,∀g:Value,∀D:Value,∀C:Value,∀w:World,B w→l m w→o t w→j f w→n p w→s r w→u g w→y D w→A C w→
   Q1 b.1 true w (Q3 P .neq T.b (.tmp 170) (.tmp 172) D C) fun U w=>
   pick P b.1 U (.bool false) w fun O w=>
   Q3 P .add T.e (.tmp 161) (.const (.int .i64 1)) b.2 (.int .i64 1) w fun R w=>
   z (O,R) w) (
   Q3 P .add T.e (.tmp 128) (.const (.int .i64 1)) (I i) (.int .i64 1) w fun E w=>
   (Rs N V (b.1,E) w∧Vx N (b.1,E)<m0)):=by
 have al:=g3.max
 refine O8 (a:=Value.bool ok) i (fun k x w'=> ∃σ',Stp w1 σ1 w' σ'∧x=Value.bool (ok&&(List.range k).all (Qc c i))) ⟨σ1,Stp.refl Y,by simp⟩ fun k x w2 d hk L=>?_
 obtain ⟨σ2,v,rfl⟩:=L
 have ap:=hq.up v
 have ag:=aa.up v
 have ae:=g3.up v
 have ab:=v.sat
 refine Z1 ?_
 refine Q5 (fun W=>?_) (fun W=>?_)
 ·have af:k<i:=by simpa using W
  have M:k<c.methods.length:=by omega
  have H:(ok&&(List.range (k+1)).all (Qc c i))=((ok&&(List.range k).all (Qc c i))&&Qc c i k):=by rw[Vf,Bool.and_assoc]
  have hQ:Qc c i k= !decide (c.methods[k].name=c.methods[i].name):=by unfold Qc Oy;rw[E3 M,E3 hi]
  rw[hQ] at H
  obtain ⟨av,aq,ao,p1,_⟩:=ae.elM M
  generalize (ok&&(List.range k).all (Qc c i))=ad at H⊢
  clear h hQ W
  cases ad
  all_goals
   refine V2 ab ?_
   (repeat refine U4 Qn ?_)
   (intros;(repeat (rename_i hx;subst hx));(try simp only[↓M2,M2,Mb,reduceIte]))
   rename_i w3 X
   exact Z6 (by omega) af ⟨σ2,v.trans X.stp,by rw[H];rfl⟩
 ·have Z:k=i:=by
   have: ¬k<i:=by simpa using W
   omega
  subst Z
  (try simp only[↓M1,M1,Mb,reduceIte])
  exact h _ _ v
set_option maxHeartbeats 4000000 in
theorem X0C {c:Cla} {lv fv mv:Value} {w1:World} {σ1:Q4} {q:Addr} {ok:Bool} (bs:X4 w1 σ1) (hq:Z2 σ1 q [S c.name,S c.super,lv, .bool c.iface, .bool c.abs, .bool c.fin,fv,mv]) {J:Value→World→Prop} (g3:Sl 7 M5 σ1 mv c.methods)
 (h: ∀w' σ',Stp w1 σ1 w' σ'→J (.bool (ok&&(List.range c.methods.length).all fun i=>Lf c i&&(List.range i).all (Qc c i))) w'):
 lp (α:=Value×Value) (Value.bool ok,(.int .i64 0)) w1 fun Z v d_ w=>
  fieldAddr P T.a (.pointer (some q)) 7 w fun bh w=>
  Q2 P T.g bh w fun ay w=>
  X6 P .len [T.g] T.e [false] [ay] w fun a1 w=>
  Q3 P .lss T.e (.tmp 123) (.tmp 126) v.2 a1 w fun a8 w=>
  X1 a8 (
   fieldAddr P T.a (.pointer (some q)) 7 w fun bd w=>
   Q2 P T.g bd w fun a6 w=>
   indexAddr P T.g a6 v.2 w fun a0 w=>
   Q2 P T.c a0 w fun a9 w=>
   W3 P T.c w fun t9 w=>
   Z3 P T.c t9 a9 w fun _u w=>
   Q1 v.1 true w (Q2 P T.c t9) fun aw w=>
   Q1 v.1 true w (Q0 P F.x [aw]) fun bi w=>
   pick P v.1 bi (.bool false) w fun r w=>
   Q1 r true w (fieldAddr P T.c t9 3) fun bk w=>
   Q1 r true w (Q2 P T.m bk) fun bj w=>
   Q1 r true w (J0 P .not bj) fun ax w=>
   Q1 r true w (fun w J=>J ax w) fun Y w=>
   Q1 Y false w (fieldAddr P T.a (.pointer (some q)) 4) fun be w=>
   Q1 Y false w (Q2 P T.m be) fun a2 w=>
   Q1 r true w (pick P Y (.bool true) a2) fun bf w=>
   pick P r bf (.bool false) w fun s w=>
   Q1 s true w (fieldAddr P T.a (.pointer (some q)) 3) fun bg w=>
   Q1 s true w (Q2 P T.m bg) fun bp w=>
   Q1 s true w (J0 P .not bp) fun bb w=>
   Q1 s true w (fun w J=>J bb w) fun ad w=>
   Q1 ad false w (fieldAddr P T.c t9 3) fun aq w=>
   Q1 ad false w (Q2 P T.m aq) fun ba w=>
   Q1 s true w (pick P ad (.bool true) ba) fun bo w=>
   pick P s bo (.bool false) w fun bl w=>
   lp (α:=Value×Value) (bl,(.int .i64 0)) w fun ac k d_ w=>
    Q3 P .lss T.e (.tmp 158) (.tmp 159) k.2 v.2 w fun av w=>
    X1 av (
     dr w fun y Br=>
     Q7 y (fun N=> ∀w:World,Br w→Q1 k.1 true w (fieldAddr P T.a (.pointer (some q)) 7) (dk y N w)) fun N=>
     Q7 y (fun D=> ∀w:World,Br w→Q1 k.1 true w (fun w J=>J k.2 w) (dk y D w)) fun D=>
     Q7 y (fun A=> ∀w:World,Br w→Q1 k.1 true w (fieldAddr P T.c t9 0) (dk y A w)) fun A=>
     Q7 y (fun C=> ∀B:Value,∀w:World,Br w→N B w→Q1 k.1 true w (Q2 P T.g B) (dk y C w)) fun C=>
     Q7 y (fun Q=> ∀O:Value,∀H:Value,∀w:World,Br w→C O w→D H w→Q1 k.1 true w (indexAddr P T.g O H) (dk y Q w)) fun Q=>
     Q7 y (fun L=> ∀E:Value,∀w:World,Br w→Q E w→Q1 k.1 true w (fieldAddr P T.c E 0) (dk y L w)) fun L=>
     Q7 y (fun ab=> ∀z:Value,∀w:World,Br w→L z w→Q1 k.1 true w (Q2 P T.b z) (dk y ab w)) fun ab=>
     Q7 y (fun X=> ∀M:Value,∀w:World,Br w→A M w→Q1 k.1 true w (Q2 P T.b M) (dk y X w)) fun X=>
     ∀B:Value,∀H:Value,∀M:Value,∀O:Value,∀E:Value,∀z:Value,∀aj:Value,∀ai:Value,∀w:World,Br w→N B w→D H w→A M w→C O w→Q E w→L z w→ab aj w→X ai w→
     Q1 k.1 true w (Q3 P .neq T.b (.tmp 170) (.tmp 172) aj ai) fun a4 w=>
     pick P k.1 a4 (.bool false) w fun ar w=>
     Q3 P .add T.e (.tmp 161) (.const (.int .i64 1)) k.2 (.int .i64 1) w fun bc w=>
     ac (ar,bc) w) (
     Q3 P .add T.e (.tmp 128) (.const (.int .i64 1)) v.2 (.int .i64 1) w fun bn w=>
     Z (k.1,bn) w)) (
   J v.1 w):=by
 have o:=g3.max
 refine O8 (a:=Value.bool ok) c.methods.length (fun n x w'=> ∃σ',Stp w1 σ1 w' σ'∧x=Value.bool (ok&&(List.range n).all fun i=>Lf c i&&(List.range i).all (Qc c i))) ⟨σ1,Stp.refl bs,by simp⟩ fun n x w2 d b2 a7=>?_
 obtain ⟨σ2,aa,rfl⟩:=a7
 have ao:=hq.up aa
 have af:=g3.up aa
 have ae:=aa.sat
 (repeat refine Hd.h ?_)
 refine ld ae ao rfl ?_
 refine Q8 af ?_
 refine Z1 ?_
 refine Q5 (fun hc=>?_) (fun hc=>?_)
 ·have f:n<c.methods.length:=by simpa using hc
  have u:(ok&&(List.range (n+1)).all fun i=>Lf c i&&(List.range i).all (Qc c i))=((ok&&(List.range n).all fun i=>Lf c i&&(List.range i).all (Qc c i))&&(Lf c n&&(List.range n).all (Qc c n))):=by rw[Vf,Bool.and_assoc]
  have hP:Lf c n=(C9 c.methods[n]&&(!c.methods[n].abs||c.abs)&&(!c.iface||c.methods[n].abs)):=by unfold Lf Oy;rw[E3 f]
  obtain ⟨pv,cv,hv,p1,r1⟩:=af.elM f
  generalize (ok&&(List.range n).all fun i=>Lf c i&&(List.range i).all (Qc c i))=am at u⊢
  clear h hc
  have step: ∀b,b=(am&&Lf c n)→(am&&(Lf c n&&(List.range n).all (Qc c n)))=(b&&(List.range n).all (Qc c n)):=fun b e=>by rw[e,Bool.and_assoc]
  (repeat refine Hd.h ?_)
  refine ld ae ao rfl ?_
  refine J9 af f ?_
  refine Y7 ae p1 rfl ?_
  refine Y6 ae (by rfl) rfl (Rep.one r1) fun q9 w3 σ3 V al=>?_
  have an:=V.sat
  have az:=ao.up V
  have a3:=af.up V
  have r3:=RMe_lift r1 ⟨V.le⟩
  have ah:=aa.trans V
  cases am with
  | false=>
   (repeat refine Hd.h ?_)
   refine Ep an az a3 f al fun w4 R l=>?_
   exact Z6 o f ⟨R,ah.trans l,by rw[u];rfl⟩
  | true=>
   (repeat refine Hd.h ?_)
   refine Y7 an al rfl ?_
   (repeat refine Hd.h ?_)
   refine Q6B an r3 fun w5 σ5 W=>?_
   have m:=W.sat
   have t:=az.up W
   have g:=al.up W
   have U:=a3.up W
   have p:=ah.trans W
   cases d1:C9 c.methods[n] with
   | false=>
    (repeat refine Hd.h ?_)
    refine Ep m t U f g fun w4 R l=>?_
    exact Z6 o f ⟨R,p.trans l,by rw[u,step false (by rw[hP,d1];rfl)]⟩
   | true=>
    (repeat refine Hd.h ?_)
    refine ld m g rfl ?_
    (repeat refine Hd.h ?_)
    have j: ∀b1:Bool,b1=(!c.methods[n].abs||c.abs)→Lf c n=(b1&&(!c.iface||c.methods[n].abs)):=fun b1 e=>by rw[hP,d1,e];rfl
    cases d2:c.methods[n].abs with
    | false=>
     rw[d2] at j g
     simp only[Bool.not_true,Bool.not_false]
     (repeat refine Hd.h ?_)
     refine ld m t rfl ?_
     (repeat refine Hd.h ?_)
     cases d4:c.iface with
     | false=>
      simp only[Bool.not_true,Bool.not_false]
      (repeat refine Hd.h ?_)
      refine Ep m t U f (by rw[d2];exact g) fun w4 R l=>?_
      exact Z6 o f ⟨R,p.trans l,by rw[u,step true (by rw[j true rfl,d4];rfl)]⟩
     | true=>
      simp only[Bool.not_true,Bool.not_false]
      (repeat refine Hd.h ?_)
      refine ld m g rfl ?_
      (repeat refine Hd.h ?_)
      refine Ep m t U f (by rw[d2];exact g) fun w4 R l=>?_
      exact Z6 o f ⟨R,p.trans l,by rw[u,step false (by rw[j true rfl,d4];rfl)]⟩
    | true=>
     rw[d2] at j g
     simp only[Bool.not_true,Bool.not_false]
     (repeat refine Hd.h ?_)
     refine ld m t rfl ?_
     cases d3:c.abs with
     | false=>
      (repeat refine Hd.h ?_)
      refine Ep m t U f (by rw[d2];exact g) fun w4 R l=>?_
      exact Z6 o f ⟨R,p.trans l,by rw[u,step false (by rw[j false (by rw[d3];rfl)];rfl)]⟩
     | true=>
      (repeat refine Hd.h ?_)
      refine ld m t rfl ?_
      (repeat refine Hd.h ?_)
      cases d4:c.iface with
      | false=>
       simp only[Bool.not_true,Bool.not_false]
       (repeat refine Hd.h ?_)
       refine Ep m t U f (by rw[d2];exact g) fun w4 R l=>?_
       exact Z6 o f ⟨R,p.trans l,by rw[u,step true (by rw[j true (by rw[d3];rfl),d4];rfl)]⟩
      | true=>
       simp only[Bool.not_true,Bool.not_false]
       (repeat refine Hd.h ?_)
       refine ld m g rfl ?_
       (repeat refine Hd.h ?_)
       refine Ep m t U f (by rw[d2];exact g) fun w4 R l=>?_
       exact Z6 o f ⟨R,p.trans l,by rw[u,step true (by rw[j true (by rw[d3];rfl),d4];rfl)]⟩
 ·have f: ¬n<c.methods.length:=by simpa using hc
  obtain rfl:n=c.methods.length:=by omega
  exact h _ _ aa
theorem X16 {c:Cla} {L H mv:Value} {w1:World} {σ1:Q4} {q:Addr} {ok:Bool} (d:X4 w1 σ1) (g:Z2 σ1 q [S c.name,S c.super,L, .bool c.iface, .bool c.abs, .bool c.fin,H,mv]) (h:K (.bool (ok&&Q6I c)) w1):
 Q1 (Value.bool ok) true w1 (fieldAddr P T.a (.pointer (some q)) 3) fun n w=>
  Q1 (Value.bool ok) true w (Q2 P T.m n) fun s w=>
  Q1 (Value.bool ok) true w (J0 P .not s) fun A w=>
  Q1 (Value.bool ok) true w (fun w J=>J A w) fun b w=>
  Q1 b false w (fieldAddr P T.a (.pointer (some q)) 4) fun B w=>
  Q1 b false w (Q2 P T.m B) fun l w=>
  Q1 b false w (fun w J=>J l w) fun e w=>
  Q1 e true w (fieldAddr P T.a (.pointer (some q)) 1) fun o w=>
  Q1 e true w (Q2 P T.b o) fun k w=>
  Q1 e true w (Q3 P .eql T.b (.tmp 185) (.const (.string ⟨#[79,98,106,101,99,116]⟩)) k (.string ⟨#[79,98,106,101,99,116]⟩)) fun u w=>
  Q1 b false w (pick P e u (.bool false)) fun j w=>
  Q1 (Value.bool ok) true w (pick P b (.bool true) j) fun z w=>
  pick P (Value.bool ok) z (.bool false) w fun a w=>
  Q1 a true w (fieldAddr P T.a (.pointer (some q)) 4) fun y w=>
  Q1 a true w (Q2 P T.m y) fun C w=>
  Q1 a true w (fun w J=>J C w) fun f w=>
  Q1 f true w (fieldAddr P T.a (.pointer (some q)) 5) fun t w=>
  Q1 f true w (Q2 P T.m t) fun v w=>
  Q1 a true w (pick P f v (.bool false)) fun p w=>
  Q1 a true w (J0 P .not p) fun m w=>
  pick P a m (.bool false) w fun r w=>
  K r w:=by
 unfold Q6I at h
 have M:decide (c.super=Z7)=decide (c.super=[79,98,106,101,99,116]):=rfl
 rw[M] at h
 cases ok with
 | false=>(try simp only[↓M1,M1,Mb,reduceIte]);simpa using h
 | true=>
  (try simp only[↓M1,M1,Mb,reduceIte])
  refine ld d g rfl ?_
  (try simp only[↓M1,M1,Mb,reduceIte])
  cases D:c.iface with
  | false=>
   rw[D] at h
   (try simp only[↓M1,M1,Mb,reduceIte])
   refine ld d g rfl ?_
   cases i:c.abs with
   | false=>rw[i] at h;(try simp only[↓M1,M1,Mb,reduceIte]);simpa using h
   | true=>
    rw[i] at h
    (try simp only[↓M1,M1,Mb,reduceIte])
    refine ld d g rfl ?_
    (try simp only[↓M1,M1,Mb,reduceIte])
    simpa using h
  | true=>
   rw[D] at h
   (try simp only[↓M1,M1,Mb,reduceIte])
   refine ld d g rfl ?_
   cases i:c.abs with
   | false=>rw[i] at h;(try simp only[↓M1,M1,Mb,reduceIte]);simpa using h
   | true=>
    rw[i] at h
    (try simp only[↓M1,M1,Mb,reduceIte])
    refine ld d g rfl ?_
    (try simp only[↓M1,M1,Mb,reduceIte])
    cases E:decide (c.super=[79,98,106,101,99,116]) with
    | false=>rw[E] at h;(try simp only[↓M1,M1,Mb,reduceIte]);simpa using h
    | true=>
     rw[E] at h
     (try simp only[↓M1,M1,Mb,reduceIte])
     refine ld d g rfl ?_
     simp only[i,↓M1,M1,Mb,reduceIte]
     refine ld d g rfl ?_
     (try simp only[↓M1,M1,Mb,reduceIte])
     simpa using h
end Go.Proofs.YtfppjenblllfaaaGreatDoor

namespace Go.Proofs.YtfppjenblllfaaaGreatDoor
open Go.Emb Go.RowKit Go.Kd Go.Hm
theorem Q5h {c:Cla} (h:L6 c=0):W6 c.name=true∧W6 c.super=true∧(c.iface=true→c.super=Z7∧c.fields=[]∧c.abs=true∧ ∀m∈c.methods,m.abs=true)∧(∀m∈c.methods,m.abs=true→c.abs=true)∧c.fields.all Oe=true∧c.methods.all C9=true∧E9 Fld.name [] c.fields=true∧E9 Hm.Met.name [] c.methods=true:=by
 unfold L6 at h
 split at h
 ·cases h
 split at h
 ·rename_i j
  simp only[Ld,Bool.and_eq_true] at j
  obtain ⟨⟨⟨⟨⟨⟨⟨⟨k,v⟩,u⟩,i⟩,f⟩,s⟩,t⟩,q⟩,o⟩:=j
  refine ⟨List.all_eq_true.1 k c.name (by simp),List.all_eq_true.1 k c.super (by simp),fun r=>?_,fun m g n=>?_,q,o,s,t⟩
  ·rw[r] at i
   simp only[Bool.true_and,Bool.not_eq_true',Bool.or_eq_false_iff,Bool.not_eq_false',decide_eq_true_eq] at i
   obtain ⟨⟨⟨a,b⟩,d⟩,e⟩:=i
   refine ⟨b,d,a,fun m g=>?_⟩
   have:=List.any_eq_false.1 e m g
   simpa using this
  ·simp only[Bool.not_eq_true',Bool.or_eq_false_iff] at f
   obtain ⟨_,f⟩:=f
   have p:c.methods.any (·.abs)=true:=List.any_eq_true.2 ⟨m,g,n⟩
   rw[p] at f
   simpa using f
 ·cases h
theorem Q7g {l:List Cla} {c:Cla} (b:c∈Q6 l) (a:c.iface=true):c∈l:=by
 rcases List.mem_append.1 b with h | h
 ·have: ∀c∈B1,c.iface=false:=by decide
  rw[this c h] at a;cases a
 ·exact h
section
variable {l : List Cla} (wf : Wf l)
include wf
theorem Wf.likes {c:Cla} (f:c∈Q6 l) {u:X0} (b:u∈c.like): ∃d,lk (Q6 l) u=some d∧d.iface=true:=by
 rcases List.mem_append.1 f with h | h
 ·rw[(Zc c h).2.2] at b;simp at b
 ·have:=wf.up c h
  unfold L4 at this
  split at this
  ·cases this
  ·split at this
   ·cases this
   ·rename_i a
    have a:=List.any_eq_false.1 (eq_false_of_ne_true a) u b
    unfold O5 at a
    cases e:lk (Q6 l) u with
    | none=>rw[e] at a;simp at a
    | some d=>rw[e] at a;exact ⟨d,rfl,by simpa using a⟩
theorem Wf.above_iface {u b:X0} (h:Hm.Reach (lk (Q6 l)) u b): ∀d,lk (Q6 l) u=some d→d.iface=true→b=Z7∨ ∃e,lk (Q6 l) b=some e∧e.iface=true:=by
 induction h with
 | refl h=>intro d a c;exact .inr ⟨d,a,c⟩
 | step i hu k m=>
  intro d a c
  rw[i] at a;cases a
  obtain ⟨e,j,_⟩:=U3 i
  rcases List.mem_cons.1 hu with rfl | hu
  ·rw[((Q5h (wf.ck _ (Q7g j c))).2.2.1 c).1] at k
   exact .inl (wf.atRoot k)
  ·obtain ⟨f,n,g⟩:=wf.likes j hu
   exact m f n g
theorem Wf.by_chain {n b:X0} (h:Hm.Reach (lk (Q6 l)) n b): ∀e,lk (Q6 l) b=some e→e.iface=false→b≠Z7→e∈chain (Q6 l) n:=by
 induction h with
 | refl h=>
  intro e c _ _
  rw[F4 wf.acy,c];simp
 | step j hu r o=>
  intro e c k i
  obtain ⟨en,p,_⟩:=U3 j
  rcases List.mem_cons.1 hu with rfl | hu
  ·rw[F4 wf.acy,j]
   exact List.mem_cons_of_mem _ (o e c k i)
  ·obtain ⟨f,q,d⟩:=wf.likes p hu
   rcases wf.above_iface r f q d with h | ⟨g,m,a⟩
   ·exact absurd h i
   ·rw[c] at m;cases m;rw[k] at a;cases a
theorem Wf.chain_tail: ∀(k:Nat) {n:X0} {c:Cla},F2 (Q6 l) n<k→c∈chain (Q6 l) n→ ∃a,chain (Q6 l) n=a++chain (Q6 l) c.name:=by
 intro k
 induction k with
 | zero=>intro n c h;omega
 | succ k i=>
  intro n c o hc
  rw[F4 wf.acy] at hc
  cases b:lk (Q6 l) n with
  | none=>rw[b] at hc;simp at hc
  | some d=>
   rw[b] at hc
   have f:=(U3 b).1
   rcases List.mem_cons.1 hc with rfl | hc
   ·exact ⟨[],by rw[f];rfl⟩
   ·cases g:lk (Q6 l) d.super with
    | none=>rw[I7 g] at hc;simp at hc
    | some e=>
     have m:d.super∈J5 d:=by simp[J5]
     obtain ⟨a,j⟩:=i (by have:=Xp wf.acy b m g;omega) hc
     exact ⟨d::a,by rw[F4 wf.acy,b];show d::chain (Q6 l) d.super=_;rw[j];rfl⟩
theorem Wf.fields_tail {n:X0} {c:Cla} (h:c∈chain (Q6 l) n): ∃a,M6 (Q6 l) n=M6 (Q6 l) c.name++a:=by
 obtain ⟨b,d⟩:=wf.chain_tail _ (Nat.lt_succ_self _) h
 exact ⟨b.reverse.flatMap (·.fields),by unfold M6;rw[d];simp⟩
theorem Wf.none_nil:lk (Q6 l) []=none:=by
 cases h:lk (Q6 l) [] with
 | none=>rfl
 | some c=>exact absurd (wf.lkn h) (by decide)
theorem Wf.fault_fields:M6 (Q6 l) V8=[⟨I8,N5,false⟩]:=by
 unfold M6
 rw[F4 wf.acy,wf.fault]
 simp only
 rw[F4 wf.acy,wf.root]
 simp only
 rw[I7 wf.none_nil]
 rfl
theorem Wf.what {n:X0} (h:E4 (Q6 l) n V8=true) {c:Cla} (e:lk (Q6 l) n=some c):Xk (Q6 l) n I8=some 0:=by
 have f:=(wf.sub_class e).1 h
 have b:=wf.by_chain f _ wf.fault rfl (by decide)
 obtain ⟨a,d⟩:=wf.fields_tail b
 unfold Xk
 rw[d,show (Cla.mk V8 Z7 [] false false false [⟨I8,N5,false⟩] []).name=V8 from rfl,wf.fault_fields]
 rfl
end
end Go.Proofs.YtfppjenblllfaaaGreatDoor

namespace Go.Hm
open Go.Kd
end Go.Hm
namespace Go.Proofs.YtfppjenblllfaaaGreatDoor
open Go.Emb Go.RowKit Go.Kd Go.Hm
section
variable {l : List Cla} (wf : Wf l)
include wf
end
end Go.Proofs.YtfppjenblllfaaaGreatDoor
namespace Go.Proofs.YtfppjenblllfaaaGreatDoor
open Go.Emb Go.RowKit Go.Kd Go.Hm
end Go.Proofs.YtfppjenblllfaaaGreatDoor
namespace Go.Proofs.YtfppjenblllfaaaGreatDoor
open Go.Emb Go.RowKit Go.Kd Go.Hm
section
variable {l : List Cla} (wf : Wf l)
include wf
end
end Go.Proofs.YtfppjenblllfaaaGreatDoor

namespace Go.Proofs.YtfppjenblllfaaaGreatDoor
open Go.Emb Go.RowKit Go.Kd Go.Hm
variable {w : World} {K : Value → World → Prop} {σ : Q4}
def Q51 (c:Cla):Bool:=((((W6 c.name&&W6 c.super&& !decide (c.name=c.super))&&(List.range c.like.length).all fun i=>Vo c i&&(List.range i).all (I1 c i))&&(List.range c.fields.length).all fun i=>Mx c i&&(List.range i).all (Qb c i))&&(List.range c.methods.length).all fun i=>Lf c i&&(List.range i).all (Qc c i))&&Q6I c
theorem Q8V {α:Type} {f:α→X0}: ∀(xs a:List α),E9 f a xs=true↔(xs.map f).Nodup∧ ∀x∈xs,∀y∈a,f y≠f x:=by
 intro xs
 induction xs with
 | nil=>intro a;simp[E9]
 | cons x r h=>
  intro a
  simp only[E9,Bool.and_eq_true,h,Bool.not_eq_true',List.map_cons,List.nodup_cons]
  rw[←Bool.not_eq_true,List.any_eq_true]
  simp only[decide_eq_true_eq,not_exists,not_and,List.mem_append,List.mem_cons,List.not_mem_nil,or_false,List.mem_map]
  constructor
  ·rintro ⟨d,g,c⟩
   refine ⟨⟨fun y hy e=>c y hy x (.inr rfl) e.symm,g⟩,fun y hy z b=>?_⟩
   rcases hy with rfl | hy
   ·exact d z b
   ·exact c y hy z (.inl b)
  ·rintro ⟨⟨d,g⟩,c⟩
   refine ⟨fun y hy=>c x (.inl rfl) y hy,g,fun y hy z b=>?_⟩
   rcases b with b | rfl
   ·exact c y (.inr hy) z b
   ·exact fun e=>d y hy e.symm
theorem Tt {α:Type} {f:α→X0} {xs:List α} {p:α→Bool} {P:Nat→Bool} {Q:Nat→Nat→Bool} (e: ∀i (h:i<xs.length),P i=p xs[i]) (c: ∀i (h:i<xs.length) k (o:k<xs.length),Q i k= !decide (f xs[k]=f xs[i])):
 ((List.range xs.length).all fun i=>P i&&(List.range i).all (Q i))=true↔(∀x∈xs,p x=true)∧E9 f [] xs=true:=by
 rw[Q8V,List.all_eq_true]
 simp only[List.mem_range,Bool.and_eq_true,List.all_eq_true,List.not_mem_nil,false_implies,implies_true,and_true]
 rw[List.nodup_iff_pairwise_ne,List.pairwise_iff_getElem]
 simp only[List.length_map,List.getElem_map]
 constructor
 ·intro h
  refine ⟨fun x n=>?_,fun i j a d b=>?_⟩
  ·obtain ⟨i,a,rfl⟩:=List.getElem_of_mem n
   rw[←e i a];exact (h i a).1
  ·have:=(h j d).2 i b
   rw[c j d i a] at this
   simpa using this
 ·rintro ⟨m,l⟩ i a
  refine ⟨by rw[e i a];exact m _ (List.getElem_mem a),fun k g=>?_⟩
  rw[c i a k (by omega)]
  simpa using l k i (by omega) a g
theorem Q9C (c:Cla):Q51 c=Ld c:=by
 have z:=Tt (f:=id) (xs:=c.like) (p:=fun y=>W6 y&& !decide (y=c.name)) (P:=Vo c) (Q:=I1 c) (fun i h=>by unfold Vo;rw[E3 h]) (fun i h k n=>by unfold I1;rw[E3 h,E3 n];rfl)
 have g:=Tt (f:=Fld.name) (xs:=c.fields) (p:=fun f=>L5 f.name&&right f.kind&& !c.iface) (P:=Mx c) (Q:=Qb c) (fun i h=>by unfold Mx Rq;rw[E3 h]) (fun i h k n=>by unfold Qb Rq;rw[E3 h,E3 n])
 have d:=Tt (f:=Hm.Met.name) (xs:=c.methods) (p:=fun m=>C9 m&&(!m.abs||c.abs)&&(!c.iface||m.abs)) (P:=Lf c) (Q:=Qc c) (fun i h=>by unfold Lf Oy;rw[E3 h]) (fun i h k n=>by unfold Qc Oy;rw[E3 h,E3 n])
 rw[Bool.eq_iff_iff]
 unfold Q51 Ld Q6I
 simp only[Bool.and_eq_true,z,g,d]
 simp only[Bool.and_eq_true,Bool.not_eq_true',Bool.or_eq_true,Bool.and_eq_false_iff,Bool.or_eq_false_iff,decide_eq_true_eq,decide_eq_false_iff_not,List.all_eq_true,List.mem_cons,List.any_eq_false,Oe,Bool.not_eq_false']
 constructor
 ·rintro ⟨⟨⟨⟨⟨⟨l,o⟩,u⟩,a,t⟩,h6,s⟩,j,q⟩,b,r⟩
  refine ⟨⟨⟨⟨⟨⟨⟨⟨?_,?_⟩,t⟩,?_⟩,r,?_⟩,s⟩,q⟩,?_⟩,fun m d=>(j m d).1.1⟩
  ·rintro x (rfl | rfl | hx)
   ·exact l
   ·exact o
   ·exact (a x hx).1
  ·rintro x (rfl | hx)
   ·exact u
   ·exact fun e=>(a x hx).2 e.symm
  ·cases A:c.iface with
   | false=>exact .inl rfl
   | true=>
    rw[A] at b h6 j
    have b:=b.resolve_left (by decide)
    refine .inr ⟨⟨b,?_⟩,fun m d e=>?_⟩
    ·rw[List.eq_nil_iff_forall_not_mem]
     intro f g
     exact absurd (h6 f g).2 (by decide)
    ·have:=(j m d).2.resolve_left (by decide)
     rw[this] at e;cases e
  ·cases v:c.abs with
   | true=>exact .inr rfl
   | false=>
    rw[v] at j
    refine .inl fun m d e=>?_
    have:=(j m d).1.2.resolve_right (by decide)
    rw[this] at e;cases e
  ·exact fun f g=>(h6 f g).1
 ·rintro ⟨⟨⟨⟨⟨⟨⟨⟨l,o⟩,u⟩,a⟩,t,h6⟩,s⟩,j⟩,q⟩,b⟩
  refine ⟨⟨⟨⟨⟨⟨l _ (.inl rfl),l _ (.inr (.inl rfl))⟩,o _ (.inl rfl)⟩,fun x hx=>⟨l x (.inr (.inr hx)),fun e=>o x (.inr hx) e.symm⟩,u⟩,fun f g=>⟨q f g,?_⟩,s⟩,fun m d=>⟨⟨b m d,?_⟩,?_⟩,j⟩,?_,t⟩
  ·rcases a with a | ⟨⟨_,a⟩,_⟩
   ·exact a
   ·rw[a] at g;simp at g
  ·rcases h6 with h6 | h6
   ·left;exact eq_false_of_ne_true (h6 m d)
   ·exact .inr h6
  ·rcases a with a | ⟨_,a⟩
   ·exact .inl a
   ·right
    cases hx:m.abs with
    | true=>rfl
    | false=>exact absurd hx (a m d)
  ·rcases a with a | ⟨⟨a,_⟩,_⟩
   ·exact .inl a
   ·exact .inr a
set_option maxHeartbeats 4000000 in
theorem Q7A {c:Cla} {cs:List Value} (hs:X4 w σ) (hc:U5 σ c cs) (h: ∀w' σ',Stp w σ w' σ'→K (.bool (Q51 c)) w'):Q0 P F.ba [.agg cs.toArray] w K:=Gq (by
 unfold Wa
 obtain ⟨lv,fv,mv,rfl,f1,f2,f3,f4,f5⟩:=hc
 have cz:c.name.length≤140737488355328:=by simp only[J3] at f4;omega
 have c3:c.super.length≤140737488355328:=by simp only[J3] at f5;omega
 refine Y9 hs fun q w1 σ1 bm hq=>?_
 have g1:=f1.up bm
 have g2:=f2.up bm
 have g3:=f3.up bm
 have bu:=bm.sat
 have ch: ∀ok:Bool,ok=(W6 c.name&&W6 c.super&& !decide (c.name=c.super))→_:=fun ok e=>
  Q9r (w1:=w1) (σ1:=σ1) (ok:=ok) bu hq (J:=fun v w=>lp (α:=Value×Value) (v,(.int .i64 0)) w fun bx o d_ w=>
   fieldAddr P T.a (.pointer (some q)) 6 w fun ct w=>
   Q2 P T.i ct w fun cu w=>
   X6 P .len [T.i] T.e [false] [cu] w fun c9 w=>
   Q3 P .lss T.e (.tmp 71) (.tmp 74) o.2 c9 w fun c0 w=>
   X1 c0 (
    Q1 o.1 true w (fieldAddr P T.a (.pointer (some q)) 6) fun c7 w=>
    Q1 o.1 true w (Q2 P T.i c7) fun cv w=>
    Q1 o.1 true w (fun w J=>J o.2 w) fun cq w=>
    Q1 o.1 true w (indexAddr P T.i cv cq) fun cx w=>
    Q1 o.1 true w (fieldAddr P T.k cx 0) fun db w=>
    Q1 o.1 true w (Q2 P T.b db) fun cy w=>
    Q1 o.1 true w (Q0 P F.s [cy]) fun c6 w=>
    pick P o.1 c6 (.bool false) w fun U w=>
    Q1 U true w (fieldAddr P T.a (.pointer (some q)) 6) fun c5 w=>
    Q1 U true w (Q2 P T.i c5) fun c4 w=>
    Q1 U true w (fun w J=>J o.2 w) fun c2 w=>
    Q1 U true w (indexAddr P T.i c4 c2) fun cw w=>
    Q1 U true w (fieldAddr P T.k cw 1) fun c1 w=>
    Q1 U true w (Q2 P T.b c1) fun de w=>
    Q1 U true w (Q0 P F.i [de]) fun dc w=>
    pick P U dc (.bool false) w fun cd w=>
    Q1 cd true w (fieldAddr P T.a (.pointer (some q)) 3) fun c8 w=>
    Q1 cd true w (Q2 P T.m c8) fun da w=>
    Q1 cd true w (J0 P .not da) fun cj w=>
    pick P cd cj (.bool false) w fun co w=>
    lp (α:=Value×Value) (co,(.int .i64 0)) w fun b8 l d_ w=>
     Q3 P .lss T.e (.tmp 102) (.tmp 103) l.2 o.2 w fun cn w=>
     X1 cn (
      dr w fun d n=>
      Q7 d (fun ax=> ∀w:World,n w→Q1 l.1 true w (fieldAddr P T.a (.pointer (some q)) 6) (dk d ax w)) fun ax=>
      Q7 d (fun a9=> ∀w:World,n w→Q1 l.1 true w (fun w J=>J l.2 w) (dk d a9 w)) fun a9=>
      Q7 d (fun a7=> ∀w:World,n w→Q1 l.1 true w (fieldAddr P T.a (.pointer (some q)) 6) (dk d a7 w)) fun a7=>
      Q7 d (fun ao=> ∀w:World,n w→Q1 l.1 true w (fun w J=>J o.2 w) (dk d ao w)) fun ao=>
      Q7 d (fun a2=> ∀ba:Value,∀w:World,n w→ax ba w→Q1 l.1 true w (Q2 P T.i ba) (dk d a2 w)) fun a2=>
      Q7 d (fun a6=> ∀a3:Value,∀a4:Value,∀w:World,n w→a2 a3 w→a9 a4 w→Q1 l.1 true w (indexAddr P T.i a3 a4) (dk d a6 w)) fun a6=>
      Q7 d (fun ay=> ∀aw:Value,∀w:World,n w→a6 aw w→Q1 l.1 true w (fieldAddr P T.k aw 0) (dk d ay w)) fun ay=>
      Q7 d (fun bi=> ∀a0:Value,∀w:World,n w→ay a0 w→Q1 l.1 true w (Q2 P T.b a0) (dk d bi w)) fun bi=>
      Q7 d (fun ap=> ∀az:Value,∀w:World,n w→a7 az w→Q1 l.1 true w (Q2 P T.i az) (dk d ap w)) fun ap=>
      Q7 d (fun aq=> ∀a5:Value,∀av:Value,∀w:World,n w→ap a5 w→ao av w→Q1 l.1 true w (indexAddr P T.i a5 av) (dk d aq w)) fun aq=>
      Q7 d (fun a8=> ∀a1:Value,∀w:World,n w→aq a1 w→Q1 l.1 true w (fieldAddr P T.k a1 0) (dk d a8 w)) fun a8=>
      Q7 d (fun bo=> ∀ar:Value,∀w:World,n w→a8 ar w→Q1 l.1 true w (Q2 P T.b ar) (dk d bo w)) fun bo=>
      ∀ba:Value,∀a4:Value,∀az:Value,∀av:Value,∀a3:Value,∀aw:Value,∀a0:Value,∀cf:Value,∀a5:Value,∀a1:Value,∀ar:Value,∀ce:Value,∀w:World,n w→ax ba w→a9 a4 w→a7 az w→ao av w→a2 a3 w→a6 aw w→ay a0 w→bi cf w→ap a5 w→aq a1 w→a8 ar w→bo ce w→
      Q1 l.1 true w (Q3 P .neq T.b (.tmp 114) (.tmp 120) cf ce) fun ck w=>
      pick P l.1 ck (.bool false) w fun cm w=>
      Q3 P .add T.e (.tmp 105) (.const (.int .i64 1)) l.2 (.int .i64 1) w fun cp w=>
      b8 (cm,cp) w) (
      Q3 P .add T.e (.tmp 76) (.const (.int .i64 1)) o.2 (.int .i64 1) w fun dd w=>
      bx (l.1,dd) w)) (
    lp (α:=Value×Value) (o.1,(.int .i64 0)) w fun M f d_ w=>
     fieldAddr P T.a (.pointer (some q)) 7 w fun b3 w=>
     Q2 P T.g b3 w fun bh w=>
     X6 P .len [T.g] T.e [false] [bh] w fun bk w=>
     Q3 P .lss T.e (.tmp 123) (.tmp 126) f.2 bk w fun bq w=>
     X1 bq (
      fieldAddr P T.a (.pointer (some q)) 7 w fun bz w=>
      Q2 P T.g bz w fun bp w=>
      indexAddr P T.g bp f.2 w fun bj w=>
      Q2 P T.c bj w fun br w=>
      W3 P T.c w fun t9 w=>
      Z3 P T.c t9 br w fun _u w=>
      Q1 f.1 true w (Q2 P T.c t9) fun bf w=>
      Q1 f.1 true w (Q0 P F.x [bf]) fun b4 w=>
      pick P f.1 b4 (.bool false) w fun j w=>
      Q1 j true w (fieldAddr P T.c t9 3) fun b6 w=>
      Q1 j true w (Q2 P T.m b6) fun b5 w=>
      Q1 j true w (J0 P .not b5) fun bg w=>
      Q1 j true w (fun w J=>J bg w) fun L w=>
      Q1 L false w (fieldAddr P T.a (.pointer (some q)) 4) fun b0 w=>
      Q1 L false w (Q2 P T.m b0) fun bl w=>
      Q1 j true w (pick P L (.bool true) bl) fun b1 w=>
      pick P j b1 (.bool false) w fun k w=>
      Q1 k true w (fieldAddr P T.a (.pointer (some q)) 3) fun b2 w=>
      Q1 k true w (Q2 P T.m b2) fun cc w=>
      Q1 k true w (J0 P .not cc) fun bv w=>
      Q1 k true w (fun w J=>J bv w) fun Q w=>
      Q1 Q false w (fieldAddr P T.c t9 3) fun bb w=>
      Q1 Q false w (Q2 P T.m bb) fun bs w=>
      Q1 k true w (pick P Q (.bool true) bs) fun cb w=>
      pick P k cb (.bool false) w fun b7 w=>
      lp (α:=Value×Value) (b7,(.int .i64 0)) w fun O b d_ w=>
       Q3 P .lss T.e (.tmp 158) (.tmp 159) b.2 f.2 w fun be w=>
       X1 be (
        dr w fun d n=>
        Q7 d (fun C=> ∀w:World,n w→Q1 b.1 true w (fieldAddr P T.a (.pointer (some q)) 7) (dk d C w)) fun C=>
        Q7 d (fun u=> ∀w:World,n w→Q1 b.1 true w (fun w J=>J b.2 w) (dk d u w)) fun u=>
        Q7 d (fun r=> ∀w:World,n w→Q1 b.1 true w (fieldAddr P T.c t9 0) (dk d r w)) fun r=>
        Q7 d (fun t=> ∀s:Value,∀w:World,n w→C s w→Q1 b.1 true w (Q2 P T.g s) (dk d t w)) fun t=>
        Q7 d (fun E=> ∀D:Value,∀z:Value,∀w:World,n w→t D w→u z w→Q1 b.1 true w (indexAddr P T.g D z) (dk d E w)) fun E=>
        Q7 d (fun A=> ∀y:Value,∀w:World,n w→E y w→Q1 b.1 true w (fieldAddr P T.c y 0) (dk d A w)) fun A=>
        Q7 d (fun N=> ∀p:Value,∀w:World,n w→A p w→Q1 b.1 true w (Q2 P T.b p) (dk d N w)) fun N=>
        Q7 d (fun H=> ∀B:Value,∀w:World,n w→r B w→Q1 b.1 true w (Q2 P T.b B) (dk d H w)) fun H=>
        ∀s:Value,∀z:Value,∀B:Value,∀D:Value,∀y:Value,∀p:Value,∀ak:Value,∀ad:Value,∀w:World,n w→C s w→u z w→r B w→t D w→E y w→A p w→N ak w→H ad w→
        Q1 b.1 true w (Q3 P .neq T.b (.tmp 170) (.tmp 172) ak ad) fun bn w=>
        pick P b.1 bn (.bool false) w fun bd w=>
        Q3 P .add T.e (.tmp 161) (.const (.int .i64 1)) b.2 (.int .i64 1) w fun bw w=>
        O (bd,bw) w) (
        Q3 P .add T.e (.tmp 128) (.const (.int .i64 1)) f.2 (.int .i64 1) w fun ca w=>
        M (b.1,ca) w)) (
      Q1 f.1 true w (fieldAddr P T.a (.pointer (some q)) 3) fun aj w=>
      Q1 f.1 true w (Q2 P T.m aj) fun aa w=>
      Q1 f.1 true w (J0 P .not aa) fun ag w=>
      Q1 f.1 true w (fun w J=>J ag w) fun g w=>
      Q1 g false w (fieldAddr P T.a (.pointer (some q)) 4) fun ah w=>
      Q1 g false w (Q2 P T.m ah) fun af w=>
      Q1 g false w (fun w J=>J af w) fun i w=>
      Q1 i true w (fieldAddr P T.a (.pointer (some q)) 1) fun V w=>
      Q1 i true w (Q2 P T.b V) fun ae w=>
      Q1 i true w (Q3 P .eql T.b (.tmp 185) (.const (.string ⟨#[79,98,106,101,99,116]⟩)) ae (.string ⟨#[79,98,106,101,99,116]⟩)) fun Y w=>
      Q1 g false w (pick P i Y (.bool false)) fun R w=>
      Q1 f.1 true w (pick P g (.bool true) R) fun am w=>
      pick P f.1 am (.bool false) w fun a w=>
      Q1 a true w (fieldAddr P T.a (.pointer (some q)) 4) fun al w=>
      Q1 a true w (Q2 P T.m al) fun Z w=>
      Q1 a true w (fun w J=>J Z w) fun m w=>
      Q1 m true w (fieldAddr P T.a (.pointer (some q)) 5) fun ab w=>
      Q1 m true w (Q2 P T.m ab) fun ac w=>
      Q1 a true w (pick P m ac (.bool false)) fun W w=>
      Q1 a true w (J0 P .not W) fun ai w=>
      pick P a ai (.bool false) w fun X w=>
      K X w))) f4 g1 fun w2 σ2 an=>
  X0V (J:=fun v w=>lp (α:=Value×Value) (v,(.int .i64 0)) w fun M f d_ w=>
   fieldAddr P T.a (.pointer (some q)) 7 w fun b3 w=>
   Q2 P T.g b3 w fun bh w=>
   X6 P .len [T.g] T.e [false] [bh] w fun bk w=>
   Q3 P .lss T.e (.tmp 123) (.tmp 126) f.2 bk w fun bq w=>
   X1 bq (
    fieldAddr P T.a (.pointer (some q)) 7 w fun bz w=>
    Q2 P T.g bz w fun bp w=>
    indexAddr P T.g bp f.2 w fun bj w=>
    Q2 P T.c bj w fun br w=>
    W3 P T.c w fun t9 w=>
    Z3 P T.c t9 br w fun _u w=>
    Q1 f.1 true w (Q2 P T.c t9) fun bf w=>
    Q1 f.1 true w (Q0 P F.x [bf]) fun b4 w=>
    pick P f.1 b4 (.bool false) w fun j w=>
    Q1 j true w (fieldAddr P T.c t9 3) fun b6 w=>
    Q1 j true w (Q2 P T.m b6) fun b5 w=>
    Q1 j true w (J0 P .not b5) fun bg w=>
    Q1 j true w (fun w J=>J bg w) fun L w=>
    Q1 L false w (fieldAddr P T.a (.pointer (some q)) 4) fun b0 w=>
    Q1 L false w (Q2 P T.m b0) fun bl w=>
    Q1 j true w (pick P L (.bool true) bl) fun b1 w=>
    pick P j b1 (.bool false) w fun k w=>
    Q1 k true w (fieldAddr P T.a (.pointer (some q)) 3) fun b2 w=>
    Q1 k true w (Q2 P T.m b2) fun cc w=>
    Q1 k true w (J0 P .not cc) fun bv w=>
    Q1 k true w (fun w J=>J bv w) fun Q w=>
    Q1 Q false w (fieldAddr P T.c t9 3) fun bb w=>
    Q1 Q false w (Q2 P T.m bb) fun bs w=>
    Q1 k true w (pick P Q (.bool true) bs) fun cb w=>
    pick P k cb (.bool false) w fun b7 w=>
    lp (α:=Value×Value) (b7,(.int .i64 0)) w fun O b d_ w=>
     Q3 P .lss T.e (.tmp 158) (.tmp 159) b.2 f.2 w fun be w=>
     X1 be (
      dr w fun d n=>
      Q7 d (fun C=> ∀w:World,n w→Q1 b.1 true w (fieldAddr P T.a (.pointer (some q)) 7) (dk d C w)) fun C=>
      Q7 d (fun u=> ∀w:World,n w→Q1 b.1 true w (fun w J=>J b.2 w) (dk d u w)) fun u=>
      Q7 d (fun r=> ∀w:World,n w→Q1 b.1 true w (fieldAddr P T.c t9 0) (dk d r w)) fun r=>
      Q7 d (fun t=> ∀s:Value,∀w:World,n w→C s w→Q1 b.1 true w (Q2 P T.g s) (dk d t w)) fun t=>
      Q7 d (fun E=> ∀D:Value,∀z:Value,∀w:World,n w→t D w→u z w→Q1 b.1 true w (indexAddr P T.g D z) (dk d E w)) fun E=>
      Q7 d (fun A=> ∀y:Value,∀w:World,n w→E y w→Q1 b.1 true w (fieldAddr P T.c y 0) (dk d A w)) fun A=>
      Q7 d (fun N=> ∀p:Value,∀w:World,n w→A p w→Q1 b.1 true w (Q2 P T.b p) (dk d N w)) fun N=>
      Q7 d (fun H=> ∀B:Value,∀w:World,n w→r B w→Q1 b.1 true w (Q2 P T.b B) (dk d H w)) fun H=>
      ∀s:Value,∀z:Value,∀B:Value,∀D:Value,∀y:Value,∀p:Value,∀ak:Value,∀ad:Value,∀w:World,n w→C s w→u z w→r B w→t D w→E y w→A p w→N ak w→H ad w→
      Q1 b.1 true w (Q3 P .neq T.b (.tmp 170) (.tmp 172) ak ad) fun bn w=>
      pick P b.1 bn (.bool false) w fun bd w=>
      Q3 P .add T.e (.tmp 161) (.const (.int .i64 1)) b.2 (.int .i64 1) w fun bw w=>
      O (bd,bw) w) (
      Q3 P .add T.e (.tmp 128) (.const (.int .i64 1)) f.2 (.int .i64 1) w fun ca w=>
      M (b.1,ca) w)) (
    Q1 f.1 true w (fieldAddr P T.a (.pointer (some q)) 3) fun aj w=>
    Q1 f.1 true w (Q2 P T.m aj) fun aa w=>
    Q1 f.1 true w (J0 P .not aa) fun ag w=>
    Q1 f.1 true w (fun w J=>J ag w) fun g w=>
    Q1 g false w (fieldAddr P T.a (.pointer (some q)) 4) fun ah w=>
    Q1 g false w (Q2 P T.m ah) fun af w=>
    Q1 g false w (fun w J=>J af w) fun i w=>
    Q1 i true w (fieldAddr P T.a (.pointer (some q)) 1) fun V w=>
    Q1 i true w (Q2 P T.b V) fun ae w=>
    Q1 i true w (Q3 P .eql T.b (.tmp 185) (.const (.string ⟨#[79,98,106,101,99,116]⟩)) ae (.string ⟨#[79,98,106,101,99,116]⟩)) fun Y w=>
    Q1 g false w (pick P i Y (.bool false)) fun R w=>
    Q1 f.1 true w (pick P g (.bool true) R) fun am w=>
    pick P f.1 am (.bool false) w fun a w=>
    Q1 a true w (fieldAddr P T.a (.pointer (some q)) 4) fun al w=>
    Q1 a true w (Q2 P T.m al) fun Z w=>
    Q1 a true w (fun w J=>J Z w) fun m w=>
    Q1 m true w (fieldAddr P T.a (.pointer (some q)) 5) fun ab w=>
    Q1 m true w (Q2 P T.m ab) fun ac w=>
    Q1 a true w (pick P m ac (.bool false)) fun W w=>
    Q1 a true w (J0 P .not W) fun ai w=>
    pick P a ai (.bool false) w fun X w=>
    K X w)) an.sat (hq.up an) (g2.up an) fun w3 σ3 bc=>
  X0C (J:=fun v w=>Q1 v true w (fieldAddr P T.a (.pointer (some q)) 3) fun aj w=>
   Q1 v true w (Q2 P T.m aj) fun aa w=>
   Q1 v true w (J0 P .not aa) fun ag w=>
   Q1 v true w (fun w J=>J ag w) fun g w=>
   Q1 g false w (fieldAddr P T.a (.pointer (some q)) 4) fun ah w=>
   Q1 g false w (Q2 P T.m ah) fun af w=>
   Q1 g false w (fun w J=>J af w) fun i w=>
   Q1 i true w (fieldAddr P T.a (.pointer (some q)) 1) fun V w=>
   Q1 i true w (Q2 P T.b V) fun ae w=>
   Q1 i true w (Q3 P .eql T.b (.tmp 185) (.const (.string ⟨#[79,98,106,101,99,116]⟩)) ae (.string ⟨#[79,98,106,101,99,116]⟩)) fun Y w=>
   Q1 g false w (pick P i Y (.bool false)) fun R w=>
   Q1 v true w (pick P g (.bool true) R) fun am w=>
   pick P v am (.bool false) w fun a w=>
   Q1 a true w (fieldAddr P T.a (.pointer (some q)) 4) fun al w=>
   Q1 a true w (Q2 P T.m al) fun Z w=>
   Q1 a true w (fun w J=>J Z w) fun m w=>
   Q1 m true w (fieldAddr P T.a (.pointer (some q)) 5) fun ab w=>
   Q1 m true w (Q2 P T.m ab) fun ac w=>
   Q1 a true w (pick P m ac (.bool false)) fun W w=>
   Q1 a true w (J0 P .not W) fun ai w=>
   pick P a ai (.bool false) w fun X w=>
   K X w) bc.sat ((hq.up an).up bc) ((g3.up an).up bc) fun w4 σ4 ci=>
  X16 (K:=K) ci.sat (((hq.up an).up bc).up ci) (by rw[e];exact h _ _ (bm.trans (an.trans (bc.trans ci))))
 (repeat refine Hd.h ?_)
 refine ld bu hq rfl ?_
 refine Qq c.name cz ?_
 cases d1:W6 c.name with
 | false=>(repeat refine Hd.h ?_);exact ch false (by rw[d1];rfl)
 | true=>
  (repeat refine Hd.h ?_)
  refine ld bu hq rfl ?_
  (repeat refine Hd.h ?_)
  refine Qq c.super c3 ?_
  cases d2:W6 c.super with
  | false=>(repeat refine Hd.h ?_);exact ch false (by rw[d1,d2];rfl)
  | true=>
   (repeat refine Hd.h ?_)
   refine ld bu hq rfl ?_
   (repeat refine Hd.h ?_)
   refine ld bu hq rfl ?_
   (repeat refine Hd.h ?_)
   refine Ui ?_
   (repeat refine Hd.h ?_)
   exact ch _ (by rw[d1,d2];rfl))
theorem Q2p {c:Cla} {cs:List Value} (p:X4 w σ) (e:U5 σ c cs) (h: ∀w' k,Stp w σ w' k→K (I (L6 c)) w'):Q0 P F.b7 [.agg cs.toArray] w K:=Bh (by
 unfold Lp
 have j:=Rep.one (R:=U5) e
 obtain ⟨s,m,mv,rfl,r,l,o,t,n⟩:=e
 have e:U5 σ c _:=⟨s,m,mv,rfl,r,l,o,t,n⟩
 refine Y9 p fun q w1 σ1 a g=>?_
 unfold L6 at h
 refine Y7 a.sat g rfl ?_
 refine Q9i a.sat (RCl_lift e ⟨a.le⟩) fun y u b=>?_
 cases f:Xv c with
 | true=>simp only[f,if_true] at h;(try simp only[↓M1,M1,Mb,reduceIte]);exact h _ _ (a.trans b)
 | false=>
  simp only[f,Bool.false_eq_true,if_false] at h
  (try simp only[↓M1,M1,Mb,reduceIte])
  refine Y7 b.sat (g.up b) rfl ?_
  refine Q7A b.sat (RCl_lift e ⟨(a.trans b).le⟩) fun v z d=>?_
  rw[Q9C]
  cases i:Ld c with
  | true=>simp only[i,if_true] at h;(try simp only[↓M1,M1,Mb,reduceIte]);exact h _ _ (a.trans (b.trans d))
  | false=>simp only[i,Bool.false_eq_true,if_false] at h;(try simp only[↓M1,M1,Mb,reduceIte]);exact h _ _ (a.trans (b.trans d)))
end Go.Proofs.YtfppjenblllfaaaGreatDoor

namespace Go.Emb
open Go.RowKit Go.Hm
end Go.Emb
namespace Go.Hm
end Go.Hm
namespace Go.Proofs.YtfppjenblllfaaaGreatDoor
open Go.Emb Go.RowKit Go.Kd Go.Hm
variable {w : World} {K : Value → World → Prop} {σ : Q4} {l : List Cla}
theorem Q4S {a b:X0} (ok:Ok (Q6 l)) (f:a.length≤J3) (e:b.length≤J3):(R7 (Q6 l) a b).length≤J3:=by
 unfold R7
 split
 ·exact e
 split
 ·exact f
 split
 ·exact Nat.zero_le _
 split
 ·rename_i c g
  have d:=(Q5c ok.acy _ (Nat.lt_succ_self _) (List.mem_of_find?_eq_some g)).2
  have:=(ok.nm c (U3 d).2.1).1
  exact Nat.le_trans this (by decide)
 ·decide
end Go.Proofs.YtfppjenblllfaaaGreatDoor

namespace Go.Hm
open Go.Kd
structure Alike (l m : List Cla) : Prop where
  lk : lk l = lk m
  len : l.length = m.length
  weigh : weigh l [] = weigh m []
section
variable {l m : List Cla} (h : Alike l m)
include h
end
theorem X0g {l:List Cla} {frm:Nat}: ∀(f:Nat) (a:List Nat) (i:Nat),∀y∈G6 l frm f a i,y∈a∨frm≤y:=by
 intro f
 induction f with
 | zero=>intro a i y hy;exact .inl hy
 | succ f c=>
  intro a i y hy
  simp only[G6] at hy
  split at hy
  ·exact .inl hy
  ·split at hy
   ·exact .inl hy
   ·rename_i e _
    rcases List.mem_append.1 hy with hy | hy
    ·exact Vg (p:=fun y=>frm≤y) _ _ (fun b x _ z d=>c b _ z d) y hy
    ·simp at hy;omega
theorem Q8R {a:List Cla} (g:G2 a): ∀j∈U6 a 8,8≤j∧j<a.length:=by
 intro j d
 unfold U6 at d
 have f:=Vg (p:=fun y=>8≤y) _ _ (fun b x _ z c=>X0g _ b x z c) j d
 have i:=Vg (p:=fun y=>y<a.length) _ _ (fun b x e z c=>(Q4l g (by omega) _ b x (by
  have:=List.mem_of_mem_drop e
  simpa using this) z c).imp id (·.1)) j d
 exact ⟨f.resolve_left (by simp),i.resolve_left (by simp)⟩
end Go.Hm
namespace Go.Proofs.YtfppjenblllfaaaGreatDoor
open Go.Emb Go.RowKit Go.Kd Go.Hm
end Go.Proofs.YtfppjenblllfaaaGreatDoor

namespace Go.Hm
open Go.Kd
theorem Q7e {a:List Cla} {m:Nat} (b:m<a.length):Y4 a (Y1 a m)=some m↔Y4 (a.take m) (Y1 a m)=none:=by
 have e:Y1 a m=a[m].name:=by unfold Y1;rw[List.getD_eq_getElem?_getD,List.getElem?_eq_getElem b];rfl
 unfold Y4
 rw[List.findIdx?_eq_some_iff_getElem,List.findIdx?_eq_none_iff]
 constructor
 ·rintro ⟨i,k,g⟩ c d
  obtain ⟨j,f,rfl⟩:=List.mem_take_iff_getElem.1 d
  simpa using g j (by omega)
 ·intro h
  refine ⟨b,by simp[e],fun j f=>?_⟩
  simpa using h a[j] (List.mem_take_iff_getElem.2 ⟨j,by omega,rfl⟩)
theorem Q6A {a:List Cla} (d:G2 a) {m:Nat} (b:m<a.length):Zp a (Y1 a m) (Y1 a m)=F8 a a[m]:=by
 have c:Y1 a m=a[m].name:=by unfold Y1;rw[List.getD_eq_getElem?_getD,List.getElem?_eq_getElem b];rfl
 unfold Zp F8
 rw[Qp d b,List.getD_eq_getElem?_getD,List.getElem?_eq_getElem b]
 simp only[Option.getD_some,c]
end Go.Hm
namespace Go.Proofs.YtfppjenblllfaaaGreatDoor
open Go.Emb Go.RowKit Go.Kd Go.Hm
variable {w : World} {K : Value → World → Prop} {σ : Q4} {l : List Cla}
theorem Q6v: ∀c∈B1,Xv c=false:=by decide
theorem Q75 {c:Cla} (h:L6 c=0):Xv c=false:=by
 unfold L6 at h
 split at h
 ·cases h
 ·rename_i a;exact eq_false_of_ne_true a
set_option maxHeartbeats 4000000 in
theorem X0x {lv:Value} (hs:X4 w σ) (hl:Sl 8 U5 σ lv l) (cx:l.length≤900)
 (C: ∀i e w' B,Eg L6 l=some (i,e)→Stp w σ w' B→K (.tuple #[.slice none 0 0,I i,I e]) w')
 (h0: ∀v w' B,Eg L6 l=none→Stp w σ w' B→Sl 8 U5 B v (Q6 l)→Ok (Q6 l)→G2 (Q6 l)→K (.tuple #[v,I 0,I 0]) w'):Q0 P F.bs [lv] w K:=Pi (by
 unfold Nw
 have r:B1.length=8:=rfl
 have c3:(Q6 l).length=8+l.length:=by simp[Q6,r]
 refine Q7J hs fun x0 w1 σ1 bx bg=>?_
 refine Q6D bg ?_
 rw[r]
 refine O8 l.length (fun n x w'=> ∃B,Stp w σ w' B∧V5 w.heap.size T.a 8 U5 B w' x (B1++l.take n)∧L2 L6 l 0=L2 L6 (l.drop n) n)
  ⟨σ1,bx,by simpa using bg,rfl⟩ fun n x w4 d H f=>?_
 obtain ⟨σ4,ab,a4,E⟩:=f
 have aa:=hl.up ab
 refine Q8 aa ?_
 refine Z1 ?_
 refine Q5 (fun hh=>?_) (fun hh=>?_)
 ·have a:n<l.length:=by simpa using hh
  obtain ⟨bp,ca,bw,p1,r1⟩:=aa.elC a
  refine J9 aa a ?_
  refine Y7 ab.sat p1 rfl ?_
  refine Q2p ab.sat r1 fun w6 σ6 Z=>?_
  have b8:=ab.trans Z
  have U:=Ue a E
  refine Xg ?_
  refine Q5 (fun m=>?_) (fun m=>?_)
  ·have z: ¬L6 l[n]=0:=by simpa using m
   rw[if_neg z] at U
   refine C _ _ _ _ ?_ b8
   unfold Eg
   rw[U]
  ·have hz:L6 l[n]=0:=by simpa using m
   rw[if_pos hz] at U
   refine J9 (aa.up Z) a ?_
   refine Y7 Z.sat (p1.up Z) rfl ?_
   have cu:=a4.up Z
   have r6:=RCl_lift r1 ⟨Z.le⟩
   refine Jy (R:=U5) (x:=l[n]) b8 cu (by simpa [Value.cells] using r6) rfl rfl rfl (by simp[r];omega) (by simp[r];omega) fun s v' w9 σ9 c6 o cl a5=>?_
   refine D5 ?_
   refine Z6 aa.max a ⟨σ9,o,?_,U⟩
   rw[List.take_add_one,List.getElem?_eq_getElem a,←List.append_assoc]
   exact cl
 have a: ¬n<l.length:=by simpa using hh
 rw[List.take_of_length_le (by omega)] at a4
 rw[List.drop_eq_nil_of_le (by omega)] at E
 have E:L2 L6 l 0=none:=E
 have cd:=F3 E
 have bh: ∀c∈l,P7 c∧Nm c∧c.name≠[]:=fun c hc=>Rz (cd c hc)
 have q: ∀c∈Q6 l,P7 c:=fun c hc=>by
  rcases List.mem_append.1 hc with hc | hc
  ·exact (Zc c hc).1
  ·exact (bh c hc).1
 have a0: ∀c∈Q6 l,Nm c:=fun c hc=>by
  rcases List.mem_append.1 hc with hc | hc
  ·exact (Zc c hc).2.1
  ·exact (bh c hc).2.1
 have ad: ∀c∈Q6 l,Xv c=false:=fun c hc=>by
  rcases List.mem_append.1 hc with hc | hc
  ·exact Q6v c hc
  ·exact Q75 (cd c hc)
 have ay:(Q6 l).length≤100000:=by omega
 unfold Eg at C h0
 rw[E] at C h0
 simp only at C h0
 obtain ⟨σ5,p,D,dv,c0⟩:=a4.keep ab
 change Sl 8 U5 σ5 x (Q6 l) at D
 clear a4 ab aa a hh H E bg bx
 have t: ∀{n:Nat} (H:n<l.length),∃(h:8+n<(Q6 l).length),(Q6 l)[8+n]=l[n]:=fun {n} H=>⟨by omega,by
  unfold Q6
  rw[List.getElem_append_right (by rw[r];omega)]
  congr 1
  rw[r];omega⟩
 have cg: ∀{n:Nat} (H:n<l.length),Y1 (Q6 l) (8+n)=l[n].name:=fun {n} H=>by
  obtain ⟨C,h2⟩:=t H
  rw[Bo C,h2]
 have cb: ∀j,j<8→(Y4 ((Q6 l).take j) (Y1 (Q6 l) j)).isSome=false:=by
  have hd: ∀j,j<8→(Y4 (B1.take j) (Y1 B1 j)).isSome=false:=by decide
  intro j hj
  have e1:(Q6 l).take j=B1.take j:=by unfold Q6;rw[List.take_append_of_le_length (by rw[r];omega)]
  have e2:Y1 (Q6 l) j=Y1 B1 j:=by
   unfold Y1 Q6;rw[List.getD_eq_getElem?_getD,List.getD_eq_getElem?_getD,List.getElem?_append_left (by rw[r];omega)]
  rw[e1,e2];exact hd j hj
 refine Z8 l.length (fun n w'=>Stp w σ w' σ5∧ ∀j,j<8+n→(Y4 ((Q6 l).take j) (Y1 (Q6 l) j)).isSome=false) ⟨p,by simpa using cb⟩ fun n w5 d H f=>?_
 clear p
 obtain ⟨p,a3⟩:=f
 have aj:=hl.up p
 refine Q8 aj ?_
 refine Z1 ?_
 refine Q5 (fun hh=>?_) (fun hh=>?_)
 ·have a:n<l.length:=by simpa using hh
  obtain ⟨bp,ca,bw,p1,r1⟩:=aj.elC a
  refine J9 aj a ?_
  (try simp only[↓M1,M1,Mb,reduceIte])
  refine ld p.sat p1 rfl ?_
  refine P5 p.sat D ?_
  rw[B5 (by omega) (by omega)]
  refine Xg ?_
  obtain ⟨X,e8⟩:=t a
  rw[←cg a]
  have b3:=Q7e X
  cases ao:Y4 ((Q6 l).take (8+n)) (Y1 (Q6 l) (8+n)) with
  | none=>
   rw[b3.2 ao]
   have e:decide (W5 (some (8+n))=(8:Nat)+(n:Int))=true:=by simp[W5]
   rw[e]
   (try simp only[↓M1,M1,Mb,reduceIte])
   refine Y2 aj.max a ⟨p,fun j hj=>?_⟩
   by_cases ej:j=8+n
   ·rw[ej,ao];rfl
   ·exact a3 j (by omega)
  | some i=>
   have z:Y4 (Q6 l) (Y1 (Q6 l) (8+n))≠some (8+n):=fun e=>by rw[b3.1 e] at ao;cases ao
   have e:decide (W5 (Y4 (Q6 l) (Y1 (Q6 l) (8+n)))=(8:Nat)+(n:Int))=false:=by
    rw[decide_eq_false_iff_not]
    intro e
    cases hf:Y4 (Q6 l) (Y1 (Q6 l) (8+n)) with
    | none=>rw[hf] at e;simp only[W5] at e;omega
    | some k=>
     rw[hf] at e z
     simp only[W5] at e
     apply z
     congr 1;omega
   rw[e]
   (try simp only[↓M1,M1,Mb,reduceIte])
   have O:Ei (Q6 l)=some (8+n):=by
    unfold Ei
    rw[List.find?_range_eq_some]
    refine ⟨by rw[ao];rfl,by simpa using X,fun j hj=>by rw[a3 j hj];rfl⟩
   refine C _ _ _ _ ?_ p
   rw[O]
   have:((8+n:Nat):Int)-8=n:=by omega
   simp only[this]
 have a: ¬n<l.length:=by simpa using hh
 have O:Ei (Q6 l)=none:=by
  unfold Ei
  rw[List.find?_eq_none]
  intro j hj
  rw[a3 j (by have:=List.mem_range.1 hj;omega)];simp
 rw[O] at C h0
 simp only at C h0
 have g:=Bs O
 clear a3 hh a H aj cb
 refine Z8 l.length (fun n w'=> ∃B,Stp w σ w' B∧SLe σ5 B∧L2 (fun c=>(L4 (Q6 l) c:Int)) l 0=L2 (fun c=>(L4 (Q6 l) c:Int)) (l.drop n) n) ⟨σ5,p,SLe.refl _,rfl⟩ fun n w6 d H f=>?_
 obtain ⟨σ9,o,ar,ac⟩:=f
 have aw:=hl.up o
 refine Q8 aw ?_
 refine Z1 ?_
 refine Q5 (fun hh=>?_) (fun hh=>?_)
 ·have a:n<l.length:=by simpa using hh
  obtain ⟨bp,ca,bw,p1,r1⟩:=aw.elC a
  refine J9 aw a ?_
  refine Y7 o.sat p1 rfl ?_
  have W:=Ue a ac
  refine Q6F o.sat (D.lift ar) r1 fun w8 cp ap=>?_
  refine Xg ?_
  refine Q5 (fun m=>?_) (fun m=>?_)
  ·have z: ¬(L4 (Q6 l) l[n]:Int)=0:=by simpa using m
   rw[if_neg z] at W
   refine C _ _ _ _ ?_ (o.trans ap)
   rw[W]
  ·have hz:(L4 (Q6 l) l[n]:Int)=0:=by simpa using m
   rw[if_pos hz] at W
   refine D5 ?_
   exact Y2 aw.max a ⟨cp,o.trans ap,ar.more ⟨ap.le⟩,W⟩
 have a: ¬n<l.length:=by simpa using hh
 rw[List.drop_eq_nil_of_le (by omega)] at ac
 have ac:L2 (fun c=>(L4 (Q6 l) c:Int)) l 0=none:=ac
 rw[ac] at C h0
 simp only at C h0
 have bn:=F3 ac
 clear hh a H p aw
 refine Q2C o.sat (D.lift ar) g (by omega) (by omega) q fun vb dc b5 am av=>?_
 have b:=o.trans am
 have bb:=ar.more ⟨am.le⟩
 have az:(Xj (Q6 l)).length=(Q6 l).length:=by simp[Xj]
 refine Z8 l.length (fun n w'=>Stp w σ w' b5∧ ∀j (hj:j<l.length),j<n→F8 (Q6 l) l[j]=false) ⟨b,fun j _ h=>by omega⟩ fun n da d H f=>?_
 clear b
 obtain ⟨b,a1⟩:=f
 have af:=hl.up b
 refine Q8 af ?_
 refine Z1 ?_
 refine Q5 (fun hh=>?_) (fun hh=>?_)
 ·have a:n<l.length:=by simpa using hh
  obtain ⟨X,e8⟩:=t a
  refine Cw ⟨by omega,by omega⟩ ?_
  have ec:((8:Nat):Int)+(n:Int)=((8+n:Nat):Int):=by omega
  rw[ec]
  obtain ⟨db,pb,_,rv,rfl,rb⟩:=av.el (i:=8+n) (by rw[az];exact X)
  have bz:(Xj (Q6 l))[8+n]'(by rw[az];exact X)=(List.range (Q6 l).length).map fun j=>Zp (Q6 l) (Y1 (Q6 l) (8+n)) (Y1 (Q6 l) j):=by simp[Xj]
  rw[bz] at rb
  obtain ⟨cr,bi,_,aq⟩:=rb.el (i:=8+n) (by simpa using X)
  have aq:cr=_:=aq
  subst aq
  simp only[List.getElem_map,List.getElem_range] at bi
  rw[Q6A g X,e8] at bi
  refine J9 av (by rw[az];exact X) ?_
  refine X8 b.sat pb rfl ?_
  refine Cw ⟨by omega,by omega⟩ ?_
  rw[ec]
  refine J9 rb (by simpa using X) ?_
  refine X8 b.sat bi rfl ?_
  cases bk:F8 (Q6 l) l[n] with
  | true=>
   (try simp only[↓M1,M1,Mb,reduceIte])
   have bf:l.findIdx? (F8 (Q6 l))=some n:=by
    rw[List.findIdx?_eq_some_iff_getElem]
    exact ⟨a,bk,fun j hj=>by simpa using a1 j (by omega) hj⟩
   refine C _ _ _ _ ?_ b
   rw[bf]
  | false=>
   (try simp only[↓M1,M1,Mb,reduceIte])
   refine Y2 af.max a ⟨b,fun j hj dl=>?_⟩
   by_cases e:j=n
   ·subst e;exact bk
   ·exact a1 j hj (by omega)
 have a: ¬n<l.length:=by simpa using hh
 have a6: ∀c∈l,F8 (Q6 l) c=false:=fun c hc=>by
  obtain ⟨j,hj,rfl⟩:=List.getElem_of_mem hc
  exact a1 j hj (by omega)
 have bf:l.findIdx? (F8 (Q6 l))=none:=by
  rw[List.findIdx?_eq_none_iff];exact a6
 rw[bf] at C h0
 simp only at C h0
 clear a1 hh a H af av am o az
 have ak:=Q4R g (fun c hc=>(bh c hc).2.2) a6
 have an:Q90 (Q6 l):=fun c hc u hu=>by
  rcases List.mem_append.1 hc with hc | hc
  ·rw[(Zc c hc).2.2] at hu;simp at hu
  ·have:=bn c hc
   unfold L4 at this
   split at this
   ·simp at this
   ·split at this
    ·simp at this
    ·rename_i y
     have y:c.like.any (O5 (Q6 l))=false:=eq_false_of_ne_true y
     have:=List.any_eq_false.1 y u hu
     unfold O5 at this
     cases hd:lk (Q6 l) u with
     | none=>rw[hd] at this;simp at this
     | some d=>exact ⟨d,rfl⟩
 have bu:Ok (Q6 l):=⟨ak,ay,q,an,a0⟩
 have bo: ∀i (hi:i<(Q6 l).length),8≤i→ ∀u∈J5 (Q6 l)[i],∃j,Y4 (Q6 l) u=some j:=fun i hi X u hu=>by
  have ag:i-8<l.length:=by omega
  obtain ⟨ds,e8⟩:=t ag
  have ct:(Q6 l)[i]=l[i-8]:=by rw[←e8];congr 1;omega
  rw[ct] at hu
  have a8:=List.getElem_mem ag
  rcases List.mem_cons.1 hu with hu | hu
  ·have:=bn _ a8
   unfold L4 at this
   split at this
   ·simp at this
   ·rename_i y
    unfold P2 at y
    rw[←hu] at y
    cases hd:lk (Q6 l) u with
    | none=>rw[hd] at y;simp at y
    | some d=>obtain ⟨_,_,j,hj,_⟩:=U3 hd;exact ⟨j,hj⟩
  ·obtain ⟨d,hd⟩:=an _ (List.mem_append_right _ a8) u hu
   obtain ⟨_,_,j,hj,_⟩:=U3 hd;exact ⟨j,hj⟩
 refine Pa (R:=Uo) (e:=T.e) b (by decide) fun du c5 a9 be _=>?_
 refine O8 l.length (fun n x' w'=> ∃B L,Stp w σ w' B∧SLe σ5 B∧V5 w.heap.size T.e 1 Uo B w' x' (ints L)∧Pf (Q6 l) L∧L=(((List.range (Q6 l).length).drop 8).take n).foldl (fun L i=>Qa (Q6 l) 8 L i) [])
  ⟨b5,[],b.trans a9,bb,be,⟨List.nodup_nil,by simp⟩,rfl⟩ fun n x' de d H f=>?_
 clear be a9 b bb ar
 obtain ⟨di,L,V,Q,al,ae,ah⟩:=f
 have ai:=hl.up V
 refine Q8 ai ?_
 refine Z1 ?_
 refine Q5 (fun hh=>?_) (fun hh=>?_)
 ·have a:n<l.length:=by simpa using hh
  obtain ⟨X,e8⟩:=t a
  refine Cw ⟨by omega,by omega⟩ ?_
  have ec:((8:Nat):Int)+(n:Int)=((8+n:Nat):Int):=by omega
  rw[ec]
  refine X0F ak g (by omega) q (by omega) bo ((Q6 l).length+1) X (Nat.lt_succ_of_le (Q0b _ _)) ae V (D.lift Q) al fun c4 dd cv bl bm b6=>?_
  refine D5 ?_
  refine Z6 ai.max a ⟨cv,_,bl,Q.more bm,b6,Ge ak g (by omega) _ _ _ X ae,?_⟩
  rw[List.take_add_one,List.getElem?_drop,List.getElem?_range X,List.foldl_append,←ah]
  rfl
 have a: ¬n<l.length:=by simpa using hh
 have cj:n=l.length:=by omega
 subst cj
 have b1:L=U6 (Q6 l) 8:=by
  rw[ah,List.take_of_length_le (by rw[List.length_drop,List.length_range];omega)];rfl
 subst b1
 clear ah hh a H
 have dh:=ae.len
 have cq:=Q8R g
 obtain ⟨cf,b0,br,a7,_⟩:=al.keep V
 have ch:=Q.more ⟨a7⟩
 clear al V a7 Q ai
 have ag:(ints (U6 (Q6 l) 8)).length=(U6 (Q6 l) 8).length:=by simp
 refine Z8 (U6 (Q6 l) 8).length (fun n w'=> ∃B,Stp w σ w' B∧SLe cf B∧ ∀j∈(U6 (Q6 l) 8).take n,U8 (Q6 l) ((Q6 l).getD j Cla.zero)=0) ⟨cf,b0,SLe.refl _,by simp⟩ fun n c9 d H f=>?_
 obtain ⟨c8,M,N,a2⟩:=f
 have Y:=br.lift N
 refine Q8 Y ?_
 rw[ag]
 refine Z1 ?_
 refine Q5 (fun hh=>?_) (fun hh=>?_)
 ·have a:n<(U6 (Q6 l) 8).length:=by simpa using hh
  have bv:n<(ints (U6 (Q6 l) 8)).length:=by rw[ag];exact a
  refine J9 Y bv ?_
  obtain ⟨cs,pc,_,cm⟩:=Y.el bv
  obtain ⟨rfl,_⟩:=cm
  simp only[List.getElem_map] at pc
  refine X8 M.sat pc rfl ?_
  have b7:=(cq _ (List.getElem_mem a)).2
  have a5:(Q6 l).getD (U6 (Q6 l) 8)[n] Cla.zero=(Q6 l)[(U6 (Q6 l) 8)[n]]:=by rw[List.getD_eq_getElem?_getD,List.getElem?_eq_getElem b7];rfl
  refine Q5B M.sat (D.lift (ch.more N)) bu g (by omega) ad b7 fun dm b2 A=>?_
  have bd:=M.trans A
  refine Xg ?_
  refine Q5 (fun m=>?_) (fun m=>?_)
  ·have z: ¬U8 (Q6 l) (Q6 l)[(U6 (Q6 l) 8)[n]]=0:=by simpa using m
   have cw:=Y.up A
   have b9:=pc.up A
   refine V2 A.sat ?_
   (repeat refine U4 Qn ?_)
   (intros;(repeat (rename_i hx;subst hx));(try simp only[↓M2,M2,Mb,reduceIte]))
   rename_i ck bc
   refine X8 bc.sat b9 rfl ?_
   refine Dm ⟨by omega,by omega⟩ ?_
   have J:(U6 (Q6 l) 8).find? (fun j=> !decide (U8 (Q6 l) ((Q6 l).getD j Cla.zero)=0))=some (U6 (Q6 l) 8)[n]:=by
    rw[List.find?_eq_some_iff_getElem]
    refine ⟨by rw[a5];simpa using z,n,a,rfl,fun j hj=>?_⟩
    have:=a2 _ (List.mem_take_iff_getElem.2 ⟨j,by omega,rfl⟩)
    rw[this];simp
   have:=C (((U6 (Q6 l) 8)[n]:Int)-8) (U8 (Q6 l) (Q6 l)[(U6 (Q6 l) 8)[n]]) ck b2 (by rw[J];simp only[a5]) (bd.trans bc.stp)
   exact this
  ·have hz:U8 (Q6 l) (Q6 l)[(U6 (Q6 l) 8)[n]]=0:=by simpa using m
   refine D5 ?_
   refine Y2 (by omega) a ⟨b2,bd,N.more ⟨A.le⟩,fun j hj=>?_⟩
   rw[List.take_add_one,List.getElem?_eq_getElem a] at hj
   rcases List.mem_append.1 hj with hj | hj
   ·exact a2 j hj
   ·simp at hj;subst hj;rw[a5];exact hz
 ·have a: ¬n<(U6 (Q6 l) 8).length:=by simpa using hh
  rw[List.take_of_length_le (by omega)] at a2
  have J:(U6 (Q6 l) 8).find? (fun j=> !decide (U8 (Q6 l) ((Q6 l).getD j Cla.zero)=0))=none:=by
   rw[List.find?_eq_none]
   intro j hj
   rw[a2 j hj];simp
  rw[J] at h0
  exact h0 _ _ _ rfl M (D.lift (ch.more N)) bu g)
end Go.Proofs.YtfppjenblllfaaaGreatDoor

namespace Go.Hm
open Go.Kd
def Q7v:Ins:=⟨[105,110,116],1,[]⟩
def Pd:Ins:=⟨[114,101,116,117,114,110],0,[]⟩
def kA:X0:=[65]
def fX:Fld:=⟨[120],V3,false⟩
def Q06:Fld:=⟨[110,101,120,116],kA,false⟩
def fL:Fld:=⟨[108],[65,91,93],false⟩
def mF:Hm.Met:=⟨[102],[V3,kA],V3,false,3,[Q7v,Pd],[]⟩
def mG:Hm.Met:=⟨[103],[],[],false,1,[Pd],[]⟩
def cA:Cla:=⟨kA,Z7,[],false,false,false,[fX,Q06],[mF,mG]⟩
def cB:Cla:=⟨[66],kA,[[73]],false,false,false,[fL],[]⟩
def cI:Cla:=⟨[73],Z7,[],true,true,false,[],[]⟩
def cD:Cla:=⟨[68],Z7,[],false,true,false,[],[]⟩
def Zj:List Cla:=[cA,cB,cI,cD]
end Go.Hm
namespace Go.Proofs.YtfppjenblllfaaaGreatDoor
open Go.Emb Go.RowKit Go.Kd Go.Hm
variable {w w' : World} {K : Value → World → Prop} {σ σ' : Q4} {ds : List Value} {l : List Cla} {hp tv : Value}
set_option maxRecDepth 100000 in
theorem Q0V:Eg L6 Zj=none:=by decide+kernel
theorem X0Y: ∀c∈Zj,P7 c:=X1J (by decide)
theorem X15:Wf Zj:=X2b Q0V
set_option maxHeartbeats 1000000 in
theorem Q2L (Y:X4 w σ) (h: ∀v w' σ',Stp w σ w' σ'→Sl 8 U5 σ' v Zj→K v w'):Q0 P F.av [] w K:=Rv (by
 unfold Jz
 refine W0 (cells:= #[S Q7v.op,I 1,S []]) (by kernel_rfl) ?_
 refine W0 (cells:= #[S Pd.op,I 0,S []]) (by kernel_rfl) ?_
 refine D6 (R:=I3) (sz:=3) Y [.agg #[S Q7v.op,I 1,S []], .agg #[S Pd.op,I 0,S []]] [Q7v,Pd] rfl rfl (by simp;exact ⟨rfl,rfl⟩) rfl ⟨⟨rfl,by decide,by decide,by decide⟩,⟨rfl,by decide,by decide,by decide⟩,trivial⟩ fun v1 w1 σ1 n d=>?_
 refine W0 (cells:= #[S fX.name,S fX.kind, .bool false]) (by kernel_rfl) ?_
 refine W0 (cells:= #[S Q06.name,S Q06.kind, .bool false]) (by kernel_rfl) ?_
 refine D6 (R:=E0) (sz:=3) n.sat [.agg #[S fX.name,S fX.kind, .bool false], .agg #[S Q06.name,S Q06.kind, .bool false]] [fX,Q06] rfl rfl (by simp;exact ⟨rfl,rfl⟩) rfl ⟨⟨rfl,by decide,by decide⟩,⟨rfl,by decide,by decide⟩,trivial⟩ fun v2 w2 σ2 i f=>?_
 refine D6 (R:=Y0) (sz:=1) i.sat [S V3,S kA] [V3,kA] rfl rfl (by simp;exact ⟨rfl,rfl⟩) rfl ⟨⟨rfl,by decide⟩,⟨rfl,by decide⟩,trivial⟩ fun v3 w3 σ3 c j=>?_
 have z:=d;have r:=f;have m:=j
 obtain ⟨V,Q,rfl,_⟩:=z
 obtain ⟨X,W,rfl,_⟩:=r
 obtain ⟨D,M,rfl,_⟩:=m
 have d:=(d.up i).up c
 have f:=f.up c
 refine W0 (cells:= #[S mF.name, .slice D 2 M,S V3, .bool false,I 3, .slice V 2 Q, .slice none 0 0]) (by kernel_rfl) ?_
 refine W0 (cells:= #[S Pd.op,I 0,S []]) (by kernel_rfl) ?_
 refine D6 (R:=I3) (sz:=3) c.sat [.agg #[S Pd.op,I 0,S []]] [Pd] rfl rfl (by simp;rfl) rfl ⟨⟨rfl,by decide,by decide,by decide⟩,trivial⟩ fun v4 w4 σ4 a u=>?_
 have o:=u
 obtain ⟨C,E,rfl,_⟩:=o
 refine W0 (cells:= #[S mG.name, .slice none 0 0,S [], .bool false,I 1, .slice C 1 E, .slice none 0 0]) (by kernel_rfl) ?_
 refine D6 (R:=M5) (sz:=7) a.sat [.agg #[S mF.name, .slice D 2 M,S V3, .bool false,I 3, .slice V 2 Q, .slice none 0 0], .agg #[S mG.name, .slice none 0 0,S [], .bool false,I 1, .slice C 1 E, .slice none 0 0]] [mF,mG] rfl rfl (by simp;exact ⟨rfl,rfl⟩) rfl
  ⟨⟨_,_,_,rfl,j.up a,d.up a,Sl.nil,by decide,by decide,by decide⟩,⟨_,_,_,rfl,Sl.nil,u,Sl.nil,by decide,by decide,by decide⟩,trivial⟩ fun v5 w5 σ5 g k=>?_
 have y:=k
 obtain ⟨L,U,rfl,_⟩:=y
 refine W0 (cells:= #[S kA,S Z7, .slice none 0 0, .bool false, .bool false, .bool false, .slice X 2 W, .slice L 2 U]) (by kernel_rfl) ?_
 refine D6 (R:=Y0) (sz:=1) g.sat [S [73]] [[73]] rfl rfl (by simp;rfl) rfl ⟨⟨rfl,by decide⟩,trivial⟩ fun v6 w6 Z e t=>?_
 have s:=t
 obtain ⟨J,O,rfl,_⟩:=s
 refine W0 (cells:= #[S fL.name,S fL.kind, .bool false]) (by kernel_rfl) ?_
 refine D6 (R:=E0) (sz:=3) e.sat [.agg #[S fL.name,S fL.kind, .bool false]] [fL] rfl rfl (by simp;rfl) rfl ⟨⟨rfl,by decide,by decide⟩,trivial⟩ fun v7 w7 σ7 b q=>?_
 have p:=q
 obtain ⟨N,H,rfl,_⟩:=p
 refine W0 (cells:= #[S cB.name,S kA, .slice J 1 O, .bool false, .bool false, .bool false, .slice N 1 H, .slice none 0 0]) (by kernel_rfl) ?_
 refine W0 (cells:= #[S cI.name,S Z7, .slice none 0 0, .bool true, .bool true, .bool false, .slice none 0 0, .slice none 0 0]) (by kernel_rfl) ?_
 refine W0 (cells:= #[S cD.name,S Z7, .slice none 0 0, .bool false, .bool true, .bool false, .slice none 0 0, .slice none 0 0]) (by kernel_rfl) ?_
 refine D6 (R:=U5) (sz:=8) b.sat [.agg #[S kA,S Z7, .slice none 0 0, .bool false, .bool false, .bool false, .slice X 2 W, .slice L 2 U], .agg #[S cB.name,S kA, .slice J 1 O, .bool false, .bool false, .bool false, .slice N 1 H, .slice none 0 0], .agg #[S cI.name,S Z7, .slice none 0 0, .bool true, .bool true, .bool false, .slice none 0 0, .slice none 0 0], .agg #[S cD.name,S Z7, .slice none 0 0, .bool false, .bool true, .bool false, .slice none 0 0, .slice none 0 0]] Zj rfl rfl (by simp;exact ⟨rfl,rfl,rfl,rfl⟩) rfl
  ⟨⟨_,_,_,rfl,Sl.nil,(((f.up a).up g).up e).up b,(k.up e).up b,by decide,by decide⟩,⟨_,_,_,rfl,t.up b,q,Sl.nil,by decide,by decide⟩,⟨_,_,_,rfl,Sl.nil,Sl.nil,Sl.nil,by decide,by decide⟩,⟨_,_,_,rfl,Sl.nil,Sl.nil,Sl.nil,by decide,by decide⟩,trivial⟩ fun v8 w8 σ8 A B=>?_
 exact h _ _ _ ((((((((n.trans i).trans c).trans a).trans g).trans e).trans b)).trans A) B)
end Go.Proofs.YtfppjenblllfaaaGreatDoor

namespace Go.Proofs.YtfppjenblllfaaaGreatDoor
open Go.Emb Go.RowKit Go.Kd Go.Hm
variable {w w' : World} {K : Value → World → Prop} {σ σ' : Q4} {v u : Value}
theorem Q41 {xs ys:List X0} (y:X4 w σ) (c:Sl 1 Y0 σ v xs) (s:Sl 1 Y0 σ u ys) (h: ∀w',Below w.heap.size w w'→K (.bool (decide (xs=ys))) w'):Q0 P F.a1 [v,u] w K:=Vz (by
 have k:=c.max
 unfold K7
 refine Q8 c ?_
 refine Q8 s ?_
 refine Xg ?_
 by_cases l:xs.length=ys.length
 case neg=>
  rw[show (!decide ((xs.length:Int)=(ys.length:Nat)))=true from by simp;omega]
  refine V9 ?_
  have e:decide (xs=ys)=false:=decide_eq_false fun e=>l (by rw[e])
  rw[e] at h
  exact h _ (Below.refl _ _)
 rw[show (!decide ((xs.length:Int)=(ys.length:Nat)))=false from by simp[l]]
 refine V7 ?_
 first | refine Q8 c ?_ | skip
 refine Z8 xs.length (fun i w'=>Stp w σ w' σ∧ ∀j (g:j<xs.length) (f:j<ys.length),j<i→xs[j]=ys[j]) ⟨Stp.refl y,fun _ _ _ h=>absurd h (Nat.not_lt_zero _)⟩ fun i w1 d C t=>?_
 obtain ⟨p,q⟩:=t
 first | refine Q8 c ?_ | skip
 refine Z1 ?_
 refine Q5 (fun n=>?_) (fun n=>?_)
 ·have b:i<xs.length:=by simpa using n
  have o:i<ys.length:=by omega
  obtain ⟨A,_⟩:=Sl.elS c b
  obtain ⟨z,_⟩:=Sl.elS s o
  refine V2 p.sat ?_
  (repeat refine U4 Qn ?_)
  (intros;(repeat (rename_i a;subst a));(try simp only[↓M2,M2,Mb,reduceIte]))
  rename_i B m
  have r:=p.trans m.stp
  by_cases a:xs[i]=ys[i]
  ·simp only[decide_eq_true a,Bool.not_true,Uy]
   (try simp only[↓M1,M1,Mb,reduceIte])
   exact Y2 k b ⟨r,fun j g f E=>by
    by_cases e:j=i
    ·subst e;exact a
    ·exact q j g f (by omega)⟩
  ·simp only[decide_eq_false a,Bool.not_false,Nd]
   have e:decide (xs=ys)=false:=decide_eq_false fun e=>a (by subst e;rfl)
   rw[e] at h
   exact h _ r.bel
 ·have D:i=xs.length:=by
   have: ¬i<xs.length:=by simpa using n
   omega
  have e:decide (xs=ys)=true:=decide_eq_true (List.ext_getElem l fun j g f=>q j g f (by omega))
  rw[e] at h
  exact h _ p.bel)
theorem Q3c {xs ys:List X0} (y:X4 w σ) (c:Sl 1 Y0 σ v xs) (s:Sl 1 Y0 σ u ys) (h: ∀w',Below w.heap.size w w'→K (.bool (decide (xs=ys))) w'):Q0 P F.aF [v,u] w K:=Ko (by
 have k:=c.max
 unfold Lr
 refine Q8 c ?_
 refine Q8 s ?_
 refine Xg ?_
 by_cases l:xs.length=ys.length
 case neg=>
  rw[show (!decide ((xs.length:Int)=(ys.length:Nat)))=true from by simp;omega]
  refine V9 ?_
  have e:decide (xs=ys)=false:=decide_eq_false fun e=>l (by rw[e])
  rw[e] at h
  exact h _ (Below.refl _ _)
 rw[show (!decide ((xs.length:Int)=(ys.length:Nat)))=false from by simp[l]]
 refine V7 ?_
 first | refine Q8 c ?_ | skip
 refine Z8 xs.length (fun i w'=>Stp w σ w' σ∧ ∀j (g:j<xs.length) (f:j<ys.length),j<i→xs[j]=ys[j]) ⟨Stp.refl y,fun _ _ _ h=>absurd h (Nat.not_lt_zero _)⟩ fun i w1 d C t=>?_
 obtain ⟨p,q⟩:=t
 first | refine Q8 c ?_ | skip
 refine Z1 ?_
 refine Q5 (fun n=>?_) (fun n=>?_)
 ·have b:i<xs.length:=by simpa using n
  have o:i<ys.length:=by omega
  obtain ⟨A,_⟩:=Sl.elS c b
  obtain ⟨z,_⟩:=Sl.elS s o
  refine V2 p.sat ?_
  (repeat refine U4 Qn ?_)
  (intros;(repeat (rename_i a;subst a));(try simp only[↓M2,M2,Mb,reduceIte]))
  rename_i B m
  have r:=p.trans m.stp
  by_cases a:xs[i]=ys[i]
  ·simp only[decide_eq_true a,Bool.not_true,Uy]
   (try simp only[↓M1,M1,Mb,reduceIte])
   exact Y2 k b ⟨r,fun j g f E=>by
    by_cases e:j=i
    ·subst e;exact a
    ·exact q j g f (by omega)⟩
  ·simp only[decide_eq_false a,Bool.not_false,Nd]
   have e:decide (xs=ys)=false:=decide_eq_false fun e=>a (by subst e;rfl)
   rw[e] at h
   exact h _ r.bel
 ·have D:i=xs.length:=by
   have: ¬i<xs.length:=by simpa using n
   omega
  have e:decide (xs=ys)=true:=decide_eq_true (List.ext_getElem l fun j g f=>q j g f (by omega))
  rw[e] at h
  exact h _ p.bel)
theorem Q8F (a b:Shp):decide (a=b)=((a.seen==b.seen)&&(decide (a.stack=b.stack)&&decide (a.locals=b.locals))):=by
 cases a;cases b
 rw[Bool.eq_iff_iff]
 simp[Shp.mk.injEq,and_assoc]
theorem Q65 {a b:Shp} {ds es:List Value} (r:X4 w σ) (o:U7 σ a ds) (p:U7 σ b es) (h: ∀w',Below w.heap.size w w'→K (.bool (decide (a=b))) w'):Q0 P F.c3 [.agg ds.toArray, .agg es.toArray] w K:=Q5m (by
 obtain ⟨sv,H,rfl,t,q⟩:=o
 obtain ⟨C,mv,rfl,z,s⟩:=p
 rw[Q8F] at h
 unfold Q0q
 refine Y9 r fun J w1 σ1 l j=>?_
 refine Y9 l.sat fun L E A e f=>?_
 have d:=j.up e
 have c:=l.trans e
 refine O3 ?_
 refine ld (i:=0) e.sat d rfl ?_
 refine O3 ?_
 refine ld (i:=0) e.sat f rfl ?_
 rw[Q6U]
 cases k:(a.seen==b.seen) with
 | false=>
  rw[k] at h
  (repeat refine Hd.h ?_)
  exact h _ c.bel
 | true=>
  rw[k,Bool.true_and] at h
  (repeat refine Hd.h ?_)
  refine ld (i:=1) e.sat d rfl ?_
  (repeat refine Hd.h ?_)
  refine ld (i:=1) e.sat f rfl ?_
  (repeat refine Hd.h ?_)
  refine Q41 e.sat (t.up c) (z.up c) fun B n=>?_
  have g:=Stp.of_below e.sat n
  cases m:decide (a.stack=b.stack) with
  | false=>
   rw[m] at h
   (repeat refine Hd.h ?_)
   exact h _ (c.trans g).bel
  | true=>
   rw[m,Bool.true_and] at h
   (repeat refine Hd.h ?_)
   refine ld (i:=2) g.sat d rfl ?_
   (repeat refine Hd.h ?_)
   refine ld (i:=2) g.sat f rfl ?_
   (repeat refine Hd.h ?_)
   refine Q41 g.sat (q.up c) (s.up c) fun D y=>?_
   (repeat refine Hd.h ?_)
   exact h _ (c.trans (g.trans (Stp.of_below g.sat y))).bel)
theorem Od {a b:Shp} {ds es:List Value} (r:X4 w σ) (o:U7 σ a ds) (p:U7 σ b es) (h: ∀w',Below w.heap.size w w'→K (.bool (decide (a=b))) w'):Q0 P F.w [.agg ds.toArray, .agg es.toArray] w K:=Ij (by
 obtain ⟨sv,H,rfl,t,q⟩:=o
 obtain ⟨C,mv,rfl,z,s⟩:=p
 rw[Q8F] at h
 unfold Mh
 refine Y9 r fun J w1 σ1 l j=>?_
 refine Y9 l.sat fun L E A e f=>?_
 have d:=j.up e
 have c:=l.trans e
 refine O3 ?_
 refine ld (i:=0) e.sat d rfl ?_
 refine O3 ?_
 refine ld (i:=0) e.sat f rfl ?_
 rw[Q6U]
 cases k:(a.seen==b.seen) with
 | false=>
  rw[k] at h
  (repeat refine Hd.h ?_)
  exact h _ c.bel
 | true=>
  rw[k,Bool.true_and] at h
  (repeat refine Hd.h ?_)
  refine ld (i:=1) e.sat d rfl ?_
  (repeat refine Hd.h ?_)
  refine ld (i:=1) e.sat f rfl ?_
  (repeat refine Hd.h ?_)
  refine Q3c e.sat (t.up c) (z.up c) fun B n=>?_
  have g:=Stp.of_below e.sat n
  cases m:decide (a.stack=b.stack) with
  | false=>
   rw[m] at h
   (repeat refine Hd.h ?_)
   exact h _ (c.trans g).bel
  | true=>
   rw[m,Bool.true_and] at h
   (repeat refine Hd.h ?_)
   refine ld (i:=2) g.sat d rfl ?_
   (repeat refine Hd.h ?_)
   refine ld (i:=2) g.sat f rfl ?_
   (repeat refine Hd.h ?_)
   refine Q3c g.sat (q.up c) (s.up c) fun D y=>?_
   (repeat refine Hd.h ?_)
   exact h _ (c.trans (g.trans (Stp.of_below g.sat y))).bel)
end Go.Proofs.YtfppjenblllfaaaGreatDoor

namespace Go.Hm
open Go.Kd
structure Dr where
  stack : List X0
  locals : List X0
  e : Int
deriving DecidableEq
def Dr.wrong (d:Dr) (ok:Bool) (e:Int):Dr:=if ok=true then d else if d.e=0 then ⟨d.stack,d.locals,e⟩ else d
def Dr.taken (d:Dr) (n:Nat):List X0:=if d.e=0∧n≤d.stack.length then d.stack.drop (d.stack.length-n) else List.replicate n []
def Dr.take (d:Dr) (n:Nat):Dr:=if d.e=0∧n≤d.stack.length then ⟨d.stack.take (d.stack.length-n),d.locals,0⟩ else d.wrong (decide (n≤d.stack.length)) 72
def Dr.put (d:Dr) (xs:List X0):Dr:=if d.e=0 then ⟨d.stack++xs,d.locals,0⟩ else d
def Dr.put1 (d:Dr) (k:X0):Dr:=if k=[] then d else d.put [k]
def Dr.all (l:List Cla) (d:Dr) (p:X0) (a:List X0):Dr:=((d.take a.length).wrong ((List.zipWith (E4 l) (d.taken a.length) a).all id) 73).put1 p
def inL (d:Dr) (n:Int):Bool:=decide (0≤n)&&decide (n<(d.locals.length:Int))
def Q3y (l:List Cla) (a:X0):Bool:=M0 l a&& !plain a
def Q4O (l:List Cla) (s:X0):Bool:= !decide (s=C2)&&M0 l s
inductive Dact where
  | puts (k : X0) | takes (p : X0) (w : List X0) | load | store | pop | dup | swap | size | nop | make | get | give | call | array | at_ | set_ | is | cast | ret | equal
deriving DecidableEq
def Q7E (l:List Cla) (c f:X0) (ok:Bool):Option (X0×X0):=if ok=true then (Xk l c f).map fun k=>(c,((M6 l c).getD k Fld.zero).kind) else none
def Gb (l:List Cla) (m:Hm.Met) (i:Ins) (c f:X0) (ok:Bool) (d:Dr):Dact→Dr
 | .puts k=>d.put [k]
 | .takes p w=>d.all l p w
 | .load=>
  let a:=d.wrong (inL d i.n) 74
  if a.e=0 then (let k:=a.locals.getD i.n.toNat [];let b:=a.wrong (!decide (k=[])) 74;if b.e=0 then b.put [k] else b) else a
 | .store=>
  let a:=d.wrong (inL d i.n) 74
  let b:=a.take 1
  if b.e=0 then ⟨b.stack,b.locals.set i.n.toNat ((a.taken 1).getD 0 []),0⟩ else b
 | .pop=>d.take 1
 | .dup=>(d.take 1).put [(d.taken 1).getD 0 [],(d.taken 1).getD 0 []]
 | .swap=>(d.take 2).put [(d.taken 2).getD 1 [],(d.taken 2).getD 0 []]
 | .size=>((d.take 1).wrong (!decide (elem ((d.taken 1).getD 0 [])=[])) 73).put [V3]
 | .nop=>d
 | .make=>let a:=d.wrong (Q8O l i.s) 76;if a.e=0 then a.put [i.s] else a
 | .get=>match Q7E l c f ok with
  | some (c,k)=>d.all l k [c]
  | none=>(d.wrong false 76).all l [] [[]]
 | .give=>match Q7E l c f ok with
  | some (c,k)=>d.all l [] [c,k]
  | none=>(d.wrong false 76).all l [] [[],[]]
 | .call=>match J7 l c f with
  | some (_,x)=>d.all l x.result (c::x.params)
  | none=>d.wrong false 76
 | .array=>((d.wrong (Q4O l i.s) 76).wrong (right (i.s++[91,93])) 76).all l (i.s++[91,93]) [V3]
 | .at_=>
  let t:=d.taken 2
  (((d.take 2).wrong (E4 l (t.getD 1 []) V3) 73).wrong (!decide (elem (t.getD 0 [])=[])) 73).put [elem (t.getD 0 [])]
 | .set_=>
  let t:=d.taken 3
  let a:=d.take 3
  let k:=if a.e=0 then elem (t.getD 0 []) else []
  ((a.wrong (!decide (k=[])) 73).wrong (E4 l (t.getD 2 []) k) 73).wrong (E4 l (t.getD 1 []) V3) 73
 | .is=>let a:=d.wrong (Q4O l i.s) 76;((a.take 1).wrong (Q3y l ((a.taken 1).getD 0 [])) 73).put [M7]
 | .cast=>let a:=d.wrong (Q4O l i.s) 76;((a.take 1).wrong (Q3y l ((a.taken 1).getD 0 [])) 73).put [i.s]
 | .ret=>if m.result=[] then d else d.all l [] [m.result]
 | .equal=>let t:=d.taken 2;(((d.take 2).wrong (Q3y l (t.getD 1 [])) 73).wrong (Q3y l (t.getD 0 [])) 73).put [M7]
def Q8M:List (X0×Dact):=[
 ([105,110,116], .puts V3),
 ([116,114,117,101], .puts M7),
 ([102,97,108,115,101], .puts M7),
 ([119,111,114,100], .puts N5),
 ([110,117,108,108], .puts C2),
 ([108,111,97,100], .load),
 ([115,116,111,114,101], .store),
 ([100,117,112], .dup),
 ([115,119,97,112], .swap),
 ([112,111,112], .pop),
 ([110,101,103], .takes V3 [V3]),
 ([110,111,116], .takes M7 [M7]),
 ([98,111,116,104], .takes M7 [M7,M7]),
 ([106,111,105,110], .takes N5 [N5,N5]),
 ([108,101,115,115], .takes M7 [V3,V3]),
 ([115,97,109,101], .takes M7 [V3,V3]),
 ([115,105,122,101], .size),
 ([106,117,109,112], .nop),
 ([98,114,97,110,99,104], .takes [] [M7]),
 ([110,101,119], .make),
 ([103,101,116], .get),
 ([112,117,116], .give),
 ([99,97,108,108], .call),
 ([97,114,114,97,121], .array),
 ([97,116], .at_),
 ([115,101,116], .set_),
 ([105,115], .is),
 ([99,97,115,116], .cast),
 ([114,101,116,117,114,110], .ret),
 ([116,104,114,111,119], .takes [] [V8]),
 ([111,117,116], .takes [] [V3]),
 ([101,113,117,97,108], .equal)]
def Q1K:List X0:=[[97,100,100],[115,117,98],[109,117,108],[100,105,118],[114,101,109],[97,110,100],[111,114],[120,111,114],[115,104,108],[115,104,114]]
def Fj:List (X0×Dact):=(Q1K.map fun o=>(o,Dact.takes V3 [V3,V3])).reverse++Q8M.reverse
def doM (l:List Cla) (m:Hm.Met) (i:Ins) (c f:X0) (ok:Bool) (s:Shp):Shp×Int:=
 match Fj.lookup i.op with
 | none=>(Shp.zero,76)
 | some a=>
  let d:=Gb l m i c f ok ⟨s.stack,s.locals,0⟩ a
  let b:=d.wrong (decide (d.stack.length≤24)) 72
  if b.e=0 then (⟨true,b.stack,b.locals⟩,0) else (Shp.zero,b.e)
theorem Dr.wrong_ok {d:Dr} {ok:Bool} {e:Int} (g:e≠0) (h:(d.wrong ok e).e=0):d.e=0∧ok=true∧d.wrong ok e=d:=by
 unfold Dr.wrong at*
 by_cases a:ok=true
 ·rw[if_pos a] at*;exact ⟨h,a,rfl⟩
 ·rw[if_neg a] at h
  by_cases b:d.e=0
  ·rw[if_pos b] at h;exact absurd h g
  ·rw[if_neg b] at h;exact absurd h b
section
variable {l : List Cla} {m : Hm.Met} {i : Ins} {c f : X0} {ok : Bool} {d : Dr}
theorem Dr.wrong2 {d:Dr} {b a:Bool} {e:Int}:(d.wrong b e).wrong a e=d.wrong (b&&a) e:=by
 unfold Dr.wrong
 cases b<;>cases a<;>simp<;>split<;>simp_all
end
end Go.Hm

namespace Go.Proofs.YtfppjenblllfaaaGreatDoor
open Go.Emb Go.RowKit Go.Kd Go.Hm
variable {w : World} {K : Value → World → Prop} {σ : Q4}
end Go.Proofs.YtfppjenblllfaaaGreatDoor

namespace Go.Emb
open Go.RowKit Go.Hm
variable {w w0 w1 w' w'' : World} {σ σ0 σ1 σ2 σ' : Q4}
theorem Stp.weak (h:Stp w σ1 w' σ2) (a: ∀b o,σ b=some o→σ1 b=some o):Stp w σ w' σ:=
 ⟨h.bel,fun b o e=>h.sat b o (h.le b o (a b o e)),fun _ _ e=>e,fun _ _=>rfl⟩
end Go.Emb
namespace Go.Proofs.YtfppjenblllfaaaGreatDoor
open Go.Emb Go.RowKit Go.Kd Go.Hm
variable {w : World} {K : Value → World → Prop} {σ : Q4}
end Go.Proofs.YtfppjenblllfaaaGreatDoor

namespace Go.Emb
open Go.RowKit Go.Hm
section
variable {P : Program} {w w' w0 : World} {σ σ' σ0 : Q4} {α : Type} {R : Q4 → α → List Value → Prop} {B sz : Nat} {e : TypeId} {v u : Value} {xs : List α} {K : Value → World → Prop}
theorem X1H {t:TypeId} {by_:Nat} {z:Value} [ts:TS P t e] [tz:TZ P e sz by_ z] (h:U2 B e sz R σ w v xs) {k:Nat} (r:k≤xs.length)
 (A: ∀j,U2 B e sz R σ w j (xs.take k)→j.ownBlock=v.ownBlock→K j w):H3 P t v none (some (I k)) (some (I k)) w K:=by
 obtain ⟨a,c,rfl,M,L,l,H⟩:=h
 have hh: ∀w:World,(Instr.sliceBounds true xs.length c none (some (I k)) (some (I k))).run P w= .ok (0,k,k) w:=by
  intro w
  have q:(k:Int)≤c:=by omega
  simp[Instr.sliceBounds,Instr.sliceBound,asIntOf,q]
 unfold H3
 have:(Instr.sliceAt t (.slice a xs.length c) none (some (I k)) (some (I k))).run P w= .ok (.slice (if k=0 then a else a.map (·.add (0*sz))) (k-0) (k-0)) w:=by
  simp[Instr.sliceAt,run_underlying ts.h,Instr.slice,hh,W4 tz]
 rw[X9 this]
 have hv:(if k=0 then a else a.map (·.add (0*sz)))=a:=by
  split
  ·rfl
  ·cases a with
   | none=>rfl
   | some b=>simp[Addr.add]
 rw[hv,Nat.sub_zero]
 refine A _ ⟨a,k,by rw[List.length_take,Nat.min_eq_left r],by rw[List.length_take];omega,by omega,l,fun N=>?_⟩ (by cases a<;>rfl)
 obtain ⟨g,n,o,rfl,E,J,y,O,C⟩:=H (by omega)
 have s:k*sz≤c*sz:=Nat.mul_le_mul_right _ (by omega)
 refine ⟨g,n,o,rfl,E,J,y,by omega,fun i x f=>?_⟩
 rw[List.getElem?_take] at f
 split at f
 ·exact C i x f
 ·cases f
theorem U2.updD {b:Nat} (h:U2 B e sz R σ w v xs) (u:Upd w b w') (a:v.ownBlock≠some b):U2 B e sz R σ w' v xs:=
 h.kp (D:=fun j=>j=b) (Kpt.of_upd u rfl) fun k c e=>a (e▸c)
end
end Go.Emb
namespace Go.Proofs.YtfppjenblllfaaaGreatDoor
open Go.Emb Go.RowKit Go.Kd Go.Hm
variable {w w' : World} {K : Value → World → Prop} {σ σ' : Q4} {v u : Value}
theorem Q22 {xs:List X0} (g:X4 w σ) (hv:Sl 1 Y0 σ v xs) (C:xs.length≤1000000)
 (h: ∀f w',Stp w σ w' σ→V5 w.heap.size T.b 1 Y0 σ w' f xs→K f w'):Q0 P F.b [v] w K:=I9 (by
 unfold R1
 have c:=hv
 obtain ⟨a,q,rfl,z,J,n,H⟩:=hv
 refine Ca rfl ?_
 refine Q5 (fun j=>?_) (fun j=>?_)
 ·have:a=none:=by simpa using j
  subst this
  have t:=n rfl
  subst t
  have r:xs=[]:=List.eq_nil_of_length_eq_zero (by omega)
  subst r
  exact h _ w (Stp.refl g) V5.nil
 ·refine Qh (R:=Y0) (sz:=1) (Stp.refl g) [] [] rfl rfl (by simp) (by rfl) trivial fun y w1 l k _=>?_
  refine app l k c (by rfl) (by simp only[List.length_nil];omega) (by simp only[List.length_nil];omega) fun A o E s b _=>?_
  exact h _ o s b)
theorem Q9j {B:Nat} {xs:List X0} (k:X4 w σ) (hv:U2 B T.b 1 Y0 σ w v xs) (n:xs.length≤1000000)
 (h: ∀a w' σ',Stp w σ w' σ'→Sl 1 Y0 σ' a xs→K a w'):Q0 P F.b [v] w K:=by
 obtain ⟨s,j,b,r,_⟩:=hv.freeze k
 refine Q22 j r n fun a w' f c=>?_
 have o:=f.weak b.le
 have q:=(U2.of_acc c).down b fun _ _ h=>h
 obtain ⟨σ',l,g,_,_⟩:=q.keep (w0:=w) (σ0:=σ) o
 exact h a w' σ' l g
structure DrIs (B : Nat) (D : Nat → Prop) (σ : Q4) (w : World) (p tv pv cv hv : Value) (m : Hm.Met) (i : Ins) (d : Dr) : Prop where
  ex : ∃ b sv lv, p = .pointer (some ⟨b, 0, none⟩) ∧ B ≤ b ∧ Z5 σ w b [tv, S m.name, pv, S m.result, .bool m.abs, I m.locals, cv, hv, S i.op, I i.n, S i.s, .bool true, sv, lv, I d.e] ∧ U2 B T.b 1 Y0 σ w sv d.stack ∧ U2 B T.b 1 Y0 σ w lv d.locals ∧ (∀ k, sv.ownBlock = some k → k ≠ b ∧ lv.ownBlock ≠ some k) ∧ (∀ k, lv.ownBlock = some k → k ≠ b) ∧ ∀ k, D k ↔ (k = b ∨ sv.ownBlock = some k ∨ lv.ownBlock = some k)
section
variable {B : Nat} {D : Nat → Prop} {p tv pv cv hv : Value} {m : Hm.Met} {i : Ins} {d : Dr}
theorem DrIs.mem (h:DrIs B D σ w p tv pv cv hv m i d) {k:Nat} (hk:D k):B≤k∧k<w.heap.size∧σ k=none:=by
 obtain ⟨b,sv,g,rfl,hB,a,c,f,_,_,hD⟩:=h.ex
 rcases (hD k).1 hk with rfl | hk | hk
 ·exact ⟨hB,a.lt,a.1⟩
 ·exact c.mem hk
 ·exact f.mem hk
theorem DrIs.nx {F:Nat→Prop} (h:DrIs B D σ w p tv pv cv hv m i d) (k:Nxt F w σ w' σ') (a: ∀j,D j→ ¬F j):DrIs B D σ' w' p tv pv cv hv m i d:=by
 obtain ⟨b,sv,f,rfl,hB,l,g,o,n,q,hD⟩:=h.ex
 exact ⟨b,sv,f,rfl,hB,l.nx k (a b ((hD b).2 (.inl rfl))),g.nx k fun j c=>a j ((hD j).2 (.inr (.inl c))),o.nx k fun j c=>a j ((hD j).2 (.inr (.inr c))),n,q,hD⟩
theorem DrIs.up (h:DrIs B D σ w p tv pv cv hv m i d) (k:Stp w σ w' σ'):DrIs B D σ' w' p tv pv cv hv m i d:=
 h.nx (F:=fun _=>False) (.of_stp k) fun _ _=>id
theorem Nxt.rfl0 (a:X4 w σ):Nxt D w σ w σ:= .of_stp (Stp.refl a)
theorem Nxt.updD (f:X4 w σ) {b:Nat} (u:Upd w b w') (h:σ b=none) (g:D b):Nxt D w σ w' σ:=
 ⟨Kpt.of_upd u g,SLe.refl _,fun _ _=>rfl,fun k o a=>by
  have c:k≠b:=fun e=>by subst e;rw[h] at a;cases a
  rw[u.block k c];exact f k o a⟩
theorem Q2y {ok:Bool} {e:Int} (g:X4 w σ) (h:DrIs B D σ w p tv pv cv hv m i d)
 (hh: ∀w',Nxt D w σ w' σ→DrIs B D σ w' p tv pv cv hv m i (d.wrong ok e)→K (.bool (decide ((d.wrong ok e).e=0))) w'):Q0 P F.ak [p, .bool ok,I e] w K:=Kl (by
 have r:=h
 obtain ⟨b,sv,C,rfl,hB,j,E,A,q,o,hD⟩:=h.ex
 unfold Mi
 refine Zq (fun _ w'=>Nxt D w σ w' σ∧DrIs B D σ w' (.pointer (some ⟨b,0,none⟩)) tv pv cv hv m i (d.wrong ok e)) ?_ (fun _ L w1 y=>?_)
 ·cases ok with
  | true=>
   simp only[Bool.not_true,↓M1,M1,Mb,reduceIte]
   exact ⟨Nxt.rfl0 g,r⟩
  | false=>
   simp only[Bool.not_false,↓M1,M1,Mb,reduceIte]
   refine Ub (i:=14) j rfl ?_
   by_cases a:d.e=0
   ·simp only[decide_eq_true a,↓M1,M1,Mb,reduceIte]
    refine Lv (i:=14) j (by simp) rfl rfl fun J k l=>?_
    have f:d.wrong false e=⟨d.stack,d.locals,e⟩:=by unfold Dr.wrong;rw[if_neg (by simp),if_pos a]
    rw[f]
    exact ⟨Nxt.updD g k j.1 ((hD b).2 (.inl rfl)),b,sv,C,rfl,hB,l,E.updD k fun e=>(q b e).1 rfl,A.updD k fun e=>o b e rfl,q,o,hD⟩
   ·simp only[decide_eq_false a,↓M1,M1,Mb,reduceIte]
    have f:d.wrong false e=d:=by unfold Dr.wrong;rw[if_neg (by simp),if_neg a]
    rw[f]
    exact ⟨Nxt.rfl0 g,r⟩
 ·obtain ⟨N,s⟩:=y
  have n:=s
  obtain ⟨M,H,t,z,_,c,_⟩:=s.ex
  cases z
  simp only[↓M1,M1,Mb,reduceIte]
  refine Ub (i:=14) c rfl ?_
  simp only[↓M1,M1,Mb,reduceIte]
  exact hh w1 N n)
theorem X26 {ys:List X0} (X:X4 w σ) (hB:B≤w.heap.size) (h:DrIs B D σ w p tv pv cv hv m i d) (hy:Sl 1 Y0 σ v ys) (hl:d.stack.length+ys.length≤1000000)
 (hh: ∀w' Z,Nxt D w σ w' σ→DrIs B Z σ w' p tv pv cv hv m i (d.put ys)→(∀j,Z j→D j∨w.heap.size≤j)→K (.tuple #[]) w'):Q0 P F.bE [p,v] w K:=Q0n (by
 have h0:=h
 obtain ⟨b,sv,U,rfl,N,l,hq,z,C,W,hD⟩:=h.ex
 unfold Ot
 rw[E6]
 refine O3 ?_
 refine Ub (i:=14) l rfl ?_
 refine Ll ?_
 by_cases q:d.e=0
 case neg=>
  rw[decide_eq_false q]
  refine V7 ?_
  have J:d.put ys=d:=by unfold Dr.put;rw[if_neg q]
  rw[J] at hh
  exact hh w D (Nxt.rfl0 X) h0 fun j hj=> .inl hj
 rw[decide_eq_true q]
 rw[q] at l
 refine V9 ?_
 have J:d.put ys=⟨d.stack++ys,d.locals,0⟩:=by unfold Dr.put;rw[if_pos q]
 rw[J] at hh
 simp only[↓M1,M1,Mb,reduceIte]
 refine Ub (i:=12) l rfl ?_
 refine Q1M X hB hq hy (by rfl) (by omega) (by omega) fun t Q E s o H=>?_
 have g: ∀k,t.ownBlock=some k→sv.ownBlock=some k∨w.heap.size≤k:=fun k f=>by
  rcases H with ⟨a,ae,ea,eb⟩ | ⟨_,r⟩
  ·left;rw[ea];rw[eb] at f;cases a<;>exact f
  ·exact .inr (r k f)
 have n:Kpt (fun k=>sv.ownBlock=some k) w Q:=E.mono fun k _ e=>e.1
 have A:Z5 σ Q b _:=⟨l.1,by obtain ⟨e,he⟩:=l.2;exact ⟨e,(n.block b l.lt fun e=>(C b e).1 rfl).trans he⟩⟩
 have M:=z.kp n fun k f e=>(C k e).2 f
 rw[Sr]
 refine Lv (i:=12) A (by simp) (by obtain ⟨a,c,rfl,_⟩:=o;rfl) (by obtain ⟨a,c,rfl,_⟩:=o;rfl) fun w3 L O=>?_
 have Y:=l.lt
 have y: ∀k,t.ownBlock=some k→k≠b:=fun k f e=>by
  rcases g k f with h | h
  ·exact (C k h).1 e
  ·omega
 have V: ∀k,t.ownBlock=some k→U.ownBlock≠some k:=fun k f e=>by
  rcases g k f with h | h
  ·exact (C k h).2 e
  ·have:=(z.mem e).2.1;omega
 have N2:Nxt D w σ Q σ:=⟨n.mono fun k _ e=>(hD k).2 (.inr (.inl e)),SLe.refl _,fun _ _=>rfl,s⟩
 refine hh w3 (fun k=>k=b∨t.ownBlock=some k∨U.ownBlock=some k) (N2.trans (Nxt.updD s L A.1 ((hD b).2 (.inl rfl)))) ⟨b,t,U,rfl,N,O,o.updD L fun e=>y b e rfl,M.updD L fun e=>W b e rfl,fun k f=>⟨y k f,V k f⟩,W,fun k=>Iff.rfl⟩ fun j hj=>?_
 rcases hj with rfl | hj | hj
 ·exact .inl ((hD _).2 (.inl rfl))
 ·exact (g j hj).imp (fun h=>(hD j).2 (.inr (.inl h))) id
 ·exact .inl ((hD j).2 (.inr (.inr hj))))
end
end Go.Proofs.YtfppjenblllfaaaGreatDoor

namespace Go.Proofs.YtfppjenblllfaaaGreatDoor
open Go.Emb Go.RowKit Go.Kd Go.Hm
variable {w w' : World} {K : Value → World → Prop} {σ σ' : Q4} {v u : Value} {B : Nat} {D : Nat → Prop} {p tv pv cv hv : Value} {m : Hm.Met} {i : Ins} {d : Dr} {l : List Cla}
set_option maxHeartbeats 1000000 in
theorem X1R {n:Nat} (hs:X4 w σ) (h:DrIs B D σ w p tv pv cv hv m i d) (hl:d.stack.length≤1000000) (hn:n≤2000000)
 (hh: ∀v w' σ',Nxt D w σ w' σ'→DrIs B D σ' w' p tv pv cv hv m i (d.take n)→Sl 1 Y0 σ' v (d.taken n)→K v w'):Q0 P F.bu [p,I n] w K:=Px (by
 have h0:=h
 obtain ⟨b,sv,lv,rfl,hB,hm,hq,ay,h1,h2,hD⟩:=h.ex
 unfold Oh
 simp only[↓M1,M1,Mb,reduceIte]
 refine Ub (i:=12) hm rfl ?_
 refine Gf hq ?_
 refine Zm ?_
 rw[show decide ((n:Int)≤(d.stack.length:Nat))=decide (n≤d.stack.length) from decide_eq_decide.2 (by omega)]
 refine Q2y hs h0 fun w1 A z=>?_
 by_cases j:d.e=0∧n≤d.stack.length
 case neg=>
  have H:d.take n=d.wrong (decide (n≤d.stack.length)) 72:=by unfold Dr.take;rw[if_neg j]
  have O:d.taken n=List.replicate n []:=by unfold Dr.taken;rw[if_neg j]
  have he: ¬(d.wrong (decide (n≤d.stack.length)) 72).e=0:=fun e=>by
   obtain ⟨k1,k2,_⟩:=Dr.wrong_ok (by decide) e
   exact j ⟨k1,by simpa using k2⟩
  rw[H,O] at hh
  rw[decide_eq_false he]
  simp only[Bool.not_false,↓M1,M1,Mb,reduceIte]
  refine X1B (R:=Y0) (sz:=1) ([]:X0) A.sat (by kernel_rfl) (by decide) ⟨rfl,by decide⟩ (by omega) (by omega) fun v2 w2 L U _=>?_
  obtain ⟨Y,s3,q3,aj,_⟩:=U.keep L
  exact hh v2 w2 Y (A.trans (.of_stp s3)) (z.up s3) q3
 have ew:d.wrong (decide (n≤d.stack.length)) 72=d:=by rw[decide_eq_true j.2];rfl
 have H:d.take n=⟨d.stack.take (d.stack.length-n),d.locals,0⟩:=by unfold Dr.take;rw[if_pos j]
 have O:d.taken n=d.stack.drop (d.stack.length-n):=by unfold Dr.taken;rw[if_pos j]
 rw[ew] at z⊢
 rw[H,O] at hh
 rw[decide_eq_true j.1]
 simp only[Bool.not_true,↓M1,M1,Mb,reduceIte]
 have ar:=z
 obtain ⟨b',ax,C,e1,M,g,o,y,g1,Z,t⟩:=z.ex
 cases e1
 rw[j.1] at g
 refine Ub (i:=12) g rfl ?_
 refine Gf o ?_
 refine Q9J ?_
 rw[B5 (by omega) (by omega),show (d.stack.length:Int)-(n:Int)=((d.stack.length-n:Nat):Int) by omega]
 refine Ub (i:=12) g rfl ?_
 refine Q9R o (d.stack.length-n) (by omega) fun v2 X _=>?_
 refine Q9j A.sat X (by rw[List.length_drop];omega) fun v3 w3 Y f E=>?_
 have q:=g.up f
 have W:=o.up f
 have J:=y.up f
 refine Ub (i:=12) q rfl ?_
 refine X1H W (k:=d.stack.length-n) (by omega) fun v4 r s=>?_
 rw[Sr]
 refine Lv (i:=12) q (by simp) (by obtain ⟨a,c,rfl,_⟩:=r;rfl) (by obtain ⟨a,c,rfl,_⟩:=r;rfl) fun w5 Q N=>?_
 have V:=A.trans (Nxt.of_stp (D:=D) f)
 refine hh v3 w5 Y (V.trans (Nxt.updD f.sat Q q.1 ((t b).2 (.inl rfl)))) ⟨b,v4,C,rfl,M,N,r.updD Q fun e=>(g1 b (by rw[←s];exact e)).1 rfl,J.updD Q fun e=>Z b e rfl,fun k hk=>g1 k (by rw[←s];exact hk),Z,fun k=>by rw[s];exact t k⟩ E)
theorem X0i {a c:X0} (n:X4 w σ) (h:DrIs B D σ w p tv pv cv hv m i d) (f:Tab σ tv l) (ok:Ok l) (j:a.length≤J3) (k:c.length≤J3)
 (hh: ∀w' σ',Nxt D w σ w' σ'→DrIs B D σ' w' p tv pv cv hv m i (d.wrong (E4 l a c) 73)→K (.tuple #[]) w'):Q0 P F.bm [p,S a,S c] w K:=Kh (by
 have r:=h
 obtain ⟨b,sv,A,rfl,hB,o,C,t,z,y,hD⟩:=h.ex
 unfold Ml
 rw[E6]
 refine O3 ?_
 refine Ub (i:=0) o rfl ?_
 refine Q3D n f ok j k fun w1 σ1 e=>?_
 refine Q2y e.sat (r.up e) fun q g s=>?_
 exact hh q σ1 ((Nxt.of_stp e).trans g) s)
def dnM (y:Value):Nat:=match y with
 | .int _ z=>(z+1).toNat
 | _=>0
set_option maxHeartbeats 1000000 in
theorem X21 {q:X0} {ys:List X0} (hs:X4 w σ) (hB:B≤w.heap.size) (h:DrIs B D σ w p tv pv cv hv m i d) (ht:Tab σ tv l) (ok:Ok l) (hy:Sl 1 Y0 σ v ys) (hq:q.length≤J3) (hl:d.stack.length≤100000) (hn:ys.length≤2000000)
 (hh: ∀w' σ' D',Nxt D w σ w' σ'→DrIs B D' σ' w' p tv pv cv hv m i (d.all l q ys)→(∀j,D' j→D j∨w.heap.size≤j)→K (.tuple #[]) w'):Q0 P F.a5 [p,S q,v] w K:=Q0l (by
 unfold Oq
 refine Q8 hy ?_
 refine X1R hs h (by omega) (by omega) fun ah w1 σ1 s d1 g=>?_
 have z:(d.taken ys.length).length=ys.length:=by
  unfold Dr.taken
  split
  ·rename_i hc;rw[List.length_drop];omega
  ·simp
 have V:=hy.lift s.le
 have A:=ht.lift s.le
 have J:(d.take ys.length).stack.length≤d.stack.length:=by
  unfold Dr.take
  split
  ·rw[List.length_take];omega
  ·unfold Dr.wrong;split
   ·exact Nat.le_refl _
   ·split<;>exact Nat.le_refl _
 refine Q8 g ?_
 refine Q9J ?_
 rw[z,B5 (by omega) (by omega)]
 refine Zv (fun x w'=> ∃(k:Nat) (σ':Q4),x=I ((k:Int)-1)∧k≤ys.length∧Nxt D w1 σ1 w' σ'∧DrIs B D σ' w' p tv pv cv hv m i ((d.take ys.length).wrong (((List.zipWith (E4 l) (d.taken ys.length) ys).drop k).all id) 73)) (fun x _=>dnM x) ⟨ys.length,σ1,rfl,Nat.le_refl _,Nxt.rfl0 s.sat,by
  rw[List.drop_of_length_le (by simp;omega)];exact d1⟩ ?_
 rintro _ dd Z ⟨k,X,rfl,hk,c,t⟩
 refine Zm ?_
 by_cases L:k=0
 ·subst L
  rw[show decide ((0:Int)≤((0:Nat):Int)-1)=false from by decide]
  refine V7 ?_
  rw[List.drop_zero] at t
  refine Ui ?_
  have a:=s.trans c
  have eb: ∀w' σ',Nxt D Z X w' σ'→B≤w'.heap.size:=fun w' σ' N=>Nat.le_trans hB (Nat.le_trans a.kp.size N.kp.size)
  by_cases b:q=[]
  ·have r:d.all l q ys=(d.take ys.length).wrong ((List.zipWith (E4 l) (d.taken ys.length) ys).all id) 73:=by unfold Dr.all Dr.put1;rw[if_pos b]
   rw[r] at hh
   rw[show (!decide (q=[]))=false from by simp[b]]
   refine V7 ?_
   exact hh Z X D a t fun j W=> .inl W
  ·have r:d.all l q ys=((d.take ys.length).wrong ((List.zipWith (E4 l) (d.taken ys.length) ys).all id) 73).put [q]:=by unfold Dr.all Dr.put1;rw[if_neg b]
   rw[r] at hh
   rw[show (!decide (q=[]))=true from by simp[b]]
   refine V9 ?_
   refine D6 (R:=Y0) (sz:=1) c.sat [S q] [q] rfl rfl (by simp;rfl) rfl ⟨⟨rfl,hq⟩,trivial⟩ fun v3 w3 σ3 n y=>?_
   have an:((d.take ys.length).wrong ((List.zipWith (E4 l) (d.taken ys.length) ys).all id) 73).stack.length≤d.stack.length:=by
    have e:((d.take ys.length).wrong ((List.zipWith (E4 l) (d.taken ys.length) ys).all id) 73).stack=(d.take ys.length).stack:=by
     unfold Dr.wrong;split
     ·rfl
     ·split<;>rfl
    rw[e];exact J
   refine X26 n.sat (Nat.le_trans hB (Nat.le_trans a.kp.size n.bel.size)) (t.up n) y (by simp only[List.length_cons,List.length_nil];omega) fun Y D4 U o H=>?_
   refine hh Y σ3 D4 ((a.trans (.of_stp n)).trans U) o fun j W=>(H j W).imp id fun e=>Nat.le_trans a.kp.size (Nat.le_trans n.bel.size e)
 ·rw[decide_eq_true (show (0:Int)≤(k:Int)-1 by omega)]
  refine V9 ?_
  obtain ⟨j,rfl⟩: ∃j,k=j+1:=⟨k-1,by omega⟩
  rw[show (((j+1:Nat):Int)-1)=(j:Int) by omega]
  have C:j<(d.taken ys.length).length:=by omega
  have Q:j<ys.length:=by omega
  have O:=g.lift c.le
  have M:=V.lift c.le
  have E:=A.lift c.le
  obtain ⟨r,f1⟩:=Sl.elS O C
  obtain ⟨e2,f2⟩:=Sl.elS M Q
  refine V2 c.sat ?_
  (repeat refine U4 Qn ?_)
  (intros;(repeat (rename_i hx;subst hx));(try simp only[↓M2,M2,Mb,reduceIte]))
  rename_i w3 f
  refine X0i f.sat (t.up f.stp) E ok f1 f2 fun Y σ4 U o=>?_
  rw[B5 (by omega) (by omega)]
  rw[Dr.wrong2] at o
  have ed:(((List.zipWith (E4 l) (d.taken ys.length) ys).drop (j+1)).all id&&E4 l (d.taken ys.length)[j] ys[j])=((List.zipWith (E4 l) (d.taken ys.length) ys).drop j).all id:=by
   rw[List.drop_eq_getElem_cons (i:=j) (by simp;omega),List.all_cons,Bool.and_comm]
   simp
  rw[ed] at o
  refine ⟨⟨j,σ4,rfl,by omega,(c.trans (.of_stp f.stp)).trans U,o⟩,?_⟩
  simp only[dnM]
  omega)
end Go.Proofs.YtfppjenblllfaaaGreatDoor

namespace Go.Proofs.YtfppjenblllfaaaGreatDoor
open Go.Emb Go.RowKit Go.Kd Go.Hm
variable {w w' w0 : World} {K : Value → World → Prop} {σ σ' σ0 : Q4} {v u : Value}
def O7 (f:Nat):Value:= .func (.func f) #[] #[]
def Gv (σ:Q4) (a:Dact) (v:Value):Prop:=match a with
 | .puts k=> ∃q,v= .func (.func F.cJ) #[] #[.pointer (some q)]∧Z2 σ q [S k]∧k.length≤J3
 | .takes p ys=>(∃q r b,v= .func (.func F.c6) #[] #[.pointer (some q), .pointer (some r)]∧Z2 σ q [S p]∧Z2 σ r [b]∧Sl 1 Y0 σ b ys∧p.length≤J3)∨(v=O7 F.b8∧p=V3∧ys=[V3,V3])∨(v=O7 F.ay∧p=M7∧ys=[V3,V3])
 | .load=>v=O7 F.ce
 | .store=>v=O7 F.c7
 | .pop=>v=O7 F.cF
 | .dup=>v=O7 F.cq
 | .swap=>v=O7 F.cf
 | .size=>v=O7 F.cg
 | .nop=>v=O7 F.cG
 | .make=>v=O7 F.c4
 | .get=>v=O7 F.cr
 | .give=>v=O7 F.ch
 | .call=>v=O7 F.ci
 | .array=>v=O7 F.c8
 | .at_=>v=O7 F.cy
 | .set_=>v=O7 F.cs
 | .is=>v=O7 F.cz
 | .cast=>v=O7 F.cj
 | .ret=>v=O7 F.ck
 | .equal=>v=O7 F.c9
theorem Gv.lift {a:Dact} (h:Gv σ a v) (k:SLe σ σ'):Gv σ' a v:=by
 cases a with
 | puts s=>obtain ⟨q,b,d,c⟩:=h;exact ⟨q,b,d.lift k,c⟩
 | takes p ys=>
  rcases h with ⟨q,r,g,b,d,c,e,f⟩ | h
  ·exact .inl ⟨q,r,g,b,d.lift k,c.lift k,e.lift k,f⟩
  ·exact .inr h
 | _=>exact h
def Gm (σ:Q4) (c:List (List UInt8×Value)) (b:List (X0×Dact)):Prop:= ∀k,match b.lookup k with
 | none=>L9 c k=none
 | some a=> ∃v,L9 c k=some v∧Gv σ a v
theorem Q9a (a:List (List UInt8×Value)) (k x:List UInt8) (v:Value):L9 (Qu a k v) x=if k=x then some v else L9 a x:=by
 induction a with
 | nil=>simp[Qu,L9]
 | cons p r c=>
  unfold Qu
  split
  ·rename_i h
   simp only[L9]
   split
   ·rfl
   ·rename_i b;rw[if_neg (by rw[h];exact b)]
  ·rename_i h
   simp only[L9,c]
   split
   ·rename_i b;rw[if_neg (fun e=>h (by rw[b,e]))]
   ·rfl
theorem Gm.lift {b:List (List UInt8×Value)} {a:List (X0×Dact)} (h:Gm σ b a) (c:SLe σ σ'):Gm σ' b a:=fun k=>by
 have:=h k
 split at this
 ·exact this
 ·obtain ⟨v,d,e⟩:=this;exact ⟨v,d,e.lift c⟩
theorem Gm.put {c:List (List UInt8×Value)} {b:List (X0×Dact)} {k:X0} {a:Dact} (h:Gm σ c b) (d:Gv σ a v):Gm σ (Qu c k v) ((k,a)::b):=fun x=>by
 rw[List.lookup_cons,Q9a]
 by_cases e:x=k
 ·subst e
  simp only[beq_self_eq_true,if_true]
  exact ⟨v,rfl,d⟩
 ·have f:(x==k)=false:=by simpa using e
  rw[f,if_neg (Ne.symm e)]
  exact h x
structure TS (w0 : World) (σ0 : Q4) (w : World) (σ : Q4) (r : Nat) (acts : List (X0 × Dact)) : Prop where
  stp : Stp w0 σ0 w σ
  ge : w0.heap.size ≤ r
  mp : ∃ mp, D7 σ w r mp ∧ Gm σ mp acts
theorem TS.up {r:Nat} {a:List (X0×Dact)} (h:TS w0 σ0 w σ r a) (k:Stp w σ w' σ'):TS w0 σ0 w' σ' r a:=by
 obtain ⟨b,c,d⟩:=h.mp
 exact ⟨h.stp.trans k,h.ge,b,c.up k,d.lift ⟨k.le⟩⟩
theorem L8 {r:Nat} {b:List (X0×Dact)} {k:X0} {a:Dact} (h:TS w0 σ0 w σ r b) (f:Gv σ a v) (i: ∀w',TS w0 σ0 w' σ r ((k,a)::b)→K undef w'):mapUpdate P T.j (.map (some r)) (S k) v w K:=by
 obtain ⟨l,d,j⟩:=h.mp
 refine De X7 d k v fun e g c=>?_
 exact i e ⟨g.stp h.stp h.ge d.1,h.ge,_,c,j.put f⟩
theorem Te {r:Nat} {a:List (X0×Dact)} {s:X0} (h:TS w0 σ0 w σ r a) (d:s.length≤J3) (e: ∀v w' σ',TS w0 σ0 w' σ' r a→Gv σ' (.puts s) v→K v w'):Q0 P F.aQ [S s] w K:=Q5N (by
 unfold Q0M
 refine J6 h.stp.sat rfl fun q w1 σ1 b c=>?_
 refine Q7U ?_
 exact e _ w1 σ1 (h.up b) ⟨q,rfl,c,d⟩)
theorem Q63 {r:Nat} {a:List (X0×Dact)} {s:X0} {ys:List X0} (h:TS w0 σ0 w σ r a) (j:s.length≤J3) (f:Sl 1 Y0 σ u ys) (i: ∀v w' σ',TS w0 σ0 w' σ' r a→Gv σ' (.takes s ys) v→K v w'):Q0 P F.a3 [S s,u] w K:=Q4B (by
 unfold Am
 refine J6 h.stp.sat rfl fun q w1 σ1 c l=>?_
 refine L1 c.sat (f.up c) fun m k g e d=>?_
 refine Q7U ?_
 have b:=c.trans e
 exact i _ k g (h.up b) (.inl ⟨q,m,u,rfl,l.up e,d,f.up b,j⟩))
theorem Ew {r:Nat} {a:List (X0×Dact)} {s y:X0} (h:TS w0 σ0 w σ r a) (c:s.length≤J3) (e:y.length≤J3) (f: ∀v w' σ',TS w0 σ0 w' σ' r a→Gv σ' (.takes s [y]) v→K v w'):buildSlice P T.d 1 [(0,S y)] w fun t w=>Q0 P F.a3 [S s,t] w K:=by
 refine D6 (R:=Y0) (sz:=1) h.stp.sat [S y] [y] rfl rfl (by simp;rfl) rfl ⟨⟨rfl,e⟩,trivial⟩ fun i g j d b=>?_
 exact Q63 (h.up d) c b f
theorem Q50 {r:Nat} {a:List (X0×Dact)} {s y z:X0} (h:TS w0 σ0 w σ r a) (d:s.length≤J3) (g:y.length≤J3) (e:z.length≤J3) (c: ∀v w' σ',TS w0 σ0 w' σ' r a→Gv σ' (.takes s [y,z]) v→K v w'):buildSlice P T.d 2 [(0,S y),(1,S z)] w fun t w=>Q0 P F.a3 [S s,t] w K:=by
 refine D6 (R:=Y0) (sz:=1) h.stp.sat [S y,S z] [y,z] rfl rfl (by simp;exact ⟨rfl,rfl⟩) rfl ⟨⟨rfl,g⟩,⟨rfl,e⟩,trivial⟩ fun j i k f b=>?_
 exact Q63 (h.up f) d b c
set_option maxHeartbeats 4000000 in
set_option maxRecDepth 100000 in
theorem X0B (hs:X4 w σ) (h: ∀r f w' σ',Stp w σ w' σ'→I2 σ' r f→Gm σ' f Fj→K (.map (some r)) w'):Q0 P F.co [] w K:=Q4W (by
 unfold Ky
 refine An hs fun r w1 hr k1 O=>?_
 have t0:TS w σ w1 σ r []:=⟨k1,hr,[],O,fun k=>rfl⟩
 refine Te (s:=V3) t0 (by decide) fun v1 w1 σ1 s1 f1=>?_
 refine L8 (k:=[105,110,116]) (a:= .puts V3) s1 f1 fun x1 t1=>?_
 refine Te (s:=M7) t1 (by decide) fun v2 w2 σ2 s2 f2=>?_
 refine L8 (k:=[116,114,117,101]) (a:= .puts M7) s2 f2 fun x2 t2=>?_
 refine Te (s:=M7) t2 (by decide) fun v3 w3 σ3 H f3=>?_
 refine L8 (k:=[102,97,108,115,101]) (a:= .puts M7) H f3 fun x3 q=>?_
 refine Te (s:=N5) q (by decide) fun v4 w4 σ4 s4 f4=>?_
 refine L8 (k:=[119,111,114,100]) (a:= .puts N5) s4 f4 fun x4 t4=>?_
 refine Te (s:=C2) t4 (by decide) fun v5 w5 σ5 s5 f5=>?_
 refine L8 (k:=[110,117,108,108]) (a:= .puts C2) s5 f5 fun x5 t5=>?_
 refine L8 (k:=[108,111,97,100]) (a:= .load) t5 rfl fun x6 t6=>?_
 refine L8 (k:=[115,116,111,114,101]) (a:= .store) t6 rfl fun x7 t7=>?_
 refine L8 (k:=[100,117,112]) (a:= .dup) t7 rfl fun x8 t8=>?_
 refine L8 (k:=[115,119,97,112]) (a:= .swap) t8 rfl fun x9 t9=>?_
 refine L8 (k:=[112,111,112]) (a:= .pop) t9 rfl fun bc Q=>?_
 refine Ew (s:=V3) (y:=V3) Q (by decide) (by decide) fun co a7 b3 X ag=>?_
 refine L8 (k:=[110,101,103]) (a:= .takes V3 [V3]) X ag fun cs E=>?_
 refine Ew (s:=M7) (y:=M7) E (by decide) (by decide) fun b2 ax b4 V L=>?_
 refine L8 (k:=[110,111,116]) (a:= .takes M7 [M7]) V L fun ci A=>?_
 refine Q50 (s:=M7) (y:=M7) (z:=M7) A (by decide) (by decide) (by decide) fun ck bi bo ah R=>?_
 refine L8 (k:=[98,111,116,104]) (a:= .takes M7 [M7,M7]) ah R fun cp D=>?_
 refine Q50 (s:=N5) (y:=N5) (z:=N5) D (by decide) (by decide) (by decide) fun bg be cq W C=>?_
 refine L8 (k:=[106,111,105,110]) (a:= .takes N5 [N5,N5]) W C fun av J=>?_
 refine L8 (k:=[108,101,115,115]) (a:= .takes M7 [V3,V3]) J (.inr (.inr ⟨rfl,rfl,rfl⟩)) fun bv aj=>?_
 refine L8 (k:=[115,97,109,101]) (a:= .takes M7 [V3,V3]) aj (.inr (.inr ⟨rfl,rfl,rfl⟩)) fun cj ap=>?_
 refine L8 (k:=[115,105,122,101]) (a:= .size) ap rfl fun ba M=>?_
 refine L8 (k:=[106,117,109,112]) (a:= .nop) M rfl fun bm ao=>?_
 refine Ew (s:=[]) (y:=M7) ao (by decide) (by decide) fun b0 bz bu ai ac=>?_
 refine L8 (k:=[98,114,97,110,99,104]) (a:= .takes [] [M7]) ai ac fun ce am=>?_
 refine L8 (k:=[110,101,119]) (a:= .make) am rfl fun a5 t=>?_
 refine L8 (k:=[103,101,116]) (a:= .get) t rfl fun b7 N=>?_
 refine L8 (k:=[112,117,116]) (a:= .give) N rfl fun cg ab=>?_
 refine L8 (k:=[99,97,108,108]) (a:= .call) ab rfl fun bn p=>?_
 refine L8 (k:=[97,114,114,97,121]) (a:= .array) p rfl fun cc l=>?_
 refine L8 (k:=[97,116]) (a:= .at_) l rfl fun cr j=>?_
 refine L8 (k:=[115,101,116]) (a:= .set_) j rfl fun cn U=>?_
 refine L8 (k:=[105,115]) (a:= .is) U rfl fun ay af=>?_
 refine L8 (k:=[99,97,115,116]) (a:= .cast) af rfl fun a1 al=>?_
 refine L8 (k:=[114,101,116,117,114,110]) (a:= .ret) al rfl fun bj an=>?_
 refine Ew (s:=[]) (y:=V8) an (by decide) (by decide) fun b6 b8 a3 m g=>?_
 refine L8 (k:=[116,104,114,111,119]) (a:= .takes [] [V8]) m g fun cm ad=>?_
 refine Ew (s:=[]) (y:=V3) ad (by decide) (by decide) fun b9 cb B Z Y=>?_
 refine L8 (k:=[111,117,116]) (a:= .takes [] [V3]) Z Y fun ca ae=>?_
 refine L8 (k:=[101,113,117,97,108]) (a:= .equal) ae rfl fun ch n=>?_
 refine W0 (cells:=(Q1K.map S).toArray) (by kernel_rfl) ?_
 refine Z8 10 (fun i w'=>TS w σ w' B r ((((Q1K.take i).map fun o=>(o,Dact.takes V3 [V3,V3])).reverse)++Q8M.reverse)) n fun i w2 d hi e=>?_
 refine Z1 ?_
 refine Q5 (fun hc=>?_) (fun hc=>?_)
 ·have b:i<10:=by simp at hc;omega
  have c:i<Q1K.length:=b
  refine Q9N (v:=S Q1K[i]) b (by rw[List.getElem?_map,List.getElem?_eq_getElem c];rfl) ?_
  refine L8 (a:= .takes V3 [V3,V3]) e (.inr (.inl ⟨rfl,rfl,rfl⟩)) fun w3 q=>?_
  (try simp only[↓M1,M1,Mb,reduceIte])
  refine Y2 (by decide) b ?_
  rw[List.take_add_one,List.getElem?_eq_getElem c,Option.toList_some,List.map_append,List.reverse_append]
  exact q
 ·have:i=10:=by simp at hc;omega
  subst this
  obtain ⟨f,q1,q2⟩:=e.mp
  obtain ⟨σ3,H,l3,ak,_⟩:=q1.keep e.stp e.ge
  exact h r f w2 σ3 H l3 (q2.lift ⟨ak⟩))
end Go.Proofs.YtfppjenblllfaaaGreatDoor

namespace Go.Proofs.YtfppjenblllfaaaGreatDoor
open Go.Emb Go.RowKit Go.Kd Go.Hm
variable {w w' w1 : World} {K : Value → World → Prop} {σ σ' σ1 : Q4} {v u : Value} {B : Nat} {D D1 : Nat → Prop} {p tv pv cv hv : Value} {m : Hm.Met} {i : Ins} {d d' : Dr} {l : List Cla} {E : World → Prop}
def To (B:Nat) (D:Nat→Prop) (w:World) (σ:Q4) (p tv pv cv hv:Value) (m:Hm.Met) (i:Ins) (d':Dr) (E:World→Prop):Prop:=
 ∀w' σ' a,Nxt D w σ w' σ'→DrIs B a σ' w' p tv pv cv hv m i d'→(∀j,a j→D j∨w.heap.size≤j)→E w'
theorem Nxt.chain0 {D F:Nat→Prop} {b:World} {f:Q4} (h:Nxt D w σ w1 σ1) (k:Nxt F w1 σ1 b f) (g: ∀j,j<w.heap.size→F j→D j):Nxt D w σ b f:=
 ⟨⟨k.kp.os.trans h.kp.os,k.kp.tape.trans h.kp.tape,k.kp.output.trans h.kp.output,Nat.le_trans h.kp.size k.kp.size,fun j a c=>(k.kp.block j (Nat.lt_of_lt_of_le a h.kp.size) fun e=>c (g j a e)).trans (h.kp.block j a c)⟩,
  h.le.more k.le,fun j a=>(k.old j (Nat.lt_of_lt_of_le a h.kp.size)).trans (h.old j a),k.sat⟩
theorem To.go (h:To B D w σ p tv pv cv hv m i d' E) (N:Nxt D w σ w1 σ1) (hD: ∀j,D1 j→D j∨w.heap.size≤j):To B D1 w1 σ1 p tv pv cv hv m i d' E:=fun w' σ' g f c a=>
 h w' σ' g (Nxt.chain0 N f fun j b e=>(hD j e).elim id fun h=>by omega) c fun j b=>(a j b).elim (fun e=>hD j e) fun e=> .inr (Nat.le_trans N.kp.size e)
theorem To.up (h:To B D w σ p tv pv cv hv m i d' E) (k:Stp w σ w1 σ1):To B D w1 σ1 p tv pv cv hv m i d' E:=h.go (.of_stp k) fun j a=> .inl a
theorem To.fin (h:To B D w σ p tv pv cv hv m i d' E) (b:X4 w σ) (a:DrIs B D σ w p tv pv cv hv m i d'):E w:=h w σ D (Nxt.rfl0 b) a fun j c=> .inl c
structure AtD (B : Nat) (D : Nat → Prop) (w : World) (σ : Q4) (p tv pv cv hv : Value) (m : Hm.Met) (i : Ins) (l : List Cla) (d : Dr) : Prop where
  sat : X4 w σ
  ge : B ≤ w.heap.size
  dr : DrIs B D σ w p tv pv cv hv m i d
  tab : Tab σ tv l
  ok : Ok l
  len : d.stack.length ≤ 100000
theorem AtD.up (h:AtD B D w σ p tv pv cv hv m i l d) (k:Stp w σ w1 σ1):AtD B D w1 σ1 p tv pv cv hv m i l d:=⟨k.sat,Nat.le_trans h.ge k.bel.size,h.dr.up k,h.tab.lift ⟨k.le⟩,h.ok,h.len⟩
theorem X0c {q:X0} {ys:List X0} (h:AtD B D w σ p tv pv cv hv m i l d) (b:Sl 1 Y0 σ v ys) (a:q.length≤J3) (c:ys.length≤2000000) (hh:To B D w σ p tv pv cv hv m i (d.all l q ys) (K (.tuple #[]))):Q0 P F.a5 [p,S q,v] w K:=
 X21 h.sat h.ge h.dr h.tab h.ok b a h.len c hh
theorem Q7Q {q y z:X0} (h:AtD B D w σ p tv pv cv hv m i l d) (c:q.length≤J3) (f:y.length≤J3) (e:z.length≤J3) (hh:To B D w σ p tv pv cv hv m i (d.all l q [y,z]) E):buildSlice P T.d 2 [(0,S y),(1,S z)] w fun t w=>Q0 P F.a5 [p,S q,t] w fun _ w=>E w:=by
 refine D6 (R:=Y0) (sz:=1) h.sat [S y,S z] [y,z] rfl rfl (by simp;exact ⟨rfl,rfl⟩) rfl ⟨⟨rfl,f⟩,⟨rfl,e⟩,trivial⟩ fun j g k b a=>?_
 exact X0c (h.up b) a c (by simp) (hh.up b)
def Q9S (l:List Cla) (m:Hm.Met) (i:Ins) (c f:X0) (k:Bool) (a:Dact):Prop:= ∀{w:World} {σ:Q4} {B:Nat} {D:Nat→Prop} {p tv pv cv hv v:Value} {d:Dr} {K:Value→World→Prop},AtD B D w σ p tv pv cv hv m i l d→Gv σ a v→d.e=0→
 To B D w σ p tv pv cv hv m i (Gb l m i c f k d a) (K (.tuple #[]))→Z0 P v [p] w K
theorem Q8T {c f q:X0} {k:Bool} {ys:List X0} (s:ys.length≤100000):Q9S l m i c f k (.takes q ys):=fun {w σ B D p tv pv cv hv v d K} h j _ hh=>by
 have hh:To B D w σ p tv pv cv hv m i (d.all l q ys) (K (.tuple #[])):=hh
 rcases j with ⟨a,b,r,rfl,e,o,g,n⟩ | ⟨rfl,rfl,rfl⟩ | ⟨rfl,rfl,rfl⟩
 ·refine Y8 (first:=[]) (caps:=[.pointer (some a), .pointer (some b)]) (Q1Z ?_)
  unfold Sw
  refine X8 h.sat e rfl ?_
  refine X8 h.sat o rfl ?_
  exact X0c h g n (by omega) hh
 ·refine Y8 (first:=[]) (caps:=[]) (Gp ?_)
  unfold Lm
  exact Q7Q (E:=K (.tuple #[])) h (by decide) (by decide) (by decide) hh
 ·refine Y8 (first:=[]) (caps:=[]) (Co ?_)
  unfold Uq
  exact Q7Q (E:=K (.tuple #[])) h (by decide) (by decide) (by decide) hh
end Go.Proofs.YtfppjenblllfaaaGreatDoor

namespace Go.Proofs.YtfppjenblllfaaaGreatDoor
open Go.Emb Go.RowKit Go.Kd Go.Hm
variable {w w' w1 : World} {K : Value → World → Prop} {σ σ' σ1 : Q4} {v u : Value} {tv : Value} {m : Hm.Met} {i : Ins} {l : List Cla}
theorem X2v {t:TypeId} {sz by_ k b:Nat} {z:Value} [TG P t true] [TZ P t sz by_ z] {cs ds:List Value} (c:Z5 σ w b cs) (a: ∀i v,ds[i]? =some v→cs[k+i]? =some v) (e:ds.length=sz) (h:K (.agg ds.toArray) w):Q2 P t (.pointer (some ((⟨b,0,none⟩:Addr).add k))) w K:=
 Dv e (fun i v d=>by rw[Sr];exact c.cell (a i v d)) h
theorem Q3C {t:TypeId} {sz by_ b:Nat} {z:Value} [tz:TZ P t sz by_ z] {cs ds:List Value} (a:Z5 σ w b cs) (f:cs.length=sz) (c:ds.length=sz) (e: ∀u∈ds,u.oneCell'=true)
 (h: ∀w',Upd w b w'→Z5 σ w' b ds→K undef w'):Z3 P t (.pointer (some ⟨b,0,none⟩)) (.agg ds.toArray) w K:=
 sta a f c (by rw[List.all_toArray];exact List.all_eq_true.2 e) fun w' d a=>h w' d a
def QF (w0:World) (σ:Q4) (xs:List X0) (v:Value) (w':World):Prop:=Stp w0 σ w' σ∧U2 w0.heap.size T.b 1 Y0 σ w' v xs
theorem QF.st {w0:World} {xs:List X0}:K1 (fun w w'=>Below w.heap.size w w') (QF w0 σ xs):=fun _ _ _ ⟨a,c⟩ b=>⟨a.trans (Stp.of_below a.sat b),c.up (Stp.of_below a.sat b)⟩
def QFR (w0:World) (σ:Q4) (xs:List X0) (p:Iv) (v:Value) (w':World):Prop:=QF w0 σ xs v w'∧ ∀k,v.ownBlock=some k→p.1≤k∧k<p.2
theorem QFR.st {w0:World} {xs:List X0} (p:Iv):K1 (fun w w'=>Below w.heap.size w w') (QFR w0 σ xs p):=fun _ _ _ ⟨a,c⟩ b=>⟨QF.st _ _ _ a b,c⟩
theorem Q2M {w0:World} {xs:List X0} (b:Hst w0 σ w σ) (d:Sl 1 Y0 σ v xs) (f:xs.length≤1000000):Q0 P F.b [v] w (dkR (fun w w'=>Below w.heap.size w w') (QFR w0 σ xs) w):=
 Q22 b.sat d f fun g w' c a=>⟨c.bel,⟨b.stp.trans c,(U2.of_acc a).mono b.stp.bel.size⟩,fun k e=>⟨(a.mem k e).1,(a.mem k e).2.1⟩⟩
theorem X0y {A:(World→World→Prop)→(World→Prop)→Prop} (b:X4 w σ) (h:A (fun w w'=>Below w.heap.size w w') (fun w'=>Hst w σ w' σ)):drR w A:=
 X1e _ _ ⟨Stp.of_below b (Below.refl _ _).drew⟩ (fun _ _ a c=>⟨a.stp.trans (Stp.of_below a.sat c)⟩) (fun _ _ h=>h.size) h
def Q3B (d:Dr):Shp×Int:=if d.e=0 then (⟨true,d.stack,d.locals⟩,0) else (Shp.zero,d.e)
def FnF (σ:Q4) (w0:World) (o:Option Dact) (v:Value) (w':World):Prop:= ∃σ',Stp w0 σ w' σ'∧ ∀a,o=some a→Gv σ' a v
def TbF (σ:Q4) (w0:World) (v:Value) (w':World):Prop:= ∃σ' r a,Stp w0 σ w' σ'∧v= .map (some r)∧I2 σ' r a∧Gm σ' a Fj
theorem TbF.st {w0:World}:K1 (fun w w'=>Below w.heap.size w w') (TbF σ w0):=fun _ _ _ ⟨σ',r,b,a,f,e,c⟩ d=>⟨σ',r,b,a.trans (Stp.of_below a.sat d),f,e,c⟩
theorem FnF.st {w0:World} {o:Option Dact}:K1 (fun w w'=>Below w.heap.size w w') (FnF σ w0 o):=fun _ _ _ ⟨σ',a,c⟩ b=>⟨σ',a.trans (Stp.of_below a.sat b),c⟩
set_option maxHeartbeats 2000000 in
theorem X2j {ms is:List Value} {sv lv:Value} {xs ys:List X0} {b0:Bool} {c f:X0} {k:Bool} (hs:X4 w σ) (ht:Tab σ tv l) (ok:Ok l) (hm:M5 σ m ms) (hi:I3 σ i is) (hx:Sl 1 Y0 σ sv xs) (hy:Sl 1 Y0 σ lv ys) (hl:xs.length≤1000) (R:ys.length≤1000) (ao: ∀a,Fj.lookup i.op=some a→Q9S l m i c f k a)
 (h: ∀ds w' σ',Stp w σ w' σ'→U7 σ' (doM l m i c f k ⟨b0,xs,ys⟩).1 ds→K (.tuple #[.agg ds.toArray,I (doM l m i c f k ⟨b0,xs,ys⟩).2]) w'):
 Q0 P F.cL [tv, .agg ms.toArray, .agg is.toArray, .agg [.bool b0,sv,lv].toArray] w K:=Q7S (by
 obtain ⟨pv,cv,hv,rfl,Q⟩:=hm
 obtain ⟨rfl,dn⟩:=hi
 obtain ⟨ta,cg⟩: ∃ta,tv= .pointer (some ta):=by obtain ⟨a,_,_,_,e,_⟩:=ht.ex;exact ⟨a,e⟩
 subst cg
 unfold Q35
 refine Y9 hs fun qm w1 σ1 O cb=>?_
 refine Y9 O.sat fun qi w2 σ2 k2 b3=>?_
 refine Y9 k2.sat fun qs w3 σ3 k3 ct=>?_
 have bj:=(cb.up k2).up k3
 have bi:=b3.up k3
 have S3:=(O.trans k2).trans k3
 have cj:=hx.up S3
 have ca:=hy.up S3
 refine G8 k3.sat fun b8 L σ4 az k4 a6=>?_
 have S4:=S3.trans k4
 have bb:=bj.up k4
 have W:=bi.up k4
 have ab:=ct.up k4
 have cd:=cj.up k4
 have cc:=ca.up k4
 refine X0y k4.sat ?_
 refine U4 (fun N _ w g=>O3 (N4 rfl)) ?_
 refine U4 (fun N _ w g=>O3 (N4 rfl)) ?_
 refine U4 (V:= .agg [S m.name,pv,S m.result, .bool m.abs,I m.locals,cv,hv].toArray) (fun N _ w g=>Y7 g.sat (bb.up g.stp) rfl (N4 rfl)) ?_
 refine U4 (V:= .agg [S i.op,I i.n,S i.s].toArray) (fun N _ w g=>Y7 g.sat (W.up g.stp) rfl (N4 rfl)) ?_
 refine U4 (V:=sv) (fun t N _ w g e=>?_) ?_
 ·subst e
  exact ld (i:=1) g.sat (ab.up g.stp) rfl (N4 rfl)
 refine Q5W (QFR L σ4 xs) QFR.st (fun t N _ w g e=>?_) ?_
 ·subst e
  exact Q2M g cd (by omega)
 refine U4 (V:=lv) (fun t N _ w g e=>?_) ?_
 ·subst e
  exact ld (i:=2) g.sat (ab.up g.stp) rfl (N4 rfl)
 refine Q5W (QFR L σ4 ys) QFR.st (fun t N _ w g e=>?_) ?_
 ·subst e
  exact Q2M g cc (by omega)
 refine W7 (fun v w'=> ∃t u,v= .agg #[.bool true,t,u]∧QF L σ4 xs t w'∧QF L σ4 ys u w'∧ ∀k,t.ownBlock=some k→u.ownBlock≠some k) (fun _ _ _ ⟨t,u,M,J,h3,h4⟩ g=>⟨t,u,M,QF.st _ _ _ J g,QF.st _ _ _ h3 g,h4⟩) (fun A q N hA w g af ac=>?_) ?_
 ·refine W0 (cells:= #[.bool true,A,q]) (by obtain ⟨⟨_,a,dp,rfl,_⟩,_⟩:=af;obtain ⟨⟨_,a2,dd,rfl,_⟩,_⟩:=ac;kernel_rfl) ?_
  exact ⟨Below.refl _ _,A,q,rfl,af.1,ac.1,fun k e1 e2=>by
   have g1:=af.2 k e1
   have g2:=ac.2 k e2
   rcases hA 6 8 (by decide) with h | h<;>omega⟩
 rintro _ _ _ _ _ _ _ _ _ N-w5 dv rfl rfl rfl rfl rfl-rfl-⟨A,q,rfl,⟨k5,q5⟩,⟨-,y5⟩,cw⟩
 obtain ⟨bz,b5,ck,_⟩:=Q
 refine W0 (cells:= #[.pointer (some ta),S m.name,pv,S m.result, .bool m.abs,I m.locals,cv,hv,S i.op,I i.n,S i.s, .bool true,A,q,I 0]) (by
  obtain ⟨a1,c1,rfl,_⟩:=bz;obtain ⟨a2,c2,rfl,_⟩:=b5;obtain ⟨a3,c3,rfl,_⟩:=ck;obtain ⟨a4,c4,rfl,_⟩:=q5;obtain ⟨a5,c5,rfl,_⟩:=y5;kernel_rfl) ?_
 refine Ao k5.sat fun b w6 σ6 g Y ba=>?_
 have c6:=a6.lt
 have cr:L.heap.size≤b:=Nat.le_trans k5.bel.size g
 have aa:=(a6.up k5).up Y
 have S5:=S4.trans k5
 have S6:=S5.trans Y
 have q6:=q5.up Y
 have y6:=y5.up Y
 have aq:DrIs L.heap.size (fun k=>k=b∨A.ownBlock=some k∨q.ownBlock=some k) σ6 w6 (.pointer (some ⟨b,0,none⟩)) (.pointer (some ta)) pv cv hv m i ⟨xs,ys,0⟩:=
  ⟨b,A,q,rfl,cr,ba,q6,y6,fun k y=>⟨fun e=>by have:=(q5.mem y).2.1;omega,cw k y⟩,fun k y e=>by have:=(y5.mem y).2.1;omega,fun k=>Iff.rfl⟩
 have A6:AtD L.heap.size _ w6 σ6 (.pointer (some ⟨b,0,none⟩)) (.pointer (some ta)) pv cv hv m i l ⟨xs,ys,0⟩:=⟨Y.sat,Nat.le_trans k5.bel.size Y.bel.size,aq,ht.lift ⟨S6.le⟩,ok,by show xs.length≤100000;omega⟩
 generalize (fun k=>k=b∨A.ownBlock=some k∨q.ownBlock=some k)=D at*
 have bc: ∀k,D k→L.heap.size≤k:=fun k y=>(A6.dr.mem y).1
 have c8:=(W.up k5).up Y
 clear aq q5 q6 y5 y6 ba
 generalize (Value.pointer (some ⟨b,0,none⟩))=p at*
 have bh:doM l m i c f k ⟨b0,xs,ys⟩=match Fj.lookup i.op with
  | none=>(Shp.zero,76)
  | some a=>Q3B ((Gb l m i c f k ⟨xs,ys,0⟩ a).wrong (decide ((Gb l m i c f k ⟨xs,ys,0⟩ a).stack.length≤24)) 72):=rfl
 rw[bh] at h
 clear bh
 generalize ho:Fj.lookup i.op=o at*
 refine V2 Y.sat ?_
 (repeat refine U4 Qn ?_)
 refine W7 (TbF σ6 w6) TbF.st (fun w g=>X0B g.sat fun r mp w' σ' O M J=>⟨O.bel,σ',r,mp,g.stp.trans O,rfl,M,J⟩) ?_
 (repeat refine U4 Qn ?_)
 refine W7 (fun v w'=> ∃v0,v= .tuple #[v0, .bool o.isSome]∧FnF σ6 w6 o v0 w') (fun _ _ _ ⟨v0,M,J⟩ g=>⟨v0,M,FnF.st _ _ _ J g⟩) (fun ea eh w g cx cp=>?_) ?_
 ·subst cp
  obtain ⟨σ',r,mp,O,rfl,M,J⟩:=cx
  have h3:=J i.op
  rw[ho] at h3
  refine Q4P (sz:=1) (by_:=8) (z:= .nilFunc) (tz:=⟨by kernel_rfl⟩) X7 (M.is O.sat) i.op ?_
  refine ⟨Below.refl _ _,?_⟩
  cases o with
  | none=>
   have h3:L9 mp i.op=none:=h3
   rw[h3]
   exact ⟨_,rfl,σ',O,fun a e=>by cases e⟩
  | some a=>
   obtain ⟨v,h4,h5⟩:=h3
   rw[h4]
   exact ⟨v,rfl,σ',O,fun a e=>by cases e;exact h5⟩
 refine W7 (FnF σ6 w6 o) FnF.st (fun t w g ad=>?_) ?_
 ·obtain ⟨v0,rfl,J⟩:=ad
  exact J8 rfl ⟨Below.refl _ _,J⟩
 refine U4 (V:= .bool o.isSome) (fun t w g ad=>?_) ?_
 ·obtain ⟨v0,rfl,J⟩:=ad
  exact J8 rfl (N4 rfl)
 rintro _ _ _ _ ec _ w7 dl rfl-rfl-b4 rfl
 obtain ⟨σ7,k7,hf⟩:=b4
 refine Nh ?_
 cases o with
 | none=>
  refine V9 ?_
  refine W0 (cells:= #[.bool false, .slice none 0 0, .slice none 0 0]) (by kernel_rfl) ?_
  refine T4 (ds:=[.bool false, .slice none 0 0, .slice none 0 0]) (aa.up k7) (S6.trans k7) (Nat.le_trans S3.bel.size az) rfl rfl (by simp;exact ⟨rfl,rfl⟩) fun w9 ch B=>?_
  refine W1 B rfl ?_
  exact h _ _ _ ch.stp ⟨_,_,rfl,Sl.nil,Sl.nil⟩
 | some a=>
  refine V7 ?_
  refine ao a rfl (A6.up k7) (hf a rfl) rfl fun w8 σ8 D8 N8 h8 ee=>?_
  replace h: ∀ds w' σ',Stp w σ w' σ'→U7 σ' (Q3B ((Gb l m i c f k ⟨xs,ys,0⟩ a).wrong (decide ((Gb l m i c f k ⟨xs,ys,0⟩ a).stack.length≤24)) 72)).1 ds→K (.tuple #[.agg ds.toArray,I (Q3B ((Gb l m i c f k ⟨xs,ys,0⟩ a).wrong (decide ((Gb l m i c f k ⟨xs,ys,0⟩ a).stack.length≤24)) 72)).2]) w':=h
  generalize Gb l m i c f k ⟨xs,ys,0⟩ a=d at*
  have S7:=S6.trans k7
  have bx: ∀k,D k→w.heap.size≤k:=fun k y=>Nat.le_trans S4.bel.size (bc k y)
  have Z: ∀k,D8 k→L.heap.size≤k:=fun k y=>(h8.mem y).1
  have bd:=h8
  obtain ⟨b1,dq,dt,rfl,co,Q,a8,b9,g1,g2,cs⟩:=h8.ex
  refine Q3z ?_
  refine O3 ?_
  refine O3 ?_
  refine Ub (i:=12) Q rfl ?_
  refine Gf a8 ?_
  refine X22 ?_
  rw[show decide (((d.stack.length:Nat):Int)≤24)=decide (d.stack.length≤24) from decide_eq_decide.2 (by omega)]
  refine Q2y N8.sat bd fun w9 N9 h9=>?_
  generalize d.wrong (decide (d.stack.length≤24)) 72=d2 at*
  unfold Q3B at h
  clear bd Q a8 b9 g1 g2 cs h8 co
  obtain ⟨b2,E,H,e2,d0,ah,aj,R,g1,g2,d6⟩:=h9.ex
  cases e2
  have S8:=S7.nx N8 bx
  have S9:=S8.nx N9 fun k y=>Nat.le_trans S4.bel.size (Z k y)
  have a0: ¬D8 b8:=fun e=>by have:=Z _ e;omega
  have ai: ¬D b8:=fun e=>by have:=bc _ e;omega
  have B:=((aa.up k7).nx N8 ai).nx N9 a0
  have X:=Nat.le_trans S3.bel.size az
  refine Q3z ?_
  refine O3 ?_
  refine Ub (i:=14) ah rfl ?_
  refine Xg ?_
  by_cases he:d2.e=0
  ·simp only[if_pos he] at h
   rw[show (!decide (d2.e=0))=false from by simp[he]]
   refine V7 ?_
   refine Q3z ?_
   refine O3 ?_
   refine X2v (k:=11) (ds:=[.bool true,E,H]) ah (fun j v hj=>by rcases j with _ | _ | _ | j<;>first | exact hj | cases hj) rfl ?_
   have M: ∀u∈[Value.bool true,E,H],u.oneCell'=true:=by
    obtain ⟨a1,c1,rfl,_⟩:=aj;obtain ⟨a2,c2,rfl,_⟩:=R;simp;exact ⟨rfl,rfl,rfl⟩
   refine Q3C (ds:=[.bool true,E,H]) B rfl rfl M fun aw ae C=>?_
   refine W1 C rfl ?_
   have ci:Stp w σ aw σ8:=ae.stp S9 X B.1
   have bg:E.ownBlock≠some b8:=fun e=>by have:=(aj.mem e).1;omega
   have an:H.ownBlock≠some b8:=fun e=>by have:=(R.mem e).1;omega
   have ap:=(aj.updD ae bg).mono S4.bel.size
   have U:=(R.updD ae an).mono S4.bel.size
   obtain ⟨σa,Sa,qa,cl,av⟩:=ap.keep ci
   have cn:=U.shiftR cl fun k y=>(av k fun e=>(g1 k e.symm).2 y).trans (U.mem y).2.2
   obtain ⟨σb,Sb,qb,ce,_⟩:=cn.keep Sa
   exact h _ _ _ Sb ⟨E,H,rfl,qa.lift ce,qb⟩
  ·simp only[if_neg he] at h
   rw[show (!decide (d2.e=0))=true from by simp[he]]
   refine V9 ?_
   refine X1D (ds:=[.bool false, .slice none 0 0, .slice none 0 0]) S9 X B rfl rfl ?_
   refine U4 (V:= .pointer (some ⟨b1,0,none⟩)) (fun w g=>Q3z (Fe rfl)) ?_
   refine U4 (V:= .pointer (some ((⟨b1,0,none⟩:Addr).add 14))) (fun t w g e=>by subst e;exact O3 (Fe rfl)) ?_
   refine U4 (V:= .agg [.bool false, .slice none 0 0, .slice none 0 0].toArray) (fun w g=>W0 (by kernel_rfl) (Fe rfl)) ?_
   refine U4 (V:=I d2.e) (fun t w g e=>?_) ?_
   ·subst e
    exact Ub (i:=14) (ah.kp g.kp fun e=>by omega) rfl (Fe rfl)
   refine Q9x rfl (by simp;exact ⟨rfl,rfl⟩) (fun v w e=>e) ?_ B.1
   rintro _ _ _ _ _ aw be rfl rfl rfl rfl C
   refine W1 C rfl ?_
   exact h _ _ _ be.hst.stp ⟨_,_,rfl,Sl.nil,Sl.nil⟩)
end Go.Proofs.YtfppjenblllfaaaGreatDoor

namespace Go.Proofs.YtfppjenblllfaaaGreatDoor
open Go.Emb Go.RowKit Go.Kd Go.Hm
variable {w w' w0 w1 : World} {K : Value → World → Prop} {σ σ' σ0 σ1 : Q4} {v u : Value} {tv : Value} {l : List Cla} {b b6 : Nat} {xs ys : List X0} {x : X0}
theorem Q2O {σ1:Q4} {cs ds:List Value} (h:Z5 σ w b cs) (k:Z5 σ1 w b ds):cs=ds:=by
 obtain ⟨_,e,h⟩:=h
 obtain ⟨_,f,k⟩:=k
 rw[h] at k
 have:=Option.some.inj k
 simp at this
 exact this.1
structure ShS (w0 : World) (σ0 : Q4) (w : World) (σ : Q4) (b : Nat) (xs ys : List X0) : Prop where
  stp : Stp w0 σ0 w σ
  ge : w0.heap.size ≤ b
  ex : ∃ v1 v2, Z5 σ w b [.bool true, v1, v2] ∧ U2 w0.heap.size T.b 1 Y0 σ w v1 xs ∧ U2 w0.heap.size T.b 1 Y0 σ w v2 ys ∧ (∀ k, v1.ownBlock = some k → k ≠ b ∧ v2.ownBlock ≠ some k) ∧ ∀ k, v2.ownBlock = some k → k ≠ b
theorem ShS.up (h:ShS w0 σ0 w σ b xs ys) (k:Stp w σ w' σ'):ShS w0 σ0 w' σ' b xs ys:=by
 obtain ⟨f,d,c,i,g,a,e⟩:=h.ex
 exact ⟨h.stp.trans k,h.ge,f,d,c.up k,i.up k,g.up k,a,e⟩
theorem X1S (g:X4 w σ) (h: ∀b w',ShS w σ w' σ b [] []→K (.pointer (some ⟨b,0,none⟩)) w'):W3 P T.f w fun p w=>Z3 P T.f p (.agg #[.bool true, .slice none 0 0, .slice none 0 0]) w fun _ w=>K p w:=
 Hi g fun b w1 d f a=>Q3C (sz:=3) (ds:=[.bool true, .slice none 0 0, .slice none 0 0]) a rfl rfl (by simp;exact ⟨rfl,rfl⟩) fun e i c=>
  h b e ⟨i.stp f d a.1,d,_,_,c,U2.of_acc V5.nil,U2.of_acc V5.nil,nofun,nofun⟩
theorem X24 {m r:Value} (h:ShS w0 σ0 w σ b xs ys) (H:Z5 σ w b [.bool true,m,r]) (N:Sl 1 Y0 σ u [x]) (X:xs.length≤1000000) (hh: ∀w',ShS w0 σ0 w' σ b (xs++[x]) ys→K undef w'):
 X6 P .append [T.d,T.d] T.d [false,false] [m,u] w fun p w=>fieldAddr P T.f (.pointer (some ⟨b,0,none⟩)) 1 w fun n w=>Z3 P T.d n p w K:=by
 obtain ⟨Y,Z,j,U,D,z,A⟩:=h.ex
 have e:=Q2O H j
 simp only[List.cons.injEq,and_true,true_and] at e
 obtain ⟨rfl,rfl⟩:=e
 refine Q1M h.stp.sat h.stp.bel.size U N (by rfl) (by simp only[List.length_cons,List.length_nil];omega) (by simp only[List.length_cons,List.length_nil];omega) fun y J t W s o=>?_
 have g: ∀k,y.ownBlock=some k→m.ownBlock=some k∨w.heap.size≤k:=fun k d=>by
  rcases o with ⟨a,L,V,M⟩ | ⟨_,f⟩
  ·left;rw[V];rw[M] at d;cases a<;>exact d
  ·exact .inr (f k d)
 have C:=j.kp t fun e=>(z b e.1).1 rfl
 have R:=D.kp t fun k d e=>(z k e.1).2 d
 have B: ∀k,y.ownBlock=some k→k≠b∧r.ownBlock≠some k:=fun k d=>by
  rcases g k d with h | h
  ·exact z k h
  ·have:=j.lt
   exact ⟨by omega,fun e=>by have:=(D.mem e).2.1;omega⟩
 refine O3 ?_
 refine Lv (i:=1) C (by simp) (by obtain ⟨a,c,rfl,_⟩:=s;rfl) (by obtain ⟨a,c,rfl,_⟩:=s;rfl) fun E q Q=>?_
 have O:Stp w0 σ0 J σ:=h.stp.kp t fun k d=>⟨d.2.1,d.2.2⟩
 exact hh E ⟨q.stp O h.ge C.1,h.ge,y,r,Q,s.updD q fun e=>(B b e).1 rfl,R.updD q fun e=>A b e rfl,B,A⟩
theorem X2k {n s:Value} (h:ShS w0 σ0 w σ b xs ys) (J:Z5 σ w b [.bool true,n,s]) (O:Sl 1 Y0 σ u [x]) (Y:ys.length≤1000000) (hh: ∀w',ShS w0 σ0 w' σ b xs (ys++[x])→K undef w'):
 X6 P .append [T.d,T.d] T.d [false,false] [s,u] w fun q w=>fieldAddr P T.f (.pointer (some ⟨b,0,none⟩)) 2 w fun o w=>Z3 P T.d o q w K:=by
 obtain ⟨Z,a2,m,D,W,z,A⟩:=h.ex
 have e:=Q2O J m
 simp only[List.cons.injEq,and_true,true_and] at e
 obtain ⟨rfl,rfl⟩:=e
 refine Q1M h.stp.sat h.stp.bel.size W O (by rfl) (by simp only[List.length_cons,List.length_nil];omega) (by simp only[List.length_cons,List.length_nil];omega) fun j L y X t p=>?_
 have f: ∀k,j.ownBlock=some k→s.ownBlock=some k∨w.heap.size≤k:=fun k d=>by
  rcases p with ⟨a,M,V,N⟩ | ⟨_,g⟩
  ·left;rw[V];rw[N] at d;cases a<;>exact d
  ·exact .inr (g k d)
 have C:=m.kp y fun e=>A b e.1 rfl
 have U:=D.kp y fun k d e=>(z k d).2 e.1
 have B: ∀k,j.ownBlock=some k→k≠b:=fun k d=>by
  rcases f k d with h | h
  ·exact A k h
  ·have:=m.lt
   omega
 have E: ∀k,n.ownBlock=some k→k≠b∧j.ownBlock≠some k:=fun k d=>⟨(z k d).1,fun e=>by
  rcases f k e with h | h
  ·exact (z k d).2 h
  ·have:=(D.mem d).2.1;omega⟩
 refine O3 ?_
 refine Lv (i:=2) C (by simp) (by obtain ⟨a,c,rfl,_⟩:=t;rfl) (by obtain ⟨a,c,rfl,_⟩:=t;rfl) fun H r R=>?_
 have Q:Stp w0 σ0 L σ:=h.stp.kp y fun k d=>⟨d.2.1,d.2.2⟩
 exact hh H ⟨r.stp Q h.ge C.1,h.ge,n,j,R,U.updD r fun e=>(E b e).1 rfl,t.updD r fun e=>B b e rfl,E,B⟩
theorem X1q {q:List Value} {K:Value→World→Prop} (h:ShS w0 σ0 w σ b xs ys) (S0:Stp w1 σ1 w0 σ0) (i:Z5 σ0 w0 b6 q) (D:q.length=3) (c:w1.heap.size≤b6) (hh: ∀ds w' σ',Stp w1 σ1 w' σ'→U7 σ' ⟨true,xs,ys⟩ ds→K (.agg ds.toArray) w'):
 Q2 P T.f (.pointer (some ⟨b,0,none⟩)) w fun t w=>Z3 P T.f (.pointer (some ⟨b6,0,none⟩)) t w fun _u w=>V4 P T.f (.pointer (some ⟨b6,0,none⟩)) w fun L=>K L w:=by
 obtain ⟨f,j,C,o,p,J,V⟩:=h.ex
 have z:=i.lt
 refine Q6y C rfl ?_
 have E: ∀u∈[Value.bool true,f,j],u.oneCell'=true:=by
  obtain ⟨X,R,rfl,_⟩:=o;obtain ⟨Y,U,rfl,_⟩:=p;simp;exact ⟨rfl,rfl,rfl⟩
 refine Q3C (ds:=[.bool true,f,j]) (i.up h.stp) D rfl E fun H n O=>?_
 refine W1 O rfl ?_
 have S:=S0.trans h.stp
 have M:Stp w1 σ1 H σ:=n.stp S c (i.up h.stp).1
 have N:=(o.updD n fun e=>by have:=(o.mem e).1;omega).mono S0.bel.size
 have s:=(p.updD n fun e=>by have:=(p.mem e).1;omega).mono S0.bel.size
 obtain ⟨W,Q,y,g,a⟩:=N.keep M
 have m:=s.shiftR g fun k r=>(a k fun e=>(J k e.symm).2 r).trans (s.mem r).2.2
 obtain ⟨σb,A,B,d,_⟩:=m.keep Q
 exact hh _ _ _ A ⟨f,j,rfl,y.lift d,B⟩
theorem Tn {d ds:List Value} {s:Shp} {K:Value→World→Prop} (S0:Stp w1 σ1 w σ) (e:Z5 σ w b6 d) (f:d.length=3) (a:w1.heap.size≤b6) (c:U7 σ s ds) (hh: ∀w',Stp w1 σ1 w' σ→K (.agg ds.toArray) w'):
 Z3 P T.f (.pointer (some ⟨b6,0,none⟩)) (.agg ds.toArray) w fun _u w=>V4 P T.f (.pointer (some ⟨b6,0,none⟩)) w fun h=>K h w:=by
 refine Q3C (ds:=ds) e f (by obtain ⟨_,_,rfl,_⟩:=c;rfl) (Rep.one c) fun g i j=>?_
 exact W1 j (by obtain ⟨_,_,rfl,_⟩:=c;rfl) (hh g (i.stp S0 a e.1))
theorem U7.zero:U7 σ Shp.zero [.bool false, .slice none 0 0, .slice none 0 0]:=⟨_,_,rfl,Sl.nil,Sl.nil⟩
theorem Bx (h:K (.agg [.bool false, .slice none 0 0, .slice none 0 0].toArray) w):N1 P T.f [] w K:=W0 (by kernel_rfl) h
theorem Q9p (h:K (.agg #[.bool true, .slice none 0 0, .slice none 0 0]) w):N1 P T.f [(0, .bool true)] w K:=W0 (by kernel_rfl) h
end Go.Proofs.YtfppjenblllfaaaGreatDoor

namespace Go.Proofs.YtfppjenblllfaaaGreatDoor
open Go.Emb Go.RowKit Go.Kd Go.Hm
variable {w w' w0 w1 : World} {K : Value → World → Prop} {σ σ' σ0 σ1 : Q4} {v u : Value} {tv : Value} {l : List Cla} {b b6 : Nat} {xs ys : List X0} {x : X0} {s t : Shp}
theorem Q9y (c:X4 w σ) (f:Sl 1 Y0 σ v xs) (g:xs.length≤1000000)
 (h: ∀a w' σ',Stp w σ w' σ'→Sl 1 Y0 σ' a xs→K a w'):Q0 P F.b [v] w K:=
 Q22 c f g fun a w' i d=>by
  obtain ⟨σ',e,j,_⟩:=d.keep i
  exact h a w' σ' e j
def SlF (w0:World) (σ:Q4) (xs:List X0) (v:Value) (w':World):Prop:= ∃σ',Stp w0 σ w' σ'∧Sl 1 Y0 σ' v xs
theorem SlF.st:K1 (fun w w'=>Below w.heap.size w w') (SlF w0 σ xs):=fun _ _ _ ⟨σ',a,d⟩ c=>⟨σ',a.trans (Stp.of_below a.sat c),d⟩
theorem Q38 (a:Hst w0 σ w σ) (e:Sl 1 Y0 σ v xs) (f:xs.length≤1000000):Q0 P F.b [v] w (dk (fun w w'=>Below w.heap.size w w') (SlF w0 σ xs) w):=
 Q9y a.sat e f fun g w' σ' c d=>⟨c.bel,σ',a.stp.trans c,d⟩
theorem U7.liftS {ds:List Value} (h:U7 σ s ds) (k:Stp w σ w' σ'):U7 σ' s ds:=Rep.up k.le h
theorem Q2N {ds:List Value} (W:X4 w σ) (hr:U7 σ s ds) (Z:s.stack.length≤1000000) (U:s.locals.length≤1000000) (h: ∀m w' σ',Stp w σ w' σ'→U7 σ' s m→K (.agg m.toArray) w'):Q0 P F.bG [.agg ds.toArray] w K:=Q3n (by
 obtain ⟨sv,lv,rfl,B,E⟩:=hr
 unfold Gy
 refine Ao W fun b w1 σ1 c A a=>?_
 have Y:=a.lt
 refine G8 A.sat fun b2 J H q o D=>?_
 have z:=A.trans o
 have a:=a.up o
 have B:=B.up z
 have E:=E.up z
 refine V2 o.sat ?_
 (repeat refine U4 Qn ?_)
 refine U4 (V:=sv) (fun t w c e=>by subst e;exact Ub (i:=1) (a.up c.stp) rfl (N4 rfl)) ?_
 refine W7 (SlF J H s.stack) SlF.st (fun t w c e=>by subst e;exact Q38 c B Z) ?_
 refine U4 (V:=lv) (fun t w c e=>by subst e;exact Ub (i:=2) (a.up c.stp) rfl (N4 rfl)) ?_
 (repeat refine U4 Qn ?_)
 refine W7 (SlF J H s.locals) SlF.st (fun t w c e=>by subst e;exact Q38 c E U) ?_
 rintro _ _ _ y _ _ C w3 Q rfl rfl rfl R rfl rfl f8
 obtain ⟨σa,X,f⟩:=R
 obtain ⟨σb,kb,g⟩:=f8
 obtain ⟨σ3,p,la,N⟩:=X.join kb
 have f:=f.lift la
 have g:=g.lift N
 have k:=a.up p
 refine Lv (i:=1) k (by simp) (Qy f) (F5 f) fun w4 L n=>?_
 refine O3 ?_
 refine Lv (i:=2) n (by simp) (Qy g) (F5 g) fun w5 M r=>?_
 refine Q6y (cs:=[.bool s.seen,y,C]) r rfl ?_
 have O:=z.trans p
 have S5:=M.stp (L.stp O c k.1) c n.1
 have d:b2≠b:=fun e=>by subst e;omega
 have j:=(((D.up p).upd L d).upd M d)
 exact Tn (s:=s) (K:=K) S5 j rfl (Nat.le_trans A.bel.size q) ⟨y,C,rfl,f,g⟩ fun w6 S6=>h _ _ _ S6 ⟨y,C,rfl,f,g⟩)
theorem X1V {α:Type} {f:X0→X0→α} {xs cs:List X0} {i:Nat} (c:i<xs.length) (d:i<cs.length):(List.zipWith f xs cs).take (i+1)=(List.zipWith f xs cs).take i++[f xs[i] cs[i]]:=by
 have a:i<(List.zipWith f xs cs).length:=by simp;omega
 rw[List.take_add_one,List.getElem?_eq_getElem a]
 simp
theorem X1g {f:X0→X0→X0} {xs cs:List X0} {e:X0} (j:xs.length=cs.length):(List.zipWith f xs cs).any (fun s=>decide (s=e))=false↔ ∀i (c:i<xs.length) (g:i<cs.length),f xs[i] cs[i]≠e:=by
 rw[List.any_eq_false]
 constructor
 ·intro h i c g
  have:=h (f xs[i] cs[i]) (List.mem_iff_getElem.2 ⟨i,by simp;omega,by simp⟩)
  simpa using this
 ·intro h x a
  obtain ⟨i,d,rfl⟩:=List.mem_iff_getElem.1 a
  simp at d
  simpa using h i (by omega) (by omega)
set_option maxHeartbeats 1000000 in
theorem Q6h {ds es:List Value} (hs:X4 w σ) (ht:Tab σ tv (Q6 l)) (ok:Ok (Q6 l)) (hr:U7 σ s ds) (hu:U7 σ t es) (h1:s.stack.length≤1000) (h2:s.locals.length≤1000) (h3:t.stack.length≤1000) (h4:t.locals.length≤1000)
 (h: ∀q w' σ',Stp w σ w' σ'→U7 σ' (F6 (Q6 l) s t).1 q→K (.tuple #[.agg q.toArray,I (F6 (Q6 l) s t).2]) w'):Q0 P F.aD [tv, .agg ds.toArray, .agg es.toArray] w K:=Q3U (by
 have ap:=hr
 have aq:=hu
 obtain ⟨sv,lv,rfl,q1,q2⟩:=hr
 obtain ⟨b9,b0,rfl,q3,q4⟩:=hu
 unfold Ps
 refine Y9 hs fun qa w1 σ1 k1 c=>?_
 refine Y9 k1.sat fun qb w2 σ2 k2 g=>?_
 have c:=c.up k2
 refine G8 k2.sat fun b6 w3 V n k3 C=>?_
 have c:=c.up k3
 have g:=g.up k3
 have S2:=k1.trans k2
 have a:=S2.trans k3
 have n:w.heap.size≤b6:=Nat.le_trans S2.bel.size n
 have X:=ht.lift ⟨a.le⟩
 refine O3 ?_
 refine ld (i:=0) a.sat c rfl ?_
 refine Nh ?_
 cases e1:s.seen with
 | false=>
  have O:F6 (Q6 l) s t=(t,0):=by unfold F6;rw[if_pos e1]
  rw[O] at h
  refine V9 ?_
  refine Y7 a.sat g rfl ?_
  refine Q2N a.sat (U7.liftS aq a) (by omega) (by omega) fun q w4 σ4 Y A=>?_
  exact Tn (K:=fun r w=>K (.tuple #[r,I 0]) w) (a.trans Y) (C.up Y) rfl n A fun w5 f=>h _ _ _ f A
 | true=>
 refine V7 ?_
 refine O3 ?_
 refine ld (i:=0) a.sat g rfl ?_
 refine Nh ?_
 cases e2:t.seen with
 | false=>
  have O:F6 (Q6 l) s t=(s,0):=by unfold F6;rw[if_neg (by simp[e1]),if_pos e2]
  rw[O] at h
  refine V9 ?_
  refine Y7 a.sat c rfl ?_
  refine Q2N a.sat (U7.liftS ap a) (by omega) (by omega) fun q w4 σ4 Y A=>?_
  exact Tn (K:=fun r w=>K (.tuple #[r,I 0]) w) (a.trans Y) (C.up Y) rfl n A fun w5 f=>h _ _ _ f A
 | true=>
 refine V7 ?_
 have q1:=q1.up a
 have q2:=q2.up a
 have q3:=q3.up a
 have q4:=q4.up a
 refine O3 ?_
 refine ld (i:=1) a.sat c rfl ?_
 refine Q8 q1 ?_
 refine O3 ?_
 refine ld (i:=1) a.sat g rfl ?_
 refine Q8 q3 ?_
 refine Xg ?_
 have en:F6 (Q6 l) s t=if s.stack.length≠t.stack.length∨s.locals.length≠t.locals.length then (Shp.zero,75)
  else if (List.zipWith (R7 (Q6 l)) s.stack t.stack).any (fun s=>decide (s=[])) then (Shp.zero,75)
  else (⟨true,List.zipWith (R7 (Q6 l)) s.stack t.stack,List.zipWith (T7 (Q6 l)) s.locals t.locals⟩,0):=by
  unfold F6;rw[if_neg (by simp[e1]),if_neg (by simp[e2])]
 rw[en] at h
 clear en
 have H:(s.stack.length≠t.stack.length∨s.locals.length≠t.locals.length)→ ∀w σ',Stp w3 V w σ'→N1 P T.f [] w fun a5 w=>Z3 P T.f (.pointer (some ⟨b6,0,none⟩)) a5 w fun _u w=>V4 P T.f (.pointer (some ⟨b6,0,none⟩)) w fun r0=>K (.tuple #[r0,I 75]) w:=fun E w σ' k=>by
  rw[if_pos E] at h
  refine Bx ?_
  exact Tn (K:=fun r w=>K (.tuple #[r,I 75]) w) (a.trans k) (C.up k) rfl n U7.zero fun w5 f=>h _ _ _ f U7.zero
 by_cases el:s.stack.length=t.stack.length
 case neg=>
  rw[show (!decide ((s.stack.length:Int)=(t.stack.length:Nat)))=true from by simp;omega]
  (repeat refine Hd.h ?_)
  refine V9 ?_
  exact H (.inl el) w3 V (Stp.refl a.sat)
 rw[show (!decide ((s.stack.length:Int)=(t.stack.length:Nat)))=false from by simp[el]]
 (repeat refine Hd.h ?_)
 refine ld (i:=2) a.sat c rfl ?_
 (repeat refine Hd.h ?_)
 refine Q8 q2 ?_
 (repeat refine Hd.h ?_)
 refine ld (i:=2) a.sat g rfl ?_
 (repeat refine Hd.h ?_)
 refine Q8 q4 ?_
 (repeat refine Hd.h ?_)
 refine Xg ?_
 (repeat refine Hd.h ?_)
 by_cases O:s.locals.length=t.locals.length
 case neg=>
  rw[show (!decide ((s.locals.length:Int)=(t.locals.length:Nat)))=true from by simp;omega]
  refine V9 ?_
  exact H (.inr O) w3 V (Stp.refl a.sat)
 rw[show (!decide ((s.locals.length:Int)=(t.locals.length:Nat)))=false from by simp[O]]
 refine V7 ?_
 clear H
 rw[if_neg (by simp[el,O])] at h
 refine Q9p ?_
 refine X1S a.sat fun b w4 A4=>?_
 have S4:=A4.stp
 refine O3 ?_
 refine ld (i:=1) S4.sat (c.up S4) rfl ?_
 refine Q8 q1 ?_
 refine Z8 s.stack.length (fun k w'=> ∃σ',ShS w3 V w' σ' b ((List.zipWith (R7 (Q6 l)) s.stack t.stack).take k) []∧ ∀j (g1:j<s.stack.length) (g2:j<t.stack.length),j<k→R7 (Q6 l) s.stack[j] t.stack[j]≠[]) ⟨V,A4,fun j _ _ h=>absurd h (Nat.not_lt_zero _)⟩ fun k w5 d hk hi=>?_
 obtain ⟨σ5,A5,L⟩:=hi
 have f:=A5.stp
 refine Z1 ?_
 refine Q5 (fun E=>?_) (fun E=>?_)
 ·have m:k<s.stack.length:=by simp at E;omega
  have o:k<t.stack.length:=by omega
  refine Qe (q1.up f) m fun a1 N y=>?_
  refine X8 f.sat N rfl ?_
  refine O3 ?_
  refine ld (i:=1) f.sat (g.up f) rfl ?_
  refine Qe (q3.up f) o fun a2 J B=>?_
  refine X8 f.sat J rfl ?_
  refine Q7I f.sat (X.lift ⟨f.le⟩) ok y B fun w6 σ6 k6=>?_
  have D:=A5.up k6
  refine Ng ?_
  by_cases ej:R7 (Q6 l) s.stack[k] t.stack[k]=[]
  ·rw[decide_eq_true ej]
   refine V9 ?_
   have W:(List.zipWith (R7 (Q6 l)) s.stack t.stack).any (fun s=>decide (s=[]))=true:=by
    rw[←Bool.not_eq_false,X1g el]
    exact fun hh=>hh k m o ej
   rw[if_pos W] at h
   refine Bx ?_
   exact Tn (K:=fun r w=>K (.tuple #[r,I 75]) w) (a.trans D.stp) (C.up D.stp) rfl n U7.zero fun w5 f=>h _ _ _ f U7.zero
  ·rw[decide_eq_false ej]
   refine V7 ?_
   obtain ⟨v1,v2,m6,p1,p2,n1,n2⟩:=D.ex
   refine O3 ?_
   refine Ub (i:=1) m6 rfl ?_
   have Q:=Q4S ok y B
   refine D6 (R:=Y0) (sz:=1) D.stp.sat [S (R7 (Q6 l) s.stack[k] t.stack[k])] [R7 (Q6 l) s.stack[k] t.stack[k]] rfl rfl (by simp;rfl) rfl ⟨⟨rfl,Q⟩,trivial⟩ fun v7 w7 σ7 U an=>?_
   refine X24 (D.up U) (m6.up U) an (by rw[List.length_take];omega) fun w8 A8=>?_
   (try simp only[↓M1,M1,Mb,reduceIte])
   refine Y2 (by omega) m ⟨σ7,?_,fun j g1 g2 hj=>?_⟩
   ·rw[X1V m o];exact A8
   ·by_cases e:j=k
    ·subst e;exact ej
    ·exact L j g1 g2 (by omega)
 have M:k=s.stack.length:=by simp at E;omega
 subst M
 have W:(List.zipWith (R7 (Q6 l)) s.stack t.stack).any (fun s=>decide (s=[]))=false:=(X1g el).2 fun j g1 g2=>L j g1 g2 g1
 rw[if_neg (by simp[W])] at h
 rw[List.take_of_length_le (by simp;omega)] at A5
 clear L W
 refine O3 ?_
 refine ld (i:=2) f.sat (c.up f) rfl ?_
 refine Q8 (q2.up f) ?_
 refine Z8 s.locals.length (fun k w'=> ∃σ',ShS w3 V w' σ' b (List.zipWith (R7 (Q6 l)) s.stack t.stack) ((List.zipWith (T7 (Q6 l)) s.locals t.locals).take k)) ⟨σ5,A5⟩ fun k w6 d hk hi=>?_
 obtain ⟨σ6,D⟩:=hi
 have p:=D.stp
 refine Z1 ?_
 refine Q5 (fun E=>?_) (fun E=>?_)
 ·have m:k<s.locals.length:=by simp at E;omega
  have o:k<t.locals.length:=by omega
  refine Qe (q2.up p) m fun a1 N y=>?_
  refine X8 p.sat N rfl ?_
  refine Zq (fun z w'=> ∃σ',Stp w6 σ6 w' σ'∧z=S (T7 (Q6 l) s.locals[k] t.locals[k])∧(T7 (Q6 l) s.locals[k] t.locals[k]).length≤J3) ?_ fun z d w7 W=>?_
  ·refine Ui ?_
   by_cases e3:s.locals[k]=[]
   ·rw[show (!decide (s.locals[k]=[]))=false from by simp[e3]]
    (repeat refine Hd.h ?_)
    refine V7 ?_
    have Z:T7 (Q6 l) s.locals[k] t.locals[k]=[]:=by unfold T7;rw[if_pos (.inl e3)]
    rw[Z]
    exact ⟨σ6,Stp.refl p.sat,rfl,Nat.zero_le _⟩
   ·rw[show (!decide (s.locals[k]=[]))=true from by simp[e3]]
    (repeat refine Hd.h ?_)
    refine ld (i:=2) p.sat (g.up p) rfl ?_
    (repeat refine Hd.h ?_)
    refine Qe (q4.up p) o fun a2 J B=>?_
    (repeat refine Hd.h ?_)
    refine X8 p.sat J rfl ?_
    (repeat refine Hd.h ?_)
    refine Ui ?_
    (repeat refine Hd.h ?_)
    by_cases e4:t.locals[k]=[]
    ·rw[show (!decide (t.locals[k]=[]))=false from by simp[e4]]
     refine V7 ?_
     have Z:T7 (Q6 l) s.locals[k] t.locals[k]=[]:=by unfold T7;rw[if_pos (.inr e4)]
     rw[Z]
     exact ⟨σ6,Stp.refl p.sat,rfl,Nat.zero_le _⟩
    ·rw[show (!decide (t.locals[k]=[]))=true from by simp[e4]]
     refine V9 ?_
     have Z:T7 (Q6 l) s.locals[k] t.locals[k]=R7 (Q6 l) s.locals[k] t.locals[k]:=Q4V _ _ _
     rw[Z]
     refine O3 ?_
     refine ld (i:=2) p.sat (g.up p) rfl ?_
     refine Qe (q4.up p) o fun a3 ar bv=>?_
     refine X8 p.sat ar rfl ?_
     refine Q7I p.sat (X.lift ⟨p.le⟩) ok y B fun w7 σ7 U=>?_
     exact ⟨σ7,U,rfl,Q4S ok y B⟩
  ·obtain ⟨σ7,U,rfl,Q⟩:=W
   have A7:=D.up U
   obtain ⟨v1,v2,m7,p1,p2,n1,n2⟩:=A7.ex
   refine O3 ?_
   refine Ub (i:=2) m7 rfl ?_
   refine D6 (R:=Y0) (sz:=1) A7.stp.sat [S (T7 (Q6 l) s.locals[k] t.locals[k])] [T7 (Q6 l) s.locals[k] t.locals[k]] rfl rfl (by simp;rfl) rfl ⟨⟨rfl,Q⟩,trivial⟩ fun v8 w8 σ8 k8 a0=>?_
   refine X2k (A7.up k8) (m7.up k8) a0 (by rw[List.length_take];omega) fun w9 A9=>?_
   (try simp only[↓M1,M1,Mb,reduceIte])
   refine Y2 (by omega) m ⟨σ8,?_⟩
   rw[X1V m o];exact A9
 have M:k=s.locals.length:=by simp at E;omega
 subst M
 rw[List.take_of_length_le (by simp;omega)] at D
 exact X1q (K:=fun r w=>K (.tuple #[r,I 0]) w) D a C rfl n fun q w' σ' k' ax=>h q w' σ' k' ax)
end Go.Proofs.YtfppjenblllfaaaGreatDoor

namespace Go.Proofs.YtfppjenblllfaaaGreatDoor
open Go.Emb Go.RowKit Go.Kd Go.Hm
variable {w : World} {K : Value → World → Prop} {σ : Q4} {l : List Cla} {v : Value}
end Go.Proofs.YtfppjenblllfaaaGreatDoor

namespace Go.Proofs.YtfppjenblllfaaaGreatDoor
open Go.Emb Go.RowKit Go.Kd Go.Hm
variable {w : World} {K : Value → World → Prop} {σ : Q4} {l : List Cla} {v : Value}
end Go.Proofs.YtfppjenblllfaaaGreatDoor

namespace Go.Proofs.YtfppjenblllfaaaGreatDoor
open Go.Emb Go.RowKit Go.Kd Go.Hm
variable {w w' w0 w1 : World} {K : Value → World → Prop} {σ σ' σ0 σ1 : Q4} {v u : Value} {tv : Value} {l : List Cla} {b b6 : Nat} {xs ys : List X0} {x : X0} {s t : Shp}
end Go.Proofs.YtfppjenblllfaaaGreatDoor

namespace Go.Hm
open Go.Kd
def Kz (s:Shp):Bool:=(decide (s.stack.length≤40)&&decide (s.locals.length≤40))&&(s.stack.all (fun x=>decide (x.length≤100))&&s.locals.all (fun x=>decide (x.length≤100)))
theorem Q8C {xs:List X0} {f:X0→Bool} (h: ∀j (a:j<xs.length),f xs[j]=true):xs.all f=true:=List.all_eq_true.2 fun x c=>by
 obtain ⟨j,a,rfl⟩:=List.mem_iff_getElem.1 c
 exact h j a
theorem Q6e {xs:List X0} {f:X0→Bool} {j:Nat} (a:j<xs.length) (h:f xs[j]=false):xs.all f=false:=by
 rw[←Bool.not_eq_true,List.all_eq_true]
 intro hh
 rw[hh xs[j] (List.getElem_mem a)] at h
 cases h
end Go.Hm
namespace Go.Proofs.YtfppjenblllfaaaGreatDoor
open Go.Emb Go.RowKit Go.Kd Go.Hm
variable {w w' w0 w1 : World} {K : Value → World → Prop} {σ σ' σ0 σ1 : Q4} {v u : Value} {tv : Value} {l : List Cla} {b b6 : Nat} {xs ys : List X0} {x : X0} {s t : Shp}
theorem X1m {ds:List Value} (N:X4 w σ) (O:U7 σ s ds) (h: ∀w',Below w.heap.size w w'→K (.bool (Kz s)) w'):Q0 P F.br [.agg ds.toArray] w K:=Aq (by
 obtain ⟨sv,V,rfl,y,z⟩:=O
 unfold Nk
 refine Y9 N fun q w1 σ1 c r=>?_
 have y:=y.up c
 have z:=z.up c
 have L:=y.max
 have Q:=z.max
 refine O3 ?_
 refine ld (i:=1) c.sat r rfl ?_
 refine Q8 y ?_
 refine Ay ?_
 unfold Kz at h
 by_cases E:s.stack.length≤40
 case neg=>
  rw[decide_eq_false E] at h
  rw[show decide ((40:Int)<(s.stack.length:Nat))=true from by simp;omega]
  (repeat refine Hd.h ?_)
  refine V9 ?_
  exact h _ c.bel
 rw[decide_eq_true E] at h
 rw[show decide ((40:Int)<(s.stack.length:Nat))=false from by simp;omega]
 (repeat refine Hd.h ?_)
 refine ld (i:=2) c.sat r rfl ?_
 (repeat refine Hd.h ?_)
 refine Q8 z ?_
 (repeat refine Hd.h ?_)
 refine Ay ?_
 (repeat refine Hd.h ?_)
 by_cases J:s.locals.length≤40
 case neg=>
  rw[decide_eq_false J] at h
  rw[show decide ((40:Int)<(s.locals.length:Nat))=true from by simp;omega]
  refine V9 ?_
  exact h _ c.bel
 rw[decide_eq_true J] at h
 rw[show decide ((40:Int)<(s.locals.length:Nat))=false from by simp;omega]
 refine V7 ?_
 simp only[Bool.true_and] at h
 refine Z8 s.stack.length (fun k w'=>w'=w1∧ ∀j (g:j<s.stack.length),j<k→decide (s.stack[j].length≤100)=true) ⟨rfl,fun j _ h=>absurd h (Nat.not_lt_zero _)⟩ fun k H d M D=>?_
 obtain ⟨rfl,m⟩:=D
 refine O3 ?_
 refine ld (i:=1) c.sat r rfl ?_
 refine Q8 y ?_
 refine Z1 ?_
 refine Q5 (fun p=>?_) (fun p=>?_)
 ·have a:k<s.stack.length:=by simp at p;omega
  refine O3 ?_
  refine ld (i:=1) c.sat r rfl ?_
  refine Qe y a fun U o C=>?_
  refine X8 c.sat o rfl ?_
  refine Q1p (by kernel_rfl) ?_
  refine Ay ?_
  by_cases A:s.stack[k].length≤100
  ·rw[show decide ((100:Int)<(s.stack[k].length:Nat))=false from by simp;omega]
   refine V7 ?_
   (try simp only[↓M1,M1,Mb,reduceIte])
   exact Y2 L a ⟨rfl,fun j g R=>by
    by_cases e:j=k
    ·subst e;simpa using A
    ·exact m j g (by omega)⟩
  ·rw[show decide ((100:Int)<(s.stack[k].length:Nat))=true from by simp;omega]
   refine V9 ?_
   have B:=Q6e (f:=fun x=>decide (x.length≤100)) a (by simpa using A)
   rw[B,Bool.false_and] at h
   exact h _ c.bel
 have n:k=s.stack.length:=by simp at p;omega
 subst n
 rw[Q8C (f:=fun x=>decide (x.length≤100)) fun j g=>m j g g,Bool.true_and] at h
 clear m
 refine Z8 s.locals.length (fun k w'=>w'=H∧ ∀j (g:j<s.locals.length),j<k→decide (s.locals[j].length≤100)=true) ⟨rfl,fun j _ h=>absurd h (Nat.not_lt_zero _)⟩ fun k H d M D=>?_
 obtain ⟨rfl,m⟩:=D
 refine O3 ?_
 refine ld (i:=2) c.sat r rfl ?_
 refine Q8 z ?_
 refine Z1 ?_
 refine Q5 (fun p=>?_) (fun p=>?_)
 ·have a:k<s.locals.length:=by simp at p;omega
  refine O3 ?_
  refine ld (i:=2) c.sat r rfl ?_
  refine Qe z a fun U o C=>?_
  refine X8 c.sat o rfl ?_
  refine Q1p (by kernel_rfl) ?_
  refine Ay ?_
  by_cases A:s.locals[k].length≤100
  ·rw[show decide ((100:Int)<(s.locals[k].length:Nat))=false from by simp;omega]
   refine V7 ?_
   (try simp only[↓M1,M1,Mb,reduceIte])
   exact Y2 Q a ⟨rfl,fun j g R=>by
    by_cases e:j=k
    ·subst e;simpa using A
    ·exact m j g (by omega)⟩
  ·rw[show decide ((100:Int)<(s.locals[k].length:Nat))=true from by simp;omega]
   refine V9 ?_
   have B:=Q6e (f:=fun x=>decide (x.length≤100)) a (by simpa using A)
   rw[B] at h
   exact h _ c.bel
 have n:k=s.locals.length:=by simp at p;omega
 subst n
 rw[Q8C (f:=fun x=>decide (x.length≤100)) fun j g=>m j g g] at h
 exact h _ c.bel)
end Go.Proofs.YtfppjenblllfaaaGreatDoor

namespace Go.Proofs.YtfppjenblllfaaaGreatDoor
open Go.Emb Go.RowKit Go.Kd Go.Hm
variable {w w' w0 w1 : World} {K : Value → World → Prop} {σ σ' σ0 σ1 : Q4} {v u : Value} {tv : Value} {l : List Cla} {b b6 : Nat} {xs ys : List X0} {x : X0} {s t : Shp}
end Go.Proofs.YtfppjenblllfaaaGreatDoor

namespace Go.Hm
open Go.Kd
def Q9H:Hm.Met:=⟨[],[],[],false,0,[],[]⟩
def Q78:Ins:=⟨[97,100,100],0,[]⟩
def Tq:X0:=N5++[91,93]
def sh1:Shp:=⟨true,[V3],[]⟩
def sh2:Shp:=⟨true,[Tq],[]⟩
set_option maxRecDepth 100000 in
theorem Q9F:doM (Q6 Zj) Q9H Q78 [] [] false ⟨true,[V3,V3],[]⟩=(sh1,0):=by decide+kernel
set_option maxRecDepth 100000 in
theorem Q5e:F6 (Q6 Zj) ⟨true,[C2],[]⟩ sh2=(sh2,0):=by decide+kernel
end Go.Hm
namespace Go.Proofs.YtfppjenblllfaaaGreatDoor
open Go.Emb Go.RowKit Go.Kd Go.Hm
variable {w w' w0 w1 : World} {K : Value → World → Prop} {σ σ' σ0 σ1 : Q4} {v u : Value} {tv : Value} {l : List Cla} {b b6 : Nat} {xs ys : List X0} {x : X0} {s t : Shp}
theorem Q3M (A:X4 w σ) (D:Glb σ)
 (h: ∀a v w' σ',Stp w σ w' σ'→Tab σ' (.pointer (some a)) (Q6 Zj)→Sl 8 U5 σ' v (Q6 Zj)→Ok (Q6 Zj)→K (.tuple #[.pointer (some a),v]) w'):Q0 P F.ax [] w K:=Cg (by
 unfold Vn
 refine Q2L A fun v M E d q=>?_
 refine X2l d.sat (D.lift ⟨d.le⟩) q (by decide) X0Y (fun i e _ _ j=>by rw[Q0V] at j;cases j) fun tv H O _ f y ok _=>?_
 obtain ⟨a,_,_,_,rfl,_⟩:=y.ex
 have p:=d.trans f
 refine J8 (vs:=[_,_,_]) rfl ?_
 refine J8 (vs:=[_,_,_]) rfl ?_
 refine J8 (vs:=[_,_,_]) rfl ?_
 refine Q2L f.sat fun J L N g o=>?_
 refine X0x g.sat o (by decide) (fun i e _ _ j=>by rw[Q0V] at j;cases j) fun B z C _ k n m _=>?_
 have c:=g.trans k
 have r:=p.trans c
 refine J8 (vs:=[_,_,_]) rfl ?_
 refine J8 (vs:=[_,_,_]) rfl ?_
 refine J8 (vs:=[_,_,_]) rfl ?_
 refine Xg ?_
 simp only[decide_true,Bool.not_true]
 (repeat refine Hd.h ?_)
 refine Xg ?_
 simp only[decide_true,Bool.not_true]
 (repeat refine Hd.h ?_)
 refine Q7L ?_
 (repeat refine Hd.h ?_)
 refine V7 ?_
 exact h a B z C r (y.lift ⟨c.le⟩) n m)
set_option maxHeartbeats 2000000 in
theorem Q3T (hs:X4 w σ) (hg:Glb σ) (h: ∀w' σ',Stp w σ w' σ'→K (.bool true) w'):Q0 P F.ac [] w K:=Fa (by
 unfold We
 refine Q3M hs hg fun a lv w1 σ1 S1 ht hl ok=>?_
 refine J8 (vs:=[_,_]) rfl ?_
 refine J8 (vs:=[_,_]) rfl ?_
 refine Q7L ?_
 (repeat refine Hd.h ?_)
 refine Q8 hl ?_
 (repeat refine Hd.h ?_)
 refine Ll ?_
 (repeat refine Hd.h ?_)
 rw[show decide (((Q6 Zj).length:Int)=0)=false from by decide]
 refine V7 ?_
 refine Dn ?_
 refine W0 (cells:= #[S Q78.op,I 0,S []]) (by kernel_rfl) ?_
 refine D6 (R:=Y0) (sz:=1) S1.sat [S V3,S V3] [V3,V3] rfl rfl (by simp;rfl) rfl ⟨⟨rfl,by decide⟩,⟨rfl,by decide⟩,trivial⟩ fun v2 w2 σ2 V Q=>?_
 refine W0 (cells:= #[.bool true,v2, .slice none 0 0]) (by obtain ⟨a,c,rfl,_⟩:=Q;kernel_rfl) ?_
 refine X2j (m:=Q9H) (i:=Q78) (c:=[]) (f:=[]) (k:=false) V.sat (ht.lift ⟨V.le⟩) ok ⟨_,_,_,rfl,Sl.nil,Sl.nil,Sl.nil,by decide,by decide,by decide⟩ ⟨rfl,by decide,by decide,by decide⟩ Q Sl.nil (by decide) (by decide) (fun a ha=>by
  have e:Fj.lookup Q78.op=some (.takes V3 [V3,V3]):=by decide+kernel
  rw[e] at ha;cases ha
  exact @Q8T _ _ _ _ _ _ _ _ (by decide)) fun ds w3 σ3 k3 H=>?_
 rw[Q9F] at H⊢
 have S3:=(S1.trans V).trans k3
 refine J8 (vs:=[_,_]) rfl ?_
 refine J8 (vs:=[_,_]) rfl ?_
 have d:U7 σ3 sh1 ds:=H
 refine Y6 (sz:=3) k3.sat rfl (by obtain ⟨_,_,rfl,_⟩:=d;rfl) (Rep.one d) fun qa w4 σ4 M W=>?_
 refine D6 (R:=Y0) (sz:=1) M.sat [S C2] [C2] rfl rfl (by simp;rfl) rfl ⟨⟨rfl,by decide⟩,trivial⟩ fun v5 w5 σ5 A C=>?_
 refine W0 (cells:= #[.bool true,v5, .slice none 0 0]) (by obtain ⟨a,c,rfl,_⟩:=C;kernel_rfl) ?_
 refine D6 (R:=Y0) (sz:=1) A.sat [S Tq] [Tq] rfl rfl (by simp;rfl) rfl ⟨⟨rfl,by decide⟩,trivial⟩ fun v6 w6 σ6 z N=>?_
 refine W0 (cells:= #[.bool true,v6, .slice none 0 0]) (by obtain ⟨a,c,rfl,_⟩:=N;kernel_rfl) ?_
 have X:=(((V.trans k3).trans M).trans A).trans z
 refine Q6h (s:=⟨true,[C2],[]⟩) (t:=sh2) z.sat (ht.lift ⟨X.le⟩) ok ⟨_,_,rfl,C.up z,Sl.nil⟩ ⟨_,_,rfl,N,Sl.nil⟩ (by decide) (by decide) (by decide) (by decide) fun es w7 σ7 J D=>?_
 rw[Q5e] at D⊢
 refine J8 (vs:=[_,_]) rfl ?_
 refine J8 (vs:=[_,_]) rfl ?_
 have j:U7 σ7 sh2 es:=D
 refine Y6 (sz:=3) J.sat rfl (by obtain ⟨_,_,rfl,_⟩:=j;rfl) (Rep.one j) fun qb w8 σ8 y Z=>?_
 have p:=(((W.up A).up z).up J).up y
 have n:=U7.liftS d ((((M.trans A).trans z).trans J).trans y)
 have E:=U7.liftS j y
 refine Y7 y.sat p (by obtain ⟨_,_,rfl,_⟩:=d;rfl) ?_
 refine D6 (R:=Y0) (sz:=1) y.sat [S V3] [V3] rfl rfl (by simp;rfl) rfl ⟨⟨rfl,by decide⟩,trivial⟩ fun v9 w9 σ9 B U=>?_
 refine W0 (cells:= #[.bool true,v9, .slice none 0 0]) (by obtain ⟨a,c,rfl,_⟩:=U;kernel_rfl) ?_
 refine Od (b:=sh1) (es:=[.bool true,v9, .slice none 0 0]) B.sat (U7.liftS n B) ⟨_,_,rfl,U,Sl.nil⟩ fun aq L=>?_
 have ah:=(((S3.trans M).trans A).trans z).trans (J.trans (y.trans (B.trans (Stp.of_below B.sat L))))
 have o:=B.trans (Stp.of_below B.sat L)
 rw[show decide (sh1=sh1)=true from by decide]
 (repeat refine Hd.h ?_)
 refine Ll ?_
 simp only[decide_true]
 (repeat refine Hd.h ?_)
 refine Y7 o.sat (Z.up o) (by obtain ⟨_,_,rfl,_⟩:=j;rfl) ?_
 (repeat refine Hd.h ?_)
 refine D6 (R:=Y0) (sz:=1) o.sat [S Tq] [Tq] rfl rfl (by simp;rfl) rfl ⟨⟨rfl,by decide⟩,trivial⟩ fun O an ak q r=>?_
 (repeat refine Hd.h ?_)
 refine W0 (cells:= #[.bool true,O, .slice none 0 0]) (by obtain ⟨a,c,rfl,_⟩:=r;kernel_rfl) ?_
 (repeat refine Hd.h ?_)
 refine Od (b:=sh2) (es:=[.bool true,O, .slice none 0 0]) q.sat (U7.liftS E (o.trans q)) ⟨_,_,rfl,r,Sl.nil⟩ fun ai Y=>?_
 have g:=o.trans (q.trans (Stp.of_below q.sat Y))
 rw[show decide (sh2=sh2)=true from by decide]
 (repeat refine Hd.h ?_)
 refine Ll ?_
 simp only[decide_true]
 (repeat refine Hd.h ?_)
 refine Y7 g.sat (p.up g) (by obtain ⟨_,_,rfl,_⟩:=d;rfl) ?_
 (repeat refine Hd.h ?_)
 refine Y7 g.sat (p.up g) (by obtain ⟨_,_,rfl,_⟩:=d;rfl) ?_
 (repeat refine Hd.h ?_)
 refine Q65 (a:=sh1) (b:=sh1) g.sat (U7.liftS n g) (U7.liftS n g) fun ar ab=>?_
 rw[show decide (sh1=sh1)=true from by decide]
 (repeat refine Hd.h ?_)
 exact h _ _ ((((S3.trans M).trans A).trans z).trans (J.trans (y.trans (g.trans (Stp.of_below g.sat ab))))))
end Go.Proofs.YtfppjenblllfaaaGreatDoor

namespace Go.Hm
open Go.Kd
theorem Gi {s:Shp} (h:Kz s=true):s.stack.length≤1000∧s.locals.length≤1000:=by
 simp only[Kz,Bool.and_eq_true,decide_eq_true_eq] at h
 omega
end Go.Hm
namespace Go.Proofs.YtfppjenblllfaaaGreatDoor
open Go.Emb Go.RowKit Go.Kd Go.Hm
variable {w w' w0 w1 : World} {K : Value → World → Prop} {σ σ' σ0 σ1 : Q4} {v u : Value} {tv : Value} {l : List Cla} {s t : Shp} {ds es : List Value}
theorem Q08 (h:U7 σ s ds):ds.length=3:=by obtain ⟨_,_,rfl,_⟩:=h;rfl
theorem Q1a (d:X4 w σ) (e:Tab σ tv (Q6 l)) (ok:Ok (Q6 l)) (g:U7 σ s ds) (f:U7 σ t es) (b:Kz s=true) (c:Kz t=true)
 (h: ∀a w' σ',Stp w σ w' σ'→U7 σ' (F6 (Q6 l) s t).1 a→K (.tuple #[.agg a.toArray,I (F6 (Q6 l) s t).2]) w'):Q0 P F.aD [tv, .agg ds.toArray, .agg es.toArray] w K:=
 Q6h d e ok g f (Gi b).1 (Gi b).2 (Gi c).1 (Gi c).2 h
theorem Q4b {A:Value→World→Prop} (c:X4 w σ) (b:U7 σ s ds) (h: ∀a w' σ',Stp w σ w' σ'→Z2 σ' a ds→A (.pointer (some a)) w'):W3 P T.f w fun p w=>Z3 P T.f p (.agg ds.toArray) w fun _ w=>A p w:=
 Y6 (sz:=3) (A:=fun p _ w=>A p w) c rfl (Q08 b) (Rep.one b) h
end Go.Proofs.YtfppjenblllfaaaGreatDoor
