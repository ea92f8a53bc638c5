/- Parts of a proof about the given program: its functions as texts of their own, what each computes, plain laws of that. The conditions of each stand in its statement. -/
import Derived.Test.YtfppjenblllfaaaGreatDoorB4
import Derived.Test.YtfppjenblllfaaaGreatDoorB3
import Derived.Lib.TrimUEq
set_option linter.unnecessarySimpa false
set_option linter.defProp false
set_option linter.unusedSectionVars false
set_option linter.unusedVariables false
set_option linter.unusedSimpArgs false
namespace Go.Emb
open Go.RowKit Go.Hm
structure FinT (B : Nat) (F : Option Obj → Prop) (w w' : World) : Prop where
  os : w'.os = w.os
  tape : w'.tape = w.tape
  output : w'.output = w.output
  size : w.heap.size ≤ w'.heap.size
  old : ∀ k, k < w.heap.size → k < B → w'.heap[k]? = w.heap[k]?
  new : ∀ k, k < w.heap.size → w'.heap[k]? = w.heap[k]? ∨ F (w'.heap[k]?)
section
variable {P : Program} {B : Nat} {F : Option Obj → Prop} {w w' w0 : World} {σ : Q4} {v V : Value} {K : Value → World → Prop}
theorem FinT.of_below (h:Below w.heap.size w w'):FinT B F w w':=⟨h.os,h.tape,h.output,h.size,fun k a _=>h.block k a,fun k a=> .inl (h.block k a)⟩
theorem FinT.of_upd {b:Nat} (h:Upd w b w') (c:B≤b) (hF:F (w'.heap[b]?)):FinT B F w w':=
 ⟨h.os,h.tape,h.output,by rw[h.size];exact Nat.le_refl _,fun k a hB=>h.block k (by omega),fun k a=>by
  by_cases e:k=b
  ·subst e;exact .inr hF
  ·exact .inl (h.block k e)⟩
theorem FinT.hst (h:FinT w0.heap.size F w w') (c:X4 w0 σ) (a:Hst w0 σ w σ):Hst w0 σ w' σ:=
 ⟨Stp.of_below c ⟨h.os.trans a.stp.bel.os,h.tape.trans a.stp.bel.tape,h.output.trans a.stp.bel.output,Nat.le_trans a.stp.bel.size h.size,fun k b=>(h.old k (Nat.lt_of_lt_of_le b a.stp.bel.size) b).trans (a.stp.bel.block k b)⟩⟩
theorem X1G {A:(World→World→Prop)→(World→Prop)→Prop} (F:Option Obj→Prop) (a:X4 w σ) (h:A (FinT w.heap.size F) (fun w'=>Hst w σ w' σ)):dr w A:=
 Q00 _ _ ⟨Stp.of_below a (Below.refl _ _).drew⟩ (fun _ _ c b=>b.hst a c) h
theorem Q56 (h:V=v):dk (FinT B F) (fun v _=>V=v) w v w:=⟨.of_below (Below.refl _ _),h⟩
theorem X1c (a:Below w.heap.size w w') (h:V=v):dk (FinT B F) (fun v _=>V=v) w v w':=⟨.of_below a,h⟩
def X1o (B n:Nat) (F:Option Obj→Prop) (v:Value) (w:World):Prop:= ∃g,v= .pointer (some ⟨g,0,none⟩)∧B≤g∧((∃cs:List Value,∃e,cs.length=n∧w.heap[g]? =some (.cells cs.toArray e (0,0)))∨F (w.heap[g]?))
def X1w (B:Nat) (F:Option Obj→Prop) (v:Value) (w:World):Prop:= ∃g,v= .pointer (some ⟨g,0,none⟩)∧B≤g∧F (w.heap[g]?)
theorem Bl {w:World} {g:Nat} {o:Obj} (h:w.heap[g]? =some o):g<w.heap.size:=(Array.getElem?_eq_some_iff.1 h).1
theorem Q7a {n:Nat} (hF: ¬F none):I0 (FinT B F) (X1o B n F):=by
 rintro v w w' ⟨g,rfl,hB,b⟩ d
 have a:g<w.heap.size:=by
  rcases b with ⟨cs,e,_,h⟩ | h
  ·exact Bl h
  ·cases c:w.heap[g]? with
   | none=>rw[c] at h;exact absurd h hF
   | some o=>exact Bl c
 rcases d.new g a with h | h
 ·exact ⟨g,rfl,hB,by rw[h];exact b⟩
 ·exact ⟨g,rfl,hB, .inr h⟩
theorem Q6B (hF: ¬F none):I0 (FinT B F) (X1w B F):=by
 rintro v w w' ⟨g,rfl,hB,b⟩ d
 have a:g<w.heap.size:=by
  cases c:w.heap[g]? with
  | none=>rw[c] at b;exact absurd b hF
  | some o=>exact Bl c
 rcases d.new g a with h | h
 ·exact ⟨g,rfl,hB,by rw[h];exact b⟩
 ·exact ⟨g,rfl,hB,h⟩
end
end Go.Emb
namespace Go.Hm
open Go.Kd
theorem Q5G {a b:List Hm.Met} (h: ∀m,m∈a↔m∈b):Vq a=Vq b:=by
 rw[Bool.eq_iff_iff]
 simp only[Vq,List.any_eq_true]
 constructor
 ·rintro ⟨x,c,y,e,d⟩;exact ⟨x,(h x).1 c,y,(h y).1 e,d⟩
 ·rintro ⟨x,c,y,e,d⟩;exact ⟨x,(h x).2 c,y,(h y).2 e,d⟩
theorem Q9g {α:Type} {a b:List α} {p:α→Bool} (h: ∀m,m∈a↔m∈b):a.any p=b.any p:=by
 rw[Bool.eq_iff_iff]
 simp only[List.any_eq_true]
 constructor
 ·rintro ⟨x,c,y⟩;exact ⟨x,(h x).1 c,y⟩
 ·rintro ⟨x,c,y⟩;exact ⟨x,(h x).2 c,y⟩
def Xk (m:Hm.Met):List X0:=m.params++if m.result=[] then [] else [m.result]
def Yx (c:Cla):List X0:=c.fields.map (·.kind)++c.methods.flatMap Xk
theorem Q8o {l:List Cla} {c:Cla}:(Yx c).any (fun s=> !D5 l s)=C7 l c:=by
 unfold Yx C7 Xk
 rw[List.any_append,List.any_map,List.any_flatMap]
 congr 1
 congr 1
 funext m
 rw[List.any_append]
 by_cases e:m.result=[]
 ·simp[e]
 ·simp[e,Bool.or_comm]
def Pc (l:List Cla) (i k:Nat):Bool:=decide (k=i)||Zx l (Y1 l i) (Y1 l k)
def T5 (l:List Cla) (i n:Nat):List Hm.Met:=(List.range n).flatMap fun k=>if Pc l i k then (l.getD k Cla.zero).methods else []
theorem Q7s {l:List Cla} {i n:Nat}:T5 l i (n+1)=T5 l i n++if Pc l i n then (l.getD n Cla.zero).methods else []:=by
 unfold T5
 rw[List.range_succ,List.flatMap_append]
 simp
theorem Q32 {l:List Cla} (r:G1 l) {i:Nat} (h:i<l.length) (m:Hm.Met):m∈T5 l i l.length↔m∈Vj l (Y1 l i):=by
 unfold T5 Vj
 simp only[List.mem_flatMap,List.mem_range]
 have b: ∀k,k<l.length→lk l (Y1 l k)=some (l.getD k Cla.zero):=fun k g=>Qo r g
 constructor
 ·rintro ⟨k,g,d⟩
  split at d
  ·rename_i hu
   refine ⟨Y1 l k,?_,by rw[b k g];exact d⟩
   rw[Zy,Q2Z]
   simp only[Pc,Bool.or_eq_true,decide_eq_true_eq,Vm] at hu
   rcases hu with rfl | hu
   ·exact .inl ⟨rfl,_,b _ g⟩
   ·exact .inr hu
  ·simp at d
 ·rintro ⟨u,hu,d⟩
  rw[Zy] at hu
  obtain ⟨c,o⟩:=hu.right
  obtain ⟨A,p,j,t,a⟩:=U4 o
  obtain ⟨n,z⟩:=List.getElem?_eq_some_iff.1 a
  have f:Y1 l j=u:=by
   unfold Y1;rw[List.getD_eq_getElem?_getD,a];exact A
  refine ⟨j,n,?_⟩
  rw[o] at d
  have:Pc l i j=true:=by
   simp only[Pc,Bool.or_eq_true,decide_eq_true_eq,Vm]
   rw[Q2Z] at hu
   rcases hu with ⟨e,_⟩ | hu
   ·left
    have s:=b i h
    rw[e,←f] at s
    have q:=G1.find r (i:=i) (c:=l[i]) (List.getElem?_eq_getElem h)
    have y:l[i].name=Y1 l i:=by unfold Y1;rw[List.getD_eq_getElem?_getD,List.getElem?_eq_getElem h];rfl
    rw[y,e,t] at q
    simpa using q
   ·right;rw[f];exact hu
  rw[if_pos this,List.getD_eq_getElem?_getD,a]
  exact d
theorem Q7B {l:List Cla} {i n:Nat} {m:Hm.Met} (h:m∈T5 l i n) (e:n≤l.length): ∃c∈l,m∈c.methods:=by
 unfold T5 at h
 simp only[List.mem_flatMap,List.mem_range] at h
 obtain ⟨k,d,a⟩:=h
 split at a
 ·have b:k<l.length:=by omega
  rw[List.getD_eq_getElem?_getD,List.getElem?_eq_getElem b] at a
  exact ⟨l[k],List.getElem_mem _,a⟩
 ·simp at a
def G8 (a:List Hm.Met) (x y:Nat):Bool:=decide ((a.getD x Hm.Met.zero).name=(a.getD y Hm.Met.zero).name)&& !decide (P2 (a.getD x Hm.Met.zero)=P2 (a.getD y Hm.Met.zero))
theorem Hy {α:Type} {l:List α} {d:α} {n:Nat} (h:n<l.length):l.getD n d=l[n]:=by rw[List.getD_eq_getElem?_getD,List.getElem?_eq_getElem h];rfl
theorem Q8f {a:List Hm.Met} {x y:Nat} (b:x<a.length) (c:y<a.length) (h:G8 a x y=true):Vq a=true:=by
 unfold Vq
 rw[List.any_eq_true]
 refine ⟨a[x],List.getElem_mem _,?_⟩
 rw[List.any_eq_true]
 refine ⟨a[y],List.getElem_mem _,?_⟩
 unfold G8 at h
 rwa [Hy b,Hy c] at h
theorem Q9s {d:List Hm.Met} (h: ∀x y,x<d.length→y<x→G8 d x y=false):Vq d=false:=by
 unfold Vq
 rw[List.any_eq_false]
 intro a j
 rw[List.any_eq_true]
 rintro ⟨b,k,f⟩
 obtain ⟨x,g,rfl⟩:=List.getElem_of_mem j
 obtain ⟨y,i,rfl⟩:=List.getElem_of_mem k
 have e:G8 d y x=G8 d x y:=by
  unfold G8
  congr 1
  ·rw[Bool.eq_iff_iff];simp[eq_comm]
  ·congr 1;rw[Bool.eq_iff_iff];simp[eq_comm]
 have c:G8 d x y=true:=by unfold G8;rw[Hy g,Hy i];exact f
 rcases Nat.lt_trichotomy x y with hlt | heq | hlt
 ·rw[←e,h y x i hlt] at c;cases c
 ·subst heq;simp[G8] at c
 ·rw[h x y g hlt] at c;cases c
end Go.Hm
namespace Go.Proofs.YtfppjenblllfaaaGreatDoor
open Go.Emb Go.RowKit Go.Kd Go.Hm
variable {w : World} {K : Value → World → Prop} {σ : Q4} {l : List Cla} {v : Value}
theorem Bf {c:Cla} (h:Xw c=false):c.fields.length≤32∧c.methods.length≤32∧ ∀m∈c.methods,m.params.length≤32:=by
 simp only[Xw,Bool.or_eq_false_iff,decide_eq_false_iff_not,List.any_eq_false] at h
 obtain ⟨⟨⟨b,f⟩,e⟩,d⟩:=h
 refine ⟨by omega,by omega,fun m a=>?_⟩
 have:=b m a
 simp only[Ui,Bool.or_eq_true,decide_eq_true_eq,not_or] at this
 omega
set_option maxHeartbeats 8000000 in
theorem Q5X {i:Nat} (hs:X4 w σ) (hv:Sl 8 U6 σ v l) (ok:Ok l) (own:G1 l) (hlen:l.length≤1000) (hmn: ∀c∈l,Xw c=false) (hi:i<l.length)
 (h: ∀w' σ',Stp w σ w' σ'→K (I (U8 l l[i])) w'):Q0 P F.aQ [v,I i] w K:=So (by
 unfold Ug
 obtain ⟨lv,fv,mv,p0,r0⟩:=hv.elC hi
 refine U1 hv hi ?_
 refine Z1 hs p0 rfl ?_
 refine Y6 hs (by rfl) rfl (Rep.one r0) fun q w1 σ1 hk1 hq1=>?_
 have r1:=RCl_lift r0 ⟨hk1.le⟩
 obtain ⟨_,gf,gm,g4,_⟩:=r1.parts
 have hv1:=hv.up hk1
 have hnm:=ok.nm _ (List.getElem_mem hi)
 have hcm:=hmn _ (List.getElem_mem hi)
 have hname:Y1 l i=l[i].name:=Fl hi
 generalize hcE:l[i]=c at*
 obtain ⟨mf,mm,mp⟩:=Bf hcm
 have e64:Qq l c=true→U8 l c=64:=fun e=>by unfold U8;simp[e]
 have e65:Qq l c=false→C7 l c=true→U8 l c=65:=fun e e2=>by unfold U8;simp[e,e2]
 have e66:Qq l c=false→C7 l c=false→Xs l c=true→U8 l c=66:=fun e e2 e3=>by unfold U8;simp[e,e2,e3]
 have e67:Qq l c=false→C7 l c=false→Xs l c=false→Mx l c=true→U8 l c=67:=fun e e2 e3 e4=>by unfold U8;simp[e,e2,e3,e4]
 have e0:Qq l c=false→C7 l c=false→Xs l c=false→Mx l c=false→U8 l c=0:=fun e e2 e3 e4=>by unfold U8;simp[e,e2,e3,e4]
 generalize U8 l c=R at*
 clear p0 r0 r1 hcm
 refine J5 c.fields.length (fun n w'=> ∃σ',Stp w σ w' σ'∧SLe σ1 σ'∧(c.fields.take n).any (fun f=>(Xg l c.super f.name).isSome)=false) ⟨σ1,hk1,SLe.refl _,rfl⟩ fun n w2 d hn hinv=>?_
 obtain ⟨σ2,hS2,le2,hno⟩:=hinv
 have hq2:=hq1.lift le2
 have gf2:=gf.lift le2
 (try simp only[↓M1,M1,Mb,reduceIte])
 refine ld hS2.sat hq2 rfl ?_
 refine Q9 gf2 ?_
 refine Z0 ?_
 refine Q5 (fun hc=>?_) (fun hc=>?_)
 ·have hn':n<c.fields.length:=by simpa using hc
  obtain ⟨pf,_⟩:=gf2.elF hn'
  have hs2:=hS2.sat
  refine U9 hs2 ?_
  (repeat refine J4 Qp ?_)
  (intros;(repeat (rename_i hx;subst hx));(try simp only[↓M2,M2,Mb,reduceIte]))
  rename_i w3 hb3
  refine Q8J hb3.sat (hv.up (hS2.trans hb3.stp)) ok.acy hlen ok.sm fun w4 σ4 hk4=>?_
  refine Jb ?_
  rw[Ja]
  have hnx:=M3 (p:=fun f:Fld=>(Xg l c.super f.name).isSome) hn'
  cases hp:(Xg l c.super c.fields[n].name).isSome with
  | true=>
   (try simp only[↓M1,M1,Mb,reduceIte])
   rw[hp,Bool.or_true] at hnx
   have:R=64:=e64 (C1 hn' hp)
   subst this
   exact h _ _ ((hS2.trans hb3.stp).trans hk4)
  | false=>
   (try simp only[↓M1,M1,Mb,reduceIte])
   exact Y3 gf.max hn' ⟨σ4,(hS2.trans hb3.stp).trans hk4,le2.more ⟨(hb3.stp.trans hk4).le⟩,by rw[hnx,hno,hp];rfl⟩
 have hA:Qq l c=false:=by
  have hn': ¬n<c.fields.length:=by simpa using hc
  rw[D0 hn'] at hno;exact hno
 clear hno hc hn e64
 refine Ae (R:=X9) (e:=T.c) hS2 (by decide) fun x3 w3 hk3 ha3 _=>?_
 have hS3:=hS2.trans hk3
 refine O9 c.fields.length (fun n x w'=> ∃σ',Stp w σ w' σ'∧SLe σ1 σ'∧V0 w.heap.size T.c 1 X9 σ' w' x ((c.fields.take n).map (·.kind))) ⟨σ2,hS3,le2,ha3⟩ fun n x w4 d hn hinv=>?_
 obtain ⟨σ4,hS4,le4,ha4⟩:=hinv
 have hq4:=hq1.lift le4
 have gf4:=gf.lift le4
 (try simp only[↓M1,M1,Mb,reduceIte])
 refine ld hS4.sat hq4 rfl ?_
 refine Q9 gf4 ?_
 refine Z0 ?_
 refine Q5 (fun hc=>?_) (fun hc=>?_)
 ·have hn':n<c.fields.length:=by simpa using hc
  obtain ⟨pf,rf⟩:=gf4.elF hn'
  have hkl:=(hnm.2.1 _ (List.getElem_mem hn')).2
  (try simp only[↓M1,M1,Mb,reduceIte])
  refine ld hS4.sat hq4 rfl ?_
  refine U1 gf4 hn' ?_
  (try simp only[↓M1,M1,Mb,reduceIte])
  refine ld hS4.sat pf rfl ?_
  refine Uc (R:=X9) (x:=c.fields[n].kind) hS4 ha4 ⟨rfl,Nat.le_trans hkl (by decide)⟩ rfl rfl rfl (by rw[List.length_map,List.length_take];omega) (by rw[List.length_map,List.length_take];omega) fun s v' w5 σ5 hnx hS5 ha5 _=>?_
  (try simp only[↓M1,M1,Mb,reduceIte])
  refine Z6 gf.max hn' ⟨σ5,hS5,le4.more hnx.le,?_⟩
  rw[List.take_add_one,List.getElem?_eq_getElem hn',List.map_append]
  exact ha5
 rw[List.take_of_length_le (by
  have: ¬n<c.fields.length:=by simpa using hc
  omega)] at ha4
 clear hc hn hk3 ha3 hS3 hS2 le2 hq2 gf2 hq4 gf4
 have hkl: ∀n,(c.fields.map (·.kind)++(c.methods.take n).flatMap Xk).length≤2000:=fun n=>by
  have h1:=Uf Xk 33 (c.methods.take n) fun m hm=>by
   have:=mp m (List.mem_of_mem_take hm)
   unfold Xk
   split<;>simp<;>omega
  have h2:(c.methods.take n).length≤32:=by rw[List.length_take];omega
  have h3:(c.methods.take n).length*33≤32*33:=Nat.mul_le_mul_right _ h2
  rw[List.length_append,List.length_map];omega
 refine O9 c.methods.length (fun n x w'=> ∃σ',Stp w σ w' σ'∧SLe σ1 σ'∧V0 w.heap.size T.c 1 X9 σ' w' x (c.fields.map (·.kind)++(c.methods.take n).flatMap Xk)) ⟨σ4,hS4,le4,by simpa using ha4⟩ fun n x w5 d hn hinv=>?_
 clear ha4 hS4 le4
 obtain ⟨σ5,hS5,le5,ha5⟩:=hinv
 have hq5:=hq1.lift le5
 have gm5:=gm.lift le5
 have hkn:=hkl n
 (try simp only[↓M1,M1,Mb,reduceIte])
 refine ld hS5.sat hq5 rfl ?_
 refine Q9 gm5 ?_
 refine Z0 ?_
 refine Q5 (fun hc=>?_) (fun hc=>?_)
 ·have hn':n<c.methods.length:=by simpa using hc
  obtain ⟨pv,cv,hv',pm,rm⟩:=gm5.elM hn'
  obtain ⟨gp,_,_,_,gr,_⟩:=rm.parts
  have hpn:=mp _ (List.getElem_mem hn')
  have hrl:=(hnm.2.2 _ (List.getElem_mem hn')).1
  have hnx:(c.methods.take (n+1)).flatMap Xk=(c.methods.take n).flatMap Xk++Xk c.methods[n]:=by
   rw[List.take_add_one,List.getElem?_eq_getElem hn',List.flatMap_append];simp
  refine V5 ?_
  (try simp only[↓M1,M1,Mb,reduceIte])
  refine ld hS5.sat hq5 rfl ?_
  refine U1 gm5 hn' ?_
  (try simp only[↓M1,M1,Mb,reduceIte])
  refine ld hS5.sat pm rfl ?_
  refine Dl hS5 ha5 gp rfl (by omega) (by omega) fun v6 w6 hn6 hS6 ha6 _=>?_
  (try simp only[↓M1,M1,Mb,reduceIte])
  refine ld hS6.sat hq5 rfl ?_
  refine U1 gm5 hn' ?_
  (try simp only[↓M1,M1,Mb,reduceIte])
  refine ld hS6.sat pm rfl ?_
  refine Vs ?_
  by_cases he:c.methods[n].result=[]
  ·simp only[he,decide_true,Bool.not_true,↓M1,M1,Mb,reduceIte]
   intro d
   refine Z6 gm.max hn' ⟨σ5,hS6,le5,?_⟩
   rw[hnx]
   unfold Xk
   rw[if_pos he,List.append_nil,←List.append_assoc]
   exact ha6
  ·simp only[he,decide_false,Bool.not_false,↓M1,M1,Mb,reduceIte]
   refine ld hS6.sat hq5 rfl ?_
   refine U1 gm5 hn' ?_
   (try simp only[↓M1,M1,Mb,reduceIte])
   refine ld hS6.sat pm rfl ?_
   refine Uc (R:=X9) (x:=c.methods[n].result) hS6 ha6 ⟨rfl,Nat.le_trans hrl (by decide)⟩ rfl rfl rfl (by rw[List.length_append];omega) (by rw[List.length_append];omega) fun s v' w7 σ7 hn7 hS7 ha7 _=>?_
   intro d
   (try simp only[↓M1,M1,Mb,reduceIte])
   refine Z6 gm.max hn' ⟨σ7,hS7,le5.more hn7.le,?_⟩
   rw[hnx]
   unfold Xk at ha7⊢
   rw[if_neg he]
   simpa only[List.append_assoc] using ha7
 rw[List.take_of_length_le (by
  have: ¬n<c.methods.length:=by simpa using hc
  omega)] at ha5
 have hkn:=hkl c.methods.length
 rw[List.take_of_length_le (Nat.le_refl _)] at hkn
 have hkE:C7 l c=(Yx c).any (fun s=> !D5 l s):=Q8o.symm
 have hkb: ∀s∈Yx c,s.length≤Z7:=fun s hs=>by
  unfold Yx at hs
  rcases List.mem_append.1 hs with hs | hs
  ·obtain ⟨f,hf,rfl⟩:=List.mem_map.1 hs
   exact Nat.le_trans (hnm.2.1 f hf).2 (by decide)
  ·obtain ⟨m,hm,hs⟩:=List.mem_flatMap.1 hs
   unfold Xk at hs
   rcases List.mem_append.1 hs with hs | hs
   ·exact Nat.le_trans ((hnm.2.2 m hm).2 s hs) (by decide)
   ·split at hs
    ·simp at hs
    ·simp at hs;subst hs;exact Nat.le_trans (hnm.2.2 m hm).1 (by decide)
 obtain ⟨σ6,hS6,hv6,lee6,_⟩:=ha5.keep hS5
 have le6:=le5.more ⟨lee6⟩
 clear ha5 hq5 gm5 hc hn
 change Sl 1 X9 σ6 x (Yx c) at hv6
 refine J5 (Yx c).length (fun n w'=>Stp w σ w' σ6∧((Yx c).take n).any (fun s=> !D5 l s)=false) ⟨hS6,rfl⟩ fun n w7 d hn hinv=>?_
 obtain ⟨hS7,hno⟩:=hinv
 refine Q9 hv6 ?_
 refine Z0 ?_
 refine Q5 (fun hc=>?_) (fun hc=>?_)
 ·have hn':n<(Yx c).length:=by simpa using hc
  refine U1 hv6 hn' ?_
  obtain ⟨pk,_⟩:=hv6.elS hn'
  refine X8 hS7.sat pk rfl ?_
  refine Q8z hS7.sat (hv.up hS7) (hkb _ (List.getElem_mem hn')) ?_
  have hnx:=M3 (p:=fun s=> !D5 l s) hn'
  cases hp:D5 l (Yx c)[n] with
  | false=>
   (try simp only[↓M1,M1,Mb,reduceIte])
   have:R=65:=e65 hA (by rw[hkE];exact C1 hn' (by simp[hp]))
   subst this
   exact h _ _ hS7
  | true=>
   (try simp only[↓M1,M1,Mb,reduceIte])
   exact Y3 hv6.max hn' ⟨hS7,by rw[hnx,hno,hp];rfl⟩
 have hB:C7 l c=false:=by
  have hn': ¬n<(Yx c).length:=by simpa using hc
  rw[D0 hn'] at hno;rw[hkE];exact hno
 clear hno hc hn e65 hkE hkb hkn hkl hS5 le5 lee6 hv6
 refine Q2X hS7.sat (hv.up hS7) own (by omega) hlen ok.sm fun vb w8 σ8 hk8 hb8=>?_
 have hS8:=hS7.trans hk8
 refine Ae (R:=L2) (e:=T.b) hS8 (by decide) fun x9 w9 hk9 ha9 _=>?_
 have hml: ∀n,n≤l.length→(T5 l i n).length≤32000:=fun n hn=>by
  unfold T5
  have h1:=Uf (fun k=>if Pc l i k then (l.getD k Cla.zero).methods else []) 32 (List.range n) fun k hk=>by
   have hk':k<l.length:=by have:=List.mem_range.1 hk;omega
   split
   ·rw[Hy hk'];exact (Bf (hmn _ (List.getElem_mem _))).2.1
   ·simp
  rw[List.length_range] at h1
  have h3:n*32≤1000*32:=Nat.mul_le_mul_right _ (by omega)
  omega
 have hbl:(Xj l).length=l.length:=by simp[Xj]
 refine O9 l.length (fun n x w'=> ∃σ',Stp w σ w' σ'∧SLe σ1 σ'∧SLe σ8 σ'∧V0 w.heap.size T.b 7 L2 σ' w' x (T5 l i n)) ⟨σ8,hS8.trans hk9,le6.more ⟨hk8.le⟩,SLe.refl _,ha9⟩ fun n x w10 d hn hinv=>?_
 clear ha9 hk9 hS7 hS8 le6 hS6 hk8
 obtain ⟨σ10,hS10,le10,leb,ha10⟩:=hinv
 have hv10:=hv.up hS10
 refine Q9 hv10 ?_
 refine Z0 ?_
 refine Q5 (fun hc=>?_) (fun hc=>?_)
 ·have hn':n<l.length:=by simpa using hc
  have hmn1:=hml n hn
  have hsuc:=Q7s (l:=l) (i:=i) (n:=n)
  rw[Hy hn'] at hsuc
  obtain ⟨lv2,fv2,mv2,p2,r2⟩:=hv10.elC hn'
  obtain ⟨_,_,g3,_,_⟩:=r2.parts
  have hmn2:=(Bf (hmn _ (List.getElem_mem hn'))).2.1
  refine Xy (fun z w'=>Stp w σ w' σ10∧V0 w.heap.size T.b 7 L2 σ10 w' z (T5 l i (n+1))) ?_ (fun z d w' hz=>?_)
  ·refine Oy ?_
   have happ: ∀{J:Value→World→Prop},Pc l i n=true→(∀z w',Stp w σ w' σ10→V0 w.heap.size T.b 7 L2 σ10 w' z (T5 l i (n+1))→J z w')→
    X5 P .append [T.g,T.g] T.g [false,false] [x,mv2] w10 J:=fun hu hJ=>
    Dl hS10 ha10 g3 rfl (by omega) (by omega) fun v' w' _ hS' ha' _=>hJ v' w' hS' (by rw[hsuc,if_pos hu];exact ha')
   by_cases e:n=i
   ·have e1:decide ((n:Int)=(i:Int))=true:=by simp[e]
    rw[e1]
    (try simp only[↓M1,M1,Mb,reduceIte])
    refine U1 hv10 hn' ?_
    (try simp only[↓M1,M1,Mb,reduceIte])
    refine ld hS10.sat p2 rfl ?_
    exact happ (by simp[Pc,e]) fun z w' h1 h2=>⟨h1,h2⟩
   ·have e1:decide ((n:Int)=(i:Int))=false:=by rw[decide_eq_false_iff_not];omega
    rw[e1]
    obtain ⟨cs1,pb,_,rv,rfl,rb⟩:=(hb8.lift leb).el (i:=i) (by rw[hbl];exact hi)
    have hrow:(Xj l)[i]'(by rw[hbl];exact hi)=(List.range l.length).map fun j=>Zx l (Y1 l i) (Y1 l j):=by simp[Xj]
    rw[hrow] at rb
    obtain ⟨cs2,pb2,_,hcs2⟩:=rb.el (i:=n) (by simpa using hn')
    have hcs2:cs2=_:=hcs2
    subst hcs2
    simp only[List.getElem_map,List.getElem_range] at pb2
    (try simp only[↓M1,M1,Mb,reduceIte])
    refine U1 (hb8.lift leb) (by rw[hbl];exact hi) ?_
    refine X8 hS10.sat pb rfl ?_
    refine U1 rb (by simpa using hn') ?_
    refine X8 hS10.sat pb2 rfl ?_
    (try simp only[↓M1,M1,Mb,reduceIte])
    cases ho:Zx l (Y1 l i) (Y1 l n) with
    | true=>
     (try simp only[↓M1,M1,Mb,reduceIte])
     refine U1 hv10 hn' ?_
     (try simp only[↓M1,M1,Mb,reduceIte])
     refine ld hS10.sat p2 rfl ?_
     exact happ (by simp[Pc,ho]) fun z w' h1 h2=>⟨h1,h2⟩
    | false=>
     (try simp only[↓M1,M1,Mb,reduceIte])
     refine ⟨hS10,?_⟩
     have:Pc l i n=false:=by simp[Pc,ho,e]
     rw[hsuc,this]
     simpa using ha10
  ·obtain ⟨hS',ha'⟩:=hz
   (try simp only[↓M1,M1,Mb,reduceIte])
   exact Z6 (by omega) hn' ⟨σ10,hS',le10,leb,ha'⟩
 have hn0:n=l.length:=by
  have: ¬n<l.length:=by simpa using hc
  omega
 subst hn0
 obtain ⟨σ11,hS11,hv11,lee11,_⟩:=ha10.keep hS10
 have le11:=le10.more ⟨lee11⟩
 have hml2:=hml _ (Nat.le_refl l.length)
 have hov:Xs l c=Vq (T5 l i l.length):=by
  unfold Xs
  refine (Q5G fun m=>?_).symm
  rw[Q32 own hi,hname]
 have hlk:Mx l c=(!c.abs&&(T5 l i l.length).any fun m=>Xl l c.name m.name):=by
  unfold Mx
  congr 1
  refine (Q9g fun m=>?_).symm
  rw[Q32 own hi,hname]
 have hsn: ∀m∈T5 l i l.length,SmM m∧NmM m:=fun m hm=>by
  obtain ⟨c2,hc2,hm2⟩:=Q7B hm (Nat.le_refl _)
  exact ⟨(ok.sm c2 hc2).2.2.2 m hm2,(ok.nm c2 hc2).2.2 m hm2⟩
 generalize T5 l i l.length=ms at hov hlk hsn hml2 hv11
 clear ha10 lee11 hS10 le10 leb hv10 hml hc hb8 hbl
 refine J5 ms.length (fun n w'=> ∃σ',Stp w σ w' σ'∧SLe σ11 σ'∧ ∀a b,a<n→b<a→G8 ms a b=false) ⟨σ11,hS11,SLe.refl _,fun a b h=>by omega⟩ fun n w12 d hn hinv=>?_
 obtain ⟨σ12,hS12,le12,hno⟩:=hinv
 have hv12:=hv11.lift le12
 refine Q9 hv12 ?_
 refine Z0 ?_
 refine Q5 (fun hc=>?_) (fun hc=>?_)
 ·have hn':n<ms.length:=by simpa using hc
  refine J5 n (fun m w'=> ∃σ',Stp w σ w' σ'∧SLe σ11 σ'∧ ∀b,b<m→G8 ms n b=false) ⟨σ12,hS12,le12,fun b h=>by omega⟩ fun m w13 d hm hinv=>?_
  obtain ⟨σ13,hS13,le13,hno2⟩:=hinv
  have hv13:=hv11.lift le13
  refine Z0 ?_
  refine Q5 (fun hc=>?_) (fun hc=>?_)
  ·have hm':m<n:=by simpa using hc
   have hm2:m<ms.length:=by omega
   obtain ⟨pv1,cv1,hv1',pn,rn⟩:=hv13.elM hn'
   obtain ⟨pv2,cv2,hv2',pm,rm⟩:=hv13.elM hm2
   obtain ⟨sn1,sn2⟩:=hsn _ (List.getElem_mem hn')
   obtain ⟨sm1,sm2⟩:=hsn _ (List.getElem_mem hm2)
   have hat:G8 ms n m=(decide (ms[n].name=ms[m].name)&& !decide (P2 ms[n]=P2 ms[m])):=by
    unfold G8;rw[Hy hn',Hy hm2]
   have hs13:=hS13.sat
   have hnx:G8 ms n m=false→ ∀b,b<m+1→G8 ms n b=false:=fun e b hb=>by
    by_cases e2:b=m
    ·subst e2;exact e
    ·exact hno2 b (by omega)
   refine U9 hs13 ?_
   (repeat refine J4 Qp ?_)
   by_cases he:ms[n].name=ms[m].name
   ·have hd:decide (ms[n].name=ms[m].name)=true:=by simp[he]
    simp only[hd,reduceIte]
    (repeat (apply J4;(· intros;(repeat (rename_i hx;subst hx));(repeat' (first | (with_reducible exact W8 rfl) | (with_reducible exact Xo (Stp.bel (by (repeat (first | exact Stp.refl (by (first | assumption | exact Stp.sat (by assumption) | exact Hst.sat (by assumption))) | assumption | refine Stp.trans ?_ (by first | assumption | exact Hst.stp (by assumption)))))) rfl) | (with_reducible intro _) | (simp only[↓M2,M2,Mb,reduceIte]) | (with_reducible show Q2 _ _ _ _ _;first | refine X8 aS aL aR ?_ | refine Z1 aS aL aR ?_ | refine ld aS aL aR ?_) | (with_reducible show indexAddr _ _ _ _ _ _;refine U1 aL au ?_) | (with_reducible show X5 _ _ _ _ _ _ _ _;refine Q9 aL ?_) | (with_reducible show Lq _ _ _ _ _ _;refine V1 aR ?_) | (with_reducible show pick _ _ _ _ _ _;refine Jr ?_) | (with_reducible show Q0 _ _ _ _ _;first | refine Q52 au au au au ?_) | (apply Wu;intro hh;(try simp only[hh,reduceIte,↓M2,M2,Mb,reduceIte]))));done)))
    (intros;(repeat (rename_i hx;subst hx));(try simp only[↓M2,M2,Mb,reduceIte]))
    rename_i w14 hb14
    refine Q52 hb14.sat rm sm1 sm2 fun w15 σ15 hk15=>?_
    refine Vs ?_
    (try simp only[↓M1,M1,Mb,reduceIte])
    have hS15:=(hS13.trans hb14.stp).trans hk15
    by_cases hsg:P2 ms[n]=P2 ms[m]
    ·simp only[hsg,decide_true,Bool.not_true,↓M1,M1,Mb,reduceIte]
     refine Y3 (by omega) hm' ⟨σ15,hS15,le13.more ⟨(hb14.stp.trans hk15).le⟩,hnx ?_⟩
     rw[hat,hsg];simp
    ·simp only[hsg,decide_false,Bool.not_false,↓M1,M1,Mb,reduceIte]
     have:R=66:=e66 hA hB (by rw[hov];exact Q8f hn' hm2 (by rw[hat];simp[he,hsg]))
     subst this
     exact h _ _ hS15
   ·have hd:decide (ms[n].name=ms[m].name)=false:=by simp[he]
    simp only[hd,Bool.false_eq_true,reduceIte]
    (repeat refine J4 Qp ?_)
    (intros;(repeat (rename_i hx;subst hx));(try simp only[↓M2,M2,Mb,reduceIte]))
    rename_i w14 hb14
    (try simp only[↓M1,M1,Mb,reduceIte])
    refine Y3 (by omega) hm' ⟨σ13,hS13.trans hb14.stp,le13,hnx ?_⟩
    rw[hat];simp[he]
  ·have hm0:m=n:=by
    have: ¬m<n:=by simpa using hc
    omega
   subst hm0
   (try simp only[↓M1,M1,Mb,reduceIte])
   refine Y3 hv11.max hn' ⟨σ13,hS13,le13,fun a b ha hb=>?_⟩
   by_cases e:a=m
   ·subst e;exact hno2 b hb
   ·exact hno a b (by omega) hb
 have hC:Xs l c=false:=by
  rw[hov]
  have: ¬n<ms.length:=by simpa using hc
  exact Q9s fun x y hx hy=>hno x y (by omega) hy
 clear hno hc hn hv12 hov e66
 refine J5 ms.length (fun n w'=> ∃σ',Stp w σ w' σ'∧SLe σ11 σ'∧(c.abs=true→n=0)∧(ms.take n).any (fun m=>Xl l c.name m.name)=false) ⟨σ12,hS12,le12,fun _=>rfl,rfl⟩ fun n w13 d hn hinv=>?_
 clear hS12 le12
 obtain ⟨σ13,hS13,le13,hab,hno⟩:=hinv
 have hv13:=hv11.lift le13
 have hq13:=hq1.lift (le11.more le13)
 refine Q9 hv13 ?_
 refine Z0 ?_
 by_cases hn':n<ms.length
 ·have e1:decide ((n:Int)<(ms.length:Int))=true:=by simpa using hn'
  rw[e1]
  (try simp only[↓M1,M1,Mb,reduceIte])
  refine ld hS13.sat hq13 rfl ?_
  refine Ro ?_
  (try simp only[↓M1,M1,Mb,reduceIte])
  cases hca:c.abs with
  | true=>
   (try simp only[↓M1,M1,Mb,reduceIte])
   have:R=0:=e0 hA hB hC (by rw[hlk,hca];rfl)
   subst this
   exact h _ _ hS13
  | false=>
   (try simp only[↓M1,M1,Mb,reduceIte])
   obtain ⟨pvn,cvn,hvn,pn,rn⟩:=hv13.elM hn'
   have hs13:=hS13.sat
   have hnx:=M3 (p:=fun m:Hm.Met=>Xl l c.name m.name) hn'
   have hla:Xl l c.name ms[n].name=(!(J8 l c.name ms[n].name).isSome||(o2 (J8 l c.name ms[n].name)).abs):=by
    unfold Xl
    cases J8 l c.name ms[n].name<;>rfl
   generalize hF:(fun o:Option Obj=> ∃cs:List Value,∃e,o=some (.cells cs.toArray e (0,0))∧cs.length=7∧cs[3]? =some (.bool (o2 (J8 l c.name ms[n].name)).abs))=F
   have hFn: ¬F none:=by rw[←hF];rintro ⟨_,_,h,_⟩;cases h
   refine X1G F hs13 ?_
   (repeat (apply J4;(· intros;(repeat (rename_i hx;subst hx));(repeat' (first | (with_reducible exact Q56 rfl) | (with_reducible exact X1c (Stp.bel (by (repeat (first | exact Stp.refl (by (first | assumption | exact Stp.sat (by assumption) | exact Hst.sat (by assumption))) | assumption | refine Stp.trans ?_ (by first | assumption | exact Hst.stp (by assumption)))))) rfl) | (with_reducible intro _) | (simp only[↓M2,M2,Mb,reduceIte]) | (with_reducible show Q2 _ _ _ _ _;first | refine X8 aS aL aR ?_ | refine Z1 aS aL aR ?_ | refine ld aS aL aR ?_) | (with_reducible show indexAddr _ _ _ _ _ _;refine U1 aL au ?_) | (with_reducible show X5 _ _ _ _ _ _ _ _;refine Q9 aL ?_) | (with_reducible show Lq _ _ _ _ _ _;refine V1 aR ?_) | (with_reducible show pick _ _ _ _ _ _;refine Jr ?_)));done)))
   refine W5 (fun v _=> ∃s,∃ds:List Value,v= .tuple #[s, .agg ds.toArray, .bool (J8 l c.name ms[n].name).isSome]∧ds.length=7∧ds[3]? =some (.bool (o2 (J8 l c.name ms[n].name)).abs)∧ ∀u∈ds,u.oneCell'=true) (fun _ _ _ h _=>h) (fun t180 t185 w hb e1 e2=>?_) ?_
   ·subst e1;subst e2
    refine Q6E hb.sat (hv.up (hS13.trans hb.stp)) ok fun pv cv hv w' σ' hk hr=>⟨.of_below hk.bel,_,_,rfl,rfl,rfl,Rep.one hr⟩
   refine W5 (fun _ _=>True) (fun _ _ _ _ _=>trivial) (fun t186 w hb e=>?_) ?_
   ·obtain ⟨s,ds,rfl,_⟩:=e
    exact V6 (vs:=[_,_,_]) rfl ⟨.of_below (Below.refl _ _),trivial⟩
   refine W5 (fun v _=> ∃ds:List Value,v= .agg ds.toArray∧ds.length=7∧ds[3]? =some (.bool (o2 (J8 l c.name ms[n].name)).abs)∧ ∀u∈ds,u.oneCell'=true) (fun _ _ _ h _=>h) (fun t186 w hb e=>?_) ?_
   ·obtain ⟨s,ds,rfl,h7⟩:=e
    exact V6 (vs:=[_,_,_]) rfl ⟨.of_below (Below.refl _ _),ds,rfl,h7⟩
   refine J4 (V:= .bool (J8 l c.name ms[n].name).isSome) (fun t186 w hb e=>?_) ?_
   ·obtain ⟨s,ds,rfl,h7⟩:=e
    exact V6 (vs:=[_,_,_]) rfl (Q56 rfl)
   refine W5 (X1o w13.heap.size 7 F) (Q7a hFn) (fun w hb=>?_) ?_
   ·exact Dx hb.sat fun b w' hb2 hk hm=>⟨.of_below hk.bel,b,rfl,Nat.le_trans hb.stp.bel.size hb2, .inl ⟨_,hm.2.choose,rfl,hm.2.choose_spec⟩⟩
   refine Q6t (fun xs _ w=>X1w w13.heap.size F (xs.headD undef) w) (fun xs _ w w' h hT=>Q6B hFn _ w w' h hT) (fun t18 t188 w hb e1 e2=>?_) ?_
   ·obtain ⟨g,rfl,hg,hd⟩:=e1
    obtain ⟨ds,rfl,h7,h3,h1⟩:=e2
    obtain ⟨cs,e,hl7,hh⟩: ∃cs:List Value,∃e,cs.length=7∧w.heap[g]? =some (.cells cs.toArray e (0,0)):=by
     rcases hd with h | h
     ·exact h
     ·rw[←hF] at h
      obtain ⟨cs,e,h4,h5,_⟩:=h
      exact ⟨cs,e,h5,h4⟩
    refine sta (σ:=fun _=>none) (cs:=cs) (ds:=ds) ⟨rfl,e,hh⟩ hl7 h7 (by rw[List.all_toArray];exact List.all_eq_true.2 h1) fun w' hu hm=>?_
    have hFg:F (w'.heap[g]?):=by
     obtain ⟨_,e',hm'⟩:=hm
     rw[hm',←hF]
     exact ⟨ds,e',rfl,h7,h3⟩
    exact ⟨FinT.of_upd hu hg hFg,g,rfl,hg,hFg⟩
   rintro t179 t183 t184 t180 t185 t186 t187 t188 t189 t18 u15 w14 hb14 rfl rfl rfl rfl rfl _ _ _ rfl _ ⟨g,e,hg,hd⟩
   have e:t18=_:=e
   subst e
   rw[←hF] at hd
   obtain ⟨cs,ty,hh,hl7,h3⟩:=hd
   have hS14:=hS13.trans hb14.stp
   refine Ro ?_
   cases hsm:(J8 l c.name ms[n].name).isSome with
   | false=>
    (try simp only[↓M1,M1,Mb,reduceIte])
    have:R=67:=e67 hA hB hC (by rw[hlk,hca];exact C1 hn' (by rw[hla,hsm];rfl))
    subst this
    exact h _ _ hS14
   | true=>
    (try simp only[↓M1,M1,Mb,reduceIte])
    refine Jk (σ:=fun _=>none) ⟨rfl,ty,hh⟩ h3 ?_
    (try simp only[↓M1,M1,Mb,reduceIte])
    cases hma:(o2 (J8 l c.name ms[n].name)).abs with
    | true=>
     (try simp only[↓M1,M1,Mb,reduceIte])
     have:R=67:=e67 hA hB hC (by rw[hlk,hca];exact C1 hn' (by rw[hla,hma,Bool.or_true]))
     subst this
     exact h _ _ hS14
    | false=>
     (try simp only[↓M1,M1,Mb,reduceIte])
     refine Y3 hv11.max hn' ⟨σ13,hS14,le13,fun e=>False.elim (by simpa using e),?_⟩
     rw[hnx,hno,hla,hsm,hma];rfl
 ·have e1:decide ((n:Int)<(ms.length:Int))=false:=by simpa using hn'
  rw[e1]
  (try simp only[↓M1,M1,Mb,reduceIte])
  rw[D0 hn'] at hno
  have:R=0:=e0 hA hB hC (by rw[hlk,hno,Bool.and_false])
  subst this
  exact h _ _ hS13)
end Go.Proofs.YtfppjenblllfaaaGreatDoor

namespace Go.Proofs.YtfppjenblllfaaaGreatDoor
open Go.Emb Go.RowKit Go.Kd Go.Hm
variable {w : World} {K : Value → World → Prop} {σ : Q4} {v : Value}
def Q20:List Cla:=[⟨Z8,[],[],false,false,false,[],[]⟩,⟨V8,Z8,[],false,false,false,[⟨K3,N6,false⟩],[]⟩]
def gMk (n:X0):Cla:=⟨n,V8,[],false,false,true,[],[]⟩
theorem Q5L:F0=Q20++J0.map gMk:=rfl
theorem Q7C (M:X4 w σ) (h: ∀C w' g,Stp w σ w' g→V0 w.heap.size T.a 8 U6 g w' C F0→K C w'):Q0 P F.b6 [] w K:=Fe (by
 unfold Vp
 refine V7 (cells:= #[S Z8,S [], .slice none 0 0, .bool false, .bool false, .bool false, .slice none 0 0, .slice none 0 0]) (by kernel_rfl) ?_
 refine V7 (cells:= #[S K3,S N6, .bool false]) (by kernel_rfl) ?_
 refine O7 (R:=D6) (sz:=3) M [.agg #[S K3,S N6, .bool false]] [⟨K3,N6,false⟩] rfl rfl (by simp;rfl) rfl ⟨⟨rfl,by decide,by decide⟩,trivial⟩ fun v1 w1 σ1 r l=>?_
 have q:=l
 obtain ⟨H,b,rfl,_⟩:=q
 refine V7 (cells:= #[S V8,S Z8, .slice none 0 0, .bool false, .bool false, .bool false, .slice H 1 b, .slice none 0 0]) (by kernel_rfl) ?_
 refine I6 (R:=U6) (sz:=8) r [.agg #[S Z8,S [], .slice none 0 0, .bool false, .bool false, .bool false, .slice none 0 0, .slice none 0 0], .agg #[S V8,S Z8, .slice none 0 0, .bool false, .bool false, .bool false, .slice H 1 b, .slice none 0 0]]
  Q20 rfl rfl (by simp;exact ⟨rfl,rfl⟩) rfl ⟨⟨_,_,_,rfl,Sl.nil,Sl.nil,Sl.nil,by decide,by decide⟩,⟨_,_,_,rfl,Sl.nil,l,Sl.nil,by decide,by decide⟩,trivial⟩ fun Y X j z _=>?_
 refine O7 (R:=X9) (sz:=1) j.sat (J0.map S) J0 rfl rfl (by decide) rfl ⟨⟨rfl,by decide⟩,⟨rfl,by decide⟩,⟨rfl,by decide⟩,⟨rfl,by decide⟩,⟨rfl,by decide⟩,⟨rfl,by decide⟩,trivial⟩ fun Z w3 E o m=>?_
 have D:=(r.trans j).trans o
 have U:J0.length=6:=rfl
 refine O9 J0.length (fun n x w'=> ∃g,Stp w σ w' g∧SLe E g∧V0 w.heap.size T.a 8 U6 g w' x (Q20++(J0.take n).map gMk)) ⟨E,D,SLe.refl _,z.up o⟩ fun n x W d hn k=>?_
 obtain ⟨L,e,c,f⟩:=k
 refine Q9 (m.lift c) ?_
 refine Z0 ?_
 refine Q5 (fun u=>?_) (fun u=>?_)
 ·have a:n<J0.length:=by simpa using u
  have p:=m.lift c
  refine U1 p a ?_
  obtain ⟨Q,J⟩:=p.elS a
  refine X8 e.sat Q rfl ?_
  have V:(Q20++(J0.take n).map gMk).length≤8:=by
   rw[List.length_append,List.length_map,List.length_take,show Q20.length=2 from rfl];omega
  have i:(J0.take (n+1)).map gMk=(J0.take n).map gMk++[gMk J0[n]]:=by
   rw[List.take_add_one,List.getElem?_eq_getElem a,List.map_append];rfl
  generalize J0[n]=t at J i
  refine V7 (cells:= #[S t,S V8, .slice none 0 0, .bool false, .bool false, .bool true, .slice none 0 0, .slice none 0 0]) (by kernel_rfl) ?_
  have N:U6 L (gMk t) [S t,S V8, .slice none 0 0, .bool false, .bool false, .bool true, .slice none 0 0, .slice none 0 0]:=⟨_,_,_,rfl,Sl.nil,Sl.nil,Sl.nil,J,(by decide:V8.length≤Z7)⟩
  refine Uc (x:=gMk t) e f N rfl rfl rfl (by omega) (by omega) fun s C w5 O A B y _=>?_
  refine D7 ?_
  refine Z6 (by omega) a ⟨O,B,c.more A.le,?_⟩
  rw[i,←List.append_assoc];exact y
 ·have a: ¬n<J0.length:=by simpa using u
  rw[List.take_of_length_le (by omega),←Q5L] at f
  exact h _ _ _ e f)
end Go.Proofs.YtfppjenblllfaaaGreatDoor

namespace Go.Proofs.YtfppjenblllfaaaGreatDoor
open Go.Emb Go.RowKit Go.Kd Go.Hm
variable {w : World} {K : Value → World → Prop} {σ : Q4} {l : List Cla} {v : Value}
theorem X18 {w0:World} {σ0:Q4} {frm:Nat} (Z:Yg l) (ho:G1 l) (hl:l.length≤1000) (ap: ∀c∈l,P8 c) (hf:0<frm) (av: ∀i (C:i<l.length),frm≤i→ ∀u∈J3 l[i],∃j,Y4 l u=some j): ∀(k:Nat) {i:Nat} {b:List Nat} {x:Value} {w:World} {σ:Q4} {K:Value→World→Prop},i<l.length→F6 l (Y1 l i)<k→Pe l b→Stp w0 σ0 w σ→Sl 8 U6 σ v l→V0 w0.heap.size T.e 1 Uk σ w x (ints b)→
 (∀x' w' M,Stp w0 σ0 w' M→SLe σ M→V0 w0.heap.size T.e 1 Uk M w' x' (ints (Qa l frm b i))→K x' w')→Q0 P F.aL [v,x,I frm,I i] w K:=by
 intro k
 induction k with
 | zero=>intro i b x w σ K C hk;omega
 | succ k ih=>
  intro i b x w σ K C hk E hS hv Y h
  refine Af ?_
  unfold Nu
  rw[Q64 Z ho hf b C] at h
  refine Z0 ?_
  refine Q5 (fun O=>?_) (fun O=>?_)
  ·have O:i<frm:=by have:=of_decide_eq_true O;omega
   rw[if_pos O] at h
   exact h _ _ _ hS (SLe.refl _) Y
  have O: ¬i<frm:=by have:=of_decide_eq_false O;omega
  rw[if_neg O] at h
  have be:=E.len
  refine J5 b.length (fun n w'=>w'=w∧ ∀m (hm:m<b.length),m<n→b[m]≠i) ⟨rfl,fun m _ h=>by omega⟩ fun n w2 d hn o=>?_
  obtain ⟨hw,Q⟩:=o
  subst hw
  refine Q72 Y ?_
  rw[show (ints b).length=b.length from by simp]
  refine Z0 ?_
  refine Q5 (fun A=>?_) (fun A=>?_)
  ·have f:n<b.length:=by simpa using A
   refine Q4c (U0.of_acc Y) (n:=n) (by simpa using f) fun a cs aq bv hr=>?_
   obtain ⟨rfl,_⟩:=hr
   refine Qg (by have:=aq 0 _ rfl;rwa [add_zero] at this) ?_
   simp only[List.getElem_map]
   refine Oy ?_
   by_cases e:b[n]=i
   ·have:decide ((b[n]:Int)=i)=true:=by simp[e]
    rw[this]
    refine V9 ?_
    rw[if_pos (e▸List.getElem_mem f)] at h
    exact h _ _ _ hS (SLe.refl _) Y
   ·have:decide ((b[n]:Int)=i)=false:=by rw[decide_eq_false_iff_not];omega
    rw[this]
    refine W0 ?_
    refine D7 ?_
    refine Y3 (by omega) f ⟨rfl,fun m hm a8=>?_⟩
    by_cases e2:m=n
    ·subst e2;exact e
    ·exact Q m hm (by omega)
  ·have f: ¬n<b.length:=by simpa using A
   have B:i∉b:=fun az=>by
    obtain ⟨m,hm,e⟩:=List.getElem_of_mem az
    exact Q m hm (by omega) e
   rw[if_neg B] at h
   have X:l.getD i Cla.zero=l[i]:=by rw[List.getD_eq_getElem?_getD,List.getElem?_eq_getElem C];rfl
   rw[X] at h
   have an:=av i C (by omega)
   obtain ⟨lv,fv,mv,p1,r1⟩:=hv.elC C
   obtain ⟨g1,_,_,_,g5⟩:=r1.parts
   have H:=ap _ (List.getElem_mem C)
   clear Q B A hn
   refine U9 hS.sat ?_
   (repeat refine J4 Qp ?_)
   refine Q2k (w:=w2) (σ:=σ) (R:=X9) (sz:=1) (e:=T.c) [l[i].super] (fun t w hb e=>?_) ?_
   ·subst e;exact I6 hb.stp [_] [l[i].super] rfl rfl (by simp;rfl) rfl ⟨⟨rfl,g5⟩,trivial⟩ fun v' w' hk Z _=>Q4y hb hk Z
   (repeat refine J4 Qp ?_)
   rintro bc bf bk bd bq bs bb w4 a0 rfl rfl rfl rfl rfl ⟨ah,ac⟩ rfl
   refine Dl ah ac g1 rfl (by simp;have:=H.1;omega) (by simp;have:=H.1;omega) fun v5 w5 ax ab V ag=>?_
   obtain ⟨σ6,q,L,bm,_⟩:=V.keep ab
   have L:Sl 1 X9 σ6 v5 (J3 l[i]):=L
   have ao:=Y.up q
   have W:=hv.up q
   have ad:=hS.trans q
   have ae:SLe σ σ6:=⟨q.le⟩
   clear ax ag V ac ah a0 ab
   refine O9 (J3 l[i]).length (fun n x w'=> ∃M p,Stp w0 σ0 w' M∧SLe σ6 M∧V0 w0.heap.size T.e 1 Uk M w' x (ints p)∧Pe l p∧p=((J3 l[i]).take n).foldl (fun b n=>Qa l frm b ((Y4 l n).getD 0)) b) ⟨σ6,b,ad,SLe.refl _,ao,E,rfl⟩ fun n x7 w7 d hn o=>?_
   obtain ⟨σ7,a3,z,r,af,g,N⟩:=o
   have y:=L.lift r
   refine Q9 y ?_
   refine Z0 ?_
   refine Q5 (fun A=>?_) (fun A=>?_)
   ·have f:n<(J3 l[i]).length:=by simpa using A
    refine U1 y f ?_
    obtain ⟨p7,_⟩:=y.elS f
    refine X8 z.sat p7 rfl ?_
    have D:=W.lift r
    refine P6 z.sat D ?_
    obtain ⟨j,hj⟩:=an _ (List.getElem_mem f)
    have bo:=Q0b Z ho C (by rw[X];exact List.getElem_mem f) hj
    have aa:=(R6 hj).1
    simp only[hj,W7]
    refine ih aa (by omega) g z D af fun x8 w8 σ8 U aw J=>?_
    refine D7 ?_
    refine Z6 y.max f ⟨σ8,_,U,r.more aw,J,Ff Z ho hf _ _ _ aa g,?_⟩
    rw[List.take_add_one,List.getElem?_eq_getElem f,List.foldl_append,←N]
    simp[hj]
   ·have f: ¬n<(J3 l[i]).length:=by simpa using A
    rw[List.take_of_length_le (by omega)] at N
    have bh:=g.len
    refine Uc (R:=Uk) (x:=(i:Int)) z af ⟨rfl,by omega,by omega⟩ rfl rfl rfl (by simp;omega) (by simp;omega) fun s x8 w8 σ8 am U J _=>?_
    refine h _ _ _ U ((ae.more r).more am.le) ?_
    rw[←N]
    simpa [ints] using J
end Go.Proofs.YtfppjenblllfaaaGreatDoor

namespace Go.Hm
open Go.Kd
def E5 (n i b:Nat):Bool:=decide (i<n)&&decide (128≤b)&&decide (b<192)
def Yj (n a b c d:Nat):Nat:=
 if a<128 then 1
 else if (decide (194≤a)&&decide (a<224)&&E5 n 1 b)=true then 2
 else if (decide (224≤a)&&decide (a<240)&&E5 n 1 b&&E5 n 2 c)=true then
  (if 2048≤a % 16*4096+b % 64*64+c % 64∧(a % 16*4096+b % 64*64+c % 64<55296∨57343<a % 16*4096+b % 64*64+c % 64) then 3 else 0)
 else if (decide (240≤a)&&decide (a<245)&&E5 n 1 b&&E5 n 2 c&&E5 n 3 d)=true then
  (if 65536≤a % 8*262144+b % 64*4096+c % 64*64+d % 64∧a % 8*262144+b % 64*4096+c % 64*64+d % 64≤1114111 then 4 else 0)
 else 0
theorem Q9k (n a b c d:Nat) (t:a<256) (q:b<256) (r:c<256) (s:d<256):
 Yj n a b c d=if (Lib.decodeN n a b c d).1=65533∧(Lib.decodeN n a b c d).2=1 then 0 else (Lib.decodeN n a b c d).2:=by
 have key: ∀v k:Nat,Lib.decodeN n a b c d=(v,k)→ ¬k=1→Yj n a b c d=k→Yj n a b c d=if (Lib.decodeN n a b c d).1=65533∧(Lib.decodeN n a b c d).2=1 then 0 else (Lib.decodeN n a b c d).2:=by
  intro v k h p m
  rw[h,m,if_neg (fun e=>p e.2)]
 have g:Lib.decodeN n a b c d=(65533,1)→Yj n a b c d=0→Yj n a b c d=if (Lib.decodeN n a b c d).1=65533∧(Lib.decodeN n a b c d).2=1 then 0 else (Lib.decodeN n a b c d).2:=by
  intro h m
  rw[h,m];simp
 by_cases f:a<128
 ·have h:Lib.decodeN n a b c d=(a,1):=by unfold Lib.decodeN;rw[if_pos f]
  rw[h,if_neg (by simp only;omega)]
  unfold Yj;rw[if_pos f]
 by_cases j:a / 32=6∧(1<n∧b / 64=2)
 ·by_cases i:a % 32*64+b % 64≥128
  ·refine key _ 2 (by unfold Lib.decodeN;rw[if_neg f,if_pos j,if_pos i]) (by decide) ?_
   unfold Yj E5
   simp only[Bool.and_eq_true,decide_eq_true_eq]
   rw[if_neg f,if_pos (by omega)]
  ·refine g (by unfold Lib.decodeN;rw[if_neg f,if_pos j,if_neg i]) ?_
   unfold Yj E5
   simp only[Bool.and_eq_true,decide_eq_true_eq]
   rw[if_neg f,if_neg (by omega),if_neg (by omega),if_neg (by omega)]
 by_cases l:a / 16=14∧(1<n∧b / 64=2)∧(2<n∧c / 64=2)
 ·by_cases i:2048≤a % 16*4096+b % 64*64+c % 64∧(a % 16*4096+b % 64*64+c % 64<55296∨57343<a % 16*4096+b % 64*64+c % 64)
  ·refine key _ 3 (by unfold Lib.decodeN;rw[if_neg f,if_neg j,if_pos l,if_pos (by omega)]) (by decide) ?_
   unfold Yj E5
   simp only[Bool.and_eq_true,decide_eq_true_eq]
   rw[if_neg f,if_neg (by omega),if_pos (by omega),if_pos i]
  ·refine g (by unfold Lib.decodeN;rw[if_neg f,if_neg j,if_pos l,if_neg (by omega)]) ?_
   unfold Yj E5
   simp only[Bool.and_eq_true,decide_eq_true_eq]
   rw[if_neg f,if_neg (by omega),if_pos (by omega),if_neg i]
 by_cases o:a / 8=30∧(1<n∧b / 64=2)∧(2<n∧c / 64=2)∧(3<n∧d / 64=2)
 ·by_cases i:65536≤a % 8*262144+b % 64*4096+c % 64*64+d % 64∧a % 8*262144+b % 64*4096+c % 64*64+d % 64≤1114111
  ·refine key _ 4 (by unfold Lib.decodeN;rw[if_neg f,if_neg j,if_neg l,if_pos o,if_pos (by omega)]) (by decide) ?_
   unfold Yj E5
   simp only[Bool.and_eq_true,decide_eq_true_eq]
   rw[if_neg f,if_neg (by omega),if_neg (by omega),if_pos (by omega),if_pos i]
  ·refine g (by unfold Lib.decodeN;rw[if_neg f,if_neg j,if_neg l,if_pos o,if_neg (by omega)]) ?_
   unfold Yj E5
   simp only[Bool.and_eq_true,decide_eq_true_eq]
   rw[if_neg f,if_neg (by omega),if_neg (by omega)]
   by_cases u:a<245
   ·rw[if_pos (by omega),if_neg i]
   ·rw[if_neg (by omega)]
 ·refine g (by unfold Lib.decodeN;rw[if_neg f,if_neg j,if_neg l,if_neg o]) ?_
  unfold Yj E5
  simp only[Bool.and_eq_true,decide_eq_true_eq]
  rw[if_neg f,if_neg (by omega),if_neg (by omega),if_neg (by omega)]
def X3 (l:X0) (i:Nat):Nat:=(l.getD i 0).toNat
theorem Qn (l:X0) (i:Nat):X3 l i<256:=(l.getD i 0).toNat_lt
def Yc (l:X0):Nat:=Yj l.length (X3 l 0) (X3 l 1) (X3 l 2) (X3 l 3)
theorem Q4w (l:X0):Yc l=if (Lib.decodeL l).1=65533∧(Lib.decodeL l).2=1 then 0 else (Lib.decodeL l).2:=by
 rw[Lib.decodeL_N]
 exact Q9k _ _ _ _ _ (Qn l 0) (Qn l 1) (Qn l 2) (Qn l 3)
theorem Q8s {l:X0} (a:l≠[]) (h:Yc l≠0):1≤Yc l∧Yc l≤l.length:=by
 have c:=Lib.decodeL_le l a
 have b:=Lib.decodeL_width l
 rw[Q4w] at h⊢
 split at h
 ·exact absurd rfl h
 ·rw[if_neg (by assumption)];omega
theorem Q7c {f:Nat} {l:X0} (a:l≠[]):Lib.validGoD (f+1) l=if Yc l=0 then false else Lib.validGoD f (l.drop (Yc l)):=by
 have b:=Lib.decodeL_width l
 simp only[Lib.validGoD,if_neg a]
 rw[Q4w]
 split
 ·rw[if_pos rfl]
 ·rw[if_neg (by omega)]
end Go.Hm
namespace Go.Emb
open Go.RowKit
theorem Q7O {P:Program} {w:World} {K:Value→World→Prop} {k:IntKind} {t:TypeId} {b d:Operand} {a c:Int} (f:0<c∧0≤a) (h:K (.int k (a % c)) w):Q3 P .rem t b d (.int k a) (.int k c) w K:=by
 have e:Q3 P .rem t b d (.int k a) (.int k c) w K=K (.int k (a.tmod c)) w:=Y0 (by simp[eqGuard,Go.binOp,Op.intDiv];intro e;omega)
 rw[e,Int.tmod_eq_emod_of_nonneg f.2];exact h
end Go.Emb
namespace Go.Proofs.YtfppjenblllfaaaGreatDoor
open Go.Emb Go.RowKit Go.Kd Go.Hm
variable {w : World} {K : Value → World → Prop} {σ : Q4}
theorem Wv {a:X0} {i:Nat} (b:i<a.length) (h:K (.int .u8 (X3 a i)) w):E2 P T.c (S a) (I i) w K:=by
 rw[Qd X7 (by omega) (by simpa using b)]
 have:(a[(i:Int).toNat]'(by simpa using b)).toNat=X3 a i:=by
  unfold X3
  rw[List.getD_eq_getElem?_getD,List.getElem?_eq_getElem b];rfl
 rw[this];exact h
theorem Q2r {n:Int} (a:0≤n∧n<256) (h:K (I n) w):conv P T.w T.e (.int .u8 n) w K:=by
 rw[Q0Z Q2d Q1Z,B1 (by omega) (by omega)];exact h
theorem Vn {a:X0} {i:Nat} (h:K (.bool (E5 a.length i (X3 a i))) w):Q0 P F.p [S a,I i] w K:=Fz (by
 unfold Lf
 unfold E5 at h
 simp only[↓M1,M1,Mb,reduceIte]
 by_cases b:i<a.length
 ·have d:decide ((i:Int)<a.length)=true:=by rw[decide_eq_true_eq];omega
  have c:decide (i<a.length)=true:=by simpa using b
  rw[c] at h
  simp only[d,↓M1,M1,Mb,reduceIte]
  refine Wv b ?_
  (try simp only[↓M1,M1,Mb,reduceIte])
  have f:decide ((128:Int)≤(X3 a i:Int))=decide (128≤X3 a i):=by rw[Bool.eq_iff_iff,decide_eq_true_eq,decide_eq_true_eq];omega
  have g:decide ((X3 a i:Int)<192)=decide (X3 a i<192):=by rw[Bool.eq_iff_iff,decide_eq_true_eq,decide_eq_true_eq];omega
  rw[f]
  cases e:decide (128≤X3 a i) with
  | true=>
   rw[e] at h
   simp only[↓M1,M1,Mb,reduceIte]
   refine Wv b ?_
   simp only[g,↓M1,M1,Mb,reduceIte]
   simpa using h
  | false=>
   rw[e] at h
   simp only[↓M1,M1,Mb,reduceIte]
   simpa using h
 ·have d:decide ((i:Int)<a.length)=false:=by rw[decide_eq_false_iff_not];omega
  have c:decide (i<a.length)=false:=by simpa using b
  rw[c] at h
  simp only[d,↓M1,M1,Mb,reduceIte]
  simpa using h)
def Zf (a:X0):Nat:=X3 a 0 % 16*4096+X3 a 1 % 64*64+X3 a 2 % 64
def Hc (a:X0):Nat:=X3 a 0 % 8*262144+X3 a 1 % 64*4096+X3 a 2 % 64*64+X3 a 3 % 64
theorem Q7D (a:X0):Yc a=if X3 a 0<128 then 1
 else if (decide (194≤X3 a 0)&&decide (X3 a 0<224)&&E5 a.length 1 (X3 a 1))=true then 2
 else if (decide (224≤X3 a 0)&&decide (X3 a 0<240)&&E5 a.length 1 (X3 a 1)&&E5 a.length 2 (X3 a 2))=true then
  (if 2048≤Zf a∧(Zf a<55296∨57343<Zf a) then 3 else 0)
 else if (decide (240≤X3 a 0)&&decide (X3 a 0<245)&&E5 a.length 1 (X3 a 1)&&E5 a.length 2 (X3 a 2)&&E5 a.length 3 (X3 a 3))=true then
  (if 65536≤Hc a∧Hc a≤1114111 then 4 else 0)
 else 0:=rfl
set_option maxHeartbeats 2000000 in
theorem Q9I {a:X0} (hne:a≠[]) (hs:X4 w σ) (h: ∀w',Below w.heap.size w w'→K (I (Yc a)) w'):Q0 P F.bq [S a] w K:=Kh (by
 unfold Ma
 have hl:0<a.length:=List.length_pos_iff.2 hne
 have b0:=Qn a 0
 have b1:=Qn a 1
 have b2:=Qn a 2
 have b3:=Qn a 3
 refine Wv (i:=0) hl ?_
 refine Q2r (by omega) ?_
 refine Xy (fun _ w'=>Below w.heap.size w w'∧Yc a=0) ?_ (fun _ d w' hx=>by
  have:=h w' hx.1
  rw[hx.2] at this
  exact this)
 have hK: ∀n w',Below w.heap.size w w'→Yc a=n→K (I n) w':=fun n w' hb e=>by rw[←e];exact h w' hb
 clear h
 have hcm:=Q7D a
 simp only[↓M1,M1,Mb,reduceIte]
 refine Q5 (fun h1=>?_) (fun h1=>?_)
 ·have:X3 a 0<128:=by have:=of_decide_eq_true h1;omega
  exact hK 1 _ (Below.refl _ _) (by rw[hcm,if_pos this])
 have c0: ¬X3 a 0<128:=by have:=of_decide_eq_false h1;omega
 rw[if_neg c0] at hcm
 by_cases c1:X3 a 0<194
 ·have i1:decide ((194:Int)≤X3 a 0)=false:=by rw[decide_eq_false_iff_not];omega
  have n1:decide (194≤X3 a 0)=false:=by rw[decide_eq_false_iff_not];omega
  have i2:decide ((X3 a 0:Int)<224)=true:=by rw[decide_eq_true_eq];omega
  have n2:decide (X3 a 0<224)=true:=by rw[decide_eq_true_eq];omega
  have i3:decide ((224:Int)≤X3 a 0)=false:=by rw[decide_eq_false_iff_not];omega
  have n3:decide (224≤X3 a 0)=false:=by rw[decide_eq_false_iff_not];omega
  have i4:decide ((X3 a 0:Int)<240)=true:=by rw[decide_eq_true_eq];omega
  have n4:decide (X3 a 0<240)=true:=by rw[decide_eq_true_eq];omega
  have i5:decide ((240:Int)≤X3 a 0)=false:=by rw[decide_eq_false_iff_not];omega
  have n5:decide (240≤X3 a 0)=false:=by rw[decide_eq_false_iff_not];omega
  have i6:decide ((X3 a 0:Int)<245)=true:=by rw[decide_eq_true_eq];omega
  have n6:decide (X3 a 0<245)=true:=by rw[decide_eq_true_eq];omega
  simp only[i1,i2,i3,i4,i5,i6,↓M1,M1,Mb,reduceIte]
  exact ⟨Below.refl _ _,by rw[hcm];simp only[n1,n2,n3,n4,n5,n6,Bool.and_true,Bool.true_and,Bool.false_and,Bool.and_false,Bool.false_eq_true,if_true,if_false,reduceIte]⟩
 by_cases c2:X3 a 0<224
 ·have i1:decide ((194:Int)≤X3 a 0)=true:=by rw[decide_eq_true_eq];omega
  have n1:decide (194≤X3 a 0)=true:=by rw[decide_eq_true_eq];omega
  have i2:decide ((X3 a 0:Int)<224)=true:=by rw[decide_eq_true_eq];omega
  have n2:decide (X3 a 0<224)=true:=by rw[decide_eq_true_eq];omega
  have i3:decide ((224:Int)≤X3 a 0)=false:=by rw[decide_eq_false_iff_not];omega
  have n3:decide (224≤X3 a 0)=false:=by rw[decide_eq_false_iff_not];omega
  have i4:decide ((X3 a 0:Int)<240)=true:=by rw[decide_eq_true_eq];omega
  have n4:decide (X3 a 0<240)=true:=by rw[decide_eq_true_eq];omega
  have i5:decide ((240:Int)≤X3 a 0)=false:=by rw[decide_eq_false_iff_not];omega
  have n5:decide (240≤X3 a 0)=false:=by rw[decide_eq_false_iff_not];omega
  have i6:decide ((X3 a 0:Int)<245)=true:=by rw[decide_eq_true_eq];omega
  have n6:decide (X3 a 0<245)=true:=by rw[decide_eq_true_eq];omega
  simp only[i1,i2,i3,i4,i5,i6,↓M1,M1,Mb,reduceIte]
  refine Vn (i:=1) ?_
  cases A1:E5 a.length 1 (X3 a 1) with
  | true=>simp only[↓M1,M1,Mb,reduceIte];exact hK 2 _ (Below.refl _ _) (by rw[hcm];simp only[A1,n1,n2,n3,n4,n5,n6,Bool.and_true,Bool.true_and,Bool.false_and,Bool.and_false,Bool.false_eq_true,if_true,if_false,reduceIte])
  | false=>simp only[↓M1,M1,Mb,reduceIte];exact ⟨Below.refl _ _,by rw[hcm];simp only[A1,n1,n2,n3,n4,n5,n6,Bool.and_true,Bool.true_and,Bool.false_and,Bool.and_false,Bool.false_eq_true,if_true,if_false,reduceIte]⟩
 by_cases c3:X3 a 0<240
 ·have i1:decide ((194:Int)≤X3 a 0)=true:=by rw[decide_eq_true_eq];omega
  have n1:decide (194≤X3 a 0)=true:=by rw[decide_eq_true_eq];omega
  have i2:decide ((X3 a 0:Int)<224)=false:=by rw[decide_eq_false_iff_not];omega
  have n2:decide (X3 a 0<224)=false:=by rw[decide_eq_false_iff_not];omega
  have i3:decide ((224:Int)≤X3 a 0)=true:=by rw[decide_eq_true_eq];omega
  have n3:decide (224≤X3 a 0)=true:=by rw[decide_eq_true_eq];omega
  have i4:decide ((X3 a 0:Int)<240)=true:=by rw[decide_eq_true_eq];omega
  have n4:decide (X3 a 0<240)=true:=by rw[decide_eq_true_eq];omega
  have i5:decide ((240:Int)≤X3 a 0)=false:=by rw[decide_eq_false_iff_not];omega
  have n5:decide (240≤X3 a 0)=false:=by rw[decide_eq_false_iff_not];omega
  have i6:decide ((X3 a 0:Int)<245)=true:=by rw[decide_eq_true_eq];omega
  have n6:decide (X3 a 0<245)=true:=by rw[decide_eq_true_eq];omega
  simp only[i1,i2,i3,i4,i5,i6,↓M1,M1,Mb,reduceIte]
  refine Vn (i:=1) ?_
  cases A1:E5 a.length 1 (X3 a 1) with
  | false=>simp only[↓M1,M1,Mb,reduceIte];exact ⟨Below.refl _ _,by rw[hcm];simp only[A1,n1,n2,n3,n4,n5,n6,Bool.and_true,Bool.true_and,Bool.false_and,Bool.and_false,Bool.false_eq_true,if_true,if_false,reduceIte]⟩
  | true=>
  simp only[↓M1,M1,Mb,reduceIte]
  refine Vn (i:=2) ?_
  cases A2:E5 a.length 2 (X3 a 2) with
  | false=>simp only[↓M1,M1,Mb,reduceIte];exact ⟨Below.refl _ _,by rw[hcm];simp only[A1,A2,n1,n2,n3,n4,n5,n6,Bool.and_true,Bool.true_and,Bool.false_and,Bool.and_false,Bool.false_eq_true,if_true,if_false,reduceIte]⟩
  | true=>
  simp only[↓M1,M1,Mb,reduceIte]
  simp only[A1,A2,n1,n2,n3,n4,n5,n6,Bool.and_true,Bool.true_and,Bool.false_and,Bool.and_false,Bool.false_eq_true,if_true,if_false,reduceIte] at hcm
  have hl1:1<a.length:=by unfold E5 at A1;simp only[Bool.and_eq_true,decide_eq_true_eq] at A1;exact A1.1.1
  have hl2:2<a.length:=by unfold E5 at A2;simp only[Bool.and_eq_true,decide_eq_true_eq] at A2;exact A2.1.1
  have hw:IntKind.i64.wrap (IntKind.i64.wrap (IntKind.i64.wrap ((X3 a 0:Int) % 16*4096)+IntKind.i64.wrap ((X3 a 1:Int) % 64*64))+(X3 a 2:Int) % 64)=((Zf a:Nat):Int):=by
   rw[B1 (n:=(X3 a 0:Int) % 16*4096) (by omega) (by omega),B1 (n:=(X3 a 1:Int) % 64*64) (by omega) (by omega),B1 (n:=_+(X3 a 1:Int) % 64*64) (by omega) (by omega),B1 (by omega) (by omega)]
   unfold Zf;omega
  refine U9 hs ?_
  have hx1: ∀{w':World} {K:Value→World→Prop},K (.int .u8 (X3 a 1)) w'→E2 P T.c (S a) (.int .i64 1) w' K:=fun hK=>Wv (i:=1) hl1 hK
  have hx2: ∀{w':World} {K:Value→World→Prop},K (.int .u8 (X3 a 2)) w'→E2 P T.c (S a) (.int .i64 2) w' K:=fun hK=>Wv (i:=2) hl2 hK
  (repeat (apply J4;(· intros;(repeat (rename_i hx;subst hx));(repeat' (first | (with_reducible exact W8 rfl) | (with_reducible exact Xo (Stp.bel (by (repeat (first | exact Stp.refl (by (first | assumption | exact Stp.sat (by assumption) | exact Hst.sat (by assumption))) | assumption | refine Stp.trans ?_ (by first | assumption | exact Hst.stp (by assumption)))))) rfl) | (with_reducible intro _) | (simp only[↓M2,M2,Mb,reduceIte]) | (with_reducible refine Q7O au ?_) | (with_reducible refine Q2r au ?_) | (with_reducible refine hx1 ?_) | (with_reducible refine hx2 ?_) | (with_reducible show Q2 _ _ _ _ _;first | refine X8 aS aL aR ?_ | refine Z1 aS aL aR ?_ | refine ld aS aL aR ?_) | (with_reducible show indexAddr _ _ _ _ _ _;refine U1 aL au ?_) | (with_reducible show X5 _ _ _ _ _ _ _ _;refine Q9 aL ?_) | (with_reducible show Lq _ _ _ _ _ _;refine V1 aR ?_) | (with_reducible show pick _ _ _ _ _ _;refine Jr ?_) | (apply Wu;intro hh;(try simp only[hh,reduceIte,↓M2,M2,Mb,reduceIte]))));done)))
  (intros;(repeat (rename_i hx;subst hx));(try simp only[↓M2,M2,Mb,reduceIte]))
  rename_i w2 hb2
  simp only[hw]
  have hb:=hb2.stp.bel
  by_cases e1:2048≤Zf a
  ·by_cases e2:Zf a<55296
   ·simp only[(show decide ((2048:Int)≤(Zf a:Int))=true by rw[decide_eq_true_eq];omega),(show decide ((Zf a:Int)<55296)=true by rw[decide_eq_true_eq];omega),↓M1,M1,Mb,reduceIte]
    exact hK 3 _ hb (by rw[hcm,if_pos ⟨e1, .inl e2⟩])
   ·by_cases e3:57343<Zf a
    ·simp only[(show decide ((2048:Int)≤(Zf a:Int))=true by rw[decide_eq_true_eq];omega),(show decide ((Zf a:Int)<55296)=false by rw[decide_eq_false_iff_not];omega),(show decide ((57343:Int)<(Zf a:Int))=true by rw[decide_eq_true_eq];omega),↓M1,M1,Mb,reduceIte]
     exact hK 3 _ hb (by rw[hcm,if_pos ⟨e1, .inr e3⟩])
    ·simp only[(show decide ((2048:Int)≤(Zf a:Int))=true by rw[decide_eq_true_eq];omega),(show decide ((Zf a:Int)<55296)=false by rw[decide_eq_false_iff_not];omega),(show decide ((57343:Int)<(Zf a:Int))=false by rw[decide_eq_false_iff_not];omega),↓M1,M1,Mb,reduceIte]
     exact ⟨hb,by rw[hcm,if_neg (by omega)]⟩
  ·simp only[(show decide ((2048:Int)≤(Zf a:Int))=false by rw[decide_eq_false_iff_not];omega),↓M1,M1,Mb,reduceIte]
   exact ⟨hb,by rw[hcm,if_neg (by omega)]⟩
 by_cases c4:X3 a 0<245
 ·have i1:decide ((194:Int)≤X3 a 0)=true:=by rw[decide_eq_true_eq];omega
  have n1:decide (194≤X3 a 0)=true:=by rw[decide_eq_true_eq];omega
  have i2:decide ((X3 a 0:Int)<224)=false:=by rw[decide_eq_false_iff_not];omega
  have n2:decide (X3 a 0<224)=false:=by rw[decide_eq_false_iff_not];omega
  have i3:decide ((224:Int)≤X3 a 0)=true:=by rw[decide_eq_true_eq];omega
  have n3:decide (224≤X3 a 0)=true:=by rw[decide_eq_true_eq];omega
  have i4:decide ((X3 a 0:Int)<240)=false:=by rw[decide_eq_false_iff_not];omega
  have n4:decide (X3 a 0<240)=false:=by rw[decide_eq_false_iff_not];omega
  have i5:decide ((240:Int)≤X3 a 0)=true:=by rw[decide_eq_true_eq];omega
  have n5:decide (240≤X3 a 0)=true:=by rw[decide_eq_true_eq];omega
  have i6:decide ((X3 a 0:Int)<245)=true:=by rw[decide_eq_true_eq];omega
  have n6:decide (X3 a 0<245)=true:=by rw[decide_eq_true_eq];omega
  simp only[i1,i2,i3,i4,i5,i6,↓M1,M1,Mb,reduceIte]
  refine Vn (i:=1) ?_
  cases A1:E5 a.length 1 (X3 a 1) with
  | false=>simp only[↓M1,M1,Mb,reduceIte];exact ⟨Below.refl _ _,by rw[hcm];simp only[A1,n1,n2,n3,n4,n5,n6,Bool.and_true,Bool.true_and,Bool.false_and,Bool.and_false,Bool.false_eq_true,if_true,if_false,reduceIte]⟩
  | true=>
  simp only[↓M1,M1,Mb,reduceIte]
  refine Vn (i:=2) ?_
  cases A2:E5 a.length 2 (X3 a 2) with
  | false=>simp only[↓M1,M1,Mb,reduceIte];exact ⟨Below.refl _ _,by rw[hcm];simp only[A1,A2,n1,n2,n3,n4,n5,n6,Bool.and_true,Bool.true_and,Bool.false_and,Bool.and_false,Bool.false_eq_true,if_true,if_false,reduceIte]⟩
  | true=>
  simp only[↓M1,M1,Mb,reduceIte]
  refine Vn (i:=3) ?_
  cases A3:E5 a.length 3 (X3 a 3) with
  | false=>simp only[↓M1,M1,Mb,reduceIte];exact ⟨Below.refl _ _,by rw[hcm];simp only[A1,A2,A3,n1,n2,n3,n4,n5,n6,Bool.and_true,Bool.true_and,Bool.false_and,Bool.and_false,Bool.false_eq_true,if_true,if_false,reduceIte]⟩
  | true=>
  simp only[↓M1,M1,Mb,reduceIte]
  simp only[A1,A2,A3,n1,n2,n3,n4,n5,n6,Bool.and_true,Bool.true_and,Bool.false_and,Bool.and_false,Bool.false_eq_true,if_true,if_false,reduceIte] at hcm
  have hl1:1<a.length:=by unfold E5 at A1;simp only[Bool.and_eq_true,decide_eq_true_eq] at A1;exact A1.1.1
  have hl2:2<a.length:=by unfold E5 at A2;simp only[Bool.and_eq_true,decide_eq_true_eq] at A2;exact A2.1.1
  have hl3:3<a.length:=by unfold E5 at A3;simp only[Bool.and_eq_true,decide_eq_true_eq] at A3;exact A3.1.1
  have hw:IntKind.i64.wrap (IntKind.i64.wrap (IntKind.i64.wrap (IntKind.i64.wrap ((X3 a 0:Int) % 8*262144)+IntKind.i64.wrap ((X3 a 1:Int) % 64*4096))+IntKind.i64.wrap ((X3 a 2:Int) % 64*64))+(X3 a 3:Int) % 64)=((Hc a:Nat):Int):=by
   rw[B1 (n:=(X3 a 0:Int) % 8*262144) (by omega) (by omega),B1 (n:=(X3 a 1:Int) % 64*4096) (by omega) (by omega),B1 (n:=(X3 a 2:Int) % 64*64) (by omega) (by omega),B1 (n:=_+(X3 a 1:Int) % 64*4096) (by omega) (by omega),B1 (n:=_+(X3 a 2:Int) % 64*64) (by omega) (by omega),B1 (by omega) (by omega)]
   unfold Hc;omega
  refine U9 hs ?_
  have hx1: ∀{w':World} {K:Value→World→Prop},K (.int .u8 (X3 a 1)) w'→E2 P T.c (S a) (.int .i64 1) w' K:=fun hK=>Wv (i:=1) hl1 hK
  have hx2: ∀{w':World} {K:Value→World→Prop},K (.int .u8 (X3 a 2)) w'→E2 P T.c (S a) (.int .i64 2) w' K:=fun hK=>Wv (i:=2) hl2 hK
  have hx3: ∀{w':World} {K:Value→World→Prop},K (.int .u8 (X3 a 3)) w'→E2 P T.c (S a) (.int .i64 3) w' K:=fun hK=>Wv (i:=3) hl3 hK
  (repeat (apply J4;(· intros;(repeat (rename_i hx;subst hx));(repeat' (first | (with_reducible exact W8 rfl) | (with_reducible exact Xo (Stp.bel (by (repeat (first | exact Stp.refl (by (first | assumption | exact Stp.sat (by assumption) | exact Hst.sat (by assumption))) | assumption | refine Stp.trans ?_ (by first | assumption | exact Hst.stp (by assumption)))))) rfl) | (with_reducible intro _) | (simp only[↓M2,M2,Mb,reduceIte]) | (with_reducible refine Q7O au ?_) | (with_reducible refine Q2r au ?_) | (with_reducible refine hx1 ?_) | (with_reducible refine hx2 ?_) | (with_reducible refine hx3 ?_) | (with_reducible show Q2 _ _ _ _ _;first | refine X8 aS aL aR ?_ | refine Z1 aS aL aR ?_ | refine ld aS aL aR ?_) | (with_reducible show indexAddr _ _ _ _ _ _;refine U1 aL au ?_) | (with_reducible show X5 _ _ _ _ _ _ _ _;refine Q9 aL ?_) | (with_reducible show Lq _ _ _ _ _ _;refine V1 aR ?_) | (with_reducible show pick _ _ _ _ _ _;refine Jr ?_) | (apply Wu;intro hh;(try simp only[hh,reduceIte,↓M2,M2,Mb,reduceIte]))));done)))
  (intros;(repeat (rename_i hx;subst hx));(try simp only[↓M2,M2,Mb,reduceIte]))
  rename_i w2 hb2
  simp only[hw]
  have hb:=hb2.stp.bel
  by_cases e1:65536≤Hc a
  ·by_cases e2:Hc a≤1114111
   ·simp only[(show decide ((65536:Int)≤(Hc a:Int))=true by rw[decide_eq_true_eq];omega),(show decide ((Hc a:Int)≤1114111)=true by rw[decide_eq_true_eq];omega),↓M1,M1,Mb,reduceIte]
    exact hK 4 _ hb (by rw[hcm,if_pos ⟨e1,e2⟩])
   ·simp only[(show decide ((65536:Int)≤(Hc a:Int))=true by rw[decide_eq_true_eq];omega),(show decide ((Hc a:Int)≤1114111)=false by rw[decide_eq_false_iff_not];omega),↓M1,M1,Mb,reduceIte]
    exact ⟨hb,by rw[hcm,if_neg (by omega)]⟩
  ·simp only[(show decide ((65536:Int)≤(Hc a:Int))=false by rw[decide_eq_false_iff_not];omega),↓M1,M1,Mb,reduceIte]
   exact ⟨hb,by rw[hcm,if_neg (by omega)]⟩
 have i1:decide ((194:Int)≤X3 a 0)=true:=by rw[decide_eq_true_eq];omega
 have n1:decide (194≤X3 a 0)=true:=by rw[decide_eq_true_eq];omega
 have i2:decide ((X3 a 0:Int)<224)=false:=by rw[decide_eq_false_iff_not];omega
 have n2:decide (X3 a 0<224)=false:=by rw[decide_eq_false_iff_not];omega
 have i3:decide ((224:Int)≤X3 a 0)=true:=by rw[decide_eq_true_eq];omega
 have n3:decide (224≤X3 a 0)=true:=by rw[decide_eq_true_eq];omega
 have i4:decide ((X3 a 0:Int)<240)=false:=by rw[decide_eq_false_iff_not];omega
 have n4:decide (X3 a 0<240)=false:=by rw[decide_eq_false_iff_not];omega
 have i5:decide ((240:Int)≤X3 a 0)=true:=by rw[decide_eq_true_eq];omega
 have n5:decide (240≤X3 a 0)=true:=by rw[decide_eq_true_eq];omega
 have i6:decide ((X3 a 0:Int)<245)=false:=by rw[decide_eq_false_iff_not];omega
 have n6:decide (X3 a 0<245)=false:=by rw[decide_eq_false_iff_not];omega
 simp only[i1,i2,i3,i4,i5,i6,↓M1,M1,Mb,reduceIte]
 exact ⟨Below.refl _ _,by rw[hcm];simp only[n1,n2,n3,n4,n5,n6,Bool.and_true,Bool.true_and,Bool.false_and,Bool.and_false,Bool.false_eq_true,if_true,if_false,reduceIte]⟩)
theorem Q7L {s:X0} (u:s.length≤Z7) (p:X4 w σ) (h: ∀w',Below w.heap.size w w'→K (.bool (Lib.validD s)) w'):Q0 P F.bg [S s] w K:=Fx (by
 unfold Lr
 refine Fb (fun f x w'=> ∃r,x=S r∧r.length≤f∧r.length≤Z7∧Below w.heap.size w w'∧Lib.validD s=Lib.validGoD f r) s.length ⟨s,rfl,Nat.le_refl _,u,Below.refl _ _,rfl⟩ ?_
 rintro j f x d w1 ⟨r,rfl,t,q,b,i⟩ m
 refine Vs ?_
 by_cases a:r=[]
 ·have e:decide (r=[])=true:=by simpa using a
  simp only[e,↓M1,M1,Mb,reduceIte]
  subst a
  have:Lib.validGoD f []=true:=by cases f<;>simp[Lib.validGoD]
  rw[i,this] at h
  exact h _ b
 ·have e:decide (r=[])=false:=by simpa using a
  simp only[e,↓M1,M1,Mb,reduceIte]
  have o:0<r.length:=List.length_pos_iff.2 a
  obtain ⟨f,rfl⟩: ∃g,f=g+1:=⟨f-1,by omega⟩
  rw[Q7c a] at i
  refine Q9I a (p.below b) fun v k=>?_
  have c:=b.trans (k.mono b.size)
  refine Oy ?_
  by_cases n:Yc r=0
  ·have l:decide ((Yc r:Int)=0)=true:=by rw[decide_eq_true_eq];omega
   simp only[l,↓M1,M1,Mb,reduceIte]
   rw[i,if_pos n] at h
   exact h _ c
  ·have l:decide ((Yc r:Int)=0)=false:=by rw[decide_eq_false_iff_not];omega
   simp only[l,↓M1,M1,Mb,reduceIte]
   obtain ⟨y,z⟩:=Q8s a n
   rw[Wz X7 (by omega) (by omega)]
   rw[if_neg n] at i
   refine m f _ _ (by omega) ⟨r.drop (Yc r),by simp,by rw[List.length_drop];omega,by rw[List.length_drop];omega,c,i⟩)
end Go.Proofs.YtfppjenblllfaaaGreatDoor

namespace Go.Proofs.YtfppjenblllfaaaGreatDoor
open Go.Emb Go.RowKit Go.Kd Go.Hm
variable {w : World} {K : Value → World → Prop} {σ : Q4}
theorem Q4W {σ:Q4}: ∀(xs:List X0),(∀x∈xs,x.length≤Z7)→Ag X9 σ (xs.map S) xs
 | [],_=>trivial
 | x::r,h=>⟨⟨rfl,h x (by simp)⟩,Q4W r fun y a=>h y (by simp[a])⟩
def Zw:List X0:=Yv.map (·.name)
set_option maxRecDepth 100000 in
theorem X0w (d:X4 w σ) (h: ∀v w' a,Stp w σ w' a→Sl 1 X9 a v Zw→K v w'):Q0 P F.bs [] w K:=Pd (by
 unfold Nz
 exact O7 (R:=X9) (sz:=1) d (Zw.map S) Zw rfl rfl (by intro v b;obtain ⟨x,_,rfl⟩:=List.mem_map.1 b;rfl) rfl (Q4W _ (by decide)) fun v w' a c b=>h v w' a c b)
theorem Q6H {a:X0} (t:X4 w σ) (h: ∀w' B,Stp w σ w' B→K (I (W7 (K8 a))) w'):Q0 P F.aU [S a] w K:=Cm (by
 unfold Vf
 refine X0w t fun v w1 σ1 n p=>?_
 have s:K8 a=Zw.findIdx? fun x=>decide (x=a):=by
  unfold K8 Zw
  rw[List.findIdx?_map];rfl
 have q: ∀o,K8 a=o→K (I (W7 o)) w1:=fun o e=>by rw[←e];exact h _ _ n
 rw[s] at q
 have l:Zw.length=42:=rfl
 generalize Zw=f at p q l
 refine J5 f.length (fun k w'=>w'=w1∧ ∀j (i:j<f.length),j<k→ ¬f[j]=a) ⟨rfl,fun j _ h=>by omega⟩ fun k D d E y=>?_
 obtain ⟨C,c⟩:=y
 subst C
 refine Q9 p ?_
 refine Z0 ?_
 refine Q5 (fun r=>?_) (fun r=>?_)
 ·have b:k<f.length:=by simpa using r
  refine U1 p b ?_
  obtain ⟨A,_⟩:=p.elS b
  refine X8 n.sat A rfl ?_
  refine Nk ?_
  refine Q5 (fun g=>?_) (fun g=>?_)
  ·have g:f[k]=a:=by simpa using g
   exact q (some k) (by
    rw[List.findIdx?_eq_some_iff_getElem]
    exact ⟨b,by simpa using g,fun j i=>by simpa using c j (by omega) i⟩)
  ·have g: ¬f[k]=a:=by simpa using g
   (try simp only[↓M1,M1,Mb,reduceIte])
   refine Y3 p.max b ⟨rfl,fun j i u=>?_⟩
   by_cases e:j=k
   ·subst e;exact g
   ·exact c j i (by omega)
 ·have b: ¬k<f.length:=by simpa using r
  exact q none (by
   rw[List.findIdx?_eq_none_iff]
   intro m z
   obtain ⟨j,i,rfl⟩:=List.getElem_of_mem z
   simpa using c j i (by omega)))
theorem X14 {o:Option Nat}:decide (W7 o<0)= !o.isSome:=by
 cases o with
 | none=>rfl
 | some i=>
  have: ¬(i:Int)<0:=by omega
  exact decide_eq_false this
def La (a:X0):Bool:=decide (a=[105,110,116])||decide (a=[108,111,97,100])||decide (a=[115,116,111,114,101])||decide (a=[106,117,109,112])||decide (a=[98,114,97,110,99,104])
def Uh (a:X0):Bool:=decide (a=[119,111,114,100])||decide (a=[110,101,119])||decide (a=[103,101,116])||decide (a=[112,117,116])||decide (a=[99,97,108,108])||decide (a=[97,114,114,97,121])||decide (a=[105,115])||decide (a=[99,97,115,116])
theorem Q9A (a:X0):takes a=(La a,Uh a,(K8 a).isSome):=by
 unfold takes
 cases h:K8 a with
 | none=>
  have c:=List.findIdx?_eq_none_iff.1 h
  have d: ∀x∈Zw,¬x=a:=by
   intro x f
   obtain ⟨o,p,rfl⟩:=List.mem_map.1 f
   have:=c o p
   simpa using this
  have b: ∀x∈Zw,decide (a=x)=false:=fun x f=>by rw[decide_eq_false_iff_not];exact fun e=>d x f e.symm
  have j:La a=false:=by
   unfold La
   rw[b _ (by decide),b _ (by decide),b _ (by decide),b _ (by decide),b _ (by decide)];rfl
  have l:Uh a=false:=by
   unfold Uh
   rw[b _ (by decide),b _ (by decide),b _ (by decide),b _ (by decide),b _ (by decide),b _ (by decide),b _ (by decide),b _ (by decide)];rfl
  simp[j,l]
 | some i=>
  obtain ⟨g,q,_⟩:=List.findIdx?_eq_some_iff_getElem.1 h
  have n:Yv[i].name=a:=by simpa using q
  have r:Yv.getD i ⟨[],false,false⟩=Yv[i]:=by rw[List.getD_eq_getElem?_getD,List.getElem?_eq_getElem g];rfl
  have c: ∀o∈Yv,o.number=La o.name∧o.text=Uh o.name:=by decide
  obtain ⟨k,m⟩:=c _ (List.getElem_mem g)
  simp only[r,Option.isSome_some]
  rw[k,m,n]
def Ns (a:X0):Int:=if La a then 1 else if Uh a then 2 else if (K8 a).isSome then 0 else-1
theorem Q8m {a:X0} (g:X4 w σ) (h: ∀w' l,Stp w σ w' l→K (I (Ns a)) w'):Q0 P F.b2 [S a] w K:=Bw (by
 unfold Wa
 refine Xy (fun x w'=>w'=w∧x= .bool (La a)) ?_ (fun x d w' c=>?_)
 ·unfold La
  simp only[↓M1,M1,Mb,reduceIte]
  repeat' (refine Q5 (fun hh=>?_) (fun hh=>?_))
  all_goals (refine ⟨by trivial,?_⟩;congr 1;simp_all)
 ·obtain ⟨rfl,rfl⟩:=c
  cases f:La a with
  | true=>
   (try simp only[↓M1,M1,Mb,reduceIte])
   have:=h _ _ (Stp.refl g)
   unfold Ns at this
   simpa [f] using this
  | false=>
   (try simp only[↓M1,M1,Mb,reduceIte])
   refine Xy (fun x b=>b=w'∧x= .bool (Uh a)) ?_ (fun x d b c=>?_)
   ·unfold Uh
    simp only[↓M1,M1,Mb,reduceIte]
    repeat' (refine Q5 (fun hh=>?_) (fun hh=>?_))
    all_goals (refine ⟨by trivial,?_⟩;congr 1;simp_all)
   ·obtain ⟨rfl,rfl⟩:=c
    cases j:Uh a with
    | true=>
     (try simp only[↓M1,M1,Mb,reduceIte])
     have:=h _ _ (Stp.refl g)
     unfold Ns at this
     simpa [f,j] using this
    | false=>
     (try simp only[↓M1,M1,Mb,reduceIte])
     refine Q6H g fun w1 σ1 e=>?_
     have:=h _ _ e
     unfold Ns at this
     simp only[f,j,Bool.false_eq_true,if_false] at this
     simp only[X14,↓M1,M1,Mb,reduceIte]
     cases k:K8 a with
     | none=>rw[k] at this;simp only[Option.isSome_none,↓M1,M1,Mb,reduceIte];simpa using this
     | some i=>rw[k] at this;simp only[Option.isSome_some,↓M1,M1,Mb,reduceIte];simpa using this)
theorem Q4z (a:X0):decide (Ns a<0)= !(takes a).2.2∧decide (Ns a=1)=(takes a).1∧decide (Ns a=2)=(takes a).2.1:=by
 rw[Q9A]
 have g:La a=true→Uh a=false∧(K8 a).isSome=true:=by
  intro h
  unfold La at h
  simp only[Bool.or_eq_true,decide_eq_true_eq] at h
  rcases h with (((h | h) | h) | h) | h<;>(subst h;decide)
 have f:Uh a=true→(K8 a).isSome=true:=by
  intro h
  unfold Uh at h
  simp only[Bool.or_eq_true,decide_eq_true_eq] at h
  rcases h with ((((((h | h) | h) | h) | h) | h) | h) | h<;>(subst h;decide)
 unfold Ns
 cases d:La a with
 | true=>obtain ⟨e,b⟩:=g d;rw[e,b];decide
 | false=>
  cases c:Uh a with
  | true=>rw[f c];decide
  | false=>cases (K8 a).isSome<;>decide
theorem X2E (s:X0) (c:UInt8):decide (0≤Lib.indexByte s c)=s.any fun b=>decide (b=c):=by
 induction s with
 | nil=>rfl
 | cons b r g=>
  simp only[Lib.indexByte,List.any_cons,←g]
  by_cases e:b=c
  ·simp[e]
  ·have a:(b==c)=false:=by simpa using e
   have f:=Lib.indexByte_ge r c
   simp only[a,e,decide_false,Bool.false_or,Bool.false_eq_true,if_false]
   by_cases d:Lib.indexByte r c= -1
   ·simp[d]
   ·have:(Lib.indexByte r c== -1)=false:=by simpa using d
    simp only[this,Bool.false_eq_true,if_false]
    rw[Bool.eq_iff_iff,decide_eq_true_eq,decide_eq_true_eq];omega
def JB (w:World) (σ:Q4) (b:Bool) (x:Value) (w':World):Prop:= ∃a,Stp w σ w' a∧x= .bool b
theorem JB.mk {w w':World} {σ a:Q4} {b:Bool} (h:Stp w σ w' a):JB w σ b (.bool b) w':=⟨a,h,rfl⟩
theorem JB.of {w w':World} {σ a:Q4} {b c:Bool} (h:Stp w σ w' a) (e:c=b):JB w σ b (.bool c) w':=⟨a,h,by rw[e]⟩
theorem X1C {s:X0} {n:Nat} (h:n<s.length):decide ((X3 s n:Int)=10)=decide (s[n]=10):=by
 unfold X3
 rw[List.getD_eq_getElem?_getD,List.getElem?_eq_getElem h,Bool.eq_iff_iff,decide_eq_true_eq,decide_eq_true_eq]
 simp only[Option.getD_some]
 rw[←UInt8.toNat_inj]
 constructor
 ·intro e;have:s[n].toNat=10:=by omega
  rw[this];rfl
 ·intro e;rw[e];rfl
theorem Zu {α:Type} {xs:List α} {p:α→Bool} {n:Nat} (h:n<xs.length):(xs.take (n+1)).all p=((xs.take n).all p&&p xs[n]):=by
 rw[List.take_add_one,List.getElem?_eq_getElem h,List.all_append];simp
set_option maxHeartbeats 2000000 in
theorem Q7e {i:Ins} {cs:List Value} (hs:X4 w σ) (hi:G3 σ i cs) (h: ∀w' m,Stp w σ w' m→K (I (N1 i)) w'):Q0 P F.bf [.agg cs.toArray] w K:=Fs (by
 obtain ⟨rfl,h1,h2,h3⟩:=hi
 unfold Wm
 refine Y8 hs fun q w1 σ1 W hq=>?_
 have X:=W.sat
 (try simp only[↓M1,M1,Mb,reduceIte])
 refine ld X hq rfl ?_
 refine Q8m X fun Y σ2 Q=>?_
 obtain ⟨t1,O,E⟩:=Q4z i.op
 have f:=W.trans Q
 have g:=hq.up Q
 have e:=f.sat
 have r:i.s.length≤140737488355328:=by simp only[Z7] at h3;omega
 simp only[t1,↓M1,M1,Mb,reduceIte]
 unfold N1 at h
 cases e1:(takes i.op).2.2 with
 | false=>
  simp only[e1,Bool.not_false,if_true] at h
  (try simp only[↓M1,M1,Mb,reduceIte])
  exact h _ _ f
 | true=>
 simp only[e1,Bool.not_true,Bool.false_eq_true,if_false] at h
 simp only[O,E,↓M1,M1,Mb,reduceIte]
 have k: ∀(b:Bool) (w':World) (m:Q4),Stp w σ w' m→b=(!((!(takes i.op).1&&decide (i.n≠0))||(!(takes i.op).2.1&&decide (i.s≠[]))||((takes i.op).2.1&& !txt i.op i.s)))→
  X1 (.bool (!b)) (K (.int .i64 41) w') (K (.int .i64 0) w'):=by
  intro b w' m u D
  subst D
  rw[Bool.not_not]
  cases D:((!(takes i.op).1&&decide (i.n≠0))||(!(takes i.op).2.1&&decide (i.s≠[]))||((takes i.op).2.1&& !txt i.op i.s)) with
  | true=>simp only[D,if_true] at h;(try simp only[↓M1,M1,Mb,reduceIte]);exact h _ _ u
  | false=>simp only[D,Bool.false_eq_true,if_false] at h;(try simp only[↓M1,M1,Mb,reduceIte]);exact h _ _ u
 clear h
 have ac:(takes i.op).2.1=true→(takes i.op).1=false:=by
  intro U
  rw[←O,decide_eq_false_iff_not]
  rw[←E,decide_eq_true_eq] at U
  omega
 cases A:(takes i.op).2.1 with
 | false=>
  rw[A] at k E
  cases v:(takes i.op).1 with
  | true=>
   rw[v] at k O
   (try simp only[↓M1,M1,Mb,reduceIte])
   simp only[E,↓M1,M1,Mb,reduceIte]
   refine ld e g rfl ?_
   (try simp only[↓M1,M1,Mb,reduceIte])
   refine V5 ?_
   intro d
   simp only[↓M1,M1,Mb,reduceIte]
   exact k _ _ _ f (by simp)
  | false=>
   rw[v] at k O
   (try simp only[↓M1,M1,Mb,reduceIte])
   refine ld e g rfl ?_
   (try simp only[↓M1,M1,Mb,reduceIte])
   by_cases M:i.n=0
   ·have d0:decide (i.n=0)=true:=by simpa using M
    simp only[d0,E,↓M1,M1,Mb,reduceIte]
    refine ld e g rfl ?_
    (try simp only[↓M1,M1,Mb,reduceIte])
    refine V5 ?_
    intro d
    simp only[↓M1,M1,Mb,reduceIte]
    exact k _ _ _ f (by simp[M])
   ·have d0:decide (i.n=0)=false:=by simpa using M
    simp only[d0,↓M1,M1,Mb,reduceIte]
    refine V5 ?_
    intro d
    have H:=k false _ _ f (by simp[M])
    (try simp only[↓M1,M1,Mb,reduceIte] at H⊢)
    exact H
 | true=>
  have v:=ac A
  rw[A,v] at k
  rw[A] at E
  rw[v] at O⊢
  (try simp only[↓M1,M1,Mb,reduceIte])
  refine ld e g rfl ?_
  (try simp only[↓M1,M1,Mb,reduceIte])
  have o: ∀(b c:Bool) (w':World) (m:Q4),decide (i.n=0)=b→Stp w σ w' m→c=(b&&txt i.op i.s)→X1 (.bool (!c)) (K (.int .i64 41) w') (K (.int .i64 0) w'):=by
   intro b c w' m D u p
   refine k c w' m u ?_
   rw[p,←D]
   by_cases M:i.n=0<;>simp[M]
  clear k
  cases D:decide (i.n=0) with
  | false=>
   have y:=fun w' m u=>o false false w' m D u rfl
   clear o
   simp only[E,↓M1,M1,Mb,reduceIte]
   refine Xy (JB w σ false) ?_ (fun x d w' U=>?_)
   ·refine ld e g rfl ?_
    (try simp only[↓M1,M1,Mb,reduceIte])
    refine Q5 (fun hh=>?_) (fun hh=>?_)
    ·refine O9 (a:=Value.bool false) i.s.length (fun n x w'=>w'=Y∧x=Value.bool false) ⟨rfl,rfl⟩ fun n x w3 d hn l=>?_
     obtain ⟨C,rfl⟩:=l
     subst C
     (try simp only[↓M1,M1,Mb,reduceIte])
     refine ld e g rfl ?_
     (try simp only[↓M1,M1,Mb,reduceIte])
     refine Q5 (fun p=>?_) (fun p=>?_)
     ·have j:n<i.s.length:=by simpa using p
      (try simp only[↓M1,M1,Mb,reduceIte])
      exact Z6 (by omega) j ⟨rfl,rfl⟩
     ·exact .mk f
    refine Q5 (fun hh=>?_) (fun hh=>?_)
    ·exact .mk f
    refine Xy (fun x w'=>w'=Y∧ ∃b:Bool,x=Value.bool b) ?_ (fun z d w' hz=>?_)
    ·refine Q5 (fun hh=>?_) (fun hh=>?_)
     ·exact ⟨rfl,_,rfl⟩
     ·exact ⟨rfl,_,rfl⟩
    obtain ⟨C,b,rfl⟩:=hz
    subst C
    refine Q5 (fun hh=>?_) (fun hh=>?_)
    ·exact .mk f
    refine Q5 (fun hh=>?_) (fun hh=>?_)
    ·exact .mk f
    refine ld e g rfl ?_
    refine Q2P i.s r fun w4 t=>?_
    by_cases N:(T0 i.s).2.2=true
    ·simp only[N,if_true,↓M1,M1,Mb,reduceIte]
     exact .mk (f.trans (Stp.of_below e t))
    ·simp only[N,if_false,↓M1,M1,Mb,reduceIte]
     exact .mk (f.trans (Stp.of_below e t))
   ·obtain ⟨m,u,rfl⟩:=U
    have H:=y w' m u
    (try simp only[↓M1,M1,Mb,reduceIte] at H⊢)
    exact H
  | true=>
   have y:=fun c w' m u p=>o true c w' m D u p
   clear o
   simp only[E,↓M1,M1,Mb,reduceIte]
   refine Xy (JB w σ (txt i.op i.s)) ?_ (fun x d w' U=>?_)
   ·refine ld e g rfl ?_
    (try simp only[↓M1,M1,Mb,reduceIte])
    unfold txt
    by_cases o1:i.op=[119,111,114,100]
    ·simp only[if_pos o1,decide_eq_true o1,↓M1,M1,Mb,reduceIte]
     refine ld e g rfl ?_
     (try simp only[↓M1,M1,Mb,reduceIte])
     have ag:decide ((i.s.length:Int)≤64)=decide (i.s.length≤64):=by rw[Bool.eq_iff_iff,decide_eq_true_eq,decide_eq_true_eq];omega
     rw[ag,X2E,List.not_any_eq_all_not]
     cases ao:decide (i.s.length≤64) with
     | false=>
      (try simp only[↓M1,M1,Mb,reduceIte])
      refine O9 (a:=Value.bool false) i.s.length (fun n x w'=>w'=Y∧x=Value.bool false) ⟨rfl,rfl⟩ fun n x w3 d hn l=>?_
      obtain ⟨C,rfl⟩:=l
      subst C
      (try simp only[↓M1,M1,Mb,reduceIte])
      refine ld e g rfl ?_
      (try simp only[↓M1,M1,Mb,reduceIte])
      refine Q5 (fun p=>?_) (fun p=>?_)
      ·have j:n<i.s.length:=by simpa using p
       (try simp only[↓M1,M1,Mb,reduceIte])
       exact Z6 (by omega) j ⟨rfl,rfl⟩
      ·exact .of f (by simp)
     | true=>
      (try simp only[↓M1,M1,Mb,reduceIte])
      refine ld e g rfl ?_
      refine Q7L h3 e fun w4 t=>?_
      have L:=Stp.of_below e t
      have R:=g.up L
      have V:=L.sat
      have B:=f.trans L
      (try simp only[↓M1,M1,Mb,reduceIte])
      refine O9 (a:=Value.bool (Lib.validD i.s)) i.s.length (fun n x w'=>w'=w4∧x=Value.bool (Lib.validD i.s&&(i.s.take n).all fun c=> !decide (c=10))) ⟨rfl,by simp⟩ fun n x w3 d hn l=>?_
      obtain ⟨C,rfl⟩:=l
      subst C
      (try simp only[↓M1,M1,Mb,reduceIte])
      refine ld V R rfl ?_
      (try simp only[↓M1,M1,Mb,reduceIte])
      refine Q5 (fun p=>?_) (fun p=>?_)
      ·have j:n<i.s.length:=by simpa using p
       have J:(Lib.validD i.s&&(i.s.take (n+1)).all fun c=> !decide (c=10))=((Lib.validD i.s&&(i.s.take n).all fun c=> !decide (c=10))&& !decide (i.s[n]=10)):=by rw[Zu j,Bool.and_assoc]
       generalize ai:(Lib.validD i.s&&(i.s.take n).all fun c=> !decide (c=10))=ae at J⊢
       cases ae with
       | false=>(try simp only[↓M1,M1,Mb,reduceIte]);exact Z6 (by omega) j ⟨rfl,by rw[J];rfl⟩
       | true=>
        (try simp only[↓M1,M1,Mb,reduceIte])
        refine ld V R rfl ?_
        refine Wv j ?_
        simp only[X1C j,↓M1,M1,Mb,reduceIte]
        exact Z6 (by omega) j ⟨rfl,by rw[J];rfl⟩
      ·have j: ¬n<i.s.length:=by simpa using p
       rw[List.take_of_length_le (by omega)]
       exact .of B (by simp)
    ·simp only[if_neg o1,decide_eq_false o1,↓M1,M1,Mb,reduceIte]
     by_cases o2:i.op=[110,101,119]
     ·simp only[if_pos o2,decide_eq_true o2,↓M1,M1,Mb,reduceIte]
      refine ld e g rfl ?_
      refine Qm i.s r ?_
      (try simp only[↓M1,M1,Mb,reduceIte])
      exact .mk f
     ·simp only[if_neg o2,decide_eq_false o2,↓M1,M1,Mb,reduceIte]
      refine Xy (fun x w'=>w'=Y∧x=Value.bool (decide (i.op=[105,115]∨i.op=[99,97,115,116]))) ?_ (fun z d w' hz=>?_)
      ·refine Q5 (fun hh=>?_) (fun hh=>?_)
       ·exact ⟨rfl,by simp_all⟩
       ·exact ⟨rfl,by simp_all⟩
      obtain ⟨C,rfl⟩:=hz
      subst C
      by_cases o3:i.op=[105,115]∨i.op=[99,97,115,116]
      ·simp only[if_pos o3,decide_eq_true o3,↓M1,M1,Mb,reduceIte]
       refine ld e g rfl ?_
       refine Ve i.s r ?_
       cases hr:right i.s with
       | false=>(try simp only[↓M1,M1,Mb,reduceIte]);exact .mk f
       | true=>
        (try simp only[↓M1,M1,Mb,reduceIte])
        refine ld e g rfl ?_
        refine Pl i.s ?_
        (try simp only[↓M1,M1,Mb,reduceIte])
        exact .mk f
      ·simp only[if_neg o3,decide_eq_false o3,↓M1,M1,Mb,reduceIte]
       by_cases Z:i.op=[97,114,114,97,121]
       ·simp only[if_pos Z,decide_eq_true Z,↓M1,M1,Mb,reduceIte]
        refine ld e g rfl ?_
        refine Ve i.s r ?_
        cases hr:right i.s with
        | false=>(try simp only[↓M1,M1,Mb,reduceIte]);exact .mk f
        | true=>
         (try simp only[↓M1,M1,Mb,reduceIte])
         refine ld e g rfl ?_
         refine Q0W i.s r ?_
         (try simp only[↓M1,M1,Mb,reduceIte])
         have e3:decide (((base i.s).2:Int)<3)=decide (Q1f i.s<3):=by
          unfold Q1f;rw[if_pos hr,Bool.eq_iff_iff,decide_eq_true_eq,decide_eq_true_eq];omega
         rw[e3]
         exact .mk f
       ·simp only[if_neg Z,decide_eq_false Z,↓M1,M1,Mb,reduceIte]
        refine ld e g rfl ?_
        refine Q2P i.s r fun w4 t=>?_
        have B:=f.trans (Stp.of_below e t)
        by_cases N:(T0 i.s).2.2=true
        ·simp only[N,if_true,↓M1,M1,Mb,reduceIte]
         exact .mk B
        ·have:Xq i.s=false:=by unfold Xq;rw[eq_false_of_ne_true N];rfl
         simp only[N,if_false,↓M1,M1,Mb,reduceIte]
         exact .of B this.symm
   ·obtain ⟨m,u,rfl⟩:=U
    have H:=y _ w' m u rfl
    simp only[Bool.true_and] at H
    (try simp only[↓M1,M1,Mb,reduceIte])
    exact H)
end Go.Proofs.YtfppjenblllfaaaGreatDoor

namespace Go.Emb
theorem Q2A {w:World} {K:Value→World→Prop} {v:Value} (h:K v w):Q1 (.bool true) true w (fun w J=>J v w) K:=by rw[G7];exact h
theorem X0P {w:World} {K:Value→World→Prop} {v:Value} (h:K v w):Q1 (.bool false) false w (fun w J=>J v w) K:=by rw[Vg];exact h
theorem X1y {w:World} {K:Value→World→Prop} {b:Bool} {run:World→(Value→World→Prop)→Prop} (h:K undef w):Q1 undef b w run K:=by rw[Py];exact h
class Hd (p : Prop) (q : outParam Prop) : Prop where
  h : q → p
section
variable {P : Program} {w : World} {K : Value → World → Prop} {run : World → (Value → World → Prop) → Prop} {v u : Value} {b : Bool}
instance:Hd (J7 P .not (.bool b) w K) (K (.bool (!b)) w):=⟨Ro⟩
instance:Hd (Q1 undef b w run K) (K undef w):=⟨X1y⟩
instance {t:TypeId} {k off:Nat} {ft:TypeId} {sz by_:Nat} {z:Value} {a:Addr} [tf:TF P t k off ft] [tz:TZ P ft sz by_ z] [nz:NZ sz]:Hd (fieldAddr P t (.pointer (some a)) k w K) (K (.pointer (some (a.add off))) w):=⟨O8⟩
instance:Hd (pick P (.bool false) v u w K) (K u w):=⟨X19⟩
instance:Hd (pick P (.bool true) v u w K) (K v w):=⟨X0z⟩
instance:Hd (Q1 (.bool false) false w run K) (run w K):=⟨X1s⟩
instance:Hd (Q1 (.bool true) true w run K) (run w K):=⟨Cd⟩
instance:Hd (Q1 (.bool false) true w run K) (K undef w):=⟨X0s⟩
instance:Hd (Q1 (.bool true) false w run K) (K undef w):=⟨X1b⟩
instance:Hd (Q1 (.bool false) false w (fun w J=>J v w) K) (K v w):=⟨X0P⟩
instance:Hd (Q1 (.bool true) true w (fun w J=>J v w) K) (K v w):=⟨Q2A⟩
end
end Go.Emb
namespace Go.Proofs.YtfppjenblllfaaaGreatDoor
open Go.Emb Go.RowKit Go.Kd Go.Hm
variable {w : World} {K : Value → World → Prop} {σ : Q4}
theorem X1e {xs:List Ins} {v:Value} (p:X4 w σ) (o:Sl 3 G3 σ v xs) (h: ∀e w' m,Stp w σ w' m→decide (e=0)=xs.all (fun i=>decide (N1 i=0))→K (I e) w'):Q0 P F.aN [v] w K:=Am (by
 unfold Nt
 refine J5 xs.length (fun n w'=> ∃m,Stp w σ w' m∧(xs.take n).all (fun i=>decide (N1 i=0))=true) ⟨σ,Stp.refl p,rfl⟩ fun n w1 d z k=>?_
 obtain ⟨σ1,a,f⟩:=k
 have g:=o.up a
 refine Q9 g ?_
 refine Z0 ?_
 refine Q5 (fun l=>?_) (fun l=>?_)
 ·have c:n<xs.length:=by simpa using l
  refine U1 g c ?_
  obtain ⟨r,t⟩:=g.elI c
  refine Z1 a.sat r rfl ?_
  refine Q7e a.sat t fun y s j=>?_
  refine Xd ?_
  by_cases e:N1 xs[n]=0
  ·have:decide (N1 xs[n]=0)=true:=by simpa using e
   simp only[this,↓M1,M1,Mb,reduceIte]
   exact Y3 o.max c ⟨s,a.trans j,by rw[Zu c,f];simpa using e⟩
  ·have:decide (N1 xs[n]=0)=false:=by simpa using e
   simp only[this,↓M1,M1,Mb,reduceIte]
   refine h _ _ _ (a.trans j) ?_
   rw[this]
   symm
   rw[←Bool.not_eq_true,List.all_eq_true]
   intro q
   have:=q _ (List.getElem_mem c)
   simp at this
   exact e this
 ·have c: ¬n<xs.length:=by simpa using l
  rw[List.take_of_length_le (by omega)] at f
  exact h 0 _ _ a (by rw[f];rfl))
theorem Q9C {c:Cla} {cs:List Value} (hs:X4 w σ) (hc:U6 σ c cs) (h: ∀w' σ',Stp w σ w' σ'→K (.bool (Xw c)) w'):Q0 P F.bl [.agg cs.toArray] w K:=Kg (by
 unfold Mu
 obtain ⟨lv,fv,mv,rfl,f1,f2,f3,f4,f5⟩:=hc
 refine Y8 hs fun q w1 σ1 hk1 hq=>?_
 have f1:=f1.up hk1
 have f2:=f2.up hk1
 have f3:=f3.up hk1
 refine J5 c.methods.length (fun n w'=> ∃σ',Stp w1 σ1 w' σ'∧(c.methods.take n).any Ui=false) ⟨σ1,Stp.refl hk1.sat,rfl⟩ fun n w2 d hn hinv=>?_
 obtain ⟨σ2,hk2,hno⟩:=hinv
 have hq2:=hq.up hk2
 have f32:=f3.up hk2
 have f12:=f1.up hk2
 have f22:=f2.up hk2
 have hs2:=hk2.sat
 (try simp only[↓M1,M1,Mb,reduceIte])
 refine ld hs2 hq2 rfl ?_
 refine Q9 f32 ?_
 refine Z0 ?_
 refine Q5 (fun hc=>?_) (fun hc=>?_)
 ·have hn':n<c.methods.length:=by simpa using hc
  (try simp only[↓M1,M1,Mb,reduceIte])
  refine ld hs2 hq2 rfl ?_
  refine U1 f32 hn' ?_
  obtain ⟨pv,cv,hv,p1,r1⟩:=f32.elM hn'
  refine Z1 hs2 p1 rfl ?_
  refine Y6 hs2 (by rfl) rfl (Rep.one r1) fun q3 w3 σ3 hk3 hq3=>?_
  obtain ⟨g1,g2,g3,_,_,_⟩:=(RMe_lift r1 ⟨hk3.le⟩).parts
  have hS3:=hk1.trans (hk2.trans hk3)
  have hyes:Ui c.methods[n]=true→K (.bool true) w3:=fun e=>by
   have:=h _ _ hS3
   have hm:Xw c=true:=by unfold Xw;rw[C1 hn' e];rfl
   rwa [hm] at this
  have hk23:=hk2.trans hk3
  clear h hk2 hk3 hS3
  have hmax:=f3.max
  (repeat' (first | (with_reducible intro _) | (with_reducible refine V5 ?_) | (simp only[↓M2,M2,Mb,reduceIte]) | (with_reducible first | refine ld aS aL aR ?_ | refine X8 aS aL aR ?_ | refine Z1 aS aL aR ?_ | refine Q9 aL ?_ | refine V1 aR ?_ | refine Y8 aS ?_ | refine L3 aS aL ?_ | refine J6 aS aR ?_ | refine Y6 aS aR aR (Rep.one (by assumption)) ?_ | refine U2 aS aR aR aR ?_ | (refine Z4 (fun hh=>?_) (fun hh=>?_)<;>(try simp only[hh,Bool.not_true,Bool.not_false,↓M2,M2,Mb,reduceIte])) | (refine Q5 (fun hh=>?_) (fun hh=>?_)<;>(try simp only[hh,Bool.not_true,Bool.not_false,↓M2,M2,Mb,reduceIte])))))
  all_goals clear hq hq2 f1 f2 f3 f32 f12 f22 hs hs2 p1 r1 g1 g2 g3 hk1 f4 f5 hq3
  all_goals first
   | (refine hyes ?_;clear hyes hk23;unfold Ui;simp only[Bool.not_false,Bool.not_true,Bool.or_eq_true,decide_eq_true_eq,decide_eq_false_iff_not] at*;omega)
   | (
    have hnx:(c.methods.take (n+1)).any Ui=false:=by
     rw[M3 hn',hno,Bool.false_or];clear hyes hk23;unfold Ui;simp only[Bool.or_eq_false_iff,decide_eq_false_iff_not] at*;omega
    exact Y3 hmax hn' ⟨_,hk23,hnx⟩)
 ·have hn': ¬n<c.methods.length:=by simpa using hc
  rw[D0 hn'] at hno
  have hS2:=hk1.trans hk2
  have hm:Xw c=(decide (32<c.like.length)||decide (32<c.fields.length)||decide (32<c.methods.length)):=by unfold Xw;rw[hno];simp
  rw[hm] at h
  have hK:=h _ _ hS2
  clear h hk2
  (try simp only[↓M1,M1,Mb,reduceIte])
  refine ld hs2 hq2 rfl ?_
  refine Q9 f12 ?_
  have d32: ∀k:Nat,decide ((32:Int)<(k:Int))=decide (32<k):=fun k=>by rw[Bool.eq_iff_iff,decide_eq_true_eq,decide_eq_true_eq];omega
  simp only[d32,↓M1,M1,Mb,reduceIte]
  cases e1:decide (32<c.like.length) with
  | true=>rw[e1] at hK;(try simp only[↓M1,M1,Mb,reduceIte]);simpa using hK
  | false=>
   rw[e1] at hK
   (try simp only[↓M1,M1,Mb,reduceIte])
   refine ld hs2 hq2 rfl ?_
   refine Q9 f22 ?_
   simp only[d32,↓M1,M1,Mb,reduceIte]
   cases e2:decide (32<c.fields.length) with
   | true=>rw[e2] at hK;(try simp only[↓M1,M1,Mb,reduceIte]);simpa using hK
   | false=>
    rw[e2] at hK
    (try simp only[↓M1,M1,Mb,reduceIte])
    refine ld hs2 hq2 rfl ?_
    refine Q9 f32 ?_
    simp only[d32,↓M1,M1,Mb,reduceIte]
    simpa using hK)
theorem Q6f {α:Type} {xs:List α} {p:α→Bool} {n:Nat} (h: ¬n<xs.length):(xs.take n).all p=xs.all p:=by rw[List.take_of_length_le (by omega)]
set_option maxHeartbeats 4000000 in
theorem Ps {m:Hm.Met} {pv cv hv:Value} {w1:World} {σ1:Q4} {q:Addr} {p:Bool} (hs:X4 w σ) (af:Stp w σ w1 σ1) (hq:Z3 σ1 q [S m.name,pv,S m.result, .bool m.abs,I m.locals,cv,hv]) (g1:Sl 1 X9 σ1 pv m.params) (g2:Sl 3 G3 σ1 cv m.code) (g3:Sl 4 Xf σ1 hv m.catches)
 (h: ∀w' M,Stp w σ w' M→K (.bool ((p&&m.params.all right)&&if m.abs then decide (m.locals=0)&&decide (m.code=[])&&decide (m.catches=[])
  else decide (m.code≠[])&&decide ((m.params.length:Int)<m.locals)&&m.code.all (fun i=>decide (N1 i=0))&&m.catches.all (C4 m.code.length))) w'):
 lp (α:=Value×Value) (Value.bool p,(.int .i64 0)) w1 fun X C d_ w=>
  fieldAddr P T.b (.pointer (some q)) 1 w fun ck w=>
  Q2 P T.d ck w fun dd w=>
  X5 P .len [T.d] T.e [false] [dd] w fun c3 w=>
  Q3 P .lss T.e (.tmp 21) (.tmp 24) C.2 c3 w fun bv w=>
  X1 bv (
   Q1 C.1 true w (fieldAddr P T.b (.pointer (some q)) 1) fun cg w=>
   Q1 C.1 true w (Q2 P T.d cg) fun cl w=>
   Q1 C.1 true w (fun w J=>J C.2 w) fun bo w=>
   Q1 C.1 true w (indexAddr P T.d cl bo) fun bx w=>
   Q1 C.1 true w (Q2 P T.c bx) fun c5 w=>
   Q1 C.1 true w (Q0 P F.i [c5]) fun b2 w=>
   pick P C.1 b2 (.bool false) w fun bm w=>
   Q3 P .add T.e (.tmp 26) (.const (.int .i64 1)) C.2 (.int .i64 1) w fun b8 w=>
   X (bm,b8) w) (
   fieldAddr P T.b (.pointer (some q)) 3 w fun da w=>
   Q2 P T.p da w fun bn w=>
   X1 bn (
    Q1 C.1 true w (fieldAddr P T.b (.pointer (some q)) 4) fun b3 w=>
    Q1 C.1 true w (Q2 P T.e b3) fun bk w=>
    Q1 C.1 true w (Q3 P .eql T.e (.tmp 42) (.const (.int .i64 0)) bk (.int .i64 0)) fun cu w=>
    pick P C.1 cu (.bool false) w fun U w=>
    Q1 U true w (fieldAddr P T.b (.pointer (some q)) 5) fun ce w=>
    Q1 U true w (Q2 P T.l ce) fun db w=>
    Q1 U true w (X5 P .len [T.l] T.e [false] [db]) fun cf w=>
    Q1 U true w (Q3 P .eql T.e (.tmp 48) (.const (.int .i64 0)) cf (.int .i64 0)) fun cy w=>
    pick P U cy (.bool false) w fun N w=>
    Q1 N true w (fieldAddr P T.b (.pointer (some q)) 6) fun cr w=>
    Q1 N true w (Q2 P T.o cr) fun cb w=>
    Q1 N true w (X5 P .len [T.o] T.e [false] [cb]) fun cn w=>
    Q1 N true w (Q3 P .eql T.e (.tmp 54) (.const (.int .i64 0)) cn (.int .i64 0)) fun br w=>
    pick P N br (.bool false) w fun dc w=>
    K dc w) (
    fieldAddr P T.b (.pointer (some q)) 5 w fun co w=>
    Q2 P T.l co w fun bw w=>
    X5 P .len [T.l] T.e [false] [bw] w fun ah w=>
    lp (α:=Value×Value) (C.1,(.int .i64 0)) w fun R j d_ w=>
     fieldAddr P T.b (.pointer (some q)) 6 w fun b4 w=>
     Q2 P T.o b4 w fun cp w=>
     X5 P .len [T.o] T.e [false] [cp] w fun bp w=>
     Q3 P .lss T.e (.tmp 60) (.tmp 63) j.2 bp w fun bi w=>
     X1 bi (
      fieldAddr P T.b (.pointer (some q)) 6 w fun c4 w=>
      Q2 P T.o c4 w fun bu w=>
      indexAddr P T.o bu j.2 w fun ci w=>
      Q2 P T.n ci w fun c6 w=>
      W6 P T.n w fun t7 w=>
      Z2 P T.n t7 c6 w fun _u w=>
      Q1 j.1 true w (fieldAddr P T.n t7 0) fun b9 w=>
      Q1 j.1 true w (Q2 P T.e b9) fun ct w=>
      Q1 j.1 true w (Q3 P .geq T.e (.tmp 75) (.const (.int .i64 0)) ct (.int .i64 0)) fun ca w=>
      pick P j.1 ca (.bool false) w fun H w=>
      Q1 H true w (fieldAddr P T.n t7 0) fun ch w=>
      Q1 H true w (Q2 P T.e ch) fun c7 w=>
      Q1 H true w (fieldAddr P T.n t7 1) fun cq w=>
      Q1 H true w (Q2 P T.e cq) fun bz w=>
      Q1 H true w (Q3 P .lss T.e (.tmp 80) (.tmp 82) c7 bz) fun b5 w=>
      pick P H b5 (.bool false) w fun O w=>
      Q1 O true w (fieldAddr P T.n t7 1) fun bs w=>
      Q1 O true w (Q2 P T.e bs) fun cm w=>
      Q1 O true w (fun w J=>J ah w) fun b1 w=>
      Q1 O true w (Q3 P .leq T.e (.tmp 87) (.tmp 88) cm b1) fun b6 w=>
      pick P O b6 (.bool false) w fun W w=>
      Q1 W true w (fieldAddr P T.n t7 2) fun b0 w=>
      Q1 W true w (Q2 P T.e b0) fun cd w=>
      Q1 W true w (Q3 P .geq T.e (.tmp 93) (.const (.int .i64 0)) cd (.int .i64 0)) fun c8 w=>
      pick P W c8 (.bool false) w fun Q w=>
      Q1 Q true w (fieldAddr P T.n t7 2) fun cz w=>
      Q1 Q true w (Q2 P T.e cz) fun cc w=>
      Q1 Q true w (fun w J=>J ah w) fun bj w=>
      Q1 Q true w (Q3 P .lss T.e (.tmp 98) (.tmp 99) cc bj) fun a3 w=>
      pick P Q a3 (.bool false) w fun D w=>
      Q1 D true w (fieldAddr P T.n t7 3) fun bc w=>
      Q1 D true w (Q2 P T.c bc) fun a5 w=>
      Q1 D true w (Q0 P F.e [a5]) fun a4 w=>
      pick P D a4 (.bool false) w fun av w=>
      Q3 P .add T.e (.tmp 65) (.const (.int .i64 1)) j.2 (.int .i64 1) w fun cj w=>
      R (av,cj) w) (
      Q1 j.1 true w (fun w J=>J ah w) fun ba w=>
      Q1 j.1 true w (Q3 P .gtr T.e (.tmp 109) (.const (.int .i64 0)) ba (.int .i64 0)) fun am w=>
      pick P j.1 am (.bool false) w fun g w=>
      Q1 g true w (fieldAddr P T.b (.pointer (some q)) 4) fun a7 w=>
      Q1 g true w (Q2 P T.e a7) fun bd w=>
      Q1 g true w (fieldAddr P T.b (.pointer (some q)) 1) fun a0 w=>
      Q1 g true w (Q2 P T.d a0) fun ap w=>
      Q1 g true w (X5 P .len [T.d] T.e [false] [ap]) fun ao w=>
      Q1 g true w (Q3 P .gtr T.e (.tmp 114) (.tmp 117) bd ao) fun ay w=>
      pick P g ay (.bool false) w fun t w=>
      Q1 t true w (fieldAddr P T.b (.pointer (some q)) 5) fun a1 w=>
      Q1 t true w (Q2 P T.l a1) fun aj w=>
      Q1 t true w (Q0 P F.aN [aj]) fun a2 w=>
      Q1 t true w (Q3 P .eql T.s (.tmp 123) (.const (.int .i64 0)) a2 (.int .i64 0)) fun bb w=>
      pick P t bb (.bool false) w fun aw w=>
      K aw w))):=by
 have c9:=af.sat
 have c0:decide ((m.code.length:Int)=0)=decide (m.code=[]):=by cases m.code<;>simp;omega
 have c1:decide ((m.catches.length:Int)=0)=decide (m.catches=[]):=by cases m.catches<;>simp;omega
 have c2:decide ((0:Int)<m.code.length)=decide (m.code≠[]):=by cases m.code<;>simp
 refine O9 (a:=Value.bool p) m.params.length (fun n x w'=> ∃M,Stp w1 σ1 w' M∧x=Value.bool (p&&(m.params.take n).all right)) ⟨σ1,Stp.refl c9,by simp⟩ fun n x w2 d hn L=>?_
 obtain ⟨σ2,k,rfl⟩:=L
 have l:=hq.up k
 have Y:=g1.up k
 have o:=k.sat
 (try simp only[↓M1,M1,Mb,reduceIte])
 refine ld o l rfl ?_
 refine Q9 Y ?_
 refine Z0 ?_
 refine Q5 (fun hc=>?_) (fun hc=>?_)
 ·have c:n<m.params.length:=by simpa using hc
  have s:(p&&(m.params.take (n+1)).all right)=((p&&(m.params.take n).all right)&&right m.params[n]):=by rw[Zu c,Bool.and_assoc]
  generalize (p&&(m.params.take n).all right)=f at s⊢
  cases f with
  | false=>(try simp only[↓M1,M1,Mb,reduceIte]);exact Z6 g1.max c ⟨σ2,k,by rw[s];rfl⟩
  | true=>
   (try simp only[↓M1,M1,Mb,reduceIte])
   refine ld o l rfl ?_
   (try simp only[↓M1,M1,Mb,reduceIte])
   refine U1 Y c ?_
   obtain ⟨p1,p2⟩:=Y.elS c
   refine X8 o p1 rfl ?_
   refine Ve _ (by simp only[Z7] at p2;omega) ?_
   (try simp only[↓M1,M1,Mb,reduceIte])
   exact Z6 g1.max c ⟨σ2,k,by rw[s];rfl⟩
 ·have c: ¬n<m.params.length:=by simpa using hc
  rw[Q6f c]
  have a9:=af.trans k
  have ag:=g2.up k
  have Z:=g3.up k
  clear af k hq g1 g2 g3 hn hc
  generalize (p&&m.params.all right)=f at h⊢
  refine ld o l rfl ?_
  cases ax:m.abs with
  | true=>
   simp only[ax,if_true] at h
   have hK:=h _ _ a9
   clear h
   (try simp only[↓M1,M1,Mb,reduceIte])
   cases f with
   | false=>(try simp only[↓M1,M1,Mb,reduceIte]);simpa using hK
   | true=>
    (try simp only[↓M1,M1,Mb,reduceIte])
    refine ld o l rfl ?_
    (try simp only[↓M1,M1,Mb,reduceIte])
    cases ak:decide (m.locals=0) with
    | false=>rw[ak] at hK;(try simp only[↓M1,M1,Mb,reduceIte]);simpa using hK
    | true=>
     rw[ak] at hK
     (try simp only[↓M1,M1,Mb,reduceIte])
     refine ld o l rfl ?_
     refine Q9 ag ?_
     simp only[c0,↓M1,M1,Mb,reduceIte]
     cases az:decide (m.code=[]) with
     | false=>rw[az] at hK;(try simp only[↓M1,M1,Mb,reduceIte]);simpa using hK
     | true=>
      rw[az] at hK
      (try simp only[↓M1,M1,Mb,reduceIte])
      refine ld o l rfl ?_
      refine Q9 Z ?_
      simp only[c1,↓M1,M1,Mb,reduceIte]
      simpa using hK
  | false=>
   simp only[ax,Bool.false_eq_true,if_false] at h
   (try simp only[↓M1,M1,Mb,reduceIte])
   refine ld o l rfl ?_
   refine Q9 ag ?_
   refine O9 (a:=Value.bool f) m.catches.length (fun n x w'=> ∃M,Stp w2 σ2 w' M∧x=Value.bool (f&&(m.catches.take n).all (C4 m.code.length))) ⟨σ2,Stp.refl o,by simp⟩ fun n x w4 d hn L=>?_
   obtain ⟨σ4,A,rfl⟩:=L
   have E:=l.up A
   have aa:=Z.up A
   have r:=A.sat
   (try simp only[↓M1,M1,Mb,reduceIte])
   refine ld r E rfl ?_
   refine Q9 aa ?_
   refine Z0 ?_
   refine Q5 (fun hc=>?_) (fun hc=>?_)
   ·have c:n<m.catches.length:=by simpa using hc
    have s:(f&&(m.catches.take (n+1)).all (C4 m.code.length))=((f&&(m.catches.take n).all (C4 m.code.length))&&C4 m.code.length m.catches[n]):=by rw[Zu c,Bool.and_assoc]
    generalize (f&&(m.catches.take n).all (C4 m.code.length))=bq at s⊢
    (try simp only[↓M1,M1,Mb,reduceIte])
    refine ld r E rfl ?_
    refine U1 aa c ?_
    obtain ⟨p1,r1⟩:=aa.elK c
    have a6:m.catches[n].cls.length≤140737488355328:=by have:=r1.2.2.2.2;simp only[Z7] at this;omega
    refine Z1 r p1 rfl ?_
    refine Y6 r (by rfl) rfl (Rep.one r1) fun q5 w5 σ5 aq z=>?_
    have B:=aq.sat
    have ab:=A.trans aq
    cases bq with
    | false=>(try simp only[↓M1,M1,Mb,reduceIte]);exact Z6 Z.max c ⟨σ5,ab,by rw[s];rfl⟩
    | true=>
     have y: ∀b,C4 m.code.length m.catches[n]=b→Sg m.catches.length (fun n x w'=> ∃M,Stp w2 σ2 w' M∧x=Value.bool (f&&(m.catches.take n).all (C4 m.code.length))) (Value.bool b, .int .i64 (IntKind.i64.wrap (n+1))) w5∧Wy m.catches.length (Value.bool b, .int .i64 (IntKind.i64.wrap (n+1)))<Wy m.catches.length (Value.bool true,I n):=fun b e=>Z6 Z.max c ⟨σ5,ab,by rw[s,e];rfl⟩
     unfold C4 at y
     generalize m.catches[n]=x at z y a6
     clear s p1 r1 E l aa h
     (try simp only[↓M1,M1,Mb,reduceIte])
     refine ld B z rfl ?_
     (try simp only[↓M1,M1,Mb,reduceIte])
     cases d1:decide (0≤x.frm) with
     | false=>(try simp only[↓M1,M1,Mb,reduceIte]);exact y _ (by simp[d1])
     | true=>
     (try simp only[↓M1,M1,Mb,reduceIte])
     refine ld B z rfl ?_
     (try simp only[↓M1,M1,Mb,reduceIte])
     refine ld B z rfl ?_
     (try simp only[↓M1,M1,Mb,reduceIte])
     cases d2:decide (x.frm<x.to) with
     | false=>(try simp only[↓M1,M1,Mb,reduceIte]);exact y _ (by simp[d1,d2])
     | true=>
     (try simp only[↓M1,M1,Mb,reduceIte])
     refine ld B z rfl ?_
     (try simp only[↓M1,M1,Mb,reduceIte])
     cases d3:decide (x.to≤(m.code.length:Int)) with
     | false=>(try simp only[↓M1,M1,Mb,reduceIte]);exact y _ (by simp[d1,d2,d3])
     | true=>
     (try simp only[↓M1,M1,Mb,reduceIte])
     refine ld B z rfl ?_
     (try simp only[↓M1,M1,Mb,reduceIte])
     cases d4:decide (0≤x.at_) with
     | false=>(try simp only[↓M1,M1,Mb,reduceIte]);exact y _ (by simp[d1,d2,d3,d4])
     | true=>
     (try simp only[↓M1,M1,Mb,reduceIte])
     refine ld B z rfl ?_
     (try simp only[↓M1,M1,Mb,reduceIte])
     cases d5:decide (x.at_<(m.code.length:Int)) with
     | false=>(try simp only[↓M1,M1,Mb,reduceIte]);exact y _ (by simp[d1,d2,d3,d4,d5])
     | true=>
     (try simp only[↓M1,M1,Mb,reduceIte])
     refine ld B z rfl ?_
     refine Qm x.cls a6 ?_
     (try simp only[↓M1,M1,Mb,reduceIte])
     exact y _ (by simp[d1,d2,d3,d4,d5])
   ·have c: ¬n<m.catches.length:=by simpa using hc
    rw[Q6f c]
    have V:=a9.trans A
    have bl:=ag.up A
    have b7:=Y.up A
    have hh: ∀w' M,Stp w σ w' M→K (.bool ((f&&m.catches.all (C4 m.code.length))&&(decide (m.code≠[])&&decide ((m.params.length:Int)<m.locals)&&m.code.all (fun i=>decide (N1 i=0))))) w':=by
     intro w' M hk
     have:=h w' M hk
     refine Eq.subst (motive:=fun b=>K (.bool b) w') ?_ this
     cases f<;>cases m.catches.all (C4 m.code.length)<;>simp
    clear h A
    generalize (f&&m.catches.all (C4 m.code.length))=cx at hh⊢
    cases cx with
    | false=>(try simp only[↓M1,M1,Mb,reduceIte]);simpa using hh _ _ V
    | true=>
     (try simp only[↓M1,M1,Mb,reduceIte])
     simp only[c2,↓M1,M1,Mb,reduceIte]
     cases al:decide (m.code≠[]) with
     | false=>rw[al] at hh;(try simp only[↓M1,M1,Mb,reduceIte]);simpa using hh _ _ V
     | true=>
      rw[al] at hh
      (try simp only[↓M1,M1,Mb,reduceIte])
      refine ld r E rfl ?_
      (try simp only[↓M1,M1,Mb,reduceIte])
      refine ld r E rfl ?_
      refine Q9 b7 ?_
      (try simp only[↓M1,M1,Mb,reduceIte])
      cases ar:decide ((m.params.length:Int)<m.locals) with
      | false=>rw[ar] at hh;(try simp only[↓M1,M1,Mb,reduceIte]);simpa using hh _ _ V
      | true=>
       rw[ar] at hh
       (try simp only[↓M1,M1,Mb,reduceIte])
       refine ld r E rfl ?_
       refine X1e r bl fun e w6 σ6 cs he=>?_
       simp only[he,↓M1,M1,Mb,reduceIte]
       simpa using hh _ _ (V.trans cs)
set_option maxHeartbeats 2000000 in
theorem Q6w {m:Hm.Met} {cs:List Value} (n:X4 w σ) (B:L2 σ m cs) (h: ∀w' C,Stp w σ w' C→K (.bool (C6 m)) w'):Q0 P F.w [.agg cs.toArray] w K:=Sw (by
 unfold Uv
 obtain ⟨pv,H,L,rfl,z,A,E,y,D,J⟩:=B
 have s:m.name.length≤140737488355328:=by simp only[Z7] at y;omega
 have p:m.result.length≤140737488355328:=by simp only[Z7] at D;omega
 refine Y8 n fun q w1 σ1 a g=>?_
 have r:=z.up a
 have t:=A.up a
 have o:=E.up a
 have f:=a.sat
 obtain ⟨d,c⟩: ∃b,b=(L8 m.name&&(decide (m.result=[])||right m.result)):=⟨_,rfl⟩
 have l:C6 m=((d&&m.params.all right)&&if m.abs then decide (m.locals=0)&&decide (m.code=[])&&decide (m.catches=[])
  else decide (m.code≠[])&&decide ((m.params.length:Int)<m.locals)&&m.code.all (fun i=>decide (N1 i=0))&&m.catches.all (C4 m.code.length)):=by
  rw[c];unfold C6
  cases L8 m.name<;>cases m.params.all right<;>cases decide (m.result=[])<;>cases right m.result<;>rfl
 rw[l] at h
 clear l
 (repeat refine Hd.h ?_)
 refine ld f g rfl ?_
 refine Bh m.name s ?_
 cases e:L8 m.name with
 | false=>
  have j:d=false:=by rw[c,e];rfl
  (repeat refine Hd.h ?_)
  refine Eq.subst (motive:=fun b=>lp (α:=Value×Value) (Value.bool b, .int .i64 0) w1 _) j ?_
  exact Ps n a g r t o h
 | true=>
  (repeat refine Hd.h ?_)
  refine ld f g rfl ?_
  (repeat refine Hd.h ?_)
  refine Nk ?_
  cases k:decide (m.result=[]) with
  | true=>
   have j:d=true:=by rw[c,e,k];rfl
   (repeat refine Hd.h ?_)
   refine Eq.subst (motive:=fun b=>lp (α:=Value×Value) (Value.bool b, .int .i64 0) w1 _) j ?_
   exact Ps n a g r t o h
  | false=>
   (repeat refine Hd.h ?_)
   refine ld f g rfl ?_
   (repeat refine Hd.h ?_)
   refine Ve m.result p ?_
   have j:d=right m.result:=by rw[c,e,k];rfl
   (repeat refine Hd.h ?_)
   refine Eq.subst (motive:=fun b=>lp (α:=Value×Value) (Value.bool b, .int .i64 0) w1 _) j ?_
   exact Ps n a g r t o h)
end Go.Proofs.YtfppjenblllfaaaGreatDoor

namespace Go.Hm
open Go.Kd
def Lh (c:Cla) (i:Nat):Bool:=W2 (c.like.getD i [])&& !decide (c.like.getD i []=c.name)
def I1 (c:Cla) (i k:Nat):Bool:= !decide (c.like.getD k []=c.like.getD i [])
def Hz (c:Cla) (i:Nat):Fld:=c.fields.getD i Fld.zero
def Ox (c:Cla) (i:Nat):Hm.Met:=c.methods.getD i Hm.Met.zero
def Nb (c:Cla) (i:Nat):Bool:=L8 (Hz c i).name&&right (Hz c i).kind&& !c.iface
def Qc (c:Cla) (i k:Nat):Bool:= !decide ((Hz c k).name=(Hz c i).name)
def Q7r (c:Cla):Bool:=(!c.iface||(c.abs&&decide (c.super=Z8)))&& !(c.abs&&c.fin)
def Qb (c:Cla) (i k:Nat):Bool:= !decide ((Ox c k).name=(Ox c i).name)
theorem Ur {p:Nat→Bool} {n:Nat}:(List.range (n+1)).all p=((List.range n).all p&&p n):=by rw[List.range_succ,List.all_append];simp
theorem E3 {α:Type} {xs:List α} {i:Nat} {d:α} (h:i<xs.length):xs.getD i d=xs[i]:=by rw[List.getD_eq_getElem?_getD,List.getElem?_eq_getElem h];rfl
end Go.Hm
namespace Go.Proofs.YtfppjenblllfaaaGreatDoor
open Go.Emb Go.RowKit Go.Kd Go.Hm
variable {w : World} {K : Value → World → Prop} {σ : Q4}
def Li (c:Cla) (i:Nat):Bool:=C6 (Ox c i)&&(!(Ox c i).abs||c.abs)&&(!c.iface||(Ox c i).abs)
set_option maxHeartbeats 2000000 in
theorem Q2x {c:Cla} {lv fv mv:Value} {w1:World} {σ1:Q4} {q:Addr} {ok:Bool} (ah:X4 w1 σ1) (hq:Z3 σ1 q [S c.name,S c.super,lv, .bool c.iface, .bool c.abs, .bool c.fin,fv,mv]) {i:Nat} {N m0:Nat} {W:Nat→Value→World→Prop} (g1:Sl 1 X9 σ1 lv c.like) (hi:i<c.like.length)
 (h: ∀w' σ',Stp w1 σ1 w' σ'→Sg N W (Value.bool (ok&&(List.range i).all (I1 c i)), .int .i64 (IntKind.i64.wrap (i+1))) w'∧Wy N (Value.bool (ok&&(List.range i).all (I1 c i)), .int .i64 (IntKind.i64.wrap (i+1)))<m0):
 lp (
  α:=Value×Value) (Value.bool ok,(.int .i64 0)) w1 fun j b d_ w=>
  Q3 P .lss T.e (.tmp 52) (.tmp 53) b.2 (I i) w fun ac w=>
  X1 ac (
   dr w fun e g=>
   Q6 e (fun D=> ∀w:World,g w→Q1 b.1 true w (fieldAddr P T.a (.pointer (some q)) 2) (dk e D w)) fun D=>
   Q6 e (fun y=> ∀w:World,g w→Q1 b.1 true w (fun w J=>J b.2 w) (dk e y w)) fun y=>
   Q6 e (fun r=> ∀w:World,g w→Q1 b.1 true w (fieldAddr P T.a (.pointer (some q)) 2) (dk e r w)) fun r=>
   Q6 e (fun B=> ∀w:World,g w→Q1 b.1 true w (fun w J=>J (I i) w) (dk e B w)) fun B=>
   Q6 e (fun t=> ∀s:Value,∀w:World,g w→D s w→Q1 b.1 true w (Q2 P T.d s) (dk e t w)) fun t=>
   Q6 e (fun v=> ∀z:Value,∀C:Value,∀w:World,g w→t z w→y C w→Q1 b.1 true w (indexAddr P T.d z C) (dk e v w)) fun v=>
   Q6 e (fun H=> ∀u:Value,∀w:World,g w→v u w→Q1 b.1 true w (Q2 P T.c u) (dk e H w)) fun H=>
   Q6 e (fun l=> ∀m:Value,∀w:World,g w→r m w→Q1 b.1 true w (Q2 P T.d m) (dk e l w)) fun l=>
   Q6 e (fun o=> ∀n:Value,∀p:Value,∀w:World,g w→l n w→B p w→Q1 b.1 true w (indexAddr P T.d n p) (dk e o w)) fun o=>
   Q6 e (fun E=> ∀A:Value,∀w:World,g w→o A w→Q1 b.1 true w (Q2 P T.c A) (dk e E w)) fun E=>
   ∀s:Value,∀C:Value,∀m:Value,∀p:Value,∀z:Value,∀u:Value,∀Q:Value,∀n:Value,∀A:Value,∀R:Value,∀w:World,g w→D s w→y C w→r m w→B p w→t z w→v u w→H Q w→l n w→o A w→E R w→
   Q1 b.1 true w (Q3 P .neq T.c (.tmp 63) (.tmp 68) Q R) fun af w=>
   pick P b.1 af (.bool false) w fun ab w=>
   Q3 P .add T.e (.tmp 55) (.const (.int .i64 1)) b.2 (.int .i64 1) w fun ai w=>
   j (ab,ai) w) (
   Q3 P .add T.e (.tmp 31) (.const (.int .i64 1)) (I i) (.int .i64 1) w fun O w=>
   (Sg N W (b.1,O) w∧Wy N (b.1,O)<m0)):=by
 have an:=g1.max
 refine O9 (a:=Value.bool ok) i (fun k x w'=> ∃σ',Stp w1 σ1 w' σ'∧x=Value.bool (ok&&(List.range k).all (I1 c i))) ⟨σ1,Stp.refl ah,by simp⟩ fun k x w2 d hk M=>?_
 obtain ⟨σ2,f,rfl⟩:=M
 have aw:=hq.up f
 have U:=g1.up f
 have Y:=f.sat
 refine Z0 ?_
 refine Q5 (fun X=>?_) (fun X=>?_)
 ·have ad:k<i:=by simpa using X
  have V:k<c.like.length:=by omega
  have L:(ok&&(List.range (k+1)).all (I1 c i))=((ok&&(List.range k).all (I1 c i))&&I1 c i k):=by rw[Ur,Bool.and_assoc]
  have hQ:I1 c i k= !decide (c.like[k]=c.like[i]):=by unfold I1;rw[E3 V,E3 hi]
  rw[hQ] at L
  obtain ⟨p1,_⟩:=U.elS V
  obtain ⟨p2,_⟩:=U.elS hi
  generalize (ok&&(List.range k).all (I1 c i))=Z at L⊢
  clear h hQ X
  cases Z
  all_goals
   refine U9 Y ?_
   (repeat refine J4 Qp ?_)
   (intros;(repeat (rename_i hx;subst hx));(try simp only[↓M2,M2,Mb,reduceIte]))
   rename_i w3 ag
   exact Z6 (by omega) ad ⟨σ2,f.trans ag.stp,by rw[L];rfl⟩
 ·have ae:k=i:=by
   have: ¬k<i:=by simpa using X
   omega
  subst ae
  (try simp only[↓M1,M1,Mb,reduceIte])
  exact h _ _ f
set_option maxHeartbeats 4000000 in
theorem Q9v {c:Cla} {lv fv mv:Value} {w1:World} {σ1:Q4} {q:Addr} {ok:Bool} (hs1:X4 w1 σ1) (hq:Z3 σ1 q [S c.name,S c.super,lv, .bool c.iface, .bool c.abs, .bool c.fin,fv,mv]) {J:Value→World→Prop} (hn:c.name.length≤Z7) (g1:Sl 1 X9 σ1 lv c.like)
 (h: ∀w' σ',Stp w1 σ1 w' σ'→J (.bool (ok&&(List.range c.like.length).all fun i=>Lh c i&&(List.range i).all (I1 c i))) w'):
 lp (α:=Value×Value) (Value.bool ok,(.int .i64 0)) w1 fun again4 x4 d_ w=>
 fieldAddr P T.a (.pointer (some q)) 2 w fun t27 w=>
 Q2 P T.d t27 w fun t28 w=>
 X5 P .len [T.d] T.e [false] [t28] w fun t29 w=>
 Q3 P .lss T.e (.tmp 26) (.tmp 29) x4.2 t29 w fun t30 w=>
 X1 t30 (
  dr w fun Tr Br=>
  Q6 Tr (fun φ35=> ∀w:World,Br w→Q1 x4.1 true w (fieldAddr P T.a (.pointer (some q)) 2) (dk Tr φ35 w)) fun φ35=>
  Q6 Tr (fun φ37=> ∀w:World,Br w→Q1 x4.1 true w (fun w J=>J x4.2 w) (dk Tr φ37 w)) fun φ37=>
  Q6 Tr (fun φ36=> ∀t35:Value,∀w:World,Br w→φ35 t35 w→Q1 x4.1 true w (Q2 P T.d t35) (dk Tr φ36 w)) fun φ36=>
  Q6 Tr (fun φ38=> ∀t36:Value,∀t37:Value,∀w:World,Br w→φ36 t36 w→φ37 t37 w→Q1 x4.1 true w (indexAddr P T.d t36 t37) (dk Tr φ38 w)) fun φ38=>
  Q6 Tr (fun φ39=> ∀t38:Value,∀w:World,Br w→φ38 t38 w→Q1 x4.1 true w (Q2 P T.c t38) (dk Tr φ39 w)) fun φ39=>
  Q6 Tr (fun φ40=> ∀t39:Value,∀w:World,Br w→φ39 t39 w→Q1 x4.1 true w (Q0 P F.e [t39]) (dk Tr φ40 w)) fun φ40=>
  Q6 Tr (fun φ41=> ∀t40:Value,∀w:World,Br w→φ40 t40 w→pick P x4.1 t40 (.bool false) w (dk Tr φ41 w)) fun φ41=>
  Q6 Tr (fun φ43=> ∀t41:Value,∀w:World,Br w→φ41 t41 w→Q1 t41 true w (fieldAddr P T.a (.pointer (some q)) 2) (dk Tr φ43 w)) fun φ43=>
  Q6 Tr (fun φ45=> ∀t41:Value,∀w:World,Br w→φ41 t41 w→Q1 t41 true w (fun w J=>J x4.2 w) (dk Tr φ45 w)) fun φ45=>
  Q6 Tr (fun φ48=> ∀t41:Value,∀w:World,Br w→φ41 t41 w→Q1 t41 true w (fieldAddr P T.a (.pointer (some q)) 0) (dk Tr φ48 w)) fun φ48=>
  Q6 Tr (fun φ44=> ∀t41:Value,∀t43:Value,∀w:World,Br w→φ41 t41 w→φ43 t43 w→Q1 t41 true w (Q2 P T.d t43) (dk Tr φ44 w)) fun φ44=>
  Q6 Tr (fun φ46=> ∀t41:Value,∀t44:Value,∀t45:Value,∀w:World,Br w→φ41 t41 w→φ44 t44 w→φ45 t45 w→Q1 t41 true w (indexAddr P T.d t44 t45) (dk Tr φ46 w)) fun φ46=>
  Q6 Tr (fun φ47=> ∀t41:Value,∀t46:Value,∀w:World,Br w→φ41 t41 w→φ46 t46 w→Q1 t41 true w (Q2 P T.c t46) (dk Tr φ47 w)) fun φ47=>
  Q6 Tr (fun φ49=> ∀t41:Value,∀t48:Value,∀w:World,Br w→φ41 t41 w→φ48 t48 w→Q1 t41 true w (Q2 P T.c t48) (dk Tr φ49 w)) fun φ49=>
  ∀t35:Value,∀t37:Value,∀t36:Value,∀t38:Value,∀t39:Value,∀t40:Value,∀t41:Value,∀t43:Value,∀t45:Value,∀t48:Value,∀t44:Value,∀t46:Value,∀t47:Value,∀t49:Value,∀w:World,Br w→φ35 t35 w→φ37 t37 w→φ36 t36 w→φ38 t38 w→φ39 t39 w→φ40 t40 w→φ41 t41 w→φ43 t43 w→φ45 t45 w→φ48 t48 w→φ44 t44 w→φ46 t46 w→φ47 t47 w→φ49 t49 w→
  Q1 t41 true w (Q3 P .neq T.c (.tmp 47) (.tmp 49) t47 t49) fun t50 w=>
  pick P t41 t50 (.bool false) w fun t51 w=>
  lp (α:=Value×Value) (t51,(.int .i64 0)) w fun again10 x10 d_ w=>
   Q3 P .lss T.e (.tmp 52) (.tmp 53) x10.2 x4.2 w fun t54 w=>
   X1 t54 (
    dr w fun Tr Br=>
    Q6 Tr (fun φ59=> ∀w:World,Br w→Q1 x10.1 true w (fieldAddr P T.a (.pointer (some q)) 2) (dk Tr φ59 w)) fun φ59=>
    Q6 Tr (fun φ61=> ∀w:World,Br w→Q1 x10.1 true w (fun w J=>J x10.2 w) (dk Tr φ61 w)) fun φ61=>
    Q6 Tr (fun φ64=> ∀w:World,Br w→Q1 x10.1 true w (fieldAddr P T.a (.pointer (some q)) 2) (dk Tr φ64 w)) fun φ64=>
    Q6 Tr (fun φ66=> ∀w:World,Br w→Q1 x10.1 true w (fun w J=>J x4.2 w) (dk Tr φ66 w)) fun φ66=>
    Q6 Tr (fun φ60=> ∀t59:Value,∀w:World,Br w→φ59 t59 w→Q1 x10.1 true w (Q2 P T.d t59) (dk Tr φ60 w)) fun φ60=>
    Q6 Tr (fun φ62=> ∀t60:Value,∀t61:Value,∀w:World,Br w→φ60 t60 w→φ61 t61 w→Q1 x10.1 true w (indexAddr P T.d t60 t61) (dk Tr φ62 w)) fun φ62=>
    Q6 Tr (fun φ63=> ∀t62:Value,∀w:World,Br w→φ62 t62 w→Q1 x10.1 true w (Q2 P T.c t62) (dk Tr φ63 w)) fun φ63=>
    Q6 Tr (fun φ65=> ∀t64:Value,∀w:World,Br w→φ64 t64 w→Q1 x10.1 true w (Q2 P T.d t64) (dk Tr φ65 w)) fun φ65=>
    Q6 Tr (fun φ67=> ∀t65:Value,∀t66:Value,∀w:World,Br w→φ65 t65 w→φ66 t66 w→Q1 x10.1 true w (indexAddr P T.d t65 t66) (dk Tr φ67 w)) fun φ67=>
    Q6 Tr (fun φ68=> ∀t67:Value,∀w:World,Br w→φ67 t67 w→Q1 x10.1 true w (Q2 P T.c t67) (dk Tr φ68 w)) fun φ68=>
    ∀t59:Value,∀t61:Value,∀t64:Value,∀t66:Value,∀t60:Value,∀t62:Value,∀t63:Value,∀t65:Value,∀t67:Value,∀t68:Value,∀w:World,Br w→φ59 t59 w→φ61 t61 w→φ64 t64 w→φ66 t66 w→φ60 t60 w→φ62 t62 w→φ63 t63 w→φ65 t65 w→φ67 t67 w→φ68 t68 w→
    Q1 x10.1 true w (Q3 P .neq T.c (.tmp 63) (.tmp 68) t63 t68) fun t69 w=>
    pick P x10.1 t69 (.bool false) w fun t70 w=>
    Q3 P .add T.e (.tmp 55) (.const (.int .i64 1)) x10.2 (.int .i64 1) w fun t56 w=>
    again10 (t70,t56) w) (
    Q3 P .add T.e (.tmp 31) (.const (.int .i64 1)) x4.2 (.int .i64 1) w fun t32 w=>
    again4 (x10.1,t32) w)) (
  J x4.1 w):=by
 have hmax:=g1.max
 refine O9 (a:=Value.bool ok) c.like.length (fun n x w'=> ∃σ',Stp w1 σ1 w' σ'∧x=Value.bool (ok&&(List.range n).all fun i=>Lh c i&&(List.range i).all (I1 c i))) ⟨σ1,Stp.refl hs1,by simp⟩ fun n x w2 d hn2 hinv=>?_
 obtain ⟨σ2,hk2,rfl⟩:=hinv
 have hq2:=hq.up hk2
 have g12:=g1.up hk2
 have hs2:=hk2.sat
 (repeat refine Hd.h ?_)
 refine ld hs2 hq2 rfl ?_
 refine Q9 g12 ?_
 refine Z0 ?_
 refine Q5 (fun hc=>?_) (fun hc=>?_)
 ·have hn':n<c.like.length:=by simpa using hc
  have hnx:(ok&&(List.range (n+1)).all fun i=>Lh c i&&(List.range i).all (I1 c i))=((ok&&(List.range n).all fun i=>Lh c i&&(List.range i).all (I1 c i))&&(Lh c n&&(List.range n).all (I1 c n))):=by rw[Ur,Bool.and_assoc]
  have hP:Lh c n=(W2 c.like[n]&& !decide (c.like[n]=c.name)):=by unfold Lh;rw[E3 hn']
  obtain ⟨p1,p2⟩:=g12.elS hn'
  have p2:c.like[n].length≤140737488355328:=by simp only[Z7] at p2;omega
  generalize (ok&&(List.range n).all fun i=>Lh c i&&(List.range i).all (I1 c i))=acc at hnx⊢
  clear h hc
  cases hacc:acc with
  | false=>
   refine U9 hs2 ?_
   (repeat refine J4 Qp ?_)
   intros;(repeat (rename_i hx;subst hx))
   rename_i w3 hb3
   (repeat refine Hd.h ?_)
   refine Q2x hb3.sat hq2 g12 hn' fun w4 σ4 hk4=>?_
   exact Z6 hmax hn' ⟨σ4,hk2.trans (hb3.stp.trans hk4),by rw[hnx,hacc];rfl⟩
  | true=>
   cases hcl:W2 c.like[n] with
   | false=>
    refine U9 hs2 ?_
    have hrc: ∀{w':World} {K:Value→World→Prop},K (.bool false) w'→Q0 P F.e [S c.like[n]] w' K:=fun hK=>Qm _ p2 (by rw[hcl];exact hK)
    (repeat (apply J4;(· intros;(repeat (rename_i hx;subst hx));(repeat' (first | (with_reducible exact W8 rfl) | (with_reducible exact Xo (Stp.bel (by (repeat (first | exact Stp.refl (by (first | assumption | exact Stp.sat (by assumption) | exact Hst.sat (by assumption))) | assumption | refine Stp.trans ?_ (by first | assumption | exact Hst.stp (by assumption)))))) rfl) | (with_reducible intro _) | (simp only[↓M2,M2,Mb,reduceIte]) | (with_reducible refine hrc ?_) | (with_reducible show Q2 _ _ _ _ _;first | refine X8 aS aL aR ?_ | refine Z1 aS aL aR ?_ | refine ld aS aL aR ?_) | (with_reducible show indexAddr _ _ _ _ _ _;refine U1 aL au ?_) | (with_reducible show X5 _ _ _ _ _ _ _ _;refine Q9 aL ?_) | (with_reducible show Lq _ _ _ _ _ _;refine V1 aR ?_) | (with_reducible show pick _ _ _ _ _ _;refine Jr ?_) | (apply Wu;intro hh;(try simp only[hh,reduceIte,↓M2,M2,Mb,reduceIte]))));done)))
    intros;(repeat (rename_i hx;subst hx))
    rename_i w3 hb3
    (repeat refine Hd.h ?_)
    refine Q2x hb3.sat hq2 g12 hn' fun w4 σ4 hk4=>?_
    exact Z6 hmax hn' ⟨σ4,hk2.trans (hb3.stp.trans hk4),by rw[hnx,hacc,hP,hcl];rfl⟩
   | true=>
    refine U9 hs2 ?_
    have hrc: ∀{w':World} {K:Value→World→Prop},K (.bool true) w'→Q0 P F.e [S c.like[n]] w' K:=fun hK=>Qm _ p2 (by rw[hcl];exact hK)
    (repeat (apply J4;(· intros;(repeat (rename_i hx;subst hx));(repeat' (first | (with_reducible exact W8 rfl) | (with_reducible exact Xo (Stp.bel (by (repeat (first | exact Stp.refl (by (first | assumption | exact Stp.sat (by assumption) | exact Hst.sat (by assumption))) | assumption | refine Stp.trans ?_ (by first | assumption | exact Hst.stp (by assumption)))))) rfl) | (with_reducible intro _) | (simp only[↓M2,M2,Mb,reduceIte]) | (with_reducible refine hrc ?_) | (with_reducible show Q2 _ _ _ _ _;first | refine X8 aS aL aR ?_ | refine Z1 aS aL aR ?_ | refine ld aS aL aR ?_) | (with_reducible show indexAddr _ _ _ _ _ _;refine U1 aL au ?_) | (with_reducible show X5 _ _ _ _ _ _ _ _;refine Q9 aL ?_) | (with_reducible show Lq _ _ _ _ _ _;refine V1 aR ?_) | (with_reducible show pick _ _ _ _ _ _;refine Jr ?_) | (apply Wu;intro hh;(try simp only[hh,reduceIte,↓M2,M2,Mb,reduceIte]))));done)))
    intros;(repeat (rename_i hx;subst hx))
    rename_i w3 hb3
    (repeat refine Hd.h ?_)
    refine Vs ?_
    (repeat refine Hd.h ?_)
    refine Q2x hb3.sat hq2 g12 hn' fun w4 σ4 hk4=>?_
    exact Z6 hmax hn' ⟨σ4,hk2.trans (hb3.stp.trans hk4),by rw[hnx,hacc,hP,hcl];simp⟩
 ·have hn': ¬n<c.like.length:=by simpa using hc
  obtain rfl:n=c.like.length:=by omega
  exact h _ _ hk2
set_option maxHeartbeats 2000000 in
theorem Q1W {c:Cla} {lv fv mv:Value} {w1:World} {σ1:Q4} {q:Addr} {ok:Bool} (am:X4 w1 σ1) (hq:Z3 σ1 q [S c.name,S c.super,lv, .bool c.iface, .bool c.abs, .bool c.fin,fv,mv]) {i:Nat} {N m0:Nat} {ad:Nat→Value→World→Prop} (g2:Sl 3 D6 σ1 fv c.fields) (hi:i<c.fields.length)
 (h: ∀w' σ',Stp w1 σ1 w' σ'→Sg N ad (Value.bool (ok&&(List.range i).all (Qc c i)), .int .i64 (IntKind.i64.wrap (i+1))) w'∧Wy N (Value.bool (ok&&(List.range i).all (Qc c i)), .int .i64 (IntKind.i64.wrap (i+1)))<m0):
 lp (α:=Value×Value) (Value.bool ok,(.int .i64 0)) w1 fun Q b d_ w=>
  Q3 P .lss T.e (.tmp 102) (.tmp 103) b.2 (I i) w fun Z w=>
  X1 Z (
   dr w fun e H=>
   Q6 e (fun f=> ∀w:World,H w→Q1 b.1 true w (fieldAddr P T.a (.pointer (some q)) 6) (dk e f w)) fun f=>
   Q6 e (fun v=> ∀w:World,H w→Q1 b.1 true w (fun w J=>J b.2 w) (dk e v w)) fun v=>
   Q6 e (fun p=> ∀w:World,H w→Q1 b.1 true w (fieldAddr P T.a (.pointer (some q)) 6) (dk e p w)) fun p=>
   Q6 e (fun s=> ∀w:World,H w→Q1 b.1 true w (fun w J=>J (I i) w) (dk e s w)) fun s=>
   Q6 e (fun m=> ∀E:Value,∀w:World,H w→f E w→Q1 b.1 true w (Q2 P T.i E) (dk e m w)) fun m=>
   Q6 e (fun g=> ∀j:Value,∀y:Value,∀w:World,H w→m j w→v y w→Q1 b.1 true w (indexAddr P T.i j y) (dk e g w)) fun g=>
   Q6 e (fun l=> ∀t:Value,∀w:World,H w→g t w→Q1 b.1 true w (fieldAddr P T.k t 0) (dk e l w)) fun l=>
   Q6 e (fun O=> ∀u:Value,∀w:World,H w→l u w→Q1 b.1 true w (Q2 P T.c u) (dk e O w)) fun O=>
   Q6 e (fun D=> ∀B:Value,∀w:World,H w→p B w→Q1 b.1 true w (Q2 P T.i B) (dk e D w)) fun D=>
   Q6 e (fun A=> ∀o:Value,∀n:Value,∀w:World,H w→D o w→s n w→Q1 b.1 true w (indexAddr P T.i o n) (dk e A w)) fun A=>
   Q6 e (fun r=> ∀z:Value,∀w:World,H w→A z w→Q1 b.1 true w (fieldAddr P T.k z 0) (dk e r w)) fun r=>
   Q6 e (fun M=> ∀C:Value,∀w:World,H w→r C w→Q1 b.1 true w (Q2 P T.c C) (dk e M w)) fun M=>
   ∀E:Value,∀y:Value,∀B:Value,∀n:Value,∀j:Value,∀t:Value,∀u:Value,∀U:Value,∀o:Value,∀z:Value,∀C:Value,∀R:Value,∀w:World,H w→f E w→v y w→p B w→s n w→m j w→g t w→l u w→O U w→D o w→A z w→r C w→M R w→
   Q1 b.1 true w (Q3 P .neq T.c (.tmp 114) (.tmp 120) U R) fun ae w=>
   pick P b.1 ae (.bool false) w fun W w=>
   Q3 P .add T.e (.tmp 105) (.const (.int .i64 1)) b.2 (.int .i64 1) w fun aa w=>
   Q (W,aa) w) (
   Q3 P .add T.e (.tmp 76) (.const (.int .i64 1)) (I i) (.int .i64 1) w fun ab w=>
   (Sg N ad (b.1,ab) w∧Wy N (b.1,ab)<m0)):=by
 have ar:=g2.max
 refine O9 (a:=Value.bool ok) i (fun k x w'=> ∃σ',Stp w1 σ1 w' σ'∧x=Value.bool (ok&&(List.range k).all (Qc c i))) ⟨σ1,Stp.refl am,by simp⟩ fun k x w2 d hk Y=>?_
 obtain ⟨σ2,L,rfl⟩:=Y
 have a0:=hq.up L
 have X:=g2.up L
 have ag:=L.sat
 refine Z0 ?_
 refine Q5 (fun hc=>?_) (fun hc=>?_)
 ·have aj:k<i:=by simpa using hc
  have ac:k<c.fields.length:=by omega
  have V:(ok&&(List.range (k+1)).all (Qc c i))=((ok&&(List.range k).all (Qc c i))&&Qc c i k):=by rw[Ur,Bool.and_assoc]
  have hQ:Qc c i k= !decide (c.fields[k].name=c.fields[i].name):=by unfold Qc Hz;rw[E3 ac,E3 hi]
  rw[hQ] at V
  obtain ⟨p1,_⟩:=X.elF ac
  obtain ⟨p2,_⟩:=X.elF hi
  generalize (ok&&(List.range k).all (Qc c i))=ah at V⊢
  clear h hQ hc
  cases ah
  all_goals
   refine U9 ag ?_
   (repeat refine J4 Qp ?_)
   (intros;(repeat (rename_i hx;subst hx));(try simp only[↓M2,M2,Mb,reduceIte]))
   rename_i w3 al
   exact Z6 (by omega) aj ⟨σ2,L.trans al.stp,by rw[V];rfl⟩
 ·have ak:k=i:=by
   have: ¬k<i:=by simpa using hc
   omega
  subst ak
  (try simp only[↓M1,M1,Mb,reduceIte])
  exact h _ _ L
set_option maxHeartbeats 4000000 in
theorem X0A {c:Cla} {lv fv mv:Value} {w1:World} {σ1:Q4} {q:Addr} {ok:Bool} (bg:X4 w1 σ1) (hq:Z3 σ1 q [S c.name,S c.super,lv, .bool c.iface, .bool c.abs, .bool c.fin,fv,mv]) {J:Value→World→Prop} (g2:Sl 3 D6 σ1 fv c.fields)
 (h: ∀w' σ',Stp w1 σ1 w' σ'→J (.bool (ok&&(List.range c.fields.length).all fun i=>Nb c i&&(List.range i).all (Qc c i))) w'):
 lp (
  α:=Value×Value) (Value.bool ok,(.int .i64 0)) w1 fun aa g d_ w=>
  fieldAddr P T.a (.pointer (some q)) 6 w fun a3 w=>
  Q2 P T.i a3 w fun a4 w=>
  X5 P .len [T.i] T.e [false] [a4] w fun bj w=>
  Q3 P .lss T.e (.tmp 71) (.tmp 74) g.2 bj w fun a9 w=>
  X1 a9 (
   Q1 g.1 true w (fieldAddr P T.a (.pointer (some q)) 6) fun be w=>
   Q1 g.1 true w (Q2 P T.i be) fun a5 w=>
   Q1 g.1 true w (fun w J=>J g.2 w) fun ba w=>
   Q1 g.1 true w (indexAddr P T.i a5 ba) fun bh w=>
   Q1 g.1 true w (fieldAddr P T.k bh 0) fun bc w=>
   Q1 g.1 true w (Q2 P T.c bc) fun av w=>
   Q1 g.1 true w (Q0 P F.r [av]) fun a7 w=>
   pick P g.1 a7 (.bool false) w fun p w=>
   Q1 p true w (fieldAddr P T.a (.pointer (some q)) 6) fun bi w=>
   Q1 p true w (Q2 P T.i bi) fun a1 w=>
   Q1 p true w (fun w J=>J g.2 w) fun ay w=>
   Q1 p true w (indexAddr P T.i a1 ay) fun bb w=>
   Q1 p true w (fieldAddr P T.k bb 1) fun ax w=>
   Q1 p true w (Q2 P T.c ax) fun bf w=>
   Q1 p true w (Q0 P F.i [bf]) fun a0 w=>
   pick P p a0 (.bool false) w fun ae w=>
   Q1 ae true w (fieldAddr P T.a (.pointer (some q)) 3) fun ar w=>
   Q1 ae true w (Q2 P T.p ar) fun aw w=>
   Q1 ae true w (J7 P .not aw) fun ak w=>
   pick P ae ak (.bool false) w fun am w=>
   lp (α:=Value×Value) (am,(.int .i64 0)) w fun ac f d_ w=>
    Q3 P .lss T.e (.tmp 102) (.tmp 103) f.2 g.2 w fun an w=>
    X1 an (
     dr w fun k Y=>
     Q6 k (fun t=> ∀w:World,Y w→Q1 f.1 true w (fieldAddr P T.a (.pointer (some q)) 6) (dk k t w)) fun t=>
     Q6 k (fun M=> ∀w:World,Y w→Q1 f.1 true w (fun w J=>J f.2 w) (dk k M w)) fun M=>
     Q6 k (fun C=> ∀w:World,Y w→Q1 f.1 true w (fieldAddr P T.a (.pointer (some q)) 6) (dk k C w)) fun C=>
     Q6 k (fun E=> ∀w:World,Y w→Q1 f.1 true w (fun w J=>J g.2 w) (dk k E w)) fun E=>
     Q6 k (fun z=> ∀W:Value,∀w:World,Y w→t W w→Q1 f.1 true w (Q2 P T.i W) (dk k z w)) fun z=>
     Q6 k (fun u=> ∀v:Value,∀N:Value,∀w:World,Y w→z v w→M N w→Q1 f.1 true w (indexAddr P T.i v N) (dk k u w)) fun u=>
     Q6 k (fun y=> ∀H:Value,∀w:World,Y w→u H w→Q1 f.1 true w (fieldAddr P T.k H 0) (dk k y w)) fun y=>
     Q6 k (fun ab=> ∀L:Value,∀w:World,Y w→y L w→Q1 f.1 true w (Q2 P T.c L) (dk k ab w)) fun ab=>
     Q6 k (fun X=> ∀U:Value,∀w:World,Y w→C U w→Q1 f.1 true w (Q2 P T.i U) (dk k X w)) fun X=>
     Q6 k (fun R=> ∀B:Value,∀A:Value,∀w:World,Y w→X B w→E A w→Q1 f.1 true w (indexAddr P T.i B A) (dk k R w)) fun R=>
     Q6 k (fun D=> ∀O:Value,∀w:World,Y w→R O w→Q1 f.1 true w (fieldAddr P T.k O 0) (dk k D w)) fun D=>
     Q6 k (fun Z=> ∀V:Value,∀w:World,Y w→D V w→Q1 f.1 true w (Q2 P T.c V) (dk k Z w)) fun Z=>
     ∀W:Value,∀N:Value,∀U:Value,∀A:Value,∀v:Value,∀H:Value,∀L:Value,∀ag:Value,∀B:Value,∀O:Value,∀V:Value,∀af:Value,∀w:World,Y w→t W w→M N w→C U w→E A w→z v w→u H w→y L w→ab ag w→X B w→R O w→D V w→Z af w→
     Q1 f.1 true w (Q3 P .neq T.c (.tmp 114) (.tmp 120) ag af) fun ap w=>
     pick P f.1 ap (.bool false) w fun aj w=>
     Q3 P .add T.e (.tmp 105) (.const (.int .i64 1)) f.2 (.int .i64 1) w fun ao w=>
     ac (aj,ao) w) (
     Q3 P .add T.e (.tmp 76) (.const (.int .i64 1)) g.2 (.int .i64 1) w fun a6 w=>
     aa (f.1,a6) w)) (
   J g.1 w):=by
 have Q:=g2.max
 refine O9 (a:=Value.bool ok) c.fields.length (fun n x w'=> ∃σ',Stp w1 σ1 w' σ'∧x=Value.bool (ok&&(List.range n).all fun i=>Nb c i&&(List.range i).all (Qc c i))) ⟨σ1,Stp.refl bg,by simp⟩ fun n x w2 d bq al=>?_
 obtain ⟨σ2,o,rfl⟩:=al
 have r:=hq.up o
 have m:=g2.up o
 have l:=o.sat
 (repeat refine Hd.h ?_)
 refine ld l r rfl ?_
 refine Q9 m ?_
 refine Z0 ?_
 refine Q5 (fun hc=>?_) (fun hc=>?_)
 ·have j:n<c.fields.length:=by simpa using hc
  have ad:(ok&&(List.range (n+1)).all fun i=>Nb c i&&(List.range i).all (Qc c i))=((ok&&(List.range n).all fun i=>Nb c i&&(List.range i).all (Qc c i))&&(Nb c n&&(List.range n).all (Qc c n))):=by rw[Ur,Bool.and_assoc]
  have hP:Nb c n=(L8 c.fields[n].name&&right c.fields[n].kind&& !c.iface):=by unfold Nb Hz;rw[E3 j]
  obtain ⟨p1,r1⟩:=m.elF j
  have b1:c.fields[n].name.length≤140737488355328:=by have:=r1.2.1;simp only[Z7] at this;omega
  have b2:c.fields[n].kind.length≤140737488355328:=by have:=r1.2.2;simp only[Z7] at this;omega
  generalize (ok&&(List.range n).all fun i=>Nb c i&&(List.range i).all (Qc c i))=ai at ad⊢
  clear h hc
  have step: ∀b,b=(ai&&Nb c n)→(ai&&(Nb c n&&(List.range n).all (Qc c n)))=(b&&(List.range n).all (Qc c n)):=fun b e=>by rw[e,Bool.and_assoc]
  cases ai with
  | false=>
   (repeat refine Hd.h ?_)
   refine Q1W l r m j fun w4 σ4 s=>?_
   exact Z6 Q j ⟨σ4,o.trans s,by rw[ad];rfl⟩
  | true=>
   (repeat refine Hd.h ?_)
   refine ld l r rfl ?_
   (repeat refine Hd.h ?_)
   refine U1 m j ?_
   (repeat refine Hd.h ?_)
   refine ld l p1 rfl ?_
   (repeat refine Hd.h ?_)
   refine Bh _ b1 ?_
   cases d1:L8 c.fields[n].name with
   | false=>
    (repeat refine Hd.h ?_)
    refine Q1W l r m j fun w4 σ4 s=>?_
    exact Z6 Q j ⟨σ4,o.trans s,by rw[ad,step false (by rw[hP,d1];rfl)]⟩
   | true=>
    (repeat refine Hd.h ?_)
    refine ld l r rfl ?_
    (repeat refine Hd.h ?_)
    refine U1 m j ?_
    (repeat refine Hd.h ?_)
    refine ld l p1 rfl ?_
    (repeat refine Hd.h ?_)
    refine Ve _ b2 ?_
    cases d2:right c.fields[n].kind with
    | false=>
     (repeat refine Hd.h ?_)
     refine Q1W l r m j fun w4 σ4 s=>?_
     exact Z6 Q j ⟨σ4,o.trans s,by rw[ad,step false (by rw[hP,d1,d2];rfl)]⟩
    | true=>
     (repeat refine Hd.h ?_)
     refine ld l r rfl ?_
     (repeat refine Hd.h ?_)
     refine Q1W l r m j fun w4 σ4 s=>?_
     exact Z6 Q j ⟨σ4,o.trans s,by rw[ad,step (!c.iface) (by rw[hP,d1,d2];rfl)]⟩
 ·have j: ¬n<c.fields.length:=by simpa using hc
  obtain rfl:n=c.fields.length:=by omega
  exact h _ _ o
set_option maxHeartbeats 2000000 in
theorem Ei {c:Cla} {lv fv mv:Value} {w1:World} {σ1:Q4} {q:Addr} {ok:Bool} (af:X4 w1 σ1) (hq:Z3 σ1 q [S c.name,S c.super,lv, .bool c.iface, .bool c.abs, .bool c.fin,fv,mv]) {i:Nat} {q9:Addr} {pv cv hv:Value} {N m0:Nat} {U:Nat→Value→World→Prop} (g3:Sl 7 L2 σ1 mv c.methods) (hi:i<c.methods.length) (Y:Z3 σ1 q9 [S c.methods[i].name,pv,S c.methods[i].result, .bool c.methods[i].abs,I c.methods[i].locals,cv,hv])
 (h: ∀w' σ',Stp w1 σ1 w' σ'→Sg N U (Value.bool (ok&&(List.range i).all (Qb c i)), .int .i64 (IntKind.i64.wrap (i+1))) w'∧Wy N (Value.bool (ok&&(List.range i).all (Qb c i)), .int .i64 (IntKind.i64.wrap (i+1)))<m0):
 lp (α:=Value×Value) (Value.bool ok,(.int .i64 0)) w1 fun A b d_ w=>
  Q3 P .lss T.e (.tmp 158) (.tmp 159) b.2 (I i) w fun M w=>
  X1 M (
   dr w fun e B=>
   Q6 e (fun g=> ∀w:World,B w→Q1 b.1 true w (fieldAddr P T.a (.pointer (some q)) 7) (dk e g w)) fun g=>
   Q6 e (fun t=> ∀w:World,B w→Q1 b.1 true w (fun w J=>J b.2 w) (dk e t w)) fun t=>
   Q6 e (fun o=> ∀w:World,B w→Q1 b.1 true w (fieldAddr P T.b (.pointer (some q9)) 0) (dk e o w)) fun o=>
   Q6 e (fun n=> ∀f:Value,∀w:World,B w→g f w→Q1 b.1 true w (Q2 P T.g f) (dk e n w)) fun n=>
   Q6 e (fun m=> ∀l:Value,∀u:Value,∀w:World,B w→n l w→t u w→Q1 b.1 true w (indexAddr P T.g l u) (dk e m w)) fun m=>
   Q6 e (fun j=> ∀s:Value,∀w:World,B w→m s w→Q1 b.1 true w (fieldAddr P T.b s 0) (dk e j w)) fun j=>
   Q6 e (fun z=> ∀p:Value,∀w:World,B w→j p w→Q1 b.1 true w (Q2 P T.c p) (dk e z w)) fun z=>
   Q6 e (fun y=> ∀r:Value,∀w:World,B w→o r w→Q1 b.1 true w (Q2 P T.c r) (dk e y w)) fun y=>
   ∀f:Value,∀u:Value,∀r:Value,∀l:Value,∀s:Value,∀p:Value,∀D:Value,∀C:Value,∀w:World,B w→g f w→t u w→o r w→n l w→m s w→j p w→z D w→y C w→
   Q1 b.1 true w (Q3 P .neq T.c (.tmp 170) (.tmp 172) D C) fun O w=>
   pick P b.1 O (.bool false) w fun R w=>
   Q3 P .add T.e (.tmp 161) (.const (.int .i64 1)) b.2 (.int .i64 1) w fun V w=>
   A (R,V) w) (
   Q3 P .add T.e (.tmp 128) (.const (.int .i64 1)) (I i) (.int .i64 1) w fun E w=>
   (Sg N U (b.1,E) w∧Wy N (b.1,E)<m0)):=by
 have aj:=g3.max
 refine O9 (a:=Value.bool ok) i (fun k x w'=> ∃σ',Stp w1 σ1 w' σ'∧x=Value.bool (ok&&(List.range k).all (Qb c i))) ⟨σ1,Stp.refl af,by simp⟩ fun k x w2 d hk L=>?_
 obtain ⟨σ2,v,rfl⟩:=L
 have az:=hq.up v
 have ak:=Y.up v
 have ad:=g3.up v
 have X:=v.sat
 refine Z0 ?_
 refine Q5 (fun W=>?_) (fun W=>?_)
 ·have ab:k<i:=by simpa using W
  have Q:k<c.methods.length:=by omega
  have H:(ok&&(List.range (k+1)).all (Qb c i))=((ok&&(List.range k).all (Qb c i))&&Qb c i k):=by rw[Ur,Bool.and_assoc]
  have hQ:Qb c i k= !decide (c.methods[k].name=c.methods[i].name):=by unfold Qb Ox;rw[E3 Q,E3 hi]
  rw[hQ] at H
  obtain ⟨ax,an,a0,p1,_⟩:=ad.elM Q
  generalize (ok&&(List.range k).all (Qb c i))=Z at H⊢
  clear h hQ W
  cases Z
  all_goals
   refine U9 X ?_
   (repeat refine J4 Qp ?_)
   (intros;(repeat (rename_i hx;subst hx));(try simp only[↓M2,M2,Mb,reduceIte]))
   rename_i w3 ae
   exact Z6 (by omega) ab ⟨σ2,v.trans ae.stp,by rw[H];rfl⟩
 ·have ac:k=i:=by
   have: ¬k<i:=by simpa using W
   omega
  subst ac
  (try simp only[↓M1,M1,Mb,reduceIte])
  exact h _ _ v
set_option maxHeartbeats 4000000 in
theorem X0N {c:Cla} {lv fv mv:Value} {w1:World} {σ1:Q4} {q:Addr} {ok:Bool} (bv:X4 w1 σ1) (hq:Z3 σ1 q [S c.name,S c.super,lv, .bool c.iface, .bool c.abs, .bool c.fin,fv,mv]) {J:Value→World→Prop} (g3:Sl 7 L2 σ1 mv c.methods)
 (h: ∀w' σ',Stp w1 σ1 w' σ'→J (.bool (ok&&(List.range c.methods.length).all fun i=>Li c i&&(List.range i).all (Qb c i))) w'):
 lp (α:=Value×Value) (Value.bool ok,(.int .i64 0)) w1 fun ad u d_ w=>
  fieldAddr P T.a (.pointer (some q)) 7 w fun bn w=>
  Q2 P T.g bn w fun bp w=>
  X5 P .len [T.g] T.e [false] [bp] w fun be w=>
  Q3 P .lss T.e (.tmp 123) (.tmp 126) u.2 be w fun ba w=>
  X1 ba (
   fieldAddr P T.a (.pointer (some q)) 7 w fun ax w=>
   Q2 P T.g ax w fun bd w=>
   indexAddr P T.g bd u.2 w fun bo w=>
   Q2 P T.b bo w fun a1 w=>
   W6 P T.b w fun t9 w=>
   Z2 P T.b t9 a1 w fun _u w=>
   Q1 u.1 true w (Q2 P T.b t9) fun az w=>
   Q1 u.1 true w (Q0 P F.w [az]) fun bg w=>
   pick P u.1 bg (.bool false) w fun s w=>
   Q1 s true w (fieldAddr P T.b t9 3) fun a6 w=>
   Q1 s true w (Q2 P T.p a6) fun ay w=>
   Q1 s true w (J7 P .not ay) fun ar w=>
   Q1 s true w (fun w J=>J ar w) fun ac w=>
   Q1 ac false w (fieldAddr P T.a (.pointer (some q)) 4) fun bf w=>
   Q1 ac false w (Q2 P T.p bf) fun a7 w=>
   Q1 s true w (pick P ac (.bool true) a7) fun a4 w=>
   pick P s a4 (.bool false) w fun p w=>
   Q1 p true w (fieldAddr P T.a (.pointer (some q)) 3) fun bl w=>
   Q1 p true w (Q2 P T.p bl) fun a8 w=>
   Q1 p true w (J7 P .not a8) fun bk w=>
   Q1 p true w (fun w J=>J bk w) fun aa w=>
   Q1 aa false w (fieldAddr P T.b t9 3) fun bi w=>
   Q1 aa false w (Q2 P T.p bi) fun a5 w=>
   Q1 p true w (pick P aa (.bool true) a5) fun bc w=>
   pick P p bc (.bool false) w fun bb w=>
   lp (α:=Value×Value) (bb,(.int .i64 0)) w fun Z k d_ w=>
    Q3 P .lss T.e (.tmp 158) (.tmp 159) k.2 u.2 w fun a0 w=>
    X1 a0 (
     dr w fun y Br=>
     Q6 y (fun E=> ∀w:World,Br w→Q1 k.1 true w (fieldAddr P T.a (.pointer (some q)) 7) (dk y E w)) fun E=>
     Q6 y (fun O=> ∀w:World,Br w→Q1 k.1 true w (fun w J=>J k.2 w) (dk y O w)) fun O=>
     Q6 y (fun B=> ∀w:World,Br w→Q1 k.1 true w (fieldAddr P T.b t9 0) (dk y B w)) fun B=>
     Q6 y (fun M=> ∀z:Value,∀w:World,Br w→E z w→Q1 k.1 true w (Q2 P T.g z) (dk y M w)) fun M=>
     Q6 y (fun L=> ∀H:Value,∀Q:Value,∀w:World,Br w→M H w→O Q w→Q1 k.1 true w (indexAddr P T.g H Q) (dk y L w)) fun L=>
     Q6 y (fun A=> ∀D:Value,∀w:World,Br w→L D w→Q1 k.1 true w (fieldAddr P T.b D 0) (dk y A w)) fun A=>
     Q6 y (fun ab=> ∀C:Value,∀w:World,Br w→A C w→Q1 k.1 true w (Q2 P T.c C) (dk y ab w)) fun ab=>
     Q6 y (fun V=> ∀N:Value,∀w:World,Br w→B N w→Q1 k.1 true w (Q2 P T.c N) (dk y V w)) fun V=>
     ∀z:Value,∀Q:Value,∀N:Value,∀H:Value,∀D:Value,∀C:Value,∀ai:Value,∀ah:Value,∀w:World,Br w→E z w→O Q w→B N w→M H w→L D w→A C w→ab ai w→V ah w→
     Q1 k.1 true w (Q3 P .neq T.c (.tmp 170) (.tmp 172) ai ah) fun a3 w=>
     pick P k.1 a3 (.bool false) w fun bj w=>
     Q3 P .add T.e (.tmp 161) (.const (.int .i64 1)) k.2 (.int .i64 1) w fun a9 w=>
     Z (bj,a9) w) (
     Q3 P .add T.e (.tmp 128) (.const (.int .i64 1)) u.2 (.int .i64 1) w fun bh w=>
     ad (k.1,bh) w)) (
   J u.1 w):=by
 have o:=g3.max
 refine O9 (a:=Value.bool ok) c.methods.length (fun n x w'=> ∃σ',Stp w1 σ1 w' σ'∧x=Value.bool (ok&&(List.range n).all fun i=>Li c i&&(List.range i).all (Qb c i))) ⟨σ1,Stp.refl bv,by simp⟩ fun n x w2 d b7 av=>?_
 obtain ⟨σ2,W,rfl⟩:=av
 have ak:=hq.up W
 have af:=g3.up W
 have ag:=W.sat
 (repeat refine Hd.h ?_)
 refine ld ag ak rfl ?_
 refine Q9 af ?_
 refine Z0 ?_
 refine Q5 (fun hc=>?_) (fun hc=>?_)
 ·have f:n<c.methods.length:=by simpa using hc
  have v:(ok&&(List.range (n+1)).all fun i=>Li c i&&(List.range i).all (Qb c i))=((ok&&(List.range n).all fun i=>Li c i&&(List.range i).all (Qb c i))&&(Li c n&&(List.range n).all (Qb c n))):=by rw[Ur,Bool.and_assoc]
  have hP:Li c n=(C6 c.methods[n]&&(!c.methods[n].abs||c.abs)&&(!c.iface||c.methods[n].abs)):=by unfold Li Ox;rw[E3 f]
  obtain ⟨pv,cv,hv,p1,r1⟩:=af.elM f
  generalize (ok&&(List.range n).all fun i=>Li c i&&(List.range i).all (Qb c i))=am at v⊢
  clear h hc
  have step: ∀b,b=(am&&Li c n)→(am&&(Li c n&&(List.range n).all (Qb c n)))=(b&&(List.range n).all (Qb c n)):=fun b e=>by rw[e,Bool.and_assoc]
  (repeat refine Hd.h ?_)
  refine ld ag ak rfl ?_
  refine U1 af f ?_
  refine Z1 ag p1 rfl ?_
  refine Y6 ag (by rfl) rfl (Rep.one r1) fun q9 w3 σ3 Y al=>?_
  have an:=Y.sat
  have a2:=ak.up Y
  have bm:=af.up Y
  have r3:=RMe_lift r1 ⟨Y.le⟩
  have aj:=W.trans Y
  cases am with
  | false=>
   (repeat refine Hd.h ?_)
   refine Ei an a2 bm f al fun w4 U l=>?_
   exact Z6 o f ⟨U,aj.trans l,by rw[v];rfl⟩
  | true=>
   (repeat refine Hd.h ?_)
   refine Z1 an al rfl ?_
   (repeat refine Hd.h ?_)
   refine Q6w an r3 fun w5 σ5 X=>?_
   have m:=X.sat
   have t:=a2.up X
   have g:=al.up X
   have R:=bm.up X
   have r:=aj.trans X
   cases d1:C6 c.methods[n] with
   | false=>
    (repeat refine Hd.h ?_)
    refine Ei m t R f g fun w4 U l=>?_
    exact Z6 o f ⟨U,r.trans l,by rw[v,step false (by rw[hP,d1];rfl)]⟩
   | true=>
    (repeat refine Hd.h ?_)
    refine ld m g rfl ?_
    (repeat refine Hd.h ?_)
    have j: ∀b1:Bool,b1=(!c.methods[n].abs||c.abs)→Li c n=(b1&&(!c.iface||c.methods[n].abs)):=fun b1 e=>by rw[hP,d1,e];rfl
    cases d2:c.methods[n].abs with
    | false=>
     rw[d2] at j g
     simp only[Bool.not_true,Bool.not_false]
     (repeat refine Hd.h ?_)
     refine ld m t rfl ?_
     (repeat refine Hd.h ?_)
     cases d4:c.iface with
     | false=>
      simp only[Bool.not_true,Bool.not_false]
      (repeat refine Hd.h ?_)
      refine Ei m t R f (by rw[d2];exact g) fun w4 U l=>?_
      exact Z6 o f ⟨U,r.trans l,by rw[v,step true (by rw[j true rfl,d4];rfl)]⟩
     | true=>
      simp only[Bool.not_true,Bool.not_false]
      (repeat refine Hd.h ?_)
      refine ld m g rfl ?_
      (repeat refine Hd.h ?_)
      refine Ei m t R f (by rw[d2];exact g) fun w4 U l=>?_
      exact Z6 o f ⟨U,r.trans l,by rw[v,step false (by rw[j true rfl,d4];rfl)]⟩
    | true=>
     rw[d2] at j g
     simp only[Bool.not_true,Bool.not_false]
     (repeat refine Hd.h ?_)
     refine ld m t rfl ?_
     cases d3:c.abs with
     | false=>
      (repeat refine Hd.h ?_)
      refine Ei m t R f (by rw[d2];exact g) fun w4 U l=>?_
      exact Z6 o f ⟨U,r.trans l,by rw[v,step false (by rw[j false (by rw[d3];rfl)];rfl)]⟩
     | true=>
      (repeat refine Hd.h ?_)
      refine ld m t rfl ?_
      (repeat refine Hd.h ?_)
      cases d4:c.iface with
      | false=>
       simp only[Bool.not_true,Bool.not_false]
       (repeat refine Hd.h ?_)
       refine Ei m t R f (by rw[d2];exact g) fun w4 U l=>?_
       exact Z6 o f ⟨U,r.trans l,by rw[v,step true (by rw[j true (by rw[d3];rfl),d4];rfl)]⟩
      | true=>
       simp only[Bool.not_true,Bool.not_false]
       (repeat refine Hd.h ?_)
       refine ld m g rfl ?_
       (repeat refine Hd.h ?_)
       refine Ei m t R f (by rw[d2];exact g) fun w4 U l=>?_
       exact Z6 o f ⟨U,r.trans l,by rw[v,step true (by rw[j true (by rw[d3];rfl),d4];rfl)]⟩
 ·have f: ¬n<c.methods.length:=by simpa using hc
  obtain rfl:n=c.methods.length:=by omega
  exact h _ _ W
theorem X0F {c:Cla} {L H mv:Value} {w1:World} {σ1:Q4} {q:Addr} {ok:Bool} (d:X4 w1 σ1) (g:Z3 σ1 q [S c.name,S c.super,L, .bool c.iface, .bool c.abs, .bool c.fin,H,mv]) (h:K (.bool (ok&&Q7r c)) w1):
 Q1 (Value.bool ok) true w1 (fieldAddr P T.a (.pointer (some q)) 3) fun v w=>
  Q1 (Value.bool ok) true w (Q2 P T.p v) fun r w=>
  Q1 (Value.bool ok) true w (J7 P .not r) fun B w=>
  Q1 (Value.bool ok) true w (fun w J=>J B w) fun b w=>
  Q1 b false w (fieldAddr P T.a (.pointer (some q)) 4) fun n w=>
  Q1 b false w (Q2 P T.p n) fun j w=>
  Q1 b false w (fun w J=>J j w) fun e w=>
  Q1 e true w (fieldAddr P T.a (.pointer (some q)) 1) fun s w=>
  Q1 e true w (Q2 P T.c s) fun C w=>
  Q1 e true w (Q3 P .eql T.c (.tmp 185) (.const (.string ⟨#[79,98,106,101,99,116]⟩)) C (.string ⟨#[79,98,106,101,99,116]⟩)) fun u w=>
  Q1 b false w (pick P e u (.bool false)) fun k w=>
  Q1 (Value.bool ok) true w (pick P b (.bool true) k) fun y w=>
  pick P (Value.bool ok) y (.bool false) w fun a w=>
  Q1 a true w (fieldAddr P T.a (.pointer (some q)) 4) fun z w=>
  Q1 a true w (Q2 P T.p z) fun m w=>
  Q1 a true w (fun w J=>J m w) fun f w=>
  Q1 f true w (fieldAddr P T.a (.pointer (some q)) 5) fun A w=>
  Q1 f true w (Q2 P T.p A) fun t w=>
  Q1 a true w (pick P f t (.bool false)) fun p w=>
  Q1 a true w (J7 P .not p) fun l w=>
  pick P a l (.bool false) w fun o w=>
  K o w:=by
 unfold Q7r at h
 have M:decide (c.super=Z8)=decide (c.super=[79,98,106,101,99,116]):=rfl
 rw[M] at h
 cases ok with
 | false=>(try simp only[↓M1,M1,Mb,reduceIte]);simpa using h
 | true=>
  (try simp only[↓M1,M1,Mb,reduceIte])
  refine ld d g rfl ?_
  (try simp only[↓M1,M1,Mb,reduceIte])
  cases E:c.iface with
  | false=>
   rw[E] at h
   (try simp only[↓M1,M1,Mb,reduceIte])
   refine ld d g rfl ?_
   cases i:c.abs with
   | false=>rw[i] at h;(try simp only[↓M1,M1,Mb,reduceIte]);simpa using h
   | true=>
    rw[i] at h
    (try simp only[↓M1,M1,Mb,reduceIte])
    refine ld d g rfl ?_
    (try simp only[↓M1,M1,Mb,reduceIte])
    simpa using h
  | true=>
   rw[E] at h
   (try simp only[↓M1,M1,Mb,reduceIte])
   refine ld d g rfl ?_
   cases i:c.abs with
   | false=>rw[i] at h;(try simp only[↓M1,M1,Mb,reduceIte]);simpa using h
   | true=>
    rw[i] at h
    (try simp only[↓M1,M1,Mb,reduceIte])
    refine ld d g rfl ?_
    (try simp only[↓M1,M1,Mb,reduceIte])
    cases D:decide (c.super=[79,98,106,101,99,116]) with
    | false=>rw[D] at h;(try simp only[↓M1,M1,Mb,reduceIte]);simpa using h
    | true=>
     rw[D] at h
     (try simp only[↓M1,M1,Mb,reduceIte])
     refine ld d g rfl ?_
     simp only[i,↓M1,M1,Mb,reduceIte]
     refine ld d g rfl ?_
     (try simp only[↓M1,M1,Mb,reduceIte])
     simpa using h
end Go.Proofs.YtfppjenblllfaaaGreatDoor

namespace Go.Proofs.YtfppjenblllfaaaGreatDoor
open Go.Emb Go.RowKit Go.Kd Go.Hm
theorem Q5k {c:Cla} (h:M4 c=0):W2 c.name=true∧W2 c.super=true∧(c.iface=true→c.super=Z8∧c.fields=[]∧c.abs=true∧ ∀m∈c.methods,m.abs=true)∧(∀m∈c.methods,m.abs=true→c.abs=true)∧c.fields.all Nv=true∧c.methods.all C6=true∧E8 Fld.name [] c.fields=true∧E8 Hm.Met.name [] c.methods=true:=by
 unfold M4 at h
 split at h
 ·cases h
 split at h
 ·rename_i k
  simp only[Lj,Bool.and_eq_true] at k
  obtain ⟨⟨⟨⟨⟨⟨⟨⟨j,v⟩,u⟩,i⟩,f⟩,n⟩,t⟩,s⟩,q⟩:=k
  refine ⟨List.all_eq_true.1 j c.name (by simp),List.all_eq_true.1 j c.super (by simp),fun p=>?_,fun m g r=>?_,s,q,n,t⟩
  ·rw[p] at i
   simp only[Bool.true_and,Bool.not_eq_true',Bool.or_eq_false_iff,Bool.not_eq_false',decide_eq_true_eq] at i
   obtain ⟨⟨⟨a,b⟩,d⟩,e⟩:=i
   refine ⟨b,d,a,fun m g=>?_⟩
   have:=List.any_eq_false.1 e m g
   simpa using this
  ·simp only[Bool.not_eq_true',Bool.or_eq_false_iff] at f
   obtain ⟨_,f⟩:=f
   have o:c.methods.any (·.abs)=true:=List.any_eq_true.2 ⟨m,g,r⟩
   rw[o] at f
   simpa using f
 ·cases h
theorem Q7n {l:List Cla} {c:Cla} (b:c∈Q7 l) (a:c.iface=true):c∈l:=by
 rcases List.mem_append.1 b with h | h
 ·have: ∀c∈F0,c.iface=false:=by decide
  rw[this c h] at a;cases a
 ·exact h
section
variable {l : List Cla} (wf : Wf l)
include wf
theorem Wf.likes {c:Cla} (f:c∈Q7 l) {u:X0} (b:u∈c.like): ∃d,lk (Q7 l) u=some d∧d.iface=true:=by
 rcases List.mem_append.1 f with h | h
 ·rw[(Yr c h).2.2] at b;simp at b
 ·have:=wf.up c h
  unfold L5 at this
  split at this
  ·cases this
  ·split at this
   ·cases this
   ·rename_i a
    have a:=List.any_eq_false.1 (eq_false_of_ne_true a) u b
    unfold O5 at a
    cases e:lk (Q7 l) u with
    | none=>rw[e] at a;simp at a
    | some d=>rw[e] at a;exact ⟨d,rfl,by simpa using a⟩
theorem Wf.above_iface {u b:X0} (h:Hm.Reach (lk (Q7 l)) u b): ∀d,lk (Q7 l) u=some d→d.iface=true→b=Z8∨ ∃e,lk (Q7 l) b=some e∧e.iface=true:=by
 induction h with
 | refl h=>intro d a c;exact .inr ⟨d,a,c⟩
 | step i hu j n=>
  intro d a c
  rw[i] at a;cases a
  obtain ⟨e,k,_⟩:=U4 i
  rcases List.mem_cons.1 hu with rfl | hu
  ·rw[((Q5k (wf.ck _ (Q7n k c))).2.2.1 c).1] at j
   exact .inl (wf.atRoot j)
  ·obtain ⟨f,m,g⟩:=wf.likes k hu
   exact n f m g
theorem Wf.by_chain {n b:X0} (h:Hm.Reach (lk (Q7 l)) n b): ∀e,lk (Q7 l) b=some e→e.iface=false→b≠Z8→e∈chain (Q7 l) n:=by
 induction h with
 | refl h=>
  intro e c _ _
  rw[F5 wf.acy,c];simp
 | step i hu o q=>
  intro e c j m
  obtain ⟨en,p,_⟩:=U4 i
  rcases List.mem_cons.1 hu with rfl | hu
  ·rw[F5 wf.acy,i]
   exact List.mem_cons_of_mem _ (q e c j m)
  ·obtain ⟨f,r,d⟩:=wf.likes p hu
   rcases wf.above_iface o f r d with h | ⟨g,k,a⟩
   ·exact absurd h m
   ·rw[c] at k;cases k;rw[j] at a;cases a
theorem Wf.chain_tail: ∀(k:Nat) {n:X0} {c:Cla},F6 (Q7 l) n<k→c∈chain (Q7 l) n→ ∃a,chain (Q7 l) n=a++chain (Q7 l) c.name:=by
 intro k
 induction k with
 | zero=>intro n c h;omega
 | succ k m=>
  intro n c o hc
  rw[F5 wf.acy] at hc
  cases b:lk (Q7 l) n with
  | none=>rw[b] at hc;simp at hc
  | some d=>
   rw[b] at hc
   have f:=(U4 b).1
   rcases List.mem_cons.1 hc with rfl | hc
   ·exact ⟨[],by rw[f];rfl⟩
   ·cases g:lk (Q7 l) d.super with
    | none=>rw[K0 g] at hc;simp at hc
    | some e=>
     have i:d.super∈J3 d:=by simp[J3]
     obtain ⟨a,j⟩:=m (by have:=Xu wf.acy b i g;omega) hc
     exact ⟨d::a,by rw[F5 wf.acy,b];show d::chain (Q7 l) d.super=_;rw[j];rfl⟩
theorem Wf.fields_tail {n:X0} {c:Cla} (h:c∈chain (Q7 l) n): ∃a,M6 (Q7 l) n=M6 (Q7 l) c.name++a:=by
 obtain ⟨b,d⟩:=wf.chain_tail _ (Nat.lt_succ_self _) h
 exact ⟨b.reverse.flatMap (·.fields),by unfold M6;rw[d];simp⟩
theorem Wf.none_nil:lk (Q7 l) []=none:=by
 cases h:lk (Q7 l) [] with
 | none=>rfl
 | some c=>exact absurd (wf.lkn h) (by decide)
theorem Wf.fault_fields:M6 (Q7 l) V8=[⟨K3,N6,false⟩]:=by
 unfold M6
 rw[F5 wf.acy,wf.fault]
 simp only
 rw[F5 wf.acy,wf.root]
 simp only
 rw[K0 wf.none_nil]
 rfl
theorem Wf.what {n:X0} (h:H4 (Q7 l) n V8=true) {c:Cla} (f:lk (Q7 l) n=some c):Xg (Q7 l) n K3=some 0:=by
 have d:=(wf.sub_class f).1 h
 have e:=wf.by_chain d _ wf.fault rfl (by decide)
 obtain ⟨a,b⟩:=wf.fields_tail e
 unfold Xg
 rw[b,show (Cla.mk V8 Z8 [] false false false [⟨K3,N6,false⟩] []).name=V8 from rfl,wf.fault_fields]
 rfl
end
end Go.Proofs.YtfppjenblllfaaaGreatDoor

namespace Go.Hm
open Go.Kd
end Go.Hm
namespace Go.Proofs.YtfppjenblllfaaaGreatDoor
open Go.Emb Go.RowKit Go.Kd Go.Hm
section
variable {l : List Cla} (wf : Wf l)
include wf
end
end Go.Proofs.YtfppjenblllfaaaGreatDoor
namespace Go.Proofs.YtfppjenblllfaaaGreatDoor
open Go.Emb Go.RowKit Go.Kd Go.Hm
end Go.Proofs.YtfppjenblllfaaaGreatDoor
namespace Go.Proofs.YtfppjenblllfaaaGreatDoor
open Go.Emb Go.RowKit Go.Kd Go.Hm
section
variable {l : List Cla} (wf : Wf l)
include wf
end
end Go.Proofs.YtfppjenblllfaaaGreatDoor

namespace Go.Proofs.YtfppjenblllfaaaGreatDoor
open Go.Emb Go.RowKit Go.Kd Go.Hm
variable {w : World} {K : Value → World → Prop} {σ : Q4}
def Q4Q (c:Cla):Bool:=((((W2 c.name&&W2 c.super&& !decide (c.name=c.super))&&(List.range c.like.length).all fun i=>Lh c i&&(List.range i).all (I1 c i))&&(List.range c.fields.length).all fun i=>Nb c i&&(List.range i).all (Qc c i))&&(List.range c.methods.length).all fun i=>Li c i&&(List.range i).all (Qb c i))&&Q7r c
theorem Q9a {α:Type} {f:α→X0}: ∀(xs a:List α),E8 f a xs=true↔(xs.map f).Nodup∧ ∀x∈xs,∀y∈a,f y≠f x:=by
 intro xs
 induction xs with
 | nil=>intro a;simp[E8]
 | cons x r h=>
  intro a
  simp only[E8,Bool.and_eq_true,h,Bool.not_eq_true',List.map_cons,List.nodup_cons]
  rw[←Bool.not_eq_true,List.any_eq_true]
  simp only[decide_eq_true_eq,not_exists,not_and,List.mem_append,List.mem_cons,List.not_mem_nil,or_false,List.mem_map]
  constructor
  ·rintro ⟨g,d,c⟩
   refine ⟨⟨fun y hy e=>c y hy x (.inr rfl) e.symm,d⟩,fun y hy z b=>?_⟩
   rcases hy with rfl | hy
   ·exact g z b
   ·exact c y hy z (.inl b)
  ·rintro ⟨⟨g,d⟩,c⟩
   refine ⟨fun y hy=>c x (.inl rfl) y hy,d,fun y hy z b=>?_⟩
   rcases b with b | rfl
   ·exact c y (.inr hy) z b
   ·exact fun e=>g y hy e.symm
theorem Tu {α:Type} {f:α→X0} {xs:List α} {p:α→Bool} {P:Nat→Bool} {Q:Nat→Nat→Bool} (d: ∀i (h:i<xs.length),P i=p xs[i]) (e: ∀i (h:i<xs.length) k (o:k<xs.length),Q i k= !decide (f xs[k]=f xs[i])):
 ((List.range xs.length).all fun i=>P i&&(List.range i).all (Q i))=true↔(∀x∈xs,p x=true)∧E8 f [] xs=true:=by
 rw[Q9a,List.all_eq_true]
 simp only[List.mem_range,Bool.and_eq_true,List.all_eq_true,List.not_mem_nil,false_implies,implies_true,and_true]
 rw[List.nodup_iff_pairwise_ne,List.pairwise_iff_getElem]
 simp only[List.length_map,List.getElem_map]
 constructor
 ·intro h
  refine ⟨fun x l=>?_,fun i j a c b=>?_⟩
  ·obtain ⟨i,a,rfl⟩:=List.getElem_of_mem l
   rw[←d i a];exact (h i a).1
  ·have:=(h j c).2 i b
   rw[e j c i a] at this
   simpa using this
 ·rintro ⟨g,m⟩ i a
  refine ⟨by rw[d i a];exact g _ (List.getElem_mem a),fun k n=>?_⟩
  rw[e i a k (by omega)]
  simpa using m k i (by omega) a n
theorem Q9n (c:Cla):Q4Q c=Lj c:=by
 have A:=Tu (f:=id) (xs:=c.like) (p:=fun y=>W2 y&& !decide (y=c.name)) (P:=Lh c) (Q:=I1 c) (fun i h=>by unfold Lh;rw[E3 h]) (fun i h k n=>by unfold I1;rw[E3 h,E3 n];rfl)
 have g:=Tu (f:=Fld.name) (xs:=c.fields) (p:=fun f=>L8 f.name&&right f.kind&& !c.iface) (P:=Nb c) (Q:=Qc c) (fun i h=>by unfold Nb Hz;rw[E3 h]) (fun i h k n=>by unfold Qc Hz;rw[E3 h,E3 n])
 have d:=Tu (f:=Hm.Met.name) (xs:=c.methods) (p:=fun m=>C6 m&&(!m.abs||c.abs)&&(!c.iface||m.abs)) (P:=Li c) (Q:=Qb c) (fun i h=>by unfold Li Ox;rw[E3 h]) (fun i h k n=>by unfold Qb Ox;rw[E3 h,E3 n])
 rw[Bool.eq_iff_iff]
 unfold Q4Q Lj Q7r
 simp only[Bool.and_eq_true,A,g,d]
 simp only[Bool.and_eq_true,Bool.not_eq_true',Bool.or_eq_true,Bool.and_eq_false_iff,Bool.or_eq_false_iff,decide_eq_true_eq,decide_eq_false_iff_not,List.all_eq_true,List.mem_cons,List.any_eq_false,Nv,Bool.not_eq_false']
 constructor
 ·rintro ⟨⟨⟨⟨⟨⟨l,o⟩,u⟩,a,s⟩,h6,r⟩,j,q⟩,b,t⟩
  refine ⟨⟨⟨⟨⟨⟨⟨⟨?_,?_⟩,s⟩,?_⟩,t,?_⟩,r⟩,q⟩,?_⟩,fun m d=>(j m d).1.1⟩
  ·rintro x (rfl | rfl | hx)
   ·exact l
   ·exact o
   ·exact (a x hx).1
  ·rintro x (rfl | hx)
   ·exact u
   ·exact fun e=>(a x hx).2 e.symm
  ·cases v:c.iface with
   | false=>exact .inl rfl
   | true=>
    rw[v] at b h6 j
    have b:=b.resolve_left (by decide)
    refine .inr ⟨⟨b,?_⟩,fun m d e=>?_⟩
    ·rw[List.eq_nil_iff_forall_not_mem]
     intro f g
     exact absurd (h6 f g).2 (by decide)
    ·have:=(j m d).2.resolve_left (by decide)
     rw[this] at e;cases e
  ·cases z:c.abs with
   | true=>exact .inr rfl
   | false=>
    rw[z] at j
    refine .inl fun m d e=>?_
    have:=(j m d).1.2.resolve_right (by decide)
    rw[this] at e;cases e
  ·exact fun f g=>(h6 f g).1
 ·rintro ⟨⟨⟨⟨⟨⟨⟨⟨l,o⟩,u⟩,a⟩,s,h6⟩,r⟩,j⟩,q⟩,b⟩
  refine ⟨⟨⟨⟨⟨⟨l _ (.inl rfl),l _ (.inr (.inl rfl))⟩,o _ (.inl rfl)⟩,fun x hx=>⟨l x (.inr (.inr hx)),fun e=>o x (.inr hx) e.symm⟩,u⟩,fun f g=>⟨q f g,?_⟩,r⟩,fun m d=>⟨⟨b m d,?_⟩,?_⟩,j⟩,?_,s⟩
  ·rcases a with a | ⟨⟨_,a⟩,_⟩
   ·exact a
   ·rw[a] at g;simp at g
  ·rcases h6 with h6 | h6
   ·left;exact eq_false_of_ne_true (h6 m d)
   ·exact .inr h6
  ·rcases a with a | ⟨_,a⟩
   ·exact .inl a
   ·right
    cases hx:m.abs with
    | true=>rfl
    | false=>exact absurd hx (a m d)
  ·rcases a with a | ⟨⟨a,_⟩,_⟩
   ·exact .inl a
   ·exact .inr a
set_option maxHeartbeats 4000000 in
theorem Q7S {c:Cla} {cs:List Value} (hs:X4 w σ) (hc:U6 σ c cs) (h: ∀w' σ',Stp w σ w' σ'→K (.bool (Q4Q c)) w'):Q0 P F.ba [.agg cs.toArray] w K:=Gk (by
 unfold Ln
 obtain ⟨lv,fv,mv,rfl,f1,f2,f3,f4,f5⟩:=hc
 have c8:c.name.length≤140737488355328:=by simp only[Z7] at f4;omega
 have c3:c.super.length≤140737488355328:=by simp only[Z7] at f5;omega
 refine Y8 hs fun q w1 σ1 bu hq=>?_
 have g1:=f1.up bu
 have g2:=f2.up bu
 have g3:=f3.up bu
 have cb:=bu.sat
 have ch: ∀ok:Bool,ok=(W2 c.name&&W2 c.super&& !decide (c.name=c.super))→_:=fun ok e=>
  Q9v (w1:=w1) (σ1:=σ1) (ok:=ok) cb hq (J:=fun v w=>lp (α:=Value×Value) (v,(.int .i64 0)) w fun bl o d_ w=>
   fieldAddr P T.a (.pointer (some q)) 6 w fun c9 w=>
   Q2 P T.i c9 w fun da w=>
   X5 P .len [T.i] T.e [false] [da] w fun c1 w=>
   Q3 P .lss T.e (.tmp 71) (.tmp 74) o.2 c1 w fun dc w=>
   X1 dc (
    Q1 o.1 true w (fieldAddr P T.a (.pointer (some q)) 6) fun dd w=>
    Q1 o.1 true w (Q2 P T.i dd) fun db w=>
    Q1 o.1 true w (fun w J=>J o.2 w) fun cv w=>
    Q1 o.1 true w (indexAddr P T.i db cv) fun cz w=>
    Q1 o.1 true w (fieldAddr P T.k cz 0) fun cx w=>
    Q1 o.1 true w (Q2 P T.c cx) fun c4 w=>
    Q1 o.1 true w (Q0 P F.r [c4]) fun cu w=>
    pick P o.1 cu (.bool false) w fun ag w=>
    Q1 ag true w (fieldAddr P T.a (.pointer (some q)) 6) fun c0 w=>
    Q1 ag true w (Q2 P T.i c0) fun cr w=>
    Q1 ag true w (fun w J=>J o.2 w) fun c6 w=>
    Q1 ag true w (indexAddr P T.i cr c6) fun cw w=>
    Q1 ag true w (fieldAddr P T.k cw 1) fun c5 w=>
    Q1 ag true w (Q2 P T.c c5) fun de w=>
    Q1 ag true w (Q0 P F.i [de]) fun c7 w=>
    pick P ag c7 (.bool false) w fun cd w=>
    Q1 cd true w (fieldAddr P T.a (.pointer (some q)) 3) fun c2 w=>
    Q1 cd true w (Q2 P T.p c2) fun cq w=>
    Q1 cd true w (J7 P .not cq) fun cn w=>
    pick P cd cn (.bool false) w fun co w=>
    lp (α:=Value×Value) (co,(.int .i64 0)) w fun bo l d_ w=>
     Q3 P .lss T.e (.tmp 102) (.tmp 103) l.2 o.2 w fun cp w=>
     X1 cp (
      dr w fun d n=>
      Q6 d (fun a0=> ∀w:World,n w→Q1 l.1 true w (fieldAddr P T.a (.pointer (some q)) 6) (dk d a0 w)) fun a0=>
      Q6 d (fun av=> ∀w:World,n w→Q1 l.1 true w (fun w J=>J l.2 w) (dk d av w)) fun av=>
      Q6 d (fun a3=> ∀w:World,n w→Q1 l.1 true w (fieldAddr P T.a (.pointer (some q)) 6) (dk d a3 w)) fun a3=>
      Q6 d (fun a5=> ∀w:World,n w→Q1 l.1 true w (fun w J=>J o.2 w) (dk d a5 w)) fun a5=>
      Q6 d (fun a2=> ∀ba:Value,∀w:World,n w→a0 ba w→Q1 l.1 true w (Q2 P T.i ba) (dk d a2 w)) fun a2=>
      Q6 d (fun ao=> ∀ap:Value,∀aw:Value,∀w:World,n w→a2 ap w→av aw w→Q1 l.1 true w (indexAddr P T.i ap aw) (dk d ao w)) fun ao=>
      Q6 d (fun a1=> ∀a6:Value,∀w:World,n w→ao a6 w→Q1 l.1 true w (fieldAddr P T.k a6 0) (dk d a1 w)) fun a1=>
      Q6 d (fun bm=> ∀a7:Value,∀w:World,n w→a1 a7 w→Q1 l.1 true w (Q2 P T.c a7) (dk d bm w)) fun bm=>
      Q6 d (fun a9=> ∀ay:Value,∀w:World,n w→a3 ay w→Q1 l.1 true w (Q2 P T.i ay) (dk d a9 w)) fun a9=>
      Q6 d (fun a8=> ∀aq:Value,∀ar:Value,∀w:World,n w→a9 aq w→a5 ar w→Q1 l.1 true w (indexAddr P T.i aq ar) (dk d a8 w)) fun a8=>
      Q6 d (fun a4=> ∀ax:Value,∀w:World,n w→a8 ax w→Q1 l.1 true w (fieldAddr P T.k ax 0) (dk d a4 w)) fun a4=>
      Q6 d (fun bz=> ∀az:Value,∀w:World,n w→a4 az w→Q1 l.1 true w (Q2 P T.c az) (dk d bz w)) fun bz=>
      ∀ba:Value,∀aw:Value,∀ay:Value,∀ar:Value,∀ap:Value,∀a6:Value,∀a7:Value,∀cg:Value,∀aq:Value,∀ax:Value,∀az:Value,∀cf:Value,∀w:World,n w→a0 ba w→av aw w→a3 ay w→a5 ar w→a2 ap w→ao a6 w→a1 a7 w→bm cg w→a9 aq w→a8 ax w→a4 az w→bz cf w→
      Q1 l.1 true w (Q3 P .neq T.c (.tmp 114) (.tmp 120) cg cf) fun cl w=>
      pick P l.1 cl (.bool false) w fun cj w=>
      Q3 P .add T.e (.tmp 105) (.const (.int .i64 1)) l.2 (.int .i64 1) w fun ck w=>
      bo (cj,ck) w) (
      Q3 P .add T.e (.tmp 76) (.const (.int .i64 1)) o.2 (.int .i64 1) w fun ct w=>
      bl (l.1,ct) w)) (
    lp (α:=Value×Value) (o.1,(.int .i64 0)) w fun Q f d_ w=>
     fieldAddr P T.a (.pointer (some q)) 7 w fun b9 w=>
     Q2 P T.g b9 w fun cc w=>
     X5 P .len [T.g] T.e [false] [cc] w fun b1 w=>
     Q3 P .lss T.e (.tmp 123) (.tmp 126) f.2 b1 w fun bv w=>
     X1 bv (
      fieldAddr P T.a (.pointer (some q)) 7 w fun bd w=>
      Q2 P T.g bd w fun b0 w=>
      indexAddr P T.g b0 f.2 w fun ca w=>
      Q2 P T.b ca w fun bh w=>
      W6 P T.b w fun t9 w=>
      Z2 P T.b t9 bh w fun _u w=>
      Q1 f.1 true w (Q2 P T.b t9) fun bf w=>
      Q1 f.1 true w (Q0 P F.w [bf]) fun b2 w=>
      pick P f.1 b2 (.bool false) w fun k w=>
      Q1 k true w (fieldAddr P T.b t9 3) fun bp w=>
      Q1 k true w (Q2 P T.p bp) fun be w=>
      Q1 k true w (J7 P .not be) fun bb w=>
      Q1 k true w (fun w J=>J bb w) fun O w=>
      Q1 O false w (fieldAddr P T.a (.pointer (some q)) 4) fun b3 w=>
      Q1 O false w (Q2 P T.p b3) fun bq w=>
      Q1 k true w (pick P O (.bool true) bq) fun bj w=>
      pick P k bj (.bool false) w fun j w=>
      Q1 j true w (fieldAddr P T.a (.pointer (some q)) 3) fun b8 w=>
      Q1 j true w (Q2 P T.p b8) fun br w=>
      Q1 j true w (J7 P .not br) fun b7 w=>
      Q1 j true w (fun w J=>J b7 w) fun M w=>
      Q1 M false w (fieldAddr P T.b t9 3) fun b5 w=>
      Q1 M false w (Q2 P T.p b5) fun bk w=>
      Q1 j true w (pick P M (.bool true) bk) fun bx w=>
      pick P j bx (.bool false) w fun bw w=>
      lp (α:=Value×Value) (bw,(.int .i64 0)) w fun L b d_ w=>
       Q3 P .lss T.e (.tmp 158) (.tmp 159) b.2 f.2 w fun bg w=>
       X1 bg (
        dr w fun d n=>
        Q6 d (fun y=> ∀w:World,n w→Q1 b.1 true w (fieldAddr P T.a (.pointer (some q)) 7) (dk d y w)) fun y=>
        Q6 d (fun D=> ∀w:World,n w→Q1 b.1 true w (fun w J=>J b.2 w) (dk d D w)) fun D=>
        Q6 d (fun s=> ∀w:World,n w→Q1 b.1 true w (fieldAddr P T.b t9 0) (dk d s w)) fun s=>
        Q6 d (fun B=> ∀p:Value,∀w:World,n w→y p w→Q1 b.1 true w (Q2 P T.g p) (dk d B w)) fun B=>
        Q6 d (fun A=> ∀z:Value,∀E:Value,∀w:World,n w→B z w→D E w→Q1 b.1 true w (indexAddr P T.g z E) (dk d A w)) fun A=>
        Q6 d (fun r=> ∀u:Value,∀w:World,n w→A u w→Q1 b.1 true w (fieldAddr P T.b u 0) (dk d r w)) fun r=>
        Q6 d (fun N=> ∀t:Value,∀w:World,n w→r t w→Q1 b.1 true w (Q2 P T.c t) (dk d N w)) fun N=>
        Q6 d (fun H=> ∀C:Value,∀w:World,n w→s C w→Q1 b.1 true w (Q2 P T.c C) (dk d H w)) fun H=>
        ∀p:Value,∀E:Value,∀C:Value,∀z:Value,∀u:Value,∀t:Value,∀Y:Value,∀V:Value,∀w:World,n w→y p w→D E w→s C w→B z w→A u w→r t w→N Y w→H V w→
        Q1 b.1 true w (Q3 P .neq T.c (.tmp 170) (.tmp 172) Y V) fun bi w=>
        pick P b.1 bi (.bool false) w fun b6 w=>
        Q3 P .add T.e (.tmp 161) (.const (.int .i64 1)) b.2 (.int .i64 1) w fun bs w=>
        L (b6,bs) w) (
        Q3 P .add T.e (.tmp 128) (.const (.int .i64 1)) f.2 (.int .i64 1) w fun b4 w=>
        Q (b.1,b4) w)) (
      Q1 f.1 true w (fieldAddr P T.a (.pointer (some q)) 3) fun ai w=>
      Q1 f.1 true w (Q2 P T.p ai) fun W w=>
      Q1 f.1 true w (J7 P .not W) fun Z w=>
      Q1 f.1 true w (fun w J=>J Z w) fun g w=>
      Q1 g false w (fieldAddr P T.a (.pointer (some q)) 4) fun ak w=>
      Q1 g false w (Q2 P T.p ak) fun ad w=>
      Q1 g false w (fun w J=>J ad w) fun i w=>
      Q1 i true w (fieldAddr P T.a (.pointer (some q)) 1) fun ab w=>
      Q1 i true w (Q2 P T.c ab) fun ac w=>
      Q1 i true w (Q3 P .eql T.c (.tmp 185) (.const (.string ⟨#[79,98,106,101,99,116]⟩)) ac (.string ⟨#[79,98,106,101,99,116]⟩)) fun ah w=>
      Q1 g false w (pick P i ah (.bool false)) fun R w=>
      Q1 f.1 true w (pick P g (.bool true) R) fun al w=>
      pick P f.1 al (.bool false) w fun a w=>
      Q1 a true w (fieldAddr P T.a (.pointer (some q)) 4) fun aj w=>
      Q1 a true w (Q2 P T.p aj) fun U w=>
      Q1 a true w (fun w J=>J U w) fun m w=>
      Q1 m true w (fieldAddr P T.a (.pointer (some q)) 5) fun am w=>
      Q1 m true w (Q2 P T.p am) fun X w=>
      Q1 a true w (pick P m X (.bool false)) fun aa w=>
      Q1 a true w (J7 P .not aa) fun ae w=>
      pick P a ae (.bool false) w fun af w=>
      K af w))) f4 g1 fun w2 σ2 an=>
  X0A (J:=fun v w=>lp (α:=Value×Value) (v,(.int .i64 0)) w fun Q f d_ w=>
   fieldAddr P T.a (.pointer (some q)) 7 w fun b9 w=>
   Q2 P T.g b9 w fun cc w=>
   X5 P .len [T.g] T.e [false] [cc] w fun b1 w=>
   Q3 P .lss T.e (.tmp 123) (.tmp 126) f.2 b1 w fun bv w=>
   X1 bv (
    fieldAddr P T.a (.pointer (some q)) 7 w fun bd w=>
    Q2 P T.g bd w fun b0 w=>
    indexAddr P T.g b0 f.2 w fun ca w=>
    Q2 P T.b ca w fun bh w=>
    W6 P T.b w fun t9 w=>
    Z2 P T.b t9 bh w fun _u w=>
    Q1 f.1 true w (Q2 P T.b t9) fun bf w=>
    Q1 f.1 true w (Q0 P F.w [bf]) fun b2 w=>
    pick P f.1 b2 (.bool false) w fun k w=>
    Q1 k true w (fieldAddr P T.b t9 3) fun bp w=>
    Q1 k true w (Q2 P T.p bp) fun be w=>
    Q1 k true w (J7 P .not be) fun bb w=>
    Q1 k true w (fun w J=>J bb w) fun O w=>
    Q1 O false w (fieldAddr P T.a (.pointer (some q)) 4) fun b3 w=>
    Q1 O false w (Q2 P T.p b3) fun bq w=>
    Q1 k true w (pick P O (.bool true) bq) fun bj w=>
    pick P k bj (.bool false) w fun j w=>
    Q1 j true w (fieldAddr P T.a (.pointer (some q)) 3) fun b8 w=>
    Q1 j true w (Q2 P T.p b8) fun br w=>
    Q1 j true w (J7 P .not br) fun b7 w=>
    Q1 j true w (fun w J=>J b7 w) fun M w=>
    Q1 M false w (fieldAddr P T.b t9 3) fun b5 w=>
    Q1 M false w (Q2 P T.p b5) fun bk w=>
    Q1 j true w (pick P M (.bool true) bk) fun bx w=>
    pick P j bx (.bool false) w fun bw w=>
    lp (α:=Value×Value) (bw,(.int .i64 0)) w fun L b d_ w=>
     Q3 P .lss T.e (.tmp 158) (.tmp 159) b.2 f.2 w fun bg w=>
     X1 bg (
      dr w fun d n=>
      Q6 d (fun y=> ∀w:World,n w→Q1 b.1 true w (fieldAddr P T.a (.pointer (some q)) 7) (dk d y w)) fun y=>
      Q6 d (fun D=> ∀w:World,n w→Q1 b.1 true w (fun w J=>J b.2 w) (dk d D w)) fun D=>
      Q6 d (fun s=> ∀w:World,n w→Q1 b.1 true w (fieldAddr P T.b t9 0) (dk d s w)) fun s=>
      Q6 d (fun B=> ∀p:Value,∀w:World,n w→y p w→Q1 b.1 true w (Q2 P T.g p) (dk d B w)) fun B=>
      Q6 d (fun A=> ∀z:Value,∀E:Value,∀w:World,n w→B z w→D E w→Q1 b.1 true w (indexAddr P T.g z E) (dk d A w)) fun A=>
      Q6 d (fun r=> ∀u:Value,∀w:World,n w→A u w→Q1 b.1 true w (fieldAddr P T.b u 0) (dk d r w)) fun r=>
      Q6 d (fun N=> ∀t:Value,∀w:World,n w→r t w→Q1 b.1 true w (Q2 P T.c t) (dk d N w)) fun N=>
      Q6 d (fun H=> ∀C:Value,∀w:World,n w→s C w→Q1 b.1 true w (Q2 P T.c C) (dk d H w)) fun H=>
      ∀p:Value,∀E:Value,∀C:Value,∀z:Value,∀u:Value,∀t:Value,∀Y:Value,∀V:Value,∀w:World,n w→y p w→D E w→s C w→B z w→A u w→r t w→N Y w→H V w→
      Q1 b.1 true w (Q3 P .neq T.c (.tmp 170) (.tmp 172) Y V) fun bi w=>
      pick P b.1 bi (.bool false) w fun b6 w=>
      Q3 P .add T.e (.tmp 161) (.const (.int .i64 1)) b.2 (.int .i64 1) w fun bs w=>
      L (b6,bs) w) (
      Q3 P .add T.e (.tmp 128) (.const (.int .i64 1)) f.2 (.int .i64 1) w fun b4 w=>
      Q (b.1,b4) w)) (
    Q1 f.1 true w (fieldAddr P T.a (.pointer (some q)) 3) fun ai w=>
    Q1 f.1 true w (Q2 P T.p ai) fun W w=>
    Q1 f.1 true w (J7 P .not W) fun Z w=>
    Q1 f.1 true w (fun w J=>J Z w) fun g w=>
    Q1 g false w (fieldAddr P T.a (.pointer (some q)) 4) fun ak w=>
    Q1 g false w (Q2 P T.p ak) fun ad w=>
    Q1 g false w (fun w J=>J ad w) fun i w=>
    Q1 i true w (fieldAddr P T.a (.pointer (some q)) 1) fun ab w=>
    Q1 i true w (Q2 P T.c ab) fun ac w=>
    Q1 i true w (Q3 P .eql T.c (.tmp 185) (.const (.string ⟨#[79,98,106,101,99,116]⟩)) ac (.string ⟨#[79,98,106,101,99,116]⟩)) fun ah w=>
    Q1 g false w (pick P i ah (.bool false)) fun R w=>
    Q1 f.1 true w (pick P g (.bool true) R) fun al w=>
    pick P f.1 al (.bool false) w fun a w=>
    Q1 a true w (fieldAddr P T.a (.pointer (some q)) 4) fun aj w=>
    Q1 a true w (Q2 P T.p aj) fun U w=>
    Q1 a true w (fun w J=>J U w) fun m w=>
    Q1 m true w (fieldAddr P T.a (.pointer (some q)) 5) fun am w=>
    Q1 m true w (Q2 P T.p am) fun X w=>
    Q1 a true w (pick P m X (.bool false)) fun aa w=>
    Q1 a true w (J7 P .not aa) fun ae w=>
    pick P a ae (.bool false) w fun af w=>
    K af w)) an.sat (hq.up an) (g2.up an) fun w3 σ3 bn=>
  X0N (J:=fun v w=>Q1 v true w (fieldAddr P T.a (.pointer (some q)) 3) fun ai w=>
   Q1 v true w (Q2 P T.p ai) fun W w=>
   Q1 v true w (J7 P .not W) fun Z w=>
   Q1 v true w (fun w J=>J Z w) fun g w=>
   Q1 g false w (fieldAddr P T.a (.pointer (some q)) 4) fun ak w=>
   Q1 g false w (Q2 P T.p ak) fun ad w=>
   Q1 g false w (fun w J=>J ad w) fun i w=>
   Q1 i true w (fieldAddr P T.a (.pointer (some q)) 1) fun ab w=>
   Q1 i true w (Q2 P T.c ab) fun ac w=>
   Q1 i true w (Q3 P .eql T.c (.tmp 185) (.const (.string ⟨#[79,98,106,101,99,116]⟩)) ac (.string ⟨#[79,98,106,101,99,116]⟩)) fun ah w=>
   Q1 g false w (pick P i ah (.bool false)) fun R w=>
   Q1 v true w (pick P g (.bool true) R) fun al w=>
   pick P v al (.bool false) w fun a w=>
   Q1 a true w (fieldAddr P T.a (.pointer (some q)) 4) fun aj w=>
   Q1 a true w (Q2 P T.p aj) fun U w=>
   Q1 a true w (fun w J=>J U w) fun m w=>
   Q1 m true w (fieldAddr P T.a (.pointer (some q)) 5) fun am w=>
   Q1 m true w (Q2 P T.p am) fun X w=>
   Q1 a true w (pick P m X (.bool false)) fun aa w=>
   Q1 a true w (J7 P .not aa) fun ae w=>
   pick P a ae (.bool false) w fun af w=>
   K af w) bn.sat ((hq.up an).up bn) ((g3.up an).up bn) fun w4 σ4 ci=>
  X0F (K:=K) ci.sat (((hq.up an).up bn).up ci) (by rw[e];exact h _ _ (bu.trans (an.trans (bn.trans ci))))
 (repeat refine Hd.h ?_)
 refine ld cb hq rfl ?_
 refine Qm c.name c8 ?_
 cases d1:W2 c.name with
 | false=>(repeat refine Hd.h ?_);exact ch false (by rw[d1];rfl)
 | true=>
  (repeat refine Hd.h ?_)
  refine ld cb hq rfl ?_
  (repeat refine Hd.h ?_)
  refine Qm c.super c3 ?_
  cases d2:W2 c.super with
  | false=>(repeat refine Hd.h ?_);exact ch false (by rw[d1,d2];rfl)
  | true=>
   (repeat refine Hd.h ?_)
   refine ld cb hq rfl ?_
   (repeat refine Hd.h ?_)
   refine ld cb hq rfl ?_
   (repeat refine Hd.h ?_)
   refine Vs ?_
   (repeat refine Hd.h ?_)
   exact ch _ (by rw[d1,d2];rfl))
theorem Q2f {c:Cla} {cs:List Value} (l:X4 w σ) (d:U6 σ c cs) (h: ∀w' r,Stp w σ w' r→K (I (M4 c)) w'):Q0 P F.b7 [.agg cs.toArray] w K:=Gh (by
 unfold Vw
 have j:=Rep.one (R:=U6) d
 obtain ⟨p,k,mv,rfl,n,o,t,m,s⟩:=d
 have d:U6 σ c _:=⟨p,k,mv,rfl,n,o,t,m,s⟩
 refine Y8 l fun q w1 σ1 b f=>?_
 unfold M4 at h
 refine Z1 b.sat f rfl ?_
 refine Q9C b.sat (RCl_lift d ⟨b.le⟩) fun v y a=>?_
 cases i:Xw c with
 | true=>simp only[i,if_true] at h;(try simp only[↓M1,M1,Mb,reduceIte]);exact h _ _ (b.trans a)
 | false=>
  simp only[i,Bool.false_eq_true,if_false] at h
  (try simp only[↓M1,M1,Mb,reduceIte])
  refine Z1 a.sat (f.up a) rfl ?_
  refine Q7S a.sat (RCl_lift d ⟨(b.trans a).le⟩) fun z u e=>?_
  rw[Q9n]
  cases g:Lj c with
  | true=>simp only[g,if_true] at h;(try simp only[↓M1,M1,Mb,reduceIte]);exact h _ _ (b.trans (a.trans e))
  | false=>simp only[g,Bool.false_eq_true,if_false] at h;(try simp only[↓M1,M1,Mb,reduceIte]);exact h _ _ (b.trans (a.trans e)))
end Go.Proofs.YtfppjenblllfaaaGreatDoor

namespace Go.Emb
open Go.RowKit Go.Hm
end Go.Emb
namespace Go.Hm
end Go.Hm
namespace Go.Proofs.YtfppjenblllfaaaGreatDoor
open Go.Emb Go.RowKit Go.Kd Go.Hm
variable {w : World} {K : Value → World → Prop} {σ : Q4} {l : List Cla}
theorem Q4E {a b:X0} (ok:Ok (Q7 l)) (d:a.length≤Z7) (f:b.length≤Z7):(B8 (Q7 l) a b).length≤Z7:=by
 unfold B8
 split
 ·exact f
 split
 ·exact d
 split
 ·exact Nat.zero_le _
 split
 ·rename_i c g
  have e:=(Q5H ok.acy _ (Nat.lt_succ_self _) (List.mem_of_find?_eq_some g)).2
  have:=(ok.nm c (U4 e).2.1).1
  exact Nat.le_trans this (by decide)
 ·decide
end Go.Proofs.YtfppjenblllfaaaGreatDoor

namespace Go.Hm
open Go.Kd
structure Alike (l m : List Cla) : Prop where
  lk : lk l = lk m
  len : l.length = m.length
  weigh : weigh l [] = weigh m []
section
variable {l m : List Cla} (h : Alike l m)
include h
end
theorem X0y {l:List Cla} {frm:Nat}: ∀(f:Nat) (a:List Nat) (i:Nat),∀y∈Zk l frm f a i,y∈a∨frm≤y:=by
 intro f
 induction f with
 | zero=>intro a i y hy;exact .inl hy
 | succ f d=>
  intro a i y hy
  simp only[Zk] at hy
  split at hy
  ·exact .inl hy
  ·split at hy
   ·exact .inl hy
   ·rename_i e _
    rcases List.mem_append.1 hy with hy | hy
    ·exact Uy (p:=fun y=>frm≤y) _ _ (fun b x _ z c=>d b _ z c) y hy
    ·simp at hy;omega
theorem Q91 {a:List Cla} (g:G1 a): ∀j∈V3 a 8,8≤j∧j<a.length:=by
 intro j d
 unfold V3 at d
 have i:=Uy (p:=fun y=>8≤y) _ _ (fun b x _ z c=>X0y _ b x z c) j d
 have f:=Uy (p:=fun y=>y<a.length) _ _ (fun b x e z c=>(Q58 g (by omega) _ b x (by
  have:=List.mem_of_mem_drop e
  simpa using this) z c).imp id (·.1)) j d
 exact ⟨i.resolve_left (by simp),f.resolve_left (by simp)⟩
end Go.Hm
namespace Go.Proofs.YtfppjenblllfaaaGreatDoor
open Go.Emb Go.RowKit Go.Kd Go.Hm
end Go.Proofs.YtfppjenblllfaaaGreatDoor

namespace Go.Hm
open Go.Kd
theorem Q6X {a:List Cla} {m:Nat} (b:m<a.length):Y4 a (Y1 a m)=some m↔Y4 (a.take m) (Y1 a m)=none:=by
 have g:Y1 a m=a[m].name:=by unfold Y1;rw[List.getD_eq_getElem?_getD,List.getElem?_eq_getElem b];rfl
 unfold Y4
 rw[List.findIdx?_eq_some_iff_getElem,List.findIdx?_eq_none_iff]
 constructor
 ·rintro ⟨k,i,e⟩ c d
  obtain ⟨j,f,rfl⟩:=List.mem_take_iff_getElem.1 d
  simpa using e j (by omega)
 ·intro h
  refine ⟨b,by simp[g],fun j f=>?_⟩
  simpa using h a[j] (List.mem_take_iff_getElem.2 ⟨j,by omega,rfl⟩)
theorem Q6J {a:List Cla} (c:G1 a) {m:Nat} (b:m<a.length):Zx a (Y1 a m) (Y1 a m)=G6 a a[m]:=by
 have d:Y1 a m=a[m].name:=by unfold Y1;rw[List.getD_eq_getElem?_getD,List.getElem?_eq_getElem b];rfl
 unfold Zx G6
 rw[Qo c b,List.getD_eq_getElem?_getD,List.getElem?_eq_getElem b]
 simp only[Option.getD_some,d]
end Go.Hm
namespace Go.Proofs.YtfppjenblllfaaaGreatDoor
open Go.Emb Go.RowKit Go.Kd Go.Hm
variable {w : World} {K : Value → World → Prop} {σ : Q4} {l : List Cla}
theorem Q79: ∀c∈F0,Xw c=false:=by decide
theorem Q6G {c:Cla} (h:M4 c=0):Xw c=false:=by
 unfold M4 at h
 split at h
 ·cases h
 ·rename_i a;exact eq_false_of_ne_true a
set_option maxHeartbeats 4000000 in
theorem X0S {lv:Value} (hs:X4 w σ) (hl:Sl 8 U6 σ lv l) (cx:l.length≤900)
 (C: ∀i e w' r,Gr M4 l=some (i,e)→Stp w σ w' r→K (.tuple #[.slice none 0 0,I i,I e]) w')
 (h0: ∀v w' r,Gr M4 l=none→Stp w σ w' r→Sl 8 U6 r v (Q7 l)→Ok (Q7 l)→G1 (Q7 l)→K (.tuple #[v,I 0,I 0]) w'):Q0 P F.br [lv] w K:=Tb (by
 unfold Ny
 have A:F0.length=8:=rfl
 have c5:(Q7 l).length=8+l.length:=by simp[Q7,A]
 refine Q7C hs fun x0 w1 σ1 b1 bh=>?_
 refine Q72 bh ?_
 rw[A]
 refine O9 l.length (fun n x w'=> ∃r,Stp w σ w' r∧V0 w.heap.size T.a 8 U6 r w' x (F0++l.take n)∧L4 M4 l 0=L4 M4 (l.drop n) n)
  ⟨σ1,b1,by simpa using bh,rfl⟩ fun n x w4 d L b=>?_
 obtain ⟨σ4,Z,az,H⟩:=b
 have aa:=hl.up Z
 refine Q9 aa ?_
 refine Z0 ?_
 refine Q5 (fun hh=>?_) (fun hh=>?_)
 ·have a:n<l.length:=by simpa using hh
  obtain ⟨b3,bu,bv,p1,r1⟩:=aa.elC a
  refine U1 aa a ?_
  refine Z1 Z.sat p1 rfl ?_
  refine Q2f Z.sat r1 fun w6 σ6 ad=>?_
  have bq:=Z.trans ad
  have X:=Uj a H
  refine Xd ?_
  refine Q5 (fun m=>?_) (fun m=>?_)
  ·have t: ¬M4 l[n]=0:=by simpa using m
   rw[if_neg t] at X
   refine C _ _ _ _ ?_ bq
   unfold Gr
   rw[X]
  ·have hz:M4 l[n]=0:=by simpa using m
   rw[if_pos hz] at X
   refine U1 (aa.up ad) a ?_
   refine Z1 ad.sat (p1.up ad) rfl ?_
   have ck:=az.up ad
   have r6:=RCl_lift r1 ⟨ad.le⟩
   refine Uc (R:=U6) (x:=l[n]) bq ck (by simpa [Value.cells] using r6) rfl rfl rfl (by simp[A];omega) (by simp[A];omega) fun s v' w9 σ9 df o cp a0=>?_
   refine D7 ?_
   refine Z6 aa.max a ⟨σ9,o,?_,X⟩
   rw[List.take_add_one,List.getElem?_eq_getElem a,←List.append_assoc]
   exact cp
 have a: ¬n<l.length:=by simpa using hh
 rw[List.take_of_length_le (by omega)] at az
 rw[List.drop_eq_nil_of_le (by omega)] at H
 have H:L4 M4 l 0=none:=H
 have b5:=Xm H
 have bi: ∀c∈l,P8 c∧Nm c∧c.name≠[]:=fun c hc=>Q0v (b5 c hc)
 have q: ∀c∈Q7 l,P8 c:=fun c hc=>by
  rcases List.mem_append.1 hc with hc | hc
  ·exact (Yr c hc).1
  ·exact (bi c hc).1
 have a4: ∀c∈Q7 l,Nm c:=fun c hc=>by
  rcases List.mem_append.1 hc with hc | hc
  ·exact (Yr c hc).2.1
  ·exact (bi c hc).2.1
 have ac: ∀c∈Q7 l,Xw c=false:=fun c hc=>by
  rcases List.mem_append.1 hc with hc | hc
  ·exact Q79 c hc
  ·exact Q6G (b5 c hc)
 have av:(Q7 l).length≤100000:=by omega
 unfold Gr at C h0
 rw[H] at C h0
 simp only at C h0
 obtain ⟨σ5,p,E,dp,c2⟩:=az.keep Z
 change Sl 8 U6 σ5 x (Q7 l) at E
 clear az Z aa a hh L H bh b1
 have B: ∀{n:Nat} (L:n<l.length),∃(h:8+n<(Q7 l).length),(Q7 l)[8+n]=l[n]:=fun {n} L=>⟨by omega,by
  unfold Q7
  rw[List.getElem_append_right (by rw[A];omega)]
  congr 1
  rw[A];omega⟩
 have bs: ∀{n:Nat} (L:n<l.length),Y1 (Q7 l) (8+n)=l[n].name:=fun {n} L=>by
  obtain ⟨C,h2⟩:=B L
  rw[Fl C,h2]
 have ca: ∀j,j<8→(Y4 ((Q7 l).take j) (Y1 (Q7 l) j)).isSome=false:=by
  have hd: ∀j,j<8→(Y4 (F0.take j) (Y1 F0 j)).isSome=false:=by decide
  intro j hj
  have e1:(Q7 l).take j=F0.take j:=by unfold Q7;rw[List.take_append_of_le_length (by rw[A];omega)]
  have e2:Y1 (Q7 l) j=Y1 F0 j:=by
   unfold Y1 Q7;rw[List.getD_eq_getElem?_getD,List.getD_eq_getElem?_getD,List.getElem?_append_left (by rw[A];omega)]
  rw[e1,e2];exact hd j hj
 refine J5 l.length (fun n w'=>Stp w σ w' σ5∧ ∀j,j<8+n→(Y4 ((Q7 l).take j) (Y1 (Q7 l) j)).isSome=false) ⟨p,by simpa using ca⟩ fun n w5 d L b=>?_
 clear p
 obtain ⟨p,a2⟩:=b
 have ae:=hl.up p
 refine Q9 ae ?_
 refine Z0 ?_
 refine Q5 (fun hh=>?_) (fun hh=>?_)
 ·have a:n<l.length:=by simpa using hh
  obtain ⟨b3,bu,bv,p1,r1⟩:=ae.elC a
  refine U1 ae a ?_
  (try simp only[↓M1,M1,Mb,reduceIte])
  refine ld p.sat p1 rfl ?_
  refine P6 p.sat E ?_
  rw[B1 (by omega) (by omega)]
  refine Xd ?_
  obtain ⟨N,e8⟩:=B a
  rw[←bs a]
  have bo:=Q6X N
  cases aq:Y4 ((Q7 l).take (8+n)) (Y1 (Q7 l) (8+n)) with
  | none=>
   rw[bo.2 aq]
   have e:decide (W7 (some (8+n))=(8:Nat)+(n:Int))=true:=by simp[W7]
   rw[e]
   (try simp only[↓M1,M1,Mb,reduceIte])
   refine Y3 ae.max a ⟨p,fun j hj=>?_⟩
   by_cases ej:j=8+n
   ·rw[ej,aq];rfl
   ·exact a2 j (by omega)
  | some i=>
   have t:Y4 (Q7 l) (Y1 (Q7 l) (8+n))≠some (8+n):=fun e=>by rw[bo.1 e] at aq;cases aq
   have e:decide (W7 (Y4 (Q7 l) (Y1 (Q7 l) (8+n)))=(8:Nat)+(n:Int))=false:=by
    rw[decide_eq_false_iff_not]
    intro e
    cases hf:Y4 (Q7 l) (Y1 (Q7 l) (8+n)) with
    | none=>rw[hf] at e;simp only[W7] at e;omega
    | some k=>
     rw[hf] at e t
     simp only[W7] at e
     apply t
     congr 1;omega
   rw[e]
   (try simp only[↓M1,M1,Mb,reduceIte])
   have W:Dt (Q7 l)=some (8+n):=by
    unfold Dt
    rw[List.find?_range_eq_some]
    refine ⟨by rw[aq];rfl,by simpa using N,fun j hj=>by rw[a2 j hj];rfl⟩
   refine C _ _ _ _ ?_ p
   rw[W]
   have:((8+n:Nat):Int)-8=n:=by omega
   simp only[this]
 have a: ¬n<l.length:=by simpa using hh
 have W:Dt (Q7 l)=none:=by
  unfold Dt
  rw[List.find?_eq_none]
  intro j hj
  rw[a2 j (by have:=List.mem_range.1 hj;omega)];simp
 rw[W] at C h0
 simp only at C h0
 have g:=Q1q W
 clear a2 hh a L ae ca
 refine J5 l.length (fun n w'=> ∃r,Stp w σ w' r∧SLe σ5 r∧L4 (fun c=>(L5 (Q7 l) c:Int)) l 0=L4 (fun c=>(L5 (Q7 l) c:Int)) (l.drop n) n) ⟨σ5,p,SLe.refl _,rfl⟩ fun n w6 d L b=>?_
 obtain ⟨σ9,o,af,ab⟩:=b
 have aw:=hl.up o
 refine Q9 aw ?_
 refine Z0 ?_
 refine Q5 (fun hh=>?_) (fun hh=>?_)
 ·have a:n<l.length:=by simpa using hh
  obtain ⟨b3,bu,bv,p1,r1⟩:=aw.elC a
  refine U1 aw a ?_
  refine Z1 o.sat p1 rfl ?_
  have V:=Uj a ab
  refine Q7v o.sat (E.lift af) r1 fun w8 cn ap=>?_
  refine Xd ?_
  refine Q5 (fun m=>?_) (fun m=>?_)
  ·have t: ¬(L5 (Q7 l) l[n]:Int)=0:=by simpa using m
   rw[if_neg t] at V
   refine C _ _ _ _ ?_ (o.trans ap)
   rw[V]
  ·have hz:(L5 (Q7 l) l[n]:Int)=0:=by simpa using m
   rw[if_pos hz] at V
   refine D7 ?_
   exact Y3 aw.max a ⟨cn,o.trans ap,af.more ⟨ap.le⟩,V⟩
 have a: ¬n<l.length:=by simpa using hh
 rw[List.drop_eq_nil_of_le (by omega)] at ab
 have ab:L4 (fun c=>(L5 (Q7 l) c:Int)) l 0=none:=ab
 rw[ab] at C h0
 simp only at C h0
 have b6:=Xm ab
 clear hh a L p aw
 refine Q2X o.sat (E.lift af) g (by omega) (by omega) q fun vb du ce ai ag=>?_
 have f:=o.trans ai
 have bd:=af.more ⟨ai.le⟩
 have a5:(Xj (Q7 l)).length=(Q7 l).length:=by simp[Xj]
 refine J5 l.length (fun n w'=>Stp w σ w' ce∧ ∀j (hj:j<l.length),j<n→G6 (Q7 l) l[j]=false) ⟨f,fun j _ h=>by omega⟩ fun n dd d L b=>?_
 clear f
 obtain ⟨f,a3⟩:=b
 have ah:=hl.up f
 refine Q9 ah ?_
 refine Z0 ?_
 refine Q5 (fun hh=>?_) (fun hh=>?_)
 ·have a:n<l.length:=by simpa using hh
  obtain ⟨N,e8⟩:=B a
  refine Ce ⟨by omega,by omega⟩ ?_
  have ec:((8:Nat):Int)+(n:Int)=((8+n:Nat):Int):=by omega
  rw[ec]
  obtain ⟨dc,pb,_,rv,rfl,rb⟩:=ag.el (i:=8+n) (by rw[a5];exact N)
  have cd:(Xj (Q7 l))[8+n]'(by rw[a5];exact N)=(List.range (Q7 l).length).map fun j=>Zx (Q7 l) (Y1 (Q7 l) (8+n)) (Y1 (Q7 l) j):=by simp[Xj]
  rw[cd] at rb
  obtain ⟨cm,bg,_,an⟩:=rb.el (i:=8+n) (by simpa using N)
  have an:cm=_:=an
  subst an
  simp only[List.getElem_map,List.getElem_range] at bg
  rw[Q6J g N,e8] at bg
  refine U1 ag (by rw[a5];exact N) ?_
  refine X8 f.sat pb rfl ?_
  refine Ce ⟨by omega,by omega⟩ ?_
  rw[ec]
  refine U1 rb (by simpa using N) ?_
  refine X8 f.sat bg rfl ?_
  cases cg:G6 (Q7 l) l[n] with
  | true=>
   (try simp only[↓M1,M1,Mb,reduceIte])
   have bf:l.findIdx? (G6 (Q7 l))=some n:=by
    rw[List.findIdx?_eq_some_iff_getElem]
    exact ⟨a,cg,fun j hj=>by simpa using a3 j (by omega) hj⟩
   refine C _ _ _ _ ?_ f
   rw[bf]
  | false=>
   (try simp only[↓M1,M1,Mb,reduceIte])
   refine Y3 ah.max a ⟨f,fun j hj c7=>?_⟩
   by_cases e:j=n
   ·subst e;exact cg
   ·exact a3 j hj (by omega)
 have a: ¬n<l.length:=by simpa using hh
 have a8: ∀c∈l,G6 (Q7 l) c=false:=fun c hc=>by
  obtain ⟨j,hj,rfl⟩:=List.getElem_of_mem hc
  exact a3 j hj (by omega)
 have bf:l.findIdx? (G6 (Q7 l))=none:=by
  rw[List.findIdx?_eq_none_iff];exact a8
 rw[bf] at C h0
 simp only at C h0
 clear a3 hh a L ah ag ai o a5
 have ao:=Q7J g (fun c hc=>(bi c hc).2.2) a8
 have ay:Q92 (Q7 l):=fun c hc u hu=>by
  rcases List.mem_append.1 hc with hc | hc
  ·rw[(Yr c hc).2.2] at hu;simp at hu
  ·have:=b6 c hc
   unfold L5 at this
   split at this
   ·simp at this
   ·split at this
    ·simp at this
    ·rename_i y
     have y:c.like.any (O5 (Q7 l))=false:=eq_false_of_ne_true y
     have:=List.any_eq_false.1 y u hu
     unfold O5 at this
     cases hd:lk (Q7 l) u with
     | none=>rw[hd] at this;simp at this
     | some d=>exact ⟨d,rfl⟩
 have b7:Ok (Q7 l):=⟨ao,av,q,ay,a4⟩
 have bp: ∀i (hi:i<(Q7 l).length),8≤i→ ∀u∈J3 (Q7 l)[i],∃j,Y4 (Q7 l) u=some j:=fun i hi N u hu=>by
  have ax:i-8<l.length:=by omega
  obtain ⟨dn,e8⟩:=B ax
  have cr:(Q7 l)[i]=l[i-8]:=by rw[←e8];congr 1;omega
  rw[cr] at hu
  have a7:=List.getElem_mem ax
  rcases List.mem_cons.1 hu with hu | hu
  ·have:=b6 _ a7
   unfold L5 at this
   split at this
   ·simp at this
   ·rename_i y
    unfold P4 at y
    rw[←hu] at y
    cases hd:lk (Q7 l) u with
    | none=>rw[hd] at y;simp at y
    | some d=>obtain ⟨_,_,j,hj,_⟩:=U4 hd;exact ⟨j,hj⟩
  ·obtain ⟨d,hd⟩:=ay _ (List.mem_append_right _ a7) u hu
   obtain ⟨_,_,j,hj,_⟩:=U4 hd;exact ⟨j,hj⟩
 refine Ae (R:=Uk) (e:=T.e) f (by decide) fun dq dl a9 a6 _=>?_
 refine O9 l.length (fun n x' w'=> ∃r D,Stp w σ w' r∧SLe σ5 r∧V0 w.heap.size T.e 1 Uk r w' x' (ints D)∧Pe (Q7 l) D∧D=(((List.range (Q7 l).length).drop 8).take n).foldl (fun D i=>Qa (Q7 l) 8 D i) [])
  ⟨ce,[],f.trans a9,bd,a6,⟨List.nodup_nil,by simp⟩,rfl⟩ fun n x' c3 d L b=>?_
 clear a6 a9 f bd af
 obtain ⟨c9,D,M,U,aj,ak,ar⟩:=b
 have al:=hl.up M
 refine Q9 al ?_
 refine Z0 ?_
 refine Q5 (fun hh=>?_) (fun hh=>?_)
 ·have a:n<l.length:=by simpa using hh
  obtain ⟨N,e8⟩:=B a
  refine Ce ⟨by omega,by omega⟩ ?_
  have ec:((8:Nat):Int)+(n:Int)=((8+n:Nat):Int):=by omega
  rw[ec]
  refine X18 ao g (by omega) q (by omega) bp ((Q7 l).length+1) N (Nat.lt_succ_of_le (Az _ _)) ak M (E.lift U) aj fun di dw cv bz b8 cb=>?_
  refine D7 ?_
  refine Z6 al.max a ⟨cv,_,bz,U.more b8,cb,Ff ao g (by omega) _ _ _ N ak,?_⟩
  rw[List.take_add_one,List.getElem?_drop,List.getElem?_range N,List.foldl_append,←ar]
  rfl
 have a: ¬n<l.length:=by simpa using hh
 have cq:n=l.length:=by omega
 subst cq
 have cf:D=V3 (Q7 l) 8:=by
  rw[ar,List.take_of_length_le (by rw[List.length_drop,List.length_range];omega)];rfl
 subst cf
 clear ar hh a L
 have c8:=ak.len
 have ct:=Q91 g
 obtain ⟨bx,bl,bk,bb,_⟩:=aj.keep M
 have ch:=U.more ⟨bb⟩
 clear aj M bb U al
 have ax:(ints (V3 (Q7 l) 8)).length=(V3 (Q7 l) 8).length:=by simp
 refine J5 (V3 (Q7 l) 8).length (fun n w'=> ∃r,Stp w σ w' r∧SLe bx r∧ ∀j∈(V3 (Q7 l) 8).take n,U8 (Q7 l) ((Q7 l).getD j Cla.zero)=0) ⟨bx,bl,SLe.refl _,by simp⟩ fun n dg d L b=>?_
 obtain ⟨dh,O,Y,a1⟩:=b
 have Q:=bk.lift Y
 refine Q9 Q ?_
 rw[ax]
 refine Z0 ?_
 refine Q5 (fun hh=>?_) (fun hh=>?_)
 ·have a:n<(V3 (Q7 l) 8).length:=by simpa using hh
  have bm:n<(ints (V3 (Q7 l) 8)).length:=by rw[ax];exact a
  refine U1 Q bm ?_
  obtain ⟨cs,pc,_,cl⟩:=Q.el bm
  obtain ⟨rfl,_⟩:=cl
  simp only[List.getElem_map] at pc
  refine X8 O.sat pc rfl ?_
  have b2:=(ct _ (List.getElem_mem a)).2
  have a0:(Q7 l).getD (V3 (Q7 l) 8)[n] Cla.zero=(Q7 l)[(V3 (Q7 l) 8)[n]]:=by rw[List.getD_eq_getElem?_getD,List.getElem?_eq_getElem b2];rfl
  refine Q5X O.sat (E.lift (ch.more Y)) b7 g (by omega) ac b2 fun db b0 z=>?_
  have bc:=O.trans z
  refine Xd ?_
  refine Q5 (fun m=>?_) (fun m=>?_)
  ·have t: ¬U8 (Q7 l) (Q7 l)[(V3 (Q7 l) 8)[n]]=0:=by simpa using m
   have c0:=Q.up z
   have br:=pc.up z
   refine U9 z.sat ?_
   (repeat refine J4 Qp ?_)
   (intros;(repeat (rename_i hx;subst hx));(try simp only[↓M2,M2,Mb,reduceIte]))
   rename_i co be
   refine X8 be.sat br rfl ?_
   refine Dm ⟨by omega,by omega⟩ ?_
   have J:(V3 (Q7 l) 8).find? (fun j=> !decide (U8 (Q7 l) ((Q7 l).getD j Cla.zero)=0))=some (V3 (Q7 l) 8)[n]:=by
    rw[List.find?_eq_some_iff_getElem]
    refine ⟨by rw[a0];simpa using t,n,a,rfl,fun j hj=>?_⟩
    have:=a1 _ (List.mem_take_iff_getElem.2 ⟨j,by omega,rfl⟩)
    rw[this];simp
   have:=C (((V3 (Q7 l) 8)[n]:Int)-8) (U8 (Q7 l) (Q7 l)[(V3 (Q7 l) 8)[n]]) co b0 (by rw[J];simp only[a0]) (bc.trans be.stp)
   exact this
  ·have hz:U8 (Q7 l) (Q7 l)[(V3 (Q7 l) 8)[n]]=0:=by simpa using m
   refine D7 ?_
   refine Y3 (by omega) a ⟨b0,bc,Y.more ⟨z.le⟩,fun j hj=>?_⟩
   rw[List.take_add_one,List.getElem?_eq_getElem a] at hj
   rcases List.mem_append.1 hj with hj | hj
   ·exact a1 j hj
   ·simp at hj;subst hj;rw[a0];exact hz
 ·have a: ¬n<(V3 (Q7 l) 8).length:=by simpa using hh
  rw[List.take_of_length_le (by omega)] at a1
  have J:(V3 (Q7 l) 8).find? (fun j=> !decide (U8 (Q7 l) ((Q7 l).getD j Cla.zero)=0))=none:=by
   rw[List.find?_eq_none]
   intro j hj
   rw[a1 j hj];simp
  rw[J] at h0
  exact h0 _ _ _ rfl O (E.lift (ch.more Y)) b7 g)
end Go.Proofs.YtfppjenblllfaaaGreatDoor

namespace Go.Hm
open Go.Kd
def Q7g:Ins:=⟨[105,110,116],1,[]⟩
def Ai:Ins:=⟨[114,101,116,117,114,110],0,[]⟩
def kA:X0:=[65]
def fX:Fld:=⟨[120],V4,false⟩
def Ay:Fld:=⟨[110,101,120,116],kA,false⟩
def fL:Fld:=⟨[108],[65,91,93],false⟩
def mF:Hm.Met:=⟨[102],[V4,kA],V4,false,3,[Q7g,Ai],[]⟩
def mG:Hm.Met:=⟨[103],[],[],false,1,[Ai],[]⟩
def cA:Cla:=⟨kA,Z8,[],false,false,false,[fX,Ay],[mF,mG]⟩
def cB:Cla:=⟨[66],kA,[[73]],false,false,false,[fL],[]⟩
def cI:Cla:=⟨[73],Z8,[],true,true,false,[],[]⟩
def cD:Cla:=⟨[68],Z8,[],false,true,false,[],[]⟩
def Rw:List Cla:=[cA,cB,cI,cD]
end Go.Hm
namespace Go.Proofs.YtfppjenblllfaaaGreatDoor
open Go.Emb Go.RowKit Go.Kd Go.Hm
variable {w w' : World} {K : Value → World → Prop} {σ σ' : Q4} {ds : List Value} {l : List Cla} {hp tv : Value}
set_option maxRecDepth 100000 in
theorem Q4v:Gr M4 Rw=none:=by decide+kernel
theorem X0B: ∀c∈Rw,P8 c:=X1t (by decide)
set_option maxHeartbeats 1000000 in
theorem Q3f (Y:X4 w σ) (h: ∀v w' σ',Stp w σ w' σ'→Sl 8 U6 σ' v Rw→K v w'):Q0 P F.av [] w K:=Sk (by
 unfold Js
 refine V7 (cells:= #[S Q7g.op,I 1,S []]) (by kernel_rfl) ?_
 refine V7 (cells:= #[S Ai.op,I 0,S []]) (by kernel_rfl) ?_
 refine O7 (R:=G3) (sz:=3) Y [.agg #[S Q7g.op,I 1,S []], .agg #[S Ai.op,I 0,S []]] [Q7g,Ai] rfl rfl (by simp;exact ⟨rfl,rfl⟩) rfl ⟨⟨rfl,by decide,by decide,by decide⟩,⟨rfl,by decide,by decide,by decide⟩,trivial⟩ fun v1 w1 σ1 u f=>?_
 refine V7 (cells:= #[S fX.name,S fX.kind, .bool false]) (by kernel_rfl) ?_
 refine V7 (cells:= #[S Ay.name,S Ay.kind, .bool false]) (by kernel_rfl) ?_
 refine O7 (R:=D6) (sz:=3) u.sat [.agg #[S fX.name,S fX.kind, .bool false], .agg #[S Ay.name,S Ay.kind, .bool false]] [fX,Ay] rfl rfl (by simp;exact ⟨rfl,rfl⟩) rfl ⟨⟨rfl,by decide,by decide⟩,⟨rfl,by decide,by decide⟩,trivial⟩ fun v2 w2 σ2 g c=>?_
 refine O7 (R:=X9) (sz:=1) g.sat [S V4,S kA] [V4,kA] rfl rfl (by simp;exact ⟨rfl,rfl⟩) rfl ⟨⟨rfl,by decide⟩,⟨rfl,by decide⟩,trivial⟩ fun v3 w3 σ3 e n=>?_
 have k:=f;have m:=c;have o:=n
 obtain ⟨U,J,rfl,_⟩:=k
 obtain ⟨O,W,rfl,_⟩:=m
 obtain ⟨C,V,rfl,_⟩:=o
 have f:=(f.up g).up e
 have c:=c.up e
 refine V7 (cells:= #[S mF.name, .slice C 2 V,S V4, .bool false,I 3, .slice U 2 J, .slice none 0 0]) (by kernel_rfl) ?_
 refine V7 (cells:= #[S Ai.op,I 0,S []]) (by kernel_rfl) ?_
 refine O7 (R:=G3) (sz:=3) e.sat [.agg #[S Ai.op,I 0,S []]] [Ai] rfl rfl (by simp;rfl) rfl ⟨⟨rfl,by decide,by decide,by decide⟩,trivial⟩ fun v4 w4 Z a r=>?_
 have y:=r
 obtain ⟨M,L,rfl,_⟩:=y
 refine V7 (cells:= #[S mG.name, .slice none 0 0,S [], .bool false,I 1, .slice M 1 L, .slice none 0 0]) (by kernel_rfl) ?_
 refine O7 (R:=L2) (sz:=7) a.sat [.agg #[S mF.name, .slice C 2 V,S V4, .bool false,I 3, .slice U 2 J, .slice none 0 0], .agg #[S mG.name, .slice none 0 0,S [], .bool false,I 1, .slice M 1 L, .slice none 0 0]] [mF,mG] rfl rfl (by simp;exact ⟨rfl,rfl⟩) rfl
  ⟨⟨_,_,_,rfl,n.up a,f.up a,Sl.nil,by decide,by decide,by decide⟩,⟨_,_,_,rfl,Sl.nil,r,Sl.nil,by decide,by decide,by decide⟩,trivial⟩ fun v5 w5 σ5 i t=>?_
 have q:=t
 obtain ⟨H,E,rfl,_⟩:=q
 refine V7 (cells:= #[S kA,S Z8, .slice none 0 0, .bool false, .bool false, .bool false, .slice O 2 W, .slice H 2 E]) (by kernel_rfl) ?_
 refine O7 (R:=X9) (sz:=1) i.sat [S [73]] [[73]] rfl rfl (by simp;rfl) rfl ⟨⟨rfl,by decide⟩,trivial⟩ fun v6 w6 σ6 d s=>?_
 have z:=s
 obtain ⟨N,Q,rfl,_⟩:=z
 refine V7 (cells:= #[S fL.name,S fL.kind, .bool false]) (by kernel_rfl) ?_
 refine O7 (R:=D6) (sz:=3) d.sat [.agg #[S fL.name,S fL.kind, .bool false]] [fL] rfl rfl (by simp;rfl) rfl ⟨⟨rfl,by decide,by decide⟩,trivial⟩ fun v7 w7 σ7 b p=>?_
 have j:=p
 obtain ⟨D,X,rfl,_⟩:=j
 refine V7 (cells:= #[S cB.name,S kA, .slice N 1 Q, .bool false, .bool false, .bool false, .slice D 1 X, .slice none 0 0]) (by kernel_rfl) ?_
 refine V7 (cells:= #[S cI.name,S Z8, .slice none 0 0, .bool true, .bool true, .bool false, .slice none 0 0, .slice none 0 0]) (by kernel_rfl) ?_
 refine V7 (cells:= #[S cD.name,S Z8, .slice none 0 0, .bool false, .bool true, .bool false, .slice none 0 0, .slice none 0 0]) (by kernel_rfl) ?_
 refine O7 (R:=U6) (sz:=8) b.sat [.agg #[S kA,S Z8, .slice none 0 0, .bool false, .bool false, .bool false, .slice O 2 W, .slice H 2 E], .agg #[S cB.name,S kA, .slice N 1 Q, .bool false, .bool false, .bool false, .slice D 1 X, .slice none 0 0], .agg #[S cI.name,S Z8, .slice none 0 0, .bool true, .bool true, .bool false, .slice none 0 0, .slice none 0 0], .agg #[S cD.name,S Z8, .slice none 0 0, .bool false, .bool true, .bool false, .slice none 0 0, .slice none 0 0]] Rw rfl rfl (by simp;exact ⟨rfl,rfl,rfl,rfl⟩) rfl
  ⟨⟨_,_,_,rfl,Sl.nil,(((c.up a).up i).up d).up b,(t.up d).up b,by decide,by decide⟩,⟨_,_,_,rfl,s.up b,p,Sl.nil,by decide,by decide⟩,⟨_,_,_,rfl,Sl.nil,Sl.nil,Sl.nil,by decide,by decide⟩,⟨_,_,_,rfl,Sl.nil,Sl.nil,Sl.nil,by decide,by decide⟩,trivial⟩ fun v8 w8 σ8 B A=>?_
 exact h _ _ _ ((((((((u.trans g).trans e).trans a).trans i).trans d).trans b)).trans B) A)
end Go.Proofs.YtfppjenblllfaaaGreatDoor

namespace Go.Proofs.YtfppjenblllfaaaGreatDoor
open Go.Emb Go.RowKit Go.Kd Go.Hm
variable {w w' : World} {K : Value → World → Prop} {σ σ' : Q4} {v u : Value}
theorem Q44 {xs ys:List X0} (t:X4 w σ) (c:Sl 1 X9 σ v xs) (q:Sl 1 X9 σ u ys) (h: ∀w',Below w.heap.size w w'→K (.bool (decide (xs=ys))) w'):Q0 P F.a0 [v,u] w K:=Lk (by
 have n:=c.max
 unfold I8
 refine Q9 c ?_
 refine Q9 q ?_
 refine Xd ?_
 by_cases p:xs.length=ys.length
 case neg=>
  rw[show (!decide ((xs.length:Int)=(ys.length:Nat)))=true from by simp;omega]
  refine V9 ?_
  have e:decide (xs=ys)=false:=decide_eq_false fun e=>p (by rw[e])
  rw[e] at h
  exact h _ (Below.refl _ _)
 rw[show (!decide ((xs.length:Int)=(ys.length:Nat)))=false from by simp[p]]
 refine W0 ?_
 first | refine Q9 c ?_ | skip
 refine J5 xs.length (fun i w'=>Stp w σ w' σ∧ ∀j (f:j<xs.length) (g:j<ys.length),j<i→xs[j]=ys[j]) ⟨Stp.refl t,fun _ _ _ h=>absurd h (Nat.not_lt_zero _)⟩ fun i w1 d C y=>?_
 obtain ⟨o,r⟩:=y
 first | refine Q9 c ?_ | skip
 refine Z0 ?_
 refine Q5 (fun k=>?_) (fun k=>?_)
 ·have b:i<xs.length:=by simpa using k
  have l:i<ys.length:=by omega
  obtain ⟨z,_⟩:=Sl.elS c b
  obtain ⟨D,_⟩:=Sl.elS q l
  refine U9 o.sat ?_
  (repeat refine J4 Qp ?_)
  (intros;(repeat (rename_i a;subst a));(try simp only[↓M2,M2,Mb,reduceIte]))
  rename_i A m
  have s:=o.trans m.stp
  by_cases a:xs[i]=ys[i]
  ·simp only[decide_eq_true a,Bool.not_true,Uq]
   (try simp only[↓M1,M1,Mb,reduceIte])
   exact Y3 n b ⟨s,fun j f g B=>by
    by_cases e:j=i
    ·subst e;exact a
    ·exact r j f g (by omega)⟩
  ·simp only[decide_eq_false a,Bool.not_false,Nf]
   have e:decide (xs=ys)=false:=decide_eq_false fun e=>a (by subst e;rfl)
   rw[e] at h
   exact h _ s.bel
 ·have E:i=xs.length:=by
   have: ¬i<xs.length:=by simpa using k
   omega
  have e:decide (xs=ys)=true:=decide_eq_true (List.ext_getElem p fun j f g=>r j f g (by omega))
  rw[e] at h
  exact h _ o.bel)
theorem Q3d {xs ys:List X0} (t:X4 w σ) (c:Sl 1 X9 σ v xs) (q:Sl 1 X9 σ u ys) (h: ∀w',Below w.heap.size w w'→K (.bool (decide (xs=ys))) w'):Q0 P F.aD [v,u] w K:=Kj (by
 have n:=c.max
 unfold Mq
 refine Q9 c ?_
 refine Q9 q ?_
 refine Xd ?_
 by_cases p:xs.length=ys.length
 case neg=>
  rw[show (!decide ((xs.length:Int)=(ys.length:Nat)))=true from by simp;omega]
  refine V9 ?_
  have e:decide (xs=ys)=false:=decide_eq_false fun e=>p (by rw[e])
  rw[e] at h
  exact h _ (Below.refl _ _)
 rw[show (!decide ((xs.length:Int)=(ys.length:Nat)))=false from by simp[p]]
 refine W0 ?_
 first | refine Q9 c ?_ | skip
 refine J5 xs.length (fun i w'=>Stp w σ w' σ∧ ∀j (f:j<xs.length) (g:j<ys.length),j<i→xs[j]=ys[j]) ⟨Stp.refl t,fun _ _ _ h=>absurd h (Nat.not_lt_zero _)⟩ fun i w1 d C y=>?_
 obtain ⟨o,r⟩:=y
 first | refine Q9 c ?_ | skip
 refine Z0 ?_
 refine Q5 (fun k=>?_) (fun k=>?_)
 ·have b:i<xs.length:=by simpa using k
  have l:i<ys.length:=by omega
  obtain ⟨z,_⟩:=Sl.elS c b
  obtain ⟨D,_⟩:=Sl.elS q l
  refine U9 o.sat ?_
  (repeat refine J4 Qp ?_)
  (intros;(repeat (rename_i a;subst a));(try simp only[↓M2,M2,Mb,reduceIte]))
  rename_i A m
  have s:=o.trans m.stp
  by_cases a:xs[i]=ys[i]
  ·simp only[decide_eq_true a,Bool.not_true,Uq]
   (try simp only[↓M1,M1,Mb,reduceIte])
   exact Y3 n b ⟨s,fun j f g B=>by
    by_cases e:j=i
    ·subst e;exact a
    ·exact r j f g (by omega)⟩
  ·simp only[decide_eq_false a,Bool.not_false,Nf]
   have e:decide (xs=ys)=false:=decide_eq_false fun e=>a (by subst e;rfl)
   rw[e] at h
   exact h _ s.bel
 ·have E:i=xs.length:=by
   have: ¬i<xs.length:=by simpa using k
   omega
  have e:decide (xs=ys)=true:=decide_eq_true (List.ext_getElem p fun j f g=>r j f g (by omega))
  rw[e] at h
  exact h _ o.bel)
theorem Q84 (a b:Shp):decide (a=b)=((a.seen==b.seen)&&(decide (a.stack=b.stack)&&decide (a.locals=b.locals))):=by
 cases a;cases b
 rw[Bool.eq_iff_iff]
 simp[Shp.mk.injEq,and_assoc]
theorem X0O {a b:Shp} {ds es:List Value} (o:X4 w σ) (r:M9 σ a ds) (z:M9 σ b es) (h: ∀w',Below w.heap.size w w'→K (.bool (decide (a=b))) w'):Q0 P F.cA [.agg ds.toArray, .agg es.toArray] w K:=Q5C (by
 obtain ⟨sv,D,rfl,n,q⟩:=r
 obtain ⟨E,mv,rfl,s,p⟩:=z
 rw[Q84] at h
 unfold Q0s
 refine Y8 o fun A w1 σ1 m j=>?_
 refine Y8 m.sat fun J C H e f=>?_
 have d:=j.up e
 have c:=m.trans e
 refine O8 ?_
 refine ld (i:=0) e.sat d rfl ?_
 refine O8 ?_
 refine ld (i:=0) e.sat f rfl ?_
 rw[Q7m]
 cases k:(a.seen==b.seen) with
 | false=>
  rw[k] at h
  (repeat refine Hd.h ?_)
  exact h _ c.bel
 | true=>
  rw[k,Bool.true_and] at h
  (repeat refine Hd.h ?_)
  refine ld (i:=1) e.sat d rfl ?_
  (repeat refine Hd.h ?_)
  refine ld (i:=1) e.sat f rfl ?_
  (repeat refine Hd.h ?_)
  refine Q44 e.sat (n.up c) (s.up c) fun L t=>?_
  have g:=Stp.of_below e.sat t
  cases l:decide (a.stack=b.stack) with
  | false=>
   rw[l] at h
   (repeat refine Hd.h ?_)
   exact h _ (c.trans g).bel
  | true=>
   rw[l,Bool.true_and] at h
   (repeat refine Hd.h ?_)
   refine ld (i:=2) g.sat d rfl ?_
   (repeat refine Hd.h ?_)
   refine ld (i:=2) g.sat f rfl ?_
   (repeat refine Hd.h ?_)
   refine Q44 g.sat (q.up c) (p.up c) fun B y=>?_
   (repeat refine Hd.h ?_)
   exact h _ (c.trans (g.trans (Stp.of_below g.sat y))).bel)
theorem Tm {a b:Shp} {ds es:List Value} (o:X4 w σ) (r:M9 σ a ds) (z:M9 σ b es) (h: ∀w',Below w.heap.size w w'→K (.bool (decide (a=b))) w'):Q0 P F.aj [.agg ds.toArray, .agg es.toArray] w K:=Kk (by
 obtain ⟨sv,D,rfl,n,q⟩:=r
 obtain ⟨E,mv,rfl,s,p⟩:=z
 rw[Q84] at h
 unfold Mo
 refine Y8 o fun A w1 σ1 m j=>?_
 refine Y8 m.sat fun J C H e f=>?_
 have d:=j.up e
 have c:=m.trans e
 refine O8 ?_
 refine ld (i:=0) e.sat d rfl ?_
 refine O8 ?_
 refine ld (i:=0) e.sat f rfl ?_
 rw[Q7m]
 cases k:(a.seen==b.seen) with
 | false=>
  rw[k] at h
  (repeat refine Hd.h ?_)
  exact h _ c.bel
 | true=>
  rw[k,Bool.true_and] at h
  (repeat refine Hd.h ?_)
  refine ld (i:=1) e.sat d rfl ?_
  (repeat refine Hd.h ?_)
  refine ld (i:=1) e.sat f rfl ?_
  (repeat refine Hd.h ?_)
  refine Q3d e.sat (n.up c) (s.up c) fun L t=>?_
  have g:=Stp.of_below e.sat t
  cases l:decide (a.stack=b.stack) with
  | false=>
   rw[l] at h
   (repeat refine Hd.h ?_)
   exact h _ (c.trans g).bel
  | true=>
   rw[l,Bool.true_and] at h
   (repeat refine Hd.h ?_)
   refine ld (i:=2) g.sat d rfl ?_
   (repeat refine Hd.h ?_)
   refine ld (i:=2) g.sat f rfl ?_
   (repeat refine Hd.h ?_)
   refine Q3d g.sat (q.up c) (p.up c) fun B y=>?_
   (repeat refine Hd.h ?_)
   exact h _ (c.trans (g.trans (Stp.of_below g.sat y))).bel)
end Go.Proofs.YtfppjenblllfaaaGreatDoor

namespace Go.Hm
open Go.Kd
structure Dr where
  stack : List X0
  locals : List X0
  e : Int
deriving DecidableEq
def Dr.wrong (d:Dr) (ok:Bool) (e:Int):Dr:=if ok=true then d else if d.e=0 then ⟨d.stack,d.locals,e⟩ else d
def Dr.taken (d:Dr) (n:Nat):List X0:=if d.e=0∧n≤d.stack.length then d.stack.drop (d.stack.length-n) else List.replicate n []
def Dr.take (d:Dr) (n:Nat):Dr:=if d.e=0∧n≤d.stack.length then ⟨d.stack.take (d.stack.length-n),d.locals,0⟩ else d.wrong (decide (n≤d.stack.length)) 72
def Dr.put (d:Dr) (xs:List X0):Dr:=if d.e=0 then ⟨d.stack++xs,d.locals,0⟩ else d
def Dr.put1 (d:Dr) (k:X0):Dr:=if k=[] then d else d.put [k]
def Dr.all (l:List Cla) (d:Dr) (p:X0) (a:List X0):Dr:=((d.take a.length).wrong ((List.zipWith (H4 l) (d.taken a.length) a).all id) 73).put1 p
def inL (d:Dr) (n:Int):Bool:=decide (0≤n)&&decide (n<(d.locals.length:Int))
def Q3G (l:List Cla) (a:X0):Bool:=R7 l a&& !plain a
def Q4a (l:List Cla) (s:X0):Bool:= !decide (s=C2)&&R7 l s
inductive Dact where
  | puts (k : X0) | takes (p : X0) (w : List X0) | load | store | pop | dup | swap | size | nop | make | get | give | call | array | at_ | set_ | is | cast | ret | equal
deriving DecidableEq
def Q7V (l:List Cla) (c f:X0) (ok:Bool):Option (X0×X0):=if ok=true then (Xg l c f).map fun k=>(c,((M6 l c).getD k Fld.zero).kind) else none
def By (l:List Cla) (m:Hm.Met) (i:Ins) (c f:X0) (ok:Bool) (d:Dr):Dact→Dr
 | .puts k=>d.put [k]
 | .takes p w=>d.all l p w
 | .load=>
  let a:=d.wrong (inL d i.n) 74
  if a.e=0 then (let k:=a.locals.getD i.n.toNat [];let b:=a.wrong (!decide (k=[])) 74;if b.e=0 then b.put [k] else b) else a
 | .store=>
  let a:=d.wrong (inL d i.n) 74
  let b:=a.take 1
  if b.e=0 then ⟨b.stack,b.locals.set i.n.toNat ((a.taken 1).getD 0 []),0⟩ else b
 | .pop=>d.take 1
 | .dup=>(d.take 1).put [(d.taken 1).getD 0 [],(d.taken 1).getD 0 []]
 | .swap=>(d.take 2).put [(d.taken 2).getD 1 [],(d.taken 2).getD 0 []]
 | .size=>((d.take 1).wrong (!decide (elem ((d.taken 1).getD 0 [])=[])) 73).put [V4]
 | .nop=>d
 | .make=>let a:=d.wrong (Q8S l i.s) 76;if a.e=0 then a.put [i.s] else a
 | .get=>match Q7V l c f ok with
  | some (c,k)=>d.all l k [c]
  | none=>(d.wrong false 76).all l [] [[]]
 | .give=>match Q7V l c f ok with
  | some (c,k)=>d.all l [] [c,k]
  | none=>(d.wrong false 76).all l [] [[],[]]
 | .call=>match J8 l c f with
  | some (_,x)=>d.all l x.result (c::x.params)
  | none=>d.wrong false 76
 | .array=>((d.wrong (Q4a l i.s) 76).wrong (right (i.s++[91,93])) 76).all l (i.s++[91,93]) [V4]
 | .at_=>
  let t:=d.taken 2
  (((d.take 2).wrong (H4 l (t.getD 1 []) V4) 73).wrong (!decide (elem (t.getD 0 [])=[])) 73).put [elem (t.getD 0 [])]
 | .set_=>
  let t:=d.taken 3
  let a:=d.take 3
  let k:=if a.e=0 then elem (t.getD 0 []) else []
  ((a.wrong (!decide (k=[])) 73).wrong (H4 l (t.getD 2 []) k) 73).wrong (H4 l (t.getD 1 []) V4) 73
 | .is=>let a:=d.wrong (Q4a l i.s) 76;((a.take 1).wrong (Q3G l ((a.taken 1).getD 0 [])) 73).put [M8]
 | .cast=>let a:=d.wrong (Q4a l i.s) 76;((a.take 1).wrong (Q3G l ((a.taken 1).getD 0 [])) 73).put [i.s]
 | .ret=>if m.result=[] then d else d.all l [] [m.result]
 | .equal=>let t:=d.taken 2;(((d.take 2).wrong (Q3G l (t.getD 1 [])) 73).wrong (Q3G l (t.getD 0 [])) 73).put [M8]
def Q8Q:List (X0×Dact):=[
 ([105,110,116], .puts V4),
 ([116,114,117,101], .puts M8),
 ([102,97,108,115,101], .puts M8),
 ([119,111,114,100], .puts N6),
 ([110,117,108,108], .puts C2),
 ([108,111,97,100], .load),
 ([115,116,111,114,101], .store),
 ([100,117,112], .dup),
 ([115,119,97,112], .swap),
 ([112,111,112], .pop),
 ([110,101,103], .takes V4 [V4]),
 ([110,111,116], .takes M8 [M8]),
 ([98,111,116,104], .takes M8 [M8,M8]),
 ([106,111,105,110], .takes N6 [N6,N6]),
 ([108,101,115,115], .takes M8 [V4,V4]),
 ([115,97,109,101], .takes M8 [V4,V4]),
 ([115,105,122,101], .size),
 ([106,117,109,112], .nop),
 ([98,114,97,110,99,104], .takes [] [M8]),
 ([110,101,119], .make),
 ([103,101,116], .get),
 ([112,117,116], .give),
 ([99,97,108,108], .call),
 ([97,114,114,97,121], .array),
 ([97,116], .at_),
 ([115,101,116], .set_),
 ([105,115], .is),
 ([99,97,115,116], .cast),
 ([114,101,116,117,114,110], .ret),
 ([116,104,114,111,119], .takes [] [V8]),
 ([111,117,116], .takes [] [V4]),
 ([101,113,117,97,108], .equal)]
def Q1X:List X0:=[[97,100,100],[115,117,98],[109,117,108],[100,105,118],[114,101,109],[97,110,100],[111,114],[120,111,114],[115,104,108],[115,104,114]]
def Fy:List (X0×Dact):=(Q1X.map fun o=>(o,Dact.takes V4 [V4,V4])).reverse++Q8Q.reverse
def doM (l:List Cla) (m:Hm.Met) (i:Ins) (c f:X0) (ok:Bool) (s:Shp):Shp×Int:=
 match Fy.lookup i.op with
 | none=>(Shp.zero,76)
 | some a=>
  let d:=By l m i c f ok ⟨s.stack,s.locals,0⟩ a
  let b:=d.wrong (decide (d.stack.length≤24)) 72
  if b.e=0 then (⟨true,b.stack,b.locals⟩,0) else (Shp.zero,b.e)
theorem Dr.wrong_ok {d:Dr} {ok:Bool} {e:Int} (g:e≠0) (h:(d.wrong ok e).e=0):d.e=0∧ok=true∧d.wrong ok e=d:=by
 unfold Dr.wrong at*
 by_cases b:ok=true
 ·rw[if_pos b] at*;exact ⟨h,b,rfl⟩
 ·rw[if_neg b] at h
  by_cases a:d.e=0
  ·rw[if_pos a] at h;exact absurd h g
  ·rw[if_neg a] at h;exact absurd h a
section
variable {l : List Cla} {m : Hm.Met} {i : Ins} {c f : X0} {ok : Bool} {d : Dr}
theorem Dr.wrong2 {d:Dr} {a b:Bool} {e:Int}:(d.wrong a e).wrong b e=d.wrong (a&&b) e:=by
 unfold Dr.wrong
 cases a<;>cases b<;>simp<;>split<;>simp_all
end
end Go.Hm

namespace Go.Proofs.YtfppjenblllfaaaGreatDoor
open Go.Emb Go.RowKit Go.Kd Go.Hm
variable {w : World} {K : Value → World → Prop} {σ : Q4}
end Go.Proofs.YtfppjenblllfaaaGreatDoor

namespace Go.Emb
open Go.RowKit Go.Hm
variable {w w0 w1 w' w'' : World} {σ σ0 σ1 σ2 σ' : Q4}
theorem Stp.weak (h:Stp w σ1 w' σ2) (a: ∀b o,σ b=some o→σ1 b=some o):Stp w σ w' σ:=
 ⟨h.bel,fun b o e=>h.sat b o (h.le b o (a b o e)),fun _ _ e=>e,fun _ _=>rfl⟩
end Go.Emb
namespace Go.Proofs.YtfppjenblllfaaaGreatDoor
open Go.Emb Go.RowKit Go.Kd Go.Hm
variable {w : World} {K : Value → World → Prop} {σ : Q4}
end Go.Proofs.YtfppjenblllfaaaGreatDoor

namespace Go.Emb
open Go.RowKit Go.Hm
section
variable {P : Program} {w w' w0 : World} {σ σ' σ0 : Q4} {α : Type} {R : Q4 → α → List Value → Prop} {B sz : Nat} {e : TypeId} {v u : Value} {xs : List α} {K : Value → World → Prop}
theorem X1V {t:TypeId} {by_:Nat} {z:Value} [ts:TS P t e] [tz:TZ P e sz by_ z] (h:U0 B e sz R σ w v xs) {k:Nat} (A:k≤xs.length)
 (J: ∀n,U0 B e sz R σ w n (xs.take k)→n.ownBlock=v.ownBlock→K n w):E6 P t v none (some (I k)) (some (I k)) w K:=by
 obtain ⟨a,c,rfl,M,N,l,E⟩:=h
 have hh: ∀w:World,(Instr.sliceBounds true xs.length c none (some (I k)) (some (I k))).run P w= .ok (0,k,k) w:=by
  intro w
  have s:(k:Int)≤c:=by omega
  simp[Instr.sliceBounds,Instr.sliceBound,asIntOf,s]
 unfold E6
 have:(Instr.sliceAt t (.slice a xs.length c) none (some (I k)) (some (I k))).run P w= .ok (.slice (if k=0 then a else a.map (·.add (0*sz))) (k-0) (k-0)) w:=by
  simp[Instr.sliceAt,run_underlying ts.h,Instr.slice,hh,W4 tz]
 rw[Y0 this]
 have hv:(if k=0 then a else a.map (·.add (0*sz)))=a:=by
  split
  ·rfl
  ·cases a with
   | none=>rfl
   | some b=>simp[Addr.add]
 rw[hv,Nat.sub_zero]
 refine J _ ⟨a,k,by rw[List.length_take,Nat.min_eq_left A],by rw[List.length_take];omega,by omega,l,fun L=>?_⟩ (by cases a<;>rfl)
 obtain ⟨g,j,o,rfl,q,C,y,O,r⟩:=E (by omega)
 have H:k*sz≤c*sz:=Nat.mul_le_mul_right _ (by omega)
 refine ⟨g,j,o,rfl,q,C,y,by omega,fun i x f=>?_⟩
 rw[List.getElem?_take] at f
 split at f
 ·exact r i x f
 ·cases f
theorem U0.updD {b:Nat} (h:U0 B e sz R σ w v xs) (u:Upd w b w') (a:v.ownBlock≠some b):U0 B e sz R σ w' v xs:=
 h.kp (D:=fun j=>j=b) (Kpt.of_upd u rfl) fun k c e=>a (e▸c)
end
end Go.Emb
namespace Go.Proofs.YtfppjenblllfaaaGreatDoor
open Go.Emb Go.RowKit Go.Kd Go.Hm
variable {w w' : World} {K : Value → World → Prop} {σ σ' : Q4} {v u : Value}
theorem Q2g {xs:List X0} (g:X4 w σ) (hv:Sl 1 X9 σ v xs) (E:xs.length≤1000000)
 (h: ∀j w',Stp w σ w' σ→V0 w.heap.size T.c 1 X9 σ w' j xs→K j w'):Q0 P F.b [v] w K:=K1 (by
 unfold R9
 have c:=hv
 obtain ⟨a,s,rfl,z,C,l,A⟩:=hv
 refine Sx rfl ?_
 refine Q5 (fun f=>?_) (fun f=>?_)
 ·have:a=none:=by simpa using f
  subst this
  have t:=l rfl
  subst t
  have n:xs=[]:=List.eq_nil_of_length_eq_zero (by omega)
  subst n
  exact h _ w (Stp.refl g) V0.nil
 ·refine I6 (R:=X9) (sz:=1) (Stp.refl g) [] [] rfl rfl (by simp) (by rfl) trivial fun J w1 o q _=>?_
  refine app o q c (by rfl) (by simp only[List.length_nil];omega) (by simp only[List.length_nil];omega) fun y k H r b _=>?_
  exact h _ k r b)
theorem Q9u {B:Nat} {xs:List X0} (g:X4 w σ) (hv:U0 B T.c 1 X9 σ w v xs) (o:xs.length≤1000000)
 (h: ∀a w' σ',Stp w σ w' σ'→Sl 1 X9 σ' a xs→K a w'):Q0 P F.b [v] w K:=by
 obtain ⟨s,n,b,q,_⟩:=hv.freeze g
 refine Q2g n q o fun a w' k l=>?_
 have r:=k.weak b.le
 have f:=(U0.of_acc l).down b fun _ _ h=>h
 obtain ⟨σ',c,j,_,_⟩:=f.keep (w0:=w) (σ0:=σ) r
 exact h a w' σ' c j
structure DrIs (B : Nat) (D : Nat → Prop) (σ : Q4) (w : World) (p tv pv cv hv : Value) (m : Hm.Met) (i : Ins) (d : Dr) : Prop where
  ex : ∃ b sv lv, p = .pointer (some ⟨b, 0, none⟩) ∧ B ≤ b ∧ Z5 σ w b [tv, S m.name, pv, S m.result, .bool m.abs, I m.locals, cv, hv, S i.op, I i.n, S i.s, .bool true, sv, lv, I d.e] ∧ U0 B T.c 1 X9 σ w sv d.stack ∧ U0 B T.c 1 X9 σ w lv d.locals ∧ (∀ k, sv.ownBlock = some k → k ≠ b ∧ lv.ownBlock ≠ some k) ∧ (∀ k, lv.ownBlock = some k → k ≠ b) ∧ ∀ k, D k ↔ (k = b ∨ sv.ownBlock = some k ∨ lv.ownBlock = some k)
section
variable {B : Nat} {D : Nat → Prop} {p tv pv cv hv : Value} {m : Hm.Met} {i : Ins} {d : Dr}
theorem DrIs.mem (h:DrIs B D σ w p tv pv cv hv m i d) {k:Nat} (hk:D k):B≤k∧k<w.heap.size∧σ k=none:=by
 obtain ⟨b,sv,g,rfl,hB,a,f,c,_,_,hD⟩:=h.ex
 rcases (hD k).1 hk with rfl | hk | hk
 ·exact ⟨hB,a.lt,a.1⟩
 ·exact f.mem hk
 ·exact c.mem hk
theorem DrIs.nx {F:Nat→Prop} (h:DrIs B D σ w p tv pv cv hv m i d) (k:Nxt F w σ w' σ') (c: ∀j,D j→ ¬F j):DrIs B D σ' w' p tv pv cv hv m i d:=by
 obtain ⟨b,sv,q,rfl,hB,g,o,n,l,f,hD⟩:=h.ex
 exact ⟨b,sv,q,rfl,hB,g.nx k (c b ((hD b).2 (.inl rfl))),o.nx k fun j a=>c j ((hD j).2 (.inr (.inl a))),n.nx k fun j a=>c j ((hD j).2 (.inr (.inr a))),l,f,hD⟩
theorem DrIs.up (h:DrIs B D σ w p tv pv cv hv m i d) (k:Stp w σ w' σ'):DrIs B D σ' w' p tv pv cv hv m i d:=
 h.nx (F:=fun _=>False) (.of_stp k) fun _ _=>id
theorem Nxt.rfl0 (a:X4 w σ):Nxt D w σ w σ:= .of_stp (Stp.refl a)
theorem Nxt.updD (g:X4 w σ) {b:Nat} (u:Upd w b w') (h:σ b=none) (f:D b):Nxt D w σ w' σ:=
 ⟨Kpt.of_upd u f,SLe.refl _,fun _ _=>rfl,fun k o a=>by
  have c:k≠b:=fun e=>by subst e;rw[h] at a;cases a
  rw[u.block k c];exact g k o a⟩
theorem Q28 {ok:Bool} {e:Int} (c:X4 w σ) (h:DrIs B D σ w p tv pv cv hv m i d)
 (hh: ∀w',Nxt D w σ w' σ→DrIs B D σ w' p tv pv cv hv m i (d.wrong ok e)→K (.bool (decide ((d.wrong ok e).e=0))) w'):Q0 P F.ak [p, .bool ok,I e] w K:=Iu (by
 have s:=h
 obtain ⟨b,sv,C,rfl,hB,f,y,H,o,q,hD⟩:=h.ex
 unfold Lv
 refine Xy (fun _ w'=>Nxt D w σ w' σ∧DrIs B D σ w' (.pointer (some ⟨b,0,none⟩)) tv pv cv hv m i (d.wrong ok e)) ?_ (fun _ L w1 A=>?_)
 ·cases ok with
  | true=>
   simp only[Bool.not_true,↓M1,M1,Mb,reduceIte]
   exact ⟨Nxt.rfl0 c,s⟩
  | false=>
   simp only[Bool.not_false,↓M1,M1,Mb,reduceIte]
   refine Jk (i:=14) f rfl ?_
   by_cases a:d.e=0
   ·simp only[decide_eq_true a,↓M1,M1,Mb,reduceIte]
    refine Mc (i:=14) f (by simp) rfl rfl fun J j k=>?_
    have g:d.wrong false e=⟨d.stack,d.locals,e⟩:=by unfold Dr.wrong;rw[if_neg (by simp),if_pos a]
    rw[g]
    exact ⟨Nxt.updD c j f.1 ((hD b).2 (.inl rfl)),b,sv,C,rfl,hB,k,y.updD j fun e=>(o b e).1 rfl,H.updD j fun e=>q b e rfl,o,q,hD⟩
   ·simp only[decide_eq_false a,↓M1,M1,Mb,reduceIte]
    have g:d.wrong false e=d:=by unfold Dr.wrong;rw[if_neg (by simp),if_neg a]
    rw[g]
    exact ⟨Nxt.rfl0 c,s⟩
 ·obtain ⟨N,r⟩:=A
  have n:=r
  obtain ⟨M,z,E,t,_,l,_⟩:=r.ex
  cases t
  simp only[↓M1,M1,Mb,reduceIte]
  refine Jk (i:=14) l rfl ?_
  simp only[↓M1,M1,Mb,reduceIte]
  exact hh w1 N n)
theorem X2w {ys:List X0} (W:X4 w σ) (hB:B≤w.heap.size) (h:DrIs B D σ w p tv pv cv hv m i d) (hy:Sl 1 X9 σ v ys) (hl:d.stack.length+ys.length≤1000000)
 (hh: ∀w' Y,Nxt D w σ w' σ→DrIs B Y σ w' p tv pv cv hv m i (d.put ys)→(∀j,Y j→D j∨w.heap.size≤j)→K (.tuple #[]) w'):Q0 P F.bE [p,v] w K:=Q0p (by
 have h0:=h
 obtain ⟨b,sv,O,rfl,Q,l,hq,r,C,X,hD⟩:=h.ex
 unfold On
 rw[E7]
 refine O8 ?_
 refine Jk (i:=14) l rfl ?_
 refine Oy ?_
 by_cases z:d.e=0
 case neg=>
  rw[decide_eq_false z]
  refine W0 ?_
  have N:d.put ys=d:=by unfold Dr.put;rw[if_neg z]
  rw[N] at hh
  exact hh w D (Nxt.rfl0 W) h0 fun j hj=> .inl hj
 rw[decide_eq_true z]
 rw[z] at l
 refine V9 ?_
 have N:d.put ys=⟨d.stack++ys,d.locals,0⟩:=by unfold Dr.put;rw[if_pos z]
 rw[N] at hh
 simp only[↓M1,M1,Mb,reduceIte]
 refine Jk (i:=12) l rfl ?_
 refine Q1P W hB hq hy (by rfl) (by omega) (by omega) fun y J E q o L=>?_
 have g: ∀k,y.ownBlock=some k→sv.ownBlock=some k∨w.heap.size≤k:=fun k f=>by
  rcases L with ⟨a,af,ea,eb⟩ | ⟨_,s⟩
  ·left;rw[ea];rw[eb] at f;cases a<;>exact f
  ·exact .inr (s k f)
 have n:Kpt (fun k=>sv.ownBlock=some k) w J:=E.mono fun k _ e=>e.1
 have A:Z5 σ J b _:=⟨l.1,by obtain ⟨e,he⟩:=l.2;exact ⟨e,(n.block b l.lt fun e=>(C b e).1 rfl).trans he⟩⟩
 have M:=r.kp n fun k f e=>(C k e).2 f
 rw[Cr]
 refine Mc (i:=12) A (by simp) (by obtain ⟨a,c,rfl,_⟩:=o;rfl) (by obtain ⟨a,c,rfl,_⟩:=o;rfl) fun w3 H V=>?_
 have Z:=l.lt
 have t: ∀k,y.ownBlock=some k→k≠b:=fun k f e=>by
  rcases g k f with h | h
  ·exact (C k h).1 e
  ·omega
 have U: ∀k,y.ownBlock=some k→O.ownBlock≠some k:=fun k f e=>by
  rcases g k f with h | h
  ·exact (C k h).2 e
  ·have:=(r.mem e).2.1;omega
 have N2:Nxt D w σ J σ:=⟨n.mono fun k _ e=>(hD k).2 (.inr (.inl e)),SLe.refl _,fun _ _=>rfl,q⟩
 refine hh w3 (fun k=>k=b∨y.ownBlock=some k∨O.ownBlock=some k) (N2.trans (Nxt.updD q H A.1 ((hD b).2 (.inl rfl)))) ⟨b,y,O,rfl,Q,V,o.updD H fun e=>t b e rfl,M.updD H fun e=>X b e rfl,fun k f=>⟨t k f,U k f⟩,X,fun k=>Iff.rfl⟩ fun j hj=>?_
 rcases hj with rfl | hj | hj
 ·exact .inl ((hD _).2 (.inl rfl))
 ·exact (g j hj).imp (fun h=>(hD j).2 (.inr (.inl h))) id
 ·exact .inl ((hD j).2 (.inr (.inr hj))))
end
end Go.Proofs.YtfppjenblllfaaaGreatDoor

namespace Go.Proofs.YtfppjenblllfaaaGreatDoor
open Go.Emb Go.RowKit Go.Kd Go.Hm
variable {w w' : World} {K : Value → World → Prop} {σ σ' : Q4} {v u : Value} {B : Nat} {D : Nat → Prop} {p tv pv cv hv : Value} {m : Hm.Met} {i : Ins} {d : Dr} {l : List Cla}
set_option maxHeartbeats 1000000 in
theorem X1N {n:Nat} (hs:X4 w σ) (h:DrIs B D σ w p tv pv cv hv m i d) (hl:d.stack.length≤1000000) (hn:n≤2000000)
 (hh: ∀v w' σ',Nxt D w σ w' σ'→DrIs B D σ' w' p tv pv cv hv m i (d.take n)→Sl 1 X9 σ' v (d.taken n)→K v w'):Q0 P F.bt [p,I n] w K:=Ab (by
 have h0:=h
 obtain ⟨b,sv,lv,rfl,hB,hm,hq,ad,h1,h2,hD⟩:=h.ex
 unfold Oc
 simp only[↓M1,M1,Mb,reduceIte]
 refine Jk (i:=12) hm rfl ?_
 refine Hw hq ?_
 refine Jb ?_
 rw[show decide ((n:Int)≤(d.stack.length:Nat))=decide (n≤d.stack.length) from decide_eq_decide.2 (by omega)]
 refine Q28 hs h0 fun w1 z A=>?_
 by_cases j:d.e=0∧n≤d.stack.length
 case neg=>
  have L:d.take n=d.wrong (decide (n≤d.stack.length)) 72:=by unfold Dr.take;rw[if_neg j]
  have J:d.taken n=List.replicate n []:=by unfold Dr.taken;rw[if_neg j]
  have he: ¬(d.wrong (decide (n≤d.stack.length)) 72).e=0:=fun e=>by
   obtain ⟨k1,k2,_⟩:=Dr.wrong_ok (by decide) e
   exact j ⟨k1,by simpa using k2⟩
  rw[L,J] at hh
  rw[decide_eq_false he]
  simp only[Bool.not_false,↓M1,M1,Mb,reduceIte]
  refine X26 (R:=X9) (sz:=1) ([]:X0) z.sat (by kernel_rfl) (by decide) ⟨rfl,by decide⟩ (by omega) (by omega) fun Z w2 C H _=>?_
  obtain ⟨E,s3,q3,aw,_⟩:=H.keep C
  exact hh Z w2 E (z.trans (.of_stp s3)) (A.up s3) q3
 have ew:d.wrong (decide (n≤d.stack.length)) 72=d:=by rw[decide_eq_true j.2];rfl
 have L:d.take n=⟨d.stack.take (d.stack.length-n),d.locals,0⟩:=by unfold Dr.take;rw[if_pos j]
 have J:d.taken n=d.stack.drop (d.stack.length-n):=by unfold Dr.taken;rw[if_pos j]
 rw[ew] at A⊢
 rw[L,J] at hh
 rw[decide_eq_true j.1]
 simp only[Bool.not_true,↓M1,M1,Mb,reduceIte]
 have ap:=A
 obtain ⟨b',ai,N,e1,O,g,q,y,g1,g2,t⟩:=A.ex
 cases e1
 rw[j.1] at g
 refine Jk (i:=12) g rfl ?_
 refine Hw q ?_
 refine Q76 ?_
 rw[B1 (by omega) (by omega),show (d.stack.length:Int)-(n:Int)=((d.stack.length-n:Nat):Int) by omega]
 refine Jk (i:=12) g rfl ?_
 refine X07 q (d.stack.length-n) (by omega) fun Z X _=>?_
 refine Q9u z.sat X (by rw[List.length_drop];omega) fun v3 w3 E f M=>?_
 have s:=g.up f
 have U:=q.up f
 have Y:=y.up f
 refine Jk (i:=12) s rfl ?_
 refine X1V U (k:=d.stack.length-n) (by omega) fun v4 o r=>?_
 rw[Cr]
 refine Mc (i:=12) s (by simp) (by obtain ⟨a,c,rfl,_⟩:=o;rfl) (by obtain ⟨a,c,rfl,_⟩:=o;rfl) fun w5 Q W=>?_
 have V:=z.trans (Nxt.of_stp (D:=D) f)
 refine hh v3 w5 E (V.trans (Nxt.updD f.sat Q s.1 ((t b).2 (.inl rfl)))) ⟨b,v4,N,rfl,O,W,o.updD Q fun e=>(g1 b (by rw[←r];exact e)).1 rfl,Y.updD Q fun e=>g2 b e rfl,fun k hk=>g1 k (by rw[←r];exact hk),g2,fun k=>by rw[r];exact t k⟩ M)
theorem X0x {a c:X0} (g:X4 w σ) (h:DrIs B D σ w p tv pv cv hv m i d) (n:Tab σ tv l) (ok:Ok l) (q:a.length≤Z7) (t:c.length≤Z7)
 (hh: ∀w' σ',Nxt D w σ w' σ'→DrIs B D σ' w' p tv pv cv hv m i (d.wrong (H4 l a c) 73)→K (.tuple #[]) w'):Q0 P F.bm [p,S a,S c] w K:=Ka (by
 have r:=h
 obtain ⟨b,sv,C,rfl,hB,o,z,f,y,A,hD⟩:=h.ex
 unfold Mt
 rw[E7]
 refine O8 ?_
 refine Jk (i:=0) o rfl ?_
 refine Q3D g n ok q t fun w1 σ1 e=>?_
 refine Q28 e.sat (r.up e) fun j k s=>?_
 exact hh j σ1 ((Nxt.of_stp e).trans k) s)
def dnM (y:Value):Nat:=match y with
 | .int _ z=>(z+1).toNat
 | _=>0
set_option maxHeartbeats 1000000 in
theorem X2c {q:X0} {ys:List X0} (hs:X4 w σ) (hB:B≤w.heap.size) (h:DrIs B D σ w p tv pv cv hv m i d) (ht:Tab σ tv l) (ok:Ok l) (hy:Sl 1 X9 σ v ys) (hq:q.length≤Z7) (hl:d.stack.length≤100000) (hn:ys.length≤2000000)
 (hh: ∀w' σ' Z,Nxt D w σ w' σ'→DrIs B Z σ' w' p tv pv cv hv m i (d.all l q ys)→(∀j,Z j→D j∨w.heap.size≤j)→K (.tuple #[]) w'):Q0 P F.a4 [p,S q,v] w K:=Q0i (by
 unfold Oo
 refine Q9 hy ?_
 refine X1N hs h (by omega) (by omega) fun an w1 σ1 t d1 o=>?_
 have M:(d.taken ys.length).length=ys.length:=by
  unfold Dr.taken
  split
  ·rename_i hc;rw[List.length_drop];omega
  ·simp
 have V:=hy.lift t.le
 have E:=ht.lift t.le
 have z:(d.take ys.length).stack.length≤d.stack.length:=by
  unfold Dr.take
  split
  ·rw[List.length_take];omega
  ·unfold Dr.wrong;split
   ·exact Nat.le_refl _
   ·split<;>exact Nat.le_refl _
 refine Q9 o ?_
 refine Q76 ?_
 rw[M,B1 (by omega) (by omega)]
 refine Ym (fun x w'=> ∃(k:Nat) (σ':Q4),x=I ((k:Int)-1)∧k≤ys.length∧Nxt D w1 σ1 w' σ'∧DrIs B D σ' w' p tv pv cv hv m i ((d.take ys.length).wrong (((List.zipWith (H4 l) (d.taken ys.length) ys).drop k).all id) 73)) (fun x _=>dnM x) ⟨ys.length,σ1,rfl,Nat.le_refl _,Nxt.rfl0 t.sat,by
  rw[List.drop_of_length_le (by simp;omega)];exact d1⟩ ?_
 rintro _ dd Y ⟨k,σ2,rfl,hk,c,s⟩
 refine Jb ?_
 by_cases L:k=0
 ·subst L
  rw[show decide ((0:Int)≤((0:Nat):Int)-1)=false from by decide]
  refine W0 ?_
  rw[List.drop_zero] at s
  refine Vs ?_
  have a:=t.trans c
  have eb: ∀w' σ',Nxt D Y σ2 w' σ'→B≤w'.heap.size:=fun w' σ' N=>Nat.le_trans hB (Nat.le_trans a.kp.size N.kp.size)
  by_cases b:q=[]
  ·have r:d.all l q ys=(d.take ys.length).wrong ((List.zipWith (H4 l) (d.taken ys.length) ys).all id) 73:=by unfold Dr.all Dr.put1;rw[if_pos b]
   rw[r] at hh
   rw[show (!decide (q=[]))=false from by simp[b]]
   refine W0 ?_
   exact hh Y σ2 D a s fun j H=> .inl H
  ·have r:d.all l q ys=((d.take ys.length).wrong ((List.zipWith (H4 l) (d.taken ys.length) ys).all id) 73).put [q]:=by unfold Dr.all Dr.put1;rw[if_neg b]
   rw[r] at hh
   rw[show (!decide (q=[]))=true from by simp[b]]
   refine V9 ?_
   refine O7 (R:=X9) (sz:=1) c.sat [S q] [q] rfl rfl (by simp;rfl) rfl ⟨⟨rfl,hq⟩,trivial⟩ fun v3 w3 σ3 n J=>?_
   have ae:((d.take ys.length).wrong ((List.zipWith (H4 l) (d.taken ys.length) ys).all id) 73).stack.length≤d.stack.length:=by
    have e:((d.take ys.length).wrong ((List.zipWith (H4 l) (d.taken ys.length) ys).all id) 73).stack=(d.take ys.length).stack:=by
     unfold Dr.wrong;split
     ·rfl
     ·split<;>rfl
    rw[e];exact z
   refine X2w n.sat (Nat.le_trans hB (Nat.le_trans a.kp.size n.bel.size)) (s.up n) J (by simp only[List.length_cons,List.length_nil];omega) fun X D4 Q g y=>?_
   refine hh X σ3 D4 ((a.trans (.of_stp n)).trans Q) g fun j H=>(y j H).imp id fun e=>Nat.le_trans a.kp.size (Nat.le_trans n.bel.size e)
 ·rw[decide_eq_true (show (0:Int)≤(k:Int)-1 by omega)]
  refine V9 ?_
  obtain ⟨j,rfl⟩: ∃j,k=j+1:=⟨k-1,by omega⟩
  rw[show (((j+1:Nat):Int)-1)=(j:Int) by omega]
  have U:j<(d.taken ys.length).length:=by omega
  have A:j<ys.length:=by omega
  have C:=o.lift c.le
  have O:=V.lift c.le
  have W:=E.lift c.le
  obtain ⟨r,f1⟩:=Sl.elS C U
  obtain ⟨e2,f2⟩:=Sl.elS O A
  refine U9 c.sat ?_
  (repeat refine J4 Qp ?_)
  (intros;(repeat (rename_i hx;subst hx));(try simp only[↓M2,M2,Mb,reduceIte]))
  rename_i w3 f
  refine X0x f.sat (s.up f.stp) W ok f1 f2 fun X σ4 Q g=>?_
  rw[B1 (by omega) (by omega)]
  rw[Dr.wrong2] at g
  have ed:(((List.zipWith (H4 l) (d.taken ys.length) ys).drop (j+1)).all id&&H4 l (d.taken ys.length)[j] ys[j])=((List.zipWith (H4 l) (d.taken ys.length) ys).drop j).all id:=by
   rw[List.drop_eq_getElem_cons (i:=j) (by simp;omega),List.all_cons,Bool.and_comm]
   simp
  rw[ed] at g
  refine ⟨⟨j,σ4,rfl,by omega,(c.trans (.of_stp f.stp)).trans Q,g⟩,?_⟩
  simp only[dnM]
  omega)
end Go.Proofs.YtfppjenblllfaaaGreatDoor

namespace Go.Proofs.YtfppjenblllfaaaGreatDoor
open Go.Emb Go.RowKit Go.Kd Go.Hm
variable {w w' w0 : World} {K : Value → World → Prop} {σ σ' σ0 : Q4} {v u : Value}
def O6 (f:Nat):Value:= .func (.func f) #[] #[]
def Ig (σ:Q4) (a:Dact) (v:Value):Prop:=match a with
 | .puts k=> ∃q,v= .func (.func F.cK) #[] #[.pointer (some q)]∧Z3 σ q [S k]∧k.length≤Z7
 | .takes p ys=>(∃q r b,v= .func (.func F.c4) #[] #[.pointer (some q), .pointer (some r)]∧Z3 σ q [S p]∧Z3 σ r [b]∧Sl 1 X9 σ b ys∧p.length≤Z7)∨(v=O6 F.b8∧p=V4∧ys=[V4,V4])∨(v=O6 F.ax∧p=M8∧ys=[V4,V4])
 | .load=>v=O6 F.cc
 | .store=>v=O6 F.c5
 | .pop=>v=O6 F.cG
 | .dup=>v=O6 F.cq
 | .swap=>v=O6 F.cd
 | .size=>v=O6 F.ce
 | .nop=>v=O6 F.cH
 | .make=>v=O6 F.c2
 | .get=>v=O6 F.cr
 | .give=>v=O6 F.cf
 | .call=>v=O6 F.cg
 | .array=>v=O6 F.c6
 | .at_=>v=O6 F.cy
 | .set_=>v=O6 F.cs
 | .is=>v=O6 F.cz
 | .cast=>v=O6 F.ch
 | .ret=>v=O6 F.ci
 | .equal=>v=O6 F.c7
theorem Ig.lift {a:Dact} (h:Ig σ a v) (k:SLe σ σ'):Ig σ' a v:=by
 cases a with
 | puts s=>obtain ⟨q,d,c,b⟩:=h;exact ⟨q,d,c.lift k,b⟩
 | takes p ys=>
  rcases h with ⟨q,r,g,d,c,b,e,f⟩ | h
  ·exact .inl ⟨q,r,g,d,c.lift k,b.lift k,e.lift k,f⟩
  ·exact .inr h
 | _=>exact h
def Fa (σ:Q4) (c:List (List UInt8×Value)) (b:List (X0×Dact)):Prop:= ∀k,match b.lookup k with
 | none=>M0 c k=none
 | some a=> ∃v,M0 c k=some v∧Ig σ a v
theorem Q8X (a:List (List UInt8×Value)) (k x:List UInt8) (v:Value):M0 (Qw a k v) x=if k=x then some v else M0 a x:=by
 induction a with
 | nil=>simp[Qw,M0]
 | cons p r c=>
  unfold Qw
  split
  ·rename_i h
   simp only[M0]
   split
   ·rfl
   ·rename_i b;rw[if_neg (by rw[h];exact b)]
  ·rename_i h
   simp only[M0,c]
   split
   ·rename_i b;rw[if_neg (fun e=>h (by rw[b,e]))]
   ·rfl
theorem Fa.lift {b:List (List UInt8×Value)} {a:List (X0×Dact)} (h:Fa σ b a) (e:SLe σ σ'):Fa σ' b a:=fun k=>by
 have:=h k
 split at this
 ·exact this
 ·obtain ⟨v,d,c⟩:=this;exact ⟨v,d,c.lift e⟩
theorem Fa.put {c:List (List UInt8×Value)} {b:List (X0×Dact)} {k:X0} {a:Dact} (h:Fa σ c b) (f:Ig σ a v):Fa σ (Qw c k v) ((k,a)::b):=fun x=>by
 rw[List.lookup_cons,Q8X]
 by_cases e:x=k
 ·subst e
  simp only[beq_self_eq_true,if_true]
  exact ⟨v,rfl,f⟩
 ·have d:(x==k)=false:=by simpa using e
  rw[d,if_neg (Ne.symm e)]
  exact h x
structure TS (w0 : World) (σ0 : Q4) (w : World) (σ : Q4) (r : Nat) (acts : List (X0 × Dact)) : Prop where
  stp : Stp w0 σ0 w σ
  ge : w0.heap.size ≤ r
  mp : ∃ mp, E0 σ w r mp ∧ Fa σ mp acts
theorem TS.up {r:Nat} {a:List (X0×Dact)} (h:TS w0 σ0 w σ r a) (k:Stp w σ w' σ'):TS w0 σ0 w' σ' r a:=by
 obtain ⟨b,d,c⟩:=h.mp
 exact ⟨h.stp.trans k,h.ge,b,d.up k,c.lift ⟨k.le⟩⟩
theorem L9 {r:Nat} {b:List (X0×Dact)} {k:X0} {a:Dact} (h:TS w0 σ0 w σ r b) (j:Ig σ a v) (i: ∀w',TS w0 σ0 w' σ r ((k,a)::b)→K undef w'):mapUpdate P T.j (.map (some r)) (S k) v w K:=by
 obtain ⟨l,d,g⟩:=h.mp
 refine Db X7 d k v fun f e c=>?_
 exact i f ⟨e.stp h.stp h.ge d.1,h.ge,_,c,g.put j⟩
theorem Tp {r:Nat} {a:List (X0×Dact)} {s:X0} (h:TS w0 σ0 w σ r a) (e:s.length≤Z7) (b: ∀v w' σ',TS w0 σ0 w' σ' r a→Ig σ' (.puts s) v→K v w'):Q0 P F.aO [S s] w K:=Q5x (by
 unfold Q0x
 refine J6 h.stp.sat rfl fun q w1 σ1 c d=>?_
 refine Q8u ?_
 exact b _ w1 σ1 (h.up c) ⟨q,rfl,d,e⟩)
theorem Q6a {r:Nat} {a:List (X0×Dact)} {s:X0} {ys:List X0} (h:TS w0 σ0 w σ r a) (i:s.length≤Z7) (e:Sl 1 X9 σ u ys) (k: ∀v w' σ',TS w0 σ0 w' σ' r a→Ig σ' (.takes s ys) v→K v w'):Q0 P F.a2 [S s,u] w K:=Q43 (by
 unfold Al
 refine J6 h.stp.sat rfl fun q w1 σ1 c g=>?_
 refine L3 c.sat (e.up c) fun m j l f d=>?_
 refine Q8u ?_
 have b:=c.trans f
 exact k _ j l (h.up b) (.inl ⟨q,m,u,rfl,g.up f,d,e.up b,i⟩))
theorem Dz {r:Nat} {a:List (X0×Dact)} {s y:X0} (h:TS w0 σ0 w σ r a) (d:s.length≤Z7) (f:y.length≤Z7) (c: ∀v w' σ',TS w0 σ0 w' σ' r a→Ig σ' (.takes s [y]) v→K v w'):buildSlice P T.d 1 [(0,S y)] w fun t w=>Q0 P F.a2 [S s,t] w K:=by
 refine O7 (R:=X9) (sz:=1) h.stp.sat [S y] [y] rfl rfl (by simp;rfl) rfl ⟨⟨rfl,f⟩,trivial⟩ fun j i g e b=>?_
 exact Q6a (h.up e) d b c
theorem Q59 {r:Nat} {a:List (X0×Dact)} {s y z:X0} (h:TS w0 σ0 w σ r a) (c:s.length≤Z7) (e:y.length≤Z7) (f:z.length≤Z7) (d: ∀v w' σ',TS w0 σ0 w' σ' r a→Ig σ' (.takes s [y,z]) v→K v w'):buildSlice P T.d 2 [(0,S y),(1,S z)] w fun t w=>Q0 P F.a2 [S s,t] w K:=by
 refine O7 (R:=X9) (sz:=1) h.stp.sat [S y,S z] [y,z] rfl rfl (by simp;exact ⟨rfl,rfl⟩) rfl ⟨⟨rfl,e⟩,⟨rfl,f⟩,trivial⟩ fun j k i g b=>?_
 exact Q6a (h.up g) c b d
set_option maxHeartbeats 4000000 in
set_option maxRecDepth 100000 in
theorem X0Y (hs:X4 w σ) (h: ∀r e w' σ',Stp w σ w' σ'→I4 σ' r e→Fa σ' e Fy→K (.map (some r)) w'):Q0 P F.co [] w K:=Q4Y (by
 unfold Pp
 refine Ar hs fun r w1 hr k1 ad=>?_
 have t0:TS w σ w1 σ r []:=⟨k1,hr,[],ad,fun k=>rfl⟩
 refine Tp (s:=V4) t0 (by decide) fun v1 w1 σ1 s1 f1=>?_
 refine L9 (k:=[105,110,116]) (a:= .puts V4) s1 f1 fun x1 t1=>?_
 refine Tp (s:=M8) t1 (by decide) fun v2 w2 σ2 s2 f2=>?_
 refine L9 (k:=[116,114,117,101]) (a:= .puts M8) s2 f2 fun x2 t2=>?_
 refine Tp (s:=M8) t2 (by decide) fun v3 w3 σ3 s3 f3=>?_
 refine L9 (k:=[102,97,108,115,101]) (a:= .puts M8) s3 f3 fun x3 m=>?_
 refine Tp (s:=N6) m (by decide) fun v4 w4 σ4 s4 f4=>?_
 refine L9 (k:=[119,111,114,100]) (a:= .puts N6) s4 f4 fun x4 t4=>?_
 refine Tp (s:=C2) t4 (by decide) fun v5 w5 σ5 s5 f5=>?_
 refine L9 (k:=[110,117,108,108]) (a:= .puts C2) s5 f5 fun x5 t5=>?_
 refine L9 (k:=[108,111,97,100]) (a:= .load) t5 rfl fun x6 t6=>?_
 refine L9 (k:=[115,116,111,114,101]) (a:= .store) t6 rfl fun x7 t7=>?_
 refine L9 (k:=[100,117,112]) (a:= .dup) t7 rfl fun x8 t8=>?_
 refine L9 (k:=[115,119,97,112]) (a:= .swap) t8 rfl fun x9 t9=>?_
 refine L9 (k:=[112,111,112]) (a:= .pop) t9 rfl fun a0 A=>?_
 refine Dz (s:=V4) (y:=V4) A (by decide) (by decide) fun a3 bd b4 ag ab=>?_
 refine L9 (k:=[110,101,103]) (a:= .takes V4 [V4]) ag ab fun co V=>?_
 refine Dz (s:=M8) (y:=M8) V (by decide) (by decide) fun cb b2 av Q L=>?_
 refine L9 (k:=[110,111,116]) (a:= .takes M8 [M8]) Q L fun cf Z=>?_
 refine Q59 (s:=M8) (y:=M8) (z:=M8) Z (by decide) (by decide) (by decide) fun ax ay a7 l g=>?_
 refine L9 (k:=[98,111,116,104]) (a:= .takes M8 [M8,M8]) l g fun cg ah=>?_
 refine Q59 (s:=N6) (y:=N6) (z:=N6) ah (by decide) (by decide) (by decide) fun a8 cq cr C af=>?_
 refine L9 (k:=[106,111,105,110]) (a:= .takes N6 [N6,N6]) C af fun bz al=>?_
 refine L9 (k:=[108,101,115,115]) (a:= .takes M8 [V4,V4]) al (.inr (.inr ⟨rfl,rfl,rfl⟩)) fun a2 ai=>?_
 refine L9 (k:=[115,97,109,101]) (a:= .takes M8 [V4,V4]) ai (.inr (.inr ⟨rfl,rfl,rfl⟩)) fun cl p=>?_
 refine L9 (k:=[115,105,122,101]) (a:= .size) p rfl fun cs ao=>?_
 refine L9 (k:=[106,117,109,112]) (a:= .nop) ao rfl fun ba N=>?_
 refine Dz (s:=[]) (y:=M8) N (by decide) (by decide) fun br b5 b3 E W=>?_
 refine L9 (k:=[98,114,97,110,99,104]) (a:= .takes [] [M8]) E W fun bp ak=>?_
 refine L9 (k:=[110,101,119]) (a:= .make) ak rfl fun a9 M=>?_
 refine L9 (k:=[103,101,116]) (a:= .get) M rfl fun b9 H=>?_
 refine L9 (k:=[112,117,116]) (a:= .give) H rfl fun bq aa=>?_
 refine L9 (k:=[99,97,108,108]) (a:= .call) aa rfl fun bs ap=>?_
 refine L9 (k:=[97,114,114,97,121]) (a:= .array) ap rfl fun bl am=>?_
 refine L9 (k:=[97,116]) (a:= .at_) am rfl fun az D=>?_
 refine L9 (k:=[115,101,116]) (a:= .set_) D rfl fun bx J=>?_
 refine L9 (k:=[105,115]) (a:= .is) J rfl fun ca R=>?_
 refine L9 (k:=[99,97,115,116]) (a:= .cast) R rfl fun bg q=>?_
 refine L9 (k:=[114,101,116,117,114,110]) (a:= .ret) q rfl fun cm t=>?_
 refine Dz (s:=[]) (y:=V8) t (by decide) (by decide) fun bb cp bf X aj=>?_
 refine L9 (k:=[116,104,114,111,119]) (a:= .takes [] [V8]) X aj fun ci Y=>?_
 refine Dz (s:=[]) (y:=V4) Y (by decide) (by decide) fun cc bo ae B j=>?_
 refine L9 (k:=[111,117,116]) (a:= .takes [] [V4]) B j fun bm ac=>?_
 refine L9 (k:=[101,113,117,97,108]) (a:= .equal) ac rfl fun b7 n=>?_
 refine V7 (cells:=(Q1X.map S).toArray) (by kernel_rfl) ?_
 refine J5 10 (fun i w'=>TS w σ w' ae r ((((Q1X.take i).map fun o=>(o,Dact.takes V4 [V4,V4])).reverse)++Q8Q.reverse)) n fun i w2 d hi f=>?_
 refine Z0 ?_
 refine Q5 (fun U=>?_) (fun U=>?_)
 ·have b:i<10:=by simp at U;omega
  have c:i<Q1X.length:=b
  refine X0m (v:=S Q1X[i]) b (by rw[List.getElem?_map,List.getElem?_eq_getElem c];rfl) ?_
  refine L9 (a:= .takes V4 [V4,V4]) f (.inr (.inl ⟨rfl,rfl,rfl⟩)) fun w3 m=>?_
  (try simp only[↓M1,M1,Mb,reduceIte])
  refine Y3 (by decide) b ?_
  rw[List.take_add_one,List.getElem?_eq_getElem c,Option.toList_some,List.map_append,List.reverse_append]
  exact m
 ·have:i=10:=by simp at U;omega
  subst this
  obtain ⟨e,q1,q2⟩:=f.mp
  obtain ⟨σ3,s3,l3,O,_⟩:=q1.keep f.stp f.ge
  exact h r e w2 σ3 s3 l3 (q2.lift ⟨O⟩))
end Go.Proofs.YtfppjenblllfaaaGreatDoor

namespace Go.Proofs.YtfppjenblllfaaaGreatDoor
open Go.Emb Go.RowKit Go.Kd Go.Hm
variable {w w' w1 : World} {K : Value → World → Prop} {σ σ' σ1 : Q4} {v u : Value} {B : Nat} {D D1 : Nat → Prop} {p tv pv cv hv : Value} {m : Hm.Met} {i : Ins} {d d' : Dr} {l : List Cla} {E : World → Prop}
def To (B:Nat) (D:Nat→Prop) (w:World) (σ:Q4) (p tv pv cv hv:Value) (m:Hm.Met) (i:Ins) (d':Dr) (E:World→Prop):Prop:=
 ∀w' σ' a,Nxt D w σ w' σ'→DrIs B a σ' w' p tv pv cv hv m i d'→(∀j,a j→D j∨w.heap.size≤j)→E w'
theorem Nxt.chain0 {D F:Nat→Prop} {c:World} {f:Q4} (h:Nxt D w σ w1 σ1) (k:Nxt F w1 σ1 c f) (g: ∀j,j<w.heap.size→F j→D j):Nxt D w σ c f:=
 ⟨⟨k.kp.os.trans h.kp.os,k.kp.tape.trans h.kp.tape,k.kp.output.trans h.kp.output,Nat.le_trans h.kp.size k.kp.size,fun j a b=>(k.kp.block j (Nat.lt_of_lt_of_le a h.kp.size) fun e=>b (g j a e)).trans (h.kp.block j a b)⟩,
  h.le.more k.le,fun j a=>(k.old j (Nat.lt_of_lt_of_le a h.kp.size)).trans (h.old j a),k.sat⟩
theorem To.go (h:To B D w σ p tv pv cv hv m i d' E) (N:Nxt D w σ w1 σ1) (hD: ∀j,D1 j→D j∨w.heap.size≤j):To B D1 w1 σ1 p tv pv cv hv m i d' E:=fun w' σ' f c g a=>
 h w' σ' f (Nxt.chain0 N c fun j b e=>(hD j e).elim id fun h=>by omega) g fun j b=>(a j b).elim (fun e=>hD j e) fun e=> .inr (Nat.le_trans N.kp.size e)
theorem To.up (h:To B D w σ p tv pv cv hv m i d' E) (k:Stp w σ w1 σ1):To B D w1 σ1 p tv pv cv hv m i d' E:=h.go (.of_stp k) fun j a=> .inl a
theorem To.fin (h:To B D w σ p tv pv cv hv m i d' E) (b:X4 w σ) (a:DrIs B D σ w p tv pv cv hv m i d'):E w:=h w σ D (Nxt.rfl0 b) a fun j c=> .inl c
structure AtD (B : Nat) (D : Nat → Prop) (w : World) (σ : Q4) (p tv pv cv hv : Value) (m : Hm.Met) (i : Ins) (l : List Cla) (d : Dr) : Prop where
  sat : X4 w σ
  ge : B ≤ w.heap.size
  dr : DrIs B D σ w p tv pv cv hv m i d
  tab : Tab σ tv l
  ok : Ok l
  len : d.stack.length ≤ 100000
theorem AtD.up (h:AtD B D w σ p tv pv cv hv m i l d) (k:Stp w σ w1 σ1):AtD B D w1 σ1 p tv pv cv hv m i l d:=⟨k.sat,Nat.le_trans h.ge k.bel.size,h.dr.up k,h.tab.lift ⟨k.le⟩,h.ok,h.len⟩
theorem X0a {q:X0} {ys:List X0} (h:AtD B D w σ p tv pv cv hv m i l d) (b:Sl 1 X9 σ v ys) (a:q.length≤Z7) (c:ys.length≤2000000) (hh:To B D w σ p tv pv cv hv m i (d.all l q ys) (K (.tuple #[]))):Q0 P F.a4 [p,S q,v] w K:=
 X2c h.sat h.ge h.dr h.tab h.ok b a h.len c hh
theorem Q7z {q y z:X0} (h:AtD B D w σ p tv pv cv hv m i l d) (e:q.length≤Z7) (f:y.length≤Z7) (c:z.length≤Z7) (hh:To B D w σ p tv pv cv hv m i (d.all l q [y,z]) E):buildSlice P T.d 2 [(0,S y),(1,S z)] w fun t w=>Q0 P F.a4 [p,S q,t] w fun _ w=>E w:=by
 refine O7 (R:=X9) (sz:=1) h.sat [S y,S z] [y,z] rfl rfl (by simp;exact ⟨rfl,rfl⟩) rfl ⟨⟨rfl,f⟩,⟨rfl,c⟩,trivial⟩ fun j k g b a=>?_
 exact X0a (h.up b) a e (by simp) (hh.up b)
def X0e (l:List Cla) (m:Hm.Met) (i:Ins) (c f:X0) (k:Bool) (a:Dact):Prop:= ∀{w:World} {σ:Q4} {B:Nat} {D:Nat→Prop} {p tv pv cv hv v:Value} {d:Dr} {K:Value→World→Prop},AtD B D w σ p tv pv cv hv m i l d→Ig σ a v→d.e=0→
 To B D w σ p tv pv cv hv m i (By l m i c f k d a) (K (.tuple #[]))→Y9 P v [p] w K
theorem Q9e {c f q:X0} {k:Bool} {ys:List X0} (s:ys.length≤100000):X0e l m i c f k (.takes q ys):=fun {w σ B D p tv pv cv hv v d K} h o _ hh=>by
 have hh:To B D w σ p tv pv cv hv m i (d.all l q ys) (K (.tuple #[])):=hh
 rcases o with ⟨a,b,r,rfl,g,n,e,j⟩ | ⟨rfl,rfl,rfl⟩ | ⟨rfl,rfl,rfl⟩
 ·refine Y7 (first:=[]) (caps:=[.pointer (some a), .pointer (some b)]) (Q2h ?_)
  unfold Cf
  refine X8 h.sat g rfl ?_
  refine X8 h.sat n rfl ?_
  exact X0a h e j (by omega) hh
 ·refine Y7 (first:=[]) (caps:=[]) (Gb ?_)
  unfold Ws
  exact Q7z (E:=K (.tuple #[])) h (by decide) (by decide) (by decide) hh
 ·refine Y7 (first:=[]) (caps:=[]) (Ck ?_)
  unfold Vd
  exact Q7z (E:=K (.tuple #[])) h (by decide) (by decide) (by decide) hh
end Go.Proofs.YtfppjenblllfaaaGreatDoor

namespace Go.Proofs.YtfppjenblllfaaaGreatDoor
open Go.Emb Go.RowKit Go.Kd Go.Hm
variable {w w' w1 : World} {K : Value → World → Prop} {σ σ' σ1 : Q4} {v u : Value} {tv : Value} {m : Hm.Met} {i : Ins} {l : List Cla}
theorem X2J {t:TypeId} {sz by_ k b:Nat} {z:Value} [TG P t true] [TZ P t sz by_ z] {cs ds:List Value} (a:Z5 σ w b cs) (c: ∀i v,ds[i]? =some v→cs[k+i]? =some v) (d:ds.length=sz) (h:K (.agg ds.toArray) w):Q2 P t (.pointer (some ((⟨b,0,none⟩:Addr).add k))) w K:=
 Dy d (fun i v e=>by rw[Cr];exact a.cell (c i v e)) h
theorem Q3J {t:TypeId} {sz by_ b:Nat} {z:Value} [tz:TZ P t sz by_ z] {cs ds:List Value} (a:Z5 σ w b cs) (e:cs.length=sz) (d:ds.length=sz) (f: ∀u∈ds,u.oneCell'=true)
 (h: ∀w',Upd w b w'→Z5 σ w' b ds→K undef w'):Z2 P t (.pointer (some ⟨b,0,none⟩)) (.agg ds.toArray) w K:=
 sta a e d (by rw[List.all_toArray];exact List.all_eq_true.2 f) fun w' c a=>h w' c a
def QF (w0:World) (σ:Q4) (xs:List X0) (v:Value) (w':World):Prop:=Stp w0 σ w' σ∧U0 w0.heap.size T.c 1 X9 σ w' v xs
theorem QF.st {w0:World} {xs:List X0}:I0 (fun w w'=>Below w.heap.size w w') (QF w0 σ xs):=fun _ _ _ ⟨a,c⟩ b=>⟨a.trans (Stp.of_below a.sat b),c.up (Stp.of_below a.sat b)⟩
def QFR (w0:World) (σ:Q4) (xs:List X0) (p:Iv) (v:Value) (w':World):Prop:=QF w0 σ xs v w'∧ ∀k,v.ownBlock=some k→p.1≤k∧k<p.2
theorem QFR.st {w0:World} {xs:List X0} (p:Iv):I0 (fun w w'=>Below w.heap.size w w') (QFR w0 σ xs p):=fun _ _ _ ⟨b,a⟩ c=>⟨QF.st _ _ _ b c,a⟩
theorem Q2J {w0:World} {xs:List X0} (b:Hst w0 σ w σ) (f:Sl 1 X9 σ v xs) (d:xs.length≤1000000):Q0 P F.b [v] w (dkR (fun w w'=>Below w.heap.size w w') (QFR w0 σ xs) w):=
 Q2g b.sat f d fun g w' c a=>⟨c.bel,⟨b.stp.trans c,(U0.of_acc a).mono b.stp.bel.size⟩,fun k e=>⟨(a.mem k e).1,(a.mem k e).2.1⟩⟩
theorem X12 {A:(World→World→Prop)→(World→Prop)→Prop} (c:X4 w σ) (h:A (fun w w'=>Below w.heap.size w w') (fun w'=>Hst w σ w' σ)):drR w A:=
 X1v _ _ ⟨Stp.of_below c (Below.refl _ _).drew⟩ (fun _ _ a b=>⟨a.stp.trans (Stp.of_below a.sat b)⟩) (fun _ _ h=>h.size) h
def Q3K (d:Dr):Shp×Int:=if d.e=0 then (⟨true,d.stack,d.locals⟩,0) else (Shp.zero,d.e)
def FnF (σ:Q4) (w0:World) (o:Option Dact) (v:Value) (w':World):Prop:= ∃σ',Stp w0 σ w' σ'∧ ∀a,o=some a→Ig σ' a v
def TbF (σ:Q4) (w0:World) (v:Value) (w':World):Prop:= ∃σ' r a,Stp w0 σ w' σ'∧v= .map (some r)∧I4 σ' r a∧Fa σ' a Fy
theorem TbF.st {w0:World}:I0 (fun w w'=>Below w.heap.size w w') (TbF σ w0):=fun _ _ _ ⟨σ',r,c,a,e,d,b⟩ f=>⟨σ',r,c,a.trans (Stp.of_below a.sat f),e,d,b⟩
theorem FnF.st {w0:World} {o:Option Dact}:I0 (fun w w'=>Below w.heap.size w w') (FnF σ w0 o):=fun _ _ _ ⟨σ',a,b⟩ c=>⟨σ',a.trans (Stp.of_below a.sat c),b⟩
set_option maxHeartbeats 2000000 in
theorem X2e {ms is:List Value} {sv lv:Value} {xs ys:List X0} {b0:Bool} {c f:X0} {k:Bool} (hs:X4 w σ) (ht:Tab σ tv l) (ok:Ok l) (hm:L2 σ m ms) (hi:G3 σ i is) (hx:Sl 1 X9 σ sv xs) (hy:Sl 1 X9 σ lv ys) (hl:xs.length≤1000) (O:ys.length≤1000) (bf: ∀a,Fy.lookup i.op=some a→X0e l m i c f k a)
 (h: ∀ds w' σ',Stp w σ w' σ'→M9 σ' (doM l m i c f k ⟨b0,xs,ys⟩).1 ds→K (.tuple #[.agg ds.toArray,I (doM l m i c f k ⟨b0,xs,ys⟩).2]) w'):
 Q0 P F.cM [tv, .agg ms.toArray, .agg is.toArray, .agg [.bool b0,sv,lv].toArray] w K:=Q7W (by
 obtain ⟨pv,cv,hv,rfl,Q⟩:=hm
 obtain ⟨rfl,eh⟩:=hi
 obtain ⟨ta,cx⟩: ∃ta,tv= .pointer (some ta):=by obtain ⟨a,_,_,_,e,_⟩:=ht.ex;exact ⟨a,e⟩
 subst cx
 unfold Q2L
 refine Y8 hs fun qm w1 σ1 L ct=>?_
 refine Y8 L.sat fun qi w2 σ2 k2 bx=>?_
 refine Y8 k2.sat fun qs w3 σ3 k3 cq=>?_
 have bg:=(ct.up k2).up k3
 have a0:=bx.up k3
 have S3:=(L.trans k2).trans k3
 have cj:=hx.up S3
 have ci:=hy.up S3
 refine B5 k3.sat fun b8 M σ4 aw k4 a8=>?_
 have S4:=S3.trans k4
 have av:=bg.up k4
 have Y:=a0.up k4
 have U:=cq.up k4
 have b5:=cj.up k4
 have cu:=ci.up k4
 refine X12 k4.sat ?_
 refine J4 (fun R _ w g=>O8 (W8 rfl)) ?_
 refine J4 (fun R _ w g=>O8 (W8 rfl)) ?_
 refine J4 (V:= .agg [S m.name,pv,S m.result, .bool m.abs,I m.locals,cv,hv].toArray) (fun R _ w g=>Z1 g.sat (av.up g.stp) rfl (W8 rfl)) ?_
 refine J4 (V:= .agg [S i.op,I i.n,S i.s].toArray) (fun R _ w g=>Z1 g.sat (Y.up g.stp) rfl (W8 rfl)) ?_
 refine J4 (V:=sv) (fun t R _ w g e=>?_) ?_
 ·subst e
  exact ld (i:=1) g.sat (U.up g.stp) rfl (W8 rfl)
 refine Q6g (QFR M σ4 xs) QFR.st (fun t R _ w g e=>?_) ?_
 ·subst e
  exact Q2J g b5 (by omega)
 refine J4 (V:=lv) (fun t R _ w g e=>?_) ?_
 ·subst e
  exact ld (i:=2) g.sat (U.up g.stp) rfl (W8 rfl)
 refine Q6g (QFR M σ4 ys) QFR.st (fun t R _ w g e=>?_) ?_
 ·subst e
  exact Q2J g cu (by omega)
 refine W5 (fun v w'=> ∃t u,v= .agg #[.bool true,t,u]∧QF M σ4 xs t w'∧QF M σ4 ys u w'∧ ∀k,t.ownBlock=some k→u.ownBlock≠some k) (fun _ _ _ ⟨t,u,N,J,h3,h4⟩ g=>⟨t,u,N,QF.st _ _ _ J g,QF.st _ _ _ h3 g,h4⟩) (fun y q R hA w g ai ah=>?_) ?_
 ·refine V7 (cells:= #[.bool true,y,q]) (by obtain ⟨⟨_,a,ec,rfl,_⟩,_⟩:=ai;obtain ⟨⟨_,a2,c0,rfl,_⟩,_⟩:=ah;kernel_rfl) ?_
  exact ⟨Below.refl _ _,y,q,rfl,ai.1,ah.1,fun k e1 e2=>by
   have g1:=ai.2 k e1
   have g2:=ah.2 k e2
   rcases hA 6 8 (by decide) with h | h<;>omega⟩
 rintro _ _ _ _ _ _ _ _ _ R-w5 d5 rfl rfl rfl rfl rfl-rfl-⟨y,q,rfl,⟨k5,q5⟩,⟨-,y5⟩,ca⟩
 obtain ⟨cf,b6,cb,_⟩:=Q
 refine V7 (cells:= #[.pointer (some ta),S m.name,pv,S m.result, .bool m.abs,I m.locals,cv,hv,S i.op,I i.n,S i.s, .bool true,y,q,I 0]) (by
  obtain ⟨a1,c1,rfl,_⟩:=cf;obtain ⟨a2,c2,rfl,_⟩:=b6;obtain ⟨a3,c3,rfl,_⟩:=cb;obtain ⟨a4,c4,rfl,_⟩:=q5;obtain ⟨a5,c5,rfl,_⟩:=y5;kernel_rfl) ?_
 refine Pu k5.sat fun b w6 σ6 g W a7=>?_
 have c7:=a8.lt
 have cy:M.heap.size≤b:=Nat.le_trans k5.bel.size g
 have Z:=(a8.up k5).up W
 have S5:=S4.trans k5
 have S6:=S5.trans W
 have q6:=q5.up W
 have y6:=y5.up W
 have bb:DrIs M.heap.size (fun k=>k=b∨y.ownBlock=some k∨q.ownBlock=some k) σ6 w6 (.pointer (some ⟨b,0,none⟩)) (.pointer (some ta)) pv cv hv m i ⟨xs,ys,0⟩:=
  ⟨b,y,q,rfl,cy,a7,q6,y6,fun k A=>⟨fun e=>by have:=(q5.mem A).2.1;omega,ca k A⟩,fun k A e=>by have:=(y5.mem A).2.1;omega,fun k=>Iff.rfl⟩
 have A6:AtD M.heap.size _ w6 σ6 (.pointer (some ⟨b,0,none⟩)) (.pointer (some ta)) pv cv hv m i l ⟨xs,ys,0⟩:=⟨W.sat,Nat.le_trans k5.bel.size W.bel.size,bb,ht.lift ⟨S6.le⟩,ok,by show xs.length≤100000;omega⟩
 generalize (fun k=>k=b∨y.ownBlock=some k∨q.ownBlock=some k)=D at*
 have ax: ∀k,D k→M.heap.size≤k:=fun k A=>(A6.dr.mem A).1
 have da:=(Y.up k5).up W
 clear bb q5 q6 y5 y6 a7
 generalize (Value.pointer (some ⟨b,0,none⟩))=p at*
 have be:doM l m i c f k ⟨b0,xs,ys⟩=match Fy.lookup i.op with
  | none=>(Shp.zero,76)
  | some a=>Q3K ((By l m i c f k ⟨xs,ys,0⟩ a).wrong (decide ((By l m i c f k ⟨xs,ys,0⟩ a).stack.length≤24)) 72):=rfl
 rw[be] at h
 clear be
 generalize ho:Fy.lookup i.op=o at*
 refine U9 W.sat ?_
 (repeat refine J4 Qp ?_)
 refine W5 (TbF σ6 w6) TbF.st (fun w g=>X0Y g.sat fun r mp w' σ' L N J=>⟨L.bel,σ',r,mp,g.stp.trans L,rfl,N,J⟩) ?_
 (repeat refine J4 Qp ?_)
 refine W5 (fun v w'=> ∃v0,v= .tuple #[v0, .bool o.isSome]∧FnF σ6 w6 o v0 w') (fun _ _ _ ⟨v0,N,J⟩ g=>⟨v0,N,FnF.st _ _ _ J g⟩) (fun dx dt w g cg cw=>?_) ?_
 ·subst cw
  obtain ⟨σ',r,mp,L,rfl,N,J⟩:=cg
  have h3:=J i.op
  rw[ho] at h3
  refine Q3O (sz:=1) (by_:=8) (z:= .nilFunc) (tz:=⟨by kernel_rfl⟩) X7 (N.is L.sat) i.op ?_
  refine ⟨Below.refl _ _,?_⟩
  cases o with
  | none=>
   have h3:M0 mp i.op=none:=h3
   rw[h3]
   exact ⟨_,rfl,σ',L,fun a e=>by cases e⟩
  | some a=>
   obtain ⟨v,h4,h5⟩:=h3
   rw[h4]
   exact ⟨v,rfl,σ',L,fun a e=>by cases e;exact h5⟩
 refine W5 (FnF σ6 w6 o) FnF.st (fun t w g ac=>?_) ?_
 ·obtain ⟨v0,rfl,J⟩:=ac
  exact V6 rfl ⟨Below.refl _ _,J⟩
 refine J4 (V:= .bool o.isSome) (fun t w g ac=>?_) ?_
 ·obtain ⟨v0,rfl,J⟩:=ac
  exact V6 rfl (W8 rfl)
 rintro _ _ _ _ ea _ w7 ed rfl-rfl-cr rfl
 obtain ⟨σ7,k7,hf⟩:=cr
 refine Ro ?_
 cases o with
 | none=>
  refine V9 ?_
  refine V7 (cells:= #[.bool false, .slice none 0 0, .slice none 0 0]) (by kernel_rfl) ?_
  refine T7 (ds:=[.bool false, .slice none 0 0, .slice none 0 0]) (Z.up k7) (S6.trans k7) (Nat.le_trans S3.bel.size aw) rfl rfl (by simp;exact ⟨rfl,rfl⟩) fun w9 cc B=>?_
  refine W1 B rfl ?_
  exact h _ _ _ cc.stp ⟨_,_,rfl,Sl.nil,Sl.nil⟩
 | some a=>
  refine W0 ?_
  refine bf a rfl (A6.up k7) (hf a rfl) rfl fun w8 σ8 D8 N8 h8 dy=>?_
  replace h: ∀ds w' σ',Stp w σ w' σ'→M9 σ' (Q3K ((By l m i c f k ⟨xs,ys,0⟩ a).wrong (decide ((By l m i c f k ⟨xs,ys,0⟩ a).stack.length≤24)) 72)).1 ds→K (.tuple #[.agg ds.toArray,I (Q3K ((By l m i c f k ⟨xs,ys,0⟩ a).wrong (decide ((By l m i c f k ⟨xs,ys,0⟩ a).stack.length≤24)) 72)).2]) w':=h
  generalize By l m i c f k ⟨xs,ys,0⟩ a=d at*
  have S7:=S6.trans k7
  have cm: ∀k,D k→w.heap.size≤k:=fun k A=>Nat.le_trans S4.bel.size (ax k A)
  have ab: ∀k,D8 k→M.heap.size≤k:=fun k A=>(h8.mem A).1
  have bh:=h8
  obtain ⟨b1,dn,d4,rfl,cs,Q,ba,cl,g1,g2,bz⟩:=h8.ex
  refine Q3E ?_
  refine O8 ?_
  refine O8 ?_
  refine Jk (i:=12) Q rfl ?_
  refine Hw ba ?_
  refine Q9V ?_
  rw[show decide (((d.stack.length:Nat):Int)≤24)=decide (d.stack.length≤24) from decide_eq_decide.2 (by omega)]
  refine Q28 N8.sat bh fun w9 N9 h9=>?_
  generalize d.wrong (decide (d.stack.length≤24)) 72=d2 at*
  unfold Q3K at h
  clear bh Q ba cl g1 g2 bz h8 cs
  obtain ⟨b2,C,H,e2,dw,ak,ag,O,g1,g2,dj⟩:=h9.ex
  cases e2
  have S8:=S7.nx N8 cm
  have S9:=S8.nx N9 fun k A=>Nat.le_trans S4.bel.size (ab k A)
  have an: ¬D8 b8:=fun e=>by have:=ab _ e;omega
  have ad: ¬D b8:=fun e=>by have:=ax _ e;omega
  have B:=((Z.up k7).nx N8 ad).nx N9 an
  have aa:=Nat.le_trans S3.bel.size aw
  refine Q3E ?_
  refine O8 ?_
  refine Jk (i:=14) ak rfl ?_
  refine Xd ?_
  by_cases he:d2.e=0
  ·simp only[if_pos he] at h
   rw[show (!decide (d2.e=0))=false from by simp[he]]
   refine W0 ?_
   refine Q3E ?_
   refine O8 ?_
   refine X2J (k:=11) (ds:=[.bool true,C,H]) ak (fun j v hj=>by rcases j with _ | _ | _ | j<;>first | exact hj | cases hj) rfl ?_
   have N: ∀u∈[Value.bool true,C,H],u.oneCell'=true:=by
    obtain ⟨a1,c1,rfl,_⟩:=ag;obtain ⟨a2,c2,rfl,_⟩:=O;simp;exact ⟨rfl,rfl,rfl⟩
   refine Q3J (ds:=[.bool true,C,H]) B rfl rfl N fun bi af E=>?_
   refine W1 E rfl ?_
   have b7:Stp w σ bi σ8:=af.stp S9 aa B.1
   have ao:C.ownBlock≠some b8:=fun e=>by have:=(ag.mem e).1;omega
   have ay:H.ownBlock≠some b8:=fun e=>by have:=(O.mem e).1;omega
   have a9:=(ag.updD af ao).mono S4.bel.size
   have X:=(O.updD af ay).mono S4.bel.size
   obtain ⟨σa,Sa,qa,ck,bd⟩:=a9.keep b7
   have cp:=X.shiftR ck fun k A=>(bd k fun e=>(g1 k e.symm).2 A).trans (X.mem A).2.2
   obtain ⟨σb,Sb,qb,ch,_⟩:=cp.keep Sa
   exact h _ _ _ Sb ⟨C,H,rfl,qa.lift ch,qb⟩
  ·simp only[if_neg he] at h
   rw[show (!decide (d2.e=0))=true from by simp[he]]
   refine V9 ?_
   refine X24 (ds:=[.bool false, .slice none 0 0, .slice none 0 0]) S9 aa B rfl rfl ?_
   refine J4 (V:= .pointer (some ⟨b1,0,none⟩)) (fun w g=>Q3E (Bv rfl)) ?_
   refine J4 (V:= .pointer (some ((⟨b1,0,none⟩:Addr).add 14))) (fun t w g e=>by subst e;exact O8 (Bv rfl)) ?_
   refine J4 (V:= .agg [.bool false, .slice none 0 0, .slice none 0 0].toArray) (fun w g=>V7 (by kernel_rfl) (Bv rfl)) ?_
   refine J4 (V:=I d2.e) (fun t w g e=>?_) ?_
   ·subst e
    exact Jk (i:=14) (ak.kp g.kp fun e=>by omega) rfl (Bv rfl)
   refine Q9G rfl (by simp;exact ⟨rfl,rfl⟩) (fun v w e=>e) ?_ B.1
   rintro _ _ _ _ _ bi az rfl rfl rfl rfl E
   refine W1 E rfl ?_
   exact h _ _ _ az.hst.stp ⟨_,_,rfl,Sl.nil,Sl.nil⟩)
end Go.Proofs.YtfppjenblllfaaaGreatDoor

namespace Go.Proofs.YtfppjenblllfaaaGreatDoor
open Go.Emb Go.RowKit Go.Kd Go.Hm
variable {w w' w0 w1 : World} {K : Value → World → Prop} {σ σ' σ0 σ1 : Q4} {v u : Value} {tv : Value} {l : List Cla} {b b6 : Nat} {xs ys : List X0} {x : X0}
theorem Q3g {σ1:Q4} {cs ds:List Value} (h:Z5 σ w b cs) (k:Z5 σ1 w b ds):cs=ds:=by
 obtain ⟨_,e,h⟩:=h
 obtain ⟨_,f,k⟩:=k
 rw[h] at k
 have:=Option.some.inj k
 simp at this
 exact this.1
structure ShS (w0 : World) (σ0 : Q4) (w : World) (σ : Q4) (b : Nat) (xs ys : List X0) : Prop where
  stp : Stp w0 σ0 w σ
  ge : w0.heap.size ≤ b
  ex : ∃ v1 v2, Z5 σ w b [.bool true, v1, v2] ∧ U0 w0.heap.size T.c 1 X9 σ w v1 xs ∧ U0 w0.heap.size T.c 1 X9 σ w v2 ys ∧ (∀ k, v1.ownBlock = some k → k ≠ b ∧ v2.ownBlock ≠ some k) ∧ ∀ k, v2.ownBlock = some k → k ≠ b
theorem ShS.up (h:ShS w0 σ0 w σ b xs ys) (k:Stp w σ w' σ'):ShS w0 σ0 w' σ' b xs ys:=by
 obtain ⟨g,c,f,e,d,a,i⟩:=h.ex
 exact ⟨h.stp.trans k,h.ge,g,c,f.up k,e.up k,d.up k,a,i⟩
theorem Q7I (i:X4 w σ) (h: ∀b w',ShS w σ w' σ b [] []→K (.pointer (some ⟨b,0,none⟩)) w'):W6 P T.f w fun p w=>Z2 P T.f p (.agg #[.bool true, .slice none 0 0, .slice none 0 0]) w fun _ w=>K p w:=
 Dx i fun b w1 d f a=>Q3J (sz:=3) (ds:=[.bool true, .slice none 0 0, .slice none 0 0]) a rfl rfl (by simp;exact ⟨rfl,rfl⟩) fun g e c=>
  h b g ⟨e.stp f d a.1,d,_,_,c,U0.of_acc V0.nil,U0.of_acc V0.nil,nofun,nofun⟩
theorem X2y {t p:Value} (h:ShS w0 σ0 w σ b xs ys) (N:Z5 σ w b [.bool true,t,p]) (J:Sl 1 X9 σ u [x]) (X:xs.length≤1000000) (hh: ∀w',ShS w0 σ0 w' σ b (xs++[x]) ys→K undef w'):
 X5 P .append [T.d,T.d] T.d [false,false] [t,u] w fun y w=>fieldAddr P T.f (.pointer (some ⟨b,0,none⟩)) 1 w fun s w=>Z2 P T.d s y w K:=by
 obtain ⟨Z,Y,n,E,B,o,D⟩:=h.ex
 have e:=Q3g N n
 simp only[List.cons.injEq,and_true,true_and] at e
 obtain ⟨rfl,rfl⟩:=e
 refine Q1P h.stp.sat h.stp.bel.size E J (by rfl) (by simp only[List.length_cons,List.length_nil];omega) (by simp only[List.length_cons,List.length_nil];omega) fun r H z W q m=>?_
 have g: ∀k,r.ownBlock=some k→t.ownBlock=some k∨w.heap.size≤k:=fun k d=>by
  rcases m with ⟨a,R,M,L⟩ | ⟨_,f⟩
  ·left;rw[M];rw[L] at d;cases a<;>exact d
  ·exact .inr (f k d)
 have A:=n.kp z fun e=>(o b e.1).1 rfl
 have O:=B.kp z fun k d e=>(o k e.1).2 d
 have C: ∀k,r.ownBlock=some k→k≠b∧p.ownBlock≠some k:=fun k d=>by
  rcases g k d with h | h
  ·exact o k h
  ·have:=n.lt
   exact ⟨by omega,fun e=>by have:=(B.mem e).2.1;omega⟩
 refine O8 ?_
 refine Mc (i:=1) A (by simp) (by obtain ⟨a,c,rfl,_⟩:=q;rfl) (by obtain ⟨a,c,rfl,_⟩:=q;rfl) fun V j Q=>?_
 have U:Stp w0 σ0 H σ:=h.stp.kp z fun k d=>⟨d.2.1,d.2.2⟩
 exact hh V ⟨j.stp U h.ge A.1,h.ge,r,p,Q,q.updD j fun e=>(C b e).1 rfl,O.updD j fun e=>D b e rfl,C,D⟩
theorem Q9S {t q:Value} (h:ShS w0 σ0 w σ b xs ys) (N:Z5 σ w b [.bool true,t,q]) (J:Sl 1 X9 σ u [x]) (Y:ys.length≤1000000) (hh: ∀w',ShS w0 σ0 w' σ b xs (ys++[x])→K undef w'):
 X5 P .append [T.d,T.d] T.d [false,false] [q,u] w fun y w=>fieldAddr P T.f (.pointer (some ⟨b,0,none⟩)) 2 w fun s w=>Z2 P T.d s y w K:=by
 obtain ⟨a1,Z,o,A,O,p,E⟩:=h.ex
 have e:=Q3g N o
 simp only[List.cons.injEq,and_true,true_and] at e
 obtain ⟨rfl,rfl⟩:=e
 refine Q1P h.stp.sat h.stp.bel.size O J (by rfl) (by simp only[List.length_cons,List.length_nil];omega) (by simp only[List.length_cons,List.length_nil];omega) fun j H z X r n=>?_
 have f: ∀k,j.ownBlock=some k→q.ownBlock=some k∨w.heap.size≤k:=fun k d=>by
  rcases n with ⟨a,U,M,L⟩ | ⟨_,g⟩
  ·left;rw[M];rw[L] at d;cases a<;>exact d
  ·exact .inr (g k d)
 have B:=o.kp z fun e=>E b e.1 rfl
 have Q:=A.kp z fun k d e=>(p k d).2 e.1
 have D: ∀k,j.ownBlock=some k→k≠b:=fun k d=>by
  rcases f k d with h | h
  ·exact E k h
  ·have:=o.lt
   omega
 have C: ∀k,t.ownBlock=some k→k≠b∧j.ownBlock≠some k:=fun k d=>⟨(p k d).1,fun e=>by
  rcases f k e with h | h
  ·exact (p k d).2 h
  ·have:=(A.mem d).2.1;omega⟩
 refine O8 ?_
 refine Mc (i:=2) B (by simp) (by obtain ⟨a,c,rfl,_⟩:=r;rfl) (by obtain ⟨a,c,rfl,_⟩:=r;rfl) fun W m R=>?_
 have V:Stp w0 σ0 H σ:=h.stp.kp z fun k d=>⟨d.2.1,d.2.2⟩
 exact hh W ⟨m.stp V h.ge B.1,h.ge,t,j,R,Q.updD m fun e=>(C b e).1 rfl,r.updD m fun e=>D b e rfl,C,D⟩
theorem Q8A {r:List Value} {K:Value→World→Prop} (h:ShS w0 σ0 w σ b xs ys) (S0:Stp w1 σ1 w0 σ0) (j:Z5 σ0 w0 b6 r) (N:r.length=3) (d:w1.heap.size≤b6) (hh: ∀ds w' σ',Stp w1 σ1 w' σ'→M9 σ' ⟨true,xs,ys⟩ ds→K (.agg ds.toArray) w'):
 Q2 P T.f (.pointer (some ⟨b,0,none⟩)) w fun t w=>Z2 P T.f (.pointer (some ⟨b6,0,none⟩)) t w fun _u w=>U5 P T.f (.pointer (some ⟨b6,0,none⟩)) w fun z=>K z w:=by
 obtain ⟨p,g,D,c,m,E,X⟩:=h.ex
 have M:=j.lt
 refine Q70 D rfl ?_
 have A: ∀u∈[Value.bool true,p,g],u.oneCell'=true:=by
  obtain ⟨Y,U,rfl,_⟩:=c;obtain ⟨W,R,rfl,_⟩:=m;simp;exact ⟨rfl,rfl,rfl⟩
 refine Q3J (ds:=[.bool true,p,g]) (j.up h.stp) N rfl A fun B n C=>?_
 refine W1 C rfl ?_
 have S:=S0.trans h.stp
 have Q:Stp w1 σ1 B σ:=n.stp S d (j.up h.stp).1
 have L:=(c.updD n fun e=>by have:=(c.mem e).1;omega).mono S0.bel.size
 have s:=(m.updD n fun e=>by have:=(m.mem e).1;omega).mono S0.bel.size
 obtain ⟨V,O,H,o,a⟩:=L.keep Q
 have i:=s.shiftR o fun k q=>(a k fun e=>(E k e.symm).2 q).trans (s.mem q).2.2
 obtain ⟨σb,J,y,f,_⟩:=i.keep O
 exact hh _ _ _ J ⟨p,g,rfl,H.lift f,y⟩
theorem Cs {e ds:List Value} {s:Shp} {K:Value→World→Prop} (S0:Stp w1 σ1 w σ) (d:Z5 σ w b6 e) (i:e.length=3) (a:w1.heap.size≤b6) (c:M9 σ s ds) (hh: ∀w',Stp w1 σ1 w' σ→K (.agg ds.toArray) w'):
 Z2 P T.f (.pointer (some ⟨b6,0,none⟩)) (.agg ds.toArray) w fun _u w=>U5 P T.f (.pointer (some ⟨b6,0,none⟩)) w fun f=>K f w:=by
 refine Q3J (ds:=ds) d i (by obtain ⟨_,_,rfl,_⟩:=c;rfl) (Rep.one c) fun g j h=>?_
 exact W1 h (by obtain ⟨_,_,rfl,_⟩:=c;rfl) (hh g (j.stp S0 a d.1))
theorem M9.zero:M9 σ Shp.zero [.bool false, .slice none 0 0, .slice none 0 0]:=⟨_,_,rfl,Sl.nil,Sl.nil⟩
theorem Q50 (h:K (.agg [.bool false, .slice none 0 0, .slice none 0 0].toArray) w):N3 P T.f [] w K:=V7 (by kernel_rfl) h
theorem Q4T (h:K (.agg #[.bool true, .slice none 0 0, .slice none 0 0]) w):N3 P T.f [(0, .bool true)] w K:=V7 (by kernel_rfl) h
end Go.Proofs.YtfppjenblllfaaaGreatDoor

namespace Go.Proofs.YtfppjenblllfaaaGreatDoor
open Go.Emb Go.RowKit Go.Kd Go.Hm
variable {w w' w0 w1 : World} {K : Value → World → Prop} {σ σ' σ0 σ1 : Q4} {v u : Value} {tv : Value} {l : List Cla} {b b6 : Nat} {xs ys : List X0} {x : X0} {s t : Shp}
theorem Q98 (i:X4 w σ) (j:Sl 1 X9 σ v xs) (g:xs.length≤1000000)
 (h: ∀a w' σ',Stp w σ w' σ'→Sl 1 X9 σ' a xs→K a w'):Q0 P F.b [v] w K:=
 Q2g i j g fun a w' f c=>by
  obtain ⟨σ',e,d,_⟩:=c.keep f
  exact h a w' σ' e d
def SlF (w0:World) (σ:Q4) (xs:List X0) (v:Value) (w':World):Prop:= ∃σ',Stp w0 σ w' σ'∧Sl 1 X9 σ' v xs
theorem SlF.st:I0 (fun w w'=>Below w.heap.size w w') (SlF w0 σ xs):=fun _ _ _ ⟨σ',a,c⟩ d=>⟨σ',a.trans (Stp.of_below a.sat d),c⟩
theorem Q2Y (c:Hst w0 σ w σ) (f:Sl 1 X9 σ v xs) (e:xs.length≤1000000):Q0 P F.b [v] w (dk (fun w w'=>Below w.heap.size w w') (SlF w0 σ xs) w):=
 Q98 c.sat f e fun g w' σ' a d=>⟨a.bel,σ',c.stp.trans a,d⟩
theorem M9.liftS {ds:List Value} (h:M9 σ s ds) (k:Stp w σ w' σ'):M9 σ' s ds:=Rep.up k.le h
theorem Q2Q {ds:List Value} (Q:X4 w σ) (R:M9 σ s ds) (N:s.stack.length≤1000000) (U:s.locals.length≤1000000) (h: ∀j w' σ',Stp w σ w' σ'→M9 σ' s j→K (.agg j.toArray) w'):Q0 P F.bG [.agg ds.toArray] w K:=Q3p (by
 obtain ⟨sv,W,rfl,o,r⟩:=R
 unfold Ic
 refine Pu Q fun b w1 σ1 c A a=>?_
 have ab:=a.lt
 refine B5 A.sat fun b2 H J q E z=>?_
 have C:=A.trans E
 have a:=a.up E
 have o:=o.up C
 have r:=r.up C
 refine U9 E.sat ?_
 (repeat refine J4 Qp ?_)
 refine J4 (V:=sv) (fun t w c e=>by subst e;exact Jk (i:=1) (a.up c.stp) rfl (W8 rfl)) ?_
 refine W5 (SlF H J s.stack) SlF.st (fun t w c e=>by subst e;exact Q2Y c o N) ?_
 refine J4 (V:=W) (fun t w c e=>by subst e;exact Jk (i:=2) (a.up c.stp) rfl (W8 rfl)) ?_
 (repeat refine J4 Qp ?_)
 refine W5 (SlF H J s.locals) SlF.st (fun t w c e=>by subst e;exact Q2Y c r U) ?_
 rintro _ _ _ y _ _ p w3 aa rfl rfl rfl Y rfl rfl f8
 obtain ⟨σa,Z,f⟩:=Y
 obtain ⟨σb,kb,g⟩:=f8
 obtain ⟨σ3,B,O,lb⟩:=Z.join kb
 have f:=f.lift O
 have g:=g.lift lb
 have n:=a.up B
 refine Mc (i:=1) n (by simp) (Xa f) (F7 f) fun w4 L k=>?_
 refine O8 ?_
 refine Mc (i:=2) k (by simp) (Xa g) (F7 g) fun w5 M D=>?_
 refine Q70 (cs:=[.bool s.seen,y,p]) D rfl ?_
 have X:=C.trans B
 have S5:=M.stp (L.stp X c n.1) c k.1
 have d:b2≠b:=fun e=>by subst e;omega
 have m:=(((z.up B).upd L d).upd M d)
 exact Cs (s:=s) (K:=K) S5 m rfl (Nat.le_trans A.bel.size q) ⟨y,p,rfl,f,g⟩ fun w6 S6=>h _ _ _ S6 ⟨y,p,rfl,f,g⟩)
theorem X1u {α:Type} {f:X0→X0→α} {xs cs:List X0} {i:Nat} (d:i<xs.length) (c:i<cs.length):(List.zipWith f xs cs).take (i+1)=(List.zipWith f xs cs).take i++[f xs[i] cs[i]]:=by
 have a:i<(List.zipWith f xs cs).length:=by simp;omega
 rw[List.take_add_one,List.getElem?_eq_getElem a]
 simp
theorem X1Z {f:X0→X0→X0} {xs cs:List X0} {e:X0} (j:xs.length=cs.length):(List.zipWith f xs cs).any (fun s=>decide (s=e))=false↔ ∀i (g:i<xs.length) (d:i<cs.length),f xs[i] cs[i]≠e:=by
 rw[List.any_eq_false]
 constructor
 ·intro h i g d
  have:=h (f xs[i] cs[i]) (List.mem_iff_getElem.2 ⟨i,by simp;omega,by simp⟩)
  simpa using this
 ·intro h x a
  obtain ⟨i,c,rfl⟩:=List.mem_iff_getElem.1 a
  simp at c
  simpa using h i (by omega) (by omega)
set_option maxHeartbeats 1000000 in
theorem X0q {ds es:List Value} (hs:X4 w σ) (ht:Tab σ tv (Q7 l)) (ok:Ok (Q7 l)) (hr:M9 σ s ds) (hu:M9 σ t es) (h1:s.stack.length≤1000) (h2:s.locals.length≤1000) (h3:t.stack.length≤1000) (h4:t.locals.length≤1000)
 (h: ∀q w' σ',Stp w σ w' σ'→M9 σ' (Wc (Q7 l) s t).1 q→K (.tuple #[.agg q.toArray,I (Wc (Q7 l) s t).2]) w'):Q0 P F.cm [tv, .agg ds.toArray, .agg es.toArray] w K:=Q4k (by
 have aq:=hr
 have ap:=hu
 obtain ⟨sv,lv,rfl,q1,q2⟩:=hr
 obtain ⟨bs,b0,rfl,q3,q4⟩:=hu
 unfold Aq
 refine Y8 hs fun qa w1 σ1 k1 c=>?_
 refine Y8 k1.sat fun qb w2 σ2 k2 g=>?_
 have c:=c.up k2
 refine B5 k2.sat fun b6 Z U o k3 A=>?_
 have c:=c.up k3
 have g:=g.up k3
 have S2:=k1.trans k2
 have a:=S2.trans k3
 have o:w.heap.size≤b6:=Nat.le_trans S2.bel.size o
 have ad:=ht.lift ⟨a.le⟩
 refine O8 ?_
 refine ld (i:=0) a.sat c rfl ?_
 refine Ro ?_
 cases e1:s.seen with
 | false=>
  have M:Wc (Q7 l) s t=(t,0):=by unfold Wc;rw[if_pos e1]
  rw[M] at h
  refine V9 ?_
  refine Z1 a.sat g rfl ?_
  refine Q2Q a.sat (M9.liftS ap a) (by omega) (by omega) fun q w4 σ4 k4 B=>?_
  exact Cs (K:=fun r w=>K (.tuple #[r,I 0]) w) (a.trans k4) (A.up k4) rfl o B fun w5 f=>h _ _ _ f B
 | true=>
 refine W0 ?_
 refine O8 ?_
 refine ld (i:=0) a.sat g rfl ?_
 refine Ro ?_
 cases e2:t.seen with
 | false=>
  have M:Wc (Q7 l) s t=(s,0):=by unfold Wc;rw[if_neg (by simp[e1]),if_pos e2]
  rw[M] at h
  refine V9 ?_
  refine Z1 a.sat c rfl ?_
  refine Q2Q a.sat (M9.liftS aq a) (by omega) (by omega) fun q w4 σ4 k4 B=>?_
  exact Cs (K:=fun r w=>K (.tuple #[r,I 0]) w) (a.trans k4) (A.up k4) rfl o B fun w5 f=>h _ _ _ f B
 | true=>
 refine W0 ?_
 have q1:=q1.up a
 have q2:=q2.up a
 have q3:=q3.up a
 have q4:=q4.up a
 refine O8 ?_
 refine ld (i:=1) a.sat c rfl ?_
 refine Q9 q1 ?_
 refine O8 ?_
 refine ld (i:=1) a.sat g rfl ?_
 refine Q9 q3 ?_
 refine Xd ?_
 have en:Wc (Q7 l) s t=if s.stack.length≠t.stack.length∨s.locals.length≠t.locals.length then (Shp.zero,75)
  else if (List.zipWith (B8 (Q7 l)) s.stack t.stack).any (fun s=>decide (s=[])) then (Shp.zero,75)
  else (⟨true,List.zipWith (B8 (Q7 l)) s.stack t.stack,List.zipWith (Yd (Q7 l)) s.locals t.locals⟩,0):=by
  unfold Wc;rw[if_neg (by simp[e1]),if_neg (by simp[e2])]
 rw[en] at h
 clear en
 have Q:(s.stack.length≠t.stack.length∨s.locals.length≠t.locals.length)→ ∀w σ',Stp Z U w σ'→N3 P T.f [] w fun a5 w=>Z2 P T.f (.pointer (some ⟨b6,0,none⟩)) a5 w fun _u w=>U5 P T.f (.pointer (some ⟨b6,0,none⟩)) w fun r0=>K (.tuple #[r0,I 75]) w:=fun E w σ' k=>by
  rw[if_pos E] at h
  refine Q50 ?_
  exact Cs (K:=fun r w=>K (.tuple #[r,I 75]) w) (a.trans k) (A.up k) rfl o M9.zero fun w5 f=>h _ _ _ f M9.zero
 by_cases el:s.stack.length=t.stack.length
 case neg=>
  rw[show (!decide ((s.stack.length:Int)=(t.stack.length:Nat)))=true from by simp;omega]
  (repeat refine Hd.h ?_)
  refine V9 ?_
  exact Q (.inl el) Z U (Stp.refl a.sat)
 rw[show (!decide ((s.stack.length:Int)=(t.stack.length:Nat)))=false from by simp[el]]
 (repeat refine Hd.h ?_)
 refine ld (i:=2) a.sat c rfl ?_
 (repeat refine Hd.h ?_)
 refine Q9 q2 ?_
 (repeat refine Hd.h ?_)
 refine ld (i:=2) a.sat g rfl ?_
 (repeat refine Hd.h ?_)
 refine Q9 q4 ?_
 (repeat refine Hd.h ?_)
 refine Xd ?_
 (repeat refine Hd.h ?_)
 by_cases M:s.locals.length=t.locals.length
 case neg=>
  rw[show (!decide ((s.locals.length:Int)=(t.locals.length:Nat)))=true from by simp;omega]
  refine V9 ?_
  exact Q (.inr M) Z U (Stp.refl a.sat)
 rw[show (!decide ((s.locals.length:Int)=(t.locals.length:Nat)))=false from by simp[M]]
 refine W0 ?_
 clear Q
 rw[if_neg (by simp[el,M])] at h
 refine Q4T ?_
 refine Q7I a.sat fun b w4 A4=>?_
 have S4:=A4.stp
 refine O8 ?_
 refine ld (i:=1) S4.sat (c.up S4) rfl ?_
 refine Q9 q1 ?_
 refine J5 s.stack.length (fun k w'=> ∃σ',ShS Z U w' σ' b ((List.zipWith (B8 (Q7 l)) s.stack t.stack).take k) []∧ ∀j (Y:j<s.stack.length) (g2:j<t.stack.length),j<k→B8 (Q7 l) s.stack[j] t.stack[j]≠[]) ⟨U,A4,fun j _ _ h=>absurd h (Nat.not_lt_zero _)⟩ fun k w5 d hk hi=>?_
 obtain ⟨σ5,A5,L⟩:=hi
 have f:=A5.stp
 refine Z0 ?_
 refine Q5 (fun E=>?_) (fun E=>?_)
 ·have m:k<s.stack.length:=by simp at E;omega
  have n:k<t.stack.length:=by omega
  refine Wl (q1.up f) m fun a1 N C=>?_
  refine X8 f.sat N rfl ?_
  refine O8 ?_
  refine ld (i:=1) f.sat (g.up f) rfl ?_
  refine Wl (q3.up f) n fun a2 H y=>?_
  refine X8 f.sat H rfl ?_
  refine Q8w f.sat (ad.lift ⟨f.le⟩) ok C y fun w6 σ6 k6=>?_
  have D:=A5.up k6
  refine Nk ?_
  by_cases ej:B8 (Q7 l) s.stack[k] t.stack[k]=[]
  ·rw[decide_eq_true ej]
   refine V9 ?_
   have W:(List.zipWith (B8 (Q7 l)) s.stack t.stack).any (fun s=>decide (s=[]))=true:=by
    rw[←Bool.not_eq_false,X1Z el]
    exact fun hh=>hh k m n ej
   rw[if_pos W] at h
   refine Q50 ?_
   exact Cs (K:=fun r w=>K (.tuple #[r,I 75]) w) (a.trans D.stp) (A.up D.stp) rfl o M9.zero fun w5 f=>h _ _ _ f M9.zero
  ·rw[decide_eq_false ej]
   refine W0 ?_
   obtain ⟨v1,v2,m6,p1,p2,n1,n2⟩:=D.ex
   refine O8 ?_
   refine Jk (i:=1) m6 rfl ?_
   have J:=Q4E ok C y
   refine O7 (R:=X9) (sz:=1) D.stp.sat [S (B8 (Q7 l) s.stack[k] t.stack[k])] [B8 (Q7 l) s.stack[k] t.stack[k]] rfl rfl (by simp;rfl) rfl ⟨⟨rfl,J⟩,trivial⟩ fun v7 w7 σ7 V a4=>?_
   refine X2y (D.up V) (m6.up V) a4 (by rw[List.length_take];omega) fun w8 A8=>?_
   (try simp only[↓M1,M1,Mb,reduceIte])
   refine Y3 (by omega) m ⟨σ7,?_,fun j Y g2 hj=>?_⟩
   ·rw[X1u m n];exact A8
   ·by_cases e:j=k
    ·subst e;exact ej
    ·exact L j Y g2 (by omega)
 have O:k=s.stack.length:=by simp at E;omega
 subst O
 have W:(List.zipWith (B8 (Q7 l)) s.stack t.stack).any (fun s=>decide (s=[]))=false:=(X1Z el).2 fun j Y g2=>L j Y g2 Y
 rw[if_neg (by simp[W])] at h
 rw[List.take_of_length_le (by simp;omega)] at A5
 clear L W
 refine O8 ?_
 refine ld (i:=2) f.sat (c.up f) rfl ?_
 refine Q9 (q2.up f) ?_
 refine J5 s.locals.length (fun k w'=> ∃σ',ShS Z U w' σ' b (List.zipWith (B8 (Q7 l)) s.stack t.stack) ((List.zipWith (Yd (Q7 l)) s.locals t.locals).take k)) ⟨σ5,A5⟩ fun k w6 d hk hi=>?_
 obtain ⟨σ6,D⟩:=hi
 have p:=D.stp
 refine Z0 ?_
 refine Q5 (fun E=>?_) (fun E=>?_)
 ·have m:k<s.locals.length:=by simp at E;omega
  have n:k<t.locals.length:=by omega
  refine Wl (q2.up p) m fun a1 N C=>?_
  refine X8 p.sat N rfl ?_
  refine Xy (fun z w'=> ∃σ',Stp w6 σ6 w' σ'∧z=S (Yd (Q7 l) s.locals[k] t.locals[k])∧(Yd (Q7 l) s.locals[k] t.locals[k]).length≤Z7) ?_ fun z d w7 W=>?_
  ·refine Vs ?_
   by_cases e3:s.locals[k]=[]
   ·rw[show (!decide (s.locals[k]=[]))=false from by simp[e3]]
    (repeat refine Hd.h ?_)
    refine W0 ?_
    have X:Yd (Q7 l) s.locals[k] t.locals[k]=[]:=by unfold Yd;rw[if_pos (.inl e3)]
    rw[X]
    exact ⟨σ6,Stp.refl p.sat,rfl,Nat.zero_le _⟩
   ·rw[show (!decide (s.locals[k]=[]))=true from by simp[e3]]
    (repeat refine Hd.h ?_)
    refine ld (i:=2) p.sat (g.up p) rfl ?_
    (repeat refine Hd.h ?_)
    refine Wl (q4.up p) n fun a2 H y=>?_
    (repeat refine Hd.h ?_)
    refine X8 p.sat H rfl ?_
    (repeat refine Hd.h ?_)
    refine Vs ?_
    (repeat refine Hd.h ?_)
    by_cases e4:t.locals[k]=[]
    ·rw[show (!decide (t.locals[k]=[]))=false from by simp[e4]]
     refine W0 ?_
     have X:Yd (Q7 l) s.locals[k] t.locals[k]=[]:=by unfold Yd;rw[if_pos (.inr e4)]
     rw[X]
     exact ⟨σ6,Stp.refl p.sat,rfl,Nat.zero_le _⟩
    ·rw[show (!decide (t.locals[k]=[]))=true from by simp[e4]]
     refine V9 ?_
     have X:Yd (Q7 l) s.locals[k] t.locals[k]=B8 (Q7 l) s.locals[k] t.locals[k]:=Q96 _ _ _
     rw[X]
     refine O8 ?_
     refine ld (i:=2) p.sat (g.up p) rfl ?_
     refine Wl (q4.up p) n fun a3 aw bo=>?_
     refine X8 p.sat aw rfl ?_
     refine Q8w p.sat (ad.lift ⟨p.le⟩) ok C y fun w7 σ7 V=>?_
     exact ⟨σ7,V,rfl,Q4E ok C y⟩
  ·obtain ⟨σ7,V,rfl,J⟩:=W
   have A7:=D.up V
   obtain ⟨v1,v2,m7,p1,p2,n1,n2⟩:=A7.ex
   refine O8 ?_
   refine Jk (i:=2) m7 rfl ?_
   refine O7 (R:=X9) (sz:=1) A7.stp.sat [S (Yd (Q7 l) s.locals[k] t.locals[k])] [Yd (Q7 l) s.locals[k] t.locals[k]] rfl rfl (by simp;rfl) rfl ⟨⟨rfl,J⟩,trivial⟩ fun v8 w8 σ8 k8 a0=>?_
   refine Q9S (A7.up k8) (m7.up k8) a0 (by rw[List.length_take];omega) fun w9 A9=>?_
   (try simp only[↓M1,M1,Mb,reduceIte])
   refine Y3 (by omega) m ⟨σ8,?_⟩
   rw[X1u m n];exact A9
 have O:k=s.locals.length:=by simp at E;omega
 subst O
 rw[List.take_of_length_le (by simp;omega)] at D
 exact Q8A (K:=fun r w=>K (.tuple #[r,I 0]) w) D a A rfl o fun q w' σ' k' an=>h q w' σ' k' an)
end Go.Proofs.YtfppjenblllfaaaGreatDoor

namespace Go.Proofs.YtfppjenblllfaaaGreatDoor
open Go.Emb Go.RowKit Go.Kd Go.Hm
variable {w : World} {K : Value → World → Prop} {σ : Q4} {l : List Cla} {v : Value}
end Go.Proofs.YtfppjenblllfaaaGreatDoor

namespace Go.Proofs.YtfppjenblllfaaaGreatDoor
open Go.Emb Go.RowKit Go.Kd Go.Hm
variable {w : World} {K : Value → World → Prop} {σ : Q4} {l : List Cla} {v : Value}
end Go.Proofs.YtfppjenblllfaaaGreatDoor

namespace Go.Proofs.YtfppjenblllfaaaGreatDoor
open Go.Emb Go.RowKit Go.Kd Go.Hm
variable {w w' w0 w1 : World} {K : Value → World → Prop} {σ σ' σ0 σ1 : Q4} {v u : Value} {tv : Value} {l : List Cla} {b b6 : Nat} {xs ys : List X0} {x : X0} {s t : Shp}
end Go.Proofs.YtfppjenblllfaaaGreatDoor

namespace Go.Hm
open Go.Kd
end Go.Hm
namespace Go.Proofs.YtfppjenblllfaaaGreatDoor
open Go.Emb Go.RowKit Go.Kd Go.Hm
variable {w w' w0 w1 : World} {K : Value → World → Prop} {σ σ' σ0 σ1 : Q4} {v u : Value} {tv : Value} {l : List Cla} {b b6 : Nat} {xs ys : List X0} {x : X0} {s t : Shp}
end Go.Proofs.YtfppjenblllfaaaGreatDoor

namespace Go.Proofs.YtfppjenblllfaaaGreatDoor
open Go.Emb Go.RowKit Go.Kd Go.Hm
variable {w w' w0 w1 : World} {K : Value → World → Prop} {σ σ' σ0 σ1 : Q4} {v u : Value} {tv : Value} {l : List Cla} {b b6 : Nat} {xs ys : List X0} {x : X0} {s t : Shp}
end Go.Proofs.YtfppjenblllfaaaGreatDoor

namespace Go.Hm
open Go.Kd
def Q9Y:Hm.Met:=⟨[],[],[],false,0,[],[]⟩
def Q6M:Ins:=⟨[97,100,100],0,[]⟩
def Tk:X0:=N6++[91,93]
def sh1:Shp:=⟨true,[V4],[]⟩
def sh2:Shp:=⟨true,[Tk],[]⟩
set_option maxRecDepth 100000 in
theorem Q9D:doM (Q7 Rw) Q9Y Q6M [] [] false ⟨true,[V4,V4],[]⟩=(sh1,0):=by decide+kernel
set_option maxRecDepth 100000 in
theorem Q5A:Wc (Q7 Rw) ⟨true,[C2],[]⟩ sh2=(sh2,0):=by decide+kernel
end Go.Hm
namespace Go.Proofs.YtfppjenblllfaaaGreatDoor
open Go.Emb Go.RowKit Go.Kd Go.Hm
variable {w w' w0 w1 : World} {K : Value → World → Prop} {σ σ' σ0 σ1 : Q4} {v u : Value} {tv : Value} {l : List Cla} {b b6 : Nat} {xs ys : List X0} {x : X0} {s t : Shp}
theorem Q9z (z:X4 w σ) (D:Glb σ)
 (h: ∀a v w' σ',Stp w σ w' σ'→Tab σ' (.pointer (some a)) (Q7 Rw)→Sl 8 U6 σ' v (Q7 Rw)→Ok (Q7 Rw)→K (.tuple #[.pointer (some a),v]) w'):Q0 P F.aT [] w K:=Su (by
 unfold Vc
 refine Q3f z fun v L N d k=>?_
 refine X2g d.sat (D.lift ⟨d.le⟩) k (by decide) X0B (fun i e _ _ g=>by rw[Q4v] at g;cases g) fun tv O J _ f y ok _=>?_
 obtain ⟨a,_,_,_,rfl,_⟩:=y.ex
 have r:=d.trans f
 refine V6 (vs:=[_,_,_]) rfl ?_
 refine V6 (vs:=[_,_,_]) rfl ?_
 refine V6 (vs:=[_,_,_]) rfl ?_
 refine Q3f f.sat fun M H E j o=>?_
 refine X0S j.sat o (by decide) (fun i e _ _ g=>by rw[Q4v] at g;cases g) fun B C A _ q m n _=>?_
 have c:=j.trans q
 have p:=r.trans c
 refine V6 (vs:=[_,_,_]) rfl ?_
 refine V6 (vs:=[_,_,_]) rfl ?_
 refine V6 (vs:=[_,_,_]) rfl ?_
 refine Xd ?_
 simp only[decide_true,Bool.not_true]
 (repeat refine Hd.h ?_)
 refine Xd ?_
 simp only[decide_true,Bool.not_true]
 (repeat refine Hd.h ?_)
 refine Q7K ?_
 (repeat refine Hd.h ?_)
 refine W0 ?_
 exact h a B C A p (y.lift ⟨c.le⟩) m n)
set_option maxHeartbeats 2000000 in
theorem Q4R (hs:X4 w σ) (hg:Glb σ) (h: ∀w' σ',Stp w σ w' σ'→K (.bool true) w'):Q0 P F.ab [] w K:=Ft (by
 unfold Lo
 refine Q9z hs hg fun a lv w1 σ1 S1 ht hl ok=>?_
 refine V6 (vs:=[_,_]) rfl ?_
 refine V6 (vs:=[_,_]) rfl ?_
 refine Q7K ?_
 (repeat refine Hd.h ?_)
 refine Q9 hl ?_
 (repeat refine Hd.h ?_)
 refine Oy ?_
 (repeat refine Hd.h ?_)
 rw[show decide (((Q7 Rw).length:Int)=0)=false from by decide]
 refine W0 ?_
 refine Dp ?_
 refine V7 (cells:= #[S Q6M.op,I 0,S []]) (by kernel_rfl) ?_
 refine O7 (R:=X9) (sz:=1) S1.sat [S V4,S V4] [V4,V4] rfl rfl (by simp;rfl) rfl ⟨⟨rfl,by decide⟩,⟨rfl,by decide⟩,trivial⟩ fun v2 w2 σ2 V Q=>?_
 refine V7 (cells:= #[.bool true,v2, .slice none 0 0]) (by obtain ⟨a,c,rfl,_⟩:=Q;kernel_rfl) ?_
 refine X2e (m:=Q9Y) (i:=Q6M) (c:=[]) (f:=[]) (k:=false) V.sat (ht.lift ⟨V.le⟩) ok ⟨_,_,_,rfl,Sl.nil,Sl.nil,Sl.nil,by decide,by decide,by decide⟩ ⟨rfl,by decide,by decide,by decide⟩ Q Sl.nil (by decide) (by decide) (fun a ha=>by
  have e:Fy.lookup Q6M.op=some (.takes V4 [V4,V4]):=by decide+kernel
  rw[e] at ha;cases ha
  exact @Q9e _ _ _ _ _ _ _ _ (by decide)) fun ds w3 σ3 Z C=>?_
 rw[Q9D] at C⊢
 have S3:=(S1.trans V).trans Z
 refine V6 (vs:=[_,_]) rfl ?_
 refine V6 (vs:=[_,_]) rfl ?_
 have d:M9 σ3 sh1 ds:=C
 refine Y6 (sz:=3) Z.sat rfl (by obtain ⟨_,_,rfl,_⟩:=d;rfl) (Rep.one d) fun qa w4 σ4 N aa=>?_
 refine O7 (R:=X9) (sz:=1) N.sat [S C2] [C2] rfl rfl (by simp;rfl) rfl ⟨⟨rfl,by decide⟩,trivial⟩ fun v5 w5 σ5 B U=>?_
 refine V7 (cells:= #[.bool true,v5, .slice none 0 0]) (by obtain ⟨a,c,rfl,_⟩:=U;kernel_rfl) ?_
 refine O7 (R:=X9) (sz:=1) B.sat [S Tk] [Tk] rfl rfl (by simp;rfl) rfl ⟨⟨rfl,by decide⟩,trivial⟩ fun v6 w6 σ6 z H=>?_
 refine V7 (cells:= #[.bool true,v6, .slice none 0 0]) (by obtain ⟨a,c,rfl,_⟩:=H;kernel_rfl) ?_
 have ab:=(((V.trans Z).trans N).trans B).trans z
 refine X0q (s:=⟨true,[C2],[]⟩) (t:=sh2) z.sat (ht.lift ⟨ab.le⟩) ok ⟨_,_,rfl,U.up z,Sl.nil⟩ ⟨_,_,rfl,H,Sl.nil⟩ (by decide) (by decide) (by decide) (by decide) fun es w7 σ7 J M=>?_
 rw[Q5A] at M⊢
 refine V6 (vs:=[_,_]) rfl ?_
 refine V6 (vs:=[_,_]) rfl ?_
 have j:M9 σ7 sh2 es:=M
 refine Y6 (sz:=3) J.sat rfl (by obtain ⟨_,_,rfl,_⟩:=j;rfl) (Rep.one j) fun qb w8 σ8 y Y=>?_
 have o:=(((aa.up B).up z).up J).up y
 have p:=M9.liftS d ((((N.trans B).trans z).trans J).trans y)
 have O:=M9.liftS j y
 refine Z1 y.sat o (by obtain ⟨_,_,rfl,_⟩:=d;rfl) ?_
 refine O7 (R:=X9) (sz:=1) y.sat [S V4] [V4] rfl rfl (by simp;rfl) rfl ⟨⟨rfl,by decide⟩,trivial⟩ fun v9 w9 σ9 A L=>?_
 refine V7 (cells:= #[.bool true,v9, .slice none 0 0]) (by obtain ⟨a,c,rfl,_⟩:=L;kernel_rfl) ?_
 refine Tm (b:=sh1) (es:=[.bool true,v9, .slice none 0 0]) A.sat (M9.liftS p A) ⟨_,_,rfl,L,Sl.nil⟩ fun av D=>?_
 have ao:=(((S3.trans N).trans B).trans z).trans (J.trans (y.trans (A.trans (Stp.of_below A.sat D))))
 have n:=A.trans (Stp.of_below A.sat D)
 rw[show decide (sh1=sh1)=true from by decide]
 (repeat refine Hd.h ?_)
 refine Oy ?_
 simp only[decide_true]
 (repeat refine Hd.h ?_)
 refine Z1 n.sat (Y.up n) (by obtain ⟨_,_,rfl,_⟩:=j;rfl) ?_
 (repeat refine Hd.h ?_)
 refine O7 (R:=X9) (sz:=1) n.sat [S Tk] [Tk] rfl rfl (by simp;rfl) rfl ⟨⟨rfl,by decide⟩,trivial⟩ fun E ap ak q r=>?_
 (repeat refine Hd.h ?_)
 refine V7 (cells:= #[.bool true,E, .slice none 0 0]) (by obtain ⟨a,c,rfl,_⟩:=r;kernel_rfl) ?_
 (repeat refine Hd.h ?_)
 refine Tm (b:=sh2) (es:=[.bool true,E, .slice none 0 0]) q.sat (M9.liftS O (n.trans q)) ⟨_,_,rfl,r,Sl.nil⟩ fun aj X=>?_
 have g:=n.trans (q.trans (Stp.of_below q.sat X))
 rw[show decide (sh2=sh2)=true from by decide]
 (repeat refine Hd.h ?_)
 refine Oy ?_
 simp only[decide_true]
 (repeat refine Hd.h ?_)
 refine Z1 g.sat (o.up g) (by obtain ⟨_,_,rfl,_⟩:=d;rfl) ?_
 (repeat refine Hd.h ?_)
 refine Z1 g.sat (o.up g) (by obtain ⟨_,_,rfl,_⟩:=d;rfl) ?_
 (repeat refine Hd.h ?_)
 refine X0O (a:=sh1) (b:=sh1) g.sat (M9.liftS p g) (M9.liftS p g) fun ah W=>?_
 rw[show decide (sh1=sh1)=true from by decide]
 (repeat refine Hd.h ?_)
 exact h _ _ ((((S3.trans N).trans B).trans z).trans (J.trans (y.trans (g.trans (Stp.of_below g.sat W))))))
end Go.Proofs.YtfppjenblllfaaaGreatDoor

namespace Go.Hm
open Go.Kd
end Go.Hm
namespace Go.Proofs.YtfppjenblllfaaaGreatDoor
open Go.Emb Go.RowKit Go.Kd Go.Hm
variable {w w' w0 w1 : World} {K : Value → World → Prop} {σ σ' σ0 σ1 : Q4} {v u : Value} {tv : Value} {l : List Cla} {s t : Shp} {ds es : List Value}
end Go.Proofs.YtfppjenblllfaaaGreatDoor

namespace Go.Hm
open Go.Kd
theorem Q9d {cls:X0} {m:Hm.Met} {i:Nat} (hi:(i:Int)<min m.locals 1000):(Qe cls m).locals.take (i+1)=(Qe cls m).locals.take i++[if i=0 then cls else if i≤m.params.length then m.params.getD (i-1) [] else []]:=by
 unfold Qe
 simp only
 generalize hn:(min m.locals 1000).toNat=n
 have hi':i<n:=by omega
 have hl:i<(((cls::m.params)++List.replicate n []).take n).length:=by simp;omega
 rw[List.take_add_one,List.getElem?_eq_getElem hl,Option.toList_some]
 congr 2
 rw[List.getElem_take]
 by_cases h0:i=0
 ·subst h0;simp
 rw[if_neg h0]
 obtain ⟨j,rfl⟩: ∃j,i=j+1:=⟨i-1,by omega⟩
 simp only[List.cons_append,List.getElem_cons_succ,Nat.add_sub_cancel]
 by_cases h1:j+1≤m.params.length
 ·rw[if_pos h1,List.getElem_append_left (by omega),List.getD_eq_getElem?_getD,List.getElem?_eq_getElem (by omega)];rfl
 ·rw[if_neg h1,List.getElem_append_right (by omega),List.getElem_replicate]
theorem Q7P {cls:X0} {m:Hm.Met}:(Qe cls m).locals.length=(min m.locals 1000).toNat:=by
 unfold Qe;simp;omega
end Go.Hm
namespace Go.Proofs.YtfppjenblllfaaaGreatDoor
open Go.Emb Go.RowKit Go.Kd Go.Hm
variable {w w' w0 w1 : World} {K : Value → World → Prop} {σ σ' σ0 σ1 : Q4} {v u : Value} {tv : Value} {l : List Cla} {s t : Shp} {ds es : List Value} {m : Hm.Met} {cls : X0}
set_option maxHeartbeats 1000000 in
theorem Q7F (hs:X4 w σ) (hm:L2 σ m ds) (hc:cls.length≤Z7) (h: ∀j w' σ',Stp w σ w' σ'→M9 σ' (Qe cls m) j→K (.agg j.toArray) w'):Q0 P F.b3 [S cls, .agg ds.toArray] w K:=Gj (by
 obtain ⟨pv,cv,hv,rfl,p,_,_,_,_,a2⟩:=hm
 have aw:=p.max
 unfold Vo
 refine Y8 hs fun qm w1 σ1 O c=>?_
 refine B5 O.sat fun W w3 H n k3 ak=>?_
 have c:=c.up k3
 have J:=O.trans k3
 have n:w.heap.size≤W:=Nat.le_trans O.bel.size n
 have p:=p.up J
 refine Q4T ?_
 refine Q7I J.sat fun b w4 A4=>?_
 have hn:=Q7P (cls:=cls) (m:=m)
 refine J5 (min m.locals 1000).toNat (fun k w'=> ∃σ',ShS w3 H w' σ' b [] ((Qe cls m).locals.take k)) ⟨H,A4⟩ fun k U d hk hi=>?_
 obtain ⟨σ5,o⟩:=hi
 have g:=o.stp
 refine O8 ?_
 refine ld (i:=4) g.sat (c.up g) rfl ?_
 refine Z0 ?_
 have a: ∀(f:(k:Int)<min m.locals 1000),jn (α:=Value) U (fun J9 w=>
  Q3 P .eql T.e (.tmp 19) (.const (.int .i64 0)) (I k) (.int .i64 0) w fun ah w=>
  X1 ah (
   J9 (S cls) w) (
   fieldAddr P T.b (.pointer (some qm)) 1 w fun E w=>
   Q2 P T.d E w fun ae w=>
   X5 P .len [T.d] T.e [false] [ae] w fun aa w=>
   Q3 P .leq T.e (.tmp 22) (.tmp 25) (I k) aa w fun ac w=>
   X1 ac (
    fieldAddr P T.b (.pointer (some qm)) 1 w fun aj w=>
    Q2 P T.d aj w fun X w=>
    Q3 P .sub T.e (.tmp 29) (.const (.int .i64 1)) (I k) (.int .i64 1) w fun L w=>
    indexAddr P T.d X L w fun N w=>
    Q2 P T.c N w fun V w=>
    J9 V w) (
    J9 (.string ⟨#[]⟩) w))) fun z9 d_ w=>
  fieldAddr P T.f (.pointer (some ⟨b,0,none⟩)) 2 w fun ad w=>
  Q2 P T.d ad w fun af w=>
  buildSlice P T.d 1 [(0,z9)] w fun M w=>
  X5 P .append [T.d,T.d] T.d [false,false] [af,M] w fun ai w=>
  fieldAddr P T.f (.pointer (some ⟨b,0,none⟩)) 2 w fun Q w=>
  Z2 P T.d Q ai w fun _u w=>
  Q3 P .add T.e (.tmp 17) (.const (.int .i64 1)) (I k) (.int .i64 1) w fun C w=>
  UpI (min m.locals 1000).toNat (fun k w'=> ∃σ',ShS w3 H w' σ' b [] ((Qe cls m).locals.take k)) C w∧Gy (min m.locals 1000).toNat C<Gy (min m.locals 1000).toNat (I k):=fun f=>by
  refine Xy (fun z w'=>w'=U∧z=S (if k=0 then cls else if k≤m.params.length then m.params.getD (k-1) [] else [])∧(if k=0 then cls else if k≤m.params.length then m.params.getD (k-1) [] else []).length≤Z7) ?_ fun z d w7 hz=>?_
  ·refine Oy ?_
   by_cases h0:k=0
   ·rw[decide_eq_true (show (k:Int)=0 by omega)]
    refine V9 ?_
    rw[if_pos h0]
    exact ⟨rfl,rfl,hc⟩
   ·rw[decide_eq_false (show¬(k:Int)=0 by omega)]
    refine W0 ?_
    rw[if_neg h0]
    refine O8 ?_
    refine ld (i:=1) g.sat (c.up g) rfl ?_
    refine Q9 (p.up g) ?_
    refine Q9V ?_
    by_cases A:k≤m.params.length
    ·rw[decide_eq_true (show (k:Int)≤(m.params.length:Nat) by omega)]
     refine V9 ?_
     rw[if_pos A]
     refine O8 ?_
     refine ld (i:=1) g.sat (c.up g) rfl ?_
     refine Q76 ?_
     rw[B1 (by omega) (by omega),show (k:Int)-1=((k-1:Nat):Int) by omega]
     have B:k-1<m.params.length:=by omega
     refine Wl (p.up g) B fun a1 Z Y=>?_
     refine X8 g.sat Z rfl ?_
     have e:m.params.getD (k-1) []=m.params[k-1]:=by rw[List.getD_eq_getElem?_getD,List.getElem?_eq_getElem B];rfl
     rw[e]
     exact ⟨rfl,rfl,Y⟩
    ·rw[decide_eq_false (show¬(k:Int)≤(m.params.length:Nat) by omega)]
     refine W0 ?_
     rw[if_neg A]
     exact ⟨rfl,rfl,Nat.zero_le _⟩
  ·obtain ⟨rfl,rfl,q⟩:=hz
   have y:=Q9d (cls:=cls) f
   generalize (if k=0 then cls else if k≤m.params.length then m.params.getD (k-1) [] else [])=x at y q⊢
   obtain ⟨v1,v2,m7,p1,p2,n1,n2⟩:=o.ex
   refine O8 ?_
   refine Jk (i:=2) m7 rfl ?_
   refine O7 (R:=X9) (sz:=1) o.stp.sat [S x] [x] rfl rfl (by simp;rfl) rfl ⟨⟨rfl,q⟩,trivial⟩ fun v8 w8 σ8 k8 ab=>?_
   refine Q9S (o.up k8) (m7.up k8) ab (by rw[List.length_take,hn];omega) fun w9 A9=>?_
   (try simp only[↓M1,M1,Mb,reduceIte])
   refine Y3 (by omega) (by omega) ⟨σ8,?_⟩
   rw[y];exact A9
 by_cases f:(k:Int)<min m.locals 1000
 ·rw[decide_eq_true (show (k:Int)<m.locals by omega)]
  (repeat refine Hd.h ?_)
  refine Z0 ?_
  (repeat refine Hd.h ?_)
  rw[decide_eq_true (show (k:Int)<1000 by omega)]
  refine V9 ?_
  exact a f
 clear a
 have r:Q2 P T.f (.pointer (some ⟨b,0,none⟩)) U fun t w=>Z2 P T.f (.pointer (some ⟨W,0,none⟩)) t w fun _u w=>U5 P T.f (.pointer (some ⟨W,0,none⟩)) w fun r0=>K r0 w:=by
  rw[List.take_of_length_le (by rw[hn];omega)] at o
  exact Q8A (K:=K) o J ak rfl n fun j w' σ' k' D=>h j w' σ' k' D
 by_cases A:(k:Int)<m.locals
 ·rw[decide_eq_true A]
  (repeat refine Hd.h ?_)
  refine Z0 ?_
  (repeat refine Hd.h ?_)
  rw[decide_eq_false (show¬(k:Int)<1000 by omega)]
  exact W0 r
 ·rw[decide_eq_false A]
  (repeat refine Hd.h ?_)
  exact W0 r)
end Go.Proofs.YtfppjenblllfaaaGreatDoor
