/- Parts of a proof about the given program: its functions as texts of their own, what each computes, plain laws of that. The conditions of each stand in its statement. -/
import Derived.Test.YtfppjenblllfaaaGreatDoorB4
import Derived.Test.YtfppjenblllfaaaGreatDoorB3
import Derived.Lib.TrimUEq
set_option linter.unnecessarySimpa false
set_option linter.defProp false
set_option linter.unusedSectionVars false
set_option linter.unusedVariables false
set_option linter.unusedSimpArgs false
namespace Go.Emb
open Go.RowKit Go.Hm
structure FinT (B : Nat) (F : Option Obj → Prop) (w w' : World) : Prop where
  os : w'.os = w.os
  tape : w'.tape = w.tape
  output : w'.output = w.output
  size : w.heap.size ≤ w'.heap.size
  old : ∀ k, k < w.heap.size → k < B → w'.heap[k]? = w.heap[k]?
  new : ∀ k, k < w.heap.size → w'.heap[k]? = w.heap[k]? ∨ F (w'.heap[k]?)
section
variable {P : Program} {B : Nat} {F : Option Obj → Prop} {w w' w0 : World} {σ : Q4} {v V : Value} {K : Value → World → Prop}
theorem FinT.of_below (h:Below w.heap.size w w'):FinT B F w w':=⟨h.os,h.tape,h.output,h.size,fun k a _=>h.block k a,fun k a=> .inl (h.block k a)⟩
theorem FinT.of_upd {b:Nat} (h:Upd w b w') (c:B≤b) (hF:F (w'.heap[b]?)):FinT B F w w':=
 ⟨h.os,h.tape,h.output,by rw[h.size];exact Nat.le_refl _,fun k a hB=>h.block k (by omega),fun k a=>by
  by_cases e:k=b
  ·subst e;exact .inr hF
  ·exact .inl (h.block k e)⟩
theorem FinT.hst (h:FinT w0.heap.size F w w') (c:X4 w0 σ) (a:Hst w0 σ w σ):Hst w0 σ w' σ:=
 ⟨Stp.of_below c ⟨h.os.trans a.stp.bel.os,h.tape.trans a.stp.bel.tape,h.output.trans a.stp.bel.output,Nat.le_trans a.stp.bel.size h.size,fun k b=>(h.old k (Nat.lt_of_lt_of_le b a.stp.bel.size) b).trans (a.stp.bel.block k b)⟩⟩
theorem X44 {A:(World→World→Prop)→(World→Prop)→Prop} (F:Option Obj→Prop) (a:X4 w σ) (h:A (FinT w.heap.size F) (fun w'=>Hst w σ w' σ)):dr w A:=
 Q1G _ _ ⟨Stp.of_below a (Below.refl _ _).drew⟩ (fun _ _ b c=>c.hst a b) h
theorem Q6j (h:V=v):dk (FinT B F) (fun v _=>V=v) w v w:=⟨.of_below (Below.refl _ _),h⟩
theorem X2W (a:Below w.heap.size w w') (h:V=v):dk (FinT B F) (fun v _=>V=v) w v w':=⟨.of_below a,h⟩
def X4s (B n:Nat) (F:Option Obj→Prop) (v:Value) (w:World):Prop:= ∃g,v= .pointer (some ⟨g,0,none⟩)∧B≤g∧((∃cs:List Value,∃e,cs.length=n∧w.heap[g]? =some (.cells cs.toArray e (0,0)))∨F (w.heap[g]?))
def X4C (B:Nat) (F:Option Obj→Prop) (v:Value) (w:World):Prop:= ∃g,v= .pointer (some ⟨g,0,none⟩)∧B≤g∧F (w.heap[g]?)
theorem Pe {w:World} {g:Nat} {o:Obj} (h:w.heap[g]? =some o):g<w.heap.size:=(Array.getElem?_eq_some_iff.1 h).1
theorem Q8O {n:Nat} (hF: ¬F none):D6 (FinT B F) (X4s B n F):=by
 rintro v w w' ⟨g,rfl,hB,b⟩ d
 have a:g<w.heap.size:=by
  rcases b with ⟨cs,e,_,h⟩ | h
  ·exact Pe h
  ·cases c:w.heap[g]? with
   | none=>rw[c] at h;exact absurd h hF
   | some o=>exact Pe c
 rcases d.new g a with h | h
 ·exact ⟨g,rfl,hB,by rw[h];exact b⟩
 ·exact ⟨g,rfl,hB, .inr h⟩
theorem Q9p (hF: ¬F none):D6 (FinT B F) (X4C B F):=by
 rintro v w w' ⟨g,rfl,hB,b⟩ d
 have a:g<w.heap.size:=by
  cases c:w.heap[g]? with
  | none=>rw[c] at b;exact absurd b hF
  | some o=>exact Pe c
 rcases d.new g a with h | h
 ·exact ⟨g,rfl,hB,by rw[h];exact b⟩
 ·exact ⟨g,rfl,hB,h⟩
end
end Go.Emb
namespace Go.Hm
open Go.Kd
theorem Q7T {a b:List Hm.Met} (h: ∀m,m∈a↔m∈b):Nc a=Nc b:=by
 rw[Bool.eq_iff_iff]
 simp only[Nc,List.any_eq_true]
 constructor
 ·rintro ⟨x,d,y,e,c⟩;exact ⟨x,(h x).1 d,y,(h y).1 e,c⟩
 ·rintro ⟨x,d,y,e,c⟩;exact ⟨x,(h x).2 d,y,(h y).2 e,c⟩
theorem X1F {α:Type} {a b:List α} {p:α→Bool} (h: ∀m,m∈a↔m∈b):a.any p=b.any p:=by
 rw[Bool.eq_iff_iff]
 simp only[List.any_eq_true]
 constructor
 ·rintro ⟨x,c,y⟩;exact ⟨x,(h x).1 c,y⟩
 ·rintro ⟨x,c,y⟩;exact ⟨x,(h x).2 c,y⟩
def Ym (m:Hm.Met):List Q8:=m.params++if m.result=[] then [] else [m.result]
def Zo (c:Cla):List Q8:=c.fields.map (·.kind)++c.methods.flatMap Ym
theorem X04 {l:List Cla} {c:Cla}:(Zo c).any (fun s=> !E9 l s)=F9 l c:=by
 unfold Zo F9 Ym
 rw[List.any_append,List.any_map,List.any_flatMap]
 congr 1
 congr 1
 funext m
 rw[List.any_append]
 by_cases e:m.result=[]
 ·simp[e]
 ·simp[e,Bool.or_comm]
def upB (l:List Cla) (i k:Nat):Bool:=decide (k=i)||Jw l (Y3 l i) (Y3 l k)
def Qy (l:List Cla) (i n:Nat):List Hm.Met:=(List.range n).flatMap fun k=>if upB l i k then (l.getD k Cla.zero).methods else []
theorem Q9E {l:List Cla} {i n:Nat}:Qy l i (n+1)=Qy l i n++if upB l i n then (l.getD n Cla.zero).methods else []:=by
 unfold Qy
 rw[List.range_succ,List.flatMap_append]
 simp
theorem Q4I {l:List Cla} (o:K7 l) {i:Nat} (n:i<l.length) (m:Hm.Met):m∈Qy l i l.length↔m∈Wi l (Y3 l i):=by
 unfold Qy Wi
 simp only[List.mem_flatMap,List.mem_range]
 have b: ∀k,k<l.length→lk l (Y3 l k)=some (l.getD k Cla.zero):=fun k g=>Xu o g
 constructor
 ·rintro ⟨k,g,d⟩
  split at d
  ·rename_i hu
   refine ⟨Y3 l k,?_,by rw[b k g];exact d⟩
   rw[Ue,Q5b]
   simp only[upB,Bool.or_eq_true,decide_eq_true_eq,Wn] at hu
   rcases hu with rfl | hu
   ·exact .inl ⟨rfl,_,b _ g⟩
   ·exact .inr hu
  ·simp at d
 ·rintro ⟨u,hu,d⟩
  rw[Ue] at hu
  obtain ⟨c,p⟩:=hu.right
  obtain ⟨s,q,j,y,a⟩:=V2 p
  obtain ⟨h,t⟩:=List.getElem?_eq_some_iff.1 a
  have f:Y3 l j=u:=by
   unfold Y3;rw[List.getD_eq_getElem?_getD,a];exact s
  refine ⟨j,h,?_⟩
  rw[p] at d
  have:upB l i j=true:=by
   simp only[upB,Bool.or_eq_true,decide_eq_true_eq,Wn]
   rw[Q5b] at hu
   rcases hu with ⟨e,_⟩ | hu
   ·left
    have z:=b i n
    rw[e,←f] at z
    have r:=K7.find o (i:=i) (c:=l[i]) (List.getElem?_eq_getElem n)
    have A:l[i].name=Y3 l i:=by unfold Y3;rw[List.getD_eq_getElem?_getD,List.getElem?_eq_getElem n];rfl
    rw[A,e,y] at r
    simpa using r
   ·right;rw[f];exact hu
  rw[if_pos this,List.getD_eq_getElem?_getD,a]
  exact d
theorem X0H {l:List Cla} {i n:Nat} {m:Hm.Met} (h:m∈Qy l i n) (e:n≤l.length): ∃c∈l,m∈c.methods:=by
 unfold Qy at h
 simp only[List.mem_flatMap,List.mem_range] at h
 obtain ⟨k,d,a⟩:=h
 split at a
 ·have b:k<l.length:=by omega
  rw[List.getD_eq_getElem?_getD,List.getElem?_eq_getElem b] at a
  exact ⟨l[k],List.getElem_mem _,a⟩
 ·simp at a
def P5 (a:List Hm.Met) (x y:Nat):Bool:=decide ((a.getD x Hm.Met.zero).name=(a.getD y Hm.Met.zero).name)&& !decide (Qo (a.getD x Hm.Met.zero)=Qo (a.getD y Hm.Met.zero))
theorem Cy {α:Type} {l:List α} {d:α} {n:Nat} (h:n<l.length):l.getD n d=l[n]:=by rw[List.getD_eq_getElem?_getD,List.getElem?_eq_getElem h];rfl
theorem X0d {a:List Hm.Met} {x y:Nat} (b:x<a.length) (c:y<a.length) (h:P5 a x y=true):Nc a=true:=by
 unfold Nc
 rw[List.any_eq_true]
 refine ⟨a[x],List.getElem_mem _,?_⟩
 rw[List.any_eq_true]
 refine ⟨a[y],List.getElem_mem _,?_⟩
 unfold P5 at h
 rwa [Cy b,Cy c] at h
theorem X1l {d:List Hm.Met} (h: ∀x y,x<d.length→y<x→P5 d x y=false):Nc d=false:=by
 unfold Nc
 rw[List.any_eq_false]
 intro a k
 rw[List.any_eq_true]
 rintro ⟨b,j,f⟩
 obtain ⟨x,i,rfl⟩:=List.getElem_of_mem k
 obtain ⟨y,g,rfl⟩:=List.getElem_of_mem j
 have e:P5 d y x=P5 d x y:=by
  unfold P5
  congr 1
  ·rw[Bool.eq_iff_iff];simp[eq_comm]
  ·congr 1;rw[Bool.eq_iff_iff];simp[eq_comm]
 have c:P5 d x y=true:=by unfold P5;rw[Cy i,Cy g];exact f
 rcases Nat.lt_trichotomy x y with hlt | heq | hlt
 ·rw[←e,h y x g hlt] at c;cases c
 ·subst heq;simp[P5] at c
 ·rw[h x y i hlt] at c;cases c
end Go.Hm
namespace Go.Proofs.YtfppjenblllfaaaGreatDoor
open Go.Emb Go.RowKit Go.Kd Go.Hm
variable {w : World} {K : Value → World → Prop} {σ : Q4} {l : List Cla} {v : Value}
theorem Pq {c:Cla} (h:Yz c=false):c.fields.length≤32∧c.methods.length≤32∧ ∀m∈c.methods,m.params.length≤32:=by
 simp only[Yz,Bool.or_eq_false_iff,decide_eq_false_iff_not,List.any_eq_false] at h
 obtain ⟨⟨⟨b,f⟩,d⟩,e⟩:=h
 refine ⟨by omega,by omega,fun m a=>?_⟩
 have:=b m a
 simp only[Vn,Bool.or_eq_true,decide_eq_true_eq,not_or] at this
 omega
set_option maxHeartbeats 8000000 in
theorem Q7H {i:Nat} (hs:X4 w σ) (hv:Sl 8 V4 σ v l) (ok:Ok l) (own:K7 l) (hlen:l.length≤1000) (hmn: ∀c∈l,Yz c=false) (hi:i<l.length)
 (h: ∀w' σ',Stp w σ w' σ'→K (I (V8 l l[i])) w'):Q0 P F.be [v,I i] w K:=Bk (by
 unfold Ve
 obtain ⟨lv,fv,mv,p0,r0⟩:=hv.elC hi
 refine U9 hv hi ?_
 refine Z1 hs p0 rfl ?_
 refine Y6 hs (by rfl) rfl (Rep.one r0) fun q w1 σ1 hk1 hq1=>?_
 have r1:=RCl_lift r0 ⟨hk1.le⟩
 obtain ⟨_,gf,gm,g4,_⟩:=r1.parts
 have hv1:=hv.up hk1
 have hnm:=ok.nm _ (List.getElem_mem hi)
 have hcm:=hmn _ (List.getElem_mem hi)
 have hname:Y3 l i=l[i].name:=Kv hi
 generalize hcE:l[i]=c at*
 obtain ⟨mf,mm,mp⟩:=Pq hcm
 have e64:Yg l c=true→V8 l c=64:=fun e=>by unfold V8;simp[e]
 have e65:Yg l c=false→F9 l c=true→V8 l c=65:=fun e e2=>by unfold V8;simp[e,e2]
 have e66:Yg l c=false→F9 l c=false→Yu l c=true→V8 l c=66:=fun e e2 e3=>by unfold V8;simp[e,e2,e3]
 have e67:Yg l c=false→F9 l c=false→Yu l c=false→Db l c=true→V8 l c=67:=fun e e2 e3 e4=>by unfold V8;simp[e,e2,e3,e4]
 have e0:Yg l c=false→F9 l c=false→Yu l c=false→Db l c=false→V8 l c=0:=fun e e2 e3 e4=>by unfold V8;simp[e,e2,e3,e4]
 generalize V8 l c=R at*
 clear p0 r0 r1 hcm
 refine U3 c.fields.length (fun n w'=> ∃σ',Stp w σ w' σ'∧SLe σ1 σ'∧(c.fields.take n).any (fun f=>(F5 l c.super f.name).isSome)=false) ⟨σ1,hk1,SLe.refl _,rfl⟩ fun n w2 d hn hinv=>?_
 obtain ⟨σ2,hS2,le2,hno⟩:=hinv
 have hq2:=hq1.lift le2
 have gf2:=gf.lift le2
 (try simp only[↓M1,M1,Mb,reduceIte])
 refine ld hS2.sat hq2 rfl ?_
 refine X0 gf2 ?_
 refine Z3 ?_
 refine Q5 (fun hc=>?_) (fun hc=>?_)
 ·have hn':n<c.fields.length:=by simpa using hc
  obtain ⟨pf,_⟩:=gf2.elF hn'
  have hs2:=hS2.sat
  refine V0 hs2 ?_
  (repeat refine J3 Xt ?_)
  (intros;(repeat (rename_i hx;subst hx));(try simp only[↓M2,M2,Mb,reduceIte]))
  rename_i w3 hb3
  refine X0A hb3.sat (hv.up (hS2.trans hb3.stp)) ok.acy hlen ok.sm fun w4 σ4 hk4=>?_
  refine G5 ?_
  rw[Jt]
  have hnx:=N5 (p:=fun f:Fld=>(F5 l c.super f.name).isSome) hn'
  cases hp:(F5 l c.super c.fields[n].name).isSome with
  | true=>
   (try simp only[↓M1,M1,Mb,reduceIte])
   rw[hp,Bool.or_true] at hnx
   have:R=64:=e64 (B7 hn' hp)
   subst this
   exact h _ _ ((hS2.trans hb3.stp).trans hk4)
  | false=>
   (try simp only[↓M1,M1,Mb,reduceIte])
   exact Y5 gf.max hn' ⟨σ4,(hS2.trans hb3.stp).trans hk4,le2.more ⟨(hb3.stp.trans hk4).le⟩,by rw[hnx,hno,hp];rfl⟩
 have hA:Yg l c=false:=by
  have hn': ¬n<c.fields.length:=by simpa using hc
  rw[E4 hn'] at hno;exact hno
 clear hno hc hn e64
 refine Q0m (R:=X7) (e:=T.a) hS2 (by decide) fun x3 w3 hk3 ha3 _=>?_
 have hS3:=hS2.trans hk3
 refine E2 c.fields.length (fun n x w'=> ∃σ',Stp w σ w' σ'∧SLe σ1 σ'∧J1 w.heap.size T.a 1 X7 σ' w' x ((c.fields.take n).map (·.kind))) ⟨σ2,hS3,le2,ha3⟩ fun n x w4 d hn hinv=>?_
 obtain ⟨σ4,hS4,le4,ha4⟩:=hinv
 have hq4:=hq1.lift le4
 have gf4:=gf.lift le4
 (try simp only[↓M1,M1,Mb,reduceIte])
 refine ld hS4.sat hq4 rfl ?_
 refine X0 gf4 ?_
 refine Z3 ?_
 refine Q5 (fun hc=>?_) (fun hc=>?_)
 ·have hn':n<c.fields.length:=by simpa using hc
  obtain ⟨pf,rf⟩:=gf4.elF hn'
  have hkl:=(hnm.2.1 _ (List.getElem_mem hn')).2
  (try simp only[↓M1,M1,Mb,reduceIte])
  refine ld hS4.sat hq4 rfl ?_
  refine U9 gf4 hn' ?_
  (try simp only[↓M1,M1,Mb,reduceIte])
  refine ld hS4.sat pf rfl ?_
  refine Vd (R:=X7) (x:=c.fields[n].kind) hS4 ha4 ⟨rfl,Nat.le_trans hkl (by decide)⟩ rfl rfl rfl (by rw[List.length_map,List.length_take];omega) (by rw[List.length_map,List.length_take];omega) fun s v' w5 σ5 hnx hS5 ha5 _=>?_
  (try simp only[↓M1,M1,Mb,reduceIte])
  refine J0 gf.max hn' ⟨σ5,hS5,le4.more hnx.le,?_⟩
  rw[List.take_add_one,List.getElem?_eq_getElem hn',List.map_append]
  exact ha5
 rw[List.take_of_length_le (by
  have: ¬n<c.fields.length:=by simpa using hc
  omega)] at ha4
 clear hc hn hk3 ha3 hS3 hS2 le2 hq2 gf2 hq4 gf4
 have hkl: ∀n,(c.fields.map (·.kind)++(c.methods.take n).flatMap Ym).length≤2000:=fun n=>by
  have h1:=Va Ym 33 (c.methods.take n) fun m hm=>by
   have:=mp m (List.mem_of_mem_take hm)
   unfold Ym
   split<;>simp<;>omega
  have h2:(c.methods.take n).length≤32:=by rw[List.length_take];omega
  have h3:(c.methods.take n).length*33≤32*33:=Nat.mul_le_mul_right _ h2
  rw[List.length_append,List.length_map];omega
 refine E2 c.methods.length (fun n x w'=> ∃σ',Stp w σ w' σ'∧SLe σ1 σ'∧J1 w.heap.size T.a 1 X7 σ' w' x (c.fields.map (·.kind)++(c.methods.take n).flatMap Ym)) ⟨σ4,hS4,le4,by simpa using ha4⟩ fun n x w5 d hn hinv=>?_
 clear ha4 hS4 le4
 obtain ⟨σ5,hS5,le5,ha5⟩:=hinv
 have hq5:=hq1.lift le5
 have gm5:=gm.lift le5
 have hkn:=hkl n
 (try simp only[↓M1,M1,Mb,reduceIte])
 refine ld hS5.sat hq5 rfl ?_
 refine X0 gm5 ?_
 refine Z3 ?_
 refine Q5 (fun hc=>?_) (fun hc=>?_)
 ·have hn':n<c.methods.length:=by simpa using hc
  obtain ⟨pv,cv,hv',pm,rm⟩:=gm5.elM hn'
  obtain ⟨gp,_,_,_,gr,_⟩:=rm.parts
  have hpn:=mp _ (List.getElem_mem hn')
  have hrl:=(hnm.2.2 _ (List.getElem_mem hn')).1
  have hnx:(c.methods.take (n+1)).flatMap Ym=(c.methods.take n).flatMap Ym++Ym c.methods[n]:=by
   rw[List.take_add_one,List.getElem?_eq_getElem hn',List.flatMap_append];simp
  refine W2 ?_
  (try simp only[↓M1,M1,Mb,reduceIte])
  refine ld hS5.sat hq5 rfl ?_
  refine U9 gm5 hn' ?_
  (try simp only[↓M1,M1,Mb,reduceIte])
  refine ld hS5.sat pm rfl ?_
  refine Hu hS5 ha5 gp rfl (by omega) (by omega) fun v6 w6 hn6 hS6 ha6 _=>?_
  (try simp only[↓M1,M1,Mb,reduceIte])
  refine ld hS6.sat hq5 rfl ?_
  refine U9 gm5 hn' ?_
  (try simp only[↓M1,M1,Mb,reduceIte])
  refine ld hS6.sat pm rfl ?_
  refine I5 ?_
  by_cases he:c.methods[n].result=[]
  ·simp only[he,decide_true,Bool.not_true,↓M1,M1,Mb,reduceIte]
   intro d
   refine J0 gm.max hn' ⟨σ5,hS6,le5,?_⟩
   rw[hnx]
   unfold Ym
   rw[if_pos he,List.append_nil,←List.append_assoc]
   exact ha6
  ·simp only[he,decide_false,Bool.not_false,↓M1,M1,Mb,reduceIte]
   refine ld hS6.sat hq5 rfl ?_
   refine U9 gm5 hn' ?_
   (try simp only[↓M1,M1,Mb,reduceIte])
   refine ld hS6.sat pm rfl ?_
   refine Vd (R:=X7) (x:=c.methods[n].result) hS6 ha6 ⟨rfl,Nat.le_trans hrl (by decide)⟩ rfl rfl rfl (by rw[List.length_append];omega) (by rw[List.length_append];omega) fun s v' w7 σ7 hn7 hS7 ha7 _=>?_
   intro d
   (try simp only[↓M1,M1,Mb,reduceIte])
   refine J0 gm.max hn' ⟨σ7,hS7,le5.more hn7.le,?_⟩
   rw[hnx]
   unfold Ym at ha7⊢
   rw[if_neg he]
   simpa only[List.append_assoc] using ha7
 rw[List.take_of_length_le (by
  have: ¬n<c.methods.length:=by simpa using hc
  omega)] at ha5
 have hkn:=hkl c.methods.length
 rw[List.take_of_length_le (Nat.le_refl _)] at hkn
 have hkE:F9 l c=(Zo c).any (fun s=> !E9 l s):=X04.symm
 have hkb: ∀s∈Zo c,s.length≤Y9:=fun s hs=>by
  unfold Zo at hs
  rcases List.mem_append.1 hs with hs | hs
  ·obtain ⟨f,hf,rfl⟩:=List.mem_map.1 hs
   exact Nat.le_trans (hnm.2.1 f hf).2 (by decide)
  ·obtain ⟨m,hm,hs⟩:=List.mem_flatMap.1 hs
   unfold Ym at hs
   rcases List.mem_append.1 hs with hs | hs
   ·exact Nat.le_trans ((hnm.2.2 m hm).2 s hs) (by decide)
   ·split at hs
    ·simp at hs
    ·simp at hs;subst hs;exact Nat.le_trans (hnm.2.2 m hm).1 (by decide)
 obtain ⟨σ6,hS6,hv6,lee6,_⟩:=ha5.keep hS5
 have le6:=le5.more ⟨lee6⟩
 clear ha5 hq5 gm5 hc hn
 change Sl 1 X7 σ6 x (Zo c) at hv6
 refine U3 (Zo c).length (fun n w'=>Stp w σ w' σ6∧((Zo c).take n).any (fun s=> !E9 l s)=false) ⟨hS6,rfl⟩ fun n w7 d hn hinv=>?_
 obtain ⟨hS7,hno⟩:=hinv
 refine X0 hv6 ?_
 refine Z3 ?_
 refine Q5 (fun hc=>?_) (fun hc=>?_)
 ·have hn':n<(Zo c).length:=by simpa using hc
  refine U9 hv6 hn' ?_
  obtain ⟨pk,_⟩:=hv6.elS hn'
  refine Y0 hS7.sat pk rfl ?_
  refine X0C hS7.sat (hv.up hS7) (hkb _ (List.getElem_mem hn')) ?_
  have hnx:=N5 (p:=fun s=> !E9 l s) hn'
  cases hp:E9 l (Zo c)[n] with
  | false=>
   (try simp only[↓M1,M1,Mb,reduceIte])
   have:R=65:=e65 hA (by rw[hkE];exact B7 hn' (by simp[hp]))
   subst this
   exact h _ _ hS7
  | true=>
   (try simp only[↓M1,M1,Mb,reduceIte])
   exact Y5 hv6.max hn' ⟨hS7,by rw[hnx,hno,hp];rfl⟩
 have hB:F9 l c=false:=by
  have hn': ¬n<(Zo c).length:=by simpa using hc
  rw[E4 hn'] at hno;rw[hkE];exact hno
 clear hno hc hn e65 hkE hkb hkn hkl hS5 le5 lee6 hv6
 refine Q4K hS7.sat (hv.up hS7) own (by omega) hlen ok.sm fun vb w8 σ8 hk8 hb8=>?_
 have hS8:=hS7.trans hk8
 refine Q0m (R:=M3) (e:=T.d) hS8 (by decide) fun x9 w9 hk9 ha9 _=>?_
 have hml: ∀n,n≤l.length→(Qy l i n).length≤32000:=fun n hn=>by
  unfold Qy
  have h1:=Va (fun k=>if upB l i k then (l.getD k Cla.zero).methods else []) 32 (List.range n) fun k hk=>by
   have hk':k<l.length:=by have:=List.mem_range.1 hk;omega
   split
   ·rw[Cy hk'];exact (Pq (hmn _ (List.getElem_mem _))).2.1
   ·simp
  rw[List.length_range] at h1
  have h3:n*32≤1000*32:=Nat.mul_le_mul_right _ (by omega)
  omega
 have hbl:(Ys l).length=l.length:=by simp[Ys]
 refine E2 l.length (fun n x w'=> ∃σ',Stp w σ w' σ'∧SLe σ1 σ'∧SLe σ8 σ'∧J1 w.heap.size T.d 7 M3 σ' w' x (Qy l i n)) ⟨σ8,hS8.trans hk9,le6.more ⟨hk8.le⟩,SLe.refl _,ha9⟩ fun n x w10 d hn hinv=>?_
 clear ha9 hk9 hS7 hS8 le6 hS6 hk8
 obtain ⟨σ10,hS10,le10,leb,ha10⟩:=hinv
 have hv10:=hv.up hS10
 refine X0 hv10 ?_
 refine Z3 ?_
 refine Q5 (fun hc=>?_) (fun hc=>?_)
 ·have hn':n<l.length:=by simpa using hc
  have hmn1:=hml n hn
  have hsuc:=Q9E (l:=l) (i:=i) (n:=n)
  rw[Cy hn'] at hsuc
  obtain ⟨lv2,fv2,mv2,p2,r2⟩:=hv10.elC hn'
  obtain ⟨_,_,g3,_,_⟩:=r2.parts
  have hmn2:=(Pq (hmn _ (List.getElem_mem hn'))).2.1
  refine Zj (fun z w'=>Stp w σ w' σ10∧J1 w.heap.size T.d 7 M3 σ10 w' z (Qy l i (n+1))) ?_ (fun z d w' hz=>?_)
  ·refine Vo ?_
   have happ: ∀{J:Value→World→Prop},upB l i n=true→(∀z w',Stp w σ w' σ10→J1 w.heap.size T.d 7 M3 σ10 w' z (Qy l i (n+1))→J z w')→
    X5 P .append [T.g,T.g] T.g [false,false] [x,mv2] w10 J:=fun hu hJ=>
    Hu hS10 ha10 g3 rfl (by omega) (by omega) fun v' w' _ hS' ha' _=>hJ v' w' hS' (by rw[hsuc,if_pos hu];exact ha')
   by_cases e:n=i
   ·have e1:decide ((n:Int)=(i:Int))=true:=by simp[e]
    rw[e1]
    (try simp only[↓M1,M1,Mb,reduceIte])
    refine U9 hv10 hn' ?_
    (try simp only[↓M1,M1,Mb,reduceIte])
    refine ld hS10.sat p2 rfl ?_
    exact happ (by simp[upB,e]) fun z w' h1 h2=>⟨h1,h2⟩
   ·have e1:decide ((n:Int)=(i:Int))=false:=by rw[decide_eq_false_iff_not];omega
    rw[e1]
    obtain ⟨cs1,pb,_,rv,rfl,rb⟩:=(hb8.lift leb).el (i:=i) (by rw[hbl];exact hi)
    have hrow:(Ys l)[i]'(by rw[hbl];exact hi)=(List.range l.length).map fun j=>Jw l (Y3 l i) (Y3 l j):=by simp[Ys]
    rw[hrow] at rb
    obtain ⟨cs2,pb2,_,hcs2⟩:=rb.el (i:=n) (by simpa using hn')
    have hcs2:cs2=_:=hcs2
    subst hcs2
    simp only[List.getElem_map,List.getElem_range] at pb2
    (try simp only[↓M1,M1,Mb,reduceIte])
    refine U9 (hb8.lift leb) (by rw[hbl];exact hi) ?_
    refine Y0 hS10.sat pb rfl ?_
    refine U9 rb (by simpa using hn') ?_
    refine Y0 hS10.sat pb2 rfl ?_
    (try simp only[↓M1,M1,Mb,reduceIte])
    cases ho:Jw l (Y3 l i) (Y3 l n) with
    | true=>
     (try simp only[↓M1,M1,Mb,reduceIte])
     refine U9 hv10 hn' ?_
     (try simp only[↓M1,M1,Mb,reduceIte])
     refine ld hS10.sat p2 rfl ?_
     exact happ (by simp[upB,ho]) fun z w' h1 h2=>⟨h1,h2⟩
    | false=>
     (try simp only[↓M1,M1,Mb,reduceIte])
     refine ⟨hS10,?_⟩
     have:upB l i n=false:=by simp[upB,ho,e]
     rw[hsuc,this]
     simpa using ha10
  ·obtain ⟨hS',ha'⟩:=hz
   (try simp only[↓M1,M1,Mb,reduceIte])
   exact J0 (by omega) hn' ⟨σ10,hS',le10,leb,ha'⟩
 have hn0:n=l.length:=by
  have: ¬n<l.length:=by simpa using hc
  omega
 subst hn0
 obtain ⟨σ11,hS11,hv11,lee11,_⟩:=ha10.keep hS10
 have le11:=le10.more ⟨lee11⟩
 have hml2:=hml _ (Nat.le_refl l.length)
 have hov:Yu l c=Nc (Qy l i l.length):=by
  unfold Yu
  refine (Q7T fun m=>?_).symm
  rw[Q4I own hi,hname]
 have hlk:Db l c=(!c.abs&&(Qy l i l.length).any fun m=>Yn l c.name m.name):=by
  unfold Db
  congr 1
  refine (X1F fun m=>?_).symm
  rw[Q4I own hi,hname]
 have hsn: ∀m∈Qy l i l.length,SmM m∧NmM m:=fun m hm=>by
  obtain ⟨c2,hc2,hm2⟩:=X0H hm (Nat.le_refl _)
  exact ⟨(ok.sm c2 hc2).2.2.2 m hm2,(ok.nm c2 hc2).2.2 m hm2⟩
 generalize Qy l i l.length=ms at hov hlk hsn hml2 hv11
 clear ha10 lee11 hS10 le10 leb hv10 hml hc hb8 hbl
 refine U3 ms.length (fun n w'=> ∃σ',Stp w σ w' σ'∧SLe σ11 σ'∧ ∀a b,a<n→b<a→P5 ms a b=false) ⟨σ11,hS11,SLe.refl _,fun a b h=>by omega⟩ fun n w12 d hn hinv=>?_
 obtain ⟨σ12,hS12,le12,hno⟩:=hinv
 have hv12:=hv11.lift le12
 refine X0 hv12 ?_
 refine Z3 ?_
 refine Q5 (fun hc=>?_) (fun hc=>?_)
 ·have hn':n<ms.length:=by simpa using hc
  refine U3 n (fun m w'=> ∃σ',Stp w σ w' σ'∧SLe σ11 σ'∧ ∀b,b<m→P5 ms n b=false) ⟨σ12,hS12,le12,fun b h=>by omega⟩ fun m w13 d hm hinv=>?_
  obtain ⟨σ13,hS13,le13,hno2⟩:=hinv
  have hv13:=hv11.lift le13
  refine Z3 ?_
  refine Q5 (fun hc=>?_) (fun hc=>?_)
  ·have hm':m<n:=by simpa using hc
   have hm2:m<ms.length:=by omega
   obtain ⟨pv1,cv1,hv1',pn,rn⟩:=hv13.elM hn'
   obtain ⟨pv2,cv2,hv2',pm,rm⟩:=hv13.elM hm2
   obtain ⟨sn1,sn2⟩:=hsn _ (List.getElem_mem hn')
   obtain ⟨sm1,sm2⟩:=hsn _ (List.getElem_mem hm2)
   have hat:P5 ms n m=(decide (ms[n].name=ms[m].name)&& !decide (Qo ms[n]=Qo ms[m])):=by
    unfold P5;rw[Cy hn',Cy hm2]
   have hs13:=hS13.sat
   have hnx:P5 ms n m=false→ ∀b,b<m+1→P5 ms n b=false:=fun e b hb=>by
    by_cases e2:b=m
    ·subst e2;exact e
    ·exact hno2 b (by omega)
   refine V0 hs13 ?_
   (repeat refine J3 Xt ?_)
   by_cases he:ms[n].name=ms[m].name
   ·have hd:decide (ms[n].name=ms[m].name)=true:=by simp[he]
    simp only[hd,reduceIte]
    (repeat (apply J3;(· intros;(repeat (rename_i hx;subst hx));(repeat' (first | (with_reducible exact Y1 rfl) | (with_reducible exact Ud (Stp.bel (by (repeat (first | exact Stp.refl (by (first | assumption | exact Stp.sat (by assumption) | exact Hst.sat (by assumption))) | assumption | refine Stp.trans ?_ (by first | assumption | exact Hst.stp (by assumption)))))) rfl) | (with_reducible intro _) | (simp only[↓M2,M2,Mb,reduceIte]) | (with_reducible show Q2 _ _ _ _ _;first | refine Y0 aS aL aR ?_ | refine Z1 aS aL aR ?_ | refine ld aS aL aR ?_) | (with_reducible show indexAddr _ _ _ _ _ _;refine U9 aL au ?_) | (with_reducible show X5 _ _ _ _ _ _ _ _;refine X0 aL ?_) | (with_reducible show Ww _ _ _ _ _ _;refine V6 aR ?_) | (with_reducible show pick _ _ _ _ _ _;refine Vc ?_) | (with_reducible show Q0 _ _ _ _ _;first | refine Q5I au au au au ?_) | (apply Lx;intro hh;(try simp only[hh,reduceIte,↓M2,M2,Mb,reduceIte]))));done)))
    (intros;(repeat (rename_i hx;subst hx));(try simp only[↓M2,M2,Mb,reduceIte]))
    rename_i w14 hb14
    refine Q5I hb14.sat rm sm1 sm2 fun w15 σ15 hk15=>?_
    refine I5 ?_
    (try simp only[↓M1,M1,Mb,reduceIte])
    have hS15:=(hS13.trans hb14.stp).trans hk15
    by_cases hsg:Qo ms[n]=Qo ms[m]
    ·simp only[hsg,decide_true,Bool.not_true,↓M1,M1,Mb,reduceIte]
     refine Y5 (by omega) hm' ⟨σ15,hS15,le13.more ⟨(hb14.stp.trans hk15).le⟩,hnx ?_⟩
     rw[hat,hsg];simp
    ·simp only[hsg,decide_false,Bool.not_false,↓M1,M1,Mb,reduceIte]
     have:R=66:=e66 hA hB (by rw[hov];exact X0d hn' hm2 (by rw[hat];simp[he,hsg]))
     subst this
     exact h _ _ hS15
   ·have hd:decide (ms[n].name=ms[m].name)=false:=by simp[he]
    simp only[hd,Bool.false_eq_true,reduceIte]
    (repeat refine J3 Xt ?_)
    (intros;(repeat (rename_i hx;subst hx));(try simp only[↓M2,M2,Mb,reduceIte]))
    rename_i w14 hb14
    (try simp only[↓M1,M1,Mb,reduceIte])
    refine Y5 (by omega) hm' ⟨σ13,hS13.trans hb14.stp,le13,hnx ?_⟩
    rw[hat];simp[he]
  ·have hm0:m=n:=by
    have: ¬m<n:=by simpa using hc
    omega
   subst hm0
   (try simp only[↓M1,M1,Mb,reduceIte])
   refine Y5 hv11.max hn' ⟨σ13,hS13,le13,fun a b ha hb=>?_⟩
   by_cases e:a=m
   ·subst e;exact hno2 b hb
   ·exact hno a b (by omega) hb
 have hC:Yu l c=false:=by
  rw[hov]
  have: ¬n<ms.length:=by simpa using hc
  exact X1l fun x y hx hy=>hno x y (by omega) hy
 clear hno hc hn hv12 hov e66
 refine U3 ms.length (fun n w'=> ∃σ',Stp w σ w' σ'∧SLe σ11 σ'∧(c.abs=true→n=0)∧(ms.take n).any (fun m=>Yn l c.name m.name)=false) ⟨σ12,hS12,le12,fun _=>rfl,rfl⟩ fun n w13 d hn hinv=>?_
 clear hS12 le12
 obtain ⟨σ13,hS13,le13,hab,hno⟩:=hinv
 have hv13:=hv11.lift le13
 have hq13:=hq1.lift (le11.more le13)
 refine X0 hv13 ?_
 refine Z3 ?_
 by_cases hn':n<ms.length
 ·have e1:decide ((n:Int)<(ms.length:Int))=true:=by simpa using hn'
  rw[e1]
  (try simp only[↓M1,M1,Mb,reduceIte])
  refine ld hS13.sat hq13 rfl ?_
  refine Lm ?_
  (try simp only[↓M1,M1,Mb,reduceIte])
  cases hca:c.abs with
  | true=>
   (try simp only[↓M1,M1,Mb,reduceIte])
   have:R=0:=e0 hA hB hC (by rw[hlk,hca];rfl)
   subst this
   exact h _ _ hS13
  | false=>
   (try simp only[↓M1,M1,Mb,reduceIte])
   obtain ⟨pvn,cvn,hvn,pn,rn⟩:=hv13.elM hn'
   have hs13:=hS13.sat
   have hnx:=N5 (p:=fun m:Hm.Met=>Yn l c.name m.name) hn'
   have hla:Yn l c.name ms[n].name=(!(Z9 l c.name ms[n].name).isSome||(o2 (Z9 l c.name ms[n].name)).abs):=by
    unfold Yn
    cases Z9 l c.name ms[n].name<;>rfl
   generalize hF:(fun o:Option Obj=> ∃cs:List Value,∃e,o=some (.cells cs.toArray e (0,0))∧cs.length=7∧cs[3]? =some (.bool (o2 (Z9 l c.name ms[n].name)).abs))=F
   have hFn: ¬F none:=by rw[←hF];rintro ⟨_,_,h,_⟩;cases h
   refine X44 F hs13 ?_
   (repeat (apply J3;(· intros;(repeat (rename_i hx;subst hx));(repeat' (first | (with_reducible exact Q6j rfl) | (with_reducible exact X2W (Stp.bel (by (repeat (first | exact Stp.refl (by (first | assumption | exact Stp.sat (by assumption) | exact Hst.sat (by assumption))) | assumption | refine Stp.trans ?_ (by first | assumption | exact Hst.stp (by assumption)))))) rfl) | (with_reducible intro _) | (simp only[↓M2,M2,Mb,reduceIte]) | (with_reducible show Q2 _ _ _ _ _;first | refine Y0 aS aL aR ?_ | refine Z1 aS aL aR ?_ | refine ld aS aL aR ?_) | (with_reducible show indexAddr _ _ _ _ _ _;refine U9 aL au ?_) | (with_reducible show X5 _ _ _ _ _ _ _ _;refine X0 aL ?_) | (with_reducible show Ww _ _ _ _ _ _;refine V6 aR ?_) | (with_reducible show pick _ _ _ _ _ _;refine Vc ?_)));done)))
   refine L3 (fun v _=> ∃s,∃ds:List Value,v= .tuple #[s, .agg ds.toArray, .bool (Z9 l c.name ms[n].name).isSome]∧ds.length=7∧ds[3]? =some (.bool (o2 (Z9 l c.name ms[n].name)).abs)∧ ∀u∈ds,u.oneCell'=true) (fun _ _ _ h _=>h) (fun t180 t185 w hb e1 e2=>?_) ?_
   ·subst e1;subst e2
    refine Q9G hb.sat (hv.up (hS13.trans hb.stp)) ok fun pv cv hv w' σ' hk hr=>⟨.of_below hk.bel,_,_,rfl,rfl,rfl,Rep.one hr⟩
   refine L3 (fun _ _=>True) (fun _ _ _ _ _=>trivial) (fun t186 w hb e=>?_) ?_
   ·obtain ⟨s,ds,rfl,_⟩:=e
    exact Z8 (vs:=[_,_,_]) rfl ⟨.of_below (Below.refl _ _),trivial⟩
   refine L3 (fun v _=> ∃ds:List Value,v= .agg ds.toArray∧ds.length=7∧ds[3]? =some (.bool (o2 (Z9 l c.name ms[n].name)).abs)∧ ∀u∈ds,u.oneCell'=true) (fun _ _ _ h _=>h) (fun t186 w hb e=>?_) ?_
   ·obtain ⟨s,ds,rfl,h7⟩:=e
    exact Z8 (vs:=[_,_,_]) rfl ⟨.of_below (Below.refl _ _),ds,rfl,h7⟩
   refine J3 (V:= .bool (Z9 l c.name ms[n].name).isSome) (fun t186 w hb e=>?_) ?_
   ·obtain ⟨s,ds,rfl,h7⟩:=e
    exact Z8 (vs:=[_,_,_]) rfl (Q6j rfl)
   refine L3 (X4s w13.heap.size 7 F) (Q8O hFn) (fun w hb=>?_) ?_
   ·exact Sg hb.sat fun b w' hb2 hk hm=>⟨.of_below hk.bel,b,rfl,Nat.le_trans hb.stp.bel.size hb2, .inl ⟨_,hm.2.choose,rfl,hm.2.choose_spec⟩⟩
   refine Q8m (fun xs _ w=>X4C w13.heap.size F (xs.headD undef) w) (fun xs _ w w' h hT=>Q9p hFn _ w w' h hT) (fun t18 t188 w hb e1 e2=>?_) ?_
   ·obtain ⟨g,rfl,hg,hd⟩:=e1
    obtain ⟨ds,rfl,h7,h3,h1⟩:=e2
    obtain ⟨cs,e,hl7,hh⟩: ∃cs:List Value,∃e,cs.length=7∧w.heap[g]? =some (.cells cs.toArray e (0,0)):=by
     rcases hd with h | h
     ·exact h
     ·rw[←hF] at h
      obtain ⟨cs,e,h4,h5,_⟩:=h
      exact ⟨cs,e,h5,h4⟩
    refine sta (σ:=fun _=>none) (cs:=cs) (ds:=ds) ⟨rfl,e,hh⟩ hl7 h7 (by rw[List.all_toArray];exact List.all_eq_true.2 h1) fun w' hu hm=>?_
    have hFg:F (w'.heap[g]?):=by
     obtain ⟨_,e',hm'⟩:=hm
     rw[hm',←hF]
     exact ⟨ds,e',rfl,h7,h3⟩
    exact ⟨FinT.of_upd hu hg hFg,g,rfl,hg,hFg⟩
   rintro t179 t183 t184 t180 t185 t186 t187 t188 t189 t18 u15 w14 hb14 rfl rfl rfl rfl rfl _ _ _ rfl _ ⟨g,e,hg,hd⟩
   have e:t18=_:=e
   subst e
   rw[←hF] at hd
   obtain ⟨cs,ty,hh,hl7,h3⟩:=hd
   have hS14:=hS13.trans hb14.stp
   refine Lm ?_
   cases hsm:(Z9 l c.name ms[n].name).isSome with
   | false=>
    (try simp only[↓M1,M1,Mb,reduceIte])
    have:R=67:=e67 hA hB hC (by rw[hlk,hca];exact B7 hn' (by rw[hla,hsm];rfl))
    subst this
    exact h _ _ hS14
   | true=>
    (try simp only[↓M1,M1,Mb,reduceIte])
    refine B6 (σ:=fun _=>none) ⟨rfl,ty,hh⟩ h3 ?_
    (try simp only[↓M1,M1,Mb,reduceIte])
    cases hma:(o2 (Z9 l c.name ms[n].name)).abs with
    | true=>
     (try simp only[↓M1,M1,Mb,reduceIte])
     have:R=67:=e67 hA hB hC (by rw[hlk,hca];exact B7 hn' (by rw[hla,hma,Bool.or_true]))
     subst this
     exact h _ _ hS14
    | false=>
     (try simp only[↓M1,M1,Mb,reduceIte])
     refine Y5 hv11.max hn' ⟨σ13,hS14,le13,fun e=>False.elim (by simpa using e),?_⟩
     rw[hnx,hno,hla,hsm,hma];rfl
 ·have e1:decide ((n:Int)<(ms.length:Int))=false:=by simpa using hn'
  rw[e1]
  (try simp only[↓M1,M1,Mb,reduceIte])
  rw[E4 hn'] at hno
  have:R=0:=e0 hA hB hC (by rw[hlk,hno,Bool.and_false])
  subst this
  exact h _ _ hS13)
end Go.Proofs.YtfppjenblllfaaaGreatDoor

namespace Go.Proofs.YtfppjenblllfaaaGreatDoor
open Go.Emb Go.RowKit Go.Kd Go.Hm
variable {w : World} {K : Value → World → Prop} {σ : Q4} {v : Value}
def Q3g:List Cla:=[⟨J7,[],[],false,false,false,[],[]⟩,⟨W4,J7,[],false,false,false,[⟨Qi,D7,false⟩],[]⟩]
def gMk (n:Q8):Cla:=⟨n,W4,[],false,false,true,[],[]⟩
theorem Q7k:G4=Q3g++U5.map gMk:=rfl
theorem X0e (U:X4 w σ) (h: ∀y w' g,Stp w σ w' g→J1 w.heap.size T.c 8 V4 g w' y G4→K y w'):Q0 P F.bx [] w K:=Pj (by
 unfold Mh
 refine W0 (cells:= #[S J7,S [], .slice none 0 0, .bool false, .bool false, .bool false, .slice none 0 0, .slice none 0 0]) (by kernel_rfl) ?_
 refine W0 (cells:= #[S Qi,S D7, .bool false]) (by kernel_rfl) ?_
 refine O7 (R:=H0) (sz:=3) U [.agg #[S Qi,S D7, .bool false]] [⟨Qi,D7,false⟩] rfl rfl (by simp;rfl) rfl ⟨⟨rfl,by decide,by decide⟩,trivial⟩ fun X w1 σ1 p i=>?_
 have k:=i
 obtain ⟨J,b,rfl,_⟩:=k
 refine W0 (cells:= #[S W4,S J7, .slice none 0 0, .bool false, .bool false, .bool false, .slice J 1 b, .slice none 0 0]) (by kernel_rfl) ?_
 refine Xc (R:=V4) (sz:=8) p [.agg #[S J7,S [], .slice none 0 0, .bool false, .bool false, .bool false, .slice none 0 0, .slice none 0 0], .agg #[S W4,S J7, .slice none 0 0, .bool false, .bool false, .bool false, .slice J 1 b, .slice none 0 0]]
  Q3g rfl rfl (by simp;exact ⟨rfl,rfl⟩) rfl ⟨⟨_,_,_,rfl,Sl.nil,Sl.nil,Sl.nil,by decide,by decide⟩,⟨_,_,_,rfl,Sl.nil,i,Sl.nil,by decide,by decide⟩,trivial⟩ fun W w2 r D _=>?_
 refine O7 (R:=X7) (sz:=1) r.sat (U5.map S) U5 rfl rfl (by decide) rfl ⟨⟨rfl,by decide⟩,⟨rfl,by decide⟩,⟨rfl,by decide⟩,⟨rfl,by decide⟩,⟨rfl,by decide⟩,⟨rfl,by decide⟩,trivial⟩ fun v3 Y E l o=>?_
 have A:=(p.trans r).trans l
 have V:U5.length=6:=rfl
 refine E2 U5.length (fun n x w'=> ∃g,Stp w σ w' g∧SLe E g∧J1 w.heap.size T.c 8 V4 g w' x (Q3g++(U5.take n).map gMk)) ⟨E,A,SLe.refl _,D.up l⟩ fun n x Z d hn q=>?_
 obtain ⟨L,f,e,c⟩:=q
 refine X0 (o.lift e) ?_
 refine Z3 ?_
 refine Q5 (fun B=>?_) (fun B=>?_)
 ·have a:n<U5.length:=by simpa using B
  have j:=o.lift e
  refine U9 j a ?_
  obtain ⟨M,H⟩:=j.elS a
  refine Y0 f.sat M rfl ?_
  have O:(Q3g++(U5.take n).map gMk).length≤8:=by
   rw[List.length_append,List.length_map,List.length_take,show Q3g.length=2 from rfl];omega
  have m:(U5.take (n+1)).map gMk=(U5.take n).map gMk++[gMk U5[n]]:=by
   rw[List.take_add_one,List.getElem?_eq_getElem a,List.map_append];rfl
  generalize U5[n]=t at H m
  refine W0 (cells:= #[S t,S W4, .slice none 0 0, .bool false, .bool false, .bool true, .slice none 0 0, .slice none 0 0]) (by kernel_rfl) ?_
  have N:V4 L (gMk t) [S t,S W4, .slice none 0 0, .bool false, .bool false, .bool true, .slice none 0 0, .slice none 0 0]:=⟨_,_,_,rfl,Sl.nil,Sl.nil,Sl.nil,H,(by decide:W4.length≤Y9)⟩
  refine Vd (x:=gMk t) f c N rfl rfl rfl (by omega) (by omega) fun s y w5 Q C u z _=>?_
  refine E5 ?_
  refine J0 (by omega) a ⟨Q,u,e.more C.le,?_⟩
  rw[m,←List.append_assoc];exact z
 ·have a: ¬n<U5.length:=by simpa using B
  rw[List.take_of_length_le (by omega),←Q7k] at c
  exact h _ _ _ f c)
end Go.Proofs.YtfppjenblllfaaaGreatDoor

namespace Go.Proofs.YtfppjenblllfaaaGreatDoor
open Go.Emb Go.RowKit Go.Kd Go.Hm
variable {w : World} {K : Value → World → Prop} {σ : Q4} {l : List Cla} {v : Value}
theorem X3z {w0:World} {σ0:Q4} {frm:Nat} (ha:Zf l) (ho:K7 l) (hl:l.length≤1000) (ar: ∀c∈l,Qr c) (hf:0<frm) (av: ∀i (E:i<l.length),frm≤i→ ∀u∈U2 l[i],∃j,Y7 l u=some j): ∀(k:Nat) {i:Nat} {out:List Nat} {x:Value} {w:World} {σ:Q4} {K:Value→World→Prop},i<l.length→I7 l (Y3 l i)<k→Few l out→Stp w0 σ0 w σ→Sl 8 V4 σ v l→J1 w0.heap.size T.e 1 Vv σ w x (ints out)→
 (∀x' w' Q,Stp w0 σ0 w' Q→SLe σ Q→J1 w0.heap.size T.e 1 Vv Q w' x' (ints (Xf l frm out i))→K x' w')→Q0 P F.b1 [v,x,I frm,I i] w K:=by
 intro k
 induction k with
 | zero=>intro i out x w σ K E hk;omega
 | succ k ih=>
  intro i out x w σ K E hk z hS hv hx h
  refine Q0p ?_
  unfold Dz
  rw[Q89 ha ho hf out E] at h
  refine Z3 ?_
  refine Q5 (fun O=>?_) (fun O=>?_)
  ·have O:i<frm:=by have:=of_decide_eq_true O;omega
   rw[if_pos O] at h
   exact h _ _ _ hS (SLe.refl _) hx
  have O: ¬i<frm:=by have:=of_decide_eq_false O;omega
  rw[if_neg O] at h
  have a9:=z.len
  refine U3 out.length (fun n w'=>w'=w∧ ∀m (hm:m<out.length),m<n→out[m]≠i) ⟨rfl,fun m _ h=>by omega⟩ fun n w2 d hn o=>?_
  obtain ⟨hw,J⟩:=o
  subst hw
  refine Q8S hx ?_
  rw[show (ints out).length=out.length from by simp]
  refine Z3 ?_
  refine Q5 (fun A=>?_) (fun A=>?_)
  ·have b:n<out.length:=by simpa using A
   refine Q3M (J9.of_acc hx) (n:=n) (by simpa using b) fun a cs ao bu hr=>?_
   obtain ⟨rfl,_⟩:=hr
   refine T2 (by have:=ao 0 _ rfl;rwa [add_zero] at this) ?_
   simp only[List.getElem_map]
   refine Vo ?_
   by_cases e:out[n]=i
   ·have:decide ((out[n]:Int)=i)=true:=by simp[e]
    rw[this]
    refine J8 ?_
    rw[if_pos (e▸List.getElem_mem b)] at h
    exact h _ _ _ hS (SLe.refl _) hx
   ·have:decide ((out[n]:Int)=i)=false:=by rw[decide_eq_false_iff_not];omega
    rw[this]
    refine U6 ?_
    refine E5 ?_
    refine Y5 (by omega) b ⟨rfl,fun m hm bm=>?_⟩
    by_cases e2:m=n
    ·subst e2;exact e
    ·exact J m hm (by omega)
  ·have b: ¬n<out.length:=by simpa using A
   have C:i∉out:=fun ay=>by
    obtain ⟨m,hm,e⟩:=List.getElem_of_mem ay
    exact J m hm (by omega) e
   rw[if_neg C] at h
   have ad:l.getD i Cla.zero=l[i]:=by rw[List.getD_eq_getElem?_getD,List.getElem?_eq_getElem E];rfl
   rw[ad] at h
   have aw:=av i E (by omega)
   obtain ⟨lv,fv,mv,p1,r1⟩:=hv.elC E
   obtain ⟨g1,_,_,_,g5⟩:=r1.parts
   have D:=ar _ (List.getElem_mem E)
   clear J C A hn
   refine V0 hS.sat ?_
   (repeat refine J3 Xt ?_)
   refine Q1s (w:=w2) (σ:=σ) (R:=X7) (sz:=1) (e:=T.a) [l[i].super] (fun t w hb e=>?_) ?_
   ·subst e;exact Xc hb.stp [_] [l[i].super] rfl rfl (by simp;rfl) rfl ⟨⟨rfl,g5⟩,trivial⟩ fun v' w' hk ha _=>Q3p hb hk ha
   (repeat refine J3 Xt ?_)
   rintro bj bw br bo bb bi ba w4 ap rfl rfl rfl rfl rfl ⟨ac,Z⟩ rfl
   refine Hu ac Z g1 rfl (by simp;have:=D.1;omega) (by simp;have:=D.1;omega) fun v5 w5 ax U ae W=>?_
   obtain ⟨σ6,q,H,bp,_⟩:=ae.keep U
   have H:Sl 1 X7 σ6 v5 (U2 l[i]):=H
   have an:=hx.up q
   have aa:=hv.up q
   have Y:=hS.trans q
   have ab:SLe σ σ6:=⟨q.le⟩
   clear ax W ae Z ac ap U
   refine E2 (U2 l[i]).length (fun n x w'=> ∃Q g,Stp w0 σ0 w' Q∧SLe σ6 Q∧J1 w0.heap.size T.e 1 Vv Q w' x (ints g)∧Few l g∧g=((U2 l[i]).take n).foldl (fun out n=>Xf l frm out ((Y7 l n).getD 0)) out) ⟨σ6,out,Y,SLe.refl _,an,z,rfl⟩ fun n x7 w7 d hn o=>?_
   obtain ⟨σ7,a3,y,p,V,f,M⟩:=o
   have r:=H.lift p
   refine X0 r ?_
   refine Z3 ?_
   refine Q5 (fun A=>?_) (fun A=>?_)
   ·have b:n<(U2 l[i]).length:=by simpa using A
    refine U9 r b ?_
    obtain ⟨p7,_⟩:=r.elS b
    refine Y0 y.sat p7 rfl ?_
    have B:=aa.lift p
    refine Qq y.sat B ?_
    obtain ⟨j,hj⟩:=aw _ (List.getElem_mem b)
    have bg:=Q1o ha ho E (by rw[ad];exact List.getElem_mem b) hj
    have X:=(C8 hj).1
    simp only[hj,L2]
    refine ih X (by omega) f y B V fun x8 w8 σ8 L aq N=>?_
    refine E5 ?_
    refine J0 r.max b ⟨σ8,_,L,p.more aq,N,Iz ha ho hf _ _ _ X f,?_⟩
    rw[List.take_add_one,List.getElem?_eq_getElem b,List.foldl_append,←M]
    simp[hj]
   ·have b: ¬n<(U2 l[i]).length:=by simpa using A
    rw[List.take_of_length_le (by omega)] at M
    have a7:=f.len
    refine Vd (R:=Vv) (x:=(i:Int)) y V ⟨rfl,by omega,by omega⟩ rfl rfl rfl (by simp;omega) (by simp;omega) fun s x8 w8 σ8 al L N _=>?_
    refine h _ _ _ L ((ab.more p).more al.le) ?_
    rw[←M]
    simpa [ints] using N
end Go.Proofs.YtfppjenblllfaaaGreatDoor

namespace Go.Hm
open Go.Kd
def H8 (n i b:Nat):Bool:=decide (i<n)&&decide (128≤b)&&decide (b<192)
def Zh (n a b c d:Nat):Nat:=
 if a<128 then 1
 else if (decide (194≤a)&&decide (a<224)&&H8 n 1 b)=true then 2
 else if (decide (224≤a)&&decide (a<240)&&H8 n 1 b&&H8 n 2 c)=true then
  (if 2048≤a % 16*4096+b % 64*64+c % 64∧(a % 16*4096+b % 64*64+c % 64<55296∨57343<a % 16*4096+b % 64*64+c % 64) then 3 else 0)
 else if (decide (240≤a)&&decide (a<245)&&H8 n 1 b&&H8 n 2 c&&H8 n 3 d)=true then
  (if 65536≤a % 8*262144+b % 64*4096+c % 64*64+d % 64∧a % 8*262144+b % 64*4096+c % 64*64+d % 64≤1114111 then 4 else 0)
 else 0
theorem X1Z (n a b c d:Nat) (q:a<256) (r:b<256) (u:c<256) (s:d<256):
 Zh n a b c d=if (Lib.decodeN n a b c d).1=65533∧(Lib.decodeN n a b c d).2=1 then 0 else (Lib.decodeN n a b c d).2:=by
 have key: ∀v k:Nat,Lib.decodeN n a b c d=(v,k)→ ¬k=1→Zh n a b c d=k→Zh n a b c d=if (Lib.decodeN n a b c d).1=65533∧(Lib.decodeN n a b c d).2=1 then 0 else (Lib.decodeN n a b c d).2:=by
  intro v k h p m
  rw[h,m,if_neg (fun e=>p e.2)]
 have g:Lib.decodeN n a b c d=(65533,1)→Zh n a b c d=0→Zh n a b c d=if (Lib.decodeN n a b c d).1=65533∧(Lib.decodeN n a b c d).2=1 then 0 else (Lib.decodeN n a b c d).2:=by
  intro h m
  rw[h,m];simp
 by_cases f:a<128
 ·have h:Lib.decodeN n a b c d=(a,1):=by unfold Lib.decodeN;rw[if_pos f]
  rw[h,if_neg (by simp only;omega)]
  unfold Zh;rw[if_pos f]
 by_cases j:a / 32=6∧(1<n∧b / 64=2)
 ·by_cases i:a % 32*64+b % 64≥128
  ·refine key _ 2 (by unfold Lib.decodeN;rw[if_neg f,if_pos j,if_pos i]) (by decide) ?_
   unfold Zh H8
   simp only[Bool.and_eq_true,decide_eq_true_eq]
   rw[if_neg f,if_pos (by omega)]
  ·refine g (by unfold Lib.decodeN;rw[if_neg f,if_pos j,if_neg i]) ?_
   unfold Zh H8
   simp only[Bool.and_eq_true,decide_eq_true_eq]
   rw[if_neg f,if_neg (by omega),if_neg (by omega),if_neg (by omega)]
 by_cases l:a / 16=14∧(1<n∧b / 64=2)∧(2<n∧c / 64=2)
 ·by_cases i:2048≤a % 16*4096+b % 64*64+c % 64∧(a % 16*4096+b % 64*64+c % 64<55296∨57343<a % 16*4096+b % 64*64+c % 64)
  ·refine key _ 3 (by unfold Lib.decodeN;rw[if_neg f,if_neg j,if_pos l,if_pos (by omega)]) (by decide) ?_
   unfold Zh H8
   simp only[Bool.and_eq_true,decide_eq_true_eq]
   rw[if_neg f,if_neg (by omega),if_pos (by omega),if_pos i]
  ·refine g (by unfold Lib.decodeN;rw[if_neg f,if_neg j,if_pos l,if_neg (by omega)]) ?_
   unfold Zh H8
   simp only[Bool.and_eq_true,decide_eq_true_eq]
   rw[if_neg f,if_neg (by omega),if_pos (by omega),if_neg i]
 by_cases o:a / 8=30∧(1<n∧b / 64=2)∧(2<n∧c / 64=2)∧(3<n∧d / 64=2)
 ·by_cases i:65536≤a % 8*262144+b % 64*4096+c % 64*64+d % 64∧a % 8*262144+b % 64*4096+c % 64*64+d % 64≤1114111
  ·refine key _ 4 (by unfold Lib.decodeN;rw[if_neg f,if_neg j,if_neg l,if_pos o,if_pos (by omega)]) (by decide) ?_
   unfold Zh H8
   simp only[Bool.and_eq_true,decide_eq_true_eq]
   rw[if_neg f,if_neg (by omega),if_neg (by omega),if_pos (by omega),if_pos i]
  ·refine g (by unfold Lib.decodeN;rw[if_neg f,if_neg j,if_neg l,if_pos o,if_neg (by omega)]) ?_
   unfold Zh H8
   simp only[Bool.and_eq_true,decide_eq_true_eq]
   rw[if_neg f,if_neg (by omega),if_neg (by omega)]
   by_cases t:a<245
   ·rw[if_pos (by omega),if_neg i]
   ·rw[if_neg (by omega)]
 ·refine g (by unfold Lib.decodeN;rw[if_neg f,if_neg j,if_neg l,if_neg o]) ?_
  unfold Zh H8
  simp only[Bool.and_eq_true,decide_eq_true_eq]
  rw[if_neg f,if_neg (by omega),if_neg (by omega),if_neg (by omega)]
def X3 (l:Q8) (i:Nat):Nat:=(l.getD i 0).toNat
theorem Xv (l:Q8) (i:Nat):X3 l i<256:=(l.getD i 0).toNat_lt
def Zl (l:Q8):Nat:=Zh l.length (X3 l 0) (X3 l 1) (X3 l 2) (X3 l 3)
theorem Q62 (l:Q8):Zl l=if (Lib.decodeL l).1=65533∧(Lib.decodeL l).2=1 then 0 else (Lib.decodeL l).2:=by
 rw[Lib.decodeL_N]
 exact X1Z _ _ _ _ _ (Xv l 0) (Xv l 1) (Xv l 2) (Xv l 3)
theorem Q9Q {l:Q8} (a:l≠[]) (h:Zl l≠0):1≤Zl l∧Zl l≤l.length:=by
 have b:=Lib.decodeL_le l a
 have c:=Lib.decodeL_width l
 rw[Q62] at h⊢
 split at h
 ·exact absurd rfl h
 ·rw[if_neg (by assumption)];omega
theorem Q9c {f:Nat} {l:Q8} (a:l≠[]):Lib.validGoD (f+1) l=if Zl l=0 then false else Lib.validGoD f (l.drop (Zl l)):=by
 have b:=Lib.decodeL_width l
 simp only[Lib.validGoD,if_neg a]
 rw[Q62]
 split
 ·rw[if_pos rfl]
 ·rw[if_neg (by omega)]
end Go.Hm
namespace Go.Emb
open Go.RowKit
theorem X0k {P:Program} {w:World} {K:Value→World→Prop} {k:IntKind} {t:TypeId} {d b:Operand} {a c:Int} (f:0<c∧0≤a) (h:K (.int k (a % c)) w):Q3 P .rem t d b (.int k a) (.int k c) w K:=by
 have e:Q3 P .rem t d b (.int k a) (.int k c) w K=K (.int k (a.tmod c)) w:=Y2 (by simp[eqGuard,Go.binOp,Op.intDiv];intro e;omega)
 rw[e,Int.tmod_eq_emod_of_nonneg f.2];exact h
end Go.Emb
namespace Go.Proofs.YtfppjenblllfaaaGreatDoor
open Go.Emb Go.RowKit Go.Kd Go.Hm
variable {w : World} {K : Value → World → Prop} {σ : Q4}
theorem Nh {a:Q8} {i:Nat} (b:i<a.length) (h:K (.int .u8 (X3 a i)) w):H2 P T.a (S a) (I i) w K:=by
 rw[Xl X8 (by omega) (by simpa using b)]
 have:(a[(i:Int).toNat]'(by simpa using b)).toNat=X3 a i:=by
  unfold X3
  rw[List.getD_eq_getElem?_getD,List.getElem?_eq_getElem b];rfl
 rw[this];exact h
theorem Q4b {n:Int} (a:0≤n∧n<256) (h:K (I n) w):conv P T.w T.e (.int .u8 n) w K:=by
 rw[Q2L Q42 Q3K,G1 (by omega) (by omega)];exact h
theorem Wh {a:Q8} {i:Nat} (h:K (.bool (H8 a.length i (X3 a i))) w):Q0 P F.u [S a,I i] w K:=Ku (by
 unfold Lw
 unfold H8 at h
 simp only[↓M1,M1,Mb,reduceIte]
 by_cases b:i<a.length
 ·have d:decide ((i:Int)<a.length)=true:=by rw[decide_eq_true_eq];omega
  have c:decide (i<a.length)=true:=by simpa using b
  rw[c] at h
  simp only[d,↓M1,M1,Mb,reduceIte]
  refine Nh b ?_
  (try simp only[↓M1,M1,Mb,reduceIte])
  have g:decide ((128:Int)≤(X3 a i:Int))=decide (128≤X3 a i):=by rw[Bool.eq_iff_iff,decide_eq_true_eq,decide_eq_true_eq];omega
  have f:decide ((X3 a i:Int)<192)=decide (X3 a i<192):=by rw[Bool.eq_iff_iff,decide_eq_true_eq,decide_eq_true_eq];omega
  rw[g]
  cases e:decide (128≤X3 a i) with
  | true=>
   rw[e] at h
   simp only[↓M1,M1,Mb,reduceIte]
   refine Nh b ?_
   simp only[f,↓M1,M1,Mb,reduceIte]
   simpa using h
  | false=>
   rw[e] at h
   simp only[↓M1,M1,Mb,reduceIte]
   simpa using h
 ·have d:decide ((i:Int)<a.length)=false:=by rw[decide_eq_false_iff_not];omega
  have c:decide (i<a.length)=false:=by simpa using b
  rw[c] at h
  simp only[d,↓M1,M1,Mb,reduceIte]
  simpa using h)
def Jq (a:Q8):Nat:=X3 a 0 % 16*4096+X3 a 1 % 64*64+X3 a 2 % 64
def Ca (a:Q8):Nat:=X3 a 0 % 8*262144+X3 a 1 % 64*4096+X3 a 2 % 64*64+X3 a 3 % 64
theorem X10 (a:Q8):Zl a=if X3 a 0<128 then 1
 else if (decide (194≤X3 a 0)&&decide (X3 a 0<224)&&H8 a.length 1 (X3 a 1))=true then 2
 else if (decide (224≤X3 a 0)&&decide (X3 a 0<240)&&H8 a.length 1 (X3 a 1)&&H8 a.length 2 (X3 a 2))=true then
  (if 2048≤Jq a∧(Jq a<55296∨57343<Jq a) then 3 else 0)
 else if (decide (240≤X3 a 0)&&decide (X3 a 0<245)&&H8 a.length 1 (X3 a 1)&&H8 a.length 2 (X3 a 2)&&H8 a.length 3 (X3 a 3))=true then
  (if 65536≤Ca a∧Ca a≤1114111 then 4 else 0)
 else 0:=rfl
set_option maxHeartbeats 2000000 in
theorem X1y {a:Q8} (hne:a≠[]) (hs:X4 w σ) (h: ∀w',Below w.heap.size w w'→K (I (Zl a)) w'):Q0 P F.bQ [S a] w K:=Q00 (by
 unfold Og
 have hl:0<a.length:=List.length_pos_iff.2 hne
 have b0:=Xv a 0
 have b1:=Xv a 1
 have b2:=Xv a 2
 have b3:=Xv a 3
 refine Nh (i:=0) hl ?_
 refine Q4b (by omega) ?_
 refine Zj (fun _ w'=>Below w.heap.size w w'∧Zl a=0) ?_ (fun _ d w' hx=>by
  have:=h w' hx.1
  rw[hx.2] at this
  exact this)
 have hK: ∀n w',Below w.heap.size w w'→Zl a=n→K (I n) w':=fun n w' hb e=>by rw[←e];exact h w' hb
 clear h
 have hcm:=X10 a
 simp only[↓M1,M1,Mb,reduceIte]
 refine Q5 (fun h1=>?_) (fun h1=>?_)
 ·have:X3 a 0<128:=by have:=of_decide_eq_true h1;omega
  exact hK 1 _ (Below.refl _ _) (by rw[hcm,if_pos this])
 have c0: ¬X3 a 0<128:=by have:=of_decide_eq_false h1;omega
 rw[if_neg c0] at hcm
 by_cases c1:X3 a 0<194
 ·have i1:decide ((194:Int)≤X3 a 0)=false:=by rw[decide_eq_false_iff_not];omega
  have n1:decide (194≤X3 a 0)=false:=by rw[decide_eq_false_iff_not];omega
  have i2:decide ((X3 a 0:Int)<224)=true:=by rw[decide_eq_true_eq];omega
  have n2:decide (X3 a 0<224)=true:=by rw[decide_eq_true_eq];omega
  have i3:decide ((224:Int)≤X3 a 0)=false:=by rw[decide_eq_false_iff_not];omega
  have n3:decide (224≤X3 a 0)=false:=by rw[decide_eq_false_iff_not];omega
  have i4:decide ((X3 a 0:Int)<240)=true:=by rw[decide_eq_true_eq];omega
  have n4:decide (X3 a 0<240)=true:=by rw[decide_eq_true_eq];omega
  have i5:decide ((240:Int)≤X3 a 0)=false:=by rw[decide_eq_false_iff_not];omega
  have n5:decide (240≤X3 a 0)=false:=by rw[decide_eq_false_iff_not];omega
  have i6:decide ((X3 a 0:Int)<245)=true:=by rw[decide_eq_true_eq];omega
  have n6:decide (X3 a 0<245)=true:=by rw[decide_eq_true_eq];omega
  simp only[i1,i2,i3,i4,i5,i6,↓M1,M1,Mb,reduceIte]
  exact ⟨Below.refl _ _,by rw[hcm];simp only[n1,n2,n3,n4,n5,n6,Bool.and_true,Bool.true_and,Bool.false_and,Bool.and_false,Bool.false_eq_true,if_true,if_false,reduceIte]⟩
 by_cases c2:X3 a 0<224
 ·have i1:decide ((194:Int)≤X3 a 0)=true:=by rw[decide_eq_true_eq];omega
  have n1:decide (194≤X3 a 0)=true:=by rw[decide_eq_true_eq];omega
  have i2:decide ((X3 a 0:Int)<224)=true:=by rw[decide_eq_true_eq];omega
  have n2:decide (X3 a 0<224)=true:=by rw[decide_eq_true_eq];omega
  have i3:decide ((224:Int)≤X3 a 0)=false:=by rw[decide_eq_false_iff_not];omega
  have n3:decide (224≤X3 a 0)=false:=by rw[decide_eq_false_iff_not];omega
  have i4:decide ((X3 a 0:Int)<240)=true:=by rw[decide_eq_true_eq];omega
  have n4:decide (X3 a 0<240)=true:=by rw[decide_eq_true_eq];omega
  have i5:decide ((240:Int)≤X3 a 0)=false:=by rw[decide_eq_false_iff_not];omega
  have n5:decide (240≤X3 a 0)=false:=by rw[decide_eq_false_iff_not];omega
  have i6:decide ((X3 a 0:Int)<245)=true:=by rw[decide_eq_true_eq];omega
  have n6:decide (X3 a 0<245)=true:=by rw[decide_eq_true_eq];omega
  simp only[i1,i2,i3,i4,i5,i6,↓M1,M1,Mb,reduceIte]
  refine Wh (i:=1) ?_
  cases A1:H8 a.length 1 (X3 a 1) with
  | true=>simp only[↓M1,M1,Mb,reduceIte];exact hK 2 _ (Below.refl _ _) (by rw[hcm];simp only[A1,n1,n2,n3,n4,n5,n6,Bool.and_true,Bool.true_and,Bool.false_and,Bool.and_false,Bool.false_eq_true,if_true,if_false,reduceIte])
  | false=>simp only[↓M1,M1,Mb,reduceIte];exact ⟨Below.refl _ _,by rw[hcm];simp only[A1,n1,n2,n3,n4,n5,n6,Bool.and_true,Bool.true_and,Bool.false_and,Bool.and_false,Bool.false_eq_true,if_true,if_false,reduceIte]⟩
 by_cases c3:X3 a 0<240
 ·have i1:decide ((194:Int)≤X3 a 0)=true:=by rw[decide_eq_true_eq];omega
  have n1:decide (194≤X3 a 0)=true:=by rw[decide_eq_true_eq];omega
  have i2:decide ((X3 a 0:Int)<224)=false:=by rw[decide_eq_false_iff_not];omega
  have n2:decide (X3 a 0<224)=false:=by rw[decide_eq_false_iff_not];omega
  have i3:decide ((224:Int)≤X3 a 0)=true:=by rw[decide_eq_true_eq];omega
  have n3:decide (224≤X3 a 0)=true:=by rw[decide_eq_true_eq];omega
  have i4:decide ((X3 a 0:Int)<240)=true:=by rw[decide_eq_true_eq];omega
  have n4:decide (X3 a 0<240)=true:=by rw[decide_eq_true_eq];omega
  have i5:decide ((240:Int)≤X3 a 0)=false:=by rw[decide_eq_false_iff_not];omega
  have n5:decide (240≤X3 a 0)=false:=by rw[decide_eq_false_iff_not];omega
  have i6:decide ((X3 a 0:Int)<245)=true:=by rw[decide_eq_true_eq];omega
  have n6:decide (X3 a 0<245)=true:=by rw[decide_eq_true_eq];omega
  simp only[i1,i2,i3,i4,i5,i6,↓M1,M1,Mb,reduceIte]
  refine Wh (i:=1) ?_
  cases A1:H8 a.length 1 (X3 a 1) with
  | false=>simp only[↓M1,M1,Mb,reduceIte];exact ⟨Below.refl _ _,by rw[hcm];simp only[A1,n1,n2,n3,n4,n5,n6,Bool.and_true,Bool.true_and,Bool.false_and,Bool.and_false,Bool.false_eq_true,if_true,if_false,reduceIte]⟩
  | true=>
  simp only[↓M1,M1,Mb,reduceIte]
  refine Wh (i:=2) ?_
  cases A2:H8 a.length 2 (X3 a 2) with
  | false=>simp only[↓M1,M1,Mb,reduceIte];exact ⟨Below.refl _ _,by rw[hcm];simp only[A1,A2,n1,n2,n3,n4,n5,n6,Bool.and_true,Bool.true_and,Bool.false_and,Bool.and_false,Bool.false_eq_true,if_true,if_false,reduceIte]⟩
  | true=>
  simp only[↓M1,M1,Mb,reduceIte]
  simp only[A1,A2,n1,n2,n3,n4,n5,n6,Bool.and_true,Bool.true_and,Bool.false_and,Bool.and_false,Bool.false_eq_true,if_true,if_false,reduceIte] at hcm
  have hl1:1<a.length:=by unfold H8 at A1;simp only[Bool.and_eq_true,decide_eq_true_eq] at A1;exact A1.1.1
  have hl2:2<a.length:=by unfold H8 at A2;simp only[Bool.and_eq_true,decide_eq_true_eq] at A2;exact A2.1.1
  have hw:IntKind.i64.wrap (IntKind.i64.wrap (IntKind.i64.wrap ((X3 a 0:Int) % 16*4096)+IntKind.i64.wrap ((X3 a 1:Int) % 64*64))+(X3 a 2:Int) % 64)=((Jq a:Nat):Int):=by
   rw[G1 (n:=(X3 a 0:Int) % 16*4096) (by omega) (by omega),G1 (n:=(X3 a 1:Int) % 64*64) (by omega) (by omega),G1 (n:=_+(X3 a 1:Int) % 64*64) (by omega) (by omega),G1 (by omega) (by omega)]
   unfold Jq;omega
  refine V0 hs ?_
  have hx1: ∀{w':World} {K:Value→World→Prop},K (.int .u8 (X3 a 1)) w'→H2 P T.a (S a) (.int .i64 1) w' K:=fun hK=>Nh (i:=1) hl1 hK
  have hx2: ∀{w':World} {K:Value→World→Prop},K (.int .u8 (X3 a 2)) w'→H2 P T.a (S a) (.int .i64 2) w' K:=fun hK=>Nh (i:=2) hl2 hK
  (repeat (apply J3;(· intros;(repeat (rename_i hx;subst hx));(repeat' (first | (with_reducible exact Y1 rfl) | (with_reducible exact Ud (Stp.bel (by (repeat (first | exact Stp.refl (by (first | assumption | exact Stp.sat (by assumption) | exact Hst.sat (by assumption))) | assumption | refine Stp.trans ?_ (by first | assumption | exact Hst.stp (by assumption)))))) rfl) | (with_reducible intro _) | (simp only[↓M2,M2,Mb,reduceIte]) | (with_reducible refine X0k au ?_) | (with_reducible refine Q4b au ?_) | (with_reducible refine hx1 ?_) | (with_reducible refine hx2 ?_) | (with_reducible show Q2 _ _ _ _ _;first | refine Y0 aS aL aR ?_ | refine Z1 aS aL aR ?_ | refine ld aS aL aR ?_) | (with_reducible show indexAddr _ _ _ _ _ _;refine U9 aL au ?_) | (with_reducible show X5 _ _ _ _ _ _ _ _;refine X0 aL ?_) | (with_reducible show Ww _ _ _ _ _ _;refine V6 aR ?_) | (with_reducible show pick _ _ _ _ _ _;refine Vc ?_) | (apply Lx;intro hh;(try simp only[hh,reduceIte,↓M2,M2,Mb,reduceIte]))));done)))
  (intros;(repeat (rename_i hx;subst hx));(try simp only[↓M2,M2,Mb,reduceIte]))
  rename_i w2 hb2
  simp only[hw]
  have hb:=hb2.stp.bel
  by_cases e1:2048≤Jq a
  ·by_cases e2:Jq a<55296
   ·simp only[(show decide ((2048:Int)≤(Jq a:Int))=true by rw[decide_eq_true_eq];omega),(show decide ((Jq a:Int)<55296)=true by rw[decide_eq_true_eq];omega),↓M1,M1,Mb,reduceIte]
    exact hK 3 _ hb (by rw[hcm,if_pos ⟨e1, .inl e2⟩])
   ·by_cases e3:57343<Jq a
    ·simp only[(show decide ((2048:Int)≤(Jq a:Int))=true by rw[decide_eq_true_eq];omega),(show decide ((Jq a:Int)<55296)=false by rw[decide_eq_false_iff_not];omega),(show decide ((57343:Int)<(Jq a:Int))=true by rw[decide_eq_true_eq];omega),↓M1,M1,Mb,reduceIte]
     exact hK 3 _ hb (by rw[hcm,if_pos ⟨e1, .inr e3⟩])
    ·simp only[(show decide ((2048:Int)≤(Jq a:Int))=true by rw[decide_eq_true_eq];omega),(show decide ((Jq a:Int)<55296)=false by rw[decide_eq_false_iff_not];omega),(show decide ((57343:Int)<(Jq a:Int))=false by rw[decide_eq_false_iff_not];omega),↓M1,M1,Mb,reduceIte]
     exact ⟨hb,by rw[hcm,if_neg (by omega)]⟩
  ·simp only[(show decide ((2048:Int)≤(Jq a:Int))=false by rw[decide_eq_false_iff_not];omega),↓M1,M1,Mb,reduceIte]
   exact ⟨hb,by rw[hcm,if_neg (by omega)]⟩
 by_cases c4:X3 a 0<245
 ·have i1:decide ((194:Int)≤X3 a 0)=true:=by rw[decide_eq_true_eq];omega
  have n1:decide (194≤X3 a 0)=true:=by rw[decide_eq_true_eq];omega
  have i2:decide ((X3 a 0:Int)<224)=false:=by rw[decide_eq_false_iff_not];omega
  have n2:decide (X3 a 0<224)=false:=by rw[decide_eq_false_iff_not];omega
  have i3:decide ((224:Int)≤X3 a 0)=true:=by rw[decide_eq_true_eq];omega
  have n3:decide (224≤X3 a 0)=true:=by rw[decide_eq_true_eq];omega
  have i4:decide ((X3 a 0:Int)<240)=false:=by rw[decide_eq_false_iff_not];omega
  have n4:decide (X3 a 0<240)=false:=by rw[decide_eq_false_iff_not];omega
  have i5:decide ((240:Int)≤X3 a 0)=true:=by rw[decide_eq_true_eq];omega
  have n5:decide (240≤X3 a 0)=true:=by rw[decide_eq_true_eq];omega
  have i6:decide ((X3 a 0:Int)<245)=true:=by rw[decide_eq_true_eq];omega
  have n6:decide (X3 a 0<245)=true:=by rw[decide_eq_true_eq];omega
  simp only[i1,i2,i3,i4,i5,i6,↓M1,M1,Mb,reduceIte]
  refine Wh (i:=1) ?_
  cases A1:H8 a.length 1 (X3 a 1) with
  | false=>simp only[↓M1,M1,Mb,reduceIte];exact ⟨Below.refl _ _,by rw[hcm];simp only[A1,n1,n2,n3,n4,n5,n6,Bool.and_true,Bool.true_and,Bool.false_and,Bool.and_false,Bool.false_eq_true,if_true,if_false,reduceIte]⟩
  | true=>
  simp only[↓M1,M1,Mb,reduceIte]
  refine Wh (i:=2) ?_
  cases A2:H8 a.length 2 (X3 a 2) with
  | false=>simp only[↓M1,M1,Mb,reduceIte];exact ⟨Below.refl _ _,by rw[hcm];simp only[A1,A2,n1,n2,n3,n4,n5,n6,Bool.and_true,Bool.true_and,Bool.false_and,Bool.and_false,Bool.false_eq_true,if_true,if_false,reduceIte]⟩
  | true=>
  simp only[↓M1,M1,Mb,reduceIte]
  refine Wh (i:=3) ?_
  cases A3:H8 a.length 3 (X3 a 3) with
  | false=>simp only[↓M1,M1,Mb,reduceIte];exact ⟨Below.refl _ _,by rw[hcm];simp only[A1,A2,A3,n1,n2,n3,n4,n5,n6,Bool.and_true,Bool.true_and,Bool.false_and,Bool.and_false,Bool.false_eq_true,if_true,if_false,reduceIte]⟩
  | true=>
  simp only[↓M1,M1,Mb,reduceIte]
  simp only[A1,A2,A3,n1,n2,n3,n4,n5,n6,Bool.and_true,Bool.true_and,Bool.false_and,Bool.and_false,Bool.false_eq_true,if_true,if_false,reduceIte] at hcm
  have hl1:1<a.length:=by unfold H8 at A1;simp only[Bool.and_eq_true,decide_eq_true_eq] at A1;exact A1.1.1
  have hl2:2<a.length:=by unfold H8 at A2;simp only[Bool.and_eq_true,decide_eq_true_eq] at A2;exact A2.1.1
  have hl3:3<a.length:=by unfold H8 at A3;simp only[Bool.and_eq_true,decide_eq_true_eq] at A3;exact A3.1.1
  have hw:IntKind.i64.wrap (IntKind.i64.wrap (IntKind.i64.wrap (IntKind.i64.wrap ((X3 a 0:Int) % 8*262144)+IntKind.i64.wrap ((X3 a 1:Int) % 64*4096))+IntKind.i64.wrap ((X3 a 2:Int) % 64*64))+(X3 a 3:Int) % 64)=((Ca a:Nat):Int):=by
   rw[G1 (n:=(X3 a 0:Int) % 8*262144) (by omega) (by omega),G1 (n:=(X3 a 1:Int) % 64*4096) (by omega) (by omega),G1 (n:=(X3 a 2:Int) % 64*64) (by omega) (by omega),G1 (n:=_+(X3 a 1:Int) % 64*4096) (by omega) (by omega),G1 (n:=_+(X3 a 2:Int) % 64*64) (by omega) (by omega),G1 (by omega) (by omega)]
   unfold Ca;omega
  refine V0 hs ?_
  have hx1: ∀{w':World} {K:Value→World→Prop},K (.int .u8 (X3 a 1)) w'→H2 P T.a (S a) (.int .i64 1) w' K:=fun hK=>Nh (i:=1) hl1 hK
  have hx2: ∀{w':World} {K:Value→World→Prop},K (.int .u8 (X3 a 2)) w'→H2 P T.a (S a) (.int .i64 2) w' K:=fun hK=>Nh (i:=2) hl2 hK
  have hx3: ∀{w':World} {K:Value→World→Prop},K (.int .u8 (X3 a 3)) w'→H2 P T.a (S a) (.int .i64 3) w' K:=fun hK=>Nh (i:=3) hl3 hK
  (repeat (apply J3;(· intros;(repeat (rename_i hx;subst hx));(repeat' (first | (with_reducible exact Y1 rfl) | (with_reducible exact Ud (Stp.bel (by (repeat (first | exact Stp.refl (by (first | assumption | exact Stp.sat (by assumption) | exact Hst.sat (by assumption))) | assumption | refine Stp.trans ?_ (by first | assumption | exact Hst.stp (by assumption)))))) rfl) | (with_reducible intro _) | (simp only[↓M2,M2,Mb,reduceIte]) | (with_reducible refine X0k au ?_) | (with_reducible refine Q4b au ?_) | (with_reducible refine hx1 ?_) | (with_reducible refine hx2 ?_) | (with_reducible refine hx3 ?_) | (with_reducible show Q2 _ _ _ _ _;first | refine Y0 aS aL aR ?_ | refine Z1 aS aL aR ?_ | refine ld aS aL aR ?_) | (with_reducible show indexAddr _ _ _ _ _ _;refine U9 aL au ?_) | (with_reducible show X5 _ _ _ _ _ _ _ _;refine X0 aL ?_) | (with_reducible show Ww _ _ _ _ _ _;refine V6 aR ?_) | (with_reducible show pick _ _ _ _ _ _;refine Vc ?_) | (apply Lx;intro hh;(try simp only[hh,reduceIte,↓M2,M2,Mb,reduceIte]))));done)))
  (intros;(repeat (rename_i hx;subst hx));(try simp only[↓M2,M2,Mb,reduceIte]))
  rename_i w2 hb2
  simp only[hw]
  have hb:=hb2.stp.bel
  by_cases e1:65536≤Ca a
  ·by_cases e2:Ca a≤1114111
   ·simp only[(show decide ((65536:Int)≤(Ca a:Int))=true by rw[decide_eq_true_eq];omega),(show decide ((Ca a:Int)≤1114111)=true by rw[decide_eq_true_eq];omega),↓M1,M1,Mb,reduceIte]
    exact hK 4 _ hb (by rw[hcm,if_pos ⟨e1,e2⟩])
   ·simp only[(show decide ((65536:Int)≤(Ca a:Int))=true by rw[decide_eq_true_eq];omega),(show decide ((Ca a:Int)≤1114111)=false by rw[decide_eq_false_iff_not];omega),↓M1,M1,Mb,reduceIte]
    exact ⟨hb,by rw[hcm,if_neg (by omega)]⟩
  ·simp only[(show decide ((65536:Int)≤(Ca a:Int))=false by rw[decide_eq_false_iff_not];omega),↓M1,M1,Mb,reduceIte]
   exact ⟨hb,by rw[hcm,if_neg (by omega)]⟩
 have i1:decide ((194:Int)≤X3 a 0)=true:=by rw[decide_eq_true_eq];omega
 have n1:decide (194≤X3 a 0)=true:=by rw[decide_eq_true_eq];omega
 have i2:decide ((X3 a 0:Int)<224)=false:=by rw[decide_eq_false_iff_not];omega
 have n2:decide (X3 a 0<224)=false:=by rw[decide_eq_false_iff_not];omega
 have i3:decide ((224:Int)≤X3 a 0)=true:=by rw[decide_eq_true_eq];omega
 have n3:decide (224≤X3 a 0)=true:=by rw[decide_eq_true_eq];omega
 have i4:decide ((X3 a 0:Int)<240)=false:=by rw[decide_eq_false_iff_not];omega
 have n4:decide (X3 a 0<240)=false:=by rw[decide_eq_false_iff_not];omega
 have i5:decide ((240:Int)≤X3 a 0)=true:=by rw[decide_eq_true_eq];omega
 have n5:decide (240≤X3 a 0)=true:=by rw[decide_eq_true_eq];omega
 have i6:decide ((X3 a 0:Int)<245)=false:=by rw[decide_eq_false_iff_not];omega
 have n6:decide (X3 a 0<245)=false:=by rw[decide_eq_false_iff_not];omega
 simp only[i1,i2,i3,i4,i5,i6,↓M1,M1,Mb,reduceIte]
 exact ⟨Below.refl _ _,by rw[hcm];simp only[n1,n2,n3,n4,n5,n6,Bool.and_true,Bool.true_and,Bool.false_and,Bool.and_false,Bool.false_eq_true,if_true,if_false,reduceIte]⟩)
theorem X0X {s:Q8} (t:s.length≤Y9) (q:X4 w σ) (h: ∀w',Below w.heap.size w w'→K (.bool (Lib.validD s)) w'):Q0 P F.bH [S s] w K:=Pv (by
 unfold Ly
 refine Kn (fun f x w'=> ∃r,x=S r∧r.length≤f∧r.length≤Y9∧Below w.heap.size w w'∧Lib.validD s=Lib.validGoD f r) s.length ⟨s,rfl,Nat.le_refl _,t,Below.refl _ _,rfl⟩ ?_
 rintro m f x d w1 ⟨r,rfl,p,u,b,i⟩ l
 refine I5 ?_
 by_cases a:r=[]
 ·have e:decide (r=[])=true:=by simpa using a
  simp only[e,↓M1,M1,Mb,reduceIte]
  subst a
  have:Lib.validGoD f []=true:=by cases f<;>simp[Lib.validGoD]
  rw[i,this] at h
  exact h _ b
 ·have e:decide (r=[])=false:=by simpa using a
  simp only[e,↓M1,M1,Mb,reduceIte]
  have o:0<r.length:=List.length_pos_iff.2 a
  obtain ⟨f,rfl⟩: ∃g,f=g+1:=⟨f-1,by omega⟩
  rw[Q9c a] at i
  refine X1y a (q.below b) fun z k=>?_
  have c:=b.trans (k.mono b.size)
  refine Vo ?_
  by_cases j:Zl r=0
  ·have n:decide ((Zl r:Int)=0)=true:=by rw[decide_eq_true_eq];omega
   simp only[n,↓M1,M1,Mb,reduceIte]
   rw[i,if_pos j] at h
   exact h _ c
  ·have n:decide ((Zl r:Int)=0)=false:=by rw[decide_eq_false_iff_not];omega
   simp only[n,↓M1,M1,Mb,reduceIte]
   obtain ⟨v,y⟩:=Q9Q a j
   rw[Li X8 (by omega) (by omega)]
   rw[if_neg j] at i
   refine l f _ _ (by omega) ⟨r.drop (Zl r),by simp,by rw[List.length_drop];omega,by rw[List.length_drop];omega,c,i⟩)
end Go.Proofs.YtfppjenblllfaaaGreatDoor

namespace Go.Proofs.YtfppjenblllfaaaGreatDoor
open Go.Emb Go.RowKit Go.Kd Go.Hm
variable {w : World} {K : Value → World → Prop} {σ : Q4}
theorem Q65 {σ:Q4}: ∀(xs:List Q8),(∀x∈xs,x.length≤Y9)→Pm X7 σ (xs.map S) xs
 | [],_=>trivial
 | x::r,h=>⟨⟨rfl,h x (by simp)⟩,Q65 r fun y a=>h y (by simp[a])⟩
def Jy:List Q8:=Zy.map (·.name)
set_option maxRecDepth 100000 in
theorem X2M (d:X4 w σ) (h: ∀v w' a,Stp w σ w' a→Sl 1 X7 a v Jy→K v w'):Q0 P F.bT [] w K:=Q0I (by
 unfold Ev
 exact O7 (R:=X7) (sz:=1) d (Jy.map S) Jy rfl rfl (by intro v b;obtain ⟨x,_,rfl⟩:=List.mem_map.1 b;rfl) rfl (Q65 _ (by decide)) fun v w' a c b=>h v w' a c b)
theorem Q9u {a:Q8} (A:X4 w σ) (h: ∀w' C,Stp w σ w' C→K (I (L2 (T3 a))) w'):Q0 P F.bn [S a] w K:=Gk (by
 unfold Wa
 refine X2M A fun v w1 σ1 n l=>?_
 have r:T3 a=Jy.findIdx? fun x=>decide (x=a):=by
  unfold T3 Jy
  rw[List.findIdx?_map];rfl
 have q: ∀o,T3 a=o→K (I (L2 o)) w1:=fun o e=>by rw[←e];exact h _ _ n
 rw[r] at q
 have p:Jy.length=42:=rfl
 generalize Jy=f at l q p
 refine U3 f.length (fun k w'=>w'=w1∧ ∀j (i:j<f.length),j<k→ ¬f[j]=a) ⟨rfl,fun j _ h=>by omega⟩ fun k E d D y=>?_
 obtain ⟨z,c⟩:=y
 subst z
 refine X0 l ?_
 refine Z3 ?_
 refine Q5 (fun s=>?_) (fun s=>?_)
 ·have b:k<f.length:=by simpa using s
  refine U9 l b ?_
  obtain ⟨t,_⟩:=l.elS b
  refine Y0 n.sat t rfl ?_
  refine Ni ?_
  refine Q5 (fun g=>?_) (fun g=>?_)
  ·have g:f[k]=a:=by simpa using g
   exact q (some k) (by
    rw[List.findIdx?_eq_some_iff_getElem]
    exact ⟨b,by simpa using g,fun j i=>by simpa using c j (by omega) i⟩)
  ·have g: ¬f[k]=a:=by simpa using g
   (try simp only[↓M1,M1,Mb,reduceIte])
   refine Y5 l.max b ⟨rfl,fun j i B=>?_⟩
   by_cases e:j=k
   ·subst e;exact g
   ·exact c j i (by omega)
 ·have b: ¬k<f.length:=by simpa using s
  exact q none (by
   rw[List.findIdx?_eq_none_iff]
   intro m u
   obtain ⟨j,i,rfl⟩:=List.getElem_of_mem u
   simpa using c j i (by omega)))
theorem X2E {o:Option Nat}:decide (L2 o<0)= !o.isSome:=by
 cases o with
 | none=>rfl
 | some i=>
  have: ¬(i:Int)<0:=by omega
  exact decide_eq_false this
def Lt (a:Q8):Bool:=decide (a=[105,110,116])||decide (a=[108,111,97,100])||decide (a=[115,116,111,114,101])||decide (a=[106,117,109,112])||decide (a=[98,114,97,110,99,104])
def Vm (a:Q8):Bool:=decide (a=[119,111,114,100])||decide (a=[110,101,119])||decide (a=[103,101,116])||decide (a=[112,117,116])||decide (a=[99,97,108,108])||decide (a=[97,114,114,97,121])||decide (a=[105,115])||decide (a=[99,97,115,116])
theorem X1E (a:Q8):takes a=(Lt a,Vm a,(T3 a).isSome):=by
 unfold takes
 cases g:T3 a with
 | none=>
  have c:=List.findIdx?_eq_none_iff.1 g
  have d: ∀x∈Jy,¬x=a:=by
   intro x f
   obtain ⟨o,l,rfl⟩:=List.mem_map.1 f
   have:=c o l
   simpa using this
  have b: ∀x∈Jy,decide (a=x)=false:=fun x f=>by rw[decide_eq_false_iff_not];exact fun e=>d x f e.symm
  have p:Lt a=false:=by
   unfold Lt
   rw[b _ (by decide),b _ (by decide),b _ (by decide),b _ (by decide),b _ (by decide)];rfl
  have k:Vm a=false:=by
   unfold Vm
   rw[b _ (by decide),b _ (by decide),b _ (by decide),b _ (by decide),b _ (by decide),b _ (by decide),b _ (by decide),b _ (by decide)];rfl
  simp[p,k]
 | some i=>
  obtain ⟨h,j,_⟩:=List.findIdx?_eq_some_iff_getElem.1 g
  have q:Zy[i].name=a:=by simpa using j
  have n:Zy.getD i ⟨[],false,false⟩=Zy[i]:=by rw[List.getD_eq_getElem?_getD,List.getElem?_eq_getElem h];rfl
  have c: ∀o∈Zy,o.number=Lt o.name∧o.text=Vm o.name:=by decide
  obtain ⟨m,r⟩:=c _ (List.getElem_mem h)
  simp only[n,Option.isSome_some]
  rw[m,r,q]
def Lg (a:Q8):Int:=if Lt a then 1 else if Vm a then 2 else if (T3 a).isSome then 0 else-1
theorem Q59 {a:Q8} (f:X4 w σ) (h: ∀w' l,Stp w σ w' l→K (I (Lg a)) w'):Q0 P F.aH [S a] w K:=Pd (by
 unfold Mc
 refine Zj (fun x w'=>w'=w∧x= .bool (Lt a)) ?_ (fun x d w' e=>?_)
 ·unfold Lt
  simp only[↓M1,M1,Mb,reduceIte]
  repeat' (refine Q5 (fun hh=>?_) (fun hh=>?_))
  all_goals (refine ⟨by trivial,?_⟩;congr 1;simp_all)
 ·obtain ⟨rfl,rfl⟩:=e
  cases g:Lt a with
  | true=>
   (try simp only[↓M1,M1,Mb,reduceIte])
   have:=h _ _ (Stp.refl f)
   unfold Lg at this
   simpa [g] using this
  | false=>
   (try simp only[↓M1,M1,Mb,reduceIte])
   refine Zj (fun x b=>b=w'∧x= .bool (Vm a)) ?_ (fun x d b e=>?_)
   ·unfold Vm
    simp only[↓M1,M1,Mb,reduceIte]
    repeat' (refine Q5 (fun hh=>?_) (fun hh=>?_))
    all_goals (refine ⟨by trivial,?_⟩;congr 1;simp_all)
   ·obtain ⟨rfl,rfl⟩:=e
    cases j:Vm a with
    | true=>
     (try simp only[↓M1,M1,Mb,reduceIte])
     have:=h _ _ (Stp.refl f)
     unfold Lg at this
     simpa [g,j] using this
    | false=>
     (try simp only[↓M1,M1,Mb,reduceIte])
     refine Q9u f fun w1 σ1 c=>?_
     have:=h _ _ c
     unfold Lg at this
     simp only[g,j,Bool.false_eq_true,if_false] at this
     simp only[X2E,↓M1,M1,Mb,reduceIte]
     cases k:T3 a with
     | none=>rw[k] at this;simp only[Option.isSome_none,↓M1,M1,Mb,reduceIte];simpa using this
     | some i=>rw[k] at this;simp only[Option.isSome_some,↓M1,M1,Mb,reduceIte];simpa using this)
theorem Q6N (a:Q8):decide (Lg a<0)= !(takes a).2.2∧decide (Lg a=1)=(takes a).1∧decide (Lg a=2)=(takes a).2.1:=by
 rw[X1E]
 have f:Lt a=true→Vm a=false∧(T3 a).isSome=true:=by
  intro h
  unfold Lt at h
  simp only[Bool.or_eq_true,decide_eq_true_eq] at h
  rcases h with (((h | h) | h) | h) | h<;>(subst h;decide)
 have g:Vm a=true→(T3 a).isSome=true:=by
  intro h
  unfold Vm at h
  simp only[Bool.or_eq_true,decide_eq_true_eq] at h
  rcases h with ((((((h | h) | h) | h) | h) | h) | h) | h<;>(subst h;decide)
 unfold Lg
 cases d:Lt a with
 | true=>obtain ⟨c,e⟩:=f d;rw[c,e];decide
 | false=>
  cases b:Vm a with
  | true=>rw[g b];decide
  | false=>cases (T3 a).isSome<;>decide
theorem X5g (s:Q8) (c:UInt8):decide (0≤Lib.indexByte s c)=s.any fun b=>decide (b=c):=by
 induction s with
 | nil=>rfl
 | cons b r f=>
  simp only[Lib.indexByte,List.any_cons,←f]
  by_cases e:b=c
  ·simp[e]
  ·have a:(b==c)=false:=by simpa using e
   have g:=Lib.indexByte_ge r c
   simp only[a,e,decide_false,Bool.false_or,Bool.false_eq_true,if_false]
   by_cases d:Lib.indexByte r c= -1
   ·simp[d]
   ·have:(Lib.indexByte r c== -1)=false:=by simpa using d
    simp only[this,Bool.false_eq_true,if_false]
    rw[Bool.eq_iff_iff,decide_eq_true_eq,decide_eq_true_eq];omega
def JB (w:World) (σ:Q4) (b:Bool) (x:Value) (w':World):Prop:= ∃a,Stp w σ w' a∧x= .bool b
theorem JB.mk {w w':World} {σ a:Q4} {b:Bool} (h:Stp w σ w' a):JB w σ b (.bool b) w':=⟨a,h,rfl⟩
theorem JB.of {w w':World} {σ a:Q4} {b c:Bool} (h:Stp w σ w' a) (e:c=b):JB w σ b (.bool c) w':=⟨a,h,by rw[e]⟩
theorem X3K {s:Q8} {n:Nat} (h:n<s.length):decide ((X3 s n:Int)=10)=decide (s[n]=10):=by
 unfold X3
 rw[List.getD_eq_getElem?_getD,List.getElem?_eq_getElem h,Bool.eq_iff_iff,decide_eq_true_eq,decide_eq_true_eq]
 simp only[Option.getD_some]
 rw[←UInt8.toNat_inj]
 constructor
 ·intro e;have:s[n].toNat=10:=by omega
  rw[this];rfl
 ·intro e;rw[e];rfl
theorem Uf {α:Type} {xs:List α} {p:α→Bool} {n:Nat} (h:n<xs.length):(xs.take (n+1)).all p=((xs.take n).all p&&p xs[n]):=by
 rw[List.take_add_one,List.getElem?_eq_getElem h,List.all_append];simp
set_option maxHeartbeats 2000000 in
theorem Q9B {i:Ins} {cs:List Value} (hs:X4 w σ) (hi:G9 σ i cs) (h: ∀w' m,Stp w σ w' m→K (I (O9 i)) w'):Q0 P F.bG [.agg cs.toArray] w K:=Kb (by
 obtain ⟨rfl,h1,h2,h3⟩:=hi
 unfold Lq
 refine Z0 hs fun q w1 σ1 W hq=>?_
 have R:=W.sat
 (try simp only[↓M1,M1,Mb,reduceIte])
 refine ld R hq rfl ?_
 refine Q59 R fun w2 σ2 X=>?_
 obtain ⟨t1,Q,H⟩:=Q6N i.op
 have f:=W.trans X
 have g:=hq.up X
 have e:=f.sat
 have p:i.s.length≤140737488355328:=by simp only[Y9] at h3;omega
 simp only[t1,↓M1,M1,Mb,reduceIte]
 unfold O9 at h
 cases e1:(takes i.op).2.2 with
 | false=>
  simp only[e1,Bool.not_false,if_true] at h
  (try simp only[↓M1,M1,Mb,reduceIte])
  exact h _ _ f
 | true=>
 simp only[e1,Bool.not_true,Bool.false_eq_true,if_false] at h
 simp only[Q,H,↓M1,M1,Mb,reduceIte]
 have k: ∀(b:Bool) (w':World) (m:Q4),Stp w σ w' m→b=(!((!(takes i.op).1&&decide (i.n≠0))||(!(takes i.op).2.1&&decide (i.s≠[]))||((takes i.op).2.1&& !txt i.op i.s)))→
  X1 (.bool (!b)) (K (.int .i64 41) w') (K (.int .i64 0) w'):=by
  intro b w' m u C
  subst C
  rw[Bool.not_not]
  cases C:((!(takes i.op).1&&decide (i.n≠0))||(!(takes i.op).2.1&&decide (i.s≠[]))||((takes i.op).2.1&& !txt i.op i.s)) with
  | true=>simp only[C,if_true] at h;(try simp only[↓M1,M1,Mb,reduceIte]);exact h _ _ u
  | false=>simp only[C,Bool.false_eq_true,if_false] at h;(try simp only[↓M1,M1,Mb,reduceIte]);exact h _ _ u
 clear h
 have ad:(takes i.op).2.1=true→(takes i.op).1=false:=by
  intro V
  rw[←Q,decide_eq_false_iff_not]
  rw[←H,decide_eq_true_eq] at V
  omega
 cases B:(takes i.op).2.1 with
 | false=>
  rw[B] at k H
  cases y:(takes i.op).1 with
  | true=>
   rw[y] at k Q
   (try simp only[↓M1,M1,Mb,reduceIte])
   simp only[H,↓M1,M1,Mb,reduceIte]
   refine ld e g rfl ?_
   (try simp only[↓M1,M1,Mb,reduceIte])
   refine W2 ?_
   intro d
   simp only[↓M1,M1,Mb,reduceIte]
   exact k _ _ _ f (by simp)
  | false=>
   rw[y] at k Q
   (try simp only[↓M1,M1,Mb,reduceIte])
   refine ld e g rfl ?_
   (try simp only[↓M1,M1,Mb,reduceIte])
   by_cases N:i.n=0
   ·have d0:decide (i.n=0)=true:=by simpa using N
    simp only[d0,H,↓M1,M1,Mb,reduceIte]
    refine ld e g rfl ?_
    (try simp only[↓M1,M1,Mb,reduceIte])
    refine W2 ?_
    intro d
    simp only[↓M1,M1,Mb,reduceIte]
    exact k _ _ _ f (by simp[N])
   ·have d0:decide (i.n=0)=false:=by simpa using N
    simp only[d0,↓M1,M1,Mb,reduceIte]
    refine W2 ?_
    intro d
    have E:=k false _ _ f (by simp[N])
    (try simp only[↓M1,M1,Mb,reduceIte] at E⊢)
    exact E
 | true=>
  have y:=ad B
  rw[B,y] at k
  rw[B] at H
  rw[y] at Q⊢
  (try simp only[↓M1,M1,Mb,reduceIte])
  refine ld e g rfl ?_
  (try simp only[↓M1,M1,Mb,reduceIte])
  have o: ∀(b c:Bool) (w':World) (m:Q4),decide (i.n=0)=b→Stp w σ w' m→c=(b&&txt i.op i.s)→X1 (.bool (!c)) (K (.int .i64 41) w') (K (.int .i64 0) w'):=by
   intro b c w' m C u t
   refine k c w' m u ?_
   rw[t,←C]
   by_cases N:i.n=0<;>simp[N]
  clear k
  cases C:decide (i.n=0) with
  | false=>
   have v:=fun w' m u=>o false false w' m C u rfl
   clear o
   simp only[H,↓M1,M1,Mb,reduceIte]
   refine Zj (JB w σ false) ?_ (fun x d w' V=>?_)
   ·refine ld e g rfl ?_
    (try simp only[↓M1,M1,Mb,reduceIte])
    refine Q5 (fun hh=>?_) (fun hh=>?_)
    ·refine E2 (a:=Value.bool false) i.s.length (fun n x w'=>w'=w2∧x=Value.bool false) ⟨rfl,rfl⟩ fun n x w3 d hn l=>?_
     obtain ⟨A,rfl⟩:=l
     subst A
     (try simp only[↓M1,M1,Mb,reduceIte])
     refine ld e g rfl ?_
     (try simp only[↓M1,M1,Mb,reduceIte])
     refine Q5 (fun t=>?_) (fun t=>?_)
     ·have j:n<i.s.length:=by simpa using t
      (try simp only[↓M1,M1,Mb,reduceIte])
      exact J0 (by omega) j ⟨rfl,rfl⟩
     ·exact .mk f
    refine Q5 (fun hh=>?_) (fun hh=>?_)
    ·exact .mk f
    refine Zj (fun x w'=>w'=w2∧ ∃b:Bool,x=Value.bool b) ?_ (fun z d w' hz=>?_)
    ·refine Q5 (fun hh=>?_) (fun hh=>?_)
     ·exact ⟨rfl,_,rfl⟩
     ·exact ⟨rfl,_,rfl⟩
    obtain ⟨A,b,rfl⟩:=hz
    subst A
    refine Q5 (fun hh=>?_) (fun hh=>?_)
    ·exact .mk f
    refine Q5 (fun hh=>?_) (fun hh=>?_)
    ·exact .mk f
    refine ld e g rfl ?_
    refine Q4t i.s p fun w4 r=>?_
    by_cases M:(G2 i.s).2.2=true
    ·simp only[M,if_true,↓M1,M1,Mb,reduceIte]
     exact .mk (f.trans (Stp.of_below e r))
    ·simp only[M,if_false,↓M1,M1,Mb,reduceIte]
     exact .mk (f.trans (Stp.of_below e r))
   ·obtain ⟨m,u,rfl⟩:=V
    have E:=v w' m u
    (try simp only[↓M1,M1,Mb,reduceIte] at E⊢)
    exact E
  | true=>
   have v:=fun c w' m u t=>o true c w' m C u t
   clear o
   simp only[H,↓M1,M1,Mb,reduceIte]
   refine Zj (JB w σ (txt i.op i.s)) ?_ (fun x d w' V=>?_)
   ·refine ld e g rfl ?_
    (try simp only[↓M1,M1,Mb,reduceIte])
    unfold txt
    by_cases o1:i.op=[119,111,114,100]
    ·simp only[if_pos o1,decide_eq_true o1,↓M1,M1,Mb,reduceIte]
     refine ld e g rfl ?_
     (try simp only[↓M1,M1,Mb,reduceIte])
     have ag:decide ((i.s.length:Int)≤64)=decide (i.s.length≤64):=by rw[Bool.eq_iff_iff,decide_eq_true_eq,decide_eq_true_eq];omega
     rw[ag,X5g,List.not_any_eq_all_not]
     cases ao:decide (i.s.length≤64) with
     | false=>
      (try simp only[↓M1,M1,Mb,reduceIte])
      refine E2 (a:=Value.bool false) i.s.length (fun n x w'=>w'=w2∧x=Value.bool false) ⟨rfl,rfl⟩ fun n x w3 d hn l=>?_
      obtain ⟨A,rfl⟩:=l
      subst A
      (try simp only[↓M1,M1,Mb,reduceIte])
      refine ld e g rfl ?_
      (try simp only[↓M1,M1,Mb,reduceIte])
      refine Q5 (fun t=>?_) (fun t=>?_)
      ·have j:n<i.s.length:=by simpa using t
       (try simp only[↓M1,M1,Mb,reduceIte])
       exact J0 (by omega) j ⟨rfl,rfl⟩
      ·exact .of f (by simp)
     | true=>
      (try simp only[↓M1,M1,Mb,reduceIte])
      refine ld e g rfl ?_
      refine X0X h3 e fun w4 r=>?_
      have J:=Stp.of_below e r
      have U:=g.up J
      have O:=J.sat
      have D:=f.trans J
      (try simp only[↓M1,M1,Mb,reduceIte])
      refine E2 (a:=Value.bool (Lib.validD i.s)) i.s.length (fun n x w'=>w'=w4∧x=Value.bool (Lib.validD i.s&&(i.s.take n).all fun c=> !decide (c=10))) ⟨rfl,by simp⟩ fun n x w3 d hn l=>?_
      obtain ⟨A,rfl⟩:=l
      subst A
      (try simp only[↓M1,M1,Mb,reduceIte])
      refine ld O U rfl ?_
      (try simp only[↓M1,M1,Mb,reduceIte])
      refine Q5 (fun t=>?_) (fun t=>?_)
      ·have j:n<i.s.length:=by simpa using t
       have L:(Lib.validD i.s&&(i.s.take (n+1)).all fun c=> !decide (c=10))=((Lib.validD i.s&&(i.s.take n).all fun c=> !decide (c=10))&& !decide (i.s[n]=10)):=by rw[Uf j,Bool.and_assoc]
       generalize ah:(Lib.validD i.s&&(i.s.take n).all fun c=> !decide (c=10))=ae at L⊢
       cases ae with
       | false=>(try simp only[↓M1,M1,Mb,reduceIte]);exact J0 (by omega) j ⟨rfl,by rw[L];rfl⟩
       | true=>
        (try simp only[↓M1,M1,Mb,reduceIte])
        refine ld O U rfl ?_
        refine Nh j ?_
        simp only[X3K j,↓M1,M1,Mb,reduceIte]
        exact J0 (by omega) j ⟨rfl,by rw[L];rfl⟩
      ·have j: ¬n<i.s.length:=by simpa using t
       rw[List.take_of_length_le (by omega)]
       exact .of D (by simp)
    ·simp only[if_neg o1,decide_eq_false o1,↓M1,M1,Mb,reduceIte]
     by_cases o2:i.op=[110,101,119]
     ·simp only[if_pos o2,decide_eq_true o2,↓M1,M1,Mb,reduceIte]
      refine ld e g rfl ?_
      refine Xw i.s p ?_
      (try simp only[↓M1,M1,Mb,reduceIte])
      exact .mk f
     ·simp only[if_neg o2,decide_eq_false o2,↓M1,M1,Mb,reduceIte]
      refine Zj (fun x w'=>w'=w2∧x=Value.bool (decide (i.op=[105,115]∨i.op=[99,97,115,116]))) ?_ (fun z d w' hz=>?_)
      ·refine Q5 (fun hh=>?_) (fun hh=>?_)
       ·exact ⟨rfl,by simp_all⟩
       ·exact ⟨rfl,by simp_all⟩
      obtain ⟨A,rfl⟩:=hz
      subst A
      by_cases Z:i.op=[105,115]∨i.op=[99,97,115,116]
      ·simp only[if_pos Z,decide_eq_true Z,↓M1,M1,Mb,reduceIte]
       refine ld e g rfl ?_
       refine We i.s p ?_
       cases hr:right i.s with
       | false=>(try simp only[↓M1,M1,Mb,reduceIte]);exact .mk f
       | true=>
        (try simp only[↓M1,M1,Mb,reduceIte])
        refine ld e g rfl ?_
        refine Q0v i.s ?_
        (try simp only[↓M1,M1,Mb,reduceIte])
        exact .mk f
      ·simp only[if_neg Z,decide_eq_false Z,↓M1,M1,Mb,reduceIte]
       by_cases Y:i.op=[97,114,114,97,121]
       ·simp only[if_pos Y,decide_eq_true Y,↓M1,M1,Mb,reduceIte]
        refine ld e g rfl ?_
        refine We i.s p ?_
        cases hr:right i.s with
        | false=>(try simp only[↓M1,M1,Mb,reduceIte]);exact .mk f
        | true=>
         (try simp only[↓M1,M1,Mb,reduceIte])
         refine ld e g rfl ?_
         refine Q2A i.s p ?_
         (try simp only[↓M1,M1,Mb,reduceIte])
         have e3:decide (((base i.s).2:Int)<3)=decide (Q2O i.s<3):=by
          unfold Q2O;rw[if_pos hr,Bool.eq_iff_iff,decide_eq_true_eq,decide_eq_true_eq];omega
         rw[e3]
         exact .mk f
       ·simp only[if_neg Y,decide_eq_false Y,↓M1,M1,Mb,reduceIte]
        refine ld e g rfl ?_
        refine Q4t i.s p fun w4 r=>?_
        have D:=f.trans (Stp.of_below e r)
        by_cases M:(G2 i.s).2.2=true
        ·simp only[M,if_true,↓M1,M1,Mb,reduceIte]
         exact .mk D
        ·have:T1 i.s=false:=by unfold T1;rw[eq_false_of_ne_true M];rfl
         simp only[M,if_false,↓M1,M1,Mb,reduceIte]
         exact .of D this.symm
   ·obtain ⟨m,u,rfl⟩:=V
    have E:=v _ w' m u rfl
    simp only[Bool.true_and] at E
    (try simp only[↓M1,M1,Mb,reduceIte])
    exact E)
end Go.Proofs.YtfppjenblllfaaaGreatDoor

namespace Go.Emb
theorem X31 {w:World} {K:Value→World→Prop} {v:Value} (h:K v w):Q1 (.bool true) true w (fun w J=>J v w) K:=by rw[L4];exact h
theorem X37 {w:World} {K:Value→World→Prop} {v:Value} (h:K v w):Q1 (.bool false) false w (fun w J=>J v w) K:=by rw[N6];exact h
theorem X3Z {w:World} {K:Value→World→Prop} {b:Bool} {run:World→(Value→World→Prop)→Prop} (h:K undef w):Q1 undef b w run K:=by rw[E3];exact h
class Hd (p : Prop) (q : outParam Prop) : Prop where
  h : q → p
section
variable {P : Program} {w : World} {K : Value → World → Prop} {run : World → (Value → World → Prop) → Prop} {v u : Value} {b : Bool}
instance:Hd (J4 P .not (.bool b) w K) (K (.bool (!b)) w):=⟨Lm⟩
instance:Hd (Q1 undef b w run K) (K undef w):=⟨X3Z⟩
instance {t:TypeId} {k off:Nat} {ft:TypeId} {sz by_:Nat} {z:Value} {a:Addr} [tf:TF P t k off ft] [tz:TZ P ft sz by_ z] [nz:NZ sz]:Hd (fieldAddr P t (.pointer (some a)) k w K) (K (.pointer (some (a.add off))) w):=⟨J5⟩
instance:Hd (pick P (.bool false) v u w K) (K u w):=⟨X2Y⟩
instance:Hd (pick P (.bool true) v u w K) (K v w):=⟨X3l⟩
instance:Hd (Q1 (.bool false) false w run K) (run w K):=⟨X4u⟩
instance:Hd (Q1 (.bool true) true w run K) (run w K):=⟨X4c⟩
instance:Hd (Q1 (.bool false) true w run K) (K undef w):=⟨X2K⟩
instance:Hd (Q1 (.bool true) false w run K) (K undef w):=⟨X3j⟩
instance:Hd (Q1 (.bool false) false w (fun w J=>J v w) K) (K v w):=⟨X37⟩
instance:Hd (Q1 (.bool true) true w (fun w J=>J v w) K) (K v w):=⟨X31⟩
end
end Go.Emb
namespace Go.Proofs.YtfppjenblllfaaaGreatDoor
open Go.Emb Go.RowKit Go.Kd Go.Hm
variable {w : World} {K : Value → World → Prop} {σ : Q4}
theorem X32 {xs:List Ins} {v:Value} (s:X4 w σ) (o:Sl 3 G9 σ v xs) (h: ∀e w' m,Stp w σ w' m→decide (e=0)=xs.all (fun i=>decide (O9 i=0))→K (I e) w'):Q0 P F.bb [v] w K:=Q0W (by
 unfold Es
 refine U3 xs.length (fun n w'=> ∃m,Stp w σ w' m∧(xs.take n).all (fun i=>decide (O9 i=0))=true) ⟨σ,Stp.refl s,rfl⟩ fun n w1 d y j=>?_
 obtain ⟨σ1,c,f⟩:=j
 have g:=o.up c
 refine X0 g ?_
 refine Z3 ?_
 refine Q5 (fun l=>?_) (fun l=>?_)
 ·have a:n<xs.length:=by simpa using l
  refine U9 g a ?_
  obtain ⟨p,t⟩:=g.elI a
  refine Z1 c.sat p rfl ?_
  refine Q9B c.sat t fun z q k=>?_
  refine T4 ?_
  by_cases e:O9 xs[n]=0
  ·have:decide (O9 xs[n]=0)=true:=by simpa using e
   simp only[this,↓M1,M1,Mb,reduceIte]
   exact Y5 o.max a ⟨q,c.trans k,by rw[Uf a,f];simpa using e⟩
  ·have:decide (O9 xs[n]=0)=false:=by simpa using e
   simp only[this,↓M1,M1,Mb,reduceIte]
   refine h _ _ _ (c.trans k) ?_
   rw[this]
   symm
   rw[←Bool.not_eq_true,List.all_eq_true]
   intro r
   have:=r _ (List.getElem_mem a)
   simp at this
   exact e this
 ·have a: ¬n<xs.length:=by simpa using l
  rw[List.take_of_length_le (by omega)] at f
  exact h 0 _ _ c (by rw[f];rfl))
theorem X14 {c:Cla} {cs:List Value} (hs:X4 w σ) (hc:V4 σ c cs) (h: ∀w' σ',Stp w σ w' σ'→K (.bool (Yz c)) w'):Q0 P F.bM [.agg cs.toArray] w K:=Tx (by
 unfold Ox
 obtain ⟨lv,fv,mv,rfl,f1,f2,f3,f4,f5⟩:=hc
 refine Z0 hs fun q w1 σ1 hk1 hq=>?_
 have f1:=f1.up hk1
 have f2:=f2.up hk1
 have f3:=f3.up hk1
 refine U3 c.methods.length (fun n w'=> ∃σ',Stp w1 σ1 w' σ'∧(c.methods.take n).any Vn=false) ⟨σ1,Stp.refl hk1.sat,rfl⟩ fun n w2 d hn hinv=>?_
 obtain ⟨σ2,hk2,hno⟩:=hinv
 have hq2:=hq.up hk2
 have f32:=f3.up hk2
 have f12:=f1.up hk2
 have f22:=f2.up hk2
 have hs2:=hk2.sat
 (try simp only[↓M1,M1,Mb,reduceIte])
 refine ld hs2 hq2 rfl ?_
 refine X0 f32 ?_
 refine Z3 ?_
 refine Q5 (fun hc=>?_) (fun hc=>?_)
 ·have hn':n<c.methods.length:=by simpa using hc
  (try simp only[↓M1,M1,Mb,reduceIte])
  refine ld hs2 hq2 rfl ?_
  refine U9 f32 hn' ?_
  obtain ⟨pv,cv,hv,p1,r1⟩:=f32.elM hn'
  refine Z1 hs2 p1 rfl ?_
  refine Y6 hs2 (by rfl) rfl (Rep.one r1) fun q3 w3 σ3 hk3 hq3=>?_
  obtain ⟨g1,g2,g3,_,_,_⟩:=(RMe_lift r1 ⟨hk3.le⟩).parts
  have hS3:=hk1.trans (hk2.trans hk3)
  have hyes:Vn c.methods[n]=true→K (.bool true) w3:=fun e=>by
   have:=h _ _ hS3
   have hm:Yz c=true:=by unfold Yz;rw[B7 hn' e];rfl
   rwa [hm] at this
  have hk23:=hk2.trans hk3
  clear h hk2 hk3 hS3
  have hmax:=f3.max
  (repeat' (first | (with_reducible intro _) | (with_reducible refine W2 ?_) | (simp only[↓M2,M2,Mb,reduceIte]) | (with_reducible first | refine ld aS aL aR ?_ | refine Y0 aS aL aR ?_ | refine Z1 aS aL aR ?_ | refine X0 aL ?_ | refine V6 aR ?_ | refine Z0 aS ?_ | refine L5 aS aL ?_ | refine U1 aS aR ?_ | refine Y6 aS aR aR (Rep.one (by assumption)) ?_ | refine U8 aS aR aR aR ?_ | (refine Z6 (fun hh=>?_) (fun hh=>?_)<;>(try simp only[hh,Bool.not_true,Bool.not_false,↓M2,M2,Mb,reduceIte])) | (refine Q5 (fun hh=>?_) (fun hh=>?_)<;>(try simp only[hh,Bool.not_true,Bool.not_false,↓M2,M2,Mb,reduceIte])))))
  all_goals clear hq hq2 f1 f2 f3 f32 f12 f22 hs hs2 p1 r1 g1 g2 g3 hk1 f4 f5 hq3
  all_goals first
   | (refine hyes ?_;clear hyes hk23;unfold Vn;simp only[Bool.not_false,Bool.not_true,Bool.or_eq_true,decide_eq_true_eq,decide_eq_false_iff_not] at*;omega)
   | (
    have hnx:(c.methods.take (n+1)).any Vn=false:=by
     rw[N5 hn',hno,Bool.false_or];clear hyes hk23;unfold Vn;simp only[Bool.or_eq_false_iff,decide_eq_false_iff_not] at*;omega
    exact Y5 hmax hn' ⟨_,hk23,hnx⟩)
 ·have hn': ¬n<c.methods.length:=by simpa using hc
  rw[E4 hn'] at hno
  have hS2:=hk1.trans hk2
  have hm:Yz c=(decide (32<c.like.length)||decide (32<c.fields.length)||decide (32<c.methods.length)):=by unfold Yz;rw[hno];simp
  rw[hm] at h
  have hK:=h _ _ hS2
  clear h hk2
  (try simp only[↓M1,M1,Mb,reduceIte])
  refine ld hs2 hq2 rfl ?_
  refine X0 f12 ?_
  have d32: ∀k:Nat,decide ((32:Int)<(k:Int))=decide (32<k):=fun k=>by rw[Bool.eq_iff_iff,decide_eq_true_eq,decide_eq_true_eq];omega
  simp only[d32,↓M1,M1,Mb,reduceIte]
  cases e1:decide (32<c.like.length) with
  | true=>rw[e1] at hK;(try simp only[↓M1,M1,Mb,reduceIte]);simpa using hK
  | false=>
   rw[e1] at hK
   (try simp only[↓M1,M1,Mb,reduceIte])
   refine ld hs2 hq2 rfl ?_
   refine X0 f22 ?_
   simp only[d32,↓M1,M1,Mb,reduceIte]
   cases e2:decide (32<c.fields.length) with
   | true=>rw[e2] at hK;(try simp only[↓M1,M1,Mb,reduceIte]);simpa using hK
   | false=>
    rw[e2] at hK
    (try simp only[↓M1,M1,Mb,reduceIte])
    refine ld hs2 hq2 rfl ?_
    refine X0 f32 ?_
    simp only[d32,↓M1,M1,Mb,reduceIte]
    simpa using hK)
theorem Q81 {α:Type} {xs:List α} {p:α→Bool} {n:Nat} (h: ¬n<xs.length):(xs.take n).all p=xs.all p:=by rw[List.take_of_length_le (by omega)]
set_option maxHeartbeats 4000000 in
theorem Q0C {m:Hm.Met} {pv cv hv:Value} {w1:World} {σ1:Q4} {q:Addr} {z:Bool} (hs:X4 w σ) (ah:Stp w σ w1 σ1) (hq:Z2 σ1 q [S m.name,pv,S m.result, .bool m.abs,I m.locals,cv,hv]) (g1:Sl 1 X7 σ1 pv m.params) (g2:Sl 3 G9 σ1 cv m.code) (g3:Sl 4 Yo σ1 hv m.catches)
 (h: ∀w' O,Stp w σ w' O→K (.bool ((z&&m.params.all right)&&if m.abs then decide (m.locals=0)&&decide (m.code=[])&&decide (m.catches=[])
  else decide (m.code≠[])&&decide ((m.params.length:Int)<m.locals)&&m.code.all (fun i=>decide (O9 i=0))&&m.catches.all (F4 m.code.length))) w'):
 lp (α:=Value×Value) (Value.bool z,(.int .i64 0)) w1 fun Y C d_ w=>
  fieldAddr P T.d (.pointer (some q)) 1 w fun cy w=>
  Q2 P T.b cy w fun bl w=>
  X5 P .len [T.b] T.e [false] [bl] w fun bm w=>
  Q3 P .lss T.e (.tmp 21) (.tmp 24) C.2 bm w fun bk w=>
  X1 bk (
   Q1 C.1 true w (fieldAddr P T.d (.pointer (some q)) 1) fun bh w=>
   Q1 C.1 true w (Q2 P T.b bh) fun cu w=>
   Q1 C.1 true w (fun w J=>J C.2 w) fun ca w=>
   Q1 C.1 true w (indexAddr P T.b cu ca) fun cm w=>
   Q1 C.1 true w (Q2 P T.a cm) fun ct w=>
   Q1 C.1 true w (Q0 P F.l [ct]) fun db w=>
   pick P C.1 db (.bool false) w fun ch w=>
   Q3 P .add T.e (.tmp 26) (.const (.int .i64 1)) C.2 (.int .i64 1) w fun cd w=>
   Y (ch,cd) w) (
   fieldAddr P T.d (.pointer (some q)) 3 w fun b5 w=>
   Q2 P T.p b5 w fun b1 w=>
   X1 b1 (
    Q1 C.1 true w (fieldAddr P T.d (.pointer (some q)) 4) fun b9 w=>
    Q1 C.1 true w (Q2 P T.e b9) fun cn w=>
    Q1 C.1 true w (Q3 P .eql T.e (.tmp 42) (.const (.int .i64 0)) cn (.int .i64 0)) fun cj w=>
    pick P C.1 cj (.bool false) w fun L w=>
    Q1 L true w (fieldAddr P T.d (.pointer (some q)) 5) fun bj w=>
    Q1 L true w (Q2 P T.n bj) fun cw w=>
    Q1 L true w (X5 P .len [T.n] T.e [false] [cw]) fun cr w=>
    Q1 L true w (Q3 P .eql T.e (.tmp 48) (.const (.int .i64 0)) cr (.int .i64 0)) fun b3 w=>
    pick P L b3 (.bool false) w fun Q w=>
    Q1 Q true w (fieldAddr P T.d (.pointer (some q)) 6) fun cx w=>
    Q1 Q true w (Q2 P T.q cx) fun ce w=>
    Q1 Q true w (X5 P .len [T.q] T.e [false] [ce]) fun cb w=>
    Q1 Q true w (Q3 P .eql T.e (.tmp 54) (.const (.int .i64 0)) cb (.int .i64 0)) fun bq w=>
    pick P Q bq (.bool false) w fun cp w=>
    K cp w) (
    fieldAddr P T.d (.pointer (some q)) 5 w fun cf w=>
    Q2 P T.n cf w fun c8 w=>
    X5 P .len [T.n] T.e [false] [c8] w fun ag w=>
    lp (α:=Value×Value) (C.1,(.int .i64 0)) w fun U j d_ w=>
     fieldAddr P T.d (.pointer (some q)) 6 w fun b0 w=>
     Q2 P T.q b0 w fun cz w=>
     X5 P .len [T.q] T.e [false] [cz] w fun ck w=>
     Q3 P .lss T.e (.tmp 60) (.tmp 63) j.2 ck w fun cs w=>
     X1 cs (
      fieldAddr P T.d (.pointer (some q)) 6 w fun bx w=>
      Q2 P T.q bx w fun b8 w=>
      indexAddr P T.q b8 j.2 w fun b2 w=>
      Q2 P T.o b2 w fun cl w=>
      W6 P T.o w fun t7 w=>
      Z4 P T.o t7 cl w fun _u w=>
      Q1 j.1 true w (fieldAddr P T.o t7 0) fun c5 w=>
      Q1 j.1 true w (Q2 P T.e c5) fun br w=>
      Q1 j.1 true w (Q3 P .geq T.e (.tmp 75) (.const (.int .i64 0)) br (.int .i64 0)) fun bn w=>
      pick P j.1 bn (.bool false) w fun H w=>
      Q1 H true w (fieldAddr P T.o t7 0) fun da w=>
      Q1 H true w (Q2 P T.e da) fun bi w=>
      Q1 H true w (fieldAddr P T.o t7 1) fun c7 w=>
      Q1 H true w (Q2 P T.e c7) fun cg w=>
      Q1 H true w (Q3 P .lss T.e (.tmp 80) (.tmp 82) bi cg) fun cc w=>
      pick P H cc (.bool false) w fun N w=>
      Q1 N true w (fieldAddr P T.o t7 1) fun ci w=>
      Q1 N true w (Q2 P T.e ci) fun bo w=>
      Q1 N true w (fun w J=>J ag w) fun bv w=>
      Q1 N true w (Q3 P .leq T.e (.tmp 87) (.tmp 88) bo bv) fun bp w=>
      pick P N bp (.bool false) w fun W w=>
      Q1 W true w (fieldAddr P T.o t7 2) fun b7 w=>
      Q1 W true w (Q2 P T.e b7) fun dd w=>
      Q1 W true w (Q3 P .geq T.e (.tmp 93) (.const (.int .i64 0)) dd (.int .i64 0)) fun dc w=>
      pick P W dc (.bool false) w fun R w=>
      Q1 R true w (fieldAddr P T.o t7 2) fun c9 w=>
      Q1 R true w (Q2 P T.e c9) fun c6 w=>
      Q1 R true w (fun w J=>J ag w) fun co w=>
      Q1 R true w (Q3 P .lss T.e (.tmp 98) (.tmp 99) c6 co) fun bd w=>
      pick P R bd (.bool false) w fun D w=>
      Q1 D true w (fieldAddr P T.o t7 3) fun ar w=>
      Q1 D true w (Q2 P T.a ar) fun ba w=>
      Q1 D true w (Q0 P F.f [ba]) fun ao w=>
      pick P D ao (.bool false) w fun a8 w=>
      Q3 P .add T.e (.tmp 65) (.const (.int .i64 1)) j.2 (.int .i64 1) w fun b4 w=>
      U (a8,b4) w) (
      Q1 j.1 true w (fun w J=>J ag w) fun a6 w=>
      Q1 j.1 true w (Q3 P .gtr T.e (.tmp 109) (.const (.int .i64 0)) a6 (.int .i64 0)) fun ay w=>
      pick P j.1 ay (.bool false) w fun g w=>
      Q1 g true w (fieldAddr P T.d (.pointer (some q)) 4) fun am w=>
      Q1 g true w (Q2 P T.e am) fun aq w=>
      Q1 g true w (fieldAddr P T.d (.pointer (some q)) 1) fun an w=>
      Q1 g true w (Q2 P T.b an) fun a4 w=>
      Q1 g true w (X5 P .len [T.b] T.e [false] [a4]) fun ak w=>
      Q1 g true w (Q3 P .gtr T.e (.tmp 114) (.tmp 117) aq ak) fun a1 w=>
      pick P g a1 (.bool false) w fun r w=>
      Q1 r true w (fieldAddr P T.d (.pointer (some q)) 5) fun az w=>
      Q1 r true w (Q2 P T.n az) fun bb w=>
      Q1 r true w (Q0 P F.bb [bb]) fun a3 w=>
      Q1 r true w (Q3 P .eql T.s (.tmp 123) (.const (.int .i64 0)) a3 (.int .i64 0)) fun a9 w=>
      pick P r a9 (.bool false) w fun aw w=>
      K aw w))):=by
 have bs:=ah.sat
 have c0:decide ((m.code.length:Int)=0)=decide (m.code=[]):=by cases m.code<;>simp;omega
 have c1:decide ((m.catches.length:Int)=0)=decide (m.catches=[]):=by cases m.catches<;>simp;omega
 have c2:decide ((0:Int)<m.code.length)=decide (m.code≠[]):=by cases m.code<;>simp
 refine E2 (a:=Value.bool z) m.params.length (fun n x w'=> ∃O,Stp w1 σ1 w' O∧x=Value.bool (z&&(m.params.take n).all right)) ⟨σ1,Stp.refl bs,by simp⟩ fun n x w2 d hn M=>?_
 obtain ⟨σ2,k,rfl⟩:=M
 have o:=hq.up k
 have aa:=g1.up k
 have l:=k.sat
 (try simp only[↓M1,M1,Mb,reduceIte])
 refine ld l o rfl ?_
 refine X0 aa ?_
 refine Z3 ?_
 refine Q5 (fun hc=>?_) (fun hc=>?_)
 ·have c:n<m.params.length:=by simpa using hc
  have t:(z&&(m.params.take (n+1)).all right)=((z&&(m.params.take n).all right)&&right m.params[n]):=by rw[Uf c,Bool.and_assoc]
  generalize (z&&(m.params.take n).all right)=f at t⊢
  cases f with
  | false=>(try simp only[↓M1,M1,Mb,reduceIte]);exact J0 g1.max c ⟨σ2,k,by rw[t];rfl⟩
  | true=>
   (try simp only[↓M1,M1,Mb,reduceIte])
   refine ld l o rfl ?_
   (try simp only[↓M1,M1,Mb,reduceIte])
   refine U9 aa c ?_
   obtain ⟨p1,p2⟩:=aa.elS c
   refine Y0 l p1 rfl ?_
   refine We _ (by simp only[Y9] at p2;omega) ?_
   (try simp only[↓M1,M1,Mb,reduceIte])
   exact J0 g1.max c ⟨σ2,k,by rw[t];rfl⟩
 ·have c: ¬n<m.params.length:=by simpa using hc
  rw[Q81 c]
  have ax:=ah.trans k
  have af:=g2.up k
  have X:=g3.up k
  clear ah k hq g1 g2 g3 hn hc
  generalize (z&&m.params.all right)=f at h⊢
  refine ld l o rfl ?_
  cases av:m.abs with
  | true=>
   simp only[av,if_true] at h
   have hK:=h _ _ ax
   clear h
   (try simp only[↓M1,M1,Mb,reduceIte])
   cases f with
   | false=>(try simp only[↓M1,M1,Mb,reduceIte]);simpa using hK
   | true=>
    (try simp only[↓M1,M1,Mb,reduceIte])
    refine ld l o rfl ?_
    (try simp only[↓M1,M1,Mb,reduceIte])
    cases ap:decide (m.locals=0) with
    | false=>rw[ap] at hK;(try simp only[↓M1,M1,Mb,reduceIte]);simpa using hK
    | true=>
     rw[ap] at hK
     (try simp only[↓M1,M1,Mb,reduceIte])
     refine ld l o rfl ?_
     refine X0 af ?_
     simp only[c0,↓M1,M1,Mb,reduceIte]
     cases al:decide (m.code=[]) with
     | false=>rw[al] at hK;(try simp only[↓M1,M1,Mb,reduceIte]);simpa using hK
     | true=>
      rw[al] at hK
      (try simp only[↓M1,M1,Mb,reduceIte])
      refine ld l o rfl ?_
      refine X0 X ?_
      simp only[c1,↓M1,M1,Mb,reduceIte]
      simpa using hK
  | false=>
   simp only[av,Bool.false_eq_true,if_false] at h
   (try simp only[↓M1,M1,Mb,reduceIte])
   refine ld l o rfl ?_
   refine X0 af ?_
   refine E2 (a:=Value.bool f) m.catches.length (fun n x w'=> ∃O,Stp w2 σ2 w' O∧x=Value.bool (f&&(m.catches.take n).all (F4 m.code.length))) ⟨σ2,Stp.refl l,by simp⟩ fun n x w4 d hn M=>?_
   obtain ⟨σ4,A,rfl⟩:=M
   have E:=o.up A
   have Z:=X.up A
   have p:=A.sat
   (try simp only[↓M1,M1,Mb,reduceIte])
   refine ld p E rfl ?_
   refine X0 Z ?_
   refine Z3 ?_
   refine Q5 (fun hc=>?_) (fun hc=>?_)
   ·have c:n<m.catches.length:=by simpa using hc
    have t:(f&&(m.catches.take (n+1)).all (F4 m.code.length))=((f&&(m.catches.take n).all (F4 m.code.length))&&F4 m.code.length m.catches[n]):=by rw[Uf c,Bool.and_assoc]
    generalize (f&&(m.catches.take n).all (F4 m.code.length))=bw at t⊢
    (try simp only[↓M1,M1,Mb,reduceIte])
    refine ld p E rfl ?_
    refine U9 Z c ?_
    obtain ⟨p1,r1⟩:=Z.elK c
    have a2:m.catches[n].cls.length≤140737488355328:=by have:=r1.2.2.2.2;simp only[Y9] at this;omega
    refine Z1 p p1 rfl ?_
    refine Y6 p (by rfl) rfl (Rep.one r1) fun q5 w5 σ5 aj y=>?_
    have B:=aj.sat
    have ad:=A.trans aj
    cases bw with
    | false=>(try simp only[↓M1,M1,Mb,reduceIte]);exact J0 X.max c ⟨σ5,ad,by rw[t];rfl⟩
    | true=>
     have s: ∀b,F4 m.code.length m.catches[n]=b→Fe m.catches.length (fun n x w'=> ∃O,Stp w2 σ2 w' O∧x=Value.bool (f&&(m.catches.take n).all (F4 m.code.length))) (Value.bool b, .int .i64 (IntKind.i64.wrap (n+1))) w5∧Lc m.catches.length (Value.bool b, .int .i64 (IntKind.i64.wrap (n+1)))<Lc m.catches.length (Value.bool true,I n):=fun b e=>J0 X.max c ⟨σ5,ad,by rw[t,e];rfl⟩
     unfold F4 at s
     generalize m.catches[n]=x at y s a2
     clear t p1 r1 E o Z h
     (try simp only[↓M1,M1,Mb,reduceIte])
     refine ld B y rfl ?_
     (try simp only[↓M1,M1,Mb,reduceIte])
     cases d1:decide (0≤x.frm) with
     | false=>(try simp only[↓M1,M1,Mb,reduceIte]);exact s _ (by simp[d1])
     | true=>
     (try simp only[↓M1,M1,Mb,reduceIte])
     refine ld B y rfl ?_
     (try simp only[↓M1,M1,Mb,reduceIte])
     refine ld B y rfl ?_
     (try simp only[↓M1,M1,Mb,reduceIte])
     cases d2:decide (x.frm<x.to) with
     | false=>(try simp only[↓M1,M1,Mb,reduceIte]);exact s _ (by simp[d1,d2])
     | true=>
     (try simp only[↓M1,M1,Mb,reduceIte])
     refine ld B y rfl ?_
     (try simp only[↓M1,M1,Mb,reduceIte])
     cases d3:decide (x.to≤(m.code.length:Int)) with
     | false=>(try simp only[↓M1,M1,Mb,reduceIte]);exact s _ (by simp[d1,d2,d3])
     | true=>
     (try simp only[↓M1,M1,Mb,reduceIte])
     refine ld B y rfl ?_
     (try simp only[↓M1,M1,Mb,reduceIte])
     cases d4:decide (0≤x.at_) with
     | false=>(try simp only[↓M1,M1,Mb,reduceIte]);exact s _ (by simp[d1,d2,d3,d4])
     | true=>
     (try simp only[↓M1,M1,Mb,reduceIte])
     refine ld B y rfl ?_
     (try simp only[↓M1,M1,Mb,reduceIte])
     cases d5:decide (x.at_<(m.code.length:Int)) with
     | false=>(try simp only[↓M1,M1,Mb,reduceIte]);exact s _ (by simp[d1,d2,d3,d4,d5])
     | true=>
     (try simp only[↓M1,M1,Mb,reduceIte])
     refine ld B y rfl ?_
     refine Xw x.cls a2 ?_
     (try simp only[↓M1,M1,Mb,reduceIte])
     exact s _ (by simp[d1,d2,d3,d4,d5])
   ·have c: ¬n<m.catches.length:=by simpa using hc
    rw[Q81 c]
    have V:=ax.trans A
    have c3:=af.up A
    have bz:=aa.up A
    have hh: ∀w' O,Stp w σ w' O→K (.bool ((f&&m.catches.all (F4 m.code.length))&&(decide (m.code≠[])&&decide ((m.params.length:Int)<m.locals)&&m.code.all (fun i=>decide (O9 i=0))))) w':=by
     intro w' O hk
     have:=h w' O hk
     refine Eq.subst (motive:=fun b=>K (.bool b) w') ?_ this
     cases f<;>cases m.catches.all (F4 m.code.length)<;>simp
    clear h A
    generalize (f&&m.catches.all (F4 m.code.length))=bu at hh⊢
    cases bu with
    | false=>(try simp only[↓M1,M1,Mb,reduceIte]);simpa using hh _ _ V
    | true=>
     (try simp only[↓M1,M1,Mb,reduceIte])
     simp only[c2,↓M1,M1,Mb,reduceIte]
     cases a7:decide (m.code≠[]) with
     | false=>rw[a7] at hh;(try simp only[↓M1,M1,Mb,reduceIte]);simpa using hh _ _ V
     | true=>
      rw[a7] at hh
      (try simp only[↓M1,M1,Mb,reduceIte])
      refine ld p E rfl ?_
      (try simp only[↓M1,M1,Mb,reduceIte])
      refine ld p E rfl ?_
      refine X0 bz ?_
      (try simp only[↓M1,M1,Mb,reduceIte])
      cases bc:decide ((m.params.length:Int)<m.locals) with
      | false=>rw[bc] at hh;(try simp only[↓M1,M1,Mb,reduceIte]);simpa using hh _ _ V
      | true=>
       rw[bc] at hh
       (try simp only[↓M1,M1,Mb,reduceIte])
       refine ld p E rfl ?_
       refine X32 p c3 fun e w6 σ6 b6 he=>?_
       simp only[he,↓M1,M1,Mb,reduceIte]
       simpa using hh _ _ (V.trans b6)
set_option maxHeartbeats 2000000 in
theorem Q9l {m:Hm.Met} {cs:List Value} (n:X4 w σ) (B:M3 σ m cs) (h: ∀w' E,Stp w σ w' E→K (.bool (F6 m)) w'):Q0 P F.a2 [.agg cs.toArray] w K:=Ge (by
 unfold Wd
 obtain ⟨pv,L,H,rfl,D,C,z,A,y,J⟩:=B
 have p:m.name.length≤140737488355328:=by simp only[Y9] at A;omega
 have o:m.result.length≤140737488355328:=by simp only[Y9] at y;omega
 refine Z0 n fun q w1 σ1 a g=>?_
 have t:=D.up a
 have r:=C.up a
 have s:=z.up a
 have e:=a.sat
 obtain ⟨d,c⟩: ∃b,b=(M8 m.name&&(decide (m.result=[])||right m.result)):=⟨_,rfl⟩
 have k:F6 m=((d&&m.params.all right)&&if m.abs then decide (m.locals=0)&&decide (m.code=[])&&decide (m.catches=[])
  else decide (m.code≠[])&&decide ((m.params.length:Int)<m.locals)&&m.code.all (fun i=>decide (O9 i=0))&&m.catches.all (F4 m.code.length)):=by
  rw[c];unfold F6
  cases M8 m.name<;>cases m.params.all right<;>cases decide (m.result=[])<;>cases right m.result<;>rfl
 rw[k] at h
 clear k
 (repeat refine Hd.h ?_)
 refine ld e g rfl ?_
 refine Pr m.name p ?_
 cases f:M8 m.name with
 | false=>
  have l:d=false:=by rw[c,f];rfl
  (repeat refine Hd.h ?_)
  refine Eq.subst (motive:=fun b=>lp (α:=Value×Value) (Value.bool b, .int .i64 0) w1 _) l ?_
  exact Q0C n a g t r s h
 | true=>
  (repeat refine Hd.h ?_)
  refine ld e g rfl ?_
  (repeat refine Hd.h ?_)
  refine Ni ?_
  cases j:decide (m.result=[]) with
  | true=>
   have l:d=true:=by rw[c,f,j];rfl
   (repeat refine Hd.h ?_)
   refine Eq.subst (motive:=fun b=>lp (α:=Value×Value) (Value.bool b, .int .i64 0) w1 _) l ?_
   exact Q0C n a g t r s h
  | false=>
   (repeat refine Hd.h ?_)
   refine ld e g rfl ?_
   (repeat refine Hd.h ?_)
   refine We m.result o ?_
   have l:d=right m.result:=by rw[c,f,j];rfl
   (repeat refine Hd.h ?_)
   refine Eq.subst (motive:=fun b=>lp (α:=Value×Value) (Value.bool b, .int .i64 0) w1 _) l ?_
   exact Q0C n a g t r s h)
end Go.Proofs.YtfppjenblllfaaaGreatDoor

namespace Go.Hm
open Go.Kd
def Md (c:Cla) (i:Nat):Bool:=W9 (c.like.getD i [])&& !decide (c.like.getD i []=c.name)
def T0 (c:Cla) (i k:Nat):Bool:= !decide (c.like.getD k []=c.like.getD i [])
def Cz (c:Cla) (i:Nat):Fld:=c.fields.getD i Fld.zero
def Ho (c:Cla) (i:Nat):Hm.Met:=c.methods.getD i Hm.Met.zero
def Dl (c:Cla) (i:Nat):Bool:=M8 (Cz c i).name&&right (Cz c i).kind&& !c.iface
def Xo (c:Cla) (i k:Nat):Bool:= !decide ((Cz c k).name=(Cz c i).name)
def Q9v (c:Cla):Bool:=(!c.iface||(c.abs&&decide (c.super=J7)))&& !(c.abs&&c.fin)
def Xa (c:Cla) (i k:Nat):Bool:= !decide ((Ho c k).name=(Ho c i).name)
theorem Wl {p:Nat→Bool} {n:Nat}:(List.range (n+1)).all p=((List.range n).all p&&p n):=by rw[List.range_succ,List.all_append];simp
theorem H6 {α:Type} {xs:List α} {i:Nat} {d:α} (h:i<xs.length):xs.getD i d=xs[i]:=by rw[List.getD_eq_getElem?_getD,List.getElem?_eq_getElem h];rfl
end Go.Hm
namespace Go.Proofs.YtfppjenblllfaaaGreatDoor
open Go.Emb Go.RowKit Go.Kd Go.Hm
variable {w : World} {K : Value → World → Prop} {σ : Q4}
def Mn (c:Cla) (i:Nat):Bool:=F6 (Ho c i)&&(!(Ho c i).abs||c.abs)&&(!c.iface||(Ho c i).abs)
set_option maxHeartbeats 2000000 in
theorem Q44 {c:Cla} {lv fv mv:Value} {w1:World} {σ1:Q4} {q:Addr} {ok:Bool} (ab:X4 w1 σ1) (hq:Z2 σ1 q [S c.name,S c.super,lv, .bool c.iface, .bool c.abs, .bool c.fin,fv,mv]) {i:Nat} {N m0:Nat} {Q:Nat→Value→World→Prop} (g1:Sl 1 X7 σ1 lv c.like) (hi:i<c.like.length)
 (h: ∀w' σ',Stp w1 σ1 w' σ'→Fe N Q (Value.bool (ok&&(List.range i).all (T0 c i)), .int .i64 (IntKind.i64.wrap (i+1))) w'∧Lc N (Value.bool (ok&&(List.range i).all (T0 c i)), .int .i64 (IntKind.i64.wrap (i+1)))<m0):
 lp (
  α:=Value×Value) (Value.bool ok,(.int .i64 0)) w1 fun f b d_ w=>
  Q3 P .lss T.e (.tmp 52) (.tmp 53) b.2 (I i) w fun Y w=>
  X1 Y (
   dr w fun e j=>
   Q6 e (fun D=> ∀w:World,j w→Q1 b.1 true w (fieldAddr P T.c (.pointer (some q)) 2) (dk e D w)) fun D=>
   Q6 e (fun m=> ∀w:World,j w→Q1 b.1 true w (fun w J=>J b.2 w) (dk e m w)) fun m=>
   Q6 e (fun v=> ∀w:World,j w→Q1 b.1 true w (fieldAddr P T.c (.pointer (some q)) 2) (dk e v w)) fun v=>
   Q6 e (fun z=> ∀w:World,j w→Q1 b.1 true w (fun w J=>J (I i) w) (dk e z w)) fun z=>
   Q6 e (fun u=> ∀r:Value,∀w:World,j w→D r w→Q1 b.1 true w (Q2 P T.b r) (dk e u w)) fun u=>
   Q6 e (fun o=> ∀C:Value,∀y:Value,∀w:World,j w→u C w→m y w→Q1 b.1 true w (indexAddr P T.b C y) (dk e o w)) fun o=>
   Q6 e (fun E=> ∀A:Value,∀w:World,j w→o A w→Q1 b.1 true w (Q2 P T.a A) (dk e E w)) fun E=>
   Q6 e (fun p=> ∀t:Value,∀w:World,j w→v t w→Q1 b.1 true w (Q2 P T.b t) (dk e p w)) fun p=>
   Q6 e (fun n=> ∀l:Value,∀B:Value,∀w:World,j w→p l w→z B w→Q1 b.1 true w (indexAddr P T.b l B) (dk e n w)) fun n=>
   Q6 e (fun L=> ∀s:Value,∀w:World,j w→n s w→Q1 b.1 true w (Q2 P T.a s) (dk e L w)) fun L=>
   ∀r:Value,∀y:Value,∀t:Value,∀B:Value,∀C:Value,∀A:Value,∀M:Value,∀l:Value,∀s:Value,∀V:Value,∀w:World,j w→D r w→m y w→v t w→z B w→u C w→o A w→E M w→p l w→n s w→L V w→
   Q1 b.1 true w (Q3 P .neq T.a (.tmp 63) (.tmp 68) M V) fun ah w=>
   pick P b.1 ah (.bool false) w fun ag w=>
   Q3 P .add T.e (.tmp 55) (.const (.int .i64 1)) b.2 (.int .i64 1) w fun ad w=>
   f (ag,ad) w) (
   Q3 P .add T.e (.tmp 31) (.const (.int .i64 1)) (I i) (.int .i64 1) w fun W w=>
   (Fe N Q (b.1,W) w∧Lc N (b.1,W)<m0)):=by
 have aj:=g1.max
 refine E2 (a:=Value.bool ok) i (fun k x w'=> ∃σ',Stp w1 σ1 w' σ'∧x=Value.bool (ok&&(List.range k).all (T0 c i))) ⟨σ1,Stp.refl ab,by simp⟩ fun k x w2 d hk R=>?_
 obtain ⟨σ2,g,rfl⟩:=R
 have aq:=hq.up g
 have U:=g1.up g
 have Z:=g.sat
 refine Z3 ?_
 refine Q5 (fun X=>?_) (fun X=>?_)
 ·have ae:k<i:=by simpa using X
  have O:k<c.like.length:=by omega
  have H:(ok&&(List.range (k+1)).all (T0 c i))=((ok&&(List.range k).all (T0 c i))&&T0 c i k):=by rw[Wl,Bool.and_assoc]
  have hQ:T0 c i k= !decide (c.like[k]=c.like[i]):=by unfold T0;rw[H6 O,H6 hi]
  rw[hQ] at H
  obtain ⟨p1,_⟩:=U.elS O
  obtain ⟨p2,_⟩:=U.elS hi
  generalize (ok&&(List.range k).all (T0 c i))=ac at H⊢
  clear h hQ X
  cases ac
  all_goals
   refine V0 Z ?_
   (repeat refine J3 Xt ?_)
   (intros;(repeat (rename_i hx;subst hx));(try simp only[↓M2,M2,Mb,reduceIte]))
   rename_i w3 aa
   exact J0 (by omega) ae ⟨σ2,g.trans aa.stp,by rw[H];rfl⟩
 ·have ai:k=i:=by
   have: ¬k<i:=by simpa using X
   omega
  subst ai
  (try simp only[↓M1,M1,Mb,reduceIte])
  exact h _ _ g
set_option maxHeartbeats 4000000 in
theorem X1v {c:Cla} {lv fv mv:Value} {w1:World} {σ1:Q4} {q:Addr} {ok:Bool} (hs1:X4 w1 σ1) (hq:Z2 σ1 q [S c.name,S c.super,lv, .bool c.iface, .bool c.abs, .bool c.fin,fv,mv]) {J:Value→World→Prop} (hn:c.name.length≤Y9) (g1:Sl 1 X7 σ1 lv c.like)
 (h: ∀w' σ',Stp w1 σ1 w' σ'→J (.bool (ok&&(List.range c.like.length).all fun i=>Md c i&&(List.range i).all (T0 c i))) w'):
 lp (α:=Value×Value) (Value.bool ok,(.int .i64 0)) w1 fun again4 x4 d_ w=>
 fieldAddr P T.c (.pointer (some q)) 2 w fun t27 w=>
 Q2 P T.b t27 w fun t28 w=>
 X5 P .len [T.b] T.e [false] [t28] w fun t29 w=>
 Q3 P .lss T.e (.tmp 26) (.tmp 29) x4.2 t29 w fun t30 w=>
 X1 t30 (
  dr w fun Tr Br=>
  Q6 Tr (fun φ35=> ∀w:World,Br w→Q1 x4.1 true w (fieldAddr P T.c (.pointer (some q)) 2) (dk Tr φ35 w)) fun φ35=>
  Q6 Tr (fun φ37=> ∀w:World,Br w→Q1 x4.1 true w (fun w J=>J x4.2 w) (dk Tr φ37 w)) fun φ37=>
  Q6 Tr (fun φ36=> ∀t35:Value,∀w:World,Br w→φ35 t35 w→Q1 x4.1 true w (Q2 P T.b t35) (dk Tr φ36 w)) fun φ36=>
  Q6 Tr (fun φ38=> ∀t36:Value,∀t37:Value,∀w:World,Br w→φ36 t36 w→φ37 t37 w→Q1 x4.1 true w (indexAddr P T.b t36 t37) (dk Tr φ38 w)) fun φ38=>
  Q6 Tr (fun φ39=> ∀t38:Value,∀w:World,Br w→φ38 t38 w→Q1 x4.1 true w (Q2 P T.a t38) (dk Tr φ39 w)) fun φ39=>
  Q6 Tr (fun φ40=> ∀t39:Value,∀w:World,Br w→φ39 t39 w→Q1 x4.1 true w (Q0 P F.f [t39]) (dk Tr φ40 w)) fun φ40=>
  Q6 Tr (fun φ41=> ∀t40:Value,∀w:World,Br w→φ40 t40 w→pick P x4.1 t40 (.bool false) w (dk Tr φ41 w)) fun φ41=>
  Q6 Tr (fun φ43=> ∀t41:Value,∀w:World,Br w→φ41 t41 w→Q1 t41 true w (fieldAddr P T.c (.pointer (some q)) 2) (dk Tr φ43 w)) fun φ43=>
  Q6 Tr (fun φ45=> ∀t41:Value,∀w:World,Br w→φ41 t41 w→Q1 t41 true w (fun w J=>J x4.2 w) (dk Tr φ45 w)) fun φ45=>
  Q6 Tr (fun φ48=> ∀t41:Value,∀w:World,Br w→φ41 t41 w→Q1 t41 true w (fieldAddr P T.c (.pointer (some q)) 0) (dk Tr φ48 w)) fun φ48=>
  Q6 Tr (fun φ44=> ∀t41:Value,∀t43:Value,∀w:World,Br w→φ41 t41 w→φ43 t43 w→Q1 t41 true w (Q2 P T.b t43) (dk Tr φ44 w)) fun φ44=>
  Q6 Tr (fun φ46=> ∀t41:Value,∀t44:Value,∀t45:Value,∀w:World,Br w→φ41 t41 w→φ44 t44 w→φ45 t45 w→Q1 t41 true w (indexAddr P T.b t44 t45) (dk Tr φ46 w)) fun φ46=>
  Q6 Tr (fun φ47=> ∀t41:Value,∀t46:Value,∀w:World,Br w→φ41 t41 w→φ46 t46 w→Q1 t41 true w (Q2 P T.a t46) (dk Tr φ47 w)) fun φ47=>
  Q6 Tr (fun φ49=> ∀t41:Value,∀t48:Value,∀w:World,Br w→φ41 t41 w→φ48 t48 w→Q1 t41 true w (Q2 P T.a t48) (dk Tr φ49 w)) fun φ49=>
  ∀t35:Value,∀t37:Value,∀t36:Value,∀t38:Value,∀t39:Value,∀t40:Value,∀t41:Value,∀t43:Value,∀t45:Value,∀t48:Value,∀t44:Value,∀t46:Value,∀t47:Value,∀t49:Value,∀w:World,Br w→φ35 t35 w→φ37 t37 w→φ36 t36 w→φ38 t38 w→φ39 t39 w→φ40 t40 w→φ41 t41 w→φ43 t43 w→φ45 t45 w→φ48 t48 w→φ44 t44 w→φ46 t46 w→φ47 t47 w→φ49 t49 w→
  Q1 t41 true w (Q3 P .neq T.a (.tmp 47) (.tmp 49) t47 t49) fun t50 w=>
  pick P t41 t50 (.bool false) w fun t51 w=>
  lp (α:=Value×Value) (t51,(.int .i64 0)) w fun again10 x10 d_ w=>
   Q3 P .lss T.e (.tmp 52) (.tmp 53) x10.2 x4.2 w fun t54 w=>
   X1 t54 (
    dr w fun Tr Br=>
    Q6 Tr (fun φ59=> ∀w:World,Br w→Q1 x10.1 true w (fieldAddr P T.c (.pointer (some q)) 2) (dk Tr φ59 w)) fun φ59=>
    Q6 Tr (fun φ61=> ∀w:World,Br w→Q1 x10.1 true w (fun w J=>J x10.2 w) (dk Tr φ61 w)) fun φ61=>
    Q6 Tr (fun φ64=> ∀w:World,Br w→Q1 x10.1 true w (fieldAddr P T.c (.pointer (some q)) 2) (dk Tr φ64 w)) fun φ64=>
    Q6 Tr (fun φ66=> ∀w:World,Br w→Q1 x10.1 true w (fun w J=>J x4.2 w) (dk Tr φ66 w)) fun φ66=>
    Q6 Tr (fun φ60=> ∀t59:Value,∀w:World,Br w→φ59 t59 w→Q1 x10.1 true w (Q2 P T.b t59) (dk Tr φ60 w)) fun φ60=>
    Q6 Tr (fun φ62=> ∀t60:Value,∀t61:Value,∀w:World,Br w→φ60 t60 w→φ61 t61 w→Q1 x10.1 true w (indexAddr P T.b t60 t61) (dk Tr φ62 w)) fun φ62=>
    Q6 Tr (fun φ63=> ∀t62:Value,∀w:World,Br w→φ62 t62 w→Q1 x10.1 true w (Q2 P T.a t62) (dk Tr φ63 w)) fun φ63=>
    Q6 Tr (fun φ65=> ∀t64:Value,∀w:World,Br w→φ64 t64 w→Q1 x10.1 true w (Q2 P T.b t64) (dk Tr φ65 w)) fun φ65=>
    Q6 Tr (fun φ67=> ∀t65:Value,∀t66:Value,∀w:World,Br w→φ65 t65 w→φ66 t66 w→Q1 x10.1 true w (indexAddr P T.b t65 t66) (dk Tr φ67 w)) fun φ67=>
    Q6 Tr (fun φ68=> ∀t67:Value,∀w:World,Br w→φ67 t67 w→Q1 x10.1 true w (Q2 P T.a t67) (dk Tr φ68 w)) fun φ68=>
    ∀t59:Value,∀t61:Value,∀t64:Value,∀t66:Value,∀t60:Value,∀t62:Value,∀t63:Value,∀t65:Value,∀t67:Value,∀t68:Value,∀w:World,Br w→φ59 t59 w→φ61 t61 w→φ64 t64 w→φ66 t66 w→φ60 t60 w→φ62 t62 w→φ63 t63 w→φ65 t65 w→φ67 t67 w→φ68 t68 w→
    Q1 x10.1 true w (Q3 P .neq T.a (.tmp 63) (.tmp 68) t63 t68) fun t69 w=>
    pick P x10.1 t69 (.bool false) w fun t70 w=>
    Q3 P .add T.e (.tmp 55) (.const (.int .i64 1)) x10.2 (.int .i64 1) w fun t56 w=>
    again10 (t70,t56) w) (
    Q3 P .add T.e (.tmp 31) (.const (.int .i64 1)) x4.2 (.int .i64 1) w fun t32 w=>
    again4 (x10.1,t32) w)) (
  J x4.1 w):=by
 have hmax:=g1.max
 refine E2 (a:=Value.bool ok) c.like.length (fun n x w'=> ∃σ',Stp w1 σ1 w' σ'∧x=Value.bool (ok&&(List.range n).all fun i=>Md c i&&(List.range i).all (T0 c i))) ⟨σ1,Stp.refl hs1,by simp⟩ fun n x w2 d hn2 hinv=>?_
 obtain ⟨σ2,hk2,rfl⟩:=hinv
 have hq2:=hq.up hk2
 have g12:=g1.up hk2
 have hs2:=hk2.sat
 (repeat refine Hd.h ?_)
 refine ld hs2 hq2 rfl ?_
 refine X0 g12 ?_
 refine Z3 ?_
 refine Q5 (fun hc=>?_) (fun hc=>?_)
 ·have hn':n<c.like.length:=by simpa using hc
  have hnx:(ok&&(List.range (n+1)).all fun i=>Md c i&&(List.range i).all (T0 c i))=((ok&&(List.range n).all fun i=>Md c i&&(List.range i).all (T0 c i))&&(Md c n&&(List.range n).all (T0 c n))):=by rw[Wl,Bool.and_assoc]
  have hP:Md c n=(W9 c.like[n]&& !decide (c.like[n]=c.name)):=by unfold Md;rw[H6 hn']
  obtain ⟨p1,p2⟩:=g12.elS hn'
  have p2:c.like[n].length≤140737488355328:=by simp only[Y9] at p2;omega
  generalize (ok&&(List.range n).all fun i=>Md c i&&(List.range i).all (T0 c i))=acc at hnx⊢
  clear h hc
  cases hacc:acc with
  | false=>
   refine V0 hs2 ?_
   (repeat refine J3 Xt ?_)
   intros;(repeat (rename_i hx;subst hx))
   rename_i w3 hb3
   (repeat refine Hd.h ?_)
   refine Q44 hb3.sat hq2 g12 hn' fun w4 σ4 hk4=>?_
   exact J0 hmax hn' ⟨σ4,hk2.trans (hb3.stp.trans hk4),by rw[hnx,hacc];rfl⟩
  | true=>
   cases hcl:W9 c.like[n] with
   | false=>
    refine V0 hs2 ?_
    have hrc: ∀{w':World} {K:Value→World→Prop},K (.bool false) w'→Q0 P F.f [S c.like[n]] w' K:=fun hK=>Xw _ p2 (by rw[hcl];exact hK)
    (repeat (apply J3;(· intros;(repeat (rename_i hx;subst hx));(repeat' (first | (with_reducible exact Y1 rfl) | (with_reducible exact Ud (Stp.bel (by (repeat (first | exact Stp.refl (by (first | assumption | exact Stp.sat (by assumption) | exact Hst.sat (by assumption))) | assumption | refine Stp.trans ?_ (by first | assumption | exact Hst.stp (by assumption)))))) rfl) | (with_reducible intro _) | (simp only[↓M2,M2,Mb,reduceIte]) | (with_reducible refine hrc ?_) | (with_reducible show Q2 _ _ _ _ _;first | refine Y0 aS aL aR ?_ | refine Z1 aS aL aR ?_ | refine ld aS aL aR ?_) | (with_reducible show indexAddr _ _ _ _ _ _;refine U9 aL au ?_) | (with_reducible show X5 _ _ _ _ _ _ _ _;refine X0 aL ?_) | (with_reducible show Ww _ _ _ _ _ _;refine V6 aR ?_) | (with_reducible show pick _ _ _ _ _ _;refine Vc ?_) | (apply Lx;intro hh;(try simp only[hh,reduceIte,↓M2,M2,Mb,reduceIte]))));done)))
    intros;(repeat (rename_i hx;subst hx))
    rename_i w3 hb3
    (repeat refine Hd.h ?_)
    refine Q44 hb3.sat hq2 g12 hn' fun w4 σ4 hk4=>?_
    exact J0 hmax hn' ⟨σ4,hk2.trans (hb3.stp.trans hk4),by rw[hnx,hacc,hP,hcl];rfl⟩
   | true=>
    refine V0 hs2 ?_
    have hrc: ∀{w':World} {K:Value→World→Prop},K (.bool true) w'→Q0 P F.f [S c.like[n]] w' K:=fun hK=>Xw _ p2 (by rw[hcl];exact hK)
    (repeat (apply J3;(· intros;(repeat (rename_i hx;subst hx));(repeat' (first | (with_reducible exact Y1 rfl) | (with_reducible exact Ud (Stp.bel (by (repeat (first | exact Stp.refl (by (first | assumption | exact Stp.sat (by assumption) | exact Hst.sat (by assumption))) | assumption | refine Stp.trans ?_ (by first | assumption | exact Hst.stp (by assumption)))))) rfl) | (with_reducible intro _) | (simp only[↓M2,M2,Mb,reduceIte]) | (with_reducible refine hrc ?_) | (with_reducible show Q2 _ _ _ _ _;first | refine Y0 aS aL aR ?_ | refine Z1 aS aL aR ?_ | refine ld aS aL aR ?_) | (with_reducible show indexAddr _ _ _ _ _ _;refine U9 aL au ?_) | (with_reducible show X5 _ _ _ _ _ _ _ _;refine X0 aL ?_) | (with_reducible show Ww _ _ _ _ _ _;refine V6 aR ?_) | (with_reducible show pick _ _ _ _ _ _;refine Vc ?_) | (apply Lx;intro hh;(try simp only[hh,reduceIte,↓M2,M2,Mb,reduceIte]))));done)))
    intros;(repeat (rename_i hx;subst hx))
    rename_i w3 hb3
    (repeat refine Hd.h ?_)
    refine I5 ?_
    (repeat refine Hd.h ?_)
    refine Q44 hb3.sat hq2 g12 hn' fun w4 σ4 hk4=>?_
    exact J0 hmax hn' ⟨σ4,hk2.trans (hb3.stp.trans hk4),by rw[hnx,hacc,hP,hcl];simp⟩
 ·have hn': ¬n<c.like.length:=by simpa using hc
  obtain rfl:n=c.like.length:=by omega
  exact h _ _ hk2
set_option maxHeartbeats 2000000 in
theorem Q3E {c:Cla} {lv fv mv:Value} {w1:World} {σ1:Q4} {q:Addr} {ok:Bool} (ai:X4 w1 σ1) (hq:Z2 σ1 q [S c.name,S c.super,lv, .bool c.iface, .bool c.abs, .bool c.fin,fv,mv]) {i:Nat} {N m0:Nat} {Z:Nat→Value→World→Prop} (g2:Sl 3 H0 σ1 fv c.fields) (hi:i<c.fields.length)
 (h: ∀w' σ',Stp w1 σ1 w' σ'→Fe N Z (Value.bool (ok&&(List.range i).all (Xo c i)), .int .i64 (IntKind.i64.wrap (i+1))) w'∧Lc N (Value.bool (ok&&(List.range i).all (Xo c i)), .int .i64 (IntKind.i64.wrap (i+1)))<m0):
 lp (α:=Value×Value) (Value.bool ok,(.int .i64 0)) w1 fun L b d_ w=>
  Q3 P .lss T.e (.tmp 102) (.tmp 103) b.2 (I i) w fun ab w=>
  X1 ab (
   dr w fun e H=>
   Q6 e (fun o=> ∀w:World,H w→Q1 b.1 true w (fieldAddr P T.c (.pointer (some q)) 6) (dk e o w)) fun o=>
   Q6 e (fun C=> ∀w:World,H w→Q1 b.1 true w (fun w J=>J b.2 w) (dk e C w)) fun C=>
   Q6 e (fun D=> ∀w:World,H w→Q1 b.1 true w (fieldAddr P T.c (.pointer (some q)) 6) (dk e D w)) fun D=>
   Q6 e (fun m=> ∀w:World,H w→Q1 b.1 true w (fun w J=>J (I i) w) (dk e m w)) fun m=>
   Q6 e (fun f=> ∀u:Value,∀w:World,H w→o u w→Q1 b.1 true w (Q2 P T.i u) (dk e f w)) fun f=>
   Q6 e (fun j=> ∀n:Value,∀A:Value,∀w:World,H w→f n w→C A w→Q1 b.1 true w (indexAddr P T.i n A) (dk e j w)) fun j=>
   Q6 e (fun g=> ∀E:Value,∀w:World,H w→j E w→Q1 b.1 true w (fieldAddr P T.l E 0) (dk e g w)) fun g=>
   Q6 e (fun M=> ∀z:Value,∀w:World,H w→g z w→Q1 b.1 true w (Q2 P T.a z) (dk e M w)) fun M=>
   Q6 e (fun s=> ∀B:Value,∀w:World,H w→D B w→Q1 b.1 true w (Q2 P T.i B) (dk e s w)) fun s=>
   Q6 e (fun y=> ∀t:Value,∀p:Value,∀w:World,H w→s t w→m p w→Q1 b.1 true w (indexAddr P T.i t p) (dk e y w)) fun y=>
   Q6 e (fun l=> ∀r:Value,∀w:World,H w→y r w→Q1 b.1 true w (fieldAddr P T.l r 0) (dk e l w)) fun l=>
   Q6 e (fun Q=> ∀v:Value,∀w:World,H w→l v w→Q1 b.1 true w (Q2 P T.a v) (dk e Q w)) fun Q=>
   ∀u:Value,∀A:Value,∀B:Value,∀p:Value,∀n:Value,∀E:Value,∀z:Value,∀R:Value,∀t:Value,∀r:Value,∀v:Value,∀U:Value,∀w:World,H w→o u w→C A w→D B w→m p w→f n w→j E w→g z w→M R w→s t w→y r w→l v w→Q U w→
   Q1 b.1 true w (Q3 P .neq T.a (.tmp 114) (.tmp 120) R U) fun X w=>
   pick P b.1 X (.bool false) w fun ac w=>
   Q3 P .add T.e (.tmp 105) (.const (.int .i64 1)) b.2 (.int .i64 1) w fun aa w=>
   L (ac,aa) w) (
   Q3 P .add T.e (.tmp 76) (.const (.int .i64 1)) (I i) (.int .i64 1) w fun W w=>
   (Fe N Z (b.1,W) w∧Lc N (b.1,W)<m0)):=by
 have ao:=g2.max
 refine E2 (a:=Value.bool ok) i (fun k x w'=> ∃σ',Stp w1 σ1 w' σ'∧x=Value.bool (ok&&(List.range k).all (Xo c i))) ⟨σ1,Stp.refl ai,by simp⟩ fun k x w2 d hk ad=>?_
 obtain ⟨σ2,O,rfl⟩:=ad
 have ax:=hq.up O
 have ae:=g2.up O
 have ag:=O.sat
 refine Z3 ?_
 refine Q5 (fun hc=>?_) (fun hc=>?_)
 ·have ak:k<i:=by simpa using hc
  have Y:k<c.fields.length:=by omega
  have V:(ok&&(List.range (k+1)).all (Xo c i))=((ok&&(List.range k).all (Xo c i))&&Xo c i k):=by rw[Wl,Bool.and_assoc]
  have hQ:Xo c i k= !decide (c.fields[k].name=c.fields[i].name):=by unfold Xo Cz;rw[H6 Y,H6 hi]
  rw[hQ] at V
  obtain ⟨p1,_⟩:=ae.elF Y
  obtain ⟨p2,_⟩:=ae.elF hi
  generalize (ok&&(List.range k).all (Xo c i))=aj at V⊢
  clear h hQ hc
  cases aj
  all_goals
   refine V0 ag ?_
   (repeat refine J3 Xt ?_)
   (intros;(repeat (rename_i hx;subst hx));(try simp only[↓M2,M2,Mb,reduceIte]))
   rename_i w3 ah
   exact J0 (by omega) ak ⟨σ2,O.trans ah.stp,by rw[V];rfl⟩
 ·have al:k=i:=by
   have: ¬k<i:=by simpa using hc
   omega
  subst al
  (try simp only[↓M1,M1,Mb,reduceIte])
  exact h _ _ O
set_option maxHeartbeats 4000000 in
theorem X3v {c:Cla} {lv fv mv:Value} {w1:World} {σ1:Q4} {q:Addr} {ok:Bool} (a3:X4 w1 σ1) (hq:Z2 σ1 q [S c.name,S c.super,lv, .bool c.iface, .bool c.abs, .bool c.fin,fv,mv]) {J:Value→World→Prop} (g2:Sl 3 H0 σ1 fv c.fields)
 (h: ∀w' σ',Stp w1 σ1 w' σ'→J (.bool (ok&&(List.range c.fields.length).all fun i=>Dl c i&&(List.range i).all (Xo c i))) w'):
 lp (
  α:=Value×Value) (Value.bool ok,(.int .i64 0)) w1 fun ac g d_ w=>
  fieldAddr P T.c (.pointer (some q)) 6 w fun a0 w=>
  Q2 P T.i a0 w fun a7 w=>
  X5 P .len [T.i] T.e [false] [a7] w fun bb w=>
  Q3 P .lss T.e (.tmp 71) (.tmp 74) g.2 bb w fun a1 w=>
  X1 a1 (
   Q1 g.1 true w (fieldAddr P T.c (.pointer (some q)) 6) fun aw w=>
   Q1 g.1 true w (Q2 P T.i aw) fun bd w=>
   Q1 g.1 true w (fun w J=>J g.2 w) fun ay w=>
   Q1 g.1 true w (indexAddr P T.i bd ay) fun ar w=>
   Q1 g.1 true w (fieldAddr P T.l ar 0) fun a6 w=>
   Q1 g.1 true w (Q2 P T.a a6) fun bi w=>
   Q1 g.1 true w (Q0 P F.w [bi]) fun a2 w=>
   pick P g.1 a2 (.bool false) w fun m w=>
   Q1 m true w (fieldAddr P T.c (.pointer (some q)) 6) fun az w=>
   Q1 m true w (Q2 P T.i az) fun av w=>
   Q1 m true w (fun w J=>J g.2 w) fun a9 w=>
   Q1 m true w (indexAddr P T.i av a9) fun bg w=>
   Q1 m true w (fieldAddr P T.l bg 1) fun bj w=>
   Q1 m true w (Q2 P T.a bj) fun bf w=>
   Q1 m true w (Q0 P F.l [bf]) fun be w=>
   pick P m be (.bool false) w fun ae w=>
   Q1 ae true w (fieldAddr P T.c (.pointer (some q)) 3) fun bc w=>
   Q1 ae true w (Q2 P T.p bc) fun a5 w=>
   Q1 ae true w (J4 P .not a5) fun ap w=>
   pick P ae ap (.bool false) w fun ak w=>
   lp (α:=Value×Value) (ak,(.int .i64 0)) w fun Z f d_ w=>
    Q3 P .lss T.e (.tmp 102) (.tmp 103) f.2 g.2 w fun am w=>
    X1 am (
     dr w fun k Y=>
     Q6 k (fun C=> ∀w:World,Y w→Q1 f.1 true w (fieldAddr P T.c (.pointer (some q)) 6) (dk k C w)) fun C=>
     Q6 k (fun V=> ∀w:World,Y w→Q1 f.1 true w (fun w J=>J f.2 w) (dk k V w)) fun V=>
     Q6 k (fun W=> ∀w:World,Y w→Q1 f.1 true w (fieldAddr P T.c (.pointer (some q)) 6) (dk k W w)) fun W=>
     Q6 k (fun z=> ∀w:World,Y w→Q1 f.1 true w (fun w J=>J g.2 w) (dk k z w)) fun z=>
     Q6 k (fun t=> ∀M:Value,∀w:World,Y w→C M w→Q1 f.1 true w (Q2 P T.i M) (dk k t w)) fun t=>
     Q6 k (fun v=> ∀B:Value,∀R:Value,∀w:World,Y w→t B w→V R w→Q1 f.1 true w (indexAddr P T.i B R) (dk k v w)) fun v=>
     Q6 k (fun u=> ∀X:Value,∀w:World,Y w→v X w→Q1 f.1 true w (fieldAddr P T.l X 0) (dk k u w)) fun u=>
     Q6 k (fun aa=> ∀Q:Value,∀w:World,Y w→u Q w→Q1 f.1 true w (Q2 P T.a Q) (dk k aa w)) fun aa=>
     Q6 k (fun H=> ∀U:Value,∀w:World,Y w→W U w→Q1 f.1 true w (Q2 P T.i U) (dk k H w)) fun H=>
     Q6 k (fun O=> ∀L:Value,∀D:Value,∀w:World,Y w→H L w→z D w→Q1 f.1 true w (indexAddr P T.i L D) (dk k O w)) fun O=>
     Q6 k (fun y=> ∀E:Value,∀w:World,Y w→O E w→Q1 f.1 true w (fieldAddr P T.l E 0) (dk k y w)) fun y=>
     Q6 k (fun ab=> ∀N:Value,∀w:World,Y w→y N w→Q1 f.1 true w (Q2 P T.a N) (dk k ab w)) fun ab=>
     ∀M:Value,∀R:Value,∀U:Value,∀D:Value,∀B:Value,∀X:Value,∀Q:Value,∀af:Value,∀L:Value,∀E:Value,∀N:Value,∀ag:Value,∀w:World,Y w→C M w→V R w→W U w→z D w→t B w→v X w→u Q w→aa af w→H L w→O E w→y N w→ab ag w→
     Q1 f.1 true w (Q3 P .neq T.a (.tmp 114) (.tmp 120) af ag) fun aj w=>
     pick P f.1 aj (.bool false) w fun an w=>
     Q3 P .add T.e (.tmp 105) (.const (.int .i64 1)) f.2 (.int .i64 1) w fun al w=>
     Z (an,al) w) (
     Q3 P .add T.e (.tmp 76) (.const (.int .i64 1)) g.2 (.int .i64 1) w fun a4 w=>
     ac (f.1,a4) w)) (
   J g.1 w):=by
 have A:=g2.max
 refine E2 (a:=Value.bool ok) c.fields.length (fun n x w'=> ∃σ',Stp w1 σ1 w' σ'∧x=Value.bool (ok&&(List.range n).all fun i=>Dl c i&&(List.range i).all (Xo c i))) ⟨σ1,Stp.refl a3,by simp⟩ fun n x w2 d bq ao=>?_
 obtain ⟨σ2,p,rfl⟩:=ao
 have o:=hq.up p
 have r:=g2.up p
 have l:=p.sat
 (repeat refine Hd.h ?_)
 refine ld l o rfl ?_
 refine X0 r ?_
 refine Z3 ?_
 refine Q5 (fun hc=>?_) (fun hc=>?_)
 ·have j:n<c.fields.length:=by simpa using hc
  have ad:(ok&&(List.range (n+1)).all fun i=>Dl c i&&(List.range i).all (Xo c i))=((ok&&(List.range n).all fun i=>Dl c i&&(List.range i).all (Xo c i))&&(Dl c n&&(List.range n).all (Xo c n))):=by rw[Wl,Bool.and_assoc]
  have hP:Dl c n=(M8 c.fields[n].name&&right c.fields[n].kind&& !c.iface):=by unfold Dl Cz;rw[H6 j]
  obtain ⟨p1,r1⟩:=r.elF j
  have b1:c.fields[n].name.length≤140737488355328:=by have:=r1.2.1;simp only[Y9] at this;omega
  have b2:c.fields[n].kind.length≤140737488355328:=by have:=r1.2.2;simp only[Y9] at this;omega
  generalize (ok&&(List.range n).all fun i=>Dl c i&&(List.range i).all (Xo c i))=ai at ad⊢
  clear h hc
  have step: ∀b,b=(ai&&Dl c n)→(ai&&(Dl c n&&(List.range n).all (Xo c n)))=(b&&(List.range n).all (Xo c n)):=fun b e=>by rw[e,Bool.and_assoc]
  cases ai with
  | false=>
   (repeat refine Hd.h ?_)
   refine Q3E l o r j fun w4 σ4 s=>?_
   exact J0 A j ⟨σ4,p.trans s,by rw[ad];rfl⟩
  | true=>
   (repeat refine Hd.h ?_)
   refine ld l o rfl ?_
   (repeat refine Hd.h ?_)
   refine U9 r j ?_
   (repeat refine Hd.h ?_)
   refine ld l p1 rfl ?_
   (repeat refine Hd.h ?_)
   refine Pr _ b1 ?_
   cases d1:M8 c.fields[n].name with
   | false=>
    (repeat refine Hd.h ?_)
    refine Q3E l o r j fun w4 σ4 s=>?_
    exact J0 A j ⟨σ4,p.trans s,by rw[ad,step false (by rw[hP,d1];rfl)]⟩
   | true=>
    (repeat refine Hd.h ?_)
    refine ld l o rfl ?_
    (repeat refine Hd.h ?_)
    refine U9 r j ?_
    (repeat refine Hd.h ?_)
    refine ld l p1 rfl ?_
    (repeat refine Hd.h ?_)
    refine We _ b2 ?_
    cases d2:right c.fields[n].kind with
    | false=>
     (repeat refine Hd.h ?_)
     refine Q3E l o r j fun w4 σ4 s=>?_
     exact J0 A j ⟨σ4,p.trans s,by rw[ad,step false (by rw[hP,d1,d2];rfl)]⟩
    | true=>
     (repeat refine Hd.h ?_)
     refine ld l o rfl ?_
     (repeat refine Hd.h ?_)
     refine Q3E l o r j fun w4 σ4 s=>?_
     exact J0 A j ⟨σ4,p.trans s,by rw[ad,step (!c.iface) (by rw[hP,d1,d2];rfl)]⟩
 ·have j: ¬n<c.fields.length:=by simpa using hc
  obtain rfl:n=c.fields.length:=by omega
  exact h _ _ p
set_option maxHeartbeats 2000000 in
theorem Sv {c:Cla} {lv fv mv:Value} {w1:World} {σ1:Q4} {q:Addr} {ok:Bool} (Z:X4 w1 σ1) (hq:Z2 σ1 q [S c.name,S c.super,lv, .bool c.iface, .bool c.abs, .bool c.fin,fv,mv]) {i:Nat} {q9:Addr} {pv cv hv:Value} {N m0:Nat} {Q:Nat→Value→World→Prop} (g3:Sl 7 M3 σ1 mv c.methods) (hi:i<c.methods.length) (ae:Z2 σ1 q9 [S c.methods[i].name,pv,S c.methods[i].result, .bool c.methods[i].abs,I c.methods[i].locals,cv,hv])
 (h: ∀w' σ',Stp w1 σ1 w' σ'→Fe N Q (Value.bool (ok&&(List.range i).all (Xa c i)), .int .i64 (IntKind.i64.wrap (i+1))) w'∧Lc N (Value.bool (ok&&(List.range i).all (Xa c i)), .int .i64 (IntKind.i64.wrap (i+1)))<m0):
 lp (α:=Value×Value) (Value.bool ok,(.int .i64 0)) w1 fun y b d_ w=>
  Q3 P .lss T.e (.tmp 158) (.tmp 159) b.2 (I i) w fun V w=>
  X1 V (
   dr w fun e B=>
   Q6 e (fun l=> ∀w:World,B w→Q1 b.1 true w (fieldAddr P T.c (.pointer (some q)) 7) (dk e l w)) fun l=>
   Q6 e (fun f=> ∀w:World,B w→Q1 b.1 true w (fun w J=>J b.2 w) (dk e f w)) fun f=>
   Q6 e (fun s=> ∀w:World,B w→Q1 b.1 true w (fieldAddr P T.d (.pointer (some q9)) 0) (dk e s w)) fun s=>
   Q6 e (fun t=> ∀o:Value,∀w:World,B w→l o w→Q1 b.1 true w (Q2 P T.g o) (dk e t w)) fun t=>
   Q6 e (fun r=> ∀j:Value,∀g:Value,∀w:World,B w→t j w→f g w→Q1 b.1 true w (indexAddr P T.g j g) (dk e r w)) fun r=>
   Q6 e (fun m=> ∀n:Value,∀w:World,B w→r n w→Q1 b.1 true w (fieldAddr P T.d n 0) (dk e m w)) fun m=>
   Q6 e (fun z=> ∀p:Value,∀w:World,B w→m p w→Q1 b.1 true w (Q2 P T.a p) (dk e z w)) fun z=>
   Q6 e (fun A=> ∀u:Value,∀w:World,B w→s u w→Q1 b.1 true w (Q2 P T.a u) (dk e A w)) fun A=>
   ∀o:Value,∀g:Value,∀u:Value,∀j:Value,∀n:Value,∀p:Value,∀E:Value,∀D:Value,∀w:World,B w→l o w→f g w→s u w→t j w→r n w→m p w→z E w→A D w→
   Q1 b.1 true w (Q3 P .neq T.a (.tmp 170) (.tmp 172) E D) fun R w=>
   pick P b.1 R (.bool false) w fun O w=>
   Q3 P .add T.e (.tmp 161) (.const (.int .i64 1)) b.2 (.int .i64 1) w fun L w=>
   y (O,L) w) (
   Q3 P .add T.e (.tmp 128) (.const (.int .i64 1)) (I i) (.int .i64 1) w fun C w=>
   (Fe N Q (b.1,C) w∧Lc N (b.1,C)<m0)):=by
 have ah:=g3.max
 refine E2 (a:=Value.bool ok) i (fun k x w'=> ∃σ',Stp w1 σ1 w' σ'∧x=Value.bool (ok&&(List.range k).all (Xa c i))) ⟨σ1,Stp.refl Z,by simp⟩ fun k x w2 d hk U=>?_
 obtain ⟨σ2,v,rfl⟩:=U
 have ao:=hq.up v
 have aj:=ae.up v
 have ab:=g3.up v
 have X:=v.sat
 refine Z3 ?_
 refine Q5 (fun W=>?_) (fun W=>?_)
 ·have ac:k<i:=by simpa using W
  have M:k<c.methods.length:=by omega
  have H:(ok&&(List.range (k+1)).all (Xa c i))=((ok&&(List.range k).all (Xa c i))&&Xa c i k):=by rw[Wl,Bool.and_assoc]
  have hQ:Xa c i k= !decide (c.methods[k].name=c.methods[i].name):=by unfold Xa Ho;rw[H6 M,H6 hi]
  rw[hQ] at H
  obtain ⟨am,ay,ar,p1,_⟩:=ab.elM M
  generalize (ok&&(List.range k).all (Xa c i))=aa at H⊢
  clear h hQ W
  cases aa
  all_goals
   refine V0 X ?_
   (repeat refine J3 Xt ?_)
   (intros;(repeat (rename_i hx;subst hx));(try simp only[↓M2,M2,Mb,reduceIte]))
   rename_i w3 Y
   exact J0 (by omega) ac ⟨σ2,v.trans Y.stp,by rw[H];rfl⟩
 ·have ad:k=i:=by
   have: ¬k<i:=by simpa using W
   omega
  subst ad
  (try simp only[↓M1,M1,Mb,reduceIte])
  exact h _ _ v
set_option maxHeartbeats 4000000 in
theorem X3a {c:Cla} {lv fv mv:Value} {w1:World} {σ1:Q4} {q:Addr} {ok:Bool} (bs:X4 w1 σ1) (hq:Z2 σ1 q [S c.name,S c.super,lv, .bool c.iface, .bool c.abs, .bool c.fin,fv,mv]) {J:Value→World→Prop} (g3:Sl 7 M3 σ1 mv c.methods)
 (h: ∀w' σ',Stp w1 σ1 w' σ'→J (.bool (ok&&(List.range c.methods.length).all fun i=>Mn c i&&(List.range i).all (Xa c i))) w'):
 lp (α:=Value×Value) (Value.bool ok,(.int .i64 0)) w1 fun Y u d_ w=>
  fieldAddr P T.c (.pointer (some q)) 7 w fun bn w=>
  Q2 P T.g bn w fun bd w=>
  X5 P .len [T.g] T.e [false] [bd] w fun a3 w=>
  Q3 P .lss T.e (.tmp 123) (.tmp 126) u.2 a3 w fun az w=>
  X1 az (
   fieldAddr P T.c (.pointer (some q)) 7 w fun ar w=>
   Q2 P T.g ar w fun a4 w=>
   indexAddr P T.g a4 u.2 w fun be w=>
   Q2 P T.d be w fun ay w=>
   W6 P T.d w fun t9 w=>
   Z4 P T.d t9 ay w fun _u w=>
   Q1 u.1 true w (Q2 P T.d t9) fun a2 w=>
   Q1 u.1 true w (Q0 P F.a2 [a2]) fun bf w=>
   pick P u.1 bf (.bool false) w fun r w=>
   Q1 r true w (fieldAddr P T.d t9 3) fun aq w=>
   Q1 r true w (Q2 P T.p aq) fun ax w=>
   Q1 r true w (J4 P .not ax) fun bg w=>
   Q1 r true w (fun w J=>J bg w) fun ab w=>
   Q1 ab false w (fieldAddr P T.c (.pointer (some q)) 4) fun bm w=>
   Q1 ab false w (Q2 P T.p bm) fun ba w=>
   Q1 r true w (pick P ab (.bool true) ba) fun bi w=>
   pick P r bi (.bool false) w fun p w=>
   Q1 p true w (fieldAddr P T.c (.pointer (some q)) 3) fun av w=>
   Q1 p true w (Q2 P T.p av) fun a1 w=>
   Q1 p true w (J4 P .not a1) fun a9 w=>
   Q1 p true w (fun w J=>J a9 w) fun ac w=>
   Q1 ac false w (fieldAddr P T.d t9 3) fun a5 w=>
   Q1 ac false w (Q2 P T.p a5) fun a7 w=>
   Q1 p true w (pick P ac (.bool true) a7) fun bj w=>
   pick P p bj (.bool false) w fun bb w=>
   lp (α:=Value×Value) (bb,(.int .i64 0)) w fun ad k d_ w=>
    Q3 P .lss T.e (.tmp 158) (.tmp 159) k.2 u.2 w fun a8 w=>
    X1 a8 (
     dr w fun y Br=>
     Q6 y (fun M=> ∀w:World,Br w→Q1 k.1 true w (fieldAddr P T.c (.pointer (some q)) 7) (dk y M w)) fun M=>
     Q6 y (fun z=> ∀w:World,Br w→Q1 k.1 true w (fun w J=>J k.2 w) (dk y z w)) fun z=>
     Q6 y (fun E=> ∀w:World,Br w→Q1 k.1 true w (fieldAddr P T.d t9 0) (dk y E w)) fun E=>
     Q6 y (fun H=> ∀O:Value,∀w:World,Br w→M O w→Q1 k.1 true w (Q2 P T.g O) (dk y H w)) fun H=>
     Q6 y (fun D=> ∀A:Value,∀L:Value,∀w:World,Br w→H A w→z L w→Q1 k.1 true w (indexAddr P T.g A L) (dk y D w)) fun D=>
     Q6 y (fun B=> ∀N:Value,∀w:World,Br w→D N w→Q1 k.1 true w (fieldAddr P T.d N 0) (dk y B w)) fun B=>
     Q6 y (fun Z=> ∀C:Value,∀w:World,Br w→B C w→Q1 k.1 true w (Q2 P T.a C) (dk y Z w)) fun Z=>
     Q6 y (fun aa=> ∀Q:Value,∀w:World,Br w→E Q w→Q1 k.1 true w (Q2 P T.a Q) (dk y aa w)) fun aa=>
     ∀O:Value,∀L:Value,∀Q:Value,∀A:Value,∀N:Value,∀C:Value,∀aj:Value,∀ah:Value,∀w:World,Br w→M O w→z L w→E Q w→H A w→D N w→B C w→Z aj w→aa ah w→
     Q1 k.1 true w (Q3 P .neq T.a (.tmp 170) (.tmp 172) aj ah) fun bp w=>
     pick P k.1 bp (.bool false) w fun a0 w=>
     Q3 P .add T.e (.tmp 161) (.const (.int .i64 1)) k.2 (.int .i64 1) w fun bc w=>
     ad (a0,bc) w) (
     Q3 P .add T.e (.tmp 128) (.const (.int .i64 1)) u.2 (.int .i64 1) w fun aw w=>
     Y (k.1,aw) w)) (
   J u.1 w):=by
 have o:=g3.max
 refine E2 (a:=Value.bool ok) c.methods.length (fun n x w'=> ∃σ',Stp w1 σ1 w' σ'∧x=Value.bool (ok&&(List.range n).all fun i=>Mn c i&&(List.range i).all (Xa c i))) ⟨σ1,Stp.refl bs,by simp⟩ fun n x w2 d b5 a6=>?_
 obtain ⟨σ2,W,rfl⟩:=a6
 have am:=hq.up W
 have ag:=g3.up W
 have af:=W.sat
 (repeat refine Hd.h ?_)
 refine ld af am rfl ?_
 refine X0 ag ?_
 refine Z3 ?_
 refine Q5 (fun hc=>?_) (fun hc=>?_)
 ·have f:n<c.methods.length:=by simpa using hc
  have v:(ok&&(List.range (n+1)).all fun i=>Mn c i&&(List.range i).all (Xa c i))=((ok&&(List.range n).all fun i=>Mn c i&&(List.range i).all (Xa c i))&&(Mn c n&&(List.range n).all (Xa c n))):=by rw[Wl,Bool.and_assoc]
  have hP:Mn c n=(F6 c.methods[n]&&(!c.methods[n].abs||c.abs)&&(!c.iface||c.methods[n].abs)):=by unfold Mn Ho;rw[H6 f]
  obtain ⟨pv,cv,hv,p1,r1⟩:=ag.elM f
  generalize (ok&&(List.range n).all fun i=>Mn c i&&(List.range i).all (Xa c i))=ak at v⊢
  clear h hc
  have step: ∀b,b=(ak&&Mn c n)→(ak&&(Mn c n&&(List.range n).all (Xa c n)))=(b&&(List.range n).all (Xa c n)):=fun b e=>by rw[e,Bool.and_assoc]
  (repeat refine Hd.h ?_)
  refine ld af am rfl ?_
  refine U9 ag f ?_
  refine Z1 af p1 rfl ?_
  refine Y6 af (by rfl) rfl (Rep.one r1) fun q9 w3 σ3 X ao=>?_
  have al:=X.sat
  have bh:=am.up X
  have bk:=ag.up X
  have r3:=RMe_lift r1 ⟨X.le⟩
  have ai:=W.trans X
  cases ak with
  | false=>
   (repeat refine Hd.h ?_)
   refine Sv al bh bk f ao fun w4 R l=>?_
   exact J0 o f ⟨R,ai.trans l,by rw[v];rfl⟩
  | true=>
   (repeat refine Hd.h ?_)
   refine Z1 al ao rfl ?_
   (repeat refine Hd.h ?_)
   refine Q9l al r3 fun w5 σ5 V=>?_
   have m:=V.sat
   have t:=bh.up V
   have g:=ao.up V
   have U:=bk.up V
   have s:=ai.trans V
   cases d1:F6 c.methods[n] with
   | false=>
    (repeat refine Hd.h ?_)
    refine Sv m t U f g fun w4 R l=>?_
    exact J0 o f ⟨R,s.trans l,by rw[v,step false (by rw[hP,d1];rfl)]⟩
   | true=>
    (repeat refine Hd.h ?_)
    refine ld m g rfl ?_
    (repeat refine Hd.h ?_)
    have j: ∀b1:Bool,b1=(!c.methods[n].abs||c.abs)→Mn c n=(b1&&(!c.iface||c.methods[n].abs)):=fun b1 e=>by rw[hP,d1,e];rfl
    cases d2:c.methods[n].abs with
    | false=>
     rw[d2] at j g
     simp only[Bool.not_true,Bool.not_false]
     (repeat refine Hd.h ?_)
     refine ld m t rfl ?_
     (repeat refine Hd.h ?_)
     cases d4:c.iface with
     | false=>
      simp only[Bool.not_true,Bool.not_false]
      (repeat refine Hd.h ?_)
      refine Sv m t U f (by rw[d2];exact g) fun w4 R l=>?_
      exact J0 o f ⟨R,s.trans l,by rw[v,step true (by rw[j true rfl,d4];rfl)]⟩
     | true=>
      simp only[Bool.not_true,Bool.not_false]
      (repeat refine Hd.h ?_)
      refine ld m g rfl ?_
      (repeat refine Hd.h ?_)
      refine Sv m t U f (by rw[d2];exact g) fun w4 R l=>?_
      exact J0 o f ⟨R,s.trans l,by rw[v,step false (by rw[j true rfl,d4];rfl)]⟩
    | true=>
     rw[d2] at j g
     simp only[Bool.not_true,Bool.not_false]
     (repeat refine Hd.h ?_)
     refine ld m t rfl ?_
     cases d3:c.abs with
     | false=>
      (repeat refine Hd.h ?_)
      refine Sv m t U f (by rw[d2];exact g) fun w4 R l=>?_
      exact J0 o f ⟨R,s.trans l,by rw[v,step false (by rw[j false (by rw[d3];rfl)];rfl)]⟩
     | true=>
      (repeat refine Hd.h ?_)
      refine ld m t rfl ?_
      (repeat refine Hd.h ?_)
      cases d4:c.iface with
      | false=>
       simp only[Bool.not_true,Bool.not_false]
       (repeat refine Hd.h ?_)
       refine Sv m t U f (by rw[d2];exact g) fun w4 R l=>?_
       exact J0 o f ⟨R,s.trans l,by rw[v,step true (by rw[j true (by rw[d3];rfl),d4];rfl)]⟩
      | true=>
       simp only[Bool.not_true,Bool.not_false]
       (repeat refine Hd.h ?_)
       refine ld m g rfl ?_
       (repeat refine Hd.h ?_)
       refine Sv m t U f (by rw[d2];exact g) fun w4 R l=>?_
       exact J0 o f ⟨R,s.trans l,by rw[v,step true (by rw[j true (by rw[d3];rfl),d4];rfl)]⟩
 ·have f: ¬n<c.methods.length:=by simpa using hc
  obtain rfl:n=c.methods.length:=by omega
  exact h _ _ W
theorem X2T {c:Cla} {M L mv:Value} {w1:World} {σ1:Q4} {q:Addr} {ok:Bool} (d:X4 w1 σ1) (g:Z2 σ1 q [S c.name,S c.super,M, .bool c.iface, .bool c.abs, .bool c.fin,L,mv]) (h:K (.bool (ok&&Q9v c)) w1):
 Q1 (Value.bool ok) true w1 (fieldAddr P T.c (.pointer (some q)) 3) fun l w=>
  Q1 (Value.bool ok) true w (Q2 P T.p l) fun u w=>
  Q1 (Value.bool ok) true w (J4 P .not u) fun r w=>
  Q1 (Value.bool ok) true w (fun w J=>J r w) fun b w=>
  Q1 b false w (fieldAddr P T.c (.pointer (some q)) 4) fun A w=>
  Q1 b false w (Q2 P T.p A) fun p w=>
  Q1 b false w (fun w J=>J p w) fun e w=>
  Q1 e true w (fieldAddr P T.c (.pointer (some q)) 1) fun o w=>
  Q1 e true w (Q2 P T.a o) fun m w=>
  Q1 e true w (Q3 P .eql T.a (.tmp 185) (.const (.string ⟨#[79,98,106,101,99,116]⟩)) m (.string ⟨#[79,98,106,101,99,116]⟩)) fun s w=>
  Q1 b false w (pick P e s (.bool false)) fun t w=>
  Q1 (Value.bool ok) true w (pick P b (.bool true) t) fun y w=>
  pick P (Value.bool ok) y (.bool false) w fun a w=>
  Q1 a true w (fieldAddr P T.c (.pointer (some q)) 4) fun j w=>
  Q1 a true w (Q2 P T.p j) fun B w=>
  Q1 a true w (fun w J=>J B w) fun f w=>
  Q1 f true w (fieldAddr P T.c (.pointer (some q)) 5) fun k w=>
  Q1 f true w (Q2 P T.p k) fun v w=>
  Q1 a true w (pick P f v (.bool false)) fun C w=>
  Q1 a true w (J4 P .not C) fun z w=>
  pick P a z (.bool false) w fun n w=>
  K n w:=by
 unfold Q9v at h
 have H:decide (c.super=J7)=decide (c.super=[79,98,106,101,99,116]):=rfl
 rw[H] at h
 cases ok with
 | false=>(try simp only[↓M1,M1,Mb,reduceIte]);simpa using h
 | true=>
  (try simp only[↓M1,M1,Mb,reduceIte])
  refine ld d g rfl ?_
  (try simp only[↓M1,M1,Mb,reduceIte])
  cases E:c.iface with
  | false=>
   rw[E] at h
   (try simp only[↓M1,M1,Mb,reduceIte])
   refine ld d g rfl ?_
   cases i:c.abs with
   | false=>rw[i] at h;(try simp only[↓M1,M1,Mb,reduceIte]);simpa using h
   | true=>
    rw[i] at h
    (try simp only[↓M1,M1,Mb,reduceIte])
    refine ld d g rfl ?_
    (try simp only[↓M1,M1,Mb,reduceIte])
    simpa using h
  | true=>
   rw[E] at h
   (try simp only[↓M1,M1,Mb,reduceIte])
   refine ld d g rfl ?_
   cases i:c.abs with
   | false=>rw[i] at h;(try simp only[↓M1,M1,Mb,reduceIte]);simpa using h
   | true=>
    rw[i] at h
    (try simp only[↓M1,M1,Mb,reduceIte])
    refine ld d g rfl ?_
    (try simp only[↓M1,M1,Mb,reduceIte])
    cases D:decide (c.super=[79,98,106,101,99,116]) with
    | false=>rw[D] at h;(try simp only[↓M1,M1,Mb,reduceIte]);simpa using h
    | true=>
     rw[D] at h
     (try simp only[↓M1,M1,Mb,reduceIte])
     refine ld d g rfl ?_
     simp only[i,↓M1,M1,Mb,reduceIte]
     refine ld d g rfl ?_
     (try simp only[↓M1,M1,Mb,reduceIte])
     simpa using h
end Go.Proofs.YtfppjenblllfaaaGreatDoor

namespace Go.Proofs.YtfppjenblllfaaaGreatDoor
open Go.Emb Go.RowKit Go.Kd Go.Hm
theorem Q7w {c:Cla} (h:M6 c=0):W9 c.name=true∧W9 c.super=true∧(c.iface=true→c.super=J7∧c.fields=[]∧c.abs=true∧ ∀m∈c.methods,m.abs=true)∧(∀m∈c.methods,m.abs=true→c.abs=true)∧c.fields.all Ep=true∧c.methods.all F6=true∧H9 Fld.name [] c.fields=true∧H9 Hm.Met.name [] c.methods=true:=by
 unfold M6 at h
 split at h
 ·cases h
 split at h
 ·rename_i k
  simp only[Lj,Bool.and_eq_true] at k
  obtain ⟨⟨⟨⟨⟨⟨⟨⟨j,u⟩,v⟩,g⟩,f⟩,s⟩,n⟩,o⟩,q⟩:=k
  refine ⟨List.all_eq_true.1 j c.name (by simp),List.all_eq_true.1 j c.super (by simp),fun p=>?_,fun m i t=>?_,o,q,s,n⟩
  ·rw[p] at g
   simp only[Bool.true_and,Bool.not_eq_true',Bool.or_eq_false_iff,Bool.not_eq_false',decide_eq_true_eq] at g
   obtain ⟨⟨⟨a,b⟩,d⟩,e⟩:=g
   refine ⟨b,d,a,fun m i=>?_⟩
   have:=List.any_eq_false.1 e m i
   simpa using this
  ·simp only[Bool.not_eq_true',Bool.or_eq_false_iff] at f
   obtain ⟨_,f⟩:=f
   have r:c.methods.any (·.abs)=true:=List.any_eq_true.2 ⟨m,i,t⟩
   rw[r] at f
   simpa using f
 ·cases h
theorem Q8V {l:List Cla} {c:Cla} (b:c∈Q7 l) (a:c.iface=true):c∈l:=by
 rcases List.mem_append.1 b with h | h
 ·have: ∀c∈G4,c.iface=false:=by decide
  rw[this c h] at a;cases a
 ·exact h
section
variable {l : List Cla} (wf : Wf l)
include wf
theorem Wf.likes {c:Cla} (f:c∈Q7 l) {u:Q8} (b:u∈c.like): ∃d,lk (Q7 l) u=some d∧d.iface=true:=by
 rcases List.mem_append.1 f with h | h
 ·rw[(Jb c h).2.2] at b;simp at b
 ·have:=wf.up c h
  unfold M5 at this
  split at this
  ·cases this
  ·split at this
   ·cases this
   ·rename_i a
    have a:=List.any_eq_false.1 (eq_false_of_ne_true a) u b
    unfold E0 at a
    cases e:lk (Q7 l) u with
    | none=>rw[e] at a;simp at a
    | some d=>rw[e] at a;exact ⟨d,rfl,by simpa using a⟩
theorem Wf.above_iface {u b:Q8} (h:Hm.Reach (lk (Q7 l)) u b): ∀d,lk (Q7 l) u=some d→d.iface=true→b=J7∨ ∃e,lk (Q7 l) b=some e∧e.iface=true:=by
 induction h with
 | refl h=>intro d a c;exact .inr ⟨d,a,c⟩
 | step j hu k m=>
  intro d a c
  rw[j] at a;cases a
  obtain ⟨e,i,_⟩:=V2 j
  rcases List.mem_cons.1 hu with rfl | hu
  ·rw[((Q7w (wf.ck _ (Q8V i c))).2.2.1 c).1] at k
   exact .inl (wf.atRoot k)
  ·obtain ⟨f,n,g⟩:=wf.likes i hu
   exact m f n g
theorem Wf.by_chain {n b:Q8} (h:Hm.Reach (lk (Q7 l)) n b): ∀e,lk (Q7 l) b=some e→e.iface=false→b≠J7→e∈chain (Q7 l) n:=by
 induction h with
 | refl h=>
  intro e c _ _
  rw[K0 wf.acy,c];simp
 | step i hu r o=>
  intro e c j k
  obtain ⟨en,p,_⟩:=V2 i
  rcases List.mem_cons.1 hu with rfl | hu
  ·rw[K0 wf.acy,i]
   exact List.mem_cons_of_mem _ (o e c j k)
  ·obtain ⟨f,q,d⟩:=wf.likes p hu
   rcases wf.above_iface r f q d with h | ⟨g,m,a⟩
   ·exact absurd h k
   ·rw[c] at m;cases m;rw[j] at a;cases a
theorem Wf.chain_tail: ∀(k:Nat) {n:Q8} {c:Cla},I7 (Q7 l) n<k→c∈chain (Q7 l) n→ ∃a,chain (Q7 l) n=a++chain (Q7 l) c.name:=by
 intro k
 induction k with
 | zero=>intro n c h;omega
 | succ k i=>
  intro n c o hc
  rw[K0 wf.acy] at hc
  cases b:lk (Q7 l) n with
  | none=>rw[b] at hc;simp at hc
  | some d=>
   rw[b] at hc
   have f:=(V2 b).1
   rcases List.mem_cons.1 hc with rfl | hc
   ·exact ⟨[],by rw[f];rfl⟩
   ·cases g:lk (Q7 l) d.super with
    | none=>rw[T6 g] at hc;simp at hc
    | some e=>
     have m:d.super∈U2 d:=by simp[U2]
     obtain ⟨a,j⟩:=i (by have:=Yw wf.acy b m g;omega) hc
     exact ⟨d::a,by rw[K0 wf.acy,b];show d::chain (Q7 l) d.super=_;rw[j];rfl⟩
theorem Wf.fields_tail {n:Q8} {c:Cla} (h:c∈chain (Q7 l) n): ∃a,U4 (Q7 l) n=U4 (Q7 l) c.name++a:=by
 obtain ⟨b,d⟩:=wf.chain_tail _ (Nat.lt_succ_self _) h
 exact ⟨b.reverse.flatMap (·.fields),by unfold U4;rw[d];simp⟩
theorem Wf.none_nil:lk (Q7 l) []=none:=by
 cases h:lk (Q7 l) [] with
 | none=>rfl
 | some c=>exact absurd (wf.lkn h) (by decide)
theorem Wf.fault_fields:U4 (Q7 l) W4=[⟨Qi,D7,false⟩]:=by
 unfold U4
 rw[K0 wf.acy,wf.fault]
 simp only
 rw[K0 wf.acy,wf.root]
 simp only
 rw[T6 wf.none_nil]
 rfl
theorem Wf.what {n:Q8} (h:O5 (Q7 l) n W4=true) {c:Cla} (f:lk (Q7 l) n=some c):F5 (Q7 l) n Qi=some 0:=by
 have e:=(wf.sub_class f).1 h
 have d:=wf.by_chain e _ wf.fault rfl (by decide)
 obtain ⟨a,b⟩:=wf.fields_tail d
 unfold F5
 rw[b,show (Cla.mk W4 J7 [] false false false [⟨Qi,D7,false⟩] []).name=W4 from rfl,wf.fault_fields]
 rfl
end
end Go.Proofs.YtfppjenblllfaaaGreatDoor

namespace Go.Hm
open Go.Kd
theorem Ds {α β:Type} {f:α→Option β}: ∀{l:List α} {y:β},l.findSome? f=some y→ ∃x∈l,f x=some y
 | a::r,y,h=>by
  rw[List.findSome?_cons] at h
  split at h
  ·rename_i z b;cases h;exact ⟨a,by simp,b⟩
  ·obtain ⟨x,c,d⟩:=Ds h;exact ⟨x,by simp[c],d⟩
theorem Q7e {L:Ur} {n:Q8}: ∀(f:Nat) {c:Cla} {u:Q8} {m:Hm.Met},Mv L f c n=some (u,m)→ ∃v∈c.like,Hm.Reach L v u∧ ∃d,L u=some d∧H1 d n=some m:=by
 intro f
 induction f with
 | zero=>intro c u m h;cases h
 | succ f j=>
  intro c u m h
  simp only[Mv] at h
  obtain ⟨v,i,a⟩:=Ds h
  cases b:L v with
  | none=>rw[b] at a;cases a
  | some d=>
   rw[b] at a
   simp only at a
   cases e:H1 d n with
   | some m'=>rw[e] at a;cases a;exact ⟨_,i, .refl b,d,b,e⟩
   | none=>
    rw[e] at a
    obtain ⟨p,g,o,k⟩:=j a
    exact ⟨v,i, .step b (by simp[U2,g]) o,k⟩
end Go.Hm
namespace Go.Proofs.YtfppjenblllfaaaGreatDoor
open Go.Emb Go.RowKit Go.Kd Go.Hm
section
variable {l : List Cla} (wf : Wf l)
include wf
theorem Wf.method_some {k n o:Q8} {m:Hm.Met} (h:Z9 (Q7 l) k n=some (o,m)): ∃c,lk (Q7 l) o=some c∧H1 c n=some m∧Hm.Reach (lk (Q7 l)) k o:=by
 unfold Z9 at h
 split at h
 ·rename_i r g
  cases h
  obtain ⟨c,a,e⟩:=Ds g
  obtain ⟨m',b,s⟩:=Option.map_eq_some_iff.1 e
  cases s
  obtain ⟨f,i⟩:=Bx wf.acy _ (Nat.lt_succ_self _) a
  exact ⟨c,i,b,f⟩
 ·obtain ⟨c,a,e⟩:=Ds h
  obtain ⟨f,i⟩:=Bx wf.acy _ (Nat.lt_succ_self _) a
  obtain ⟨v,p,g,d,q,j⟩:=Q7e _ e
  exact ⟨d,q,j,f.trans (.step i (by simp[U2,p]) g)⟩
end
end Go.Proofs.YtfppjenblllfaaaGreatDoor
namespace Go.Proofs.YtfppjenblllfaaaGreatDoor
open Go.Emb Go.RowKit Go.Kd Go.Hm
end Go.Proofs.YtfppjenblllfaaaGreatDoor
namespace Go.Proofs.YtfppjenblllfaaaGreatDoor
open Go.Emb Go.RowKit Go.Kd Go.Hm
section
variable {l : List Cla} (wf : Wf l)
include wf
end
end Go.Proofs.YtfppjenblllfaaaGreatDoor

namespace Go.Proofs.YtfppjenblllfaaaGreatDoor
open Go.Emb Go.RowKit Go.Kd Go.Hm
variable {w : World} {K : Value → World → Prop} {σ : Q4}
def Q5Y (c:Cla):Bool:=((((W9 c.name&&W9 c.super&& !decide (c.name=c.super))&&(List.range c.like.length).all fun i=>Md c i&&(List.range i).all (T0 c i))&&(List.range c.fields.length).all fun i=>Dl c i&&(List.range i).all (Xo c i))&&(List.range c.methods.length).all fun i=>Mn c i&&(List.range i).all (Xa c i))&&Q9v c
theorem X18 {α:Type} {f:α→Q8}: ∀(xs a:List α),H9 f a xs=true↔(xs.map f).Nodup∧ ∀x∈xs,∀y∈a,f y≠f x:=by
 intro xs
 induction xs with
 | nil=>intro a;simp[H9]
 | cons x r h=>
  intro a
  simp only[H9,Bool.and_eq_true,h,Bool.not_eq_true',List.map_cons,List.nodup_cons]
  rw[←Bool.not_eq_true,List.any_eq_true]
  simp only[decide_eq_true_eq,not_exists,not_and,List.mem_append,List.mem_cons,List.not_mem_nil,or_false,List.mem_map]
  constructor
  ·rintro ⟨g,d,c⟩
   refine ⟨⟨fun y hy e=>c y hy x (.inr rfl) e.symm,d⟩,fun y hy z b=>?_⟩
   rcases hy with rfl | hy
   ·exact g z b
   ·exact c y hy z (.inl b)
  ·rintro ⟨⟨g,d⟩,c⟩
   refine ⟨fun y hy=>c x (.inl rfl) y hy,d,fun y hy z b=>?_⟩
   rcases b with b | rfl
   ·exact c y (.inr hy) z b
   ·exact fun e=>g y hy e.symm
theorem Q0E {α:Type} {f:α→Q8} {xs:List α} {p:α→Bool} {P:Nat→Bool} {Q:Nat→Nat→Bool} (d: ∀i (h:i<xs.length),P i=p xs[i]) (c: ∀i (h:i<xs.length) k (o:k<xs.length),Q i k= !decide (f xs[k]=f xs[i])):
 ((List.range xs.length).all fun i=>P i&&(List.range i).all (Q i))=true↔(∀x∈xs,p x=true)∧H9 f [] xs=true:=by
 rw[X18,List.all_eq_true]
 simp only[List.mem_range,Bool.and_eq_true,List.all_eq_true,List.not_mem_nil,false_implies,implies_true,and_true]
 rw[List.nodup_iff_pairwise_ne,List.pairwise_iff_getElem]
 simp only[List.length_map,List.getElem_map]
 constructor
 ·intro h
  refine ⟨fun x g=>?_,fun i j a e b=>?_⟩
  ·obtain ⟨i,a,rfl⟩:=List.getElem_of_mem g
   rw[←d i a];exact (h i a).1
  ·have:=(h j e).2 i b
   rw[c j e i a] at this
   simpa using this
 ·rintro ⟨l,n⟩ i a
  refine ⟨by rw[d i a];exact l _ (List.getElem_mem a),fun k m=>?_⟩
  rw[c i a k (by omega)]
  simpa using n k i (by omega) a m
theorem X1H (c:Cla):Q5Y c=Lj c:=by
 have v:=Q0E (f:=id) (xs:=c.like) (p:=fun y=>W9 y&& !decide (y=c.name)) (P:=Md c) (Q:=T0 c) (fun i h=>by unfold Md;rw[H6 h]) (fun i h k n=>by unfold T0;rw[H6 h,H6 n];rfl)
 have g:=Q0E (f:=Fld.name) (xs:=c.fields) (p:=fun f=>M8 f.name&&right f.kind&& !c.iface) (P:=Dl c) (Q:=Xo c) (fun i h=>by unfold Dl Cz;rw[H6 h]) (fun i h k n=>by unfold Xo Cz;rw[H6 h,H6 n])
 have d:=Q0E (f:=Hm.Met.name) (xs:=c.methods) (p:=fun m=>F6 m&&(!m.abs||c.abs)&&(!c.iface||m.abs)) (P:=Mn c) (Q:=Xa c) (fun i h=>by unfold Mn Ho;rw[H6 h]) (fun i h k n=>by unfold Xa Ho;rw[H6 h,H6 n])
 rw[Bool.eq_iff_iff]
 unfold Q5Y Lj Q9v
 simp only[Bool.and_eq_true,v,g,d]
 simp only[Bool.and_eq_true,Bool.not_eq_true',Bool.or_eq_true,Bool.and_eq_false_iff,Bool.or_eq_false_iff,decide_eq_true_eq,decide_eq_false_iff_not,List.all_eq_true,List.mem_cons,List.any_eq_false,Ep,Bool.not_eq_false']
 constructor
 ·rintro ⟨⟨⟨⟨⟨⟨l,o⟩,u⟩,a,r⟩,h6,q⟩,j,t⟩,b,s⟩
  refine ⟨⟨⟨⟨⟨⟨⟨⟨?_,?_⟩,r⟩,?_⟩,s,?_⟩,q⟩,t⟩,?_⟩,fun m d=>(j m d).1.1⟩
  ·rintro x (rfl | rfl | hx)
   ·exact l
   ·exact o
   ·exact (a x hx).1
  ·rintro x (rfl | hx)
   ·exact u
   ·exact fun e=>(a x hx).2 e.symm
  ·cases z:c.iface with
   | false=>exact .inl rfl
   | true=>
    rw[z] at b h6 j
    have b:=b.resolve_left (by decide)
    refine .inr ⟨⟨b,?_⟩,fun m d e=>?_⟩
    ·rw[List.eq_nil_iff_forall_not_mem]
     intro f g
     exact absurd (h6 f g).2 (by decide)
    ·have:=(j m d).2.resolve_left (by decide)
     rw[this] at e;cases e
  ·cases A:c.abs with
   | true=>exact .inr rfl
   | false=>
    rw[A] at j
    refine .inl fun m d e=>?_
    have:=(j m d).1.2.resolve_right (by decide)
    rw[this] at e;cases e
  ·exact fun f g=>(h6 f g).1
 ·rintro ⟨⟨⟨⟨⟨⟨⟨⟨l,o⟩,u⟩,a⟩,r,h6⟩,q⟩,j⟩,t⟩,b⟩
  refine ⟨⟨⟨⟨⟨⟨l _ (.inl rfl),l _ (.inr (.inl rfl))⟩,o _ (.inl rfl)⟩,fun x hx=>⟨l x (.inr (.inr hx)),fun e=>o x (.inr hx) e.symm⟩,u⟩,fun f g=>⟨t f g,?_⟩,q⟩,fun m d=>⟨⟨b m d,?_⟩,?_⟩,j⟩,?_,r⟩
  ·rcases a with a | ⟨⟨_,a⟩,_⟩
   ·exact a
   ·rw[a] at g;simp at g
  ·rcases h6 with h6 | h6
   ·left;exact eq_false_of_ne_true (h6 m d)
   ·exact .inr h6
  ·rcases a with a | ⟨_,a⟩
   ·exact .inl a
   ·right
    cases hx:m.abs with
    | true=>rfl
    | false=>exact absurd hx (a m d)
  ·rcases a with a | ⟨⟨a,_⟩,_⟩
   ·exact .inl a
   ·exact .inr a
set_option maxHeartbeats 4000000 in
theorem X0N {c:Cla} {cs:List Value} (hs:X4 w σ) (hc:V4 σ c cs) (h: ∀w' σ',Stp w σ w' σ'→K (.bool (Q5Y c)) w'):Q0 P F.bB [.agg cs.toArray] w K:=Kw (by
 unfold Lh
 obtain ⟨lv,fv,mv,rfl,f1,f2,f3,f4,f5⟩:=hc
 have c7:c.name.length≤140737488355328:=by simp only[Y9] at f4;omega
 have c5:c.super.length≤140737488355328:=by simp only[Y9] at f5;omega
 refine Z0 hs fun q w1 σ1 b8 hq=>?_
 have g1:=f1.up b8
 have g2:=f2.up b8
 have g3:=f3.up b8
 have bh:=b8.sat
 have ch: ∀ok:Bool,ok=(W9 c.name&&W9 c.super&& !decide (c.name=c.super))→_:=fun ok e=>
  X1v (w1:=w1) (σ1:=σ1) (ok:=ok) bh hq (J:=fun v w=>lp (α:=Value×Value) (v,(.int .i64 0)) w fun ca o d_ w=>
   fieldAddr P T.c (.pointer (some q)) 6 w fun ct w=>
   Q2 P T.i ct w fun c4 w=>
   X5 P .len [T.i] T.e [false] [c4] w fun c8 w=>
   Q3 P .lss T.e (.tmp 71) (.tmp 74) o.2 c8 w fun cu w=>
   X1 cu (
    Q1 o.1 true w (fieldAddr P T.c (.pointer (some q)) 6) fun cq w=>
    Q1 o.1 true w (Q2 P T.i cq) fun da w=>
    Q1 o.1 true w (fun w J=>J o.2 w) fun cz w=>
    Q1 o.1 true w (indexAddr P T.i da cz) fun cx w=>
    Q1 o.1 true w (fieldAddr P T.l cx 0) fun c3 w=>
    Q1 o.1 true w (Q2 P T.a c3) fun dd w=>
    Q1 o.1 true w (Q0 P F.w [dd]) fun c0 w=>
    pick P o.1 c0 (.bool false) w fun R w=>
    Q1 R true w (fieldAddr P T.c (.pointer (some q)) 6) fun cr w=>
    Q1 R true w (Q2 P T.i cr) fun cy w=>
    Q1 R true w (fun w J=>J o.2 w) fun c6 w=>
    Q1 R true w (indexAddr P T.i cy c6) fun cw w=>
    Q1 R true w (fieldAddr P T.l cw 1) fun de w=>
    Q1 R true w (Q2 P T.a de) fun dc w=>
    Q1 R true w (Q0 P F.l [dc]) fun db w=>
    pick P R db (.bool false) w fun cd w=>
    Q1 cd true w (fieldAddr P T.c (.pointer (some q)) 3) fun c9 w=>
    Q1 cd true w (Q2 P T.p c9) fun c2 w=>
    Q1 cd true w (J4 P .not c2) fun cp w=>
    pick P cd cp (.bool false) w fun ck w=>
    lp (α:=Value×Value) (ck,(.int .i64 0)) w fun bf l d_ w=>
     Q3 P .lss T.e (.tmp 102) (.tmp 103) l.2 o.2 w fun cn w=>
     X1 cn (
      dr w fun d n=>
      Q6 d (fun a5=> ∀w:World,n w→Q1 l.1 true w (fieldAddr P T.c (.pointer (some q)) 6) (dk d a5 w)) fun a5=>
      Q6 d (fun a9=> ∀w:World,n w→Q1 l.1 true w (fun w J=>J l.2 w) (dk d a9 w)) fun a9=>
      Q6 d (fun a2=> ∀w:World,n w→Q1 l.1 true w (fieldAddr P T.c (.pointer (some q)) 6) (dk d a2 w)) fun a2=>
      Q6 d (fun a3=> ∀w:World,n w→Q1 l.1 true w (fun w J=>J o.2 w) (dk d a3 w)) fun a3=>
      Q6 d (fun ao=> ∀a8:Value,∀w:World,n w→a5 a8 w→Q1 l.1 true w (Q2 P T.i a8) (dk d ao w)) fun ao=>
      Q6 d (fun aq=> ∀a4:Value,∀a0:Value,∀w:World,n w→ao a4 w→a9 a0 w→Q1 l.1 true w (indexAddr P T.i a4 a0) (dk d aq w)) fun aq=>
      Q6 d (fun ap=> ∀ba:Value,∀w:World,n w→aq ba w→Q1 l.1 true w (fieldAddr P T.l ba 0) (dk d ap w)) fun ap=>
      Q6 d (fun bk=> ∀az:Value,∀w:World,n w→ap az w→Q1 l.1 true w (Q2 P T.a az) (dk d bk w)) fun bk=>
      Q6 d (fun aw=> ∀a1:Value,∀w:World,n w→a2 a1 w→Q1 l.1 true w (Q2 P T.i a1) (dk d aw w)) fun aw=>
      Q6 d (fun ay=> ∀a7:Value,∀av:Value,∀w:World,n w→aw a7 w→a3 av w→Q1 l.1 true w (indexAddr P T.i a7 av) (dk d ay w)) fun ay=>
      Q6 d (fun ar=> ∀a6:Value,∀w:World,n w→ay a6 w→Q1 l.1 true w (fieldAddr P T.l a6 0) (dk d ar w)) fun ar=>
      Q6 d (fun bn=> ∀ax:Value,∀w:World,n w→ar ax w→Q1 l.1 true w (Q2 P T.a ax) (dk d bn w)) fun bn=>
      ∀a8:Value,∀a0:Value,∀a1:Value,∀av:Value,∀a4:Value,∀ba:Value,∀az:Value,∀cg:Value,∀a7:Value,∀a6:Value,∀ax:Value,∀cf:Value,∀w:World,n w→a5 a8 w→a9 a0 w→a2 a1 w→a3 av w→ao a4 w→aq ba w→ap az w→bk cg w→aw a7 w→ay a6 w→ar ax w→bn cf w→
      Q1 l.1 true w (Q3 P .neq T.a (.tmp 114) (.tmp 120) cg cf) fun cl w=>
      pick P l.1 cl (.bool false) w fun co w=>
      Q3 P .add T.e (.tmp 105) (.const (.int .i64 1)) l.2 (.int .i64 1) w fun cm w=>
      bf (co,cm) w) (
      Q3 P .add T.e (.tmp 76) (.const (.int .i64 1)) o.2 (.int .i64 1) w fun c1 w=>
      ca (l.1,c1) w)) (
    lp (α:=Value×Value) (o.1,(.int .i64 0)) w fun H f d_ w=>
     fieldAddr P T.c (.pointer (some q)) 7 w fun b9 w=>
     Q2 P T.g b9 w fun b1 w=>
     X5 P .len [T.g] T.e [false] [b1] w fun bq w=>
     Q3 P .lss T.e (.tmp 123) (.tmp 126) f.2 bq w fun bj w=>
     X1 bj (
      fieldAddr P T.c (.pointer (some q)) 7 w fun bc w=>
      Q2 P T.g bc w fun br w=>
      indexAddr P T.g br f.2 w fun b2 w=>
      Q2 P T.d b2 w fun bi w=>
      W6 P T.d w fun t9 w=>
      Z4 P T.d t9 bi w fun _u w=>
      Q1 f.1 true w (Q2 P T.d t9) fun bp w=>
      Q1 f.1 true w (Q0 P F.a2 [bp]) fun b3 w=>
      pick P f.1 b3 (.bool false) w fun k w=>
      Q1 k true w (fieldAddr P T.d t9 3) fun bb w=>
      Q1 k true w (Q2 P T.p bb) fun bg w=>
      Q1 k true w (J4 P .not bg) fun b4 w=>
      Q1 k true w (fun w J=>J b4 w) fun N w=>
      Q1 N false w (fieldAddr P T.c (.pointer (some q)) 4) fun b7 w=>
      Q1 N false w (Q2 P T.p b7) fun bx w=>
      Q1 k true w (pick P N (.bool true) bx) fun b5 w=>
      pick P k b5 (.bool false) w fun j w=>
      Q1 j true w (fieldAddr P T.c (.pointer (some q)) 3) fun bd w=>
      Q1 j true w (Q2 P T.p bd) fun bo w=>
      Q1 j true w (J4 P .not bo) fun bw w=>
      Q1 j true w (fun w J=>J bw w) fun O w=>
      Q1 O false w (fieldAddr P T.d t9 3) fun bs w=>
      Q1 O false w (Q2 P T.p bs) fun bu w=>
      Q1 j true w (pick P O (.bool true) bu) fun b6 w=>
      pick P j b6 (.bool false) w fun bz w=>
      lp (α:=Value×Value) (bz,(.int .i64 0)) w fun Q b d_ w=>
       Q3 P .lss T.e (.tmp 158) (.tmp 159) b.2 f.2 w fun bv w=>
       X1 bv (
        dr w fun d n=>
        Q6 d (fun B=> ∀w:World,n w→Q1 b.1 true w (fieldAddr P T.c (.pointer (some q)) 7) (dk d B w)) fun B=>
        Q6 d (fun p=> ∀w:World,n w→Q1 b.1 true w (fun w J=>J b.2 w) (dk d p w)) fun p=>
        Q6 d (fun y=> ∀w:World,n w→Q1 b.1 true w (fieldAddr P T.d t9 0) (dk d y w)) fun y=>
        Q6 d (fun z=> ∀E:Value,∀w:World,n w→B E w→Q1 b.1 true w (Q2 P T.g E) (dk d z w)) fun z=>
        Q6 d (fun u=> ∀r:Value,∀A:Value,∀w:World,n w→z r w→p A w→Q1 b.1 true w (indexAddr P T.g r A) (dk d u w)) fun u=>
        Q6 d (fun s=> ∀C:Value,∀w:World,n w→u C w→Q1 b.1 true w (fieldAddr P T.d C 0) (dk d s w)) fun s=>
        Q6 d (fun L=> ∀t:Value,∀w:World,n w→s t w→Q1 b.1 true w (Q2 P T.a t) (dk d L w)) fun L=>
        Q6 d (fun M=> ∀D:Value,∀w:World,n w→y D w→Q1 b.1 true w (Q2 P T.a D) (dk d M w)) fun M=>
        ∀E:Value,∀A:Value,∀D:Value,∀r:Value,∀C:Value,∀t:Value,∀al:Value,∀V:Value,∀w:World,n w→B E w→p A w→y D w→z r w→u C w→s t w→L al w→M V w→
        Q1 b.1 true w (Q3 P .neq T.a (.tmp 170) (.tmp 172) al V) fun cc w=>
        pick P b.1 cc (.bool false) w fun bm w=>
        Q3 P .add T.e (.tmp 161) (.const (.int .i64 1)) b.2 (.int .i64 1) w fun b0 w=>
        Q (bm,b0) w) (
        Q3 P .add T.e (.tmp 128) (.const (.int .i64 1)) f.2 (.int .i64 1) w fun be w=>
        H (b.1,be) w)) (
      Q1 f.1 true w (fieldAddr P T.c (.pointer (some q)) 3) fun aj w=>
      Q1 f.1 true w (Q2 P T.p aj) fun Z w=>
      Q1 f.1 true w (J4 P .not Z) fun Y w=>
      Q1 f.1 true w (fun w J=>J Y w) fun g w=>
      Q1 g false w (fieldAddr P T.c (.pointer (some q)) 4) fun ag w=>
      Q1 g false w (Q2 P T.p ag) fun ac w=>
      Q1 g false w (fun w J=>J ac w) fun i w=>
      Q1 i true w (fieldAddr P T.c (.pointer (some q)) 1) fun X w=>
      Q1 i true w (Q2 P T.a X) fun ab w=>
      Q1 i true w (Q3 P .eql T.a (.tmp 185) (.const (.string ⟨#[79,98,106,101,99,116]⟩)) ab (.string ⟨#[79,98,106,101,99,116]⟩)) fun ad w=>
      Q1 g false w (pick P i ad (.bool false)) fun ae w=>
      Q1 f.1 true w (pick P g (.bool true) ae) fun af w=>
      pick P f.1 af (.bool false) w fun a w=>
      Q1 a true w (fieldAddr P T.c (.pointer (some q)) 4) fun W w=>
      Q1 a true w (Q2 P T.p W) fun ah w=>
      Q1 a true w (fun w J=>J ah w) fun m w=>
      Q1 m true w (fieldAddr P T.c (.pointer (some q)) 5) fun aa w=>
      Q1 m true w (Q2 P T.p aa) fun am w=>
      Q1 a true w (pick P m am (.bool false)) fun ai w=>
      Q1 a true w (J4 P .not ai) fun U w=>
      pick P a U (.bool false) w fun ak w=>
      K ak w))) f4 g1 fun w2 σ2 an=>
  X3v (J:=fun v w=>lp (α:=Value×Value) (v,(.int .i64 0)) w fun H f d_ w=>
   fieldAddr P T.c (.pointer (some q)) 7 w fun b9 w=>
   Q2 P T.g b9 w fun b1 w=>
   X5 P .len [T.g] T.e [false] [b1] w fun bq w=>
   Q3 P .lss T.e (.tmp 123) (.tmp 126) f.2 bq w fun bj w=>
   X1 bj (
    fieldAddr P T.c (.pointer (some q)) 7 w fun bc w=>
    Q2 P T.g bc w fun br w=>
    indexAddr P T.g br f.2 w fun b2 w=>
    Q2 P T.d b2 w fun bi w=>
    W6 P T.d w fun t9 w=>
    Z4 P T.d t9 bi w fun _u w=>
    Q1 f.1 true w (Q2 P T.d t9) fun bp w=>
    Q1 f.1 true w (Q0 P F.a2 [bp]) fun b3 w=>
    pick P f.1 b3 (.bool false) w fun k w=>
    Q1 k true w (fieldAddr P T.d t9 3) fun bb w=>
    Q1 k true w (Q2 P T.p bb) fun bg w=>
    Q1 k true w (J4 P .not bg) fun b4 w=>
    Q1 k true w (fun w J=>J b4 w) fun N w=>
    Q1 N false w (fieldAddr P T.c (.pointer (some q)) 4) fun b7 w=>
    Q1 N false w (Q2 P T.p b7) fun bx w=>
    Q1 k true w (pick P N (.bool true) bx) fun b5 w=>
    pick P k b5 (.bool false) w fun j w=>
    Q1 j true w (fieldAddr P T.c (.pointer (some q)) 3) fun bd w=>
    Q1 j true w (Q2 P T.p bd) fun bo w=>
    Q1 j true w (J4 P .not bo) fun bw w=>
    Q1 j true w (fun w J=>J bw w) fun O w=>
    Q1 O false w (fieldAddr P T.d t9 3) fun bs w=>
    Q1 O false w (Q2 P T.p bs) fun bu w=>
    Q1 j true w (pick P O (.bool true) bu) fun b6 w=>
    pick P j b6 (.bool false) w fun bz w=>
    lp (α:=Value×Value) (bz,(.int .i64 0)) w fun Q b d_ w=>
     Q3 P .lss T.e (.tmp 158) (.tmp 159) b.2 f.2 w fun bv w=>
     X1 bv (
      dr w fun d n=>
      Q6 d (fun B=> ∀w:World,n w→Q1 b.1 true w (fieldAddr P T.c (.pointer (some q)) 7) (dk d B w)) fun B=>
      Q6 d (fun p=> ∀w:World,n w→Q1 b.1 true w (fun w J=>J b.2 w) (dk d p w)) fun p=>
      Q6 d (fun y=> ∀w:World,n w→Q1 b.1 true w (fieldAddr P T.d t9 0) (dk d y w)) fun y=>
      Q6 d (fun z=> ∀E:Value,∀w:World,n w→B E w→Q1 b.1 true w (Q2 P T.g E) (dk d z w)) fun z=>
      Q6 d (fun u=> ∀r:Value,∀A:Value,∀w:World,n w→z r w→p A w→Q1 b.1 true w (indexAddr P T.g r A) (dk d u w)) fun u=>
      Q6 d (fun s=> ∀C:Value,∀w:World,n w→u C w→Q1 b.1 true w (fieldAddr P T.d C 0) (dk d s w)) fun s=>
      Q6 d (fun L=> ∀t:Value,∀w:World,n w→s t w→Q1 b.1 true w (Q2 P T.a t) (dk d L w)) fun L=>
      Q6 d (fun M=> ∀D:Value,∀w:World,n w→y D w→Q1 b.1 true w (Q2 P T.a D) (dk d M w)) fun M=>
      ∀E:Value,∀A:Value,∀D:Value,∀r:Value,∀C:Value,∀t:Value,∀al:Value,∀V:Value,∀w:World,n w→B E w→p A w→y D w→z r w→u C w→s t w→L al w→M V w→
      Q1 b.1 true w (Q3 P .neq T.a (.tmp 170) (.tmp 172) al V) fun cc w=>
      pick P b.1 cc (.bool false) w fun bm w=>
      Q3 P .add T.e (.tmp 161) (.const (.int .i64 1)) b.2 (.int .i64 1) w fun b0 w=>
      Q (bm,b0) w) (
      Q3 P .add T.e (.tmp 128) (.const (.int .i64 1)) f.2 (.int .i64 1) w fun be w=>
      H (b.1,be) w)) (
    Q1 f.1 true w (fieldAddr P T.c (.pointer (some q)) 3) fun aj w=>
    Q1 f.1 true w (Q2 P T.p aj) fun Z w=>
    Q1 f.1 true w (J4 P .not Z) fun Y w=>
    Q1 f.1 true w (fun w J=>J Y w) fun g w=>
    Q1 g false w (fieldAddr P T.c (.pointer (some q)) 4) fun ag w=>
    Q1 g false w (Q2 P T.p ag) fun ac w=>
    Q1 g false w (fun w J=>J ac w) fun i w=>
    Q1 i true w (fieldAddr P T.c (.pointer (some q)) 1) fun X w=>
    Q1 i true w (Q2 P T.a X) fun ab w=>
    Q1 i true w (Q3 P .eql T.a (.tmp 185) (.const (.string ⟨#[79,98,106,101,99,116]⟩)) ab (.string ⟨#[79,98,106,101,99,116]⟩)) fun ad w=>
    Q1 g false w (pick P i ad (.bool false)) fun ae w=>
    Q1 f.1 true w (pick P g (.bool true) ae) fun af w=>
    pick P f.1 af (.bool false) w fun a w=>
    Q1 a true w (fieldAddr P T.c (.pointer (some q)) 4) fun W w=>
    Q1 a true w (Q2 P T.p W) fun ah w=>
    Q1 a true w (fun w J=>J ah w) fun m w=>
    Q1 m true w (fieldAddr P T.c (.pointer (some q)) 5) fun aa w=>
    Q1 m true w (Q2 P T.p aa) fun am w=>
    Q1 a true w (pick P m am (.bool false)) fun ai w=>
    Q1 a true w (J4 P .not ai) fun U w=>
    pick P a U (.bool false) w fun ak w=>
    K ak w)) an.sat (hq.up an) (g2.up an) fun w3 σ3 bl=>
  X3a (J:=fun v w=>Q1 v true w (fieldAddr P T.c (.pointer (some q)) 3) fun aj w=>
   Q1 v true w (Q2 P T.p aj) fun Z w=>
   Q1 v true w (J4 P .not Z) fun Y w=>
   Q1 v true w (fun w J=>J Y w) fun g w=>
   Q1 g false w (fieldAddr P T.c (.pointer (some q)) 4) fun ag w=>
   Q1 g false w (Q2 P T.p ag) fun ac w=>
   Q1 g false w (fun w J=>J ac w) fun i w=>
   Q1 i true w (fieldAddr P T.c (.pointer (some q)) 1) fun X w=>
   Q1 i true w (Q2 P T.a X) fun ab w=>
   Q1 i true w (Q3 P .eql T.a (.tmp 185) (.const (.string ⟨#[79,98,106,101,99,116]⟩)) ab (.string ⟨#[79,98,106,101,99,116]⟩)) fun ad w=>
   Q1 g false w (pick P i ad (.bool false)) fun ae w=>
   Q1 v true w (pick P g (.bool true) ae) fun af w=>
   pick P v af (.bool false) w fun a w=>
   Q1 a true w (fieldAddr P T.c (.pointer (some q)) 4) fun W w=>
   Q1 a true w (Q2 P T.p W) fun ah w=>
   Q1 a true w (fun w J=>J ah w) fun m w=>
   Q1 m true w (fieldAddr P T.c (.pointer (some q)) 5) fun aa w=>
   Q1 m true w (Q2 P T.p aa) fun am w=>
   Q1 a true w (pick P m am (.bool false)) fun ai w=>
   Q1 a true w (J4 P .not ai) fun U w=>
   pick P a U (.bool false) w fun ak w=>
   K ak w) bl.sat ((hq.up an).up bl) ((g3.up an).up bl) fun w4 σ4 ci=>
  X2T (K:=K) ci.sat (((hq.up an).up bl).up ci) (by rw[e];exact h _ _ (b8.trans (an.trans (bl.trans ci))))
 (repeat refine Hd.h ?_)
 refine ld bh hq rfl ?_
 refine Xw c.name c7 ?_
 cases d1:W9 c.name with
 | false=>(repeat refine Hd.h ?_);exact ch false (by rw[d1];rfl)
 | true=>
  (repeat refine Hd.h ?_)
  refine ld bh hq rfl ?_
  (repeat refine Hd.h ?_)
  refine Xw c.super c5 ?_
  cases d2:W9 c.super with
  | false=>(repeat refine Hd.h ?_);exact ch false (by rw[d1,d2];rfl)
  | true=>
   (repeat refine Hd.h ?_)
   refine ld bh hq rfl ?_
   (repeat refine Hd.h ?_)
   refine ld bh hq rfl ?_
   (repeat refine Hd.h ?_)
   refine I5 ?_
   (repeat refine Hd.h ?_)
   exact ch _ (by rw[d1,d2];rfl))
theorem Q3W {c:Cla} {cs:List Value} (p:X4 w σ) (d:V4 σ c cs) (h: ∀w' t,Stp w σ w' t→K (I (M6 c)) w'):Q0 P F.bz [.agg cs.toArray] w K:=Pn (by
 unfold Lr
 have i:=Rep.one (R:=V4) d
 obtain ⟨s,r,mv,rfl,o,n,l,m,k⟩:=d
 have d:V4 σ c _:=⟨s,r,mv,rfl,o,n,l,m,k⟩
 refine Z0 p fun q w1 σ1 a g=>?_
 unfold M6 at h
 refine Z1 a.sat g rfl ?_
 refine X14 a.sat (RCl_lift d ⟨a.le⟩) fun z v b=>?_
 cases f:Yz c with
 | true=>simp only[f,if_true] at h;(try simp only[↓M1,M1,Mb,reduceIte]);exact h _ _ (a.trans b)
 | false=>
  simp only[f,Bool.false_eq_true,if_false] at h
  (try simp only[↓M1,M1,Mb,reduceIte])
  refine Z1 b.sat (g.up b) rfl ?_
  refine X0N b.sat (RCl_lift d ⟨(a.trans b).le⟩) fun u y e=>?_
  rw[X1H]
  cases j:Lj c with
  | true=>simp only[j,if_true] at h;(try simp only[↓M1,M1,Mb,reduceIte]);exact h _ _ (a.trans (b.trans e))
  | false=>simp only[j,Bool.false_eq_true,if_false] at h;(try simp only[↓M1,M1,Mb,reduceIte]);exact h _ _ (a.trans (b.trans e)))
end Go.Proofs.YtfppjenblllfaaaGreatDoor

namespace Go.Emb
open Go.RowKit Go.Hm
end Go.Emb
namespace Go.Hm
end Go.Hm
namespace Go.Proofs.YtfppjenblllfaaaGreatDoor
open Go.Emb Go.RowKit Go.Kd Go.Hm
variable {w : World} {K : Value → World → Prop} {σ : Q4} {l : List Cla}
theorem Q6T {a b:Q8} (ok:Ok (Q7 l)) (g:a.length≤Y9) (d:b.length≤Y9):(I4 (Q7 l) a b).length≤Y9:=by
 unfold I4
 split
 ·exact d
 split
 ·exact g
 split
 ·exact Nat.zero_le _
 split
 ·rename_i c f
  have e:=(Bx ok.acy _ (Nat.lt_succ_self _) (List.mem_of_find?_eq_some f)).2
  have:=(ok.nm c (V2 e).2.1).1
  exact Nat.le_trans this (by decide)
 ·decide
end Go.Proofs.YtfppjenblllfaaaGreatDoor

namespace Go.Hm
open Go.Kd
structure Alike (l m : List Cla) : Prop where
  lk : lk l = lk m
  len : l.length = m.length
  weigh : weigh l [] = weigh m []
section
variable {l m : List Cla} (h : Alike l m)
include h
end
theorem X2U {l:List Cla} {frm:Nat}: ∀(f:Nat) (out:List Nat) (i:Nat),∀y∈P2 l frm f out i,y∈out∨frm≤y:=by
 intro f
 induction f with
 | zero=>intro out i y hy;exact .inl hy
 | succ f c=>
  intro out i y hy
  simp only[P2] at hy
  split at hy
  ·exact .inl hy
  ·split at hy
   ·exact .inl hy
   ·rename_i d _
    rcases List.mem_append.1 hy with hy | hy
    ·exact Wv (p:=fun y=>frm≤y) _ _ (fun b x _ z a=>c b _ z a) y hy
    ·simp at hy;omega
theorem X1m {a:List Cla} (e:K7 a): ∀j∈V5 a 8,8≤j∧j<a.length:=by
 intro j d
 unfold V5 at d
 have g:=Wv (p:=fun y=>8≤y) _ _ (fun b x _ z c=>X2U _ b x z c) j d
 have i:=Wv (p:=fun y=>y<a.length) _ _ (fun b x f z c=>(Q6X e (by omega) _ b x (by
  have:=List.mem_of_mem_drop f
  simpa using this) z c).imp id (·.1)) j d
 exact ⟨g.resolve_left (by simp),i.resolve_left (by simp)⟩
end Go.Hm
namespace Go.Proofs.YtfppjenblllfaaaGreatDoor
open Go.Emb Go.RowKit Go.Kd Go.Hm
end Go.Proofs.YtfppjenblllfaaaGreatDoor

namespace Go.Hm
open Go.Kd
theorem Q90 {a:List Cla} {m:Nat} (b:m<a.length):Y7 a (Y3 a m)=some m↔Y7 (a.take m) (Y3 a m)=none:=by
 have e:Y3 a m=a[m].name:=by unfold Y3;rw[List.getD_eq_getElem?_getD,List.getElem?_eq_getElem b];rfl
 unfold Y7
 rw[List.findIdx?_eq_some_iff_getElem,List.findIdx?_eq_none_iff]
 constructor
 ·rintro ⟨i,k,f⟩ c g
  obtain ⟨j,d,rfl⟩:=List.mem_take_iff_getElem.1 g
  simpa using f j (by omega)
 ·intro h
  refine ⟨b,by simp[e],fun j d=>?_⟩
  simpa using h a[j] (List.mem_take_iff_getElem.2 ⟨j,by omega,rfl⟩)
theorem Q9H {a:List Cla} (d:K7 a) {m:Nat} (b:m<a.length):Jw a (Y3 a m) (Y3 a m)=K3 a a[m]:=by
 have c:Y3 a m=a[m].name:=by unfold Y3;rw[List.getD_eq_getElem?_getD,List.getElem?_eq_getElem b];rfl
 unfold Jw K3
 rw[Xu d b,List.getD_eq_getElem?_getD,List.getElem?_eq_getElem b]
 simp only[Option.getD_some,c]
end Go.Hm
namespace Go.Proofs.YtfppjenblllfaaaGreatDoor
open Go.Emb Go.RowKit Go.Kd Go.Hm
variable {w : World} {K : Value → World → Prop} {σ : Q4} {l : List Cla}
theorem Q8W: ∀c∈G4,Yz c=false:=by decide
theorem Q9M {c:Cla} (h:M6 c=0):Yz c=false:=by
 unfold M6 at h
 split at h
 ·cases h
 ·rename_i a;exact eq_false_of_ne_true a
set_option maxHeartbeats 4000000 in
theorem X2Q {lv:Value} (hs:X4 w σ) (hl:Sl 8 V4 σ lv l) (cz:l.length≤900)
 (C: ∀i e w' B,Rw M6 l=some (i,e)→Stp w σ w' B→K (.tuple #[.slice none 0 0,I i,I e]) w')
 (h0: ∀v w' B,Rw M6 l=none→Stp w σ w' B→Sl 8 V4 B v (Q7 l)→Ok (Q7 l)→K7 (Q7 l)→K (.tuple #[v,I 0,I 0]) w'):Q0 P F.bS [lv] w K:=Q0f (by
 unfold Ef
 have r:G4.length=8:=rfl
 have dc:(Q7 l).length=8+l.length:=by simp[Q7,r]
 refine X0e hs fun x0 w1 σ1 cf bf=>?_
 refine Q8S bf ?_
 rw[r]
 refine E2 l.length (fun n x w'=> ∃B,Stp w σ w' B∧J1 w.heap.size T.c 8 V4 B w' x (G4++l.take n)∧M4 M6 l 0=M4 M6 (l.drop n) n)
  ⟨σ1,cf,by simpa using bf,rfl⟩ fun n x w4 d D b=>?_
 obtain ⟨σ4,Y,ay,E⟩:=b
 have ac:=hl.up Y
 refine X0 ac ?_
 refine Z3 ?_
 refine Q5 (fun hh=>?_) (fun hh=>?_)
 ·have a:n<l.length:=by simpa using hh
  obtain ⟨bv,bx,br,p1,r1⟩:=ac.elC a
  refine U9 ac a ?_
  refine Z1 Y.sat p1 rfl ?_
  refine Q3W Y.sat r1 fun w6 σ6 aa=>?_
  have cg:=Y.trans aa
  have N:=Vr a E
  refine T4 ?_
  refine Q5 (fun m=>?_) (fun m=>?_)
  ·have y: ¬M6 l[n]=0:=by simpa using m
   rw[if_neg y] at N
   refine C _ _ _ _ ?_ cg
   unfold Rw
   rw[N]
  ·have hz:M6 l[n]=0:=by simpa using m
   rw[if_pos hz] at N
   refine U9 (ac.up aa) a ?_
   refine Z1 aa.sat (p1.up aa) rfl ?_
   have cj:=ay.up aa
   have r6:=RCl_lift r1 ⟨aa.le⟩
   refine Vd (R:=V4) (x:=l[n]) cg cj (by simpa [Value.cells] using r6) rfl rfl rfl (by simp[r];omega) (by simp[r];omega) fun s v' w9 σ9 dg p ci a2=>?_
   refine E5 ?_
   refine J0 ac.max a ⟨σ9,p,?_,N⟩
   rw[List.take_add_one,List.getElem?_eq_getElem a,←List.append_assoc]
   exact ci
 have a: ¬n<l.length:=by simpa using hh
 rw[List.take_of_length_le (by omega)] at ay
 rw[List.drop_eq_nil_of_le (by omega)] at E
 have E:M4 M6 l 0=none:=E
 have bm:=K1 E
 have bg: ∀c∈l,Qr c∧Nm c∧c.name≠[]:=fun c hc=>Bl (bm c hc)
 have q: ∀c∈Q7 l,Qr c:=fun c hc=>by
  rcases List.mem_append.1 hc with hc | hc
  ·exact (Jb c hc).1
  ·exact (bg c hc).1
 have a1: ∀c∈Q7 l,Nm c:=fun c hc=>by
  rcases List.mem_append.1 hc with hc | hc
  ·exact (Jb c hc).2.1
  ·exact (bg c hc).2.1
 have Z: ∀c∈Q7 l,Yz c=false:=fun c hc=>by
  rcases List.mem_append.1 hc with hc | hc
  ·exact Q8W c hc
  ·exact Q9M (bm c hc)
 have aj:(Q7 l).length≤100000:=by omega
 unfold Rw at C h0
 rw[E] at C h0
 simp only at C h0
 obtain ⟨σ5,o,J,dl,cv⟩:=ay.keep Y
 change Sl 8 V4 σ5 x (Q7 l) at J
 clear ay Y ac a hh D E bf cf
 have A: ∀{n:Nat} (D:n<l.length),∃(h:8+n<(Q7 l).length),(Q7 l)[8+n]=l[n]:=fun {n} D=>⟨by omega,by
  unfold Q7
  rw[List.getElem_append_right (by rw[r];omega)]
  congr 1
  rw[r];omega⟩
 have b9: ∀{n:Nat} (D:n<l.length),Y3 (Q7 l) (8+n)=l[n].name:=fun {n} D=>by
  obtain ⟨C,h2⟩:=A D
  rw[Kv C,h2]
 have b2: ∀j,j<8→(Y7 ((Q7 l).take j) (Y3 (Q7 l) j)).isSome=false:=by
  have hd: ∀j,j<8→(Y7 (G4.take j) (Y3 G4 j)).isSome=false:=by decide
  intro j hj
  have e1:(Q7 l).take j=G4.take j:=by unfold Q7;rw[List.take_append_of_le_length (by rw[r];omega)]
  have e2:Y3 (Q7 l) j=Y3 G4 j:=by
   unfold Y3 Q7;rw[List.getD_eq_getElem?_getD,List.getD_eq_getElem?_getD,List.getElem?_append_left (by rw[r];omega)]
  rw[e1,e2];exact hd j hj
 refine U3 l.length (fun n w'=>Stp w σ w' σ5∧ ∀j,j<8+n→(Y7 ((Q7 l).take j) (Y3 (Q7 l) j)).isSome=false) ⟨o,by simpa using b2⟩ fun n w5 d D b=>?_
 clear o
 obtain ⟨o,a3⟩:=b
 have ax:=hl.up o
 refine X0 ax ?_
 refine Z3 ?_
 refine Q5 (fun hh=>?_) (fun hh=>?_)
 ·have a:n<l.length:=by simpa using hh
  obtain ⟨bv,bx,br,p1,r1⟩:=ax.elC a
  refine U9 ax a ?_
  (try simp only[↓M1,M1,Mb,reduceIte])
  refine ld o.sat p1 rfl ?_
  refine Qq o.sat J ?_
  rw[G1 (by omega) (by omega)]
  refine T4 ?_
  obtain ⟨U,e8⟩:=A a
  rw[←b9 a]
  have bo:=Q90 U
  cases al:Y7 ((Q7 l).take (8+n)) (Y3 (Q7 l) (8+n)) with
  | none=>
   rw[bo.2 al]
   have e:decide (L2 (some (8+n))=(8:Nat)+(n:Int))=true:=by simp[L2]
   rw[e]
   (try simp only[↓M1,M1,Mb,reduceIte])
   refine Y5 ax.max a ⟨o,fun j hj=>?_⟩
   by_cases ej:j=8+n
   ·rw[ej,al];rfl
   ·exact a3 j (by omega)
  | some i=>
   have y:Y7 (Q7 l) (Y3 (Q7 l) (8+n))≠some (8+n):=fun e=>by rw[bo.1 e] at al;cases al
   have e:decide (L2 (Y7 (Q7 l) (Y3 (Q7 l) (8+n)))=(8:Nat)+(n:Int))=false:=by
    rw[decide_eq_false_iff_not]
    intro e
    cases hf:Y7 (Q7 l) (Y3 (Q7 l) (8+n)) with
    | none=>rw[hf] at e;simp only[L2] at e;omega
    | some k=>
     rw[hf] at e y
     simp only[L2] at e
     apply y
     congr 1;omega
   rw[e]
   (try simp only[↓M1,M1,Mb,reduceIte])
   have O:St (Q7 l)=some (8+n):=by
    unfold St
    rw[List.find?_range_eq_some]
    refine ⟨by rw[al];rfl,by simpa using U,fun j hj=>by rw[a3 j hj];rfl⟩
   refine C _ _ _ _ ?_ o
   rw[O]
   have:((8+n:Nat):Int)-8=n:=by omega
   simp only[this]
 have a: ¬n<l.length:=by simpa using hh
 have O:St (Q7 l)=none:=by
  unfold St
  rw[List.find?_eq_none]
  intro j hj
  rw[a3 j (by have:=List.mem_range.1 hj;omega)];simp
 rw[O] at C h0
 simp only at C h0
 have g:=Is O
 clear a3 hh a D ax b2
 refine U3 l.length (fun n w'=> ∃B,Stp w σ w' B∧SLe σ5 B∧M4 (fun c=>(M5 (Q7 l) c:Int)) l 0=M4 (fun c=>(M5 (Q7 l) c:Int)) (l.drop n) n) ⟨σ5,o,SLe.refl _,rfl⟩ fun n w6 d D b=>?_
 obtain ⟨σ9,p,ag,ab⟩:=b
 have ar:=hl.up p
 refine X0 ar ?_
 refine Z3 ?_
 refine Q5 (fun hh=>?_) (fun hh=>?_)
 ·have a:n<l.length:=by simpa using hh
  obtain ⟨bv,bx,br,p1,r1⟩:=ar.elC a
  refine U9 ar a ?_
  refine Z1 p.sat p1 rfl ?_
  have W:=Vr a ab
  refine Q9a p.sat (J.lift ag) r1 fun w8 cp ao=>?_
  refine T4 ?_
  refine Q5 (fun m=>?_) (fun m=>?_)
  ·have y: ¬(M5 (Q7 l) l[n]:Int)=0:=by simpa using m
   rw[if_neg y] at W
   refine C _ _ _ _ ?_ (p.trans ao)
   rw[W]
  ·have hz:(M5 (Q7 l) l[n]:Int)=0:=by simpa using m
   rw[if_pos hz] at W
   refine E5 ?_
   exact Y5 ar.max a ⟨cp,p.trans ao,ag.more ⟨ao.le⟩,W⟩
 have a: ¬n<l.length:=by simpa using hh
 rw[List.drop_eq_nil_of_le (by omega)] at ab
 have ab:M4 (fun c=>(M5 (Q7 l) c:Int)) l 0=none:=ab
 rw[ab] at C h0
 simp only at C h0
 have bu:=K1 ab
 clear hh a D o ar
 refine Q4K p.sat (J.lift ag) g (by omega) (by omega) q fun vb dv bz ak aq=>?_
 have f:=p.trans ak
 have bc:=ag.more ⟨ak.le⟩
 have a0:(Ys (Q7 l)).length=(Q7 l).length:=by simp[Ys]
 refine U3 l.length (fun n w'=>Stp w σ w' bz∧ ∀j (hj:j<l.length),j<n→K3 (Q7 l) l[j]=false) ⟨f,fun j _ h=>by omega⟩ fun n c2 d D b=>?_
 clear f
 obtain ⟨f,a4⟩:=b
 have av:=hl.up f
 refine X0 av ?_
 refine Z3 ?_
 refine Q5 (fun hh=>?_) (fun hh=>?_)
 ·have a:n<l.length:=by simpa using hh
  obtain ⟨U,e8⟩:=A a
  refine Gh ⟨by omega,by omega⟩ ?_
  have ec:((8:Nat):Int)+(n:Int)=((8+n:Nat):Int):=by omega
  rw[ec]
  obtain ⟨df,pb,_,rv,rfl,rb⟩:=aq.el (i:=8+n) (by rw[a0];exact U)
  have b4:(Ys (Q7 l))[8+n]'(by rw[a0];exact U)=(List.range (Q7 l).length).map fun j=>Jw (Q7 l) (Y3 (Q7 l) (8+n)) (Y3 (Q7 l) j):=by simp[Ys]
  rw[b4] at rb
  obtain ⟨ck,bh,_,ap⟩:=rb.el (i:=8+n) (by simpa using U)
  have ap:ck=_:=ap
  subst ap
  simp only[List.getElem_map,List.getElem_range] at bh
  rw[Q9H g U,e8] at bh
  refine U9 aq (by rw[a0];exact U) ?_
  refine Y0 f.sat pb rfl ?_
  refine Gh ⟨by omega,by omega⟩ ?_
  rw[ec]
  refine U9 rb (by simpa using U) ?_
  refine Y0 f.sat bh rfl ?_
  cases bp:K3 (Q7 l) l[n] with
  | true=>
   (try simp only[↓M1,M1,Mb,reduceIte])
   have be:l.findIdx? (K3 (Q7 l))=some n:=by
    rw[List.findIdx?_eq_some_iff_getElem]
    exact ⟨a,bp,fun j hj=>by simpa using a4 j (by omega) hj⟩
   refine C _ _ _ _ ?_ f
   rw[be]
  | false=>
   (try simp only[↓M1,M1,Mb,reduceIte])
   refine Y5 av.max a ⟨f,fun j hj c3=>?_⟩
   by_cases e:j=n
   ·subst e;exact bp
   ·exact a4 j hj (by omega)
 have a: ¬n<l.length:=by simpa using hh
 have a6: ∀c∈l,K3 (Q7 l) c=false:=fun c hc=>by
  obtain ⟨j,hj,rfl⟩:=List.getElem_of_mem hc
  exact a4 j hj (by omega)
 have be:l.findIdx? (K3 (Q7 l))=none:=by
  rw[List.findIdx?_eq_none_iff];exact a6
 rw[be] at C h0
 simp only at C h0
 clear a4 hh a D av aq ak p a0
 have af:=Q6s g (fun c hc=>(bg c hc).2.2) a6
 have ae:Full (Q7 l):=fun c hc u hu=>by
  rcases List.mem_append.1 hc with hc | hc
  ·rw[(Jb c hc).2.2] at hu;simp at hu
  ·have:=bu c hc
   unfold M5 at this
   split at this
   ·simp at this
   ·split at this
    ·simp at this
    ·rename_i t
     have t:c.like.any (E0 (Q7 l))=false:=eq_false_of_ne_true t
     have:=List.any_eq_false.1 t u hu
     unfold E0 at this
     cases hd:lk (Q7 l) u with
     | none=>rw[hd] at this;simp at this
     | some d=>exact ⟨d,rfl⟩
 have cd:Ok (Q7 l):=⟨af,aj,q,ae,a1⟩
 have bw: ∀i (hi:i<(Q7 l).length),8≤i→ ∀u∈U2 (Q7 l)[i],∃j,Y7 (Q7 l) u=some j:=fun i hi U u hu=>by
  have ai:i-8<l.length:=by omega
  obtain ⟨dh,e8⟩:=A ai
  have cu:(Q7 l)[i]=l[i-8]:=by rw[←e8];congr 1;omega
  rw[cu] at hu
  have a8:=List.getElem_mem ai
  rcases List.mem_cons.1 hu with hu | hu
  ·have:=bu _ a8
   unfold M5 at this
   split at this
   ·simp at this
   ·rename_i t
    unfold Qp at t
    rw[←hu] at t
    cases hd:lk (Q7 l) u with
    | none=>rw[hd] at t;simp at t
    | some d=>obtain ⟨_,_,j,hj,_⟩:=V2 hd;exact ⟨j,hj⟩
  ·obtain ⟨d,hd⟩:=ae _ (List.mem_append_right _ a8) u hu
   obtain ⟨_,_,j,hj,_⟩:=V2 hd;exact ⟨j,hj⟩
 refine Q0m (R:=Vv) (e:=T.e) f (by decide) fun c5 dn a9 bd _=>?_
 refine E2 l.length (fun n x' w'=> ∃B out,Stp w σ w' B∧SLe σ5 B∧J1 w.heap.size T.e 1 Vv B w' x' (ints out)∧Few (Q7 l) out∧out=(((List.range (Q7 l).length).drop 8).take n).foldl (fun out i=>Xf (Q7 l) 8 out i) [])
  ⟨bz,[],f.trans a9,bc,bd,⟨List.nodup_nil,by simp⟩,rfl⟩ fun n x' di d D b=>?_
 clear bd a9 f bc ag
 obtain ⟨c9,out,L,Q,ah,am,aw⟩:=b
 have ad:=hl.up L
 refine X0 ad ?_
 refine Z3 ?_
 refine Q5 (fun hh=>?_) (fun hh=>?_)
 ·have a:n<l.length:=by simpa using hh
  obtain ⟨U,e8⟩:=A a
  refine Gh ⟨by omega,by omega⟩ ?_
  have ec:((8:Nat):Int)+(n:Int)=((8+n:Nat):Int):=by omega
  rw[ec]
  refine X3z af g (by omega) q (by omega) bw ((Q7 l).length+1) U (Nat.lt_succ_of_le (Q1i _ _)) am L (J.lift Q) ah fun c6 dq cn ca b8 bs=>?_
  refine E5 ?_
  refine J0 ad.max a ⟨cn,_,ca,Q.more b8,bs,Iz af g (by omega) _ _ _ U am,?_⟩
  rw[List.take_add_one,List.getElem?_drop,List.getElem?_range U,List.foldl_append,←aw]
  rfl
 have a: ¬n<l.length:=by simpa using hh
 have cq:n=l.length:=by omega
 subst cq
 have bq:out=V5 (Q7 l) 8:=by
  rw[aw,List.take_of_length_le (by rw[List.length_drop,List.length_range];omega)];rfl
 subst bq
 clear aw hh a D
 have dm:=am.len
 have cl:=X1m g
 obtain ⟨bk,bl,cb,a7,_⟩:=ah.keep L
 have cc:=Q.more ⟨a7⟩
 clear ah L a7 Q ad
 have ai:(ints (V5 (Q7 l) 8)).length=(V5 (Q7 l) 8).length:=by simp
 refine U3 (V5 (Q7 l) 8).length (fun n w'=> ∃B,Stp w σ w' B∧SLe bk B∧ ∀j∈(V5 (Q7 l) 8).take n,V8 (Q7 l) ((Q7 l).getD j Cla.zero)=0) ⟨bk,bl,SLe.refl _,by simp⟩ fun n dw d D b=>?_
 obtain ⟨du,V,X,az⟩:=b
 have M:=cb.lift X
 refine X0 M ?_
 rw[ai]
 refine Z3 ?_
 refine Q5 (fun hh=>?_) (fun hh=>?_)
 ·have a:n<(V5 (Q7 l) 8).length:=by simpa using hh
  have b6:n<(ints (V5 (Q7 l) 8)).length:=by rw[ai];exact a
  refine U9 M b6 ?_
  obtain ⟨cs,pc,_,cm⟩:=M.el b6
  obtain ⟨rfl,_⟩:=cm
  simp only[List.getElem_map] at pc
  refine Y0 V.sat pc rfl ?_
  have bj:=(cl _ (List.getElem_mem a)).2
  have a2:(Q7 l).getD (V5 (Q7 l) 8)[n] Cla.zero=(Q7 l)[(V5 (Q7 l) 8)[n]]:=by rw[List.getD_eq_getElem?_getD,List.getElem?_eq_getElem bj];rfl
  refine Q7H V.sat (J.lift (cc.more X)) cd g (by omega) Z bj fun c4 b5 z=>?_
  have bb:=V.trans z
  refine T4 ?_
  refine Q5 (fun m=>?_) (fun m=>?_)
  ·have y: ¬V8 (Q7 l) (Q7 l)[(V5 (Q7 l) 8)[n]]=0:=by simpa using m
   have cx:=M.up z
   have b3:=pc.up z
   refine V0 z.sat ?_
   (repeat refine J3 Xt ?_)
   (intros;(repeat (rename_i hx;subst hx));(try simp only[↓M2,M2,Mb,reduceIte]))
   rename_i cr ba
   refine Y0 ba.sat b3 rfl ?_
   refine Rc ⟨by omega,by omega⟩ ?_
   have H:(V5 (Q7 l) 8).find? (fun j=> !decide (V8 (Q7 l) ((Q7 l).getD j Cla.zero)=0))=some (V5 (Q7 l) 8)[n]:=by
    rw[List.find?_eq_some_iff_getElem]
    refine ⟨by rw[a2];simpa using y,n,a,rfl,fun j hj=>?_⟩
    have:=az _ (List.mem_take_iff_getElem.2 ⟨j,by omega,rfl⟩)
    rw[this];simp
   have:=C (((V5 (Q7 l) 8)[n]:Int)-8) (V8 (Q7 l) (Q7 l)[(V5 (Q7 l) 8)[n]]) cr b5 (by rw[H];simp only[a2]) (bb.trans ba.stp)
   exact this
  ·have hz:V8 (Q7 l) (Q7 l)[(V5 (Q7 l) 8)[n]]=0:=by simpa using m
   refine E5 ?_
   refine Y5 (by omega) a ⟨b5,bb,X.more ⟨z.le⟩,fun j hj=>?_⟩
   rw[List.take_add_one,List.getElem?_eq_getElem a] at hj
   rcases List.mem_append.1 hj with hj | hj
   ·exact az j hj
   ·simp at hj;subst hj;rw[a2];exact hz
 ·have a: ¬n<(V5 (Q7 l) 8).length:=by simpa using hh
  rw[List.take_of_length_le (by omega)] at az
  have H:(V5 (Q7 l) 8).find? (fun j=> !decide (V8 (Q7 l) ((Q7 l).getD j Cla.zero)=0))=none:=by
   rw[List.find?_eq_none]
   intro j hj
   rw[az j hj];simp
  rw[H] at h0
  exact h0 _ _ _ rfl V (J.lift (cc.more X)) cd g)
end Go.Proofs.YtfppjenblllfaaaGreatDoor

namespace Go.Hm
open Go.Kd
def Q8M:Ins:=⟨[105,110,116],1,[]⟩
def Q0d:Ins:=⟨[114,101,116,117,114,110],0,[]⟩
def kA:Q8:=[65]
def fX:Fld:=⟨[120],V1,false⟩
def Q1t:Fld:=⟨[110,101,120,116],kA,false⟩
def fL:Fld:=⟨[108],[65,91,93],false⟩
def mF:Hm.Met:=⟨[102],[V1,kA],V1,false,3,[Q8M,Q0d],[]⟩
def mG:Hm.Met:=⟨[103],[],[],false,1,[Q0d],[]⟩
def cA:Cla:=⟨kA,J7,[],false,false,false,[fX,Q1t],[mF,mG]⟩
def cB:Cla:=⟨[66],kA,[[73]],false,false,false,[fL],[]⟩
def cI:Cla:=⟨[73],J7,[],true,true,false,[],[]⟩
def cD:Cla:=⟨[68],J7,[],false,true,false,[],[]⟩
def Za:List Cla:=[cA,cB,cI,cD]
end Go.Hm
namespace Go.Proofs.YtfppjenblllfaaaGreatDoor
open Go.Emb Go.RowKit Go.Kd Go.Hm
variable {w w' : World} {K : Value → World → Prop} {σ σ' : Q4} {ds : List Value} {l : List Cla} {hp tv : Value}
set_option maxRecDepth 100000 in
theorem Q2u:Rw M6 Za=none:=by decide+kernel
theorem X39: ∀c∈Za,Qr c:=X4y (by decide)
theorem Q8v:Wf Za:=X56 Q2u
set_option maxHeartbeats 1000000 in
theorem Q53 (Y:X4 w σ) (h: ∀v w' σ',Stp w σ w' σ'→Sl 8 V4 σ' v Za→K v w'):Q0 P F.aB [] w K:=Bt (by
 unfold Vk
 refine W0 (cells:= #[S Q8M.op,I 1,S []]) (by kernel_rfl) ?_
 refine W0 (cells:= #[S Q0d.op,I 0,S []]) (by kernel_rfl) ?_
 refine O7 (R:=G9) (sz:=3) Y [.agg #[S Q8M.op,I 1,S []], .agg #[S Q0d.op,I 0,S []]] [Q8M,Q0d] rfl rfl (by simp;exact ⟨rfl,rfl⟩) rfl ⟨⟨rfl,by decide,by decide,by decide⟩,⟨rfl,by decide,by decide,by decide⟩,trivial⟩ fun v1 w1 σ1 s c=>?_
 refine W0 (cells:= #[S fX.name,S fX.kind, .bool false]) (by kernel_rfl) ?_
 refine W0 (cells:= #[S Q1t.name,S Q1t.kind, .bool false]) (by kernel_rfl) ?_
 refine O7 (R:=H0) (sz:=3) s.sat [.agg #[S fX.name,S fX.kind, .bool false], .agg #[S Q1t.name,S Q1t.kind, .bool false]] [fX,Q1t] rfl rfl (by simp;exact ⟨rfl,rfl⟩) rfl ⟨⟨rfl,by decide,by decide⟩,⟨rfl,by decide,by decide⟩,trivial⟩ fun v2 w2 σ2 i f=>?_
 refine O7 (R:=X7) (sz:=1) i.sat [S V1,S kA] [V1,kA] rfl rfl (by simp;exact ⟨rfl,rfl⟩) rfl ⟨⟨rfl,by decide⟩,⟨rfl,by decide⟩,trivial⟩ fun v3 w3 σ3 e r=>?_
 have y:=c;have k:=f;have j:=r
 obtain ⟨U,C,rfl,_⟩:=y
 obtain ⟨Q,O,rfl,_⟩:=k
 obtain ⟨J,V,rfl,_⟩:=j
 have c:=(c.up i).up e
 have f:=f.up e
 refine W0 (cells:= #[S mF.name, .slice J 2 V,S V1, .bool false,I 3, .slice U 2 C, .slice none 0 0]) (by kernel_rfl) ?_
 refine W0 (cells:= #[S Q0d.op,I 0,S []]) (by kernel_rfl) ?_
 refine O7 (R:=G9) (sz:=3) e.sat [.agg #[S Q0d.op,I 0,S []]] [Q0d] rfl rfl (by simp;rfl) rfl ⟨⟨rfl,by decide,by decide,by decide⟩,trivial⟩ fun v4 w4 Z a o=>?_
 have p:=o
 obtain ⟨L,N,rfl,_⟩:=p
 refine W0 (cells:= #[S mG.name, .slice none 0 0,S [], .bool false,I 1, .slice L 1 N, .slice none 0 0]) (by kernel_rfl) ?_
 refine O7 (R:=M3) (sz:=7) a.sat [.agg #[S mF.name, .slice J 2 V,S V1, .bool false,I 3, .slice U 2 C, .slice none 0 0], .agg #[S mG.name, .slice none 0 0,S [], .bool false,I 1, .slice L 1 N, .slice none 0 0]] [mF,mG] rfl rfl (by simp;exact ⟨rfl,rfl⟩) rfl
  ⟨⟨_,_,_,rfl,r.up a,c.up a,Sl.nil,by decide,by decide,by decide⟩,⟨_,_,_,rfl,Sl.nil,o,Sl.nil,by decide,by decide,by decide⟩,trivial⟩ fun v5 w5 σ5 g z=>?_
 have u:=z
 obtain ⟨H,X,rfl,_⟩:=u
 refine W0 (cells:= #[S kA,S J7, .slice none 0 0, .bool false, .bool false, .bool false, .slice Q 2 O, .slice H 2 X]) (by kernel_rfl) ?_
 refine O7 (R:=X7) (sz:=1) g.sat [S [73]] [[73]] rfl rfl (by simp;rfl) rfl ⟨⟨rfl,by decide⟩,trivial⟩ fun v6 w6 σ6 d m=>?_
 have n:=m
 obtain ⟨M,W,rfl,_⟩:=n
 refine W0 (cells:= #[S fL.name,S fL.kind, .bool false]) (by kernel_rfl) ?_
 refine O7 (R:=H0) (sz:=3) d.sat [.agg #[S fL.name,S fL.kind, .bool false]] [fL] rfl rfl (by simp;rfl) rfl ⟨⟨rfl,by decide,by decide⟩,trivial⟩ fun v7 w7 σ7 b t=>?_
 have q:=t
 obtain ⟨D,E,rfl,_⟩:=q
 refine W0 (cells:= #[S cB.name,S kA, .slice M 1 W, .bool false, .bool false, .bool false, .slice D 1 E, .slice none 0 0]) (by kernel_rfl) ?_
 refine W0 (cells:= #[S cI.name,S J7, .slice none 0 0, .bool true, .bool true, .bool false, .slice none 0 0, .slice none 0 0]) (by kernel_rfl) ?_
 refine W0 (cells:= #[S cD.name,S J7, .slice none 0 0, .bool false, .bool true, .bool false, .slice none 0 0, .slice none 0 0]) (by kernel_rfl) ?_
 refine O7 (R:=V4) (sz:=8) b.sat [.agg #[S kA,S J7, .slice none 0 0, .bool false, .bool false, .bool false, .slice Q 2 O, .slice H 2 X], .agg #[S cB.name,S kA, .slice M 1 W, .bool false, .bool false, .bool false, .slice D 1 E, .slice none 0 0], .agg #[S cI.name,S J7, .slice none 0 0, .bool true, .bool true, .bool false, .slice none 0 0, .slice none 0 0], .agg #[S cD.name,S J7, .slice none 0 0, .bool false, .bool true, .bool false, .slice none 0 0, .slice none 0 0]] Za rfl rfl (by simp;exact ⟨rfl,rfl,rfl,rfl⟩) rfl
  ⟨⟨_,_,_,rfl,Sl.nil,(((f.up a).up g).up d).up b,(z.up d).up b,by decide,by decide⟩,⟨_,_,_,rfl,m.up b,t,Sl.nil,by decide,by decide⟩,⟨_,_,_,rfl,Sl.nil,Sl.nil,Sl.nil,by decide,by decide⟩,⟨_,_,_,rfl,Sl.nil,Sl.nil,Sl.nil,by decide,by decide⟩,trivial⟩ fun v8 w8 σ8 A B=>?_
 exact h _ _ _ ((((((((s.trans i).trans e).trans a).trans g).trans d).trans b)).trans A) B)
end Go.Proofs.YtfppjenblllfaaaGreatDoor

namespace Go.Proofs.YtfppjenblllfaaaGreatDoor
open Go.Emb Go.RowKit Go.Kd Go.Hm
variable {w w' : World} {K : Value → World → Prop} {σ σ' : Q4} {v u : Value}
theorem Q5L {xs ys:List Q8} (t:X4 w σ) (b:Sl 1 X7 σ v xs) (q:Sl 1 X7 σ u ys) (h: ∀w',Below w.heap.size w w'→K (.bool (decide (xs=ys))) w'):Q0 P F.a6 [v,u] w K:=Mf (by
 have k:=b.max
 unfold Qe
 refine X0 b ?_
 refine X0 q ?_
 refine T4 ?_
 by_cases m:xs.length=ys.length
 case neg=>
  rw[show (!decide ((xs.length:Int)=(ys.length:Nat)))=true from by simp;omega]
  refine J8 ?_
  have e:decide (xs=ys)=false:=decide_eq_false fun e=>m (by rw[e])
  rw[e] at h
  exact h _ (Below.refl _ _)
 rw[show (!decide ((xs.length:Int)=(ys.length:Nat)))=false from by simp[m]]
 refine U6 ?_
 first | refine X0 b ?_ | skip
 refine U3 xs.length (fun i w'=>Stp w σ w' σ∧ ∀j (f:j<xs.length) (g:j<ys.length),j<i→xs[j]=ys[j]) ⟨Stp.refl t,fun _ _ _ h=>absurd h (Nat.not_lt_zero _)⟩ fun i w1 d z y=>?_
 obtain ⟨l,s⟩:=y
 first | refine X0 b ?_ | skip
 refine Z3 ?_
 refine Q5 (fun n=>?_) (fun n=>?_)
 ·have c:i<xs.length:=by simpa using n
  have p:i<ys.length:=by omega
  obtain ⟨D,_⟩:=Sl.elS b c
  obtain ⟨C,_⟩:=Sl.elS q p
  refine V0 l.sat ?_
  (repeat refine J3 Xt ?_)
  (intros;(repeat (rename_i a;subst a));(try simp only[↓M2,M2,Mb,reduceIte]))
  rename_i E o
  have r:=l.trans o.stp
  by_cases a:xs[i]=ys[i]
  ·simp only[decide_eq_true a,Bool.not_true,Wr]
   (try simp only[↓M1,M1,Mb,reduceIte])
   exact Y5 k c ⟨r,fun j f g B=>by
    by_cases e:j=i
    ·subst e;exact a
    ·exact s j f g (by omega)⟩
  ·simp only[decide_eq_false a,Bool.not_false,Di]
   have e:decide (xs=ys)=false:=decide_eq_false fun e=>a (by subst e;rfl)
   rw[e] at h
   exact h _ r.bel
 ·have A:i=xs.length:=by
   have: ¬i<xs.length:=by simpa using n
   omega
  have e:decide (xs=ys)=true:=decide_eq_true (List.ext_getElem m fun j f g=>s j f g (by omega))
  rw[e] at h
  exact h _ l.bel)
theorem Q52 {xs ys:List Q8} (t:X4 w σ) (b:Sl 1 X7 σ v xs) (q:Sl 1 X7 σ u ys) (h: ∀w',Below w.heap.size w w'→K (.bool (decide (xs=ys))) w'):Q0 P F.aO [v,u] w K:=Aq (by
 have k:=b.max
 unfold Nx
 refine X0 b ?_
 refine X0 q ?_
 refine T4 ?_
 by_cases m:xs.length=ys.length
 case neg=>
  rw[show (!decide ((xs.length:Int)=(ys.length:Nat)))=true from by simp;omega]
  refine J8 ?_
  have e:decide (xs=ys)=false:=decide_eq_false fun e=>m (by rw[e])
  rw[e] at h
  exact h _ (Below.refl _ _)
 rw[show (!decide ((xs.length:Int)=(ys.length:Nat)))=false from by simp[m]]
 refine U6 ?_
 first | refine X0 b ?_ | skip
 refine U3 xs.length (fun i w'=>Stp w σ w' σ∧ ∀j (f:j<xs.length) (g:j<ys.length),j<i→xs[j]=ys[j]) ⟨Stp.refl t,fun _ _ _ h=>absurd h (Nat.not_lt_zero _)⟩ fun i w1 d z y=>?_
 obtain ⟨l,s⟩:=y
 first | refine X0 b ?_ | skip
 refine Z3 ?_
 refine Q5 (fun n=>?_) (fun n=>?_)
 ·have c:i<xs.length:=by simpa using n
  have p:i<ys.length:=by omega
  obtain ⟨D,_⟩:=Sl.elS b c
  obtain ⟨C,_⟩:=Sl.elS q p
  refine V0 l.sat ?_
  (repeat refine J3 Xt ?_)
  (intros;(repeat (rename_i a;subst a));(try simp only[↓M2,M2,Mb,reduceIte]))
  rename_i E o
  have r:=l.trans o.stp
  by_cases a:xs[i]=ys[i]
  ·simp only[decide_eq_true a,Bool.not_true,Wr]
   (try simp only[↓M1,M1,Mb,reduceIte])
   exact Y5 k c ⟨r,fun j f g B=>by
    by_cases e:j=i
    ·subst e;exact a
    ·exact s j f g (by omega)⟩
  ·simp only[decide_eq_false a,Bool.not_false,Di]
   have e:decide (xs=ys)=false:=decide_eq_false fun e=>a (by subst e;rfl)
   rw[e] at h
   exact h _ r.bel
 ·have A:i=xs.length:=by
   have: ¬i<xs.length:=by simpa using n
   omega
  have e:decide (xs=ys)=true:=decide_eq_true (List.ext_getElem m fun j f g=>s j f g (by omega))
  rw[e] at h
  exact h _ l.bel)
theorem X0v (a b:Shp):decide (a=b)=((a.seen==b.seen)&&(decide (a.stack=b.stack)&&decide (a.locals=b.locals))):=by
 cases a;cases b
 rw[Bool.eq_iff_iff]
 simp[Shp.mk.injEq,and_assoc]
theorem X2O {a b:Shp} {ds es:List Value} (p:X4 w σ) (t:W8 σ a ds) (r:W8 σ b es) (h: ∀w',Below w.heap.size w w'→K (.bool (decide (a=b))) w'):Q0 P F.cL [.agg ds.toArray, .agg es.toArray] w K:=Q7q (by
 obtain ⟨sv,J,rfl,q,z⟩:=t
 obtain ⟨H,mv,rfl,s,y⟩:=r
 rw[X0v] at h
 unfold Q2j
 refine Z0 p fun A w1 σ1 l j=>?_
 refine Z0 l.sat fun E L C e f=>?_
 have d:=j.up e
 have c:=l.trans e
 refine J5 ?_
 refine ld (i:=0) e.sat d rfl ?_
 refine J5 ?_
 refine ld (i:=0) e.sat f rfl ?_
 rw[Q9x]
 cases m:(a.seen==b.seen) with
 | false=>
  rw[m] at h
  (repeat refine Hd.h ?_)
  exact h _ c.bel
 | true=>
  rw[m,Bool.true_and] at h
  (repeat refine Hd.h ?_)
  refine ld (i:=1) e.sat d rfl ?_
  (repeat refine Hd.h ?_)
  refine ld (i:=1) e.sat f rfl ?_
  (repeat refine Hd.h ?_)
  refine Q5L e.sat (q.up c) (s.up c) fun B n=>?_
  have g:=Stp.of_below e.sat n
  cases k:decide (a.stack=b.stack) with
  | false=>
   rw[k] at h
   (repeat refine Hd.h ?_)
   exact h _ (c.trans g).bel
  | true=>
   rw[k,Bool.true_and] at h
   (repeat refine Hd.h ?_)
   refine ld (i:=2) g.sat d rfl ?_
   (repeat refine Hd.h ?_)
   refine ld (i:=2) g.sat f rfl ?_
   (repeat refine Hd.h ?_)
   refine Q5L g.sat (z.up c) (y.up c) fun D o=>?_
   (repeat refine Hd.h ?_)
   exact h _ (c.trans (g.trans (Stp.of_below g.sat o))).bel)
theorem Bf {a b:Shp} {ds es:List Value} (p:X4 w σ) (t:W8 σ a ds) (r:W8 σ b es) (h: ∀w',Below w.heap.size w w'→K (.bool (decide (a=b))) w'):Q0 P F.aa [.agg ds.toArray, .agg es.toArray] w K:=Ah (by
 obtain ⟨sv,J,rfl,q,z⟩:=t
 obtain ⟨H,mv,rfl,s,y⟩:=r
 rw[X0v] at h
 unfold Nu
 refine Z0 p fun A w1 σ1 l j=>?_
 refine Z0 l.sat fun E L C e f=>?_
 have d:=j.up e
 have c:=l.trans e
 refine J5 ?_
 refine ld (i:=0) e.sat d rfl ?_
 refine J5 ?_
 refine ld (i:=0) e.sat f rfl ?_
 rw[Q9x]
 cases m:(a.seen==b.seen) with
 | false=>
  rw[m] at h
  (repeat refine Hd.h ?_)
  exact h _ c.bel
 | true=>
  rw[m,Bool.true_and] at h
  (repeat refine Hd.h ?_)
  refine ld (i:=1) e.sat d rfl ?_
  (repeat refine Hd.h ?_)
  refine ld (i:=1) e.sat f rfl ?_
  (repeat refine Hd.h ?_)
  refine Q52 e.sat (q.up c) (s.up c) fun B n=>?_
  have g:=Stp.of_below e.sat n
  cases k:decide (a.stack=b.stack) with
  | false=>
   rw[k] at h
   (repeat refine Hd.h ?_)
   exact h _ (c.trans g).bel
  | true=>
   rw[k,Bool.true_and] at h
   (repeat refine Hd.h ?_)
   refine ld (i:=2) g.sat d rfl ?_
   (repeat refine Hd.h ?_)
   refine ld (i:=2) g.sat f rfl ?_
   (repeat refine Hd.h ?_)
   refine Q52 g.sat (z.up c) (y.up c) fun D o=>?_
   (repeat refine Hd.h ?_)
   exact h _ (c.trans (g.trans (Stp.of_below g.sat o))).bel)
end Go.Proofs.YtfppjenblllfaaaGreatDoor

namespace Go.Hm
open Go.Kd
structure Dr where
  stack : List Q8
  locals : List Q8
  e : Int
deriving DecidableEq
def Dr.wrong (d:Dr) (ok:Bool) (e:Int):Dr:=if ok=true then d else if d.e=0 then ⟨d.stack,d.locals,e⟩ else d
def Dr.taken (d:Dr) (n:Nat):List Q8:=if d.e=0∧n≤d.stack.length then d.stack.drop (d.stack.length-n) else List.replicate n []
def Dr.take (d:Dr) (n:Nat):Dr:=if d.e=0∧n≤d.stack.length then ⟨d.stack.take (d.stack.length-n),d.locals,0⟩ else d.wrong (decide (n≤d.stack.length)) 72
def Dr.put (d:Dr) (xs:List Q8):Dr:=if d.e=0 then ⟨d.stack++xs,d.locals,0⟩ else d
def Dr.put1 (d:Dr) (k:Q8):Dr:=if k=[] then d else d.put [k]
def Dr.all (l:List Cla) (d:Dr) (p:Q8) (a:List Q8):Dr:=((d.take a.length).wrong ((List.zipWith (O5 l) (d.taken a.length) a).all id) 73).put1 p
def F0 (d:Dr) (n:Int):Bool:=decide (0≤n)&&decide (n<(d.locals.length:Int))
def Lo (l:List Cla) (a:Q8):Bool:=R3 l a&& !plain a
def Em (l:List Cla) (s:Q8):Bool:= !decide (s=C3)&&R3 l s
inductive Dact where
  | puts (k : Q8) | takes (p : Q8) (w : List Q8) | load | store | pop | dup | swap | size | nop | make | get | give | call | array | at_ | set_ | is | cast | ret | equal
deriving DecidableEq
def C2 (l:List Cla) (c f:Q8) (ok:Bool):Option (Q8×Q8):=if ok=true then (F5 l c f).map fun k=>(c,((U4 l c).getD k Fld.zero).kind) else none
def V7 (l:List Cla) (m:Hm.Met) (i:Ins) (c f:Q8) (ok:Bool) (d:Dr):Dact→Dr
 | .puts k=>d.put [k]
 | .takes p w=>d.all l p w
 | .load=>
  let a:=d.wrong (F0 d i.n) 74
  if a.e=0 then (let k:=a.locals.getD i.n.toNat [];let b:=a.wrong (!decide (k=[])) 74;if b.e=0 then b.put [k] else b) else a
 | .store=>
  let a:=d.wrong (F0 d i.n) 74
  let b:=a.take 1
  if b.e=0 then ⟨b.stack,b.locals.set i.n.toNat ((a.taken 1).getD 0 []),0⟩ else b
 | .pop=>d.take 1
 | .dup=>(d.take 1).put [(d.taken 1).getD 0 [],(d.taken 1).getD 0 []]
 | .swap=>(d.take 2).put [(d.taken 2).getD 1 [],(d.taken 2).getD 0 []]
 | .size=>((d.take 1).wrong (!decide (elem ((d.taken 1).getD 0 [])=[])) 73).put [V1]
 | .nop=>d
 | .make=>let a:=d.wrong (Zz l i.s) 76;if a.e=0 then a.put [i.s] else a
 | .get=>match C2 l c f ok with
  | some (c,k)=>d.all l k [c]
  | none=>(d.wrong false 76).all l [] [[]]
 | .give=>match C2 l c f ok with
  | some (c,k)=>d.all l [] [c,k]
  | none=>(d.wrong false 76).all l [] [[],[]]
 | .call=>match Z9 l c f with
  | some (_,x)=>d.all l x.result (c::x.params)
  | none=>d.wrong false 76
 | .array=>((d.wrong (Em l i.s) 76).wrong (right (i.s++[91,93])) 76).all l (i.s++[91,93]) [V1]
 | .at_=>
  let t:=d.taken 2
  (((d.take 2).wrong (O5 l (t.getD 1 []) V1) 73).wrong (!decide (elem (t.getD 0 [])=[])) 73).put [elem (t.getD 0 [])]
 | .set_=>
  let t:=d.taken 3
  let a:=d.take 3
  let k:=if a.e=0 then elem (t.getD 0 []) else []
  ((a.wrong (!decide (k=[])) 73).wrong (O5 l (t.getD 2 []) k) 73).wrong (O5 l (t.getD 1 []) V1) 73
 | .is=>let a:=d.wrong (Em l i.s) 76;((a.take 1).wrong (Lo l ((a.taken 1).getD 0 [])) 73).put [L9]
 | .cast=>let a:=d.wrong (Em l i.s) 76;((a.take 1).wrong (Lo l ((a.taken 1).getD 0 [])) 73).put [i.s]
 | .ret=>if m.result=[] then d else d.all l [] [m.result]
 | .equal=>let t:=d.taken 2;(((d.take 2).wrong (Lo l (t.getD 1 [])) 73).wrong (Lo l (t.getD 0 [])) 73).put [L9]
def X0o:List (Q8×Dact):=[
 ([105,110,116], .puts V1),
 ([116,114,117,101], .puts L9),
 ([102,97,108,115,101], .puts L9),
 ([119,111,114,100], .puts D7),
 ([110,117,108,108], .puts C3),
 ([108,111,97,100], .load),
 ([115,116,111,114,101], .store),
 ([100,117,112], .dup),
 ([115,119,97,112], .swap),
 ([112,111,112], .pop),
 ([110,101,103], .takes V1 [V1]),
 ([110,111,116], .takes L9 [L9]),
 ([98,111,116,104], .takes L9 [L9,L9]),
 ([106,111,105,110], .takes D7 [D7,D7]),
 ([108,101,115,115], .takes L9 [V1,V1]),
 ([115,97,109,101], .takes L9 [V1,V1]),
 ([115,105,122,101], .size),
 ([106,117,109,112], .nop),
 ([98,114,97,110,99,104], .takes [] [L9]),
 ([110,101,119], .make),
 ([103,101,116], .get),
 ([112,117,116], .give),
 ([99,97,108,108], .call),
 ([97,114,114,97,121], .array),
 ([97,116], .at_),
 ([115,101,116], .set_),
 ([105,115], .is),
 ([99,97,115,116], .cast),
 ([114,101,116,117,114,110], .ret),
 ([116,104,114,111,119], .takes [] [W4]),
 ([111,117,116], .takes [] [V1]),
 ([101,113,117,97,108], .equal)]
def Q2T:List Q8:=[[97,100,100],[115,117,98],[109,117,108],[100,105,118],[114,101,109],[97,110,100],[111,114],[120,111,114],[115,104,108],[115,104,114]]
def Ub:List (Q8×Dact):=(Q2T.map fun o=>(o,Dact.takes V1 [V1,V1])).reverse++X0o.reverse
def Sn (l:List Cla) (m:Hm.Met) (i:Ins) (c f:Q8) (ok:Bool) (s:Shp):Shp×Int:=
 match Ub.lookup i.op with
 | none=>(Shp.zero,76)
 | some a=>
  let d:=V7 l m i c f ok ⟨s.stack,s.locals,0⟩ a
  let b:=d.wrong (decide (d.stack.length≤24)) 72
  if b.e=0 then (⟨true,b.stack,b.locals⟩,0) else (Shp.zero,b.e)
def Dr.over (d:Dr) (u:List Q8):Dr:=⟨u++d.stack,d.locals,d.e⟩
theorem Dr.wrong_ok {d:Dr} {ok:Bool} {e:Int} (g:e≠0) (h:(d.wrong ok e).e=0):d.e=0∧ok=true∧d.wrong ok e=d:=by
 unfold Dr.wrong at*
 by_cases a:ok=true
 ·rw[if_pos a] at*;exact ⟨h,a,rfl⟩
 ·rw[if_neg a] at h
  by_cases b:d.e=0
  ·rw[if_pos b] at h;exact absurd h g
  ·rw[if_neg b] at h;exact absurd h b
theorem Dr.wrong_true {d:Dr} {e:Int}:d.wrong true e=d:=rfl
theorem Dr.take_ok {d:Dr} {n:Nat} (h:(d.take n).e=0):d.e=0∧n≤d.stack.length∧d.take n=⟨d.stack.take (d.stack.length-n),d.locals,0⟩∧d.taken n=d.stack.drop (d.stack.length-n):=by
 unfold Dr.take Dr.taken at*
 by_cases a:d.e=0∧n≤d.stack.length
 ·rw[if_pos a,if_pos a];exact ⟨a.1,a.2,rfl,rfl⟩
 ·rw[if_neg a] at h
  obtain ⟨g,b,_⟩:=Dr.wrong_ok (by decide) h
  exact absurd ⟨g,by simpa using b⟩ a
theorem Dr.put_e {d:Dr} {xs:List Q8}:(d.put xs).e=d.e:=by
 unfold Dr.put;split
 ·rename_i h;exact h.symm
 ·rfl
theorem Dr.put_ok {d:Dr} {xs:List Q8} (h:(d.put xs).e=0):d.e=0∧d.put xs=⟨d.stack++xs,d.locals,0⟩:=by
 rw[Dr.put_e] at h
 exact ⟨h,by unfold Dr.put;rw[if_pos h]⟩
theorem X0l {n:Nat} {u s:List Q8} (h:n≤s.length):(u++s).drop ((u++s).length-n)=s.drop (s.length-n)∧(u++s).take ((u++s).length-n)=u++s.take (s.length-n):=by
 have e:(u++s).length-n=u.length+(s.length-n):=by simp;omega
 rw[e]
 exact ⟨by rw[List.drop_append];simp,by rw[List.take_append,List.take_of_length_le (by omega)];simp⟩
theorem Dr.over_take {d:Dr} {n:Nat} {u:List Q8} (h:(d.take n).e=0):(d.over u).take n=(d.take n).over u∧(d.over u).taken n=d.taken n:=by
 obtain ⟨a,b,o,p⟩:=Dr.take_ok h
 obtain ⟨k,j⟩:=X0l (u:=u) b
 have g:(d.over u).e=0∧n≤(d.over u).stack.length:=⟨a,by simp[Dr.over];omega⟩
 constructor
 ·unfold Dr.take
  rw[if_pos g,if_pos ⟨a,b⟩]
  unfold Dr.over
  rw[j]
 ·unfold Dr.taken
  rw[if_pos g,if_pos ⟨a,b⟩]
  exact k
theorem Dr.over_wrong {d:Dr} {ok:Bool} {e:Int} {u:List Q8} (b:e≠0) (h:(d.wrong ok e).e=0):(d.over u).wrong ok e=(d.wrong ok e).over u:=by
 obtain ⟨_,g,a⟩:=Dr.wrong_ok b h
 rw[a,g];rfl
theorem Dr.over_put {d:Dr} {xs:List Q8} {u:List Q8} (h:(d.put xs).e=0):(d.over u).put xs=(d.put xs).over u:=by
 obtain ⟨a,b⟩:=Dr.put_ok h
 rw[b]
 unfold Dr.put Dr.over
 rw[if_pos a,List.append_assoc]
theorem Dr.over_put1 {d:Dr} {k:Q8} {u:List Q8} (h:(d.put1 k).e=0):(d.over u).put1 k=(d.put1 k).over u:=by
 unfold Dr.put1 at*
 split
 ·rfl
 ·rename_i a;rw[if_neg a] at h;exact Dr.over_put h
theorem Dr.put1_e {d:Dr} {k:Q8}:(d.put1 k).e=d.e:=by
 unfold Dr.put1;split
 ·rfl
 ·exact Dr.put_e
structure Eff (d d' : Dr) (n p : Nat) : Prop where
  e : d.e = 0
  le : n ≤ d.stack.length
  st : ∃ r, r.length = p ∧ d'.stack = d.stack.take (d.stack.length - n) ++ r
theorem Dr.all_ok {l:List Cla} {d:Dr} {p:Q8} {w:List Q8} (h:(d.all l p w).e=0):Eff d (d.all l p w) w.length (if p=[] then 0 else 1)∧(d.all l p w).locals=d.locals∧ ∀u,(d.over u).all l p w=(d.all l p w).over u:=by
 have j:=h
 unfold Dr.all at h
 rw[Dr.put1_e] at h
 obtain ⟨g,q,b⟩:=Dr.wrong_ok (by decide) h
 obtain ⟨n,k,a,o⟩:=Dr.take_ok g
 refine ⟨⟨n,k,?_⟩,?_,fun u=>?_⟩
 ·unfold Dr.all
  rw[b,a]
  unfold Dr.put1 Dr.put
  split
  ·exact ⟨[],rfl,by simp⟩
  ·exact ⟨[p],rfl,rfl⟩
 ·unfold Dr.all
  rw[b,a]
  unfold Dr.put1 Dr.put
  split<;>rfl
 ·unfold Dr.all at j⊢
  obtain ⟨o1,o2⟩:=Dr.over_take (u:=u) g
  rw[o1,o2,Dr.over_wrong (by decide) h,Dr.over_put1 j]
def Ko (l:List Cla) (m:Hm.Met) (i:Ins) (c f:Q8) (ok:Bool):Dact→Nat×Nat
 | .puts _=>(0,1)
 | .takes p w=>(w.length,if p=[] then 0 else 1)
 | .load=>(0,1)
 | .store=>(1,0)
 | .pop=>(1,0)
 | .dup=>(1,2)
 | .swap=>(2,2)
 | .size=>(1,1)
 | .nop=>(0,0)
 | .make=>(0,1)
 | .get=>match C2 l c f ok with
  | some (_,k)=>(1,if k=[] then 0 else 1)
  | none=>(0,0)
 | .give=>match C2 l c f ok with
  | some _=>(2,0)
  | none=>(0,0)
 | .call=>match Z9 l c f with
  | some (_,x)=>(x.params.length+1,if x.result=[] then 0 else 1)
  | none=>(0,0)
 | .array=>(1,1)
 | .at_=>(2,1)
 | .set_=>(3,0)
 | .is=>(1,1)
 | .cast=>(1,1)
 | .ret=>if m.result=[] then (0,0) else (1,0)
 | .equal=>(2,1)
structure Done (l : List Cla) (m : Hm.Met) (i : Ins) (c f : Q8) (ok : Bool) (a : Dact) (d : Dr) (n p : Nat) : Prop where
  eff : Eff d (V7 l m i c f ok d a) n p
  len : (V7 l m i c f ok d a).locals.length = d.locals.length
  loc : a ≠ .store → (V7 l m i c f ok d a).locals = d.locals
  ov : ∀ u, V7 l m i c f ok (d.over u) a = (V7 l m i c f ok d a).over u
theorem Eff.put {d a:Dr} {n p:Nat} {xs:List Q8} (h:Eff d a n p) (j:a.e=0):Eff d (a.put xs) n (p+xs.length):=by
 obtain ⟨g,o,r,b,k⟩:=h
 refine ⟨g,o,r++xs,by simp[b],?_⟩
 unfold Dr.put
 rw[if_pos j]
 simp only[k,List.append_assoc]
theorem Eff.take {d:Dr} {n:Nat} (h:(d.take n).e=0):Eff d (d.take n) n 0:=by
 obtain ⟨b,g,a,_⟩:=Dr.take_ok h
 exact ⟨b,g,[],rfl,by rw[a];simp⟩
theorem Eff.none {d:Dr} (h:d.e=0):Eff d d 0 0:=⟨h,Nat.zero_le _,[],rfl,by simp⟩
theorem Dr.take_loc {d:Dr} {n:Nat} (h:(d.take n).e=0):(d.take n).locals=d.locals:=by rw[(Dr.take_ok h).2.2.1]
theorem Dr.put_loc {d:Dr} {xs:List Q8}:(d.put xs).locals=d.locals:=by unfold Dr.put;split<;>rfl
section
variable {l : List Cla} {m : Hm.Met} {i : Ins} {c f : Q8} {ok : Bool} {d : Dr}
theorem Xr {n p:Nat} {k:Dact} {q:List Q8→Bool} {r:List Q8→List Q8} (a: ∀d,V7 l m i c f ok d k=((d.take n).wrong (q (d.taken n)) 73).put (r (d.taken n))) (o: ∀x,(r x).length=p) (s:k≠ .store) (h:(V7 l m i c f ok d k).e=0):Done l m i c f ok k d n p:=by
 have j:=h
 rw[a,Dr.put_e] at h
 obtain ⟨b,t,g⟩:=Dr.wrong_ok (by decide) h
 refine ⟨?_,?_,fun _=>?_,fun u=>?_⟩
 ·rw[a,g]
  have:=(Eff.take b).put b (xs:=r (d.taken n))
  rwa [Nat.zero_add,o] at this
 ·rw[a,g,Dr.put_loc,Dr.take_loc b]
 ·rw[a,g,Dr.put_loc,Dr.take_loc b]
 ·obtain ⟨o1,o2⟩:=Dr.over_take (u:=u) b
  rw[a] at j
  rw[a,a,o1,o2,Dr.over_wrong (by decide) h,Dr.over_put j]
theorem Dj {k:Dact} {p:Q8} {w:List Q8} (a: ∀d,V7 l m i c f ok d k=d.all l p w) (n:k≠ .store) (h:(V7 l m i c f ok d k).e=0):Done l m i c f ok k d w.length (if p=[] then 0 else 1):=by
 rw[a] at h
 obtain ⟨j,b,g⟩:=Dr.all_ok h
 refine ⟨?_,?_,fun _=>?_,fun u=>?_⟩
 ·rw[a];exact j
 ·rw[a,b]
 ·rw[a,b]
 ·rw[a,a];exact g u
theorem Q6J {k:Dact} {x:Q8} {q:Bool} {e:Int} (b:e≠0) (a: ∀d,V7 l m i c f ok d k=(d.wrong q e).put [x]) (p:k≠ .store) (h:(V7 l m i c f ok d k).e=0):Done l m i c f ok k d 0 1:=by
 have j:=h
 rw[a,Dr.put_e] at h
 obtain ⟨n,o,g⟩:=Dr.wrong_ok b h
 refine ⟨?_,?_,fun _=>?_,fun u=>?_⟩
 ·rw[a,g];exact (Eff.none n).put n
 ·rw[a,g,Dr.put_loc]
 ·rw[a,g,Dr.put_loc]
 ·rw[a] at j
  rw[a,a,Dr.over_wrong b h,Dr.over_put j]
theorem Dr.wrong_put {d:Dr} {q:Bool} {e:Int} {xs:List Q8}:(if (d.wrong q e).e=0 then (d.wrong q e).put xs else d.wrong q e)=(d.wrong q e).put xs:=by
 split
 ·rfl
 ·rename_i h;unfold Dr.put;rw[if_neg h]
theorem Dr.wrong2 {d:Dr} {a b:Bool} {e:Int}:(d.wrong a e).wrong b e=d.wrong (a&&b) e:=by
 unfold Dr.wrong
 cases a<;>cases b<;>simp<;>split<;>simp_all
end
end Go.Hm

namespace Go.Proofs.YtfppjenblllfaaaGreatDoor
open Go.Emb Go.RowKit Go.Kd Go.Hm
variable {w : World} {K : Value → World → Prop} {σ : Q4}
end Go.Proofs.YtfppjenblllfaaaGreatDoor

namespace Go.Emb
open Go.RowKit Go.Hm
variable {w w0 w1 w' w'' : World} {σ σ0 σ1 σ2 σ' : Q4}
theorem Stp.weak (h:Stp w σ1 w' σ2) (a: ∀b o,σ b=some o→σ1 b=some o):Stp w σ w' σ:=
 ⟨h.bel,fun b o e=>h.sat b o (h.le b o (a b o e)),fun _ _ e=>e,fun _ _=>rfl⟩
end Go.Emb
namespace Go.Proofs.YtfppjenblllfaaaGreatDoor
open Go.Emb Go.RowKit Go.Kd Go.Hm
variable {w : World} {K : Value → World → Prop} {σ : Q4}
end Go.Proofs.YtfppjenblllfaaaGreatDoor

namespace Go.Emb
open Go.RowKit Go.Hm
section
variable {P : Program} {w w' w0 : World} {σ σ' σ0 : Q4} {α : Type} {R : Q4 → α → List Value → Prop} {B sz : Nat} {e : TypeId} {v u : Value} {xs : List α} {K : Value → World → Prop}
theorem X4F {t:TypeId} {by_:Nat} {z:Value} [ts:TS P t e] [tz:TZ P e sz by_ z] (h:J9 B e sz R σ w v xs) {k:Nat} (J:k≤xs.length)
 (A: ∀j,J9 B e sz R σ w j (xs.take k)→j.ownBlock=v.ownBlock→K j w):R5 P t v none (some (I k)) (some (I k)) w K:=by
 obtain ⟨a,c,rfl,N,O,o,H⟩:=h
 have hh: ∀w:World,(Instr.sliceBounds true xs.length c none (some (I k)) (some (I k))).run P w= .ok (0,k,k) w:=by
  intro w
  have q:(k:Int)≤c:=by omega
  simp[Instr.sliceBounds,Instr.sliceBound,asIntOf,q]
 unfold R5
 have:(Instr.sliceAt t (.slice a xs.length c) none (some (I k)) (some (I k))).run P w= .ok (.slice (if k=0 then a else a.map (·.add (0*sz))) (k-0) (k-0)) w:=by
  simp[Instr.sliceAt,run_underlying ts.h,Instr.slice,hh,W5 tz]
 rw[Y2 this]
 have hv:(if k=0 then a else a.map (·.add (0*sz)))=a:=by
  split
  ·rfl
  ·cases a with
   | none=>rfl
   | some b=>simp[Addr.add]
 rw[hv,Nat.sub_zero]
 refine A _ ⟨a,k,by rw[List.length_take,Nat.min_eq_left J],by rw[List.length_take];omega,by omega,o,fun M=>?_⟩ (by cases a<;>rfl)
 obtain ⟨g,l,n,rfl,r,y,C,L,E⟩:=H (by omega)
 have s:k*sz≤c*sz:=Nat.mul_le_mul_right _ (by omega)
 refine ⟨g,l,n,rfl,r,y,C,by omega,fun i x f=>?_⟩
 rw[List.getElem?_take] at f
 split at f
 ·exact E i x f
 ·cases f
theorem J9.updD {b:Nat} (h:J9 B e sz R σ w v xs) (u:Upd w b w') (a:v.ownBlock≠some b):J9 B e sz R σ w' v xs:=
 h.kp (D:=fun j=>j=b) (Kpt.of_upd u rfl) fun k c e=>a (e▸c)
end
end Go.Emb
namespace Go.Proofs.YtfppjenblllfaaaGreatDoor
open Go.Emb Go.RowKit Go.Kd Go.Hm
variable {w w' : World} {K : Value → World → Prop} {σ σ' : Q4} {v u : Value}
theorem Q4q {xs:List Q8} (j:X4 w σ) (hv:Sl 1 X7 σ v xs) (A:xs.length≤1000000)
 (h: ∀f w',Stp w σ w' σ→J1 w.heap.size T.a 1 X7 σ w' f xs→K f w'):Q0 P F.b [v] w K:=T9 (by
 unfold B4
 have b:=hv
 obtain ⟨a,t,rfl,J,E,k,C⟩:=hv
 refine Gw rfl ?_
 refine Q5 (fun g=>?_) (fun g=>?_)
 ·have:a=none:=by simpa using g
  subst this
  have l:=k rfl
  subst l
  have o:xs=[]:=List.eq_nil_of_length_eq_zero (by omega)
  subst o
  exact h _ w (Stp.refl j) J1.nil
 ·refine Xc (R:=X7) (sz:=1) (Stp.refl j) [] [] rfl rfl (by simp) (by rfl) trivial fun z w1 q s _=>?_
  refine app q s b (by rfl) (by simp only[List.length_nil];omega) (by simp only[List.length_nil];omega) fun y r H n c _=>?_
  exact h _ r n c)
theorem X1Q {B:Nat} {xs:List Q8} (l:X4 w σ) (hv:J9 B T.a 1 X7 σ w v xs) (j:xs.length≤1000000)
 (h: ∀a w' σ',Stp w σ w' σ'→Sl 1 X7 σ' a xs→K a w'):Q0 P F.b [v] w K:=by
 obtain ⟨s,c,b,g,_⟩:=hv.freeze l
 refine Q4q c g j fun a w' o q=>?_
 have k:=o.weak b.le
 have f:=(J9.of_acc q).down b fun _ _ h=>h
 obtain ⟨σ',n,r,_,_⟩:=f.keep (w0:=w) (σ0:=σ) k
 exact h a w' σ' n r
structure DrIs (B : Nat) (D : Nat → Prop) (σ : Q4) (w : World) (p tv pv cv hv : Value) (m : Hm.Met) (i : Ins) (d : Dr) : Prop where
  ex : ∃ b sv lv, p = .pointer (some ⟨b, 0, none⟩) ∧ B ≤ b ∧ Z7 σ w b [tv, S m.name, pv, S m.result, .bool m.abs, I m.locals, cv, hv, S i.op, I i.n, S i.s, .bool true, sv, lv, I d.e] ∧ J9 B T.a 1 X7 σ w sv d.stack ∧ J9 B T.a 1 X7 σ w lv d.locals ∧ (∀ k, sv.ownBlock = some k → k ≠ b ∧ lv.ownBlock ≠ some k) ∧ (∀ k, lv.ownBlock = some k → k ≠ b) ∧ ∀ k, D k ↔ (k = b ∨ sv.ownBlock = some k ∨ lv.ownBlock = some k)
section
variable {B : Nat} {D : Nat → Prop} {p tv pv cv hv : Value} {m : Hm.Met} {i : Ins} {d : Dr}
theorem DrIs.mem (h:DrIs B D σ w p tv pv cv hv m i d) {k:Nat} (hk:D k):B≤k∧k<w.heap.size∧σ k=none:=by
 obtain ⟨b,sv,g,rfl,hB,a,c,f,_,_,hD⟩:=h.ex
 rcases (hD k).1 hk with rfl | hk | hk
 ·exact ⟨hB,a.lt,a.1⟩
 ·exact c.mem hk
 ·exact f.mem hk
theorem DrIs.nx {F:Nat→Prop} (h:DrIs B D σ w p tv pv cv hv m i d) (k:Nxt F w σ w' σ') (c: ∀j,D j→ ¬F j):DrIs B D σ' w' p tv pv cv hv m i d:=by
 obtain ⟨b,sv,g,rfl,hB,f,l,n,o,q,hD⟩:=h.ex
 exact ⟨b,sv,g,rfl,hB,f.nx k (c b ((hD b).2 (.inl rfl))),l.nx k fun j a=>c j ((hD j).2 (.inr (.inl a))),n.nx k fun j a=>c j ((hD j).2 (.inr (.inr a))),o,q,hD⟩
theorem DrIs.up (h:DrIs B D σ w p tv pv cv hv m i d) (k:Stp w σ w' σ'):DrIs B D σ' w' p tv pv cv hv m i d:=
 h.nx (F:=fun _=>False) (.of_stp k) fun _ _=>id
theorem Nxt.rfl0 (a:X4 w σ):Nxt D w σ w σ:= .of_stp (Stp.refl a)
theorem Nxt.updD (g:X4 w σ) {b:Nat} (u:Upd w b w') (h:σ b=none) (f:D b):Nxt D w σ w' σ:=
 ⟨Kpt.of_upd u f,SLe.refl _,fun _ _=>rfl,fun k o a=>by
  have c:k≠b:=fun e=>by subst e;rw[h] at a;cases a
  rw[u.block k c];exact g k o a⟩
theorem Q1F {ok:Bool} {e:Int} (n:X4 w σ) (h:DrIs B D σ w p tv pv cv hv m i d)
 (hh: ∀w',Nxt D w σ w' σ→DrIs B D σ w' p tv pv cv hv m i (d.wrong ok e)→K (.bool (decide ((d.wrong ok e).e=0))) w'):Q0 P F.c [p, .bool ok,I e] w K:=Tm (by
 have o:=h
 obtain ⟨b,sv,C,rfl,hB,j,z,A,s,q,hD⟩:=h.ex
 unfold Oh
 refine Zj (fun _ w'=>Nxt D w σ w' σ∧DrIs B D σ w' (.pointer (some ⟨b,0,none⟩)) tv pv cv hv m i (d.wrong ok e)) ?_ (fun _ J w1 H=>?_)
 ·cases ok with
  | true=>
   simp only[Bool.not_true,↓M1,M1,Mb,reduceIte]
   exact ⟨Nxt.rfl0 n,o⟩
  | false=>
   simp only[Bool.not_false,↓M1,M1,Mb,reduceIte]
   refine B6 (i:=14) j rfl ?_
   by_cases a:d.e=0
   ·simp only[decide_eq_true a,↓M1,M1,Mb,reduceIte]
    refine Nz (i:=14) j (by simp) rfl rfl fun M k g=>?_
    have c:d.wrong false e=⟨d.stack,d.locals,e⟩:=by unfold Dr.wrong;rw[if_neg (by simp),if_pos a]
    rw[c]
    exact ⟨Nxt.updD n k j.1 ((hD b).2 (.inl rfl)),b,sv,C,rfl,hB,g,z.updD k fun e=>(s b e).1 rfl,A.updD k fun e=>q b e rfl,s,q,hD⟩
   ·simp only[decide_eq_false a,↓M1,M1,Mb,reduceIte]
    have c:d.wrong false e=d:=by unfold Dr.wrong;rw[if_neg (by simp),if_neg a]
    rw[c]
    exact ⟨Nxt.rfl0 n,o⟩
 ·obtain ⟨N,r⟩:=H
  have f:=r
  obtain ⟨L,y,t,E,_,l,_⟩:=r.ex
  cases E
  simp only[↓M1,M1,Mb,reduceIte]
  refine B6 (i:=14) l rfl ?_
  simp only[↓M1,M1,Mb,reduceIte]
  exact hh w1 N f)
theorem X2m {ys:List Q8} (X:X4 w σ) (hB:B≤w.heap.size) (h:DrIs B D σ w p tv pv cv hv m i d) (hy:Sl 1 X7 σ v ys) (hl:d.stack.length+ys.length≤1000000)
 (hh: ∀w' Y,Nxt D w σ w' σ→DrIs B Y σ w' p tv pv cv hv m i (d.put ys)→(∀j,Y j→D j∨w.heap.size≤j)→K (.tuple #[]) w'):Q0 P F.g [p,v] w K:=Q1R (by
 have h0:=h
 obtain ⟨b,sv,Q,rfl,M,l,hq,y,C,W,hD⟩:=h.ex
 unfold Hf
 rw[H7]
 refine J5 ?_
 refine B6 (i:=14) l rfl ?_
 refine Vo ?_
 by_cases A:d.e=0
 case neg=>
  rw[decide_eq_false A]
  refine U6 ?_
  have H:d.put ys=d:=by unfold Dr.put;rw[if_neg A]
  rw[H] at hh
  exact hh w D (Nxt.rfl0 X) h0 fun j hj=> .inl hj
 rw[decide_eq_true A]
 rw[A] at l
 refine J8 ?_
 have H:d.put ys=⟨d.stack++ys,d.locals,0⟩:=by unfold Dr.put;rw[if_pos A]
 rw[H] at hh
 simp only[↓M1,M1,Mb,reduceIte]
 refine B6 (i:=12) l rfl ?_
 refine Q2U X hB hq hy (by rfl) (by omega) (by omega) fun q U V r o E=>?_
 have g: ∀k,q.ownBlock=some k→sv.ownBlock=some k∨w.heap.size≤k:=fun k f=>by
  rcases E with ⟨a,ah,ea,eb⟩ | ⟨_,z⟩
  ·left;rw[ea];rw[eb] at f;cases a<;>exact f
  ·exact .inr (z k f)
 have n:Kpt (fun k=>sv.ownBlock=some k) w U:=V.mono fun k _ e=>e.1
 have s:Z7 σ U b _:=⟨l.1,by obtain ⟨e,he⟩:=l.2;exact ⟨e,(n.block b l.lt fun e=>(C b e).1 rfl).trans he⟩⟩
 have L:=y.kp n fun k f e=>(C k e).2 f
 rw[Yt]
 refine Nz (i:=12) s (by simp) (by obtain ⟨a,c,rfl,_⟩:=o;rfl) (by obtain ⟨a,c,rfl,_⟩:=o;rfl) fun w3 N J=>?_
 have Z:=l.lt
 have t: ∀k,q.ownBlock=some k→k≠b:=fun k f e=>by
  rcases g k f with h | h
  ·exact (C k h).1 e
  ·omega
 have O: ∀k,q.ownBlock=some k→Q.ownBlock≠some k:=fun k f e=>by
  rcases g k f with h | h
  ·exact (C k h).2 e
  ·have:=(y.mem e).2.1;omega
 have N2:Nxt D w σ U σ:=⟨n.mono fun k _ e=>(hD k).2 (.inr (.inl e)),SLe.refl _,fun _ _=>rfl,r⟩
 refine hh w3 (fun k=>k=b∨q.ownBlock=some k∨Q.ownBlock=some k) (N2.trans (Nxt.updD r N s.1 ((hD b).2 (.inl rfl)))) ⟨b,q,Q,rfl,M,J,o.updD N fun e=>t b e rfl,L.updD N fun e=>W b e rfl,fun k f=>⟨t k f,O k f⟩,W,fun k=>Iff.rfl⟩ fun j hj=>?_
 rcases hj with rfl | hj | hj
 ·exact .inl ((hD _).2 (.inl rfl))
 ·exact (g j hj).imp (fun h=>(hD j).2 (.inr (.inl h))) id
 ·exact .inl ((hD j).2 (.inr (.inr hj))))
end
end Go.Proofs.YtfppjenblllfaaaGreatDoor

namespace Go.Proofs.YtfppjenblllfaaaGreatDoor
open Go.Emb Go.RowKit Go.Kd Go.Hm
variable {w w' : World} {K : Value → World → Prop} {σ σ' : Q4} {v u : Value} {B : Nat} {D : Nat → Prop} {p tv pv cv hv : Value} {m : Hm.Met} {i : Ins} {d : Dr} {l : List Cla}
set_option maxHeartbeats 1000000 in
theorem X0b {n:Nat} (hs:X4 w σ) (h:DrIs B D σ w p tv pv cv hv m i d) (hl:d.stack.length≤1000000) (hn:n≤2000000)
 (hh: ∀v w' σ',Nxt D w σ w' σ'→DrIs B D σ' w' p tv pv cv hv m i (d.take n)→Sl 1 X7 σ' v (d.taken n)→K v w'):Q0 P F.i [p,I n] w K:=Q0i (by
 have h0:=h
 obtain ⟨b,sv,lv,rfl,hB,hm,hq,ap,h1,h2,hD⟩:=h.ex
 unfold Ei
 simp only[↓M1,M1,Mb,reduceIte]
 refine B6 (i:=12) hm rfl ?_
 refine Vq hq ?_
 refine G5 ?_
 rw[show decide ((n:Int)≤(d.stack.length:Nat))=decide (n≤d.stack.length) from decide_eq_decide.2 (by omega)]
 refine Q1F hs h0 fun w1 A z=>?_
 by_cases j:d.e=0∧n≤d.stack.length
 case neg=>
  have L:d.take n=d.wrong (decide (n≤d.stack.length)) 72:=by unfold Dr.take;rw[if_neg j]
  have Q:d.taken n=List.replicate n []:=by unfold Dr.taken;rw[if_neg j]
  have he: ¬(d.wrong (decide (n≤d.stack.length)) 72).e=0:=fun e=>by
   obtain ⟨k1,k2,_⟩:=Dr.wrong_ok (by decide) e
   exact j ⟨k1,by simpa using k2⟩
  rw[L,Q] at hh
  rw[decide_eq_false he]
  simp only[Bool.not_false,↓M1,M1,Mb,reduceIte]
  refine X4g (R:=X7) (sz:=1) ([]:Q8) A.sat (by kernel_rfl) (by decide) ⟨rfl,by decide⟩ (by omega) (by omega) fun Z w2 Y W _=>?_
  obtain ⟨N,s3,q3,ar,_⟩:=W.keep Y
  exact hh Z w2 N (A.trans (.of_stp s3)) (z.up s3) q3
 have ew:d.wrong (decide (n≤d.stack.length)) 72=d:=by rw[decide_eq_true j.2];rfl
 have L:d.take n=⟨d.stack.take (d.stack.length-n),d.locals,0⟩:=by unfold Dr.take;rw[if_pos j]
 have Q:d.taken n=d.stack.drop (d.stack.length-n):=by unfold Dr.taken;rw[if_pos j]
 rw[ew] at z⊢
 rw[L,Q] at hh
 rw[decide_eq_true j.1]
 simp only[Bool.not_true,↓M1,M1,Mb,reduceIte]
 have al:=z
 obtain ⟨b',ae,C,e1,E,g,r,y,g1,g2,t⟩:=z.ex
 cases e1
 rw[j.1] at g
 refine B6 (i:=12) g rfl ?_
 refine Vq r ?_
 refine X2v ?_
 rw[G1 (by omega) (by omega),show (d.stack.length:Int)-(n:Int)=((d.stack.length-n:Nat):Int) by omega]
 refine B6 (i:=12) g rfl ?_
 refine X2e r (d.stack.length-n) (by omega) fun Z U _=>?_
 refine X1Q A.sat U (by rw[List.length_drop];omega) fun v3 w3 N f O=>?_
 have q:=g.up f
 have V:=r.up f
 have X:=y.up f
 refine B6 (i:=12) q rfl ?_
 refine X4F V (k:=d.stack.length-n) (by omega) fun v4 s o=>?_
 rw[Yt]
 refine Nz (i:=12) q (by simp) (by obtain ⟨a,c,rfl,_⟩:=s;rfl) (by obtain ⟨a,c,rfl,_⟩:=s;rfl) fun w5 H J=>?_
 have M:=A.trans (Nxt.of_stp (D:=D) f)
 refine hh v3 w5 N (M.trans (Nxt.updD f.sat H q.1 ((t b).2 (.inl rfl)))) ⟨b,v4,C,rfl,E,J,s.updD H fun e=>(g1 b (by rw[←o];exact e)).1 rfl,X.updD H fun e=>g2 b e rfl,fun k hk=>g1 k (by rw[←o];exact hk),g2,fun k=>by rw[o];exact t k⟩ O)
theorem Q8F {a c:Q8} (o:X4 w σ) (h:DrIs B D σ w p tv pv cv hv m i d) (k:Tab σ tv l) (ok:Ok l) (t:a.length≤Y9) (q:c.length≤Y9)
 (hh: ∀w' σ',Nxt D w σ w' σ'→DrIs B D σ' w' p tv pv cv hv m i (d.wrong (O5 l a c) 73)→K (.tuple #[]) w'):Q0 P F.a1 [p,S a,S c] w K:=Ab (by
 have n:=h
 obtain ⟨b,sv,A,rfl,hB,j,y,r,z,C,hD⟩:=h.ex
 unfold Od
 rw[H7]
 refine J5 ?_
 refine B6 (i:=0) j rfl ?_
 refine Q5B o k ok t q fun w1 σ1 e=>?_
 refine Q1F e.sat (n.up e) fun s f g=>?_
 exact hh s σ1 ((Nxt.of_stp e).trans f) g)
def dnM (y:Value):Nat:=match y with
 | .int _ z=>(z+1).toNat
 | _=>0
set_option maxHeartbeats 1000000 in
theorem X5a {q:Q8} {ys:List Q8} (hs:X4 w σ) (hB:B≤w.heap.size) (h:DrIs B D σ w p tv pv cv hv m i d) (ht:Tab σ tv l) (ok:Ok l) (Z:Sl 1 X7 σ v ys) (hq:q.length≤Y9) (hl:d.stack.length≤100000) (hn:ys.length≤2000000)
 (hh: ∀w' σ' D',Nxt D w σ w' σ'→DrIs B D' σ' w' p tv pv cv hv m i (d.all l q ys)→(∀j,D' j→D j∨w.heap.size≤j)→K (.tuple #[]) w'):Q0 P F.m [p,S q,v] w K:=Q1P (by
 unfold He
 refine X0 Z ?_
 refine X0b hs h (by omega) (by omega) fun ah w1 σ1 t d1 g=>?_
 have z:(d.taken ys.length).length=ys.length:=by
  unfold Dr.taken
  split
  ·rename_i hc;rw[List.length_drop];omega
  ·simp
 have L:=Z.lift t.le
 have H:=ht.lift t.le
 have E:(d.take ys.length).stack.length≤d.stack.length:=by
  unfold Dr.take
  split
  ·rw[List.length_take];omega
  ·unfold Dr.wrong;split
   ·exact Nat.le_refl _
   ·split<;>exact Nat.le_refl _
 refine X0 g ?_
 refine X2v ?_
 rw[z,G1 (by omega) (by omega)]
 refine Uc (fun x w'=> ∃(k:Nat) (σ':Q4),x=I ((k:Int)-1)∧k≤ys.length∧Nxt D w1 σ1 w' σ'∧DrIs B D σ' w' p tv pv cv hv m i ((d.take ys.length).wrong (((List.zipWith (O5 l) (d.taken ys.length) ys).drop k).all id) 73)) (fun x _=>dnM x) ⟨ys.length,σ1,rfl,Nat.le_refl _,Nxt.rfl0 t.sat,by
  rw[List.drop_of_length_le (by simp;omega)];exact d1⟩ ?_
 rintro _ dd w2 ⟨k,X,rfl,hk,c,r⟩
 refine G5 ?_
 by_cases C:k=0
 ·subst C
  rw[show decide ((0:Int)≤((0:Nat):Int)-1)=false from by decide]
  refine U6 ?_
  rw[List.drop_zero] at r
  refine I5 ?_
  have a:=t.trans c
  have eb: ∀w' σ',Nxt D w2 X w' σ'→B≤w'.heap.size:=fun w' σ' N=>Nat.le_trans hB (Nat.le_trans a.kp.size N.kp.size)
  by_cases b:q=[]
  ·have s:d.all l q ys=(d.take ys.length).wrong ((List.zipWith (O5 l) (d.taken ys.length) ys).all id) 73:=by unfold Dr.all Dr.put1;rw[if_pos b]
   rw[s] at hh
   rw[show (!decide (q=[]))=false from by simp[b]]
   refine U6 ?_
   exact hh w2 X D a r fun j A=> .inl A
  ·have s:d.all l q ys=((d.take ys.length).wrong ((List.zipWith (O5 l) (d.taken ys.length) ys).all id) 73).put [q]:=by unfold Dr.all Dr.put1;rw[if_neg b]
   rw[s] at hh
   rw[show (!decide (q=[]))=true from by simp[b]]
   refine J8 ?_
   refine O7 (R:=X7) (sz:=1) c.sat [S q] [q] rfl rfl (by simp;rfl) rfl ⟨⟨rfl,hq⟩,trivial⟩ fun v3 w3 σ3 o J=>?_
   have ap:((d.take ys.length).wrong ((List.zipWith (O5 l) (d.taken ys.length) ys).all id) 73).stack.length≤d.stack.length:=by
    have e:((d.take ys.length).wrong ((List.zipWith (O5 l) (d.taken ys.length) ys).all id) 73).stack=(d.take ys.length).stack:=by
     unfold Dr.wrong;split
     ·rfl
     ·split<;>rfl
    rw[e];exact E
   refine X2m o.sat (Nat.le_trans hB (Nat.le_trans a.kp.size o.bel.size)) (r.up o) J (by simp only[List.length_cons,List.length_nil];omega) fun Y D4 U n y=>?_
   refine hh Y σ3 D4 ((a.trans (.of_stp o)).trans U) n fun j A=>(y j A).imp id fun e=>Nat.le_trans a.kp.size (Nat.le_trans o.bel.size e)
 ·rw[decide_eq_true (show (0:Int)≤(k:Int)-1 by omega)]
  refine J8 ?_
  obtain ⟨j,rfl⟩: ∃j,k=j+1:=⟨k-1,by omega⟩
  rw[show (((j+1:Nat):Int)-1)=(j:Int) by omega]
  have M:j<(d.taken ys.length).length:=by omega
  have V:j<ys.length:=by omega
  have Q:=g.lift c.le
  have W:=L.lift c.le
  have O:=H.lift c.le
  obtain ⟨s,f1⟩:=Sl.elS Q M
  obtain ⟨e2,f2⟩:=Sl.elS W V
  refine V0 c.sat ?_
  (repeat refine J3 Xt ?_)
  (intros;(repeat (rename_i hx;subst hx));(try simp only[↓M2,M2,Mb,reduceIte]))
  rename_i w3 f
  refine Q8F f.sat (r.up f.stp) O ok f1 f2 fun Y σ4 U n=>?_
  rw[G1 (by omega) (by omega)]
  rw[Dr.wrong2] at n
  have ed:(((List.zipWith (O5 l) (d.taken ys.length) ys).drop (j+1)).all id&&O5 l (d.taken ys.length)[j] ys[j])=((List.zipWith (O5 l) (d.taken ys.length) ys).drop j).all id:=by
   rw[List.drop_eq_getElem_cons (i:=j) (by simp;omega),List.all_cons,Bool.and_comm]
   simp
  rw[ed] at n
  refine ⟨⟨j,σ4,rfl,by omega,(c.trans (.of_stp f.stp)).trans U,n⟩,?_⟩
  simp only[dnM]
  omega)
end Go.Proofs.YtfppjenblllfaaaGreatDoor

namespace Go.Proofs.YtfppjenblllfaaaGreatDoor
open Go.Emb Go.RowKit Go.Kd Go.Hm
variable {w w' w0 : World} {K : Value → World → Prop} {σ σ' σ0 : Q4} {v u : Value}
def U7 (f:Nat):Value:= .func (.func f) #[] #[]
def Tc (σ:Q4) (a:Dact) (v:Value):Prop:=match a with
 | .puts k=> ∃q,v= .func (.func F.cz) #[] #[.pointer (some q)]∧Z2 σ q [S k]∧k.length≤Y9
 | .takes p ys=>(∃q r b,v= .func (.func F.cv) #[] #[.pointer (some q), .pointer (some r)]∧Z2 σ q [S p]∧Z2 σ r [b]∧Sl 1 X7 σ b ys∧p.length≤Y9)∨(v=U7 F.bA∧p=V1∧ys=[V1,V1])∨(v=U7 F.aE∧p=L9∧ys=[V1,V1])
 | .load=>v=U7 F.b2
 | .store=>v=U7 F.aP
 | .pop=>v=U7 F.bU
 | .dup=>v=U7 F.bf
 | .swap=>v=U7 F.b3
 | .size=>v=U7 F.b4
 | .nop=>v=U7 F.bV
 | .make=>v=U7 F.aJ
 | .get=>v=U7 F.bg
 | .give=>v=U7 F.b5
 | .call=>v=U7 F.b6
 | .array=>v=U7 F.aQ
 | .at_=>v=U7 F.br
 | .set_=>v=U7 F.bh
 | .is=>v=U7 F.bs
 | .cast=>v=U7 F.b7
 | .ret=>v=U7 F.b8
 | .equal=>v=U7 F.aR
theorem Tc.lift {a:Dact} (h:Tc σ a v) (k:SLe σ σ'):Tc σ' a v:=by
 cases a with
 | puts s=>obtain ⟨q,d,b,c⟩:=h;exact ⟨q,d,b.lift k,c⟩
 | takes p ys=>
  rcases h with ⟨q,r,e,d,b,c,f,g⟩ | h
  ·exact .inl ⟨q,r,e,d,b.lift k,c.lift k,f.lift k,g⟩
  ·exact .inr h
 | _=>exact h
def Ik (σ:Q4) (c:List (List UInt8×Value)) (b:List (Q8×Dact)):Prop:= ∀k,match b.lookup k with
 | none=>M9 c k=none
 | some a=> ∃v,M9 c k=some v∧Tc σ a v
theorem X1I (a:List (List UInt8×Value)) (k x:List UInt8) (v:Value):M9 (Yj a k v) x=if k=x then some v else M9 a x:=by
 induction a with
 | nil=>simp[Yj,M9]
 | cons p r c=>
  unfold Yj
  split
  ·rename_i h
   simp only[M9]
   split
   ·rfl
   ·rename_i b;rw[if_neg (by rw[h];exact b)]
  ·rename_i h
   simp only[M9,c]
   split
   ·rename_i b;rw[if_neg (fun e=>h (by rw[b,e]))]
   ·rfl
theorem Ik.lift {b:List (List UInt8×Value)} {a:List (Q8×Dact)} (h:Ik σ b a) (c:SLe σ σ'):Ik σ' b a:=fun k=>by
 have:=h k
 split at this
 ·exact this
 ·obtain ⟨v,d,e⟩:=this;exact ⟨v,d,e.lift c⟩
theorem Ik.put {c:List (List UInt8×Value)} {b:List (Q8×Dact)} {k:Q8} {a:Dact} (h:Ik σ c b) (d:Tc σ a v):Ik σ (Yj c k v) ((k,a)::b):=fun x=>by
 rw[List.lookup_cons,X1I]
 by_cases e:x=k
 ·subst e
  simp only[beq_self_eq_true,if_true]
  exact ⟨v,rfl,d⟩
 ·have f:(x==k)=false:=by simpa using e
  rw[f,if_neg (Ne.symm e)]
  exact h x
structure TS (w0 : World) (σ0 : Q4) (w : World) (σ : Q4) (r : Nat) (acts : List (Q8 × Dact)) : Prop where
  stp : Stp w0 σ0 w σ
  ge : w0.heap.size ≤ r
  mp : ∃ mp, H4 σ w r mp ∧ Ik σ mp acts
theorem TS.up {r:Nat} {a:List (Q8×Dact)} (h:TS w0 σ0 w σ r a) (k:Stp w σ w' σ'):TS w0 σ0 w' σ' r a:=by
 obtain ⟨c,b,d⟩:=h.mp
 exact ⟨h.stp.trans k,h.ge,c,b.up k,d.lift ⟨k.le⟩⟩
theorem N0 {r:Nat} {b:List (Q8×Dact)} {k:Q8} {a:Dact} (h:TS w0 σ0 w σ r b) (e:Tc σ a v) (g: ∀w',TS w0 σ0 w' σ r ((k,a)::b)→K undef w'):mapUpdate P T.j (.map (some r)) (S k) v w K:=by
 obtain ⟨l,d,j⟩:=h.mp
 refine Hv X8 d k v fun i f c=>?_
 exact g i ⟨f.stp h.stp h.ge d.1,h.ge,_,c,j.put e⟩
theorem Q1d {r:Nat} {a:List (Q8×Dact)} {s:Q8} (h:TS w0 σ0 w σ r a) (e:s.length≤Y9) (d: ∀v w' σ',TS w0 σ0 w' σ' r a→Tc σ' (.puts s) v→K v w'):Q0 P F.bc [S s] w K:=Q7i (by
 unfold Q2d
 refine U1 h.stp.sat rfl fun q w1 σ1 b c=>?_
 refine X0w ?_
 exact d _ w1 σ1 (h.up b) ⟨q,rfl,c,e⟩)
theorem Q8h {r:Nat} {a:List (Q8×Dact)} {s:Q8} {ys:List Q8} (h:TS w0 σ0 w σ r a) (k:s.length≤Y9) (f:Sl 1 X7 σ u ys) (l: ∀v w' σ',TS w0 σ0 w' σ' r a→Tc σ' (.takes s ys) v→K v w'):Q0 P F.a7 [S s,u] w K:=Q5T (by
 unfold Q14
 refine U1 h.stp.sat rfl fun q w1 σ1 c i=>?_
 refine L5 c.sat (f.up c) fun j m g e d=>?_
 refine X0w ?_
 have b:=c.trans e
 exact l _ m g (h.up b) (.inl ⟨q,j,u,rfl,i.up e,d,f.up b,k⟩))
theorem Rj {r:Nat} {a:List (Q8×Dact)} {s y:Q8} (h:TS w0 σ0 w σ r a) (f:s.length≤Y9) (e:y.length≤Y9) (d: ∀v w' σ',TS w0 σ0 w' σ' r a→Tc σ' (.takes s [y]) v→K v w'):buildSlice P T.b 1 [(0,S y)] w fun t w=>Q0 P F.a7 [S s,t] w K:=by
 refine O7 (R:=X7) (sz:=1) h.stp.sat [S y] [y] rfl rfl (by simp;rfl) rfl ⟨⟨rfl,e⟩,trivial⟩ fun j g i c b=>?_
 exact Q8h (h.up c) f b d
theorem Q6o {r:Nat} {a:List (Q8×Dact)} {s y z:Q8} (h:TS w0 σ0 w σ r a) (e:s.length≤Y9) (d:y.length≤Y9) (c:z.length≤Y9) (g: ∀v w' σ',TS w0 σ0 w' σ' r a→Tc σ' (.takes s [y,z]) v→K v w'):buildSlice P T.b 2 [(0,S y),(1,S z)] w fun t w=>Q0 P F.a7 [S s,t] w K:=by
 refine O7 (R:=X7) (sz:=1) h.stp.sat [S y,S z] [y,z] rfl rfl (by simp;exact ⟨rfl,rfl⟩) rfl ⟨⟨rfl,d⟩,⟨rfl,c⟩,trivial⟩ fun k i j f b=>?_
 exact Q8h (h.up f) e b g
set_option maxHeartbeats 4000000 in
set_option maxRecDepth 100000 in
theorem X3b (hs:X4 w σ) (h: ∀r f w' σ',Stp w σ w' σ'→P9 σ' r f→Ik σ' f Ub→K (.map (some r)) w'):Q0 P F.cF [] w K:=Q7c (by
 unfold Q0H
 refine Q0a hs fun r w1 hr k1 aa=>?_
 have t0:TS w σ w1 σ r []:=⟨k1,hr,[],aa,fun k=>rfl⟩
 refine Q1d (s:=V1) t0 (by decide) fun v1 w1 σ1 s1 f1=>?_
 refine N0 (k:=[105,110,116]) (a:= .puts V1) s1 f1 fun x1 t1=>?_
 refine Q1d (s:=L9) t1 (by decide) fun v2 w2 σ2 s2 f2=>?_
 refine N0 (k:=[116,114,117,101]) (a:= .puts L9) s2 f2 fun x2 t2=>?_
 refine Q1d (s:=L9) t2 (by decide) fun v3 w3 σ3 s3 f3=>?_
 refine N0 (k:=[102,97,108,115,101]) (a:= .puts L9) s3 f3 fun x3 O=>?_
 refine Q1d (s:=D7) O (by decide) fun v4 w4 σ4 s4 f4=>?_
 refine N0 (k:=[119,111,114,100]) (a:= .puts D7) s4 f4 fun x4 t4=>?_
 refine Q1d (s:=C3) t4 (by decide) fun v5 w5 σ5 s5 f5=>?_
 refine N0 (k:=[110,117,108,108]) (a:= .puts C3) s5 f5 fun x5 t5=>?_
 refine N0 (k:=[108,111,97,100]) (a:= .load) t5 rfl fun x6 t6=>?_
 refine N0 (k:=[115,116,111,114,101]) (a:= .store) t6 rfl fun x7 t7=>?_
 refine N0 (k:=[100,117,112]) (a:= .dup) t7 rfl fun x8 t8=>?_
 refine N0 (k:=[115,119,97,112]) (a:= .swap) t8 rfl fun x9 t9=>?_
 refine N0 (k:=[112,111,112]) (a:= .pop) t9 rfl fun b3 R=>?_
 refine Rj (s:=V1) (y:=V1) R (by decide) (by decide) fun bv az cf aj ao=>?_
 refine N0 (k:=[110,101,103]) (a:= .takes V1 [V1]) aj ao fun b0 X=>?_
 refine Rj (s:=L9) (y:=L9) X (by decide) (by decide) fun bg b4 bw ab an=>?_
 refine N0 (k:=[110,111,116]) (a:= .takes L9 [L9]) ab an fun a3 t=>?_
 refine Q6o (s:=L9) (y:=L9) (z:=L9) t (by decide) (by decide) (by decide) fun bj bs bd ap al=>?_
 refine N0 (k:=[98,111,116,104]) (a:= .takes L9 [L9,L9]) ap al fun bb ae=>?_
 refine Q6o (s:=D7) (y:=D7) (z:=D7) ae (by decide) (by decide) (by decide) fun bp cb b5 ai N=>?_
 refine N0 (k:=[106,111,105,110]) (a:= .takes D7 [D7,D7]) ai N fun a4 Q=>?_
 refine N0 (k:=[108,101,115,115]) (a:= .takes L9 [V1,V1]) Q (.inr (.inr ⟨rfl,rfl,rfl⟩)) fun ci D=>?_
 refine N0 (k:=[115,97,109,101]) (a:= .takes L9 [V1,V1]) D (.inr (.inr ⟨rfl,rfl,rfl⟩)) fun cr H=>?_
 refine N0 (k:=[115,105,122,101]) (a:= .size) H rfl fun cd m=>?_
 refine N0 (k:=[106,117,109,112]) (a:= .nop) m rfl fun br j=>?_
 refine Rj (s:=[]) (y:=L9) j (by decide) (by decide) fun a2 bx cg ac g=>?_
 refine N0 (k:=[98,114,97,110,99,104]) (a:= .takes [] [L9]) ac g fun bc A=>?_
 refine N0 (k:=[110,101,119]) (a:= .make) A rfl fun a6 ad=>?_
 refine N0 (k:=[103,101,116]) (a:= .get) ad rfl fun bq J=>?_
 refine N0 (k:=[112,117,116]) (a:= .give) J rfl fun bh ak=>?_
 refine N0 (k:=[99,97,108,108]) (a:= .call) ak rfl fun cl n=>?_
 refine N0 (k:=[97,114,114,97,121]) (a:= .array) n rfl fun b7 p=>?_
 refine N0 (k:=[97,116]) (a:= .at_) p rfl fun cp q=>?_
 refine N0 (k:=[115,101,116]) (a:= .set_) q rfl fun bu L=>?_
 refine N0 (k:=[105,115]) (a:= .is) L rfl fun ce W=>?_
 refine N0 (k:=[99,97,115,116]) (a:= .cast) W rfl fun ax C=>?_
 refine N0 (k:=[114,101,116,117,114,110]) (a:= .ret) C rfl fun bn M=>?_
 refine Rj (s:=[]) (y:=W4) M (by decide) (by decide) fun cc be a8 Y U=>?_
 refine N0 (k:=[116,104,114,111,119]) (a:= .takes [] [W4]) Y U fun b1 l=>?_
 refine Rj (s:=[]) (y:=V1) l (by decide) (by decide) fun a5 cm E am ag=>?_
 refine N0 (k:=[111,117,116]) (a:= .takes [] [V1]) am ag fun cs ah=>?_
 refine N0 (k:=[101,113,117,97,108]) (a:= .equal) ah rfl fun cj V=>?_
 refine W0 (cells:=(Q2T.map S).toArray) (by kernel_rfl) ?_
 refine U3 10 (fun i w'=>TS w σ w' E r ((((Q2T.take i).map fun o=>(o,Dact.takes V1 [V1,V1])).reverse)++X0o.reverse)) V fun i w2 d hi e=>?_
 refine Z3 ?_
 refine Q5 (fun Z=>?_) (fun Z=>?_)
 ·have b:i<10:=by simp at Z;omega
  have c:i<Q2T.length:=b
  refine X2w (v:=S Q2T[i]) b (by rw[List.getElem?_map,List.getElem?_eq_getElem c];rfl) ?_
  refine N0 (a:= .takes V1 [V1,V1]) e (.inr (.inl ⟨rfl,rfl,rfl⟩)) fun w3 O=>?_
  (try simp only[↓M1,M1,Mb,reduceIte])
  refine Y5 (by decide) b ?_
  rw[List.take_add_one,List.getElem?_eq_getElem c,Option.toList_some,List.map_append,List.reverse_append]
  exact O
 ·have:i=10:=by simp at Z;omega
  subst this
  obtain ⟨f,q1,q2⟩:=e.mp
  obtain ⟨σ3,s3,l3,B,_⟩:=q1.keep e.stp e.ge
  exact h r f w2 σ3 s3 l3 (q2.lift ⟨B⟩))
end Go.Proofs.YtfppjenblllfaaaGreatDoor

namespace Go.Proofs.YtfppjenblllfaaaGreatDoor
open Go.Emb Go.RowKit Go.Kd Go.Hm
variable {w w' w1 : World} {K : Value → World → Prop} {σ σ' σ1 : Q4} {v u : Value} {B : Nat} {D D1 : Nat → Prop} {p tv pv cv hv : Value} {m : Hm.Met} {i : Ins} {d d' : Dr} {l : List Cla} {E : World → Prop}
def To (B:Nat) (D:Nat→Prop) (w:World) (σ:Q4) (p tv pv cv hv:Value) (m:Hm.Met) (i:Ins) (d':Dr) (E:World→Prop):Prop:=
 ∀w' σ' a,Nxt D w σ w' σ'→DrIs B a σ' w' p tv pv cv hv m i d'→(∀j,a j→D j∨w.heap.size≤j)→E w'
theorem Nxt.chain0 {D F:Nat→Prop} {f:World} {b:Q4} (h:Nxt D w σ w1 σ1) (k:Nxt F w1 σ1 f b) (g: ∀j,j<w.heap.size→F j→D j):Nxt D w σ f b:=
 ⟨⟨k.kp.os.trans h.kp.os,k.kp.tape.trans h.kp.tape,k.kp.output.trans h.kp.output,Nat.le_trans h.kp.size k.kp.size,fun j a c=>(k.kp.block j (Nat.lt_of_lt_of_le a h.kp.size) fun e=>c (g j a e)).trans (h.kp.block j a c)⟩,
  h.le.more k.le,fun j a=>(k.old j (Nat.lt_of_lt_of_le a h.kp.size)).trans (h.old j a),k.sat⟩
theorem To.go (h:To B D w σ p tv pv cv hv m i d' E) (N:Nxt D w σ w1 σ1) (hD: ∀j,D1 j→D j∨w.heap.size≤j):To B D1 w1 σ1 p tv pv cv hv m i d' E:=fun w' σ' g c f a=>
 h w' σ' g (Nxt.chain0 N c fun j b e=>(hD j e).elim id fun h=>by omega) f fun j b=>(a j b).elim (fun e=>hD j e) fun e=> .inr (Nat.le_trans N.kp.size e)
theorem To.up (h:To B D w σ p tv pv cv hv m i d' E) (k:Stp w σ w1 σ1):To B D w1 σ1 p tv pv cv hv m i d' E:=h.go (.of_stp k) fun j a=> .inl a
theorem To.fin (h:To B D w σ p tv pv cv hv m i d' E) (c:X4 w σ) (b:DrIs B D σ w p tv pv cv hv m i d'):E w:=h w σ D (Nxt.rfl0 c) b fun j a=> .inl a
structure AtD (B : Nat) (D : Nat → Prop) (w : World) (σ : Q4) (p tv pv cv hv : Value) (m : Hm.Met) (i : Ins) (l : List Cla) (d : Dr) : Prop where
  sat : X4 w σ
  ge : B ≤ w.heap.size
  dr : DrIs B D σ w p tv pv cv hv m i d
  tab : Tab σ tv l
  ok : Ok l
  len : d.stack.length ≤ 100000
theorem AtD.up (h:AtD B D w σ p tv pv cv hv m i l d) (k:Stp w σ w1 σ1):AtD B D w1 σ1 p tv pv cv hv m i l d:=⟨k.sat,Nat.le_trans h.ge k.bel.size,h.dr.up k,h.tab.lift ⟨k.le⟩,h.ok,h.len⟩
theorem AtD.go (h:AtD B D w σ p tv pv cv hv m i l d) (N:Nxt D w σ w1 σ1) (a:DrIs B D1 σ1 w1 p tv pv cv hv m i d') (b:d'.stack.length≤100000):AtD B D1 w1 σ1 p tv pv cv hv m i l d':=⟨N.sat,Nat.le_trans h.ge N.kp.size,a,h.tab.lift N.le,h.ok,b⟩
theorem Q5z {q:Q8} {ys:List Q8} (h:AtD B D w σ p tv pv cv hv m i l d) (b:Sl 1 X7 σ v ys) (a:q.length≤Y9) (c:ys.length≤2000000) (hh:To B D w σ p tv pv cv hv m i (d.all l q ys) (K (.tuple #[]))):Q0 P F.m [p,S q,v] w K:=
 X5a h.sat h.ge h.dr h.tab h.ok b a h.len c hh
theorem Q9i {ys:List Q8} (h:AtD B D w σ p tv pv cv hv m i l d) (b:Sl 1 X7 σ v ys) (e:ys.length≤100000) (hh:To B D w σ p tv pv cv hv m i (d.put ys) (K (.tuple #[]))):Q0 P F.g [p,v] w K:=
 X2m h.sat h.ge h.dr b (by have:=h.len;omega) fun w' c N a hD=>hh w' σ c N a hD
theorem Xk {ok:Bool} {e:Int} (h:AtD B D w σ p tv pv cv hv m i l d) (hh:To B D w σ p tv pv cv hv m i (d.wrong ok e) (K (.bool (decide ((d.wrong ok e).e=0))))):Q0 P F.c [p, .bool ok,I e] w K:=
 Q1F h.sat h.dr fun w' N b=>hh w' σ D N b fun j a=> .inl a
theorem Q31 {q y:Q8} (h:AtD B D w σ p tv pv cv hv m i l d) (c:q.length≤Y9) (e:y.length≤Y9) (hh:To B D w σ p tv pv cv hv m i (d.all l q [y]) E):buildSlice P T.b 1 [(0,S y)] w fun t w=>Q0 P F.m [p,S q,t] w fun _ w=>E w:=by
 refine O7 (R:=X7) (sz:=1) h.sat [S y] [y] rfl rfl (by simp;rfl) rfl ⟨⟨rfl,e⟩,trivial⟩ fun j f g b a=>?_
 exact Q5z (h.up b) a c (by simp) (hh.up b)
theorem Q38 {q y z:Q8} (h:AtD B D w σ p tv pv cv hv m i l d) (e:q.length≤Y9) (f:y.length≤Y9) (c:z.length≤Y9) (hh:To B D w σ p tv pv cv hv m i (d.all l q [y,z]) E):buildSlice P T.b 2 [(0,S y),(1,S z)] w fun t w=>Q0 P F.m [p,S q,t] w fun _ w=>E w:=by
 refine O7 (R:=X7) (sz:=1) h.sat [S y,S z] [y,z] rfl rfl (by simp;exact ⟨rfl,rfl⟩) rfl ⟨⟨rfl,f⟩,⟨rfl,c⟩,trivial⟩ fun k g j b a=>?_
 exact Q5z (h.up b) a e (by simp) (hh.up b)
theorem Eb {y:Q8} (h:AtD B D w σ p tv pv cv hv m i l d) (c:y.length≤Y9) (hh:To B D w σ p tv pv cv hv m i (d.put [y]) E):buildSlice P T.b 1 [(0,S y)] w fun t w=>Q0 P F.g [p,t] w fun _ w=>E w:=by
 refine O7 (R:=X7) (sz:=1) h.sat [S y] [y] rfl rfl (by simp;rfl) rfl ⟨⟨rfl,c⟩,trivial⟩ fun g e f b a=>?_
 exact Q9i (h.up b) a (by simp) (hh.up b)
def B9 (l:List Cla) (m:Hm.Met) (i:Ins) (c f:Q8) (k:Bool) (a:Dact):Prop:= ∀{w:World} {σ:Q4} {B:Nat} {D:Nat→Prop} {p tv pv cv hv v:Value} {d:Dr} {K:Value→World→Prop},AtD B D w σ p tv pv cv hv m i l d→Tc σ a v→d.e=0→
 To B D w σ p tv pv cv hv m i (V7 l m i c f k d a) (K (.tuple #[]))→Z5 P v [p] w K
theorem Q6f {c f q:Q8} {k:Bool} {ys:List Q8} (r:ys.length≤100000):B9 l m i c f k (.takes q ys):=fun {w σ B D p tv pv cv hv v d K} h e _ hh=>by
 have hh:To B D w σ p tv pv cv hv m i (d.all l q ys) (K (.tuple #[])):=hh
 rcases e with ⟨a,b,s,rfl,o,j,n,g⟩ | ⟨rfl,rfl,rfl⟩ | ⟨rfl,rfl,rfl⟩
 ·refine X9 (first:=[]) (caps:=[.pointer (some a), .pointer (some b)]) (Q4m ?_)
  unfold Ga
  refine Y0 h.sat o rfl ?_
  refine Y0 h.sat j rfl ?_
  exact Q5z h n g (by omega) hh
 ·refine X9 (first:=[]) (caps:=[]) (Ip ?_)
  unfold Lb
  exact Q38 (E:=K (.tuple #[])) h (by decide) (by decide) (by decide) hh
 ·refine X9 (first:=[]) (caps:=[]) (Fw ?_)
  unfold Wm
  exact Q38 (E:=K (.tuple #[])) h (by decide) (by decide) (by decide) hh
theorem X2S {c f q:Q8} {k:Bool}:B9 l m i c f k (.puts q):=fun {w σ B D p tv pv cv hv v d K} h b _ hh=>by
 obtain ⟨a,rfl,g,e⟩:=b
 refine X9 (first:=[]) (caps:=[.pointer (some a)]) (Q5i ?_)
 unfold Tb
 refine Y0 h.sat g rfl ?_
 exact Eb (E:=K (.tuple #[])) h e hh
end Go.Proofs.YtfppjenblllfaaaGreatDoor

namespace Go.Hm
open Go.Kd
section
variable {l : List Cla} {m : Hm.Met} {i : Ins} {c f : Q8} {ok : Bool} {d : Dr}
theorem Dr.put_nil {d:Dr}:d.put []=d:=by
 unfold Dr.put
 split
 ·rename_i h;obtain ⟨a,b,e⟩:=d;simp at h;subst h;simp
 ·rfl
theorem Dr.wrong_bad {d:Dr} {q:Bool} {e:Int} (h:d.e≠0):d.wrong q e=d:=by
 unfold Dr.wrong;simp[h]
theorem Q9W {k:Dact} {p:Q8} {w:List Q8} {q:Bool} {e:Int} (a:e≠0) (b: ∀d,V7 l m i c f ok d k=(d.wrong q e).all l p w) (n:k≠ .store) (h:(V7 l m i c f ok d k).e=0):Done l m i c f ok k d w.length (if p=[] then 0 else 1):=by
 have g:=h
 rw[b] at g
 obtain ⟨_,j,_⟩:=Dr.wrong_ok a (Dr.all_ok g).1.e
 subst j
 exact Dj (fun d=>by rw[b];rfl) n h
theorem Q3a {n p:Nat} {k:Dact} {q0:Bool} {e:Int} {q:List Q8→Bool} {r:List Q8→List Q8} (a:e≠0) (b: ∀d,V7 l m i c f ok d k=(((d.wrong q0 e).take n).wrong (q ((d.wrong q0 e).taken n)) 73).put (r ((d.wrong q0 e).taken n))) (t: ∀x,(r x).length=p) (s:k≠ .store) (h:(V7 l m i c f ok d k).e=0):Done l m i c f ok k d n p:=by
 have g:=h
 rw[b,Dr.put_e] at g
 obtain ⟨j,_,_⟩:=Dr.wrong_ok (by decide) g
 obtain ⟨_,o,_⟩:=Dr.wrong_ok a (Dr.take_ok j).1
 subst o
 exact Xr (q:=q) (r:=r) (fun d=>by rw[b];rfl) t s h
theorem Q6i {k:Dact} (a: ∀d,V7 l m i c f ok d k=d) (h:(V7 l m i c f ok d k).e=0):Done l m i c f ok k d 0 0:=by
 rw[a] at h
 exact ⟨by rw[a];exact Eff.none h,by rw[a],fun _=>by rw[a],fun u=>by rw[a,a]⟩
theorem X1U {a:Dact} (h:(V7 l m i c f ok d a).e=0):Done l m i c f ok a d (Ko l m i c f ok a).1 (Ko l m i c f ok a).2:=by
 cases a with
 | puts k=>exact Q6J (q:=true) (e:=76) (x:=k) (by decide) (fun _=>rfl) nofun h
 | takes p w=>exact Dj (fun _=>rfl) nofun h
 | load=>
  have y: ∀d:Dr,V7 l m i c f ok d .load=((d.wrong (F0 d i.n) 74).wrong (!decide ((d.wrong (F0 d i.n) 74).locals.getD i.n.toNat []=[])) 74).put [(d.wrong (F0 d i.n) 74).locals.getD i.n.toNat []]:=fun d=>by
   show (if (d.wrong (F0 d i.n) 74).e=0 then _ else _)=_
   split
   ·exact Dr.wrong_put
   ·rename_i o;rw[Dr.wrong_bad o];unfold Dr.put;rw[if_neg o]
  have j:=h
  rw[y,Dr.put_e] at j
  obtain ⟨o,H,O⟩:=Dr.wrong_ok (by decide) j
  obtain ⟨A,E,z⟩:=Dr.wrong_ok (by decide) o
  have b:V7 l m i c f ok d .load=d.put [d.locals.getD i.n.toNat []]:=by rw[y,O,z]
  rw[z] at H
  refine ⟨?_,?_,fun _=>?_,fun u=>?_⟩
  ·rw[b];exact (Eff.none A).put A
  ·rw[b,Dr.put_loc]
  ·rw[b,Dr.put_loc]
  ·have v:F0 (d.over u) i.n=true:=E
   have J:V7 l m i c f ok (d.over u) .load=(d.over u).put [d.locals.getD i.n.toNat []]:=by
    rw[y,v]
    show ((d.over u).wrong (!decide (d.locals.getD i.n.toNat []=[])) 74).put _=_
    rw[H];rfl
   rw[b,J]
   exact Dr.over_put (by rw[Dr.put_e];exact A)
 | store=>
  have y: ∀d:Dr,V7 l m i c f ok d .store=if ((d.wrong (F0 d i.n) 74).take 1).e=0 then ⟨((d.wrong (F0 d i.n) 74).take 1).stack,((d.wrong (F0 d i.n) 74).take 1).locals.set i.n.toNat (((d.wrong (F0 d i.n) 74).taken 1).getD 0 []),0⟩ else (d.wrong (F0 d i.n) 74).take 1:=fun d=>rfl
  have j:((d.wrong (F0 d i.n) 74).take 1).e=0:=by
   rw[y] at h
   split at h
   ·assumption
   ·exact h
  obtain ⟨A,E,z⟩:=Dr.wrong_ok (by decide) (Dr.take_ok j).1
  rw[z] at j
  have b:V7 l m i c f ok d .store=⟨(d.take 1).stack,d.locals.set i.n.toNat ((d.taken 1).getD 0 []),0⟩:=by rw[y,z,if_pos j,Dr.take_loc j]
  refine ⟨?_,?_,fun h=>absurd rfl h,fun u=>?_⟩
  ·rw[b]
   obtain ⟨Q,N,r,L,M⟩:=Eff.take j
   exact ⟨Q,N,r,L,M⟩
  ·rw[b];simp
  ·have v:F0 (d.over u) i.n=true:=E
   obtain ⟨o1,o2⟩:=Dr.over_take (u:=u) j
   rw[b,y,v]
   have w1:((d.over u).wrong true 74).take 1=(d.take 1).over u:=o1
   have R:((d.over u).wrong true 74).taken 1=d.taken 1:=o2
   simp only[w1,R]
   rw[if_pos (show ((d.take 1).over u).e=0 from j)]
   show Dr.mk (u++(d.take 1).stack) ((d.take 1).locals.set _ _) 0=_
   rw[Dr.take_loc j];rfl
 | pop=>exact Xr (n:=1) (p:=0) (q:=fun _=>true) (r:=fun _=>[]) (fun _=>Dr.put_nil.symm) (fun _=>rfl) nofun h
 | dup=>exact Xr (n:=1) (p:=2) (q:=fun _=>true) (r:=fun t=>[t.getD 0 [],t.getD 0 []]) (fun _=>rfl) (fun _=>rfl) nofun h
 | swap=>exact Xr (n:=2) (p:=2) (q:=fun _=>true) (r:=fun t=>[t.getD 1 [],t.getD 0 []]) (fun _=>rfl) (fun _=>rfl) nofun h
 | size=>exact Xr (n:=1) (p:=1) (q:=fun t=> !decide (elem (t.getD 0 [])=[])) (r:=fun _=>[V1]) (fun _=>rfl) (fun _=>rfl) nofun h
 | nop=>exact Q6i (fun _=>rfl) h
 | make=>exact Q6J (q:=Zz l i.s) (e:=76) (x:=i.s) (by decide) (fun _=>Dr.wrong_put) nofun h
 | get=>
  cases g:C2 l c f ok with
  | none=>
   have b: ∀d,V7 l m i c f ok d .get=(d.wrong false 76).all l [] [[]]:=fun d=>by simp only[V7,g]
   rw[b] at h
   exact absurd (Dr.wrong_ok (by decide) (Dr.all_ok h).1.e).2.1 nofun
  | some p=>
   obtain ⟨B,D⟩:=p
   have b: ∀d,V7 l m i c f ok d .get=d.all l D [B]:=fun d=>by simp only[V7,g]
   have:=Dj b nofun h
   simp only[Ko,g]
   exact this
 | give=>
  cases g:C2 l c f ok with
  | none=>
   have b: ∀d,V7 l m i c f ok d .give=(d.wrong false 76).all l [] [[],[]]:=fun d=>by simp only[V7,g]
   rw[b] at h
   exact absurd (Dr.wrong_ok (by decide) (Dr.all_ok h).1.e).2.1 nofun
  | some p=>
   obtain ⟨B,D⟩:=p
   have b: ∀d,V7 l m i c f ok d .give=d.all l [] [B,D]:=fun d=>by simp only[V7,g]
   have:=Dj b nofun h
   simp only[Ko,g]
   exact this
 | call=>
  cases g:Z9 l c f with
  | none=>
   have b: ∀d,V7 l m i c f ok d .call=d.wrong false 76:=fun d=>by simp only[V7,g]
   rw[b] at h
   exact absurd (Dr.wrong_ok (by decide) h).2.1 nofun
  | some p=>
   obtain ⟨B,x⟩:=p
   have b: ∀d,V7 l m i c f ok d .call=d.all l x.result (c::x.params):=fun d=>by simp only[V7,g]
   have:=Dj b nofun h
   simp only[Ko,g]
   exact this
 | array=>
  have:=Q9W (q:=Em l i.s&&right (i.s++[91,93])) (e:=76) (p:=i.s++[91,93]) (w:=[V1]) (k:= .array) (by decide) (fun d=>by show ((d.wrong _ _).wrong _ _).all _ _ _=_;rw[Dr.wrong2]) nofun h
  rw[if_neg (by simp)] at this
  exact this
 | at_=>exact Xr (n:=2) (p:=1) (q:=fun t=>O5 l (t.getD 1 []) V1&& !decide (elem (t.getD 0 [])=[])) (r:=fun t=>[elem (t.getD 0 [])]) (fun d=>by show ((((d.take 2).wrong _ _).wrong _ _).put _)=_;rw[Dr.wrong2]) (fun _=>rfl) nofun h
 | set_=>
  refine Xr (n:=3) (p:=0) (q:=fun t=> !decide (elem (t.getD 0 [])=[])&&O5 l (t.getD 2 []) (elem (t.getD 0 []))&&O5 l (t.getD 1 []) V1) (r:=fun _=>[]) (fun d=>?_) (fun _=>rfl) nofun h
  rw[Dr.put_nil]
  show (((d.take 3).wrong (!decide ((if (d.take 3).e=0 then elem ((d.taken 3).getD 0 []) else [])=[])) 73).wrong (O5 l ((d.taken 3).getD 2 []) (if (d.take 3).e=0 then elem ((d.taken 3).getD 0 []) else [])) 73).wrong _ 73=_
  by_cases o:(d.take 3).e=0
  ·rw[if_pos o,Dr.wrong2,Dr.wrong2,Bool.and_assoc]
  ·rw[if_neg o,Dr.wrong_bad o,Dr.wrong_bad o,Dr.wrong_bad o,Dr.wrong_bad o]
 | is=>exact Q3a (n:=1) (p:=1) (q0:=Em l i.s) (e:=76) (q:=fun t=>Lo l (t.getD 0 [])) (r:=fun _=>[L9]) (by decide) (fun _=>rfl) (fun _=>rfl) nofun h
 | cast=>exact Q3a (n:=1) (p:=1) (q0:=Em l i.s) (e:=76) (q:=fun t=>Lo l (t.getD 0 [])) (r:=fun _=>[i.s]) (by decide) (fun _=>rfl) (fun _=>rfl) nofun h
 | ret=>
  by_cases C:m.result=[]
  ·have b: ∀d,V7 l m i c f ok d .ret=d:=fun d=>by simp only[V7,C,if_true]
   simp only[Ko,C,if_true]
   exact Q6i b h
  ·have b: ∀d,V7 l m i c f ok d .ret=d.all l [] [m.result]:=fun d=>by simp only[V7,C,if_false]
   have:=Dj b nofun h
   simp only[Ko,C,if_false]
   exact this
 | equal=>exact Xr (n:=2) (p:=1) (q:=fun t=>Lo l (t.getD 1 [])&&Lo l (t.getD 0 [])) (r:=fun _=>[L9]) (fun d=>by show ((((d.take 2).wrong _ _).wrong _ _).put _)=_;rw[Dr.wrong2]) (fun _=>rfl) nofun h
theorem Q3z {α β:Type} [BEq α] [LawfulBEq α] {l:List (α×β)} {k:α} {v:β} (h:l.lookup k=some v):(k,v)∈l:=by
 induction l with
 | nil=>cases h
 | cons p r a=>
  rw[List.lookup_cons] at h
  split at h
  ·rename_i e
   have e:k=p.1:=by simpa using e
   cases h
   rw[e];exact List.mem_cons_self
  ·exact List.mem_cons_of_mem _ (a h)
def Q2V:Q8:=[115,116,111,114,101]
set_option maxRecDepth 100000 in
theorem X1i {x:Q8} (h:Ub.lookup x=some .store):x=Q2V:=by
 have a: ∀p∈Ub,p.2= .store→p.1=Q2V:=by decide+kernel
 exact a _ (Q3z h) rfl
def X1T:Dact→Bool
 | .takes _ w=>decide (w.length≤100000)
 | _=>true
set_option maxRecDepth 100000 in
theorem X4E {x:Q8} {a:Dact} (h:Ub.lookup x=some a):X1T a=true:=by
 have b: ∀p∈Ub,X1T p.2=true:=by decide+kernel
 exact b _ (Q3z h)
theorem X05 {s:Shp} (h:(Sn l m i c f ok s).2=0): ∃a d,Ub.lookup i.op=some a∧d=V7 l m i c f ok ⟨s.stack,s.locals,0⟩ a∧d.e=0∧d.stack.length≤24∧Sn l m i c f ok s=(⟨true,d.stack,d.locals⟩,0)∧Done l m i c f ok a ⟨s.stack,s.locals,0⟩ (Ko l m i c f ok a).1 (Ko l m i c f ok a).2:=by
 unfold Sn at h⊢
 cases g:Ub.lookup i.op with
 | none=>
  rw[g] at h
  have h:(76:Int)=0:=h
  omega
 | some a=>
  rw[g] at h
  simp only at h⊢
  refine ⟨a,_,rfl,rfl,?_⟩
  generalize j:V7 l m i c f ok ⟨s.stack,s.locals,0⟩ a=d at*
  have o:(d.wrong (decide (d.stack.length≤24)) 72).e=0:=by
   split at h
   ·assumption
   ·exact h
  obtain ⟨b,k,n⟩:=Dr.wrong_ok (by decide) o
  exact ⟨b,of_decide_eq_true k,by rw[n,if_pos b],X1U (by rw[j];exact b)⟩
theorem X45 {s:Shp} {u:List Q8} (h:(Sn l m i c f ok s).2=0):
 Sn l m i c f ok ⟨true,u++s.stack,s.locals⟩=(if 24<(Sn l m i c f ok s).1.stack.length+u.length then (Shp.zero,72) else (⟨true,u++(Sn l m i c f ok s).1.stack,(Sn l m i c f ok s).1.locals⟩,0))∧(i.op=Q2V∨(Sn l m i c f ok s).1.locals=s.locals):=by
 obtain ⟨a,d,o,q,j,v,t,p⟩:=X05 h
 rw[t]
 have b:=p.ov u
 have g:=p.loc
 rw[←q] at b g
 constructor
 ·have e:V7 l m i c f ok ⟨u++s.stack,s.locals,0⟩ a=d.over u:=b
  unfold Sn
  rw[o]
  simp only[e]
  have r:(d.over u).stack.length=d.stack.length+u.length:=by simp[Dr.over];omega
  rw[r]
  by_cases k:24<d.stack.length+u.length
  ·rw[if_pos k,decide_eq_false (by omega)]
   have:((d.over u).wrong false 72)=⟨u++d.stack,d.locals,72⟩:=by
    unfold Dr.wrong;rw[if_neg (by decide),if_pos (show (d.over u).e=0 from j)];rfl
   rw[this];rfl
  ·rw[if_neg k,decide_eq_true (by omega),Dr.wrong_true,if_pos (show (d.over u).e=0 from j)]
   rfl
 ·by_cases n:a= .store
  ·subst n;exact .inl (X1i o)
  ·exact .inr (g n)
end
end Go.Hm

namespace Go.Emb
open Go.RowKit Go.Hm
section
variable {P : Program} {w w' : World} {σ : Q4} {α : Type} {R : Q4 → α → List Value → Prop} {B : Nat} {e : TypeId} {v u : Value} {xs : List α} {y : α} {K : Value → World → Prop}
theorem X4h {t Q:TypeId} {by_ J:Nat} {z z':Value} [ts:TS P t e] [tz:TZ P e 1 by_ z] [tz':TZ P Q 1 J z'] (hs:X4 w σ) (ha:J9 B e 1 R σ w v xs) {n:Nat} (hn:n<xs.length) (hc:u.cells= #[u]) (h1:u.oneCell'=true) (hy:R σ y [u])
 (h: ∀w',Upd w (v.ownBlock.getD 0) w'→σ (v.ownBlock.getD 0)=none→v.ownBlock=some (v.ownBlock.getD 0)→J9 B e 1 R σ w' v (xs.set n y)→K undef w'):
 indexAddr P t v (I n) w (fun p w=>Z4 P Q p u w K):=by
 obtain ⟨a,N,rfl,Y,c2,f,c3⟩:=ha
 obtain ⟨g,o,c,rfl,q1,U,V,q4,q5⟩:=c3 (by omega)
 rw[Rz (by omega) (by omega)]
 have ea: ∀g o k:Nat,(⟨g,o,none⟩:Addr).add k=⟨g,o+k,none⟩:=fun g o k=>by unfold Addr.add;split<;>simp_all
 have A:(⟨g,o,none⟩:Addr).add ((n:Int).toNat*1)=⟨g,o+n,none⟩:=by rw[ea,Int.toNat_natCast,Nat.mul_one]
 rw[A]
 have Z:=Array.length_toList (xs:=c)
 have r:o+n<c.toList.length:=by omega
 have q:=run_storeCells_at P g (o+n) e [u] 0 c w V (by simp;omega) (by simpa using h1)
 simp only[Nat.add_zero] at q
 have X:(List.take (o+n) c.toList++[u]++List.drop (o+n+[u].length) c.toList).toArray=(c.toList.set (o+n) u).toArray:=by
  rw[←Q8D r];simp
 rw[X] at q
 obtain ⟨C,M⟩:=Xz (cs:=(c.toList.set (o+n) u).toArray) V
 unfold Z4
 rw[Wg (w':=w.setRow g (c.toList.set (o+n) u).toArray) (by simp[Instr.storeAt,Instr.sureAddr,storeVar,W5 tz',hc,q])]
 refine h _ C U rfl ⟨_,N,by rw[List.length_set],by rw[List.length_set];exact Y,c2,fun b H=>⟨(f b H).1,(f b H).2.1,by rw[C.size];exact (f b H).2.2.1,(f b H).2.2.2⟩,fun _=>⟨g,o,_,rfl,q1,U,M,?_,fun j x s=>?_⟩⟩
 ·simp;omega
 ·rw[List.toList_toArray]
  have L:j<xs.length:=by have:=(List.getElem?_eq_some_iff.1 s).1;simpa using this
  by_cases O:j=n
  ·subst O
   rw[List.getElem?_set_self L] at s
   cases s
   rw[List.drop_set,if_neg (by omega),List.take_set,show o+j-(o+j*1)=0 by omega]
   have hd:List.take 1 (List.drop (o+j*1) c.toList)=[c.toList[o+j]]:=by
    rw[Nat.mul_one,List.drop_eq_getElem_cons r];rfl
   rw[hd];exact hy
  ·rw[List.getElem?_set_ne (by omega)] at s
   have:=q5 j x s
   rcases Nat.lt_or_gt_of_ne O with W | hgt
   ·rw[List.drop_set,if_neg (by omega),List.take_set,List.set_eq_of_length_le (by rw[List.length_take];omega)]
    exact this
   ·rw[List.drop_set,if_pos (by omega)]
    exact this
end
end Go.Emb
namespace Go.Hm
open Go.Kd
def P4 (s:Q8):Q8×Q8×Bool:=if T1 s then ((G2 s).1,(G2 s).2.1,true) else ([],[],false)
theorem Dr.take_len {d:Dr} {n:Nat}:(d.take n).stack.length≤d.stack.length:=by
 unfold Dr.take;split
 ·rw[List.length_take];omega
 ·unfold Dr.wrong;split
  ·exact Nat.le_refl _
  ·split<;>exact Nat.le_refl _
theorem Dr.taken_len {d:Dr} {n:Nat}:(d.taken n).length=n:=by
 unfold Dr.taken;split
 ·rename_i h;rw[List.length_drop];omega
 ·simp
theorem Dr.wrong_st {d:Dr} {ok:Bool} {e:Int}:(d.wrong ok e).stack=d.stack:=by
 unfold Dr.wrong;split
 ·rfl
 ·split<;>rfl
theorem Dr.wrong_lo {d:Dr} {ok:Bool} {e:Int}:(d.wrong ok e).locals=d.locals:=by
 unfold Dr.wrong;split
 ·rfl
 ·split<;>rfl
theorem getD_get {xs:List Q8} {k:Nat} (a:k<xs.length):xs.getD k []=xs[k]:=by simp[List.getD,a]
end Go.Hm
namespace Go.Proofs.YtfppjenblllfaaaGreatDoor
open Go.Emb Go.RowKit Go.Kd Go.Hm
variable {w w' w1 : World} {K : Value → World → Prop} {σ σ' σ1 : Q4} {v u : Value} {B : Nat} {D D1 : Nat → Prop} {p tv pv cv hv : Value} {m : Hm.Met} {i : Ins} {d d' d2 : Dr} {l : List Cla} {E E' : World → Prop}
theorem Ex {xs:List Q8} {k:Nat} (f:X4 w σ) (hv:Sl 1 X7 σ v xs) (c:k<xs.length) (h:(xs.getD k []).length≤Y9→K (S (xs.getD k [])) w):indexAddr P T.b v (I k) w fun t w=>Q2 P T.a t w K:=by
 rw[getD_get c] at h
 refine Zp hv c fun g b a=>?_
 exact Y0 f b rfl (h a)
theorem X4k {xs:List Q8} {k:Nat} (hv:J9 B T.a 1 X7 σ w v xs) (b:k<xs.length) (h:(xs.getD k []).length≤Y9→K (S (xs.getD k [])) w):indexAddr P T.b v (I k) w fun t w=>Q2 P T.a t w K:=by
 rw[getD_get b] at h
 refine Q3M hv b fun a cs j _ f=>?_
 obtain ⟨rfl,g⟩:=f
 have c:=j 0 _ rfl
 rw[show a.add 0=a from by unfold Addr.add;rw[if_pos rfl]] at c
 exact T2 c (h g)
theorem AtD.cells (h:AtD B D w σ p tv pv cv hv m i l d): ∃b sv a,p= .pointer (some ⟨b,0,none⟩)∧Z7 σ w b [tv,S m.name,pv,S m.result, .bool m.abs,I m.locals,cv,hv,S i.op,I i.n,S i.s, .bool true,sv,a,I d.e]∧J9 B T.a 1 X7 σ w sv d.stack∧J9 B T.a 1 X7 σ w a d.locals:=by
 obtain ⟨b,sv,a,j,_,c,f,g,_⟩:=h.dr.ex
 exact ⟨b,sv,a,j,c,f,g⟩
theorem AtD.to (h:AtD B D w σ p tv pv cv hv m i l d) (hh:To B D w σ p tv pv cv hv m i d2 E) (c:d'.stack.length≤100000)
 (k: ∀w' σ' a,Nxt D w σ w' σ'→AtD B a w' σ' p tv pv cv hv m i l d'→To B a w' σ' p tv pv cv hv m i d2 E→E' w'):To B D w σ p tv pv cv hv m i d' E':=
 fun w' σ' a N b hD=>k w' σ' a N (h.go N b c) (hh.go N hD)
theorem La {n:Nat} (h:AtD B D w σ p tv pv cv hv m i l d) (b:n≤1000000) (hh: ∀v w' σ',Nxt D w σ w' σ'→AtD B D w' σ' p tv pv cv hv m i l (d.take n)→Sl 1 X7 σ' v (d.taken n)→K v w'):Q0 P F.i [p,I n] w K:=
 X0b h.sat h.dr (by have:=h.len;omega) (by omega) fun v w' σ' N a hv=>hh v w' σ' N (h.go N a (Nat.le_trans Dr.take_len h.len)) hv
theorem Q49 {a c:Q8} (h:AtD B D w σ p tv pv cv hv m i l d) (g:a.length≤Y9) (k:c.length≤Y9) (hh:To B D w σ p tv pv cv hv m i (d.wrong (O5 l a c) 73) (K (.tuple #[]))):Q0 P F.a1 [p,S a,S c] w K:=
 Q8F h.sat h.dr h.tab h.ok g k fun w' σ' N f=>hh w' σ' D N f fun j b=> .inl b
theorem X0I {a:Q8} (h:AtD B D w σ p tv pv cv hv m i l d) (f:a.length≤Y9) (hh:To B D w σ p tv pv cv hv m i (d.wrong (!decide (elem a=[])) 73) (K (S (elem a)))):Q0 P F.b9 [p,S a] w K:=Q0y (by
 unfold Ew
 refine Q5O a (by unfold Y9 at f;omega) fun w1 c=>?_
 have b:=Stp.of_below h.sat c
 refine I5 ?_
 exact Xk (h.up b) (hh.up b))
theorem Q2r {a:Q8} (h:AtD B D w σ p tv pv cv hv m i l d) (j:a.length≤Y9) (hh:To B D w σ p tv pv cv hv m i (d.wrong (Lo l a) 73) (K (.tuple #[]))):Q0 P F.al [p,S a] w K:=Kq (by
 unfold Mx
 obtain ⟨b,sv,k,rfl,g,n,o⟩:=h.cells
 refine R2 ?_
 refine J5 ?_
 refine B6 (i:=0) g rfl ?_
 refine Ro h.sat h.tab j fun w1 σ1 c=>?_
 have f:=h.up c
 replace hh:=hh.up c
 unfold Lo at hh
 cases e:R3 l a with
 | false=>
  rw[e,Bool.false_and] at hh
  (repeat refine Hd.h ?_)
  exact Xk f hh
 | true=>
  rw[e,Bool.true_and] at hh
  (repeat refine Hd.h ?_)
  refine Jx a ?_
  (repeat refine Hd.h ?_)
  exact Xk f hh)
theorem X2o (h:AtD B D w σ p tv pv cv hv m i l d) (hh:To B D w σ p tv pv cv hv m i ((d.take 1).wrong (Lo l ((d.taken 1).getD 0 [])) 73) (K (S ((d.taken 1).getD 0 [])))):Q0 P F.bl [p] w K:=Q1V (by
 unfold Hi
 refine La (n:=1) h (by decide) fun o w1 σ1 g b a=>?_
 refine Ex (k:=0) b.sat a (by rw[Dr.taken_len];decide) fun c=>?_
 exact Q2r b c (hh.go g fun j f=> .inl f))
theorem dml {b n:Nat} {cs:List Value} {V:Value} {t:TypeId} [TG P t false] (c:Z7 σ w b cs) (a:Hst w σ w' σ) (hv:cs[n]? =some V):Q2 P t (.pointer (some ((⟨b,0,none⟩:Addr).add n))) w' (dk (fun w w'=>Below w.heap.size w w') (fun v _=>V=v) w'):=
 B6 (c.up a.stp) hv (Y1 rfl)
theorem Q3S (h:AtD B D w σ p tv pv cv hv m i l d) (M:i.s.length≤Y9) (hh:To B D w σ p tv pv cv hv m i (d.wrong (Em l i.s) 76) (K (S i.s))):Q0 P F.aq [p] w K:=Am (by
 unfold Oa
 obtain ⟨b,sv,lv,rfl,W,X,Y⟩:=h.cells
 unfold Em at hh
 have f: ∀w1 σ1 q,Stp w σ w1 σ1→(!decide (i.s=C3)&&R3 l i.s)=q→Q0 P F.c [.pointer (some ⟨b,0,none⟩), .bool q,I 76] w1 fun L w=>nilCheck P (.pointer (some ⟨b,0,none⟩)) w fun r w=>fieldAddr P T.m r 2 w fun o w=>fieldAddr P T.k o 2 w fun t w=>Q2 P T.a t w fun j w=>K j w:=fun w1 σ1 q z N=>by
  subst N
  refine Xk (h.up z) fun C A Q H d2 n=>?_
  obtain ⟨Z,J,U,V,_,k,_⟩:=id d2.ex
  cases V
  refine R2 ?_
  refine J5 ?_
  refine J5 ?_
  refine B6 (i:=10) k rfl ?_
  exact (hh.up z) C A Q H d2 n
 refine V0 h.sat ?_
 by_cases g:i.s=C3
 ·have hz0:decide (i.s=[110,117,108,108])=true:=decide_eq_true g
  (repeat (apply J3;(· intros;(repeat (rename_i c;subst c));(try simp only[hz0,E3,E8,G6,L4,N6,Bool.not_true,Bool.not_false]);first | exact Y1 rfl | exact R2 (Y1 rfl) | exact J5 (Y1 rfl) | exact G5 (Y1 rfl) | exact I5 (Y1 rfl) | (rw[Yt];exact dml (by assumption) (by assumption) rfl) | exact dml (by assumption) (by assumption) rfl | exact Vq (J9.up (by assumption) (Hst.stp (by assumption))) (Y1 rfl);done)))
  (intros;(repeat (rename_i c;subst c)))
  rename_i w1 a
  simp only[hz0,Bool.not_true,Bool.not_false,E3,E8,G6,L4,N6,B3,G8]
  exact f _ _ _ a.stp (by rw[decide_eq_true g];rfl)
 ·have hz0:decide (i.s=[110,117,108,108])=false:=decide_eq_false g
  (repeat (apply J3;(· intros;(repeat (rename_i c;subst c));(try simp only[hz0,E3,E8,G6,L4,N6,Bool.not_true,Bool.not_false]);first | exact Y1 rfl | exact R2 (Y1 rfl) | exact J5 (Y1 rfl) | exact G5 (Y1 rfl) | exact I5 (Y1 rfl) | (rw[Yt];exact dml (by assumption) (by assumption) rfl) | exact dml (by assumption) (by assumption) rfl | exact Vq (J9.up (by assumption) (Hst.stp (by assumption))) (Y1 rfl);done)))
  (intros;(repeat (rename_i c;subst c)))
  rename_i w1 a
  simp only[hz0,Bool.not_true,Bool.not_false,E3,E8,G6,L4,N6,B3,G8]
  refine Ro a.sat (h.tab.lift ⟨a.stp.le⟩) M fun C A O=>?_
  exact f _ _ _ (a.stp.trans O) (by rw[decide_eq_false g];rfl))
theorem Q7Z (h:AtD B D w σ p tv pv cv hv m i l d) (hh:To B D w σ p tv pv cv hv m i (d.wrong (F0 d i.n) 74) (K (if (d.wrong (F0 d i.n) 74).e=0 then I i.n else I (-1)))):Q0 P F.aU [p] w K:=Ao (by
 unfold Ou
 obtain ⟨b,sv,Z,rfl,V,W,X⟩:=h.cells
 unfold F0 at hh
 have f: ∀w1 q,Hst w σ w1 σ→(decide (0≤i.n)&&decide (i.n<(d.locals.length:Int)))=q→Q0 P F.c [.pointer (some ⟨b,0,none⟩), .bool q,I 74] w1 fun t w=>J4 P .not t w fun s w=>X1 s (K (.int .i64 (-1)) w) (nilCheck P (.pointer (some ⟨b,0,none⟩)) w fun j w=>fieldAddr P T.m j 2 w fun A w=>fieldAddr P T.k A 1 w fun z w=>Q2 P T.ac z w fun k w=>K k w):=fun w1 q C M=>by
  subst M
  refine Xk (h.up C.stp) fun U L N H d2 r=>?_
  have:=(hh.up C.stp) U L N H d2 r
  obtain ⟨Y,J,O,Q,_,o,_⟩:=id d2.ex
  cases Q
  refine Lm ?_
  by_cases g:(d.wrong (decide (0≤i.n)&&decide (i.n<(d.locals.length:Int))) 74).e=0
  ·rw[decide_eq_true g,Bool.not_true]
   rw[if_pos g] at this
   refine U6 ?_
   refine R2 ?_
   refine J5 ?_
   refine J5 ?_
   exact B6 (i:=9) o rfl this
  ·rw[decide_eq_false g,Bool.not_false]
   rw[if_neg g] at this
   exact J8 this
 refine V0 h.sat ?_
 cases hz0:decide ((0:Int)≤i.n) with
 | false=>
  (repeat (apply J3;(· intros;(repeat (rename_i a;subst a));(try simp only[hz0,E3,E8,G6,L4,N6,Bool.not_true,Bool.not_false]);first | exact Y1 rfl | exact R2 (Y1 rfl) | exact J5 (Y1 rfl) | exact G5 (Y1 rfl) | exact I5 (Y1 rfl) | (rw[Yt];exact dml (by assumption) (by assumption) rfl) | exact dml (by assumption) (by assumption) rfl | exact Vq (J9.up (by assumption) (Hst.stp (by assumption))) (Y1 rfl);done)))
  (intros;(repeat (rename_i a;subst a)))
  rename_i w1 c
  simp only[hz0,Bool.not_true,Bool.not_false,E3,E8,G6,L4,N6,B3,G8]
  exact f _ _ c (by rw[hz0];rfl)
 | true=>
  (repeat (apply J3;(· intros;(repeat (rename_i a;subst a));(try simp only[hz0,E3,E8,G6,L4,N6,Bool.not_true,Bool.not_false]);first | exact Y1 rfl | exact R2 (Y1 rfl) | exact J5 (Y1 rfl) | exact G5 (Y1 rfl) | exact I5 (Y1 rfl) | (rw[Yt];exact dml (by assumption) (by assumption) rfl) | exact dml (by assumption) (by assumption) rfl | exact Vq (J9.up (by assumption) (Hst.stp (by assumption))) (Y1 rfl);done)))
  (intros;(repeat (rename_i a;subst a)))
  rename_i w1 c
  simp only[hz0,Bool.not_true,Bool.not_false,E3,E8,G6,L4,N6,B3,G8]
  refine Z3 ?_
  exact f _ _ c (by rw[hz0];rfl))
end Go.Proofs.YtfppjenblllfaaaGreatDoor

namespace Go.Proofs.YtfppjenblllfaaaGreatDoor
open Go.Emb Go.RowKit Go.Kd Go.Hm
variable {w w' w1 : World} {K : Value → World → Prop} {σ σ' σ1 : Q4} {v u : Value} {B : Nat} {D D1 : Nat → Prop} {p tv pv cv hv : Value} {m : Hm.Met} {i : Ins} {d d' d2 : Dr} {l : List Cla} {E E' : World → Prop} {c f : Q8} {k : Bool}
theorem Q8l {d:Dr} {z:Int} (h:F0 d z=true): ∃n:Nat,z=n∧n<d.locals.length:=by
 unfold F0 at h
 simp only[Bool.and_eq_true,decide_eq_true_eq] at h
 exact ⟨z.toNat,by omega,by omega⟩
theorem Q6b {a:Q8}:(elem a).length≤a.length:=by
 unfold elem;split
 ·unfold Kd.cutA;simp
 ·exact Nat.zero_le _
theorem X3q:B9 l m i c f k .load:=fun {w σ B D p tv pv cv hv v d K} h y M hh=>by
 have y:v=U7 F.b2:=y
 subst y
 have R:V7 l m i c f k d .load=if (d.wrong (F0 d i.n) 74).e=0 then (if ((d.wrong (F0 d i.n) 74).wrong (!decide ((d.wrong (F0 d i.n) 74).locals.getD i.n.toNat []=[])) 74).e=0 then ((d.wrong (F0 d i.n) 74).wrong (!decide ((d.wrong (F0 d i.n) 74).locals.getD i.n.toNat []=[])) 74).put [(d.wrong (F0 d i.n) 74).locals.getD i.n.toNat []] else ((d.wrong (F0 d i.n) 74).wrong (!decide ((d.wrong (F0 d i.n) 74).locals.getD i.n.toNat []=[])) 74)) else d.wrong (F0 d i.n) 74:=rfl
 rw[R] at hh
 refine X9 (first:=[]) (caps:=[]) (Q1b ?_)
 unfold Ej
 refine Q7Z h (h.to hh (by rw[Dr.wrong_st];exact h.len) fun w1 σ1 D1 Y j a=>?_)
 cases o:F0 d i.n with
 | false=>
  have Q: ¬(d.wrong false 74).e=0:=fun e=>absurd (Dr.wrong_ok (by decide) e).2.1 (by decide)
  rw[o] at j a
  rw[if_neg Q] at a⊢
  refine G5 ?_
  rw[show decide ((0:Int)≤ -1)=false from by decide]
  simp only[E3,E8,G6,B3]
  refine U6 ?_
  exact a.fin j.sat j.dr
 | true=>
  rw[o,Dr.wrong_true] at j a
  rw[Dr.wrong_true,if_pos M] at*
  obtain ⟨n,en,z⟩:=Q8l o
  rw[en] at a⊢
  rw[show ((n:Int)).toNat=n from rfl] at a
  refine G5 ?_
  rw[show decide ((0:Int)≤(n:Int))=true from by simp]
  simp only[L4,G8]
  obtain ⟨b,sv,lv,rfl,J,W,L⟩:=j.cells
  refine R2 ?_
  refine J5 ?_
  refine J5 ?_
  refine B6 (i:=13) J rfl ?_
  refine X4k L z fun A=>?_
  refine I5 ?_
  refine Xk j (j.to a (by rw[Dr.wrong_st];exact j.len) fun w2 V Z U s g=>?_)
  by_cases r:(d.wrong (!decide (d.locals.getD n []=[])) 74).e=0
  ·rw[decide_eq_true r]
   rw[if_pos r] at g
   refine J8 ?_
   obtain ⟨X,C,O,H,t,N,q⟩:=s.cells
   cases H
   refine R2 ?_
   refine J5 ?_
   refine J5 ?_
   refine B6 (i:=13) t rfl ?_
   rw[Dr.wrong_lo] at q
   refine X4k q z fun A=>?_
   exact Eb (E:=K (.tuple #[])) s A g
  ·rw[decide_eq_false r]
   rw[if_neg r] at g
   refine U6 ?_
   exact g.fin s.sat s.dr
theorem X20:B9 l m i c f k .store:=fun {w σ B D p tv pv cv hv v d K} h A e0 hh=>by
 have A:v=U7 F.aP:=A
 subst A
 have ea:V7 l m i c f k d .store=if ((d.wrong (F0 d i.n) 74).take 1).e=0 then ⟨((d.wrong (F0 d i.n) 74).take 1).stack,((d.wrong (F0 d i.n) 74).take 1).locals.set i.n.toNat (((d.wrong (F0 d i.n) 74).taken 1).getD 0 []),0⟩ else (d.wrong (F0 d i.n) 74).take 1:=rfl
 rw[ea] at hh
 refine X9 (first:=[]) (caps:=[]) (Tz ?_)
 unfold Ot
 refine Q7Z h (h.to hh (by rw[Dr.wrong_st];exact h.len) fun w1 σ1 D1 N1 h1 J=>?_)
 refine La (n:=1) h1 (by decide) fun v2 w2 σ2 N2 o N=>?_
 have a:=J.go N2 fun j H=> .inl H
 refine Ex (k:=0) o.sat N (by rw[Dr.taken_len];decide) fun Y=>?_
 obtain ⟨b,sv,O,rfl,hB,r,V,W,Z,X,hD⟩:=o.dr.ex
 refine R2 ?_
 refine J5 ?_
 refine B6 (i:=14) r rfl ?_
 refine Vo ?_
 by_cases g:((d.wrong (F0 d i.n) 74).take 1).e=0
 ·rw[decide_eq_true g]
  rw[if_pos g] at a
  have e1:=(Dr.take_ok g).1
  obtain ⟨_,M,ed⟩:=Dr.wrong_ok (by decide) e1
  rw[if_pos e1]
  obtain ⟨n,en,hn⟩:=Q8l M
  rw[en] at a⊢
  rw[show ((n:Int)).toNat=n from rfl] at a
  refine J8 ?_
  refine R2 ?_
  refine J5 ?_
  refine J5 ?_
  refine B6 (i:=13) r rfl ?_
  have q:n<((d.wrong (F0 d i.n) 74).take 1).locals.length:=by rw[Dr.take_loc g,Dr.wrong_lo];exact hn
  have U:=r
  have z:=g
  rw[en] at q W r Y V
  refine X4h (y:=((d.wrong (F0 d n) 74).taken 1).getD 0 []) o.sat W q rfl rfl ⟨rfl,Y⟩ fun w3 C t s R=>?_
  have L:b≠O.ownBlock.getD 0:=fun e=>X _ s e.symm
  have Q:sv.ownBlock≠some (O.ownBlock.getD 0):=fun e=>(Z _ e).2 s
  refine a w3 σ2 D1 (Nxt.updD o.sat C t ((hD _).2 (.inr (.inr s)))) ⟨b,sv,O,rfl,hB,?_,V.updD C Q,R,Z,X,hD⟩ fun j H=> .inl H
  have:=U.upd C L
  rw[z] at this
  exact this
 ·rw[decide_eq_false g]
  rw[if_neg g] at a
  refine U6 ?_
  exact a.fin o.sat o.dr
theorem X46:B9 l m i c f k .pop:=fun {w σ B D p tv pv cv hv v d K} h a s hh=>by
 have a:v=U7 F.bU:=a
 subst a
 refine X9 (first:=[]) (caps:=[]) (Q4o ?_)
 unfold Gn
 refine La (n:=1) h (by decide) fun q t r e b o=>?_
 exact (hh.go e fun j g=> .inl g).fin b.sat b.dr
theorem X40:B9 l m i c f k .nop:=fun {w σ B D p tv pv cv hv v d K} h a b hh=>by
 have a:v=U7 F.bV:=a
 subst a
 refine X9 (first:=[]) (caps:=[]) (Q4k ?_)
 unfold Gv
 exact hh.fin h.sat h.dr
theorem X3V:B9 l m i c f k .dup:=fun {w σ B D p tv pv cv hv v d K} h b H hh=>by
 have b:v=U7 F.bf:=b
 subst b
 refine X9 (first:=[]) (caps:=[]) (Q1J ?_)
 unfold Hj
 refine La (n:=1) h (by decide) fun y L A s o g=>?_
 have a:=hh.go s fun j t=> .inl t
 refine Ex (k:=0) o.sat g (by rw[Dr.taken_len];decide) fun q=>?_
 refine O7 (R:=X7) (sz:=1) o.sat [S ((d.taken 1).getD 0 []),S ((d.taken 1).getD 0 [])] [(d.taken 1).getD 0 [],(d.taken 1).getD 0 []] rfl rfl (by simp;rfl) rfl ⟨⟨rfl,q⟩,⟨rfl,q⟩,trivial⟩ fun J z C r e=>?_
 exact Q9i (o.up r) e (by simp) (a.up r)
theorem X2F:B9 l m i c f k .swap:=fun {w σ B D p tv pv cv hv v d K} h y Z hh=>by
 have y:v=U7 F.b3:=y
 subst y
 refine X9 (first:=[]) (caps:=[]) (Q06 ?_)
 unfold Eh
 refine La (n:=2) h (by decide) fun U w2 X H C b=>?_
 have q:=hh.go H fun j M=> .inl M
 have g:0<(d.taken 2).length:=by rw[Dr.taken_len];decide
 have o:1<(d.taken 2).length:=by rw[Dr.taken_len];decide
 obtain ⟨q0,L⟩:=Sl.elS b g
 obtain ⟨J,N⟩:=Sl.elS b o
 refine V0 C.sat ?_
 refine J3 (fun w a=>U9 (i:=1) (b.up a.stp) o (Y1 rfl)) ?_
 refine J3 (fun w a=>U9 (i:=0) (b.up a.stp) g (Y1 rfl)) ?_
 refine J3 (V:=S (d.taken 2)[1]) (fun t w a e=>?_) ?_
 ·subst e;exact Y0 a.sat (J.up a.stp) rfl (Y1 rfl)
 refine J3 (V:=S (d.taken 2)[0]) (fun t w a e=>?_) ?_
 ·subst e;exact Y0 a.sat (q0.up a.stp) rfl (Y1 rfl)
 rintro _ _ _ _ W s rfl rfl rfl rfl
 have z:=s.stp
 refine O7 (R:=X7) (sz:=1) z.sat [S (d.taken 2)[1],S (d.taken 2)[0]] [(d.taken 2)[1],(d.taken 2)[0]] rfl rfl (by simp;exact ⟨rfl,rfl⟩) rfl ⟨⟨rfl,N⟩,⟨rfl,L⟩,trivial⟩ fun v4 Y Q A r=>?_
 refine Q9i ((C.up z).up A) r (by simp) ?_
 have O:V7 l m i c f k d .swap=(d.take 2).put [(d.taken 2)[1],(d.taken 2)[0]]:=by
  show (d.take 2).put [(d.taken 2).getD 1 [],(d.taken 2).getD 0 []]=_
  rw[getD_get g,getD_get o]
 rw[O] at q
 exact (q.up z).up A
theorem X3p:B9 l m i c f k .size:=fun {w σ B D p tv pv cv hv v d K} h e L hh=>by
 have e:v=U7 F.b4:=e
 subst e
 refine X9 (first:=[]) (caps:=[]) (Q0O ?_)
 unfold Ec
 refine La (n:=1) h (by decide) fun z N C q a o=>?_
 have b:=hh.go q fun j r=> .inl r
 refine Ex (k:=0) a.sat o (by rw[Dr.taken_len];decide) fun s=>?_
 refine X0I a s (a.to b (by rw[Dr.wrong_st];exact a.len) fun A J M H t g=>?_)
 exact Eb (y:=V1) (E:=K (.tuple #[])) t (by decide) g
theorem X2I (A:i.s.length≤Y9):B9 l m i c f k .make:=fun {w σ B D p tv pv cv hv v d K} h r Z hh=>by
 have r:v=U7 F.aJ:=r
 subst r
 refine X9 (first:=[]) (caps:=[]) (Ke ?_)
 unfold Me
 obtain ⟨b,sv,X,rfl,N,O,R⟩:=h.cells
 have J:V7 l m i c f k d .make=if (d.wrong (Zz l i.s) 76).e=0 then (d.wrong (Zz l i.s) 76).put [i.s] else d.wrong (Zz l i.s) 76:=rfl
 rw[J] at hh
 refine V0 h.sat ?_
 have hz0:True:=trivial
 (repeat (apply J3;(· intros;(repeat (rename_i t;subst t));(try simp only[hz0,E3,E8,G6,L4,N6,Bool.not_true,Bool.not_false]);first | exact Y1 rfl | exact R2 (Y1 rfl) | exact J5 (Y1 rfl) | exact G5 (Y1 rfl) | exact I5 (Y1 rfl) | (rw[Yt];exact dml (by assumption) (by assumption) rfl) | exact dml (by assumption) (by assumption) rfl | exact Vq (J9.up (by assumption) (Hst.stp (by assumption))) (Y1 rfl);done)))
 (intros;(repeat (rename_i t;subst t)))
 rename_i w1 g
 refine X0r g.sat (h.tab.lift ⟨g.stp.le⟩) fun Y M C=>?_
 have j:=g.stp.trans C
 refine Xk (h.up j) ((h.up j).to (hh.up j) (by rw[Dr.wrong_st];exact h.len) fun L V W Q o a=>?_)
 by_cases n:(d.wrong (Zz l i.s) 76).e=0
 ·rw[decide_eq_true n]
  rw[if_pos n] at a
  refine J8 ?_
  obtain ⟨U,y,H,z,q,_⟩:=o.cells
  cases z
  refine R2 ?_
  refine J5 ?_
  refine J5 ?_
  refine B6 (i:=10) q rfl ?_
  exact Eb (E:=K (.tuple #[])) o A a
 ·rw[decide_eq_false n]
  rw[if_neg n] at a
  refine U6 ?_
  exact a.fin o.sat o.dr
theorem X1W (A:i.s.length≤1000):B9 l m i c f k .array:=fun {w σ B D p tv pv cv hv v d K} h e M hh=>by
 have e:v=U7 F.aQ:=e
 subst e
 refine X9 (first:=[]) (caps:=[]) (Aw ?_)
 unfold Nq
 have hB:Y9≥1002:=by decide
 have o:(i.s++[91,93]).length≤1002:=by rw[List.length_append];simp;omega
 have a:i.s.length+([91,93]:Q8).length≤9223372036854775807:=by simp;omega
 refine Q3S h (by omega) (h.to hh (by rw[Dr.wrong_st];exact h.len) fun w1 σ1 D1 L b g=>?_)
 refine Dn (u:=[91,93]) a ?_
 refine Yv _ (by omega) fun J q=>?_
 have j:=Stp.of_below b.sat q
 refine Xk (b.up j) ((b.up j).to (g.up j) (by rw[Dr.wrong_st];exact b.len) fun t C H z r n=>?_)
 refine Dn (u:=[91,93]) a ?_
 exact Q31 (y:=V1) (E:=K (.tuple #[])) r (by omega) (by decide) n
theorem X4M:B9 l m i c f k .at_:=fun {w σ B D p tv pv cv hv v d K} h q R hh=>by
 have q:v=U7 F.br:=q
 subst q
 refine X9 (first:=[]) (caps:=[]) (Q2D ?_)
 unfold Sz
 refine La (n:=2) h (by decide) fun J W M y g b=>?_
 have o:=hh.go y fun j A=> .inl A
 refine Ex (k:=1) g.sat b (by rw[Dr.taken_len];decide) fun s=>?_
 refine Q49 (c:=V1) g s (by decide) (g.to o (by rw[Dr.wrong_st];exact g.len) fun L Q U z e t=>?_)
 refine Ex (k:=0) e.sat (b.lift z.le) (by rw[Dr.taken_len];decide) fun a=>?_
 refine X0I e a (e.to t (by rw[Dr.wrong_st];exact e.len) fun N H V O C r=>?_)
 exact Eb (E:=K (.tuple #[])) C (Nat.le_trans Q6b a) r
theorem X3T:B9 l m i c f k .set_:=fun {w σ B D p tv pv cv hv v d K} h C e0 hh=>by
 have C:v=U7 F.bh:=C
 subst C
 refine X9 (first:=[]) (caps:=[]) (Q1S ?_)
 unfold Hk
 refine La (n:=3) h (by decide) fun v2 w2 Q W r q=>?_
 have g:=hh.go W fun j hj=> .inl hj
 refine Zj (fun z w'=> ∃s:Q8,z=S s∧s.length≤Y9∧s=(if (d.take 3).e=0 then elem ((d.taken 3).getD 0 []) else [])∧Stp w2 Q w' Q) ?_ (fun z dd w3 V=>?_)
 ·obtain ⟨b,sv,lv,rfl,Z,hq,hl⟩:=r.cells
  refine R2 ?_
  refine J5 ?_
  refine B6 (i:=14) Z rfl ?_
  refine Vo ?_
  by_cases t:(d.take 3).e=0
  ·rw[decide_eq_true t]
   refine J8 ?_
   refine Ex (k:=0) r.sat q (by rw[Dr.taken_len];decide) fun a=>?_
   refine Q5O _ (by unfold Y9 at a;omega) fun Y b4=>?_
   exact ⟨_,rfl,Nat.le_trans Q6b a,(if_pos t).symm,Stp.of_below r.sat b4⟩
  ·rw[decide_eq_false t]
   refine U6 ?_
   exact ⟨[],rfl,by decide,(if_neg t).symm,Stp.refl r.sat⟩
 ·obtain ⟨s,rfl,L,es,N⟩:=V
  have ea:V7 l m i c f k d .set_=(((d.take 3).wrong (!decide ((if (d.take 3).e=0 then elem ((d.taken 3).getD 0 []) else [])=[])) 73).wrong (O5 l ((d.taken 3).getD 2 []) (if (d.take 3).e=0 then elem ((d.taken 3).getD 0 []) else [])) 73).wrong (O5 l ((d.taken 3).getD 1 []) V1) 73:=rfl
  rw[ea,←es] at g
  have O:=r.up N
  have o:=q.up N
  refine I5 ?_
  refine Xk O (O.to (g.up N) (by rw[Dr.wrong_st];exact O.len) fun Y σ4 D4 R y H=>?_)
  refine Ex (k:=2) y.sat (o.lift R.le) (by rw[Dr.taken_len];decide) fun J=>?_
  refine Q49 y J L (y.to H (by rw[Dr.wrong_st];exact y.len) fun w5 σ5 D5 X U A=>?_)
  refine Ex (k:=1) U.sat ((o.lift R.le).lift X.le) (by rw[Dr.taken_len];decide) fun M=>?_
  exact Q49 (c:=V1) U M (by decide) A
theorem X50 (j:i.s.length≤Y9):B9 l m i c f k .is:=fun {w σ B D p tv pv cv hv v d K} h b r hh=>by
 have b:v=U7 F.bs:=b
 subst b
 refine X9 (first:=[]) (caps:=[]) (Q2M ?_)
 unfold Si
 refine Q3S h j (h.to hh (by rw[Dr.wrong_st];exact h.len) fun w1 σ1 D1 A g e=>?_)
 refine X2o g (g.to e (by rw[Dr.wrong_st];exact Nat.le_trans Dr.take_len g.len) fun z q t o n a=>?_)
 exact Eb (y:=L9) (E:=K (.tuple #[])) n (by decide) a
theorem X3r (j:i.s.length≤Y9):B9 l m i c f k .cast:=fun {w σ B D p tv pv cv hv v d K} h b r hh=>by
 have b:v=U7 F.b7:=b
 subst b
 refine X9 (first:=[]) (caps:=[]) (Q0g ?_)
 unfold Dt
 refine Q3S h j (h.to hh (by rw[Dr.wrong_st];exact h.len) fun w1 σ1 D1 z g e=>?_)
 refine X2o g (g.to e (by rw[Dr.wrong_st];exact Nat.le_trans Dr.take_len g.len) fun y q t o n a=>?_)
 exact Eb (E:=K (.tuple #[])) n j a
theorem X3M (j:m.result.length≤Y9):B9 l m i c f k .ret:=fun {w σ B D p tv pv cv hv v d K} h e t hh=>by
 have e:v=U7 F.b8:=e
 subst e
 refine X9 (first:=[]) (caps:=[]) (Q11 ?_)
 unfold Dy
 obtain ⟨b,sv,s,rfl,g,o,r⟩:=h.cells
 have n:V7 l m i c f k d .ret=if m.result=[] then d else d.all l [] [m.result]:=rfl
 rw[n] at hh
 refine R2 ?_
 refine J5 ?_
 refine J5 ?_
 refine B6 (i:=3) g rfl ?_
 refine I5 (u:=[]) ?_
 by_cases a:m.result=[]
 ·rw[decide_eq_true a,Bool.not_true]
  rw[if_pos a] at hh
  refine U6 ?_
  exact hh.fin h.sat h.dr
 ·rw[decide_eq_false a,Bool.not_false]
  rw[if_neg a] at hh
  refine J8 ?_
  refine R2 ?_
  refine J5 ?_
  refine J5 ?_
  refine B6 (i:=3) g rfl ?_
  exact Q31 (q:=[]) (E:=K (.tuple #[])) h (by decide) j hh
theorem X1V:B9 l m i c f k .equal:=fun {w σ B D p tv pv cv hv v d K} h q U hh=>by
 have q:v=U7 F.aR:=q
 subst q
 refine X9 (first:=[]) (caps:=[]) (Tp ?_)
 unfold Of
 refine La (n:=2) h (by decide) fun L X N z e a=>?_
 have o:=hh.go z fun j C=> .inl C
 refine Ex (k:=1) e.sat a (by rw[Dr.taken_len];decide) fun s=>?_
 refine Q2r e s (e.to o (by rw[Dr.wrong_st];exact e.len) fun M R V A b t=>?_)
 refine Ex (k:=0) b.sat (a.lift A.le) (by rw[Dr.taken_len];decide) fun g=>?_
 refine Q2r b g (b.to t (by rw[Dr.wrong_st];exact b.len) fun O J W Q H r=>?_)
 exact Eb (y:=L9) (E:=K (.tuple #[])) H (by decide) r
end Go.Proofs.YtfppjenblllfaaaGreatDoor
