/- Parts of a proof about the given program: its functions as texts of their own, what each computes, plain laws of that. The conditions of each stand in its statement. -/
import Derived.Test.YtfppjenblllfaaaGreatDoorB4
import Derived.Test.YtfppjenblllfaaaGreatDoorB3
import Derived.Lib.TrimUEq
set_option linter.unnecessarySimpa false
set_option linter.defProp false
set_option linter.unusedSectionVars false
set_option linter.unusedVariables false
set_option linter.unusedSimpArgs false
namespace Go.Emb
open Go.RowKit Go.Hm
structure FinT (B : Nat) (F : Option Obj → Prop) (w w' : World) : Prop where
  os : w'.os = w.os
  tape : w'.tape = w.tape
  output : w'.output = w.output
  size : w.heap.size ≤ w'.heap.size
  old : ∀ k, k < w.heap.size → k < B → w'.heap[k]? = w.heap[k]?
  new : ∀ k, k < w.heap.size → w'.heap[k]? = w.heap[k]? ∨ F (w'.heap[k]?)
section
variable {P : Program} {B : Nat} {F : Option Obj → Prop} {w w' w0 : World} {σ : Q4} {v V : Value} {K : Value → World → Prop}
theorem FinT.of_below (h:Below w.heap.size w w'):FinT B F w w':=⟨h.os,h.tape,h.output,h.size,fun k a _=>h.block k a,fun k a=> .inl (h.block k a)⟩
theorem FinT.of_upd {b:Nat} (h:Upd w b w') (c:B≤b) (hF:F (w'.heap[b]?)):FinT B F w w':=
 ⟨h.os,h.tape,h.output,by rw[h.size];exact Nat.le_refl _,fun k a hB=>h.block k (by omega),fun k a=>by
  by_cases e:k=b
  ·subst e;exact .inr hF
  ·exact .inl (h.block k e)⟩
theorem FinT.hst (h:FinT w0.heap.size F w w') (c:X4 w0 σ) (a:Hst w0 σ w σ):Hst w0 σ w' σ:=
 ⟨Stp.of_below c ⟨h.os.trans a.stp.bel.os,h.tape.trans a.stp.bel.tape,h.output.trans a.stp.bel.output,Nat.le_trans a.stp.bel.size h.size,fun k b=>(h.old k (Nat.lt_of_lt_of_le b a.stp.bel.size) b).trans (a.stp.bel.block k b)⟩⟩
theorem X25 {A:(World→World→Prop)→(World→Prop)→Prop} (F:Option Obj→Prop) (a:X4 w σ) (h:A (FinT w.heap.size F) (fun w'=>Hst w σ w' σ)):dr w A:=
 Q0b _ _ ⟨Stp.of_below a (Below.refl _ _).drew⟩ (fun _ _ b c=>c.hst a b) h
theorem Q4U (h:V=v):dk (FinT B F) (fun v _=>V=v) w v w:=⟨.of_below (Below.refl _ _),h⟩
theorem X0w (a:Below w.heap.size w w') (h:V=v):dk (FinT B F) (fun v _=>V=v) w v w':=⟨.of_below a,h⟩
def X21 (B n:Nat) (F:Option Obj→Prop) (v:Value) (w:World):Prop:= ∃g,v= .pointer (some ⟨g,0,none⟩)∧B≤g∧((∃cs:List Value,∃e,cs.length=n∧w.heap[g]? =some (.cells cs.toArray e (0,0)))∨F (w.heap[g]?))
def X1o (B:Nat) (F:Option Obj→Prop) (v:Value) (w:World):Prop:= ∃g,v= .pointer (some ⟨g,0,none⟩)∧B≤g∧F (w.heap[g]?)
theorem Gn {w:World} {g:Nat} {o:Obj} (h:w.heap[g]? =some o):g<w.heap.size:=(Array.getElem?_eq_some_iff.1 h).1
theorem Q6X {n:Nat} (hF: ¬F none):K9 (FinT B F) (X21 B n F):=by
 rintro v w w' ⟨g,rfl,hB,c⟩ d
 have a:g<w.heap.size:=by
  rcases c with ⟨cs,e,_,h⟩ | h
  ·exact Gn h
  ·cases b:w.heap[g]? with
   | none=>rw[b] at h;exact absurd h hF
   | some o=>exact Gn b
 rcases d.new g a with h | h
 ·exact ⟨g,rfl,hB,by rw[h];exact c⟩
 ·exact ⟨g,rfl,hB, .inr h⟩
theorem Q7f (hF: ¬F none):K9 (FinT B F) (X1o B F):=by
 rintro v w w' ⟨g,rfl,hB,b⟩ d
 have a:g<w.heap.size:=by
  cases c:w.heap[g]? with
  | none=>rw[c] at b;exact absurd b hF
  | some o=>exact Gn c
 rcases d.new g a with h | h
 ·exact ⟨g,rfl,hB,by rw[h];exact b⟩
 ·exact ⟨g,rfl,hB,h⟩
end
end Go.Emb
namespace Go.Hm
open Go.Kd
theorem Q5r {a b:List Hm.Met} (h: ∀m,m∈a↔m∈b):Vy a=Vy b:=by
 rw[Bool.eq_iff_iff]
 simp only[Vy,List.any_eq_true]
 constructor
 ·rintro ⟨x,e,y,d,c⟩;exact ⟨x,(h x).1 e,y,(h y).1 d,c⟩
 ·rintro ⟨x,e,y,d,c⟩;exact ⟨x,(h x).2 e,y,(h y).2 d,c⟩
theorem Q9B {α:Type} {a b:List α} {p:α→Bool} (h: ∀m,m∈a↔m∈b):a.any p=b.any p:=by
 rw[Bool.eq_iff_iff]
 simp only[List.any_eq_true]
 constructor
 ·rintro ⟨x,c,y⟩;exact ⟨x,(h x).1 c,y⟩
 ·rintro ⟨x,c,y⟩;exact ⟨x,(h x).2 c,y⟩
def Xu (m:Hm.Met):List X0:=m.params++if m.result=[] then [] else [m.result]
def Zs (c:Cla):List X0:=c.fields.map (·.kind)++c.methods.flatMap Xu
theorem Q7E {l:List Cla} {c:Cla}:(Zs c).any (fun s=> !D9 l s)=B6 l c:=by
 unfold Zs B6 Xu
 rw[List.any_append,List.any_map,List.any_flatMap]
 congr 1
 congr 1
 funext m
 rw[List.any_append]
 by_cases e:m.result=[]
 ·simp[e]
 ·simp[e,Bool.or_comm]
def Tn (l:List Cla) (i k:Nat):Bool:=decide (k=i)||Jg l (Y0 l i) (Y0 l k)
def Qd (l:List Cla) (i n:Nat):List Hm.Met:=(List.range n).flatMap fun k=>if Tn l i k then (l.getD k Cla.zero).methods else []
theorem Q7t {l:List Cla} {i n:Nat}:Qd l i (n+1)=Qd l i n++if Tn l i n then (l.getD n Cla.zero).methods else []:=by
 unfold Qd
 rw[List.range_succ,List.flatMap_append]
 simp
theorem Q3o {l:List Cla} (o:I0 l) {i:Nat} (n:i<l.length) (m:Hm.Met):m∈Qd l i l.length↔m∈Vi l (Y0 l i):=by
 unfold Qd Vi
 simp only[List.mem_flatMap,List.mem_range]
 have a: ∀k,k<l.length→lk l (Y0 l k)=some (l.getD k Cla.zero):=fun k g=>Qy o g
 constructor
 ·rintro ⟨k,g,d⟩
  split at d
  ·rename_i hu
   refine ⟨Y0 l k,?_,by rw[a k g];exact d⟩
   rw[Zz,Q2Y]
   simp only[Tn,Bool.or_eq_true,decide_eq_true_eq,Vm] at hu
   rcases hu with rfl | hu
   ·exact .inl ⟨rfl,_,a _ g⟩
   ·exact .inr hu
  ·simp at d
 ·rintro ⟨u,hu,d⟩
  rw[Zz] at hu
  obtain ⟨c,p⟩:=hu.right
  obtain ⟨s,q,j,t,b⟩:=U7 p
  obtain ⟨h,A⟩:=List.getElem?_eq_some_iff.1 b
  have f:Y0 l j=u:=by
   unfold Y0;rw[List.getD_eq_getElem?_getD,b];exact s
  refine ⟨j,h,?_⟩
  rw[p] at d
  have:Tn l i j=true:=by
   simp only[Tn,Bool.or_eq_true,decide_eq_true_eq,Vm]
   rw[Q2Y] at hu
   rcases hu with ⟨e,_⟩ | hu
   ·left
    have z:=a i n
    rw[e,←f] at z
    have r:=I0.find o (i:=i) (c:=l[i]) (List.getElem?_eq_getElem n)
    have y:l[i].name=Y0 l i:=by unfold Y0;rw[List.getD_eq_getElem?_getD,List.getElem?_eq_getElem n];rfl
    rw[y,e,t] at r
    simpa using r
   ·right;rw[f];exact hu
  rw[if_pos this,List.getD_eq_getElem?_getD,b]
  exact d
theorem Q8p {l:List Cla} {i n:Nat} {m:Hm.Met} (h:m∈Qd l i n) (d:n≤l.length): ∃c∈l,m∈c.methods:=by
 unfold Qd at h
 simp only[List.mem_flatMap,List.mem_range] at h
 obtain ⟨k,e,a⟩:=h
 split at a
 ·have b:k<l.length:=by omega
  rw[List.getD_eq_getElem?_getD,List.getElem?_eq_getElem b] at a
  exact ⟨l[k],List.getElem_mem _,a⟩
 ·simp at a
def I5 (a:List Hm.Met) (x y:Nat):Bool:=decide ((a.getD x Hm.Met.zero).name=(a.getD y Hm.Met.zero).name)&& !decide (T1 (a.getD x Hm.Met.zero)=T1 (a.getD y Hm.Met.zero))
theorem Rq {α:Type} {l:List α} {d:α} {n:Nat} (h:n<l.length):l.getD n d=l[n]:=by rw[List.getD_eq_getElem?_getD,List.getElem?_eq_getElem h];rfl
theorem Q7M {a:List Hm.Met} {x y:Nat} (c:x<a.length) (b:y<a.length) (h:I5 a x y=true):Vy a=true:=by
 unfold Vy
 rw[List.any_eq_true]
 refine ⟨a[x],List.getElem_mem _,?_⟩
 rw[List.any_eq_true]
 refine ⟨a[y],List.getElem_mem _,?_⟩
 unfold I5 at h
 rwa [Rq c,Rq b] at h
theorem Q9y {d:List Hm.Met} (h: ∀x y,x<d.length→y<x→I5 d x y=false):Vy d=false:=by
 unfold Vy
 rw[List.any_eq_false]
 intro a j
 rw[List.any_eq_true]
 rintro ⟨b,k,e⟩
 obtain ⟨x,i,rfl⟩:=List.getElem_of_mem j
 obtain ⟨y,g,rfl⟩:=List.getElem_of_mem k
 have f:I5 d y x=I5 d x y:=by
  unfold I5
  congr 1
  ·rw[Bool.eq_iff_iff];simp[eq_comm]
  ·congr 1;rw[Bool.eq_iff_iff];simp[eq_comm]
 have c:I5 d x y=true:=by unfold I5;rw[Rq i,Rq g];exact e
 rcases Nat.lt_trichotomy x y with hlt | heq | hlt
 ·rw[←f,h y x g hlt] at c;cases c
 ·subst heq;simp[I5] at c
 ·rw[h x y i hlt] at c;cases c
end Go.Hm
namespace Go.Proofs.YtfppjenblllfaaaGreatDoor
open Go.Emb Go.RowKit Go.Kd Go.Hm
variable {w : World} {K : Value → World → Prop} {σ : Q4} {l : List Cla} {v : Value}
theorem Bk {c:Cla} (h:Yd c=false):c.fields.length≤32∧c.methods.length≤32∧ ∀m∈c.methods,m.params.length≤32:=by
 simp only[Yd,Bool.or_eq_false_iff,decide_eq_false_iff_not,List.any_eq_false] at h
 obtain ⟨⟨⟨a,f⟩,e⟩,d⟩:=h
 refine ⟨by omega,by omega,fun m b=>?_⟩
 have:=a m b
 simp only[Uo,Bool.or_eq_true,decide_eq_true_eq,not_or] at this
 omega
set_option maxHeartbeats 8000000 in
theorem Q5F {i:Nat} (hs:X4 w σ) (hv:Sl 8 U8 σ v l) (ok:Ok l) (own:I0 l) (hlen:l.length≤1000) (hmn: ∀c∈l,Yd c=false) (hi:i<l.length)
 (h: ∀w' σ',Stp w σ w' σ'→K (I (V2 l l[i])) w'):Q1 P F.aR [v,I i] w K:=Sk (by
 unfold Uj
 obtain ⟨lv,fv,mv,p0,r0⟩:=hv.elC hi
 refine U2 hv hi ?_
 refine Z1 hs p0 rfl ?_
 refine Y4 hs (by rfl) rfl (Rep.one r0) fun q w1 σ1 hk1 hq1=>?_
 have r1:=RCl_lift r0 ⟨hk1.le⟩
 obtain ⟨_,gf,gm,g4,_⟩:=r1.parts
 have hv1:=hv.up hk1
 have hnm:=ok.nm _ (List.getElem_mem hi)
 have hcm:=hmn _ (List.getElem_mem hi)
 have hname:Y0 l i=l[i].name:=Bu hi
 generalize hcE:l[i]=c at*
 obtain ⟨mf,mm,mp⟩:=Bk hcm
 have e64:Xk l c=true→V2 l c=64:=fun e=>by unfold V2;simp[e]
 have e65:Xk l c=false→B6 l c=true→V2 l c=65:=fun e e2=>by unfold V2;simp[e,e2]
 have e66:Xk l c=false→B6 l c=false→Xz l c=true→V2 l c=66:=fun e e2 e3=>by unfold V2;simp[e,e2,e3]
 have e67:Xk l c=false→B6 l c=false→Xz l c=false→Ni l c=true→V2 l c=67:=fun e e2 e3 e4=>by unfold V2;simp[e,e2,e3,e4]
 have e0:Xk l c=false→B6 l c=false→Xz l c=false→Ni l c=false→V2 l c=0:=fun e e2 e3 e4=>by unfold V2;simp[e,e2,e3,e4]
 generalize V2 l c=R at*
 clear p0 r0 r1 hcm
 refine J4 c.fields.length (fun n w'=> ∃σ',Stp w σ w' σ'∧SLe σ1 σ'∧(c.fields.take n).any (fun f=>(Xv l c.super f.name).isSome)=false) ⟨σ1,hk1,SLe.refl _,rfl⟩ fun n w2 d hn hinv=>?_
 obtain ⟨σ2,hS2,le2,hno⟩:=hinv
 have hq2:=hq1.lift le2
 have gf2:=gf.lift le2
 (try simp only[↓M1,M1,Mb,reduceIte])
 refine ld hS2.sat hq2 rfl ?_
 refine Q8 gf2 ?_
 refine Y8 ?_
 refine Q5 (fun hc=>?_) (fun hc=>?_)
 ·have hn':n<c.fields.length:=by simpa using hc
  obtain ⟨pf,_⟩:=gf2.elF hn'
  have hs2:=hS2.sat
  refine V3 hs2 ?_
  (repeat refine U6 Qt ?_)
  (intros;(repeat (rename_i hx;subst hx));(try simp only[↓M2,M2,Mb,reduceIte]))
  rename_i w3 hb3
  refine Q8N hb3.sat (hv.up (hS2.trans hb3.stp)) ok.acy hlen ok.sm fun w4 σ4 hk4=>?_
  refine F0 ?_
  rw[Ja]
  have hnx:=M0 (p:=fun f:Fld=>(Xv l c.super f.name).isSome) hn'
  cases hp:(Xv l c.super c.fields[n].name).isSome with
  | true=>
   (try simp only[↓M1,M1,Mb,reduceIte])
   rw[hp,Bool.or_true] at hnx
   have:R=64:=e64 (C5 hn' hp)
   subst this
   exact h _ _ ((hS2.trans hb3.stp).trans hk4)
  | false=>
   (try simp only[↓M1,M1,Mb,reduceIte])
   exact Y3 gf.max hn' ⟨σ4,(hS2.trans hb3.stp).trans hk4,le2.more ⟨(hb3.stp.trans hk4).le⟩,by rw[hnx,hno,hp];rfl⟩
 have hA:Xk l c=false:=by
  have hn': ¬n<c.fields.length:=by simpa using hc
  rw[D3 hn'] at hno;exact hno
 clear hno hc hn e64
 refine Tm (R:=Y1) (e:=T.b) hS2 (by decide) fun x3 w3 hk3 ha3 _=>?_
 have hS3:=hS2.trans hk3
 refine D5 c.fields.length (fun n x w'=> ∃σ',Stp w σ w' σ'∧SLe σ1 σ'∧V8 w.heap.size T.b 1 Y1 σ' w' x ((c.fields.take n).map (·.kind))) ⟨σ2,hS3,le2,ha3⟩ fun n x w4 d hn hinv=>?_
 obtain ⟨σ4,hS4,le4,ha4⟩:=hinv
 have hq4:=hq1.lift le4
 have gf4:=gf.lift le4
 (try simp only[↓M1,M1,Mb,reduceIte])
 refine ld hS4.sat hq4 rfl ?_
 refine Q8 gf4 ?_
 refine Y8 ?_
 refine Q5 (fun hc=>?_) (fun hc=>?_)
 ·have hn':n<c.fields.length:=by simpa using hc
  obtain ⟨pf,rf⟩:=gf4.elF hn'
  have hkl:=(hnm.2.1 _ (List.getElem_mem hn')).2
  (try simp only[↓M1,M1,Mb,reduceIte])
  refine ld hS4.sat hq4 rfl ?_
  refine U2 gf4 hn' ?_
  (try simp only[↓M1,M1,Mb,reduceIte])
  refine ld hS4.sat pf rfl ?_
  refine Un (R:=Y1) (x:=c.fields[n].kind) hS4 ha4 ⟨rfl,Nat.le_trans hkl (by decide)⟩ rfl rfl rfl (by rw[List.length_map,List.length_take];omega) (by rw[List.length_map,List.length_take];omega) fun s v' w5 σ5 hnx hS5 ha5 _=>?_
  (try simp only[↓M1,M1,Mb,reduceIte])
  refine Z6 gf.max hn' ⟨σ5,hS5,le4.more hnx.le,?_⟩
  rw[List.take_add_one,List.getElem?_eq_getElem hn',List.map_append]
  exact ha5
 rw[List.take_of_length_le (by
  have: ¬n<c.fields.length:=by simpa using hc
  omega)] at ha4
 clear hc hn hk3 ha3 hS3 hS2 le2 hq2 gf2 hq4 gf4
 have hkl: ∀n,(c.fields.map (·.kind)++(c.methods.take n).flatMap Xu).length≤2000:=fun n=>by
  have h1:=Ui Xu 33 (c.methods.take n) fun m hm=>by
   have:=mp m (List.mem_of_mem_take hm)
   unfold Xu
   split<;>simp<;>omega
  have h2:(c.methods.take n).length≤32:=by rw[List.length_take];omega
  have h3:(c.methods.take n).length*33≤32*33:=Nat.mul_le_mul_right _ h2
  rw[List.length_append,List.length_map];omega
 refine D5 c.methods.length (fun n x w'=> ∃σ',Stp w σ w' σ'∧SLe σ1 σ'∧V8 w.heap.size T.b 1 Y1 σ' w' x (c.fields.map (·.kind)++(c.methods.take n).flatMap Xu)) ⟨σ4,hS4,le4,by simpa using ha4⟩ fun n x w5 d hn hinv=>?_
 clear ha4 hS4 le4
 obtain ⟨σ5,hS5,le5,ha5⟩:=hinv
 have hq5:=hq1.lift le5
 have gm5:=gm.lift le5
 have hkn:=hkl n
 (try simp only[↓M1,M1,Mb,reduceIte])
 refine ld hS5.sat hq5 rfl ?_
 refine Q8 gm5 ?_
 refine Y8 ?_
 refine Q5 (fun hc=>?_) (fun hc=>?_)
 ·have hn':n<c.methods.length:=by simpa using hc
  obtain ⟨pv,cv,hv',pm,rm⟩:=gm5.elM hn'
  obtain ⟨gp,_,_,_,gr,_⟩:=rm.parts
  have hpn:=mp _ (List.getElem_mem hn')
  have hrl:=(hnm.2.2 _ (List.getElem_mem hn')).1
  have hnx:(c.methods.take (n+1)).flatMap Xu=(c.methods.take n).flatMap Xu++Xu c.methods[n]:=by
   rw[List.take_add_one,List.getElem?_eq_getElem hn',List.flatMap_append];simp
  refine V9 ?_
  (try simp only[↓M1,M1,Mb,reduceIte])
  refine ld hS5.sat hq5 rfl ?_
  refine U2 gm5 hn' ?_
  (try simp only[↓M1,M1,Mb,reduceIte])
  refine ld hS5.sat pm rfl ?_
  refine Dl hS5 ha5 gp rfl (by omega) (by omega) fun v6 w6 hn6 hS6 ha6 _=>?_
  (try simp only[↓M1,M1,Mb,reduceIte])
  refine ld hS6.sat hq5 rfl ?_
  refine U2 gm5 hn' ?_
  (try simp only[↓M1,M1,Mb,reduceIte])
  refine ld hS6.sat pm rfl ?_
  refine Lu ?_
  by_cases he:c.methods[n].result=[]
  ·simp only[he,decide_true,Bool.not_true,↓M1,M1,Mb,reduceIte]
   intro d
   refine Z6 gm.max hn' ⟨σ5,hS6,le5,?_⟩
   rw[hnx]
   unfold Xu
   rw[if_pos he,List.append_nil,←List.append_assoc]
   exact ha6
  ·simp only[he,decide_false,Bool.not_false,↓M1,M1,Mb,reduceIte]
   refine ld hS6.sat hq5 rfl ?_
   refine U2 gm5 hn' ?_
   (try simp only[↓M1,M1,Mb,reduceIte])
   refine ld hS6.sat pm rfl ?_
   refine Un (R:=Y1) (x:=c.methods[n].result) hS6 ha6 ⟨rfl,Nat.le_trans hrl (by decide)⟩ rfl rfl rfl (by rw[List.length_append];omega) (by rw[List.length_append];omega) fun s v' w7 σ7 hn7 hS7 ha7 _=>?_
   intro d
   (try simp only[↓M1,M1,Mb,reduceIte])
   refine Z6 gm.max hn' ⟨σ7,hS7,le5.more hn7.le,?_⟩
   rw[hnx]
   unfold Xu at ha7⊢
   rw[if_neg he]
   simpa only[List.append_assoc] using ha7
 rw[List.take_of_length_le (by
  have: ¬n<c.methods.length:=by simpa using hc
  omega)] at ha5
 have hkn:=hkl c.methods.length
 rw[List.take_of_length_le (Nat.le_refl _)] at hkn
 have hkE:B6 l c=(Zs c).any (fun s=> !D9 l s):=Q7E.symm
 have hkb: ∀s∈Zs c,s.length≤J0:=fun s hs=>by
  unfold Zs at hs
  rcases List.mem_append.1 hs with hs | hs
  ·obtain ⟨f,hf,rfl⟩:=List.mem_map.1 hs
   exact Nat.le_trans (hnm.2.1 f hf).2 (by decide)
  ·obtain ⟨m,hm,hs⟩:=List.mem_flatMap.1 hs
   unfold Xu at hs
   rcases List.mem_append.1 hs with hs | hs
   ·exact Nat.le_trans ((hnm.2.2 m hm).2 s hs) (by decide)
   ·split at hs
    ·simp at hs
    ·simp at hs;subst hs;exact Nat.le_trans (hnm.2.2 m hm).1 (by decide)
 obtain ⟨σ6,hS6,hv6,lee6,_⟩:=ha5.keep hS5
 have le6:=le5.more ⟨lee6⟩
 clear ha5 hq5 gm5 hc hn
 change Sl 1 Y1 σ6 x (Zs c) at hv6
 refine J4 (Zs c).length (fun n w'=>Stp w σ w' σ6∧((Zs c).take n).any (fun s=> !D9 l s)=false) ⟨hS6,rfl⟩ fun n w7 d hn hinv=>?_
 obtain ⟨hS7,hno⟩:=hinv
 refine Q8 hv6 ?_
 refine Y8 ?_
 refine Q5 (fun hc=>?_) (fun hc=>?_)
 ·have hn':n<(Zs c).length:=by simpa using hc
  refine U2 hv6 hn' ?_
  obtain ⟨pk,_⟩:=hv6.elS hn'
  refine X7 hS7.sat pk rfl ?_
  refine Q8L hS7.sat (hv.up hS7) (hkb _ (List.getElem_mem hn')) ?_
  have hnx:=M0 (p:=fun s=> !D9 l s) hn'
  cases hp:D9 l (Zs c)[n] with
  | false=>
   (try simp only[↓M1,M1,Mb,reduceIte])
   have:R=65:=e65 hA (by rw[hkE];exact C5 hn' (by simp[hp]))
   subst this
   exact h _ _ hS7
  | true=>
   (try simp only[↓M1,M1,Mb,reduceIte])
   exact Y3 hv6.max hn' ⟨hS7,by rw[hnx,hno,hp];rfl⟩
 have hB:B6 l c=false:=by
  have hn': ¬n<(Zs c).length:=by simpa using hc
  rw[D3 hn'] at hno;rw[hkE];exact hno
 clear hno hc hn e65 hkE hkb hkn hkl hS5 le5 lee6 hv6
 refine Q2X hS7.sat (hv.up hS7) own (by omega) hlen ok.sm fun vb w8 σ8 hk8 hb8=>?_
 have hS8:=hS7.trans hk8
 refine Tm (R:=M6) (e:=T.c) hS8 (by decide) fun x9 w9 hk9 ha9 _=>?_
 have hml: ∀n,n≤l.length→(Qd l i n).length≤32000:=fun n hn=>by
  unfold Qd
  have h1:=Ui (fun k=>if Tn l i k then (l.getD k Cla.zero).methods else []) 32 (List.range n) fun k hk=>by
   have hk':k<l.length:=by have:=List.mem_range.1 hk;omega
   split
   ·rw[Rq hk'];exact (Bk (hmn _ (List.getElem_mem _))).2.1
   ·simp
  rw[List.length_range] at h1
  have h3:n*32≤1000*32:=Nat.mul_le_mul_right _ (by omega)
  omega
 have hbl:(Xr l).length=l.length:=by simp[Xr]
 refine D5 l.length (fun n x w'=> ∃σ',Stp w σ w' σ'∧SLe σ1 σ'∧SLe σ8 σ'∧V8 w.heap.size T.c 7 M6 σ' w' x (Qd l i n)) ⟨σ8,hS8.trans hk9,le6.more ⟨hk8.le⟩,SLe.refl _,ha9⟩ fun n x w10 d hn hinv=>?_
 clear ha9 hk9 hS7 hS8 le6 hS6 hk8
 obtain ⟨σ10,hS10,le10,leb,ha10⟩:=hinv
 have hv10:=hv.up hS10
 refine Q8 hv10 ?_
 refine Y8 ?_
 refine Q5 (fun hc=>?_) (fun hc=>?_)
 ·have hn':n<l.length:=by simpa using hc
  have hmn1:=hml n hn
  have hsuc:=Q7t (l:=l) (i:=i) (n:=n)
  rw[Rq hn'] at hsuc
  obtain ⟨lv2,fv2,mv2,p2,r2⟩:=hv10.elC hn'
  obtain ⟨_,_,g3,_,_⟩:=r2.parts
  have hmn2:=(Bk (hmn _ (List.getElem_mem hn'))).2.1
  refine G6 (fun z w'=>Stp w σ w' σ10∧V8 w.heap.size T.c 7 M6 σ10 w' z (Qd l i (n+1))) ?_ (fun z d w' hz=>?_)
  ·refine Sc ?_
   have happ: ∀{J:Value→World→Prop},Tn l i n=true→(∀z w',Stp w σ w' σ10→V8 w.heap.size T.c 7 M6 σ10 w' z (Qd l i (n+1))→J z w')→
    X5 P .append [T.f,T.f] T.f [false,false] [x,mv2] w10 J:=fun hu hJ=>
    Dl hS10 ha10 g3 rfl (by omega) (by omega) fun v' w' _ hS' ha' _=>hJ v' w' hS' (by rw[hsuc,if_pos hu];exact ha')
   by_cases e:n=i
   ·have e1:decide ((n:Int)=(i:Int))=true:=by simp[e]
    rw[e1]
    (try simp only[↓M1,M1,Mb,reduceIte])
    refine U2 hv10 hn' ?_
    (try simp only[↓M1,M1,Mb,reduceIte])
    refine ld hS10.sat p2 rfl ?_
    exact happ (by simp[Tn,e]) fun z w' h1 h2=>⟨h1,h2⟩
   ·have e1:decide ((n:Int)=(i:Int))=false:=by rw[decide_eq_false_iff_not];omega
    rw[e1]
    obtain ⟨cs1,pb,_,rv,rfl,rb⟩:=(hb8.lift leb).el (i:=i) (by rw[hbl];exact hi)
    have hrow:(Xr l)[i]'(by rw[hbl];exact hi)=(List.range l.length).map fun j=>Jg l (Y0 l i) (Y0 l j):=by simp[Xr]
    rw[hrow] at rb
    obtain ⟨cs2,pb2,_,hcs2⟩:=rb.el (i:=n) (by simpa using hn')
    have hcs2:cs2=_:=hcs2
    subst hcs2
    simp only[List.getElem_map,List.getElem_range] at pb2
    (try simp only[↓M1,M1,Mb,reduceIte])
    refine U2 (hb8.lift leb) (by rw[hbl];exact hi) ?_
    refine X7 hS10.sat pb rfl ?_
    refine U2 rb (by simpa using hn') ?_
    refine X7 hS10.sat pb2 rfl ?_
    (try simp only[↓M1,M1,Mb,reduceIte])
    cases ho:Jg l (Y0 l i) (Y0 l n) with
    | true=>
     (try simp only[↓M1,M1,Mb,reduceIte])
     refine U2 hv10 hn' ?_
     (try simp only[↓M1,M1,Mb,reduceIte])
     refine ld hS10.sat p2 rfl ?_
     exact happ (by simp[Tn,ho]) fun z w' h1 h2=>⟨h1,h2⟩
    | false=>
     (try simp only[↓M1,M1,Mb,reduceIte])
     refine ⟨hS10,?_⟩
     have:Tn l i n=false:=by simp[Tn,ho,e]
     rw[hsuc,this]
     simpa using ha10
  ·obtain ⟨hS',ha'⟩:=hz
   (try simp only[↓M1,M1,Mb,reduceIte])
   exact Z6 (by omega) hn' ⟨σ10,hS',le10,leb,ha'⟩
 have hn0:n=l.length:=by
  have: ¬n<l.length:=by simpa using hc
  omega
 subst hn0
 obtain ⟨σ11,hS11,hv11,lee11,_⟩:=ha10.keep hS10
 have le11:=le10.more ⟨lee11⟩
 have hml2:=hml _ (Nat.le_refl l.length)
 have hov:Xz l c=Vy (Qd l i l.length):=by
  unfold Xz
  refine (Q5r fun m=>?_).symm
  rw[Q3o own hi,hname]
 have hlk:Ni l c=(!c.abs&&(Qd l i l.length).any fun m=>Xt l c.name m.name):=by
  unfold Ni
  congr 1
  refine (Q9B fun m=>?_).symm
  rw[Q3o own hi,hname]
 have hsn: ∀m∈Qd l i l.length,SmM m∧NmM m:=fun m hm=>by
  obtain ⟨c2,hc2,hm2⟩:=Q8p hm (Nat.le_refl _)
  exact ⟨(ok.sm c2 hc2).2.2.2 m hm2,(ok.nm c2 hc2).2.2 m hm2⟩
 generalize Qd l i l.length=ms at hov hlk hsn hml2 hv11
 clear ha10 lee11 hS10 le10 leb hv10 hml hc hb8 hbl
 refine J4 ms.length (fun n w'=> ∃σ',Stp w σ w' σ'∧SLe σ11 σ'∧ ∀a b,a<n→b<a→I5 ms a b=false) ⟨σ11,hS11,SLe.refl _,fun a b h=>by omega⟩ fun n w12 d hn hinv=>?_
 obtain ⟨σ12,hS12,le12,hno⟩:=hinv
 have hv12:=hv11.lift le12
 refine Q8 hv12 ?_
 refine Y8 ?_
 refine Q5 (fun hc=>?_) (fun hc=>?_)
 ·have hn':n<ms.length:=by simpa using hc
  refine J4 n (fun m w'=> ∃σ',Stp w σ w' σ'∧SLe σ11 σ'∧ ∀b,b<m→I5 ms n b=false) ⟨σ12,hS12,le12,fun b h=>by omega⟩ fun m w13 d hm hinv=>?_
  obtain ⟨σ13,hS13,le13,hno2⟩:=hinv
  have hv13:=hv11.lift le13
  refine Y8 ?_
  refine Q5 (fun hc=>?_) (fun hc=>?_)
  ·have hm':m<n:=by simpa using hc
   have hm2:m<ms.length:=by omega
   obtain ⟨pv1,cv1,hv1',pn,rn⟩:=hv13.elM hn'
   obtain ⟨pv2,cv2,hv2',pm,rm⟩:=hv13.elM hm2
   obtain ⟨sn1,sn2⟩:=hsn _ (List.getElem_mem hn')
   obtain ⟨sm1,sm2⟩:=hsn _ (List.getElem_mem hm2)
   have hat:I5 ms n m=(decide (ms[n].name=ms[m].name)&& !decide (T1 ms[n]=T1 ms[m])):=by
    unfold I5;rw[Rq hn',Rq hm2]
   have hs13:=hS13.sat
   have hnx:I5 ms n m=false→ ∀b,b<m+1→I5 ms n b=false:=fun e b hb=>by
    by_cases e2:b=m
    ·subst e2;exact e
    ·exact hno2 b (by omega)
   refine V3 hs13 ?_
   (repeat refine U6 Qt ?_)
   by_cases he:ms[n].name=ms[m].name
   ·have hd:decide (ms[n].name=ms[m].name)=true:=by simp[he]
    simp only[hd,reduceIte]
    (repeat (apply U6;(· intros;(repeat (rename_i hx;subst hx));(repeat' (first | (with_reducible exact N4 rfl) | (with_reducible exact Zw (Stp.bel (by (repeat (first | exact Stp.refl (by (first | assumption | exact Stp.sat (by assumption) | exact Hst.sat (by assumption))) | assumption | refine Stp.trans ?_ (by first | assumption | exact Hst.stp (by assumption)))))) rfl) | (with_reducible intro _) | (simp only[↓M2,M2,Mb,reduceIte]) | (with_reducible show Q2 _ _ _ _ _;first | refine X7 aS aL aR ?_ | refine Z1 aS aL aR ?_ | refine ld aS aL aR ?_) | (with_reducible show indexAddr _ _ _ _ _ _;refine U2 aL au ?_) | (with_reducible show X5 _ _ _ _ _ _ _ _;refine Q8 aL ?_) | (with_reducible show We _ _ _ _ _ _;refine V4 aR ?_) | (with_reducible show pick _ _ _ _ _ _;refine Jw ?_) | (with_reducible show Q1 _ _ _ _ _;first | refine Q56 au au au au ?_) | (apply Vz;intro hh;(try simp only[hh,reduceIte,↓M2,M2,Mb,reduceIte]))));done)))
    (intros;(repeat (rename_i hx;subst hx));(try simp only[↓M2,M2,Mb,reduceIte]))
    rename_i w14 hb14
    refine Q56 hb14.sat rm sm1 sm2 fun w15 σ15 hk15=>?_
    refine Lu ?_
    (try simp only[↓M1,M1,Mb,reduceIte])
    have hS15:=(hS13.trans hb14.stp).trans hk15
    by_cases hsg:T1 ms[n]=T1 ms[m]
    ·simp only[hsg,decide_true,Bool.not_true,↓M1,M1,Mb,reduceIte]
     refine Y3 (by omega) hm' ⟨σ15,hS15,le13.more ⟨(hb14.stp.trans hk15).le⟩,hnx ?_⟩
     rw[hat,hsg];simp
    ·simp only[hsg,decide_false,Bool.not_false,↓M1,M1,Mb,reduceIte]
     have:R=66:=e66 hA hB (by rw[hov];exact Q7M hn' hm2 (by rw[hat];simp[he,hsg]))
     subst this
     exact h _ _ hS15
   ·have hd:decide (ms[n].name=ms[m].name)=false:=by simp[he]
    simp only[hd,Bool.false_eq_true,reduceIte]
    (repeat refine U6 Qt ?_)
    (intros;(repeat (rename_i hx;subst hx));(try simp only[↓M2,M2,Mb,reduceIte]))
    rename_i w14 hb14
    (try simp only[↓M1,M1,Mb,reduceIte])
    refine Y3 (by omega) hm' ⟨σ13,hS13.trans hb14.stp,le13,hnx ?_⟩
    rw[hat];simp[he]
  ·have hm0:m=n:=by
    have: ¬m<n:=by simpa using hc
    omega
   subst hm0
   (try simp only[↓M1,M1,Mb,reduceIte])
   refine Y3 hv11.max hn' ⟨σ13,hS13,le13,fun a b ha hb=>?_⟩
   by_cases e:a=m
   ·subst e;exact hno2 b hb
   ·exact hno a b (by omega) hb
 have hC:Xz l c=false:=by
  rw[hov]
  have: ¬n<ms.length:=by simpa using hc
  exact Q9y fun x y hx hy=>hno x y (by omega) hy
 clear hno hc hn hv12 hov e66
 refine J4 ms.length (fun n w'=> ∃σ',Stp w σ w' σ'∧SLe σ11 σ'∧(c.abs=true→n=0)∧(ms.take n).any (fun m=>Xt l c.name m.name)=false) ⟨σ12,hS12,le12,fun _=>rfl,rfl⟩ fun n w13 d hn hinv=>?_
 clear hS12 le12
 obtain ⟨σ13,hS13,le13,hab,hno⟩:=hinv
 have hv13:=hv11.lift le13
 have hq13:=hq1.lift (le11.more le13)
 refine Q8 hv13 ?_
 refine Y8 ?_
 by_cases hn':n<ms.length
 ·have e1:decide ((n:Int)<(ms.length:Int))=true:=by simpa using hn'
  rw[e1]
  (try simp only[↓M1,M1,Mb,reduceIte])
  refine ld hS13.sat hq13 rfl ?_
  refine Nw ?_
  (try simp only[↓M1,M1,Mb,reduceIte])
  cases hca:c.abs with
  | true=>
   (try simp only[↓M1,M1,Mb,reduceIte])
   have:R=0:=e0 hA hB hC (by rw[hlk,hca];rfl)
   subst this
   exact h _ _ hS13
  | false=>
   (try simp only[↓M1,M1,Mb,reduceIte])
   obtain ⟨pvn,cvn,hvn,pn,rn⟩:=hv13.elM hn'
   have hs13:=hS13.sat
   have hnx:=M0 (p:=fun m:Hm.Met=>Xt l c.name m.name) hn'
   have hla:Xt l c.name ms[n].name=(!(U0 l c.name ms[n].name).isSome||(o2 (U0 l c.name ms[n].name)).abs):=by
    unfold Xt
    cases U0 l c.name ms[n].name<;>rfl
   generalize hF:(fun o:Option Obj=> ∃cs:List Value,∃e,o=some (.cells cs.toArray e (0,0))∧cs.length=7∧cs[3]? =some (.bool (o2 (U0 l c.name ms[n].name)).abs))=F
   have hFn: ¬F none:=by rw[←hF];rintro ⟨_,_,h,_⟩;cases h
   refine X25 F hs13 ?_
   (repeat (apply U6;(· intros;(repeat (rename_i hx;subst hx));(repeat' (first | (with_reducible exact Q4U rfl) | (with_reducible exact X0w (Stp.bel (by (repeat (first | exact Stp.refl (by (first | assumption | exact Stp.sat (by assumption) | exact Hst.sat (by assumption))) | assumption | refine Stp.trans ?_ (by first | assumption | exact Hst.stp (by assumption)))))) rfl) | (with_reducible intro _) | (simp only[↓M2,M2,Mb,reduceIte]) | (with_reducible show Q2 _ _ _ _ _;first | refine X7 aS aL aR ?_ | refine Z1 aS aL aR ?_ | refine ld aS aL aR ?_) | (with_reducible show indexAddr _ _ _ _ _ _;refine U2 aL au ?_) | (with_reducible show X5 _ _ _ _ _ _ _ _;refine Q8 aL ?_) | (with_reducible show We _ _ _ _ _ _;refine V4 aR ?_) | (with_reducible show pick _ _ _ _ _ _;refine Jw ?_)));done)))
   refine W9 (fun v _=> ∃s,∃ds:List Value,v= .tuple #[s, .agg ds.toArray, .bool (U0 l c.name ms[n].name).isSome]∧ds.length=7∧ds[3]? =some (.bool (o2 (U0 l c.name ms[n].name)).abs)∧ ∀u∈ds,u.oneCell'=true) (fun _ _ _ h _=>h) (fun t180 t185 w hb e1 e2=>?_) ?_
   ·subst e1;subst e2
    refine Q76 hb.sat (hv.up (hS13.trans hb.stp)) ok fun pv cv hv w' σ' hk hr=>⟨.of_below hk.bel,_,_,rfl,rfl,rfl,Rep.one hr⟩
   refine W9 (fun _ _=>True) (fun _ _ _ _ _=>trivial) (fun t186 w hb e=>?_) ?_
   ·obtain ⟨s,ds,rfl,_⟩:=e
    exact U9 (vs:=[_,_,_]) rfl ⟨.of_below (Below.refl _ _),trivial⟩
   refine W9 (fun v _=> ∃ds:List Value,v= .agg ds.toArray∧ds.length=7∧ds[3]? =some (.bool (o2 (U0 l c.name ms[n].name)).abs)∧ ∀u∈ds,u.oneCell'=true) (fun _ _ _ h _=>h) (fun t186 w hb e=>?_) ?_
   ·obtain ⟨s,ds,rfl,h7⟩:=e
    exact U9 (vs:=[_,_,_]) rfl ⟨.of_below (Below.refl _ _),ds,rfl,h7⟩
   refine U6 (V:= .bool (U0 l c.name ms[n].name).isSome) (fun t186 w hb e=>?_) ?_
   ·obtain ⟨s,ds,rfl,h7⟩:=e
    exact U9 (vs:=[_,_,_]) rfl (Q4U rfl)
   refine W9 (X21 w13.heap.size 7 F) (Q6X hFn) (fun w hb=>?_) ?_
   ·exact Ha hb.sat fun b w' hb2 hk hm=>⟨.of_below hk.bel,b,rfl,Nat.le_trans hb.stp.bel.size hb2, .inl ⟨_,hm.2.choose,rfl,hm.2.choose_spec⟩⟩
   refine Q6m (fun xs _ w=>X1o w13.heap.size F (xs.headD undef) w) (fun xs _ w w' h hT=>Q7f hFn _ w w' h hT) (fun t18 t188 w hb e1 e2=>?_) ?_
   ·obtain ⟨g,rfl,hg,hd⟩:=e1
    obtain ⟨ds,rfl,h7,h3,h1⟩:=e2
    obtain ⟨cs,e,hl7,hh⟩: ∃cs:List Value,∃e,cs.length=7∧w.heap[g]? =some (.cells cs.toArray e (0,0)):=by
     rcases hd with h | h
     ·exact h
     ·rw[←hF] at h
      obtain ⟨cs,e,h4,h5,_⟩:=h
      exact ⟨cs,e,h5,h4⟩
    refine sta (σ:=fun _=>none) (cs:=cs) (ds:=ds) ⟨rfl,e,hh⟩ hl7 h7 (by rw[List.all_toArray];exact List.all_eq_true.2 h1) fun w' hu hm=>?_
    have hFg:F (w'.heap[g]?):=by
     obtain ⟨_,e',hm'⟩:=hm
     rw[hm',←hF]
     exact ⟨ds,e',rfl,h7,h3⟩
    exact ⟨FinT.of_upd hu hg hFg,g,rfl,hg,hFg⟩
   rintro t179 t183 t184 t180 t185 t186 t187 t188 t189 t18 u15 w14 hb14 rfl rfl rfl rfl rfl _ _ _ rfl _ ⟨g,e,hg,hd⟩
   have e:t18=_:=e
   subst e
   rw[←hF] at hd
   obtain ⟨cs,ty,hh,hl7,h3⟩:=hd
   have hS14:=hS13.trans hb14.stp
   refine Nw ?_
   cases hsm:(U0 l c.name ms[n].name).isSome with
   | false=>
    (try simp only[↓M1,M1,Mb,reduceIte])
    have:R=67:=e67 hA hB hC (by rw[hlk,hca];exact C5 hn' (by rw[hla,hsm];rfl))
    subst this
    exact h _ _ hS14
   | true=>
    (try simp only[↓M1,M1,Mb,reduceIte])
    refine Uh (σ:=fun _=>none) ⟨rfl,ty,hh⟩ h3 ?_
    (try simp only[↓M1,M1,Mb,reduceIte])
    cases hma:(o2 (U0 l c.name ms[n].name)).abs with
    | true=>
     (try simp only[↓M1,M1,Mb,reduceIte])
     have:R=67:=e67 hA hB hC (by rw[hlk,hca];exact C5 hn' (by rw[hla,hma,Bool.or_true]))
     subst this
     exact h _ _ hS14
    | false=>
     (try simp only[↓M1,M1,Mb,reduceIte])
     refine Y3 hv11.max hn' ⟨σ13,hS14,le13,fun e=>False.elim (by simpa using e),?_⟩
     rw[hnx,hno,hla,hsm,hma];rfl
 ·have e1:decide ((n:Int)<(ms.length:Int))=false:=by simpa using hn'
  rw[e1]
  (try simp only[↓M1,M1,Mb,reduceIte])
  rw[D3 hn'] at hno
  have:R=0:=e0 hA hB hC (by rw[hlk,hno,Bool.and_false])
  subst this
  exact h _ _ hS13)
end Go.Proofs.YtfppjenblllfaaaGreatDoor

namespace Go.Proofs.YtfppjenblllfaaaGreatDoor
open Go.Emb Go.RowKit Go.Kd Go.Hm
variable {w : World} {K : Value → World → Prop} {σ : Q4} {v : Value}
def Q1U:List Cla:=[⟨Z7,[],[],false,false,false,[],[]⟩,⟨W0,Z7,[],false,false,false,[⟨K7,N7,false⟩],[]⟩]
def gMk (n:X0):Cla:=⟨n,W0,[],false,false,true,[],[]⟩
theorem Q5S:F8=Q1U++Z9.map gMk:=rfl
theorem Q88 (Q:X4 w σ) (h: ∀A w' g,Stp w σ w' g→V8 w.heap.size T.a 8 U8 g w' A F8→K A w'):Q1 P F.b6 [] w K:=Fj (by
 unfold Lg
 refine W1 (cells:= #[S Z7,S [], .slice none 0 0, .bool false, .bool false, .bool false, .slice none 0 0, .slice none 0 0]) (by kernel_rfl) ?_
 refine W1 (cells:= #[S K7,S N7, .bool false]) (by kernel_rfl) ?_
 refine N5 (R:=E5) (sz:=3) Q [.agg #[S K7,S N7, .bool false]] [⟨K7,N7,false⟩] rfl rfl (by simp;rfl) rfl ⟨⟨rfl,by decide,by decide⟩,trivial⟩ fun v1 w1 σ1 i j=>?_
 have q:=j
 obtain ⟨J,b,rfl,_⟩:=q
 refine W1 (cells:= #[S W0,S Z7, .slice none 0 0, .bool false, .bool false, .bool false, .slice J 1 b, .slice none 0 0]) (by kernel_rfl) ?_
 refine I6 (R:=U8) (sz:=8) i [.agg #[S Z7,S [], .slice none 0 0, .bool false, .bool false, .bool false, .slice none 0 0, .slice none 0 0], .agg #[S W0,S Z7, .slice none 0 0, .bool false, .bool false, .bool false, .slice J 1 b, .slice none 0 0]]
  Q1U rfl rfl (by simp;exact ⟨rfl,rfl⟩) rfl ⟨⟨_,_,_,rfl,Sl.nil,Sl.nil,Sl.nil,by decide,by decide⟩,⟨_,_,_,rfl,Sl.nil,j,Sl.nil,by decide,by decide⟩,trivial⟩ fun v2 w2 k C _=>?_
 refine N5 (R:=Y1) (sz:=1) k.sat (Z9.map S) Z9 rfl rfl (by decide) rfl ⟨⟨rfl,by decide⟩,⟨rfl,by decide⟩,⟨rfl,by decide⟩,⟨rfl,by decide⟩,⟨rfl,by decide⟩,⟨rfl,by decide⟩,trivial⟩ fun Z w3 H m r=>?_
 have D:=(i.trans k).trans m
 have V:Z9.length=6:=rfl
 refine D5 Z9.length (fun n x w'=> ∃g,Stp w σ w' g∧SLe H g∧V8 w.heap.size T.a 8 U8 g w' x (Q1U++(Z9.take n).map gMk)) ⟨H,D,SLe.refl _,C.up m⟩ fun n x Y d W p=>?_
 obtain ⟨L,c,f,e⟩:=p
 refine Q8 (r.lift f) ?_
 refine Y8 ?_
 refine Q5 (fun y=>?_) (fun y=>?_)
 ·have a:n<Z9.length:=by simpa using y
  have l:=r.lift f
  refine U2 l a ?_
  obtain ⟨N,E⟩:=l.elS a
  refine X7 c.sat N rfl ?_
  have M:(Q1U++(Z9.take n).map gMk).length≤8:=by
   rw[List.length_append,List.length_map,List.length_take,show Q1U.length=2 from rfl];omega
  have o:(Z9.take (n+1)).map gMk=(Z9.take n).map gMk++[gMk Z9[n]]:=by
   rw[List.take_add_one,List.getElem?_eq_getElem a,List.map_append];rfl
  generalize Z9[n]=t at E o
  refine W1 (cells:= #[S t,S W0, .slice none 0 0, .bool false, .bool false, .bool true, .slice none 0 0, .slice none 0 0]) (by kernel_rfl) ?_
  have O:U8 L (gMk t) [S t,S W0, .slice none 0 0, .bool false, .bool false, .bool true, .slice none 0 0, .slice none 0 0]:=⟨_,_,_,rfl,Sl.nil,Sl.nil,Sl.nil,E,(by decide:W0.length≤J0)⟩
  refine Un (x:=gMk t) c e O rfl rfl rfl (by omega) (by omega) fun s A X U u B z _=>?_
  refine O3 ?_
  refine Z6 (by omega) a ⟨U,B,f.more u.le,?_⟩
  rw[o,←List.append_assoc];exact z
 ·have a: ¬n<Z9.length:=by simpa using y
  rw[List.take_of_length_le (by omega),←Q5S] at e
  exact h _ _ _ c e)
end Go.Proofs.YtfppjenblllfaaaGreatDoor

namespace Go.Proofs.YtfppjenblllfaaaGreatDoor
open Go.Emb Go.RowKit Go.Kd Go.Hm
variable {w : World} {K : Value → World → Prop} {σ : Q4} {l : List Cla} {v : Value}
theorem X0O {w0:World} {σ0:Q4} {frm:Nat} (ha:Yp l) (ho:I0 l) (hl:l.length≤1000) (ay: ∀c∈l,T7 c) (hf:0<frm) (av: ∀i (E:i<l.length),frm≤i→ ∀u∈J3 l[i],∃j,Y5 l u=some j): ∀(k:Nat) {i:Nat} {out:List Nat} {x:Value} {w:World} {σ:Q4} {K:Value→World→Prop},i<l.length→G1 l (Y0 l i)<k→Am l out→Stp w0 σ0 w σ→Sl 8 U8 σ v l→V8 w0.heap.size T.e 1 B5 σ w x (ints out)→
 (∀x' w' O,Stp w0 σ0 w' O→SLe σ O→V8 w0.heap.size T.e 1 B5 O w' x' (ints (Qp l frm out i))→K x' w')→Q1 P F.aM [v,x,I frm,I i] w K:=by
 intro k
 induction k with
 | zero=>intro i out x w σ K E hk;omega
 | succ k ih=>
  intro i out x w σ K E hk z hS hv Z h
  refine Tb ?_
  unfold Om
  rw[Q6b ha ho hf out E] at h
  refine Y8 ?_
  refine Q5 (fun M=>?_) (fun M=>?_)
  ·have M:i<frm:=by have:=of_decide_eq_true M;omega
   rw[if_pos M] at h
   exact h _ _ _ hS (SLe.refl _) Z
  have M: ¬i<frm:=by have:=of_decide_eq_false M;omega
  rw[if_neg M] at h
  have bo:=z.len
  refine J4 out.length (fun n w'=>w'=w∧ ∀m (hm:m<out.length),m<n→out[m]≠i) ⟨rfl,fun m _ h=>by omega⟩ fun n w2 d hn o=>?_
  obtain ⟨hw,H⟩:=o
  subst hw
  refine Q7u Z ?_
  rw[show (ints out).length=out.length from by simp]
  refine Y8 ?_
  refine Q5 (fun D=>?_) (fun D=>?_)
  ·have b:n<out.length:=by simpa using D
   refine Q4E (U5.of_acc Z) (n:=n) (by simpa using b) fun a cs ap bn hr=>?_
   obtain ⟨rfl,_⟩:=hr
   refine Qu (by have:=ap 0 _ rfl;rwa [add_zero] at this) ?_
   simp only[List.getElem_map]
   refine Sc ?_
   by_cases e:out[n]=i
   ·have:decide ((out[n]:Int)=i)=true:=by simp[e]
    rw[this]
    refine U1 ?_
    rw[if_pos (e▸List.getElem_mem b)] at h
    exact h _ _ _ hS (SLe.refl _) Z
   ·have:decide ((out[n]:Int)=i)=false:=by rw[decide_eq_false_iff_not];omega
    rw[this]
    refine J9 ?_
    refine O3 ?_
    refine Y3 (by omega) b ⟨rfl,fun m hm ba=>?_⟩
    by_cases e2:m=n
    ·subst e2;exact e
    ·exact H m hm (by omega)
  ·have b: ¬n<out.length:=by simpa using D
   have B:i∉out:=fun aw=>by
    obtain ⟨m,hm,e⟩:=List.getElem_of_mem aw
    exact H m hm (by omega) e
   rw[if_neg B] at h
   have V:l.getD i Cla.zero=l[i]:=by rw[List.getD_eq_getElem?_getD,List.getElem?_eq_getElem E];rfl
   rw[V] at h
   have am:=av i E (by omega)
   obtain ⟨lv,fv,mv,p1,r1⟩:=hv.elC E
   obtain ⟨g1,_,_,_,g5⟩:=r1.parts
   have A:=ay _ (List.getElem_mem E)
   clear H B D hn
   refine V3 hS.sat ?_
   (repeat refine U6 Qt ?_)
   refine Q2i (w:=w2) (σ:=σ) (R:=Y1) (sz:=1) (e:=T.b) [l[i].super] (fun t w hb e=>?_) ?_
   ·subst e;exact I6 hb.stp [_] [l[i].super] rfl rfl (by simp;rfl) rfl ⟨⟨rfl,g5⟩,trivial⟩ fun v' w' hk ha _=>Q4S hb hk ha
   (repeat refine U6 Qt ?_)
   rintro bg bq bc bb be bp bi w4 ao rfl rfl rfl rfl rfl ⟨af,aa⟩ rfl
   refine Dl af aa g1 rfl (by simp;have:=A.1;omega) (by simp;have:=A.1;omega) fun v5 w5 al ag ae Y=>?_
   obtain ⟨σ6,r,N,bd,_⟩:=ae.keep ag
   have N:Sl 1 Y1 σ6 v5 (J3 l[i]):=N
   have ax:=Z.up r
   have X:=hv.up r
   have ab:=hS.trans r
   have ac:SLe σ σ6:=⟨r.le⟩
   clear al Y ae aa af ao ag
   refine D5 (J3 l[i]).length (fun n x w'=> ∃O g,Stp w0 σ0 w' O∧SLe σ6 O∧V8 w0.heap.size T.e 1 B5 O w' x (ints g)∧Am l g∧g=((J3 l[i]).take n).foldl (fun out n=>Qp l frm out ((Y5 l n).getD 0)) out) ⟨σ6,out,ab,SLe.refl _,ax,z,rfl⟩ fun n x7 w7 d hn o=>?_
   obtain ⟨σ7,a1,q,y,U,f,J⟩:=o
   have p:=N.lift y
   refine Q8 p ?_
   refine Y8 ?_
   refine Q5 (fun D=>?_) (fun D=>?_)
   ·have b:n<(J3 l[i]).length:=by simpa using D
    refine U2 p b ?_
    obtain ⟨p7,_⟩:=p.elS b
    refine X7 q.sat p7 rfl ?_
    have C:=X.lift y
    refine T2 q.sat C ?_
    obtain ⟨j,hj⟩:=am _ (List.getElem_mem b)
    have bf:=Q0g ha ho E (by rw[V];exact List.getElem_mem b) hj
    have W:=(C2 hj).1
    simp only[hj,W8]
    refine ih W (by omega) f q C U fun x8 w8 σ8 L an Q=>?_
    refine O3 ?_
    refine Z6 p.max b ⟨σ8,_,L,y.more an,Q,Gu ha ho hf _ _ _ W f,?_⟩
    rw[List.take_add_one,List.getElem?_eq_getElem b,List.foldl_append,←J]
    simp[hj]
   ·have b: ¬n<(J3 l[i]).length:=by simpa using D
    rw[List.take_of_length_le (by omega)] at J
    have br:=f.len
    refine Un (R:=B5) (x:=(i:Int)) q U ⟨rfl,by omega,by omega⟩ rfl rfl rfl (by simp;omega) (by simp;omega) fun s x8 w8 σ8 ar L Q _=>?_
    refine h _ _ _ L ((ac.more y).more ar.le) ?_
    rw[←J]
    simpa [ints] using Q
end Go.Proofs.YtfppjenblllfaaaGreatDoor

namespace Go.Hm
open Go.Kd
def H0 (n i b:Nat):Bool:=decide (i<n)&&decide (128≤b)&&decide (b<192)
def Yk (n a b c d:Nat):Nat:=
 if a<128 then 1
 else if (decide (194≤a)&&decide (a<224)&&H0 n 1 b)=true then 2
 else if (decide (224≤a)&&decide (a<240)&&H0 n 1 b&&H0 n 2 c)=true then
  (if 2048≤a % 16*4096+b % 64*64+c % 64∧(a % 16*4096+b % 64*64+c % 64<55296∨57343<a % 16*4096+b % 64*64+c % 64) then 3 else 0)
 else if (decide (240≤a)&&decide (a<245)&&H0 n 1 b&&H0 n 2 c&&H0 n 3 d)=true then
  (if 65536≤a % 8*262144+b % 64*4096+c % 64*64+d % 64∧a % 8*262144+b % 64*4096+c % 64*64+d % 64≤1114111 then 4 else 0)
 else 0
theorem Q9x (n a b c d:Nat) (r:a<256) (t:b<256) (u:c<256) (s:d<256):
 Yk n a b c d=if (Lib.decodeN n a b c d).1=65533∧(Lib.decodeN n a b c d).2=1 then 0 else (Lib.decodeN n a b c d).2:=by
 have key: ∀v k:Nat,Lib.decodeN n a b c d=(v,k)→ ¬k=1→Yk n a b c d=k→Yk n a b c d=if (Lib.decodeN n a b c d).1=65533∧(Lib.decodeN n a b c d).2=1 then 0 else (Lib.decodeN n a b c d).2:=by
  intro v k h p o
  rw[h,o,if_neg (fun e=>p e.2)]
 have g:Lib.decodeN n a b c d=(65533,1)→Yk n a b c d=0→Yk n a b c d=if (Lib.decodeN n a b c d).1=65533∧(Lib.decodeN n a b c d).2=1 then 0 else (Lib.decodeN n a b c d).2:=by
  intro h o
  rw[h,o];simp
 by_cases f:a<128
 ·have h:Lib.decodeN n a b c d=(a,1):=by unfold Lib.decodeN;rw[if_pos f]
  rw[h,if_neg (by simp only;omega)]
  unfold Yk;rw[if_pos f]
 by_cases j:a / 32=6∧(1<n∧b / 64=2)
 ·by_cases i:a % 32*64+b % 64≥128
  ·refine key _ 2 (by unfold Lib.decodeN;rw[if_neg f,if_pos j,if_pos i]) (by decide) ?_
   unfold Yk H0
   simp only[Bool.and_eq_true,decide_eq_true_eq]
   rw[if_neg f,if_pos (by omega)]
  ·refine g (by unfold Lib.decodeN;rw[if_neg f,if_pos j,if_neg i]) ?_
   unfold Yk H0
   simp only[Bool.and_eq_true,decide_eq_true_eq]
   rw[if_neg f,if_neg (by omega),if_neg (by omega),if_neg (by omega)]
 by_cases l:a / 16=14∧(1<n∧b / 64=2)∧(2<n∧c / 64=2)
 ·by_cases i:2048≤a % 16*4096+b % 64*64+c % 64∧(a % 16*4096+b % 64*64+c % 64<55296∨57343<a % 16*4096+b % 64*64+c % 64)
  ·refine key _ 3 (by unfold Lib.decodeN;rw[if_neg f,if_neg j,if_pos l,if_pos (by omega)]) (by decide) ?_
   unfold Yk H0
   simp only[Bool.and_eq_true,decide_eq_true_eq]
   rw[if_neg f,if_neg (by omega),if_pos (by omega),if_pos i]
  ·refine g (by unfold Lib.decodeN;rw[if_neg f,if_neg j,if_pos l,if_neg (by omega)]) ?_
   unfold Yk H0
   simp only[Bool.and_eq_true,decide_eq_true_eq]
   rw[if_neg f,if_neg (by omega),if_pos (by omega),if_neg i]
 by_cases m:a / 8=30∧(1<n∧b / 64=2)∧(2<n∧c / 64=2)∧(3<n∧d / 64=2)
 ·by_cases i:65536≤a % 8*262144+b % 64*4096+c % 64*64+d % 64∧a % 8*262144+b % 64*4096+c % 64*64+d % 64≤1114111
  ·refine key _ 4 (by unfold Lib.decodeN;rw[if_neg f,if_neg j,if_neg l,if_pos m,if_pos (by omega)]) (by decide) ?_
   unfold Yk H0
   simp only[Bool.and_eq_true,decide_eq_true_eq]
   rw[if_neg f,if_neg (by omega),if_neg (by omega),if_pos (by omega),if_pos i]
  ·refine g (by unfold Lib.decodeN;rw[if_neg f,if_neg j,if_neg l,if_pos m,if_neg (by omega)]) ?_
   unfold Yk H0
   simp only[Bool.and_eq_true,decide_eq_true_eq]
   rw[if_neg f,if_neg (by omega),if_neg (by omega)]
   by_cases q:a<245
   ·rw[if_pos (by omega),if_neg i]
   ·rw[if_neg (by omega)]
 ·refine g (by unfold Lib.decodeN;rw[if_neg f,if_neg j,if_neg l,if_neg m]) ?_
  unfold Yk H0
  simp only[Bool.and_eq_true,decide_eq_true_eq]
  rw[if_neg f,if_neg (by omega),if_neg (by omega),if_neg (by omega)]
def X3 (l:X0) (i:Nat):Nat:=(l.getD i 0).toNat
theorem Qz (l:X0) (i:Nat):X3 l i<256:=(l.getD i 0).toNat_lt
def Yi (l:X0):Nat:=Yk l.length (X3 l 0) (X3 l 1) (X3 l 2) (X3 l 3)
theorem Q51 (l:X0):Yi l=if (Lib.decodeL l).1=65533∧(Lib.decodeL l).2=1 then 0 else (Lib.decodeL l).2:=by
 rw[Lib.decodeL_N]
 exact Q9x _ _ _ _ _ (Qz l 0) (Qz l 1) (Qz l 2) (Qz l 3)
theorem Q7G {l:X0} (a:l≠[]) (h:Yi l≠0):1≤Yi l∧Yi l≤l.length:=by
 have b:=Lib.decodeL_le l a
 have c:=Lib.decodeL_width l
 rw[Q51] at h⊢
 split at h
 ·exact absurd rfl h
 ·rw[if_neg (by assumption)];omega
theorem Q7p {f:Nat} {l:X0} (a:l≠[]):Lib.validGoD (f+1) l=if Yi l=0 then false else Lib.validGoD f (l.drop (Yi l)):=by
 have b:=Lib.decodeL_width l
 simp only[Lib.validGoD,if_neg a]
 rw[Q51]
 split
 ·rw[if_pos rfl]
 ·rw[if_neg (by omega)]
end Go.Hm
namespace Go.Emb
open Go.RowKit
theorem Q8B {P:Program} {w:World} {K:Value→World→Prop} {k:IntKind} {t:TypeId} {d b:Operand} {a c:Int} (f:0<c∧0≤a) (h:K (.int k (a % c)) w):Q3 P .rem t d b (.int k a) (.int k c) w K:=by
 have e:Q3 P .rem t d b (.int k a) (.int k c) w K=K (.int k (a.tmod c)) w:=X9 (by simp[eqGuard,Go.binOp,Op.intDiv];intro e;omega)
 rw[e,Int.tmod_eq_emod_of_nonneg f.2];exact h
end Go.Emb
namespace Go.Proofs.YtfppjenblllfaaaGreatDoor
open Go.Emb Go.RowKit Go.Kd Go.Hm
variable {w : World} {K : Value → World → Prop} {σ : Q4}
theorem Wu {a:X0} {i:Nat} (b:i<a.length) (h:K (.int .u8 (X3 a i)) w):E1 P T.b (S a) (I i) w K:=by
 rw[Qv X8 (by omega) (by simpa using b)]
 have:(a[(i:Int).toNat]'(by simpa using b)).toNat=X3 a i:=by
  unfold X3
  rw[List.getD_eq_getElem?_getD,List.getElem?_eq_getElem b];rfl
 rw[this];exact h
theorem Q2F {n:Int} (a:0≤n∧n<256) (h:K (I n) w):conv P T.y T.e (.int .u8 n) w K:=by
 rw[Q11 Q25 X2s,C4 (by omega) (by omega)];exact h
theorem Vr {a:X0} {i:Nat} (h:K (.bool (H0 a.length i (X3 a i))) w):Q1 P F.p [S a,I i] w K:=Bw (by
 unfold Lt
 unfold H0 at h
 simp only[↓M1,M1,Mb,reduceIte]
 by_cases b:i<a.length
 ·have d:decide ((i:Int)<a.length)=true:=by rw[decide_eq_true_eq];omega
  have c:decide (i<a.length)=true:=by simpa using b
  rw[c] at h
  simp only[d,↓M1,M1,Mb,reduceIte]
  refine Wu b ?_
  (try simp only[↓M1,M1,Mb,reduceIte])
  have g:decide ((128:Int)≤(X3 a i:Int))=decide (128≤X3 a i):=by rw[Bool.eq_iff_iff,decide_eq_true_eq,decide_eq_true_eq];omega
  have f:decide ((X3 a i:Int)<192)=decide (X3 a i<192):=by rw[Bool.eq_iff_iff,decide_eq_true_eq,decide_eq_true_eq];omega
  rw[g]
  cases e:decide (128≤X3 a i) with
  | true=>
   rw[e] at h
   simp only[↓M1,M1,Mb,reduceIte]
   refine Wu b ?_
   simp only[f,↓M1,M1,Mb,reduceIte]
   simpa using h
  | false=>
   rw[e] at h
   simp only[↓M1,M1,Mb,reduceIte]
   simpa using h
 ·have d:decide ((i:Int)<a.length)=false:=by rw[decide_eq_false_iff_not];omega
  have c:decide (i<a.length)=false:=by simpa using b
  rw[c] at h
  simp only[d,↓M1,M1,Mb,reduceIte]
  simpa using h)
def Zv (a:X0):Nat:=X3 a 0 % 16*4096+X3 a 1 % 64*64+X3 a 2 % 64
def Dz (a:X0):Nat:=X3 a 0 % 8*262144+X3 a 1 % 64*4096+X3 a 2 % 64*64+X3 a 3 % 64
theorem Q8g (a:X0):Yi a=if X3 a 0<128 then 1
 else if (decide (194≤X3 a 0)&&decide (X3 a 0<224)&&H0 a.length 1 (X3 a 1))=true then 2
 else if (decide (224≤X3 a 0)&&decide (X3 a 0<240)&&H0 a.length 1 (X3 a 1)&&H0 a.length 2 (X3 a 2))=true then
  (if 2048≤Zv a∧(Zv a<55296∨57343<Zv a) then 3 else 0)
 else if (decide (240≤X3 a 0)&&decide (X3 a 0<245)&&H0 a.length 1 (X3 a 1)&&H0 a.length 2 (X3 a 2)&&H0 a.length 3 (X3 a 3))=true then
  (if 65536≤Dz a∧Dz a≤1114111 then 4 else 0)
 else 0:=rfl
set_option maxHeartbeats 2000000 in
theorem Q9I {a:X0} (hne:a≠[]) (hs:X4 w σ) (h: ∀w',Below w.heap.size w w'→K (I (Yi a)) w'):Q1 P F.bs [S a] w K:=Kt (by
 unfold My
 have hl:0<a.length:=List.length_pos_iff.2 hne
 have b0:=Qz a 0
 have b1:=Qz a 1
 have b2:=Qz a 2
 have b3:=Qz a 3
 refine Wu (i:=0) hl ?_
 refine Q2F (by omega) ?_
 refine G6 (fun _ w'=>Below w.heap.size w w'∧Yi a=0) ?_ (fun _ d w' hx=>by
  have:=h w' hx.1
  rw[hx.2] at this
  exact this)
 have hK: ∀n w',Below w.heap.size w w'→Yi a=n→K (I n) w':=fun n w' hb e=>by rw[←e];exact h w' hb
 clear h
 have hcm:=Q8g a
 simp only[↓M1,M1,Mb,reduceIte]
 refine Q5 (fun h1=>?_) (fun h1=>?_)
 ·have:X3 a 0<128:=by have:=of_decide_eq_true h1;omega
  exact hK 1 _ (Below.refl _ _) (by rw[hcm,if_pos this])
 have c0: ¬X3 a 0<128:=by have:=of_decide_eq_false h1;omega
 rw[if_neg c0] at hcm
 by_cases c1:X3 a 0<194
 ·have i1:decide ((194:Int)≤X3 a 0)=false:=by rw[decide_eq_false_iff_not];omega
  have n1:decide (194≤X3 a 0)=false:=by rw[decide_eq_false_iff_not];omega
  have i2:decide ((X3 a 0:Int)<224)=true:=by rw[decide_eq_true_eq];omega
  have n2:decide (X3 a 0<224)=true:=by rw[decide_eq_true_eq];omega
  have i3:decide ((224:Int)≤X3 a 0)=false:=by rw[decide_eq_false_iff_not];omega
  have n3:decide (224≤X3 a 0)=false:=by rw[decide_eq_false_iff_not];omega
  have i4:decide ((X3 a 0:Int)<240)=true:=by rw[decide_eq_true_eq];omega
  have n4:decide (X3 a 0<240)=true:=by rw[decide_eq_true_eq];omega
  have i5:decide ((240:Int)≤X3 a 0)=false:=by rw[decide_eq_false_iff_not];omega
  have n5:decide (240≤X3 a 0)=false:=by rw[decide_eq_false_iff_not];omega
  have i6:decide ((X3 a 0:Int)<245)=true:=by rw[decide_eq_true_eq];omega
  have n6:decide (X3 a 0<245)=true:=by rw[decide_eq_true_eq];omega
  simp only[i1,i2,i3,i4,i5,i6,↓M1,M1,Mb,reduceIte]
  exact ⟨Below.refl _ _,by rw[hcm];simp only[n1,n2,n3,n4,n5,n6,Bool.and_true,Bool.true_and,Bool.false_and,Bool.and_false,Bool.false_eq_true,if_true,if_false,reduceIte]⟩
 by_cases c2:X3 a 0<224
 ·have i1:decide ((194:Int)≤X3 a 0)=true:=by rw[decide_eq_true_eq];omega
  have n1:decide (194≤X3 a 0)=true:=by rw[decide_eq_true_eq];omega
  have i2:decide ((X3 a 0:Int)<224)=true:=by rw[decide_eq_true_eq];omega
  have n2:decide (X3 a 0<224)=true:=by rw[decide_eq_true_eq];omega
  have i3:decide ((224:Int)≤X3 a 0)=false:=by rw[decide_eq_false_iff_not];omega
  have n3:decide (224≤X3 a 0)=false:=by rw[decide_eq_false_iff_not];omega
  have i4:decide ((X3 a 0:Int)<240)=true:=by rw[decide_eq_true_eq];omega
  have n4:decide (X3 a 0<240)=true:=by rw[decide_eq_true_eq];omega
  have i5:decide ((240:Int)≤X3 a 0)=false:=by rw[decide_eq_false_iff_not];omega
  have n5:decide (240≤X3 a 0)=false:=by rw[decide_eq_false_iff_not];omega
  have i6:decide ((X3 a 0:Int)<245)=true:=by rw[decide_eq_true_eq];omega
  have n6:decide (X3 a 0<245)=true:=by rw[decide_eq_true_eq];omega
  simp only[i1,i2,i3,i4,i5,i6,↓M1,M1,Mb,reduceIte]
  refine Vr (i:=1) ?_
  cases A1:H0 a.length 1 (X3 a 1) with
  | true=>simp only[↓M1,M1,Mb,reduceIte];exact hK 2 _ (Below.refl _ _) (by rw[hcm];simp only[A1,n1,n2,n3,n4,n5,n6,Bool.and_true,Bool.true_and,Bool.false_and,Bool.and_false,Bool.false_eq_true,if_true,if_false,reduceIte])
  | false=>simp only[↓M1,M1,Mb,reduceIte];exact ⟨Below.refl _ _,by rw[hcm];simp only[A1,n1,n2,n3,n4,n5,n6,Bool.and_true,Bool.true_and,Bool.false_and,Bool.and_false,Bool.false_eq_true,if_true,if_false,reduceIte]⟩
 by_cases c3:X3 a 0<240
 ·have i1:decide ((194:Int)≤X3 a 0)=true:=by rw[decide_eq_true_eq];omega
  have n1:decide (194≤X3 a 0)=true:=by rw[decide_eq_true_eq];omega
  have i2:decide ((X3 a 0:Int)<224)=false:=by rw[decide_eq_false_iff_not];omega
  have n2:decide (X3 a 0<224)=false:=by rw[decide_eq_false_iff_not];omega
  have i3:decide ((224:Int)≤X3 a 0)=true:=by rw[decide_eq_true_eq];omega
  have n3:decide (224≤X3 a 0)=true:=by rw[decide_eq_true_eq];omega
  have i4:decide ((X3 a 0:Int)<240)=true:=by rw[decide_eq_true_eq];omega
  have n4:decide (X3 a 0<240)=true:=by rw[decide_eq_true_eq];omega
  have i5:decide ((240:Int)≤X3 a 0)=false:=by rw[decide_eq_false_iff_not];omega
  have n5:decide (240≤X3 a 0)=false:=by rw[decide_eq_false_iff_not];omega
  have i6:decide ((X3 a 0:Int)<245)=true:=by rw[decide_eq_true_eq];omega
  have n6:decide (X3 a 0<245)=true:=by rw[decide_eq_true_eq];omega
  simp only[i1,i2,i3,i4,i5,i6,↓M1,M1,Mb,reduceIte]
  refine Vr (i:=1) ?_
  cases A1:H0 a.length 1 (X3 a 1) with
  | false=>simp only[↓M1,M1,Mb,reduceIte];exact ⟨Below.refl _ _,by rw[hcm];simp only[A1,n1,n2,n3,n4,n5,n6,Bool.and_true,Bool.true_and,Bool.false_and,Bool.and_false,Bool.false_eq_true,if_true,if_false,reduceIte]⟩
  | true=>
  simp only[↓M1,M1,Mb,reduceIte]
  refine Vr (i:=2) ?_
  cases A2:H0 a.length 2 (X3 a 2) with
  | false=>simp only[↓M1,M1,Mb,reduceIte];exact ⟨Below.refl _ _,by rw[hcm];simp only[A1,A2,n1,n2,n3,n4,n5,n6,Bool.and_true,Bool.true_and,Bool.false_and,Bool.and_false,Bool.false_eq_true,if_true,if_false,reduceIte]⟩
  | true=>
  simp only[↓M1,M1,Mb,reduceIte]
  simp only[A1,A2,n1,n2,n3,n4,n5,n6,Bool.and_true,Bool.true_and,Bool.false_and,Bool.and_false,Bool.false_eq_true,if_true,if_false,reduceIte] at hcm
  have hl1:1<a.length:=by unfold H0 at A1;simp only[Bool.and_eq_true,decide_eq_true_eq] at A1;exact A1.1.1
  have hl2:2<a.length:=by unfold H0 at A2;simp only[Bool.and_eq_true,decide_eq_true_eq] at A2;exact A2.1.1
  have hw:IntKind.i64.wrap (IntKind.i64.wrap (IntKind.i64.wrap ((X3 a 0:Int) % 16*4096)+IntKind.i64.wrap ((X3 a 1:Int) % 64*64))+(X3 a 2:Int) % 64)=((Zv a:Nat):Int):=by
   rw[C4 (n:=(X3 a 0:Int) % 16*4096) (by omega) (by omega),C4 (n:=(X3 a 1:Int) % 64*64) (by omega) (by omega),C4 (n:=_+(X3 a 1:Int) % 64*64) (by omega) (by omega),C4 (by omega) (by omega)]
   unfold Zv;omega
  refine V3 hs ?_
  have hx1: ∀{w':World} {K:Value→World→Prop},K (.int .u8 (X3 a 1)) w'→E1 P T.b (S a) (.int .i64 1) w' K:=fun hK=>Wu (i:=1) hl1 hK
  have hx2: ∀{w':World} {K:Value→World→Prop},K (.int .u8 (X3 a 2)) w'→E1 P T.b (S a) (.int .i64 2) w' K:=fun hK=>Wu (i:=2) hl2 hK
  (repeat (apply U6;(· intros;(repeat (rename_i hx;subst hx));(repeat' (first | (with_reducible exact N4 rfl) | (with_reducible exact Zw (Stp.bel (by (repeat (first | exact Stp.refl (by (first | assumption | exact Stp.sat (by assumption) | exact Hst.sat (by assumption))) | assumption | refine Stp.trans ?_ (by first | assumption | exact Hst.stp (by assumption)))))) rfl) | (with_reducible intro _) | (simp only[↓M2,M2,Mb,reduceIte]) | (with_reducible refine Q8B au ?_) | (with_reducible refine Q2F au ?_) | (with_reducible refine hx1 ?_) | (with_reducible refine hx2 ?_) | (with_reducible show Q2 _ _ _ _ _;first | refine X7 aS aL aR ?_ | refine Z1 aS aL aR ?_ | refine ld aS aL aR ?_) | (with_reducible show indexAddr _ _ _ _ _ _;refine U2 aL au ?_) | (with_reducible show X5 _ _ _ _ _ _ _ _;refine Q8 aL ?_) | (with_reducible show We _ _ _ _ _ _;refine V4 aR ?_) | (with_reducible show pick _ _ _ _ _ _;refine Jw ?_) | (apply Vz;intro hh;(try simp only[hh,reduceIte,↓M2,M2,Mb,reduceIte]))));done)))
  (intros;(repeat (rename_i hx;subst hx));(try simp only[↓M2,M2,Mb,reduceIte]))
  rename_i w2 hb2
  simp only[hw]
  have hb:=hb2.stp.bel
  by_cases e1:2048≤Zv a
  ·by_cases e2:Zv a<55296
   ·simp only[(show decide ((2048:Int)≤(Zv a:Int))=true by rw[decide_eq_true_eq];omega),(show decide ((Zv a:Int)<55296)=true by rw[decide_eq_true_eq];omega),↓M1,M1,Mb,reduceIte]
    exact hK 3 _ hb (by rw[hcm,if_pos ⟨e1, .inl e2⟩])
   ·by_cases e3:57343<Zv a
    ·simp only[(show decide ((2048:Int)≤(Zv a:Int))=true by rw[decide_eq_true_eq];omega),(show decide ((Zv a:Int)<55296)=false by rw[decide_eq_false_iff_not];omega),(show decide ((57343:Int)<(Zv a:Int))=true by rw[decide_eq_true_eq];omega),↓M1,M1,Mb,reduceIte]
     exact hK 3 _ hb (by rw[hcm,if_pos ⟨e1, .inr e3⟩])
    ·simp only[(show decide ((2048:Int)≤(Zv a:Int))=true by rw[decide_eq_true_eq];omega),(show decide ((Zv a:Int)<55296)=false by rw[decide_eq_false_iff_not];omega),(show decide ((57343:Int)<(Zv a:Int))=false by rw[decide_eq_false_iff_not];omega),↓M1,M1,Mb,reduceIte]
     exact ⟨hb,by rw[hcm,if_neg (by omega)]⟩
  ·simp only[(show decide ((2048:Int)≤(Zv a:Int))=false by rw[decide_eq_false_iff_not];omega),↓M1,M1,Mb,reduceIte]
   exact ⟨hb,by rw[hcm,if_neg (by omega)]⟩
 by_cases c4:X3 a 0<245
 ·have i1:decide ((194:Int)≤X3 a 0)=true:=by rw[decide_eq_true_eq];omega
  have n1:decide (194≤X3 a 0)=true:=by rw[decide_eq_true_eq];omega
  have i2:decide ((X3 a 0:Int)<224)=false:=by rw[decide_eq_false_iff_not];omega
  have n2:decide (X3 a 0<224)=false:=by rw[decide_eq_false_iff_not];omega
  have i3:decide ((224:Int)≤X3 a 0)=true:=by rw[decide_eq_true_eq];omega
  have n3:decide (224≤X3 a 0)=true:=by rw[decide_eq_true_eq];omega
  have i4:decide ((X3 a 0:Int)<240)=false:=by rw[decide_eq_false_iff_not];omega
  have n4:decide (X3 a 0<240)=false:=by rw[decide_eq_false_iff_not];omega
  have i5:decide ((240:Int)≤X3 a 0)=true:=by rw[decide_eq_true_eq];omega
  have n5:decide (240≤X3 a 0)=true:=by rw[decide_eq_true_eq];omega
  have i6:decide ((X3 a 0:Int)<245)=true:=by rw[decide_eq_true_eq];omega
  have n6:decide (X3 a 0<245)=true:=by rw[decide_eq_true_eq];omega
  simp only[i1,i2,i3,i4,i5,i6,↓M1,M1,Mb,reduceIte]
  refine Vr (i:=1) ?_
  cases A1:H0 a.length 1 (X3 a 1) with
  | false=>simp only[↓M1,M1,Mb,reduceIte];exact ⟨Below.refl _ _,by rw[hcm];simp only[A1,n1,n2,n3,n4,n5,n6,Bool.and_true,Bool.true_and,Bool.false_and,Bool.and_false,Bool.false_eq_true,if_true,if_false,reduceIte]⟩
  | true=>
  simp only[↓M1,M1,Mb,reduceIte]
  refine Vr (i:=2) ?_
  cases A2:H0 a.length 2 (X3 a 2) with
  | false=>simp only[↓M1,M1,Mb,reduceIte];exact ⟨Below.refl _ _,by rw[hcm];simp only[A1,A2,n1,n2,n3,n4,n5,n6,Bool.and_true,Bool.true_and,Bool.false_and,Bool.and_false,Bool.false_eq_true,if_true,if_false,reduceIte]⟩
  | true=>
  simp only[↓M1,M1,Mb,reduceIte]
  refine Vr (i:=3) ?_
  cases A3:H0 a.length 3 (X3 a 3) with
  | false=>simp only[↓M1,M1,Mb,reduceIte];exact ⟨Below.refl _ _,by rw[hcm];simp only[A1,A2,A3,n1,n2,n3,n4,n5,n6,Bool.and_true,Bool.true_and,Bool.false_and,Bool.and_false,Bool.false_eq_true,if_true,if_false,reduceIte]⟩
  | true=>
  simp only[↓M1,M1,Mb,reduceIte]
  simp only[A1,A2,A3,n1,n2,n3,n4,n5,n6,Bool.and_true,Bool.true_and,Bool.false_and,Bool.and_false,Bool.false_eq_true,if_true,if_false,reduceIte] at hcm
  have hl1:1<a.length:=by unfold H0 at A1;simp only[Bool.and_eq_true,decide_eq_true_eq] at A1;exact A1.1.1
  have hl2:2<a.length:=by unfold H0 at A2;simp only[Bool.and_eq_true,decide_eq_true_eq] at A2;exact A2.1.1
  have hl3:3<a.length:=by unfold H0 at A3;simp only[Bool.and_eq_true,decide_eq_true_eq] at A3;exact A3.1.1
  have hw:IntKind.i64.wrap (IntKind.i64.wrap (IntKind.i64.wrap (IntKind.i64.wrap ((X3 a 0:Int) % 8*262144)+IntKind.i64.wrap ((X3 a 1:Int) % 64*4096))+IntKind.i64.wrap ((X3 a 2:Int) % 64*64))+(X3 a 3:Int) % 64)=((Dz a:Nat):Int):=by
   rw[C4 (n:=(X3 a 0:Int) % 8*262144) (by omega) (by omega),C4 (n:=(X3 a 1:Int) % 64*4096) (by omega) (by omega),C4 (n:=(X3 a 2:Int) % 64*64) (by omega) (by omega),C4 (n:=_+(X3 a 1:Int) % 64*4096) (by omega) (by omega),C4 (n:=_+(X3 a 2:Int) % 64*64) (by omega) (by omega),C4 (by omega) (by omega)]
   unfold Dz;omega
  refine V3 hs ?_
  have hx1: ∀{w':World} {K:Value→World→Prop},K (.int .u8 (X3 a 1)) w'→E1 P T.b (S a) (.int .i64 1) w' K:=fun hK=>Wu (i:=1) hl1 hK
  have hx2: ∀{w':World} {K:Value→World→Prop},K (.int .u8 (X3 a 2)) w'→E1 P T.b (S a) (.int .i64 2) w' K:=fun hK=>Wu (i:=2) hl2 hK
  have hx3: ∀{w':World} {K:Value→World→Prop},K (.int .u8 (X3 a 3)) w'→E1 P T.b (S a) (.int .i64 3) w' K:=fun hK=>Wu (i:=3) hl3 hK
  (repeat (apply U6;(· intros;(repeat (rename_i hx;subst hx));(repeat' (first | (with_reducible exact N4 rfl) | (with_reducible exact Zw (Stp.bel (by (repeat (first | exact Stp.refl (by (first | assumption | exact Stp.sat (by assumption) | exact Hst.sat (by assumption))) | assumption | refine Stp.trans ?_ (by first | assumption | exact Hst.stp (by assumption)))))) rfl) | (with_reducible intro _) | (simp only[↓M2,M2,Mb,reduceIte]) | (with_reducible refine Q8B au ?_) | (with_reducible refine Q2F au ?_) | (with_reducible refine hx1 ?_) | (with_reducible refine hx2 ?_) | (with_reducible refine hx3 ?_) | (with_reducible show Q2 _ _ _ _ _;first | refine X7 aS aL aR ?_ | refine Z1 aS aL aR ?_ | refine ld aS aL aR ?_) | (with_reducible show indexAddr _ _ _ _ _ _;refine U2 aL au ?_) | (with_reducible show X5 _ _ _ _ _ _ _ _;refine Q8 aL ?_) | (with_reducible show We _ _ _ _ _ _;refine V4 aR ?_) | (with_reducible show pick _ _ _ _ _ _;refine Jw ?_) | (apply Vz;intro hh;(try simp only[hh,reduceIte,↓M2,M2,Mb,reduceIte]))));done)))
  (intros;(repeat (rename_i hx;subst hx));(try simp only[↓M2,M2,Mb,reduceIte]))
  rename_i w2 hb2
  simp only[hw]
  have hb:=hb2.stp.bel
  by_cases e1:65536≤Dz a
  ·by_cases e2:Dz a≤1114111
   ·simp only[(show decide ((65536:Int)≤(Dz a:Int))=true by rw[decide_eq_true_eq];omega),(show decide ((Dz a:Int)≤1114111)=true by rw[decide_eq_true_eq];omega),↓M1,M1,Mb,reduceIte]
    exact hK 4 _ hb (by rw[hcm,if_pos ⟨e1,e2⟩])
   ·simp only[(show decide ((65536:Int)≤(Dz a:Int))=true by rw[decide_eq_true_eq];omega),(show decide ((Dz a:Int)≤1114111)=false by rw[decide_eq_false_iff_not];omega),↓M1,M1,Mb,reduceIte]
    exact ⟨hb,by rw[hcm,if_neg (by omega)]⟩
  ·simp only[(show decide ((65536:Int)≤(Dz a:Int))=false by rw[decide_eq_false_iff_not];omega),↓M1,M1,Mb,reduceIte]
   exact ⟨hb,by rw[hcm,if_neg (by omega)]⟩
 have i1:decide ((194:Int)≤X3 a 0)=true:=by rw[decide_eq_true_eq];omega
 have n1:decide (194≤X3 a 0)=true:=by rw[decide_eq_true_eq];omega
 have i2:decide ((X3 a 0:Int)<224)=false:=by rw[decide_eq_false_iff_not];omega
 have n2:decide (X3 a 0<224)=false:=by rw[decide_eq_false_iff_not];omega
 have i3:decide ((224:Int)≤X3 a 0)=true:=by rw[decide_eq_true_eq];omega
 have n3:decide (224≤X3 a 0)=true:=by rw[decide_eq_true_eq];omega
 have i4:decide ((X3 a 0:Int)<240)=false:=by rw[decide_eq_false_iff_not];omega
 have n4:decide (X3 a 0<240)=false:=by rw[decide_eq_false_iff_not];omega
 have i5:decide ((240:Int)≤X3 a 0)=true:=by rw[decide_eq_true_eq];omega
 have n5:decide (240≤X3 a 0)=true:=by rw[decide_eq_true_eq];omega
 have i6:decide ((X3 a 0:Int)<245)=false:=by rw[decide_eq_false_iff_not];omega
 have n6:decide (X3 a 0<245)=false:=by rw[decide_eq_false_iff_not];omega
 simp only[i1,i2,i3,i4,i5,i6,↓M1,M1,Mb,reduceIte]
 exact ⟨Below.refl _ _,by rw[hcm];simp only[n1,n2,n3,n4,n5,n6,Bool.and_true,Bool.true_and,Bool.false_and,Bool.and_false,Bool.false_eq_true,if_true,if_false,reduceIte]⟩)
theorem Q8s {s:X0} (p:s.length≤J0) (t:X4 w σ) (h: ∀w',Below w.heap.size w w'→K (.bool (Lib.validD s)) w'):Q1 P F.bg [S s] w K:=Gl (by
 unfold Lb
 refine Gk (fun f x w'=> ∃r,x=S r∧r.length≤f∧r.length≤J0∧Below w.heap.size w w'∧Lib.validD s=Lib.validGoD f r) s.length ⟨s,rfl,Nat.le_refl _,p,Below.refl _ _,rfl⟩ ?_
 rintro k f x d w1 ⟨r,rfl,u,q,b,i⟩ n
 refine Lu ?_
 by_cases a:r=[]
 ·have e:decide (r=[])=true:=by simpa using a
  simp only[e,↓M1,M1,Mb,reduceIte]
  subst a
  have:Lib.validGoD f []=true:=by cases f<;>simp[Lib.validGoD]
  rw[i,this] at h
  exact h _ b
 ·have e:decide (r=[])=false:=by simpa using a
  simp only[e,↓M1,M1,Mb,reduceIte]
  have o:0<r.length:=List.length_pos_iff.2 a
  obtain ⟨f,rfl⟩: ∃g,f=g+1:=⟨f-1,by omega⟩
  rw[Q7p a] at i
  refine Q9I a (t.below b) fun z j=>?_
  have c:=b.trans (j.mono b.size)
  refine Sc ?_
  by_cases l:Yi r=0
  ·have m:decide ((Yi r:Int)=0)=true:=by rw[decide_eq_true_eq];omega
   simp only[m,↓M1,M1,Mb,reduceIte]
   rw[i,if_pos l] at h
   exact h _ c
  ·have m:decide ((Yi r:Int)=0)=false:=by rw[decide_eq_false_iff_not];omega
   simp only[m,↓M1,M1,Mb,reduceIte]
   obtain ⟨v,y⟩:=Q7G a l
   rw[Ln X8 (by omega) (by omega)]
   rw[if_neg l] at i
   refine n f _ _ (by omega) ⟨r.drop (Yi r),by simp,by rw[List.length_drop];omega,by rw[List.length_drop];omega,c,i⟩)
end Go.Proofs.YtfppjenblllfaaaGreatDoor

namespace Go.Proofs.YtfppjenblllfaaaGreatDoor
open Go.Emb Go.RowKit Go.Kd Go.Hm
variable {w : World} {K : Value → World → Prop} {σ : Q4}
theorem Q4Z {σ:Q4}: ∀(xs:List X0),(∀x∈xs,x.length≤J0)→Ay Y1 σ (xs.map S) xs
 | [],_=>trivial
 | x::r,h=>⟨⟨rfl,h x (by simp)⟩,Q4Z r fun y a=>h y (by simp[a])⟩
def Jd:List X0:=Zh.map (·.name)
set_option maxRecDepth 100000 in
theorem X12 (d:X4 w σ) (h: ∀v w' a,Stp w σ w' a→Sl 1 Y1 a v Jd→K v w'):Q1 P F.bu [] w K:=Aw (by
 unfold Ol
 exact N5 (R:=Y1) (sz:=1) d (Jd.map S) Jd rfl rfl (by intro v b;obtain ⟨x,_,rfl⟩:=List.mem_map.1 b;rfl) rfl (Q4Z _ (by decide)) fun v w' a c b=>h v w' a c b)
theorem Q6J {a:X0} (A:X4 w σ) (h: ∀w' y,Stp w σ w' y→K (I (W8 (K3 a))) w'):Q1 P F.aV [S a] w K:=Bd (by
 unfold Vo
 refine X12 A fun v w1 σ1 l p=>?_
 have r:K3 a=Jd.findIdx? fun x=>decide (x=a):=by
  unfold K3 Jd
  rw[List.findIdx?_map];rfl
 have q: ∀o,K3 a=o→K (I (W8 o)) w1:=fun o e=>by rw[←e];exact h _ _ l
 rw[r] at q
 have n:Jd.length=42:=rfl
 generalize Jd=f at p q n
 refine J4 f.length (fun k w'=>w'=w1∧ ∀j (i:j<f.length),j<k→ ¬f[j]=a) ⟨rfl,fun j _ h=>by omega⟩ fun k D d E C=>?_
 obtain ⟨u,c⟩:=C
 subst u
 refine Q8 p ?_
 refine Y8 ?_
 refine Q5 (fun s=>?_) (fun s=>?_)
 ·have b:k<f.length:=by simpa using s
  refine U2 p b ?_
  obtain ⟨t,_⟩:=p.elS b
  refine X7 l.sat t rfl ?_
  refine F9 ?_
  refine Q5 (fun g=>?_) (fun g=>?_)
  ·have g:f[k]=a:=by simpa using g
   exact q (some k) (by
    rw[List.findIdx?_eq_some_iff_getElem]
    exact ⟨b,by simpa using g,fun j i=>by simpa using c j (by omega) i⟩)
  ·have g: ¬f[k]=a:=by simpa using g
   (try simp only[↓M1,M1,Mb,reduceIte])
   refine Y3 p.max b ⟨rfl,fun j i B=>?_⟩
   by_cases e:j=k
   ·subst e;exact g
   ·exact c j i (by omega)
 ·have b: ¬k<f.length:=by simpa using s
  exact q none (by
   rw[List.findIdx?_eq_none_iff]
   intro m z
   obtain ⟨j,i,rfl⟩:=List.getElem_of_mem z
   simpa using c j i (by omega)))
theorem X1d {o:Option Nat}:decide (W8 o<0)= !o.isSome:=by
 cases o with
 | none=>rfl
 | some i=>
  have: ¬(i:Int)<0:=by omega
  exact decide_eq_false this
def Vx (a:X0):Bool:=decide (a=[105,110,116])||decide (a=[108,111,97,100])||decide (a=[115,116,111,114,101])||decide (a=[106,117,109,112])||decide (a=[98,114,97,110,99,104])
def Uq (a:X0):Bool:=decide (a=[119,111,114,100])||decide (a=[110,101,119])||decide (a=[103,101,116])||decide (a=[112,117,116])||decide (a=[99,97,108,108])||decide (a=[97,114,114,97,121])||decide (a=[105,115])||decide (a=[99,97,115,116])
theorem Q8T (a:X0):takes a=(Vx a,Uq a,(K3 a).isSome):=by
 unfold takes
 cases g:K3 a with
 | none=>
  have c:=List.findIdx?_eq_none_iff.1 g
  have d: ∀x∈Jd,¬x=a:=by
   intro x f
   obtain ⟨o,l,rfl⟩:=List.mem_map.1 f
   have:=c o l
   simpa using this
  have b: ∀x∈Jd,decide (a=x)=false:=fun x f=>by rw[decide_eq_false_iff_not];exact fun e=>d x f e.symm
  have n:Vx a=false:=by
   unfold Vx
   rw[b _ (by decide),b _ (by decide),b _ (by decide),b _ (by decide),b _ (by decide)];rfl
  have r:Uq a=false:=by
   unfold Uq
   rw[b _ (by decide),b _ (by decide),b _ (by decide),b _ (by decide),b _ (by decide),b _ (by decide),b _ (by decide),b _ (by decide)];rfl
  simp[n,r]
 | some i=>
  obtain ⟨h,k,_⟩:=List.findIdx?_eq_some_iff_getElem.1 g
  have m:Zh[i].name=a:=by simpa using k
  have j:Zh.getD i ⟨[],false,false⟩=Zh[i]:=by rw[List.getD_eq_getElem?_getD,List.getElem?_eq_getElem h];rfl
  have c: ∀o∈Zh,o.number=Vx o.name∧o.text=Uq o.name:=by decide
  obtain ⟨p,q⟩:=c _ (List.getElem_mem h)
  simp only[j,Option.isSome_some]
  rw[p,q,m]
def Nz (a:X0):Int:=if Vx a then 1 else if Uq a then 2 else if (K3 a).isSome then 0 else-1
theorem Q8J {a:X0} (g:X4 w σ) (h: ∀w' l,Stp w σ w' l→K (I (Nz a)) w'):Q1 P F.b3 [S a] w K:=Fz (by
 unfold Lr
 refine G6 (fun x w'=>w'=w∧x= .bool (Vx a)) ?_ (fun x d w' c=>?_)
 ·unfold Vx
  simp only[↓M1,M1,Mb,reduceIte]
  repeat' (refine Q5 (fun hh=>?_) (fun hh=>?_))
  all_goals (refine ⟨by trivial,?_⟩;congr 1;simp_all)
 ·obtain ⟨rfl,rfl⟩:=c
  cases e:Vx a with
  | true=>
   (try simp only[↓M1,M1,Mb,reduceIte])
   have:=h _ _ (Stp.refl g)
   unfold Nz at this
   simpa [e] using this
  | false=>
   (try simp only[↓M1,M1,Mb,reduceIte])
   refine G6 (fun x b=>b=w'∧x= .bool (Uq a)) ?_ (fun x d b c=>?_)
   ·unfold Uq
    simp only[↓M1,M1,Mb,reduceIte]
    repeat' (refine Q5 (fun hh=>?_) (fun hh=>?_))
    all_goals (refine ⟨by trivial,?_⟩;congr 1;simp_all)
   ·obtain ⟨rfl,rfl⟩:=c
    cases k:Uq a with
    | true=>
     (try simp only[↓M1,M1,Mb,reduceIte])
     have:=h _ _ (Stp.refl g)
     unfold Nz at this
     simpa [e,k] using this
    | false=>
     (try simp only[↓M1,M1,Mb,reduceIte])
     refine Q6J g fun w1 σ1 f=>?_
     have:=h _ _ f
     unfold Nz at this
     simp only[e,k,Bool.false_eq_true,if_false] at this
     simp only[X1d,↓M1,M1,Mb,reduceIte]
     cases j:K3 a with
     | none=>rw[j] at this;simp only[Option.isSome_none,↓M1,M1,Mb,reduceIte];simpa using this
     | some i=>rw[j] at this;simp only[Option.isSome_some,↓M1,M1,Mb,reduceIte];simpa using this)
theorem Q4B (a:X0):decide (Nz a<0)= !(takes a).2.2∧decide (Nz a=1)=(takes a).1∧decide (Nz a=2)=(takes a).2.1:=by
 rw[Q8T]
 have c:Vx a=true→Uq a=false∧(K3 a).isSome=true:=by
  intro h
  unfold Vx at h
  simp only[Bool.or_eq_true,decide_eq_true_eq] at h
  rcases h with (((h | h) | h) | h) | h<;>(subst h;decide)
 have e:Uq a=true→(K3 a).isSome=true:=by
  intro h
  unfold Uq at h
  simp only[Bool.or_eq_true,decide_eq_true_eq] at h
  rcases h with ((((((h | h) | h) | h) | h) | h) | h) | h<;>(subst h;decide)
 unfold Nz
 cases g:Vx a with
 | true=>obtain ⟨d,b⟩:=c g;rw[d,b];decide
 | false=>
  cases f:Uq a with
  | true=>rw[e f];decide
  | false=>cases (K3 a).isSome<;>decide
theorem X2A (s:X0) (c:UInt8):decide (0≤Lib.indexByte s c)=s.any fun b=>decide (b=c):=by
 induction s with
 | nil=>rfl
 | cons b r f=>
  simp only[Lib.indexByte,List.any_cons,←f]
  by_cases e:b=c
  ·simp[e]
  ·have a:(b==c)=false:=by simpa using e
   have g:=Lib.indexByte_ge r c
   simp only[a,e,decide_false,Bool.false_or,Bool.false_eq_true,if_false]
   by_cases d:Lib.indexByte r c= -1
   ·simp[d]
   ·have:(Lib.indexByte r c== -1)=false:=by simpa using d
    simp only[this,Bool.false_eq_true,if_false]
    rw[Bool.eq_iff_iff,decide_eq_true_eq,decide_eq_true_eq];omega
def JB (w:World) (σ:Q4) (b:Bool) (x:Value) (w':World):Prop:= ∃a,Stp w σ w' a∧x= .bool b
theorem JB.mk {w w':World} {σ a:Q4} {b:Bool} (h:Stp w σ w' a):JB w σ b (.bool b) w':=⟨a,h,rfl⟩
theorem JB.of {w w':World} {σ a:Q4} {b c:Bool} (h:Stp w σ w' a) (e:c=b):JB w σ b (.bool c) w':=⟨a,h,by rw[e]⟩
theorem X1D {s:X0} {n:Nat} (h:n<s.length):decide ((X3 s n:Int)=10)=decide (s[n]=10):=by
 unfold X3
 rw[List.getD_eq_getElem?_getD,List.getElem?_eq_getElem h,Bool.eq_iff_iff,decide_eq_true_eq,decide_eq_true_eq]
 simp only[Option.getD_some]
 rw[←UInt8.toNat_inj]
 constructor
 ·intro e;have:s[n].toNat=10:=by omega
  rw[this];rfl
 ·intro e;rw[e];rfl
theorem Jh {α:Type} {xs:List α} {p:α→Bool} {n:Nat} (h:n<xs.length):(xs.take (n+1)).all p=((xs.take n).all p&&p xs[n]):=by
 rw[List.take_add_one,List.getElem?_eq_getElem h,List.all_append];simp
set_option maxHeartbeats 2000000 in
theorem Q6x {i:Ins} {cs:List Value} (hs:X4 w σ) (hi:C9 σ i cs) (h: ∀w' m,Stp w σ w' m→K (I (N3 i)) w'):Q1 P F.bf [.agg cs.toArray] w K:=Fp (by
 obtain ⟨rfl,h1,h2,h3⟩:=hi
 unfold Wh
 refine Z0 hs fun q w1 σ1 O hq=>?_
 have R:=O.sat
 (try simp only[↓M1,M1,Mb,reduceIte])
 refine ld R hq rfl ?_
 refine Q8J R fun Z σ2 U=>?_
 obtain ⟨t1,X,H⟩:=Q4B i.op
 have f:=O.trans U
 have g:=hq.up U
 have e:=f.sat
 have r:i.s.length≤140737488355328:=by simp only[J0] at h3;omega
 simp only[t1,↓M1,M1,Mb,reduceIte]
 unfold N3 at h
 cases e1:(takes i.op).2.2 with
 | false=>
  simp only[e1,Bool.not_false,if_true] at h
  (try simp only[↓M1,M1,Mb,reduceIte])
  exact h _ _ f
 | true=>
 simp only[e1,Bool.not_true,Bool.false_eq_true,if_false] at h
 simp only[X,H,↓M1,M1,Mb,reduceIte]
 have k: ∀(b:Bool) (w':World) (m:Q4),Stp w σ w' m→b=(!((!(takes i.op).1&&decide (i.n≠0))||(!(takes i.op).2.1&&decide (i.s≠[]))||((takes i.op).2.1&& !txt i.op i.s)))→
  X1 (.bool (!b)) (K (.int .i64 41) w') (K (.int .i64 0) w'):=by
  intro b w' m u B
  subst B
  rw[Bool.not_not]
  cases B:((!(takes i.op).1&&decide (i.n≠0))||(!(takes i.op).2.1&&decide (i.s≠[]))||((takes i.op).2.1&& !txt i.op i.s)) with
  | true=>simp only[B,if_true] at h;(try simp only[↓M1,M1,Mb,reduceIte]);exact h _ _ u
  | false=>simp only[B,Bool.false_eq_true,if_false] at h;(try simp only[↓M1,M1,Mb,reduceIte]);exact h _ _ u
 clear h
 have ab:(takes i.op).2.1=true→(takes i.op).1=false:=by
  intro Q
  rw[←X,decide_eq_false_iff_not]
  rw[←H,decide_eq_true_eq] at Q
  omega
 cases D:(takes i.op).2.1 with
 | false=>
  rw[D] at k H
  cases y:(takes i.op).1 with
  | true=>
   rw[y] at k X
   (try simp only[↓M1,M1,Mb,reduceIte])
   simp only[H,↓M1,M1,Mb,reduceIte]
   refine ld e g rfl ?_
   (try simp only[↓M1,M1,Mb,reduceIte])
   refine V9 ?_
   intro d
   simp only[↓M1,M1,Mb,reduceIte]
   exact k _ _ _ f (by simp)
  | false=>
   rw[y] at k X
   (try simp only[↓M1,M1,Mb,reduceIte])
   refine ld e g rfl ?_
   (try simp only[↓M1,M1,Mb,reduceIte])
   by_cases N:i.n=0
   ·have d0:decide (i.n=0)=true:=by simpa using N
    simp only[d0,H,↓M1,M1,Mb,reduceIte]
    refine ld e g rfl ?_
    (try simp only[↓M1,M1,Mb,reduceIte])
    refine V9 ?_
    intro d
    simp only[↓M1,M1,Mb,reduceIte]
    exact k _ _ _ f (by simp[N])
   ·have d0:decide (i.n=0)=false:=by simpa using N
    simp only[d0,↓M1,M1,Mb,reduceIte]
    refine V9 ?_
    intro d
    have E:=k false _ _ f (by simp[N])
    (try simp only[↓M1,M1,Mb,reduceIte] at E⊢)
    exact E
 | true=>
  have y:=ab D
  rw[D,y] at k
  rw[D] at H
  rw[y] at X⊢
  (try simp only[↓M1,M1,Mb,reduceIte])
  refine ld e g rfl ?_
  (try simp only[↓M1,M1,Mb,reduceIte])
  have o: ∀(b c:Bool) (w':World) (m:Q4),decide (i.n=0)=b→Stp w σ w' m→c=(b&&txt i.op i.s)→X1 (.bool (!c)) (K (.int .i64 41) w') (K (.int .i64 0) w'):=by
   intro b c w' m B u p
   refine k c w' m u ?_
   rw[p,←B]
   by_cases N:i.n=0<;>simp[N]
  clear k
  cases B:decide (i.n=0) with
  | false=>
   have v:=fun w' m u=>o false false w' m B u rfl
   clear o
   simp only[H,↓M1,M1,Mb,reduceIte]
   refine G6 (JB w σ false) ?_ (fun x d w' Q=>?_)
   ·refine ld e g rfl ?_
    (try simp only[↓M1,M1,Mb,reduceIte])
    refine Q5 (fun hh=>?_) (fun hh=>?_)
    ·refine D5 (a:=Value.bool false) i.s.length (fun n x w'=>w'=Z∧x=Value.bool false) ⟨rfl,rfl⟩ fun n x w3 d hn l=>?_
     obtain ⟨C,rfl⟩:=l
     subst C
     (try simp only[↓M1,M1,Mb,reduceIte])
     refine ld e g rfl ?_
     (try simp only[↓M1,M1,Mb,reduceIte])
     refine Q5 (fun p=>?_) (fun p=>?_)
     ·have j:n<i.s.length:=by simpa using p
      (try simp only[↓M1,M1,Mb,reduceIte])
      exact Z6 (by omega) j ⟨rfl,rfl⟩
     ·exact .mk f
    refine Q5 (fun hh=>?_) (fun hh=>?_)
    ·exact .mk f
    refine G6 (fun x w'=>w'=Z∧ ∃b:Bool,x=Value.bool b) ?_ (fun z d w' hz=>?_)
    ·refine Q5 (fun hh=>?_) (fun hh=>?_)
     ·exact ⟨rfl,_,rfl⟩
     ·exact ⟨rfl,_,rfl⟩
    obtain ⟨C,b,rfl⟩:=hz
    subst C
    refine Q5 (fun hh=>?_) (fun hh=>?_)
    ·exact .mk f
    refine Q5 (fun hh=>?_) (fun hh=>?_)
    ·exact .mk f
    refine ld e g rfl ?_
    refine Q2O i.s r fun w4 t=>?_
    by_cases M:(A0 i.s).2.2=true
    ·simp only[M,if_true,↓M1,M1,Mb,reduceIte]
     exact .mk (f.trans (Stp.of_below e t))
    ·simp only[M,if_false,↓M1,M1,Mb,reduceIte]
     exact .mk (f.trans (Stp.of_below e t))
   ·obtain ⟨m,u,rfl⟩:=Q
    have E:=v w' m u
    (try simp only[↓M1,M1,Mb,reduceIte] at E⊢)
    exact E
  | true=>
   have v:=fun c w' m u p=>o true c w' m B u p
   clear o
   simp only[H,↓M1,M1,Mb,reduceIte]
   refine G6 (JB w σ (txt i.op i.s)) ?_ (fun x d w' Q=>?_)
   ·refine ld e g rfl ?_
    (try simp only[↓M1,M1,Mb,reduceIte])
    unfold txt
    by_cases o1:i.op=[119,111,114,100]
    ·simp only[if_pos o1,decide_eq_true o1,↓M1,M1,Mb,reduceIte]
     refine ld e g rfl ?_
     (try simp only[↓M1,M1,Mb,reduceIte])
     have ad:decide ((i.s.length:Int)≤64)=decide (i.s.length≤64):=by rw[Bool.eq_iff_iff,decide_eq_true_eq,decide_eq_true_eq];omega
     rw[ad,X2A,List.not_any_eq_all_not]
     cases ao:decide (i.s.length≤64) with
     | false=>
      (try simp only[↓M1,M1,Mb,reduceIte])
      refine D5 (a:=Value.bool false) i.s.length (fun n x w'=>w'=Z∧x=Value.bool false) ⟨rfl,rfl⟩ fun n x w3 d hn l=>?_
      obtain ⟨C,rfl⟩:=l
      subst C
      (try simp only[↓M1,M1,Mb,reduceIte])
      refine ld e g rfl ?_
      (try simp only[↓M1,M1,Mb,reduceIte])
      refine Q5 (fun p=>?_) (fun p=>?_)
      ·have j:n<i.s.length:=by simpa using p
       (try simp only[↓M1,M1,Mb,reduceIte])
       exact Z6 (by omega) j ⟨rfl,rfl⟩
      ·exact .of f (by simp)
     | true=>
      (try simp only[↓M1,M1,Mb,reduceIte])
      refine ld e g rfl ?_
      refine Q8s h3 e fun w4 t=>?_
      have J:=Stp.of_below e t
      have W:=g.up J
      have V:=J.sat
      have A:=f.trans J
      (try simp only[↓M1,M1,Mb,reduceIte])
      refine D5 (a:=Value.bool (Lib.validD i.s)) i.s.length (fun n x w'=>w'=w4∧x=Value.bool (Lib.validD i.s&&(i.s.take n).all fun c=> !decide (c=10))) ⟨rfl,by simp⟩ fun n x w3 d hn l=>?_
      obtain ⟨C,rfl⟩:=l
      subst C
      (try simp only[↓M1,M1,Mb,reduceIte])
      refine ld V W rfl ?_
      (try simp only[↓M1,M1,Mb,reduceIte])
      refine Q5 (fun p=>?_) (fun p=>?_)
      ·have j:n<i.s.length:=by simpa using p
       have L:(Lib.validD i.s&&(i.s.take (n+1)).all fun c=> !decide (c=10))=((Lib.validD i.s&&(i.s.take n).all fun c=> !decide (c=10))&& !decide (i.s[n]=10)):=by rw[Jh j,Bool.and_assoc]
       generalize an:(Lib.validD i.s&&(i.s.take n).all fun c=> !decide (c=10))=ag at L⊢
       cases ag with
       | false=>(try simp only[↓M1,M1,Mb,reduceIte]);exact Z6 (by omega) j ⟨rfl,by rw[L];rfl⟩
       | true=>
        (try simp only[↓M1,M1,Mb,reduceIte])
        refine ld V W rfl ?_
        refine Wu j ?_
        simp only[X1D j,↓M1,M1,Mb,reduceIte]
        exact Z6 (by omega) j ⟨rfl,by rw[L];rfl⟩
      ·have j: ¬n<i.s.length:=by simpa using p
       rw[List.take_of_length_le (by omega)]
       exact .of A (by simp)
    ·simp only[if_neg o1,decide_eq_false o1,↓M1,M1,Mb,reduceIte]
     by_cases o2:i.op=[110,101,119]
     ·simp only[if_pos o2,decide_eq_true o2,↓M1,M1,Mb,reduceIte]
      refine ld e g rfl ?_
      refine Qw i.s r ?_
      (try simp only[↓M1,M1,Mb,reduceIte])
      exact .mk f
     ·simp only[if_neg o2,decide_eq_false o2,↓M1,M1,Mb,reduceIte]
      refine G6 (fun x w'=>w'=Z∧x=Value.bool (decide (i.op=[105,115]∨i.op=[99,97,115,116]))) ?_ (fun z d w' hz=>?_)
      ·refine Q5 (fun hh=>?_) (fun hh=>?_)
       ·exact ⟨rfl,by simp_all⟩
       ·exact ⟨rfl,by simp_all⟩
      obtain ⟨C,rfl⟩:=hz
      subst C
      by_cases o3:i.op=[105,115]∨i.op=[99,97,115,116]
      ·simp only[if_pos o3,decide_eq_true o3,↓M1,M1,Mb,reduceIte]
       refine ld e g rfl ?_
       refine Va i.s r ?_
       cases hr:right i.s with
       | false=>(try simp only[↓M1,M1,Mb,reduceIte]);exact .mk f
       | true=>
        (try simp only[↓M1,M1,Mb,reduceIte])
        refine ld e g rfl ?_
        refine Pn i.s ?_
        (try simp only[↓M1,M1,Mb,reduceIte])
        exact .mk f
      ·simp only[if_neg o3,decide_eq_false o3,↓M1,M1,Mb,reduceIte]
       by_cases Y:i.op=[97,114,114,97,121]
       ·simp only[if_pos Y,decide_eq_true Y,↓M1,M1,Mb,reduceIte]
        refine ld e g rfl ?_
        refine Va i.s r ?_
        cases hr:right i.s with
        | false=>(try simp only[↓M1,M1,Mb,reduceIte]);exact .mk f
        | true=>
         (try simp only[↓M1,M1,Mb,reduceIte])
         refine ld e g rfl ?_
         refine Q1i i.s r ?_
         (try simp only[↓M1,M1,Mb,reduceIte])
         have e3:decide (((base i.s).2:Int)<3)=decide (Q13 i.s<3):=by
          unfold Q13;rw[if_pos hr,Bool.eq_iff_iff,decide_eq_true_eq,decide_eq_true_eq];omega
         rw[e3]
         exact .mk f
       ·simp only[if_neg Y,decide_eq_false Y,↓M1,M1,Mb,reduceIte]
        refine ld e g rfl ?_
        refine Q2O i.s r fun w4 t=>?_
        have A:=f.trans (Stp.of_below e t)
        by_cases M:(A0 i.s).2.2=true
        ·simp only[M,if_true,↓M1,M1,Mb,reduceIte]
         exact .mk A
        ·have:Yb i.s=false:=by unfold Yb;rw[eq_false_of_ne_true M];rfl
         simp only[M,if_false,↓M1,M1,Mb,reduceIte]
         exact .of A this.symm
   ·obtain ⟨m,u,rfl⟩:=Q
    have E:=v _ w' m u rfl
    simp only[Bool.true_and] at E
    (try simp only[↓M1,M1,Mb,reduceIte])
    exact E)
end Go.Proofs.YtfppjenblllfaaaGreatDoor

namespace Go.Emb
theorem X0m {w:World} {K:Value→World→Prop} {v:Value} (h:K v w):Q0 (.bool true) true w (fun w J=>J v w) K:=by rw[I8];exact h
theorem X16 {w:World} {K:Value→World→Prop} {v:Value} (h:K v w):Q0 (.bool false) false w (fun w J=>J v w) K:=by rw[Uz];exact h
theorem X1H {w:World} {K:Value→World→Prop} {b:Bool} {run:World→(Value→World→Prop)→Prop} (h:K undef w):Q0 undef b w run K:=by rw[Ao];exact h
class Hd (p : Prop) (q : outParam Prop) : Prop where
  h : q → p
section
variable {P : Program} {w : World} {K : Value → World → Prop} {run : World → (Value → World → Prop) → Prop} {v u : Value} {b : Bool}
instance:Hd (J5 P .not (.bool b) w K) (K (.bool (!b)) w):=⟨Nw⟩
instance:Hd (Q0 undef b w run K) (K undef w):=⟨X1H⟩
instance {t:TypeId} {k off:Nat} {ft:TypeId} {sz by_:Nat} {z:Value} {a:Addr} [tf:TF P t k off ft] [tz:TZ P ft sz by_ z] [nz:NZ sz]:Hd (fieldAddr P t (.pointer (some a)) k w K) (K (.pointer (some (a.add off))) w):=⟨D2⟩
instance:Hd (pick P (.bool false) v u w K) (K u w):=⟨X0A⟩
instance:Hd (pick P (.bool true) v u w K) (K v w):=⟨X13⟩
instance:Hd (Q0 (.bool false) false w run K) (run w K):=⟨X1L⟩
instance:Hd (Q0 (.bool true) true w run K) (run w K):=⟨X1p⟩
instance:Hd (Q0 (.bool false) true w run K) (K undef w):=⟨X0T⟩
instance:Hd (Q0 (.bool true) false w run K) (K undef w):=⟨X10⟩
instance:Hd (Q0 (.bool false) false w (fun w J=>J v w) K) (K v w):=⟨X16⟩
instance:Hd (Q0 (.bool true) true w (fun w J=>J v w) K) (K v w):=⟨X0m⟩
end
end Go.Emb
namespace Go.Proofs.YtfppjenblllfaaaGreatDoor
open Go.Emb Go.RowKit Go.Kd Go.Hm
variable {w : World} {K : Value → World → Prop} {σ : Q4}
theorem X0l {xs:List Ins} {v:Value} (s:X4 w σ) (o:Sl 3 C9 σ v xs) (h: ∀e w' l,Stp w σ w' l→decide (e=0)=xs.all (fun i=>decide (N3 i=0))→K (I e) w'):Q1 P F.aO [v] w K:=Tc (by
 unfold Ob
 refine J4 xs.length (fun n w'=> ∃l,Stp w σ w' l∧(xs.take n).all (fun i=>decide (N3 i=0))=true) ⟨σ,Stp.refl s,rfl⟩ fun n w1 d y k=>?_
 obtain ⟨σ1,a,f⟩:=k
 have g:=o.up a
 refine Q8 g ?_
 refine Y8 ?_
 refine Q5 (fun m=>?_) (fun m=>?_)
 ·have c:n<xs.length:=by simpa using m
  refine U2 g c ?_
  obtain ⟨p,r⟩:=g.elI c
  refine Z1 a.sat p rfl ?_
  refine Q6x a.sat r fun z q j=>?_
  refine P4 ?_
  by_cases e:N3 xs[n]=0
  ·have:decide (N3 xs[n]=0)=true:=by simpa using e
   simp only[this,↓M1,M1,Mb,reduceIte]
   exact Y3 o.max c ⟨q,a.trans j,by rw[Jh c,f];simpa using e⟩
  ·have:decide (N3 xs[n]=0)=false:=by simpa using e
   simp only[this,↓M1,M1,Mb,reduceIte]
   refine h _ _ _ (a.trans j) ?_
   rw[this]
   symm
   rw[←Bool.not_eq_true,List.all_eq_true]
   intro t
   have:=t _ (List.getElem_mem c)
   simp at this
   exact e this
 ·have c: ¬n<xs.length:=by simpa using m
  rw[List.take_of_length_le (by omega)] at f
  exact h 0 _ _ a (by rw[f];rfl))
theorem Q9e {c:Cla} {cs:List Value} (hs:X4 w σ) (hc:U8 σ c cs) (h: ∀w' σ',Stp w σ w' σ'→K (.bool (Yd c)) w'):Q1 P F.bn [.agg cs.toArray] w K:=Kv (by
 unfold Mt
 obtain ⟨lv,fv,mv,rfl,f1,f2,f3,f4,f5⟩:=hc
 refine Z0 hs fun q w1 σ1 hk1 hq=>?_
 have f1:=f1.up hk1
 have f2:=f2.up hk1
 have f3:=f3.up hk1
 refine J4 c.methods.length (fun n w'=> ∃σ',Stp w1 σ1 w' σ'∧(c.methods.take n).any Uo=false) ⟨σ1,Stp.refl hk1.sat,rfl⟩ fun n w2 d hn hinv=>?_
 obtain ⟨σ2,hk2,hno⟩:=hinv
 have hq2:=hq.up hk2
 have f32:=f3.up hk2
 have f12:=f1.up hk2
 have f22:=f2.up hk2
 have hs2:=hk2.sat
 (try simp only[↓M1,M1,Mb,reduceIte])
 refine ld hs2 hq2 rfl ?_
 refine Q8 f32 ?_
 refine Y8 ?_
 refine Q5 (fun hc=>?_) (fun hc=>?_)
 ·have hn':n<c.methods.length:=by simpa using hc
  (try simp only[↓M1,M1,Mb,reduceIte])
  refine ld hs2 hq2 rfl ?_
  refine U2 f32 hn' ?_
  obtain ⟨pv,cv,hv,p1,r1⟩:=f32.elM hn'
  refine Z1 hs2 p1 rfl ?_
  refine Y4 hs2 (by rfl) rfl (Rep.one r1) fun q3 w3 σ3 hk3 hq3=>?_
  obtain ⟨g1,g2,g3,_,_,_⟩:=(RMe_lift r1 ⟨hk3.le⟩).parts
  have hS3:=hk1.trans (hk2.trans hk3)
  have hyes:Uo c.methods[n]=true→K (.bool true) w3:=fun e=>by
   have:=h _ _ hS3
   have hm:Yd c=true:=by unfold Yd;rw[C5 hn' e];rfl
   rwa [hm] at this
  have hk23:=hk2.trans hk3
  clear h hk2 hk3 hS3
  have hmax:=f3.max
  (repeat' (first | (with_reducible intro _) | (with_reducible refine V9 ?_) | (simp only[↓M2,M2,Mb,reduceIte]) | (with_reducible first | refine ld aS aL aR ?_ | refine X7 aS aL aR ?_ | refine Z1 aS aL aR ?_ | refine Q8 aL ?_ | refine V4 aR ?_ | refine Z0 aS ?_ | refine L1 aS aL ?_ | refine J6 aS aR ?_ | refine Y4 aS aR aR (Rep.one (by assumption)) ?_ | refine U3 aS aR aR aR ?_ | (refine Z3 (fun hh=>?_) (fun hh=>?_)<;>(try simp only[hh,Bool.not_true,Bool.not_false,↓M2,M2,Mb,reduceIte])) | (refine Q5 (fun hh=>?_) (fun hh=>?_)<;>(try simp only[hh,Bool.not_true,Bool.not_false,↓M2,M2,Mb,reduceIte])))))
  all_goals clear hq hq2 f1 f2 f3 f32 f12 f22 hs hs2 p1 r1 g1 g2 g3 hk1 f4 f5 hq3
  all_goals first
   | (refine hyes ?_;clear hyes hk23;unfold Uo;simp only[Bool.not_false,Bool.not_true,Bool.or_eq_true,decide_eq_true_eq,decide_eq_false_iff_not] at*;omega)
   | (
    have hnx:(c.methods.take (n+1)).any Uo=false:=by
     rw[M0 hn',hno,Bool.false_or];clear hyes hk23;unfold Uo;simp only[Bool.or_eq_false_iff,decide_eq_false_iff_not] at*;omega
    exact Y3 hmax hn' ⟨_,hk23,hnx⟩)
 ·have hn': ¬n<c.methods.length:=by simpa using hc
  rw[D3 hn'] at hno
  have hS2:=hk1.trans hk2
  have hm:Yd c=(decide (32<c.like.length)||decide (32<c.fields.length)||decide (32<c.methods.length)):=by unfold Yd;rw[hno];simp
  rw[hm] at h
  have hK:=h _ _ hS2
  clear h hk2
  (try simp only[↓M1,M1,Mb,reduceIte])
  refine ld hs2 hq2 rfl ?_
  refine Q8 f12 ?_
  have d32: ∀k:Nat,decide ((32:Int)<(k:Int))=decide (32<k):=fun k=>by rw[Bool.eq_iff_iff,decide_eq_true_eq,decide_eq_true_eq];omega
  simp only[d32,↓M1,M1,Mb,reduceIte]
  cases e1:decide (32<c.like.length) with
  | true=>rw[e1] at hK;(try simp only[↓M1,M1,Mb,reduceIte]);simpa using hK
  | false=>
   rw[e1] at hK
   (try simp only[↓M1,M1,Mb,reduceIte])
   refine ld hs2 hq2 rfl ?_
   refine Q8 f22 ?_
   simp only[d32,↓M1,M1,Mb,reduceIte]
   cases e2:decide (32<c.fields.length) with
   | true=>rw[e2] at hK;(try simp only[↓M1,M1,Mb,reduceIte]);simpa using hK
   | false=>
    rw[e2] at hK
    (try simp only[↓M1,M1,Mb,reduceIte])
    refine ld hs2 hq2 rfl ?_
    refine Q8 f32 ?_
    simp only[d32,↓M1,M1,Mb,reduceIte]
    simpa using hK)
theorem Q6u {α:Type} {xs:List α} {p:α→Bool} {n:Nat} (h: ¬n<xs.length):(xs.take n).all p=xs.all p:=by rw[List.take_of_length_le (by omega)]
set_option maxHeartbeats 4000000 in
theorem Ar {m:Hm.Met} {pv cv hv:Value} {w1:World} {σ1:Q4} {q:Addr} {A:Bool} (hs:X4 w σ) (af:Stp w σ w1 σ1) (hq:Z2 σ1 q [S m.name,pv,S m.result, .bool m.abs,I m.locals,cv,hv]) (g1:Sl 1 Y1 σ1 pv m.params) (g2:Sl 3 C9 σ1 cv m.code) (g3:Sl 4 Zt σ1 hv m.catches)
 (h: ∀w' U,Stp w σ w' U→K (.bool ((A&&m.params.all right)&&if m.abs then decide (m.locals=0)&&decide (m.code=[])&&decide (m.catches=[])
  else decide (m.code≠[])&&decide ((m.params.length:Int)<m.locals)&&m.code.all (fun i=>decide (N3 i=0))&&m.catches.all (C8 m.code.length))) w'):
 lp (α:=Value×Value) (Value.bool A,(.int .i64 0)) w1 fun W B d_ w=>
  fieldAddr P T.c (.pointer (some q)) 1 w fun ct w=>
  Q2 P T.d ct w fun bq w=>
  X5 P .len [T.d] T.e [false] [bq] w fun db w=>
  Q3 P .lss T.e (.tmp 21) (.tmp 24) B.2 db w fun c3 w=>
  X1 c3 (
   Q0 B.1 true w (fieldAddr P T.c (.pointer (some q)) 1) fun bl w=>
   Q0 B.1 true w (Q2 P T.d bl) fun cu w=>
   Q0 B.1 true w (fun w J=>J B.2 w) fun c7 w=>
   Q0 B.1 true w (indexAddr P T.d cu c7) fun bv w=>
   Q0 B.1 true w (Q2 P T.b bv) fun c5 w=>
   Q0 B.1 true w (Q1 P F.i [c5]) fun ci w=>
   pick P B.1 ci (.bool false) w fun bz w=>
   Q3 P .add T.e (.tmp 26) (.const (.int .i64 1)) B.2 (.int .i64 1) w fun c6 w=>
   W (bz,c6) w) (
   fieldAddr P T.c (.pointer (some q)) 3 w fun dd w=>
   Q2 P T.n dd w fun cp w=>
   X1 cp (
    Q0 B.1 true w (fieldAddr P T.c (.pointer (some q)) 4) fun ca w=>
    Q0 B.1 true w (Q2 P T.e ca) fun b4 w=>
    Q0 B.1 true w (Q3 P .eql T.e (.tmp 42) (.const (.int .i64 0)) b4 (.int .i64 0)) fun bi w=>
    pick P B.1 bi (.bool false) w fun Q w=>
    Q0 Q true w (fieldAddr P T.c (.pointer (some q)) 5) fun bp w=>
    Q0 Q true w (Q2 P T.k bp) fun cm w=>
    Q0 Q true w (X5 P .len [T.k] T.e [false] [cm]) fun cd w=>
    Q0 Q true w (Q3 P .eql T.e (.tmp 48) (.const (.int .i64 0)) cd (.int .i64 0)) fun b3 w=>
    pick P Q b3 (.bool false) w fun N w=>
    Q0 N true w (fieldAddr P T.c (.pointer (some q)) 6) fun b2 w=>
    Q0 N true w (Q2 P T.o b2) fun bw w=>
    Q0 N true w (X5 P .len [T.o] T.e [false] [bw]) fun c4 w=>
    Q0 N true w (Q3 P .eql T.e (.tmp 54) (.const (.int .i64 0)) c4 (.int .i64 0)) fun b1 w=>
    pick P N b1 (.bool false) w fun cn w=>
    K cn w) (
    fieldAddr P T.c (.pointer (some q)) 5 w fun da w=>
    Q2 P T.k da w fun ce w=>
    X5 P .len [T.k] T.e [false] [ce] w fun ah w=>
    lp (α:=Value×Value) (B.1,(.int .i64 0)) w fun R j d_ w=>
     fieldAddr P T.c (.pointer (some q)) 6 w fun br w=>
     Q2 P T.o br w fun bj w=>
     X5 P .len [T.o] T.e [false] [bj] w fun dc w=>
     Q3 P .lss T.e (.tmp 60) (.tmp 63) j.2 dc w fun cs w=>
     X1 cs (
      fieldAddr P T.c (.pointer (some q)) 6 w fun cy w=>
      Q2 P T.o cy w fun cw w=>
      indexAddr P T.o cw j.2 w fun bn w=>
      Q2 P T.p bn w fun b7 w=>
      W7 P T.p w fun t7 w=>
      Z4 P T.p t7 b7 w fun _u w=>
      Q0 j.1 true w (fieldAddr P T.p t7 0) fun bm w=>
      Q0 j.1 true w (Q2 P T.e bm) fun cx w=>
      Q0 j.1 true w (Q3 P .geq T.e (.tmp 75) (.const (.int .i64 0)) cx (.int .i64 0)) fun bx w=>
      pick P j.1 bx (.bool false) w fun E w=>
      Q0 E true w (fieldAddr P T.p t7 0) fun cj w=>
      Q0 E true w (Q2 P T.e cj) fun bk w=>
      Q0 E true w (fieldAddr P T.p t7 1) fun cr w=>
      Q0 E true w (Q2 P T.e cr) fun b8 w=>
      Q0 E true w (Q3 P .lss T.e (.tmp 80) (.tmp 82) bk b8) fun ck w=>
      pick P E ck (.bool false) w fun L w=>
      Q0 L true w (fieldAddr P T.p t7 1) fun b6 w=>
      Q0 L true w (Q2 P T.e b6) fun bu w=>
      Q0 L true w (fun w J=>J ah w) fun cf w=>
      Q0 L true w (Q3 P .leq T.e (.tmp 87) (.tmp 88) bu cf) fun co w=>
      pick P L co (.bool false) w fun aa w=>
      Q0 aa true w (fieldAddr P T.p t7 2) fun bo w=>
      Q0 aa true w (Q2 P T.e bo) fun b9 w=>
      Q0 aa true w (Q3 P .geq T.e (.tmp 93) (.const (.int .i64 0)) b9 (.int .i64 0)) fun ch w=>
      pick P aa ch (.bool false) w fun M w=>
      Q0 M true w (fieldAddr P T.p t7 2) fun cb w=>
      Q0 M true w (Q2 P T.e cb) fun cl w=>
      Q0 M true w (fun w J=>J ah w) fun cg w=>
      Q0 M true w (Q3 P .lss T.e (.tmp 98) (.tmp 99) cl cg) fun ak w=>
      pick P M ak (.bool false) w fun D w=>
      Q0 D true w (fieldAddr P T.p t7 3) fun a6 w=>
      Q0 D true w (Q2 P T.b a6) fun a0 w=>
      Q0 D true w (Q1 P F.e [a0]) fun a3 w=>
      pick P D a3 (.bool false) w fun bc w=>
      Q3 P .add T.e (.tmp 65) (.const (.int .i64 1)) j.2 (.int .i64 1) w fun cq w=>
      R (bc,cq) w) (
      Q0 j.1 true w (fun w J=>J ah w) fun aq w=>
      Q0 j.1 true w (Q3 P .gtr T.e (.tmp 109) (.const (.int .i64 0)) aq (.int .i64 0)) fun az w=>
      pick P j.1 az (.bool false) w fun g w=>
      Q0 g true w (fieldAddr P T.c (.pointer (some q)) 4) fun aj w=>
      Q0 g true w (Q2 P T.e aj) fun an w=>
      Q0 g true w (fieldAddr P T.c (.pointer (some q)) 1) fun ba w=>
      Q0 g true w (Q2 P T.d ba) fun ao w=>
      Q0 g true w (X5 P .len [T.d] T.e [false] [ao]) fun a1 w=>
      Q0 g true w (Q3 P .gtr T.e (.tmp 114) (.tmp 117) an a1) fun av w=>
      pick P g av (.bool false) w fun y w=>
      Q0 y true w (fieldAddr P T.c (.pointer (some q)) 5) fun am w=>
      Q0 y true w (Q2 P T.k am) fun bd w=>
      Q0 y true w (Q1 P F.aO [bd]) fun a9 w=>
      Q0 y true w (Q3 P .eql T.s (.tmp 123) (.const (.int .i64 0)) a9 (.int .i64 0)) fun ap w=>
      pick P y ap (.bool false) w fun a8 w=>
      K a8 w))):=by
 have cz:=af.sat
 have c0:decide ((m.code.length:Int)=0)=decide (m.code=[]):=by cases m.code<;>simp;omega
 have c1:decide ((m.catches.length:Int)=0)=decide (m.catches=[]):=by cases m.catches<;>simp;omega
 have c2:decide ((0:Int)<m.code.length)=decide (m.code≠[]):=by cases m.code<;>simp
 refine D5 (a:=Value.bool A) m.params.length (fun n x w'=> ∃U,Stp w1 σ1 w' U∧x=Value.bool (A&&(m.params.take n).all right)) ⟨σ1,Stp.refl cz,by simp⟩ fun n x w2 d hn O=>?_
 obtain ⟨σ2,k,rfl⟩:=O
 have o:=hq.up k
 have Y:=g1.up k
 have l:=k.sat
 (try simp only[↓M1,M1,Mb,reduceIte])
 refine ld l o rfl ?_
 refine Q8 Y ?_
 refine Y8 ?_
 refine Q5 (fun hc=>?_) (fun hc=>?_)
 ·have c:n<m.params.length:=by simpa using hc
  have s:(A&&(m.params.take (n+1)).all right)=((A&&(m.params.take n).all right)&&right m.params[n]):=by rw[Jh c,Bool.and_assoc]
  generalize (A&&(m.params.take n).all right)=f at s⊢
  cases f with
  | false=>(try simp only[↓M1,M1,Mb,reduceIte]);exact Z6 g1.max c ⟨σ2,k,by rw[s];rfl⟩
  | true=>
   (try simp only[↓M1,M1,Mb,reduceIte])
   refine ld l o rfl ?_
   (try simp only[↓M1,M1,Mb,reduceIte])
   refine U2 Y c ?_
   obtain ⟨p1,p2⟩:=Y.elS c
   refine X7 l p1 rfl ?_
   refine Va _ (by simp only[J0] at p2;omega) ?_
   (try simp only[↓M1,M1,Mb,reduceIte])
   exact Z6 g1.max c ⟨σ2,k,by rw[s];rfl⟩
 ·have c: ¬n<m.params.length:=by simpa using hc
  rw[Q6u c]
  have a7:=af.trans k
  have ag:=g2.up k
  have Z:=g3.up k
  clear af k hq g1 g2 g3 hn hc
  generalize (A&&m.params.all right)=f at h⊢
  refine ld l o rfl ?_
  cases ax:m.abs with
  | true=>
   simp only[ax,if_true] at h
   have hK:=h _ _ a7
   clear h
   (try simp only[↓M1,M1,Mb,reduceIte])
   cases f with
   | false=>(try simp only[↓M1,M1,Mb,reduceIte]);simpa using hK
   | true=>
    (try simp only[↓M1,M1,Mb,reduceIte])
    refine ld l o rfl ?_
    (try simp only[↓M1,M1,Mb,reduceIte])
    cases ay:decide (m.locals=0) with
    | false=>rw[ay] at hK;(try simp only[↓M1,M1,Mb,reduceIte]);simpa using hK
    | true=>
     rw[ay] at hK
     (try simp only[↓M1,M1,Mb,reduceIte])
     refine ld l o rfl ?_
     refine Q8 ag ?_
     simp only[c0,↓M1,M1,Mb,reduceIte]
     cases ar:decide (m.code=[]) with
     | false=>rw[ar] at hK;(try simp only[↓M1,M1,Mb,reduceIte]);simpa using hK
     | true=>
      rw[ar] at hK
      (try simp only[↓M1,M1,Mb,reduceIte])
      refine ld l o rfl ?_
      refine Q8 Z ?_
      simp only[c1,↓M1,M1,Mb,reduceIte]
      simpa using hK
  | false=>
   simp only[ax,Bool.false_eq_true,if_false] at h
   (try simp only[↓M1,M1,Mb,reduceIte])
   refine ld l o rfl ?_
   refine Q8 ag ?_
   refine D5 (a:=Value.bool f) m.catches.length (fun n x w'=> ∃U,Stp w2 σ2 w' U∧x=Value.bool (f&&(m.catches.take n).all (C8 m.code.length))) ⟨σ2,Stp.refl l,by simp⟩ fun n x w4 d hn O=>?_
   obtain ⟨σ4,p,rfl⟩:=O
   have H:=o.up p
   have V:=Z.up p
   have t:=p.sat
   (try simp only[↓M1,M1,Mb,reduceIte])
   refine ld t H rfl ?_
   refine Q8 V ?_
   refine Y8 ?_
   refine Q5 (fun hc=>?_) (fun hc=>?_)
   ·have c:n<m.catches.length:=by simpa using hc
    have s:(f&&(m.catches.take (n+1)).all (C8 m.code.length))=((f&&(m.catches.take n).all (C8 m.code.length))&&C8 m.code.length m.catches[n]):=by rw[Jh c,Bool.and_assoc]
    generalize (f&&(m.catches.take n).all (C8 m.code.length))=c8 at s⊢
    (try simp only[↓M1,M1,Mb,reduceIte])
    refine ld t H rfl ?_
    refine U2 V c ?_
    obtain ⟨p1,r1⟩:=V.elK c
    have aw:m.catches[n].cls.length≤140737488355328:=by have:=r1.2.2.2.2;simp only[J0] at this;omega
    refine Z1 t p1 rfl ?_
    refine Y4 t (by rfl) rfl (Rep.one r1) fun q5 w5 σ5 al r=>?_
    have C:=al.sat
    have ac:=p.trans al
    cases c8 with
    | false=>(try simp only[↓M1,M1,Mb,reduceIte]);exact Z6 Z.max c ⟨σ5,ac,by rw[s];rfl⟩
    | true=>
     have z: ∀b,C8 m.code.length m.catches[n]=b→Sx m.catches.length (fun n x w'=> ∃U,Stp w2 σ2 w' U∧x=Value.bool (f&&(m.catches.take n).all (C8 m.code.length))) (Value.bool b, .int .i64 (IntKind.i64.wrap (n+1))) w5∧Wg m.catches.length (Value.bool b, .int .i64 (IntKind.i64.wrap (n+1)))<Wg m.catches.length (Value.bool true,I n):=fun b e=>Z6 Z.max c ⟨σ5,ac,by rw[s,e];rfl⟩
     unfold C8 at z
     generalize m.catches[n]=x at r z aw
     clear s p1 r1 H o V h
     (try simp only[↓M1,M1,Mb,reduceIte])
     refine ld C r rfl ?_
     (try simp only[↓M1,M1,Mb,reduceIte])
     cases d1:decide (0≤x.frm) with
     | false=>(try simp only[↓M1,M1,Mb,reduceIte]);exact z _ (by simp[d1])
     | true=>
     (try simp only[↓M1,M1,Mb,reduceIte])
     refine ld C r rfl ?_
     (try simp only[↓M1,M1,Mb,reduceIte])
     refine ld C r rfl ?_
     (try simp only[↓M1,M1,Mb,reduceIte])
     cases d2:decide (x.frm<x.to) with
     | false=>(try simp only[↓M1,M1,Mb,reduceIte]);exact z _ (by simp[d1,d2])
     | true=>
     (try simp only[↓M1,M1,Mb,reduceIte])
     refine ld C r rfl ?_
     (try simp only[↓M1,M1,Mb,reduceIte])
     cases d3:decide (x.to≤(m.code.length:Int)) with
     | false=>(try simp only[↓M1,M1,Mb,reduceIte]);exact z _ (by simp[d1,d2,d3])
     | true=>
     (try simp only[↓M1,M1,Mb,reduceIte])
     refine ld C r rfl ?_
     (try simp only[↓M1,M1,Mb,reduceIte])
     cases d4:decide (0≤x.at_) with
     | false=>(try simp only[↓M1,M1,Mb,reduceIte]);exact z _ (by simp[d1,d2,d3,d4])
     | true=>
     (try simp only[↓M1,M1,Mb,reduceIte])
     refine ld C r rfl ?_
     (try simp only[↓M1,M1,Mb,reduceIte])
     cases d5:decide (x.at_<(m.code.length:Int)) with
     | false=>(try simp only[↓M1,M1,Mb,reduceIte]);exact z _ (by simp[d1,d2,d3,d4,d5])
     | true=>
     (try simp only[↓M1,M1,Mb,reduceIte])
     refine ld C r rfl ?_
     refine Qw x.cls aw ?_
     (try simp only[↓M1,M1,Mb,reduceIte])
     exact z _ (by simp[d1,d2,d3,d4,d5])
   ·have c: ¬n<m.catches.length:=by simpa using hc
    rw[Q6u c]
    have X:=a7.trans p
    have b0:=ag.up p
    have bh:=Y.up p
    have hh: ∀w' U,Stp w σ w' U→K (.bool ((f&&m.catches.all (C8 m.code.length))&&(decide (m.code≠[])&&decide ((m.params.length:Int)<m.locals)&&m.code.all (fun i=>decide (N3 i=0))))) w':=by
     intro w' U hk
     have:=h w' U hk
     refine Eq.subst (motive:=fun b=>K (.bool b) w') ?_ this
     cases f<;>cases m.catches.all (C8 m.code.length)<;>simp
    clear h p
    generalize (f&&m.catches.all (C8 m.code.length))=bs at hh⊢
    cases bs with
    | false=>(try simp only[↓M1,M1,Mb,reduceIte]);simpa using hh _ _ X
    | true=>
     (try simp only[↓M1,M1,Mb,reduceIte])
     simp only[c2,↓M1,M1,Mb,reduceIte]
     cases a2:decide (m.code≠[]) with
     | false=>rw[a2] at hh;(try simp only[↓M1,M1,Mb,reduceIte]);simpa using hh _ _ X
     | true=>
      rw[a2] at hh
      (try simp only[↓M1,M1,Mb,reduceIte])
      refine ld t H rfl ?_
      (try simp only[↓M1,M1,Mb,reduceIte])
      refine ld t H rfl ?_
      refine Q8 bh ?_
      (try simp only[↓M1,M1,Mb,reduceIte])
      cases bb:decide ((m.params.length:Int)<m.locals) with
      | false=>rw[bb] at hh;(try simp only[↓M1,M1,Mb,reduceIte]);simpa using hh _ _ X
      | true=>
       rw[bb] at hh
       (try simp only[↓M1,M1,Mb,reduceIte])
       refine ld t H rfl ?_
       refine X0l t b0 fun e w6 σ6 c9 he=>?_
       simp only[he,↓M1,M1,Mb,reduceIte]
       simpa using hh _ _ (X.trans c9)
set_option maxHeartbeats 2000000 in
theorem Q7c {m:Hm.Met} {cs:List Value} (n:X4 w σ) (B:M6 σ m cs) (h: ∀w' z,Stp w σ w' z→K (.bool (B4 m)) w'):Q1 P F.w [.agg cs.toArray] w K:=Bh (by
 unfold Vd
 obtain ⟨pv,L,H,rfl,C,D,y,E,A,J⟩:=B
 have p:m.name.length≤140737488355328:=by simp only[J0] at E;omega
 have o:m.result.length≤140737488355328:=by simp only[J0] at A;omega
 refine Z0 n fun q w1 σ1 a g=>?_
 have s:=C.up a
 have r:=D.up a
 have t:=y.up a
 have e:=a.sat
 obtain ⟨d,c⟩: ∃b,b=(L7 m.name&&(decide (m.result=[])||right m.result)):=⟨_,rfl⟩
 have l:B4 m=((d&&m.params.all right)&&if m.abs then decide (m.locals=0)&&decide (m.code=[])&&decide (m.catches=[])
  else decide (m.code≠[])&&decide ((m.params.length:Int)<m.locals)&&m.code.all (fun i=>decide (N3 i=0))&&m.catches.all (C8 m.code.length)):=by
  rw[c];unfold B4
  cases L7 m.name<;>cases m.params.all right<;>cases decide (m.result=[])<;>cases right m.result<;>rfl
 rw[l] at h
 clear l
 (repeat refine Hd.h ?_)
 refine ld e g rfl ?_
 refine Ft m.name p ?_
 cases f:L7 m.name with
 | false=>
  have k:d=false:=by rw[c,f];rfl
  (repeat refine Hd.h ?_)
  refine Eq.subst (motive:=fun b=>lp (α:=Value×Value) (Value.bool b, .int .i64 0) w1 _) k ?_
  exact Ar n a g s r t h
 | true=>
  (repeat refine Hd.h ?_)
  refine ld e g rfl ?_
  (repeat refine Hd.h ?_)
  refine F9 ?_
  cases j:decide (m.result=[]) with
  | true=>
   have k:d=true:=by rw[c,f,j];rfl
   (repeat refine Hd.h ?_)
   refine Eq.subst (motive:=fun b=>lp (α:=Value×Value) (Value.bool b, .int .i64 0) w1 _) k ?_
   exact Ar n a g s r t h
  | false=>
   (repeat refine Hd.h ?_)
   refine ld e g rfl ?_
   (repeat refine Hd.h ?_)
   refine Va m.result o ?_
   have k:d=right m.result:=by rw[c,f,j];rfl
   (repeat refine Hd.h ?_)
   refine Eq.subst (motive:=fun b=>lp (α:=Value×Value) (Value.bool b, .int .i64 0) w1 _) k ?_
   exact Ar n a g s r t h)
end Go.Proofs.YtfppjenblllfaaaGreatDoor

namespace Go.Hm
open Go.Kd
def Lx (c:Cla) (i:Nat):Bool:=W3 (c.like.getD i [])&& !decide (c.like.getD i []=c.name)
def K1 (c:Cla) (i k:Nat):Bool:= !decide (c.like.getD k []=c.like.getD i [])
def Rr (c:Cla) (i:Nat):Fld:=c.fields.getD i Fld.zero
def Dp (c:Cla) (i:Nat):Hm.Met:=c.methods.getD i Hm.Met.zero
def Np (c:Cla) (i:Nat):Bool:=L7 (Rr c i).name&&right (Rr c i).kind&& !c.iface
def Qm (c:Cla) (i k:Nat):Bool:= !decide ((Rr c k).name=(Rr c i).name)
def Q6O (c:Cla):Bool:=(!c.iface||(c.abs&&decide (c.super=Z7)))&& !(c.abs&&c.fin)
def Qn (c:Cla) (i k:Nat):Bool:= !decide ((Dp c k).name=(Dp c i).name)
theorem Vb {p:Nat→Bool} {n:Nat}:(List.range (n+1)).all p=((List.range n).all p&&p n):=by rw[List.range_succ,List.all_append];simp
theorem E7 {α:Type} {xs:List α} {i:Nat} {d:α} (h:i<xs.length):xs.getD i d=xs[i]:=by rw[List.getD_eq_getElem?_getD,List.getElem?_eq_getElem h];rfl
end Go.Hm
namespace Go.Proofs.YtfppjenblllfaaaGreatDoor
open Go.Emb Go.RowKit Go.Kd Go.Hm
variable {w : World} {K : Value → World → Prop} {σ : Q4}
def Li (c:Cla) (i:Nat):Bool:=B4 (Dp c i)&&(!(Dp c i).abs||c.abs)&&(!c.iface||(Dp c i).abs)
set_option maxHeartbeats 2000000 in
theorem Q2j {c:Cla} {lv fv mv:Value} {w1:World} {σ1:Q4} {q:Addr} {ok:Bool} (ag:X4 w1 σ1) (hq:Z2 σ1 q [S c.name,S c.super,lv, .bool c.iface, .bool c.abs, .bool c.fin,fv,mv]) {i:Nat} {N m0:Nat} {R:Nat→Value→World→Prop} (g1:Sl 1 Y1 σ1 lv c.like) (hi:i<c.like.length)
 (h: ∀w' σ',Stp w1 σ1 w' σ'→Sx N R (Value.bool (ok&&(List.range i).all (K1 c i)), .int .i64 (IntKind.i64.wrap (i+1))) w'∧Wg N (Value.bool (ok&&(List.range i).all (K1 c i)), .int .i64 (IntKind.i64.wrap (i+1)))<m0):
 lp (
  α:=Value×Value) (Value.bool ok,(.int .i64 0)) w1 fun g b d_ w=>
  Q3 P .lss T.e (.tmp 52) (.tmp 53) b.2 (I i) w fun ai w=>
  X1 ai (
   dr w fun e f=>
   Q7 e (fun C=> ∀w:World,f w→Q0 b.1 true w (fieldAddr P T.a (.pointer (some q)) 2) (dk e C w)) fun C=>
   Q7 e (fun p=> ∀w:World,f w→Q0 b.1 true w (fun w J=>J b.2 w) (dk e p w)) fun p=>
   Q7 e (fun l=> ∀w:World,f w→Q0 b.1 true w (fieldAddr P T.a (.pointer (some q)) 2) (dk e l w)) fun l=>
   Q7 e (fun D=> ∀w:World,f w→Q0 b.1 true w (fun w J=>J (I i) w) (dk e D w)) fun D=>
   Q7 e (fun o=> ∀y:Value,∀w:World,f w→C y w→Q0 b.1 true w (Q2 P T.d y) (dk e o w)) fun o=>
   Q7 e (fun A=> ∀n:Value,∀t:Value,∀w:World,f w→o n w→p t w→Q0 b.1 true w (indexAddr P T.d n t) (dk e A w)) fun A=>
   Q7 e (fun L=> ∀r:Value,∀w:World,f w→A r w→Q0 b.1 true w (Q2 P T.b r) (dk e L w)) fun L=>
   Q7 e (fun v=> ∀u:Value,∀w:World,f w→l u w→Q0 b.1 true w (Q2 P T.d u) (dk e v w)) fun v=>
   Q7 e (fun B=> ∀m:Value,∀s:Value,∀w:World,f w→v m w→D s w→Q0 b.1 true w (indexAddr P T.d m s) (dk e B w)) fun B=>
   Q7 e (fun H=> ∀z:Value,∀w:World,f w→B z w→Q0 b.1 true w (Q2 P T.b z) (dk e H w)) fun H=>
   ∀y:Value,∀t:Value,∀u:Value,∀s:Value,∀n:Value,∀r:Value,∀W:Value,∀m:Value,∀z:Value,∀Q:Value,∀w:World,f w→C y w→p t w→l u w→D s w→o n w→A r w→L W w→v m w→B z w→H Q w→
   Q0 b.1 true w (Q3 P .neq T.b (.tmp 63) (.tmp 68) W Q) fun ae w=>
   pick P b.1 ae (.bool false) w fun ad w=>
   Q3 P .add T.e (.tmp 55) (.const (.int .i64 1)) b.2 (.int .i64 1) w fun ac w=>
   g (ad,ac) w) (
   Q3 P .add T.e (.tmp 31) (.const (.int .i64 1)) (I i) (.int .i64 1) w fun U w=>
   (Sx N R (b.1,U) w∧Wg N (b.1,U)<m0)):=by
 have aj:=g1.max
 refine D5 (a:=Value.bool ok) i (fun k x w'=> ∃σ',Stp w1 σ1 w' σ'∧x=Value.bool (ok&&(List.range k).all (K1 c i))) ⟨σ1,Stp.refl ag,by simp⟩ fun k x w2 d hk V=>?_
 obtain ⟨σ2,j,rfl⟩:=V
 have ap:=hq.up j
 have M:=g1.up j
 have Z:=j.sat
 refine Y8 ?_
 refine Q5 (fun X=>?_) (fun X=>?_)
 ·have ab:k<i:=by simpa using X
  have O:k<c.like.length:=by omega
  have E:(ok&&(List.range (k+1)).all (K1 c i))=((ok&&(List.range k).all (K1 c i))&&K1 c i k):=by rw[Vb,Bool.and_assoc]
  have hQ:K1 c i k= !decide (c.like[k]=c.like[i]):=by unfold K1;rw[E7 O,E7 hi]
  rw[hQ] at E
  obtain ⟨p1,_⟩:=M.elS O
  obtain ⟨p2,_⟩:=M.elS hi
  generalize (ok&&(List.range k).all (K1 c i))=af at E⊢
  clear h hQ X
  cases af
  all_goals
   refine V3 Z ?_
   (repeat refine U6 Qt ?_)
   (intros;(repeat (rename_i hx;subst hx));(try simp only[↓M2,M2,Mb,reduceIte]))
   rename_i w3 aa
   exact Z6 (by omega) ab ⟨σ2,j.trans aa.stp,by rw[E];rfl⟩
 ·have Y:k=i:=by
   have: ¬k<i:=by simpa using X
   omega
  subst Y
  (try simp only[↓M1,M1,Mb,reduceIte])
  exact h _ _ j
set_option maxHeartbeats 4000000 in
theorem Q9d {c:Cla} {lv fv mv:Value} {w1:World} {σ1:Q4} {q:Addr} {ok:Bool} (hs1:X4 w1 σ1) (hq:Z2 σ1 q [S c.name,S c.super,lv, .bool c.iface, .bool c.abs, .bool c.fin,fv,mv]) {J:Value→World→Prop} (hn:c.name.length≤J0) (g1:Sl 1 Y1 σ1 lv c.like)
 (h: ∀w' σ',Stp w1 σ1 w' σ'→J (.bool (ok&&(List.range c.like.length).all fun i=>Lx c i&&(List.range i).all (K1 c i))) w'):
 lp (α:=Value×Value) (Value.bool ok,(.int .i64 0)) w1 fun again4 x4 d_ w=>
 fieldAddr P T.a (.pointer (some q)) 2 w fun t27 w=>
 Q2 P T.d t27 w fun t28 w=>
 X5 P .len [T.d] T.e [false] [t28] w fun t29 w=>
 Q3 P .lss T.e (.tmp 26) (.tmp 29) x4.2 t29 w fun t30 w=>
 X1 t30 (
  dr w fun Tr Br=>
  Q7 Tr (fun φ35=> ∀w:World,Br w→Q0 x4.1 true w (fieldAddr P T.a (.pointer (some q)) 2) (dk Tr φ35 w)) fun φ35=>
  Q7 Tr (fun φ37=> ∀w:World,Br w→Q0 x4.1 true w (fun w J=>J x4.2 w) (dk Tr φ37 w)) fun φ37=>
  Q7 Tr (fun φ36=> ∀t35:Value,∀w:World,Br w→φ35 t35 w→Q0 x4.1 true w (Q2 P T.d t35) (dk Tr φ36 w)) fun φ36=>
  Q7 Tr (fun φ38=> ∀t36:Value,∀t37:Value,∀w:World,Br w→φ36 t36 w→φ37 t37 w→Q0 x4.1 true w (indexAddr P T.d t36 t37) (dk Tr φ38 w)) fun φ38=>
  Q7 Tr (fun φ39=> ∀t38:Value,∀w:World,Br w→φ38 t38 w→Q0 x4.1 true w (Q2 P T.b t38) (dk Tr φ39 w)) fun φ39=>
  Q7 Tr (fun φ40=> ∀t39:Value,∀w:World,Br w→φ39 t39 w→Q0 x4.1 true w (Q1 P F.e [t39]) (dk Tr φ40 w)) fun φ40=>
  Q7 Tr (fun φ41=> ∀t40:Value,∀w:World,Br w→φ40 t40 w→pick P x4.1 t40 (.bool false) w (dk Tr φ41 w)) fun φ41=>
  Q7 Tr (fun φ43=> ∀t41:Value,∀w:World,Br w→φ41 t41 w→Q0 t41 true w (fieldAddr P T.a (.pointer (some q)) 2) (dk Tr φ43 w)) fun φ43=>
  Q7 Tr (fun φ45=> ∀t41:Value,∀w:World,Br w→φ41 t41 w→Q0 t41 true w (fun w J=>J x4.2 w) (dk Tr φ45 w)) fun φ45=>
  Q7 Tr (fun φ48=> ∀t41:Value,∀w:World,Br w→φ41 t41 w→Q0 t41 true w (fieldAddr P T.a (.pointer (some q)) 0) (dk Tr φ48 w)) fun φ48=>
  Q7 Tr (fun φ44=> ∀t41:Value,∀t43:Value,∀w:World,Br w→φ41 t41 w→φ43 t43 w→Q0 t41 true w (Q2 P T.d t43) (dk Tr φ44 w)) fun φ44=>
  Q7 Tr (fun φ46=> ∀t41:Value,∀t44:Value,∀t45:Value,∀w:World,Br w→φ41 t41 w→φ44 t44 w→φ45 t45 w→Q0 t41 true w (indexAddr P T.d t44 t45) (dk Tr φ46 w)) fun φ46=>
  Q7 Tr (fun φ47=> ∀t41:Value,∀t46:Value,∀w:World,Br w→φ41 t41 w→φ46 t46 w→Q0 t41 true w (Q2 P T.b t46) (dk Tr φ47 w)) fun φ47=>
  Q7 Tr (fun φ49=> ∀t41:Value,∀t48:Value,∀w:World,Br w→φ41 t41 w→φ48 t48 w→Q0 t41 true w (Q2 P T.b t48) (dk Tr φ49 w)) fun φ49=>
  ∀t35:Value,∀t37:Value,∀t36:Value,∀t38:Value,∀t39:Value,∀t40:Value,∀t41:Value,∀t43:Value,∀t45:Value,∀t48:Value,∀t44:Value,∀t46:Value,∀t47:Value,∀t49:Value,∀w:World,Br w→φ35 t35 w→φ37 t37 w→φ36 t36 w→φ38 t38 w→φ39 t39 w→φ40 t40 w→φ41 t41 w→φ43 t43 w→φ45 t45 w→φ48 t48 w→φ44 t44 w→φ46 t46 w→φ47 t47 w→φ49 t49 w→
  Q0 t41 true w (Q3 P .neq T.b (.tmp 47) (.tmp 49) t47 t49) fun t50 w=>
  pick P t41 t50 (.bool false) w fun t51 w=>
  lp (α:=Value×Value) (t51,(.int .i64 0)) w fun again10 x10 d_ w=>
   Q3 P .lss T.e (.tmp 52) (.tmp 53) x10.2 x4.2 w fun t54 w=>
   X1 t54 (
    dr w fun Tr Br=>
    Q7 Tr (fun φ59=> ∀w:World,Br w→Q0 x10.1 true w (fieldAddr P T.a (.pointer (some q)) 2) (dk Tr φ59 w)) fun φ59=>
    Q7 Tr (fun φ61=> ∀w:World,Br w→Q0 x10.1 true w (fun w J=>J x10.2 w) (dk Tr φ61 w)) fun φ61=>
    Q7 Tr (fun φ64=> ∀w:World,Br w→Q0 x10.1 true w (fieldAddr P T.a (.pointer (some q)) 2) (dk Tr φ64 w)) fun φ64=>
    Q7 Tr (fun φ66=> ∀w:World,Br w→Q0 x10.1 true w (fun w J=>J x4.2 w) (dk Tr φ66 w)) fun φ66=>
    Q7 Tr (fun φ60=> ∀t59:Value,∀w:World,Br w→φ59 t59 w→Q0 x10.1 true w (Q2 P T.d t59) (dk Tr φ60 w)) fun φ60=>
    Q7 Tr (fun φ62=> ∀t60:Value,∀t61:Value,∀w:World,Br w→φ60 t60 w→φ61 t61 w→Q0 x10.1 true w (indexAddr P T.d t60 t61) (dk Tr φ62 w)) fun φ62=>
    Q7 Tr (fun φ63=> ∀t62:Value,∀w:World,Br w→φ62 t62 w→Q0 x10.1 true w (Q2 P T.b t62) (dk Tr φ63 w)) fun φ63=>
    Q7 Tr (fun φ65=> ∀t64:Value,∀w:World,Br w→φ64 t64 w→Q0 x10.1 true w (Q2 P T.d t64) (dk Tr φ65 w)) fun φ65=>
    Q7 Tr (fun φ67=> ∀t65:Value,∀t66:Value,∀w:World,Br w→φ65 t65 w→φ66 t66 w→Q0 x10.1 true w (indexAddr P T.d t65 t66) (dk Tr φ67 w)) fun φ67=>
    Q7 Tr (fun φ68=> ∀t67:Value,∀w:World,Br w→φ67 t67 w→Q0 x10.1 true w (Q2 P T.b t67) (dk Tr φ68 w)) fun φ68=>
    ∀t59:Value,∀t61:Value,∀t64:Value,∀t66:Value,∀t60:Value,∀t62:Value,∀t63:Value,∀t65:Value,∀t67:Value,∀t68:Value,∀w:World,Br w→φ59 t59 w→φ61 t61 w→φ64 t64 w→φ66 t66 w→φ60 t60 w→φ62 t62 w→φ63 t63 w→φ65 t65 w→φ67 t67 w→φ68 t68 w→
    Q0 x10.1 true w (Q3 P .neq T.b (.tmp 63) (.tmp 68) t63 t68) fun t69 w=>
    pick P x10.1 t69 (.bool false) w fun t70 w=>
    Q3 P .add T.e (.tmp 55) (.const (.int .i64 1)) x10.2 (.int .i64 1) w fun t56 w=>
    again10 (t70,t56) w) (
    Q3 P .add T.e (.tmp 31) (.const (.int .i64 1)) x4.2 (.int .i64 1) w fun t32 w=>
    again4 (x10.1,t32) w)) (
  J x4.1 w):=by
 have hmax:=g1.max
 refine D5 (a:=Value.bool ok) c.like.length (fun n x w'=> ∃σ',Stp w1 σ1 w' σ'∧x=Value.bool (ok&&(List.range n).all fun i=>Lx c i&&(List.range i).all (K1 c i))) ⟨σ1,Stp.refl hs1,by simp⟩ fun n x w2 d hn2 hinv=>?_
 obtain ⟨σ2,hk2,rfl⟩:=hinv
 have hq2:=hq.up hk2
 have g12:=g1.up hk2
 have hs2:=hk2.sat
 (repeat refine Hd.h ?_)
 refine ld hs2 hq2 rfl ?_
 refine Q8 g12 ?_
 refine Y8 ?_
 refine Q5 (fun hc=>?_) (fun hc=>?_)
 ·have hn':n<c.like.length:=by simpa using hc
  have hnx:(ok&&(List.range (n+1)).all fun i=>Lx c i&&(List.range i).all (K1 c i))=((ok&&(List.range n).all fun i=>Lx c i&&(List.range i).all (K1 c i))&&(Lx c n&&(List.range n).all (K1 c n))):=by rw[Vb,Bool.and_assoc]
  have hP:Lx c n=(W3 c.like[n]&& !decide (c.like[n]=c.name)):=by unfold Lx;rw[E7 hn']
  obtain ⟨p1,p2⟩:=g12.elS hn'
  have p2:c.like[n].length≤140737488355328:=by simp only[J0] at p2;omega
  generalize (ok&&(List.range n).all fun i=>Lx c i&&(List.range i).all (K1 c i))=acc at hnx⊢
  clear h hc
  cases hacc:acc with
  | false=>
   refine V3 hs2 ?_
   (repeat refine U6 Qt ?_)
   intros;(repeat (rename_i hx;subst hx))
   rename_i w3 hb3
   (repeat refine Hd.h ?_)
   refine Q2j hb3.sat hq2 g12 hn' fun w4 σ4 hk4=>?_
   exact Z6 hmax hn' ⟨σ4,hk2.trans (hb3.stp.trans hk4),by rw[hnx,hacc];rfl⟩
  | true=>
   cases hcl:W3 c.like[n] with
   | false=>
    refine V3 hs2 ?_
    have hrc: ∀{w':World} {K:Value→World→Prop},K (.bool false) w'→Q1 P F.e [S c.like[n]] w' K:=fun hK=>Qw _ p2 (by rw[hcl];exact hK)
    (repeat (apply U6;(· intros;(repeat (rename_i hx;subst hx));(repeat' (first | (with_reducible exact N4 rfl) | (with_reducible exact Zw (Stp.bel (by (repeat (first | exact Stp.refl (by (first | assumption | exact Stp.sat (by assumption) | exact Hst.sat (by assumption))) | assumption | refine Stp.trans ?_ (by first | assumption | exact Hst.stp (by assumption)))))) rfl) | (with_reducible intro _) | (simp only[↓M2,M2,Mb,reduceIte]) | (with_reducible refine hrc ?_) | (with_reducible show Q2 _ _ _ _ _;first | refine X7 aS aL aR ?_ | refine Z1 aS aL aR ?_ | refine ld aS aL aR ?_) | (with_reducible show indexAddr _ _ _ _ _ _;refine U2 aL au ?_) | (with_reducible show X5 _ _ _ _ _ _ _ _;refine Q8 aL ?_) | (with_reducible show We _ _ _ _ _ _;refine V4 aR ?_) | (with_reducible show pick _ _ _ _ _ _;refine Jw ?_) | (apply Vz;intro hh;(try simp only[hh,reduceIte,↓M2,M2,Mb,reduceIte]))));done)))
    intros;(repeat (rename_i hx;subst hx))
    rename_i w3 hb3
    (repeat refine Hd.h ?_)
    refine Q2j hb3.sat hq2 g12 hn' fun w4 σ4 hk4=>?_
    exact Z6 hmax hn' ⟨σ4,hk2.trans (hb3.stp.trans hk4),by rw[hnx,hacc,hP,hcl];rfl⟩
   | true=>
    refine V3 hs2 ?_
    have hrc: ∀{w':World} {K:Value→World→Prop},K (.bool true) w'→Q1 P F.e [S c.like[n]] w' K:=fun hK=>Qw _ p2 (by rw[hcl];exact hK)
    (repeat (apply U6;(· intros;(repeat (rename_i hx;subst hx));(repeat' (first | (with_reducible exact N4 rfl) | (with_reducible exact Zw (Stp.bel (by (repeat (first | exact Stp.refl (by (first | assumption | exact Stp.sat (by assumption) | exact Hst.sat (by assumption))) | assumption | refine Stp.trans ?_ (by first | assumption | exact Hst.stp (by assumption)))))) rfl) | (with_reducible intro _) | (simp only[↓M2,M2,Mb,reduceIte]) | (with_reducible refine hrc ?_) | (with_reducible show Q2 _ _ _ _ _;first | refine X7 aS aL aR ?_ | refine Z1 aS aL aR ?_ | refine ld aS aL aR ?_) | (with_reducible show indexAddr _ _ _ _ _ _;refine U2 aL au ?_) | (with_reducible show X5 _ _ _ _ _ _ _ _;refine Q8 aL ?_) | (with_reducible show We _ _ _ _ _ _;refine V4 aR ?_) | (with_reducible show pick _ _ _ _ _ _;refine Jw ?_) | (apply Vz;intro hh;(try simp only[hh,reduceIte,↓M2,M2,Mb,reduceIte]))));done)))
    intros;(repeat (rename_i hx;subst hx))
    rename_i w3 hb3
    (repeat refine Hd.h ?_)
    refine Lu ?_
    (repeat refine Hd.h ?_)
    refine Q2j hb3.sat hq2 g12 hn' fun w4 σ4 hk4=>?_
    exact Z6 hmax hn' ⟨σ4,hk2.trans (hb3.stp.trans hk4),by rw[hnx,hacc,hP,hcl];simp⟩
 ·have hn': ¬n<c.like.length:=by simpa using hc
  obtain rfl:n=c.like.length:=by omega
  exact h _ _ hk2
set_option maxHeartbeats 2000000 in
theorem Q1X {c:Cla} {lv fv mv:Value} {w1:World} {σ1:Q4} {q:Addr} {ok:Bool} (al:X4 w1 σ1) (hq:Z2 σ1 q [S c.name,S c.super,lv, .bool c.iface, .bool c.abs, .bool c.fin,fv,mv]) {i:Nat} {N m0:Nat} {aa:Nat→Value→World→Prop} (g2:Sl 3 E5 σ1 fv c.fields) (hi:i<c.fields.length)
 (h: ∀w' σ',Stp w1 σ1 w' σ'→Sx N aa (Value.bool (ok&&(List.range i).all (Qm c i)), .int .i64 (IntKind.i64.wrap (i+1))) w'∧Wg N (Value.bool (ok&&(List.range i).all (Qm c i)), .int .i64 (IntKind.i64.wrap (i+1)))<m0):
 lp (α:=Value×Value) (Value.bool ok,(.int .i64 0)) w1 fun L b d_ w=>
  Q3 P .lss T.e (.tmp 102) (.tmp 103) b.2 (I i) w fun Z w=>
  X1 Z (
   dr w fun e H=>
   Q7 e (fun v=> ∀w:World,H w→Q0 b.1 true w (fieldAddr P T.a (.pointer (some q)) 6) (dk e v w)) fun v=>
   Q7 e (fun D=> ∀w:World,H w→Q0 b.1 true w (fun w J=>J b.2 w) (dk e D w)) fun D=>
   Q7 e (fun g=> ∀w:World,H w→Q0 b.1 true w (fieldAddr P T.a (.pointer (some q)) 6) (dk e g w)) fun g=>
   Q7 e (fun o=> ∀w:World,H w→Q0 b.1 true w (fun w J=>J (I i) w) (dk e o w)) fun o=>
   Q7 e (fun z=> ∀u:Value,∀w:World,H w→v u w→Q0 b.1 true w (Q2 P T.i u) (dk e z w)) fun z=>
   Q7 e (fun j=> ∀r:Value,∀p:Value,∀w:World,H w→z r w→D p w→Q0 b.1 true w (indexAddr P T.i r p) (dk e j w)) fun j=>
   Q7 e (fun n=> ∀A:Value,∀w:World,H w→j A w→Q0 b.1 true w (fieldAddr P T.m A 0) (dk e n w)) fun n=>
   Q7 e (fun M=> ∀l:Value,∀w:World,H w→n l w→Q0 b.1 true w (Q2 P T.b l) (dk e M w)) fun M=>
   Q7 e (fun E=> ∀B:Value,∀w:World,H w→g B w→Q0 b.1 true w (Q2 P T.i B) (dk e E w)) fun E=>
   Q7 e (fun C=> ∀t:Value,∀s:Value,∀w:World,H w→E t w→o s w→Q0 b.1 true w (indexAddr P T.i t s) (dk e C w)) fun C=>
   Q7 e (fun m=> ∀y:Value,∀w:World,H w→C y w→Q0 b.1 true w (fieldAddr P T.m y 0) (dk e m w)) fun m=>
   Q7 e (fun O=> ∀f:Value,∀w:World,H w→m f w→Q0 b.1 true w (Q2 P T.b f) (dk e O w)) fun O=>
   ∀u:Value,∀p:Value,∀B:Value,∀s:Value,∀r:Value,∀A:Value,∀l:Value,∀R:Value,∀t:Value,∀y:Value,∀f:Value,∀U:Value,∀w:World,H w→v u w→D p w→g B w→o s w→z r w→j A w→n l w→M R w→E t w→C y w→m f w→O U w→
   Q0 b.1 true w (Q3 P .neq T.b (.tmp 114) (.tmp 120) R U) fun W w=>
   pick P b.1 W (.bool false) w fun ad w=>
   Q3 P .add T.e (.tmp 105) (.const (.int .i64 1)) b.2 (.int .i64 1) w fun ab w=>
   L (ad,ab) w) (
   Q3 P .add T.e (.tmp 76) (.const (.int .i64 1)) (I i) (.int .i64 1) w fun ac w=>
   (Sx N aa (b.1,ac) w∧Wg N (b.1,ac)<m0)):=by
 have an:=g2.max
 refine D5 (a:=Value.bool ok) i (fun k x w'=> ∃σ',Stp w1 σ1 w' σ'∧x=Value.bool (ok&&(List.range k).all (Qm c i))) ⟨σ1,Stp.refl al,by simp⟩ fun k x w2 d hk ae=>?_
 obtain ⟨σ2,Q,rfl⟩:=ae
 have aw:=hq.up Q
 have X:=g2.up Q
 have ah:=Q.sat
 refine Y8 ?_
 refine Q5 (fun hc=>?_) (fun hc=>?_)
 ·have aj:k<i:=by simpa using hc
  have Y:k<c.fields.length:=by omega
  have V:(ok&&(List.range (k+1)).all (Qm c i))=((ok&&(List.range k).all (Qm c i))&&Qm c i k):=by rw[Vb,Bool.and_assoc]
  have hQ:Qm c i k= !decide (c.fields[k].name=c.fields[i].name):=by unfold Qm Rr;rw[E7 Y,E7 hi]
  rw[hQ] at V
  obtain ⟨p1,_⟩:=X.elF Y
  obtain ⟨p2,_⟩:=X.elF hi
  generalize (ok&&(List.range k).all (Qm c i))=ak at V⊢
  clear h hQ hc
  cases ak
  all_goals
   refine V3 ah ?_
   (repeat refine U6 Qt ?_)
   (intros;(repeat (rename_i hx;subst hx));(try simp only[↓M2,M2,Mb,reduceIte]))
   rename_i w3 ai
   exact Z6 (by omega) aj ⟨σ2,Q.trans ai.stp,by rw[V];rfl⟩
 ·have ag:k=i:=by
   have: ¬k<i:=by simpa using hc
   omega
  subst ag
  (try simp only[↓M1,M1,Mb,reduceIte])
  exact h _ _ Q
set_option maxHeartbeats 4000000 in
theorem X0Q {c:Cla} {lv fv mv:Value} {w1:World} {σ1:Q4} {q:Addr} {ok:Bool} (bb:X4 w1 σ1) (hq:Z2 σ1 q [S c.name,S c.super,lv, .bool c.iface, .bool c.abs, .bool c.fin,fv,mv]) {J:Value→World→Prop} (g2:Sl 3 E5 σ1 fv c.fields)
 (h: ∀w' σ',Stp w1 σ1 w' σ'→J (.bool (ok&&(List.range c.fields.length).all fun i=>Np c i&&(List.range i).all (Qm c i))) w'):
 lp (
  α:=Value×Value) (Value.bool ok,(.int .i64 0)) w1 fun aa g d_ w=>
  fieldAddr P T.a (.pointer (some q)) 6 w fun a6 w=>
  Q2 P T.i a6 w fun be w=>
  X5 P .len [T.i] T.e [false] [be] w fun a3 w=>
  Q3 P .lss T.e (.tmp 71) (.tmp 74) g.2 a3 w fun ba w=>
  X1 ba (
   Q0 g.1 true w (fieldAddr P T.a (.pointer (some q)) 6) fun a1 w=>
   Q0 g.1 true w (Q2 P T.i a1) fun a7 w=>
   Q0 g.1 true w (fun w J=>J g.2 w) fun bf w=>
   Q0 g.1 true w (indexAddr P T.i a7 bf) fun ay w=>
   Q0 g.1 true w (fieldAddr P T.m ay 0) fun av w=>
   Q0 g.1 true w (Q2 P T.b av) fun a2 w=>
   Q0 g.1 true w (Q1 P F.r [a2]) fun bd w=>
   pick P g.1 bd (.bool false) w fun p w=>
   Q0 p true w (fieldAddr P T.a (.pointer (some q)) 6) fun a4 w=>
   Q0 p true w (Q2 P T.i a4) fun a9 w=>
   Q0 p true w (fun w J=>J g.2 w) fun bi w=>
   Q0 p true w (indexAddr P T.i a9 bi) fun a5 w=>
   Q0 p true w (fieldAddr P T.m a5 1) fun bh w=>
   Q0 p true w (Q2 P T.b bh) fun ar w=>
   Q0 p true w (Q1 P F.i [ar]) fun aw w=>
   pick P p aw (.bool false) w fun ae w=>
   Q0 ae true w (fieldAddr P T.a (.pointer (some q)) 3) fun a0 w=>
   Q0 ae true w (Q2 P T.n a0) fun bj w=>
   Q0 ae true w (J5 P .not bj) fun aj w=>
   pick P ae aj (.bool false) w fun am w=>
   lp (α:=Value×Value) (am,(.int .i64 0)) w fun Z f d_ w=>
    Q3 P .lss T.e (.tmp 102) (.tmp 103) f.2 g.2 w fun al w=>
    X1 al (
     dr w fun k Y=>
     Q7 k (fun N=> ∀w:World,Y w→Q0 f.1 true w (fieldAddr P T.a (.pointer (some q)) 6) (dk k N w)) fun N=>
     Q7 k (fun W=> ∀w:World,Y w→Q0 f.1 true w (fun w J=>J f.2 w) (dk k W w)) fun W=>
     Q7 k (fun u=> ∀w:World,Y w→Q0 f.1 true w (fieldAddr P T.a (.pointer (some q)) 6) (dk k u w)) fun u=>
     Q7 k (fun C=> ∀w:World,Y w→Q0 f.1 true w (fun w J=>J g.2 w) (dk k C w)) fun C=>
     Q7 k (fun Q=> ∀M:Value,∀w:World,Y w→N M w→Q0 f.1 true w (Q2 P T.i M) (dk k Q w)) fun Q=>
     Q7 k (fun v=> ∀E:Value,∀D:Value,∀w:World,Y w→Q E w→W D w→Q0 f.1 true w (indexAddr P T.i E D) (dk k v w)) fun v=>
     Q7 k (fun B=> ∀R:Value,∀w:World,Y w→v R w→Q0 f.1 true w (fieldAddr P T.m R 0) (dk k B w)) fun B=>
     Q7 k (fun ab=> ∀y:Value,∀w:World,Y w→B y w→Q0 f.1 true w (Q2 P T.b y) (dk k ab w)) fun ab=>
     Q7 k (fun X=> ∀U:Value,∀w:World,Y w→u U w→Q0 f.1 true w (Q2 P T.i U) (dk k X w)) fun X=>
     Q7 k (fun V=> ∀L:Value,∀H:Value,∀w:World,Y w→X L w→C H w→Q0 f.1 true w (indexAddr P T.i L H) (dk k V w)) fun V=>
     Q7 k (fun A=> ∀O:Value,∀w:World,Y w→V O w→Q0 f.1 true w (fieldAddr P T.m O 0) (dk k A w)) fun A=>
     Q7 k (fun ad=> ∀t:Value,∀w:World,Y w→A t w→Q0 f.1 true w (Q2 P T.b t) (dk k ad w)) fun ad=>
     ∀M:Value,∀D:Value,∀U:Value,∀H:Value,∀E:Value,∀R:Value,∀y:Value,∀af:Value,∀L:Value,∀O:Value,∀t:Value,∀ag:Value,∀w:World,Y w→N M w→W D w→u U w→C H w→Q E w→v R w→B y w→ab af w→X L w→V O w→A t w→ad ag w→
     Q0 f.1 true w (Q3 P .neq T.b (.tmp 114) (.tmp 120) af ag) fun ak w=>
     pick P f.1 ak (.bool false) w fun ao w=>
     Q3 P .add T.e (.tmp 105) (.const (.int .i64 1)) f.2 (.int .i64 1) w fun an w=>
     Z (ao,an) w) (
     Q3 P .add T.e (.tmp 76) (.const (.int .i64 1)) g.2 (.int .i64 1) w fun bg w=>
     aa (f.1,bg) w)) (
   J g.1 w):=by
 have z:=g2.max
 refine D5 (a:=Value.bool ok) c.fields.length (fun n x w'=> ∃σ',Stp w1 σ1 w' σ'∧x=Value.bool (ok&&(List.range n).all fun i=>Np c i&&(List.range i).all (Qm c i))) ⟨σ1,Stp.refl bb,by simp⟩ fun n x w2 d bp ap=>?_
 obtain ⟨σ2,r,rfl⟩:=ap
 have o:=hq.up r
 have m:=g2.up r
 have l:=r.sat
 (repeat refine Hd.h ?_)
 refine ld l o rfl ?_
 refine Q8 m ?_
 refine Y8 ?_
 refine Q5 (fun hc=>?_) (fun hc=>?_)
 ·have j:n<c.fields.length:=by simpa using hc
  have ac:(ok&&(List.range (n+1)).all fun i=>Np c i&&(List.range i).all (Qm c i))=((ok&&(List.range n).all fun i=>Np c i&&(List.range i).all (Qm c i))&&(Np c n&&(List.range n).all (Qm c n))):=by rw[Vb,Bool.and_assoc]
  have hP:Np c n=(L7 c.fields[n].name&&right c.fields[n].kind&& !c.iface):=by unfold Np Rr;rw[E7 j]
  obtain ⟨p1,r1⟩:=m.elF j
  have b1:c.fields[n].name.length≤140737488355328:=by have:=r1.2.1;simp only[J0] at this;omega
  have b2:c.fields[n].kind.length≤140737488355328:=by have:=r1.2.2;simp only[J0] at this;omega
  generalize (ok&&(List.range n).all fun i=>Np c i&&(List.range i).all (Qm c i))=ah at ac⊢
  clear h hc
  have step: ∀b,b=(ah&&Np c n)→(ah&&(Np c n&&(List.range n).all (Qm c n)))=(b&&(List.range n).all (Qm c n)):=fun b e=>by rw[e,Bool.and_assoc]
  cases ah with
  | false=>
   (repeat refine Hd.h ?_)
   refine Q1X l o m j fun w4 σ4 s=>?_
   exact Z6 z j ⟨σ4,r.trans s,by rw[ac];rfl⟩
  | true=>
   (repeat refine Hd.h ?_)
   refine ld l o rfl ?_
   (repeat refine Hd.h ?_)
   refine U2 m j ?_
   (repeat refine Hd.h ?_)
   refine ld l p1 rfl ?_
   (repeat refine Hd.h ?_)
   refine Ft _ b1 ?_
   cases d1:L7 c.fields[n].name with
   | false=>
    (repeat refine Hd.h ?_)
    refine Q1X l o m j fun w4 σ4 s=>?_
    exact Z6 z j ⟨σ4,r.trans s,by rw[ac,step false (by rw[hP,d1];rfl)]⟩
   | true=>
    (repeat refine Hd.h ?_)
    refine ld l o rfl ?_
    (repeat refine Hd.h ?_)
    refine U2 m j ?_
    (repeat refine Hd.h ?_)
    refine ld l p1 rfl ?_
    (repeat refine Hd.h ?_)
    refine Va _ b2 ?_
    cases d2:right c.fields[n].kind with
    | false=>
     (repeat refine Hd.h ?_)
     refine Q1X l o m j fun w4 σ4 s=>?_
     exact Z6 z j ⟨σ4,r.trans s,by rw[ac,step false (by rw[hP,d1,d2];rfl)]⟩
    | true=>
     (repeat refine Hd.h ?_)
     refine ld l o rfl ?_
     (repeat refine Hd.h ?_)
     refine Q1X l o m j fun w4 σ4 s=>?_
     exact Z6 z j ⟨σ4,r.trans s,by rw[ac,step (!c.iface) (by rw[hP,d1,d2];rfl)]⟩
 ·have j: ¬n<c.fields.length:=by simpa using hc
  obtain rfl:n=c.fields.length:=by omega
  exact h _ _ r
set_option maxHeartbeats 2000000 in
theorem Eg {c:Cla} {lv fv mv:Value} {w1:World} {σ1:Q4} {q:Addr} {ok:Bool} (ae:X4 w1 σ1) (hq:Z2 σ1 q [S c.name,S c.super,lv, .bool c.iface, .bool c.abs, .bool c.fin,fv,mv]) {i:Nat} {q9:Addr} {pv cv hv:Value} {N m0:Nat} {Q:Nat→Value→World→Prop} (g3:Sl 7 M6 σ1 mv c.methods) (hi:i<c.methods.length) (ac:Z2 σ1 q9 [S c.methods[i].name,pv,S c.methods[i].result, .bool c.methods[i].abs,I c.methods[i].locals,cv,hv])
 (h: ∀w' σ',Stp w1 σ1 w' σ'→Sx N Q (Value.bool (ok&&(List.range i).all (Qn c i)), .int .i64 (IntKind.i64.wrap (i+1))) w'∧Wg N (Value.bool (ok&&(List.range i).all (Qn c i)), .int .i64 (IntKind.i64.wrap (i+1)))<m0):
 lp (α:=Value×Value) (Value.bool ok,(.int .i64 0)) w1 fun y b d_ w=>
  Q3 P .lss T.e (.tmp 158) (.tmp 159) b.2 (I i) w fun M w=>
  X1 M (
   dr w fun e B=>
   Q7 e (fun s=> ∀w:World,B w→Q0 b.1 true w (fieldAddr P T.a (.pointer (some q)) 7) (dk e s w)) fun s=>
   Q7 e (fun j=> ∀w:World,B w→Q0 b.1 true w (fun w J=>J b.2 w) (dk e j w)) fun j=>
   Q7 e (fun o=> ∀w:World,B w→Q0 b.1 true w (fieldAddr P T.c (.pointer (some q9)) 0) (dk e o w)) fun o=>
   Q7 e (fun t=> ∀m:Value,∀w:World,B w→s m w→Q0 b.1 true w (Q2 P T.f m) (dk e t w)) fun t=>
   Q7 e (fun p=> ∀u:Value,∀n:Value,∀w:World,B w→t u w→j n w→Q0 b.1 true w (indexAddr P T.f u n) (dk e p w)) fun p=>
   Q7 e (fun r=> ∀g:Value,∀w:World,B w→p g w→Q0 b.1 true w (fieldAddr P T.c g 0) (dk e r w)) fun r=>
   Q7 e (fun z=> ∀l:Value,∀w:World,B w→r l w→Q0 b.1 true w (Q2 P T.b l) (dk e z w)) fun z=>
   Q7 e (fun A=> ∀f:Value,∀w:World,B w→o f w→Q0 b.1 true w (Q2 P T.b f) (dk e A w)) fun A=>
   ∀m:Value,∀n:Value,∀f:Value,∀u:Value,∀g:Value,∀l:Value,∀D:Value,∀C:Value,∀w:World,B w→s m w→j n w→o f w→t u w→p g w→r l w→z D w→A C w→
   Q0 b.1 true w (Q3 P .neq T.b (.tmp 170) (.tmp 172) D C) fun O w=>
   pick P b.1 O (.bool false) w fun U w=>
   Q3 P .add T.e (.tmp 161) (.const (.int .i64 1)) b.2 (.int .i64 1) w fun R w=>
   y (U,R) w) (
   Q3 P .add T.e (.tmp 128) (.const (.int .i64 1)) (I i) (.int .i64 1) w fun E w=>
   (Sx N Q (b.1,E) w∧Wg N (b.1,E)<m0)):=by
 have ag:=g3.max
 refine D5 (a:=Value.bool ok) i (fun k x w'=> ∃σ',Stp w1 σ1 w' σ'∧x=Value.bool (ok&&(List.range k).all (Qn c i))) ⟨σ1,Stp.refl ae,by simp⟩ fun k x w2 d hk V=>?_
 obtain ⟨σ2,v,rfl⟩:=V
 have ao:=hq.up v
 have ah:=ac.up v
 have ab:=g3.up v
 have Y:=v.sat
 refine Y8 ?_
 refine Q5 (fun W=>?_) (fun W=>?_)
 ·have aa:k<i:=by simpa using W
  have L:k<c.methods.length:=by omega
  have H:(ok&&(List.range (k+1)).all (Qn c i))=((ok&&(List.range k).all (Qn c i))&&Qn c i k):=by rw[Vb,Bool.and_assoc]
  have hQ:Qn c i k= !decide (c.methods[k].name=c.methods[i].name):=by unfold Qn Dp;rw[E7 L,E7 hi]
  rw[hQ] at H
  obtain ⟨av,an,am,p1,_⟩:=ab.elM L
  generalize (ok&&(List.range k).all (Qn c i))=ad at H⊢
  clear h hQ W
  cases ad
  all_goals
   refine V3 Y ?_
   (repeat refine U6 Qt ?_)
   (intros;(repeat (rename_i hx;subst hx));(try simp only[↓M2,M2,Mb,reduceIte]))
   rename_i w3 Z
   exact Z6 (by omega) aa ⟨σ2,v.trans Z.stp,by rw[H];rfl⟩
 ·have X:k=i:=by
   have: ¬k<i:=by simpa using W
   omega
  subst X
  (try simp only[↓M1,M1,Mb,reduceIte])
  exact h _ _ v
set_option maxHeartbeats 4000000 in
theorem X0R {c:Cla} {lv fv mv:Value} {w1:World} {σ1:Q4} {q:Addr} {ok:Bool} (bs:X4 w1 σ1) (hq:Z2 σ1 q [S c.name,S c.super,lv, .bool c.iface, .bool c.abs, .bool c.fin,fv,mv]) {J:Value→World→Prop} (g3:Sl 7 M6 σ1 mv c.methods)
 (h: ∀w' σ',Stp w1 σ1 w' σ'→J (.bool (ok&&(List.range c.methods.length).all fun i=>Li c i&&(List.range i).all (Qn c i))) w'):
 lp (α:=Value×Value) (Value.bool ok,(.int .i64 0)) w1 fun Z v d_ w=>
  fieldAddr P T.a (.pointer (some q)) 7 w fun ay w=>
  Q2 P T.f ay w fun bl w=>
  X5 P .len [T.f] T.e [false] [bl] w fun bk w=>
  Q3 P .lss T.e (.tmp 123) (.tmp 126) v.2 bk w fun bi w=>
  X1 bi (
   fieldAddr P T.a (.pointer (some q)) 7 w fun aq w=>
   Q2 P T.f aq w fun bn w=>
   indexAddr P T.f bn v.2 w fun a0 w=>
   Q2 P T.c a0 w fun bb w=>
   W7 P T.c w fun t9 w=>
   Z4 P T.c t9 bb w fun _u w=>
   Q0 v.1 true w (Q2 P T.c t9) fun a9 w=>
   Q0 v.1 true w (Q1 P F.w [a9]) fun bf w=>
   pick P v.1 bf (.bool false) w fun p w=>
   Q0 p true w (fieldAddr P T.c t9 3) fun aw w=>
   Q0 p true w (Q2 P T.n aw) fun be w=>
   Q0 p true w (J5 P .not be) fun az w=>
   Q0 p true w (fun w J=>J az w) fun X w=>
   Q0 X false w (fieldAddr P T.a (.pointer (some q)) 4) fun a3 w=>
   Q0 X false w (Q2 P T.n a3) fun a1 w=>
   Q0 p true w (pick P X (.bool true) a1) fun ar w=>
   pick P p ar (.bool false) w fun s w=>
   Q0 s true w (fieldAddr P T.a (.pointer (some q)) 3) fun a2 w=>
   Q0 s true w (Q2 P T.n a2) fun av w=>
   Q0 s true w (J5 P .not av) fun ax w=>
   Q0 s true w (fun w J=>J ax w) fun ad w=>
   Q0 ad false w (fieldAddr P T.c t9 3) fun a8 w=>
   Q0 ad false w (Q2 P T.n a8) fun bo w=>
   Q0 s true w (pick P ad (.bool true) bo) fun bm w=>
   pick P s bm (.bool false) w fun bc w=>
   lp (α:=Value×Value) (bc,(.int .i64 0)) w fun ab k d_ w=>
    Q3 P .lss T.e (.tmp 158) (.tmp 159) k.2 v.2 w fun bd w=>
    X1 bd (
     dr w fun y Br=>
     Q7 y (fun O=> ∀w:World,Br w→Q0 k.1 true w (fieldAddr P T.a (.pointer (some q)) 7) (dk y O w)) fun O=>
     Q7 y (fun H=> ∀w:World,Br w→Q0 k.1 true w (fun w J=>J k.2 w) (dk y H w)) fun H=>
     Q7 y (fun C=> ∀w:World,Br w→Q0 k.1 true w (fieldAddr P T.c t9 0) (dk y C w)) fun C=>
     Q7 y (fun Q=> ∀M:Value,∀w:World,Br w→O M w→Q0 k.1 true w (Q2 P T.f M) (dk y Q w)) fun Q=>
     Q7 y (fun D=> ∀E:Value,∀B:Value,∀w:World,Br w→Q E w→H B w→Q0 k.1 true w (indexAddr P T.f E B) (dk y D w)) fun D=>
     Q7 y (fun N=> ∀A:Value,∀w:World,Br w→D A w→Q0 k.1 true w (fieldAddr P T.c A 0) (dk y N w)) fun N=>
     Q7 y (fun ac=> ∀L:Value,∀w:World,Br w→N L w→Q0 k.1 true w (Q2 P T.b L) (dk y ac w)) fun ac=>
     Q7 y (fun aa=> ∀z:Value,∀w:World,Br w→C z w→Q0 k.1 true w (Q2 P T.b z) (dk y aa w)) fun aa=>
     ∀M:Value,∀B:Value,∀z:Value,∀E:Value,∀A:Value,∀L:Value,∀ai:Value,∀ah:Value,∀w:World,Br w→O M w→H B w→C z w→Q E w→D A w→N L w→ac ai w→aa ah w→
     Q0 k.1 true w (Q3 P .neq T.b (.tmp 170) (.tmp 172) ai ah) fun bg w=>
     pick P k.1 bg (.bool false) w fun a6 w=>
     Q3 P .add T.e (.tmp 161) (.const (.int .i64 1)) k.2 (.int .i64 1) w fun a4 w=>
     ab (a6,a4) w) (
     Q3 P .add T.e (.tmp 128) (.const (.int .i64 1)) v.2 (.int .i64 1) w fun bj w=>
     Z (k.1,bj) w)) (
   J v.1 w):=by
 have o:=g3.max
 refine D5 (a:=Value.bool ok) c.methods.length (fun n x w'=> ∃σ',Stp w1 σ1 w' σ'∧x=Value.bool (ok&&(List.range n).all fun i=>Li c i&&(List.range i).all (Qn c i))) ⟨σ1,Stp.refl bs,by simp⟩ fun n x w2 d b2 a7=>?_
 obtain ⟨σ2,Y,rfl⟩:=a7
 have an:=hq.up Y
 have ag:=g3.up Y
 have af:=Y.sat
 (repeat refine Hd.h ?_)
 refine ld af an rfl ?_
 refine Q8 ag ?_
 refine Y8 ?_
 refine Q5 (fun hc=>?_) (fun hc=>?_)
 ·have f:n<c.methods.length:=by simpa using hc
  have u:(ok&&(List.range (n+1)).all fun i=>Li c i&&(List.range i).all (Qn c i))=((ok&&(List.range n).all fun i=>Li c i&&(List.range i).all (Qn c i))&&(Li c n&&(List.range n).all (Qn c n))):=by rw[Vb,Bool.and_assoc]
  have hP:Li c n=(B4 c.methods[n]&&(!c.methods[n].abs||c.abs)&&(!c.iface||c.methods[n].abs)):=by unfold Li Dp;rw[E7 f]
  obtain ⟨pv,cv,hv,p1,r1⟩:=ag.elM f
  generalize (ok&&(List.range n).all fun i=>Li c i&&(List.range i).all (Qn c i))=am at u⊢
  clear h hc
  have step: ∀b,b=(am&&Li c n)→(am&&(Li c n&&(List.range n).all (Qn c n)))=(b&&(List.range n).all (Qn c n)):=fun b e=>by rw[e,Bool.and_assoc]
  (repeat refine Hd.h ?_)
  refine ld af an rfl ?_
  refine U2 ag f ?_
  refine Z1 af p1 rfl ?_
  refine Y4 af (by rfl) rfl (Rep.one r1) fun q9 w3 σ3 W al=>?_
  have ak:=W.sat
  have bp:=an.up W
  have bh:=ag.up W
  have r3:=RMe_lift r1 ⟨W.le⟩
  have aj:=Y.trans W
  cases am with
  | false=>
   (repeat refine Hd.h ?_)
   refine Eg ak bp bh f al fun w4 R l=>?_
   exact Z6 o f ⟨R,aj.trans l,by rw[u];rfl⟩
  | true=>
   (repeat refine Hd.h ?_)
   refine Z1 ak al rfl ?_
   (repeat refine Hd.h ?_)
   refine Q7c ak r3 fun w5 σ5 V=>?_
   have m:=V.sat
   have t:=bp.up V
   have g:=al.up V
   have U:=bh.up V
   have r:=aj.trans V
   cases d1:B4 c.methods[n] with
   | false=>
    (repeat refine Hd.h ?_)
    refine Eg m t U f g fun w4 R l=>?_
    exact Z6 o f ⟨R,r.trans l,by rw[u,step false (by rw[hP,d1];rfl)]⟩
   | true=>
    (repeat refine Hd.h ?_)
    refine ld m g rfl ?_
    (repeat refine Hd.h ?_)
    have j: ∀b1:Bool,b1=(!c.methods[n].abs||c.abs)→Li c n=(b1&&(!c.iface||c.methods[n].abs)):=fun b1 e=>by rw[hP,d1,e];rfl
    cases d2:c.methods[n].abs with
    | false=>
     rw[d2] at j g
     simp only[Bool.not_true,Bool.not_false]
     (repeat refine Hd.h ?_)
     refine ld m t rfl ?_
     (repeat refine Hd.h ?_)
     cases d4:c.iface with
     | false=>
      simp only[Bool.not_true,Bool.not_false]
      (repeat refine Hd.h ?_)
      refine Eg m t U f (by rw[d2];exact g) fun w4 R l=>?_
      exact Z6 o f ⟨R,r.trans l,by rw[u,step true (by rw[j true rfl,d4];rfl)]⟩
     | true=>
      simp only[Bool.not_true,Bool.not_false]
      (repeat refine Hd.h ?_)
      refine ld m g rfl ?_
      (repeat refine Hd.h ?_)
      refine Eg m t U f (by rw[d2];exact g) fun w4 R l=>?_
      exact Z6 o f ⟨R,r.trans l,by rw[u,step false (by rw[j true rfl,d4];rfl)]⟩
    | true=>
     rw[d2] at j g
     simp only[Bool.not_true,Bool.not_false]
     (repeat refine Hd.h ?_)
     refine ld m t rfl ?_
     cases d3:c.abs with
     | false=>
      (repeat refine Hd.h ?_)
      refine Eg m t U f (by rw[d2];exact g) fun w4 R l=>?_
      exact Z6 o f ⟨R,r.trans l,by rw[u,step false (by rw[j false (by rw[d3];rfl)];rfl)]⟩
     | true=>
      (repeat refine Hd.h ?_)
      refine ld m t rfl ?_
      (repeat refine Hd.h ?_)
      cases d4:c.iface with
      | false=>
       simp only[Bool.not_true,Bool.not_false]
       (repeat refine Hd.h ?_)
       refine Eg m t U f (by rw[d2];exact g) fun w4 R l=>?_
       exact Z6 o f ⟨R,r.trans l,by rw[u,step true (by rw[j true (by rw[d3];rfl),d4];rfl)]⟩
      | true=>
       simp only[Bool.not_true,Bool.not_false]
       (repeat refine Hd.h ?_)
       refine ld m g rfl ?_
       (repeat refine Hd.h ?_)
       refine Eg m t U f (by rw[d2];exact g) fun w4 R l=>?_
       exact Z6 o f ⟨R,r.trans l,by rw[u,step true (by rw[j true (by rw[d3];rfl),d4];rfl)]⟩
 ·have f: ¬n<c.methods.length:=by simpa using hc
  obtain rfl:n=c.methods.length:=by omega
  exact h _ _ Y
theorem X14 {c:Cla} {L M mv:Value} {w1:World} {σ1:Q4} {q:Addr} {ok:Bool} (d:X4 w1 σ1) (g:Z2 σ1 q [S c.name,S c.super,L, .bool c.iface, .bool c.abs, .bool c.fin,M,mv]) (h:K (.bool (ok&&Q6O c)) w1):
 Q0 (Value.bool ok) true w1 (fieldAddr P T.a (.pointer (some q)) 3) fun l w=>
  Q0 (Value.bool ok) true w (Q2 P T.n l) fun j w=>
  Q0 (Value.bool ok) true w (J5 P .not j) fun o w=>
  Q0 (Value.bool ok) true w (fun w J=>J o w) fun b w=>
  Q0 b false w (fieldAddr P T.a (.pointer (some q)) 4) fun z w=>
  Q0 b false w (Q2 P T.n z) fun n w=>
  Q0 b false w (fun w J=>J n w) fun e w=>
  Q0 e true w (fieldAddr P T.a (.pointer (some q)) 1) fun m w=>
  Q0 e true w (Q2 P T.b m) fun A w=>
  Q0 e true w (Q3 P .eql T.b (.tmp 185) (.const (.string ⟨#[79,98,106,101,99,116]⟩)) A (.string ⟨#[79,98,106,101,99,116]⟩)) fun C w=>
  Q0 b false w (pick P e C (.bool false)) fun s w=>
  Q0 (Value.bool ok) true w (pick P b (.bool true) s) fun t w=>
  pick P (Value.bool ok) t (.bool false) w fun a w=>
  Q0 a true w (fieldAddr P T.a (.pointer (some q)) 4) fun p w=>
  Q0 a true w (Q2 P T.n p) fun r w=>
  Q0 a true w (fun w J=>J r w) fun f w=>
  Q0 f true w (fieldAddr P T.a (.pointer (some q)) 5) fun k w=>
  Q0 f true w (Q2 P T.n k) fun u w=>
  Q0 a true w (pick P f u (.bool false)) fun B w=>
  Q0 a true w (J5 P .not B) fun y w=>
  pick P a y (.bool false) w fun v w=>
  K v w:=by
 unfold Q6O at h
 have H:decide (c.super=Z7)=decide (c.super=[79,98,106,101,99,116]):=rfl
 rw[H] at h
 cases ok with
 | false=>(try simp only[↓M1,M1,Mb,reduceIte]);simpa using h
 | true=>
  (try simp only[↓M1,M1,Mb,reduceIte])
  refine ld d g rfl ?_
  (try simp only[↓M1,M1,Mb,reduceIte])
  cases D:c.iface with
  | false=>
   rw[D] at h
   (try simp only[↓M1,M1,Mb,reduceIte])
   refine ld d g rfl ?_
   cases i:c.abs with
   | false=>rw[i] at h;(try simp only[↓M1,M1,Mb,reduceIte]);simpa using h
   | true=>
    rw[i] at h
    (try simp only[↓M1,M1,Mb,reduceIte])
    refine ld d g rfl ?_
    (try simp only[↓M1,M1,Mb,reduceIte])
    simpa using h
  | true=>
   rw[D] at h
   (try simp only[↓M1,M1,Mb,reduceIte])
   refine ld d g rfl ?_
   cases i:c.abs with
   | false=>rw[i] at h;(try simp only[↓M1,M1,Mb,reduceIte]);simpa using h
   | true=>
    rw[i] at h
    (try simp only[↓M1,M1,Mb,reduceIte])
    refine ld d g rfl ?_
    (try simp only[↓M1,M1,Mb,reduceIte])
    cases E:decide (c.super=[79,98,106,101,99,116]) with
    | false=>rw[E] at h;(try simp only[↓M1,M1,Mb,reduceIte]);simpa using h
    | true=>
     rw[E] at h
     (try simp only[↓M1,M1,Mb,reduceIte])
     refine ld d g rfl ?_
     simp only[i,↓M1,M1,Mb,reduceIte]
     refine ld d g rfl ?_
     (try simp only[↓M1,M1,Mb,reduceIte])
     simpa using h
end Go.Proofs.YtfppjenblllfaaaGreatDoor

namespace Go.Proofs.YtfppjenblllfaaaGreatDoor
open Go.Emb Go.RowKit Go.Kd Go.Hm
theorem Q5R {c:Cla} (h:M3 c=0):W3 c.name=true∧W3 c.super=true∧(c.iface=true→c.super=Z7∧c.fields=[]∧c.abs=true∧ ∀m∈c.methods,m.abs=true)∧(∀m∈c.methods,m.abs=true→c.abs=true)∧c.fields.all Oi=true∧c.methods.all B4=true∧H2 Fld.name [] c.fields=true∧H2 Hm.Met.name [] c.methods=true:=by
 unfold M3 at h
 split at h
 ·cases h
 split at h
 ·rename_i k
  simp only[Wm,Bool.and_eq_true] at k
  obtain ⟨⟨⟨⟨⟨⟨⟨⟨j,v⟩,u⟩,i⟩,f⟩,n⟩,p⟩,o⟩,r⟩:=k
  refine ⟨List.all_eq_true.1 j c.name (by simp),List.all_eq_true.1 j c.super (by simp),fun t=>?_,fun m g q=>?_,o,r,n,p⟩
  ·rw[t] at i
   simp only[Bool.true_and,Bool.not_eq_true',Bool.or_eq_false_iff,Bool.not_eq_false',decide_eq_true_eq] at i
   obtain ⟨⟨⟨a,b⟩,d⟩,e⟩:=i
   refine ⟨b,d,a,fun m g=>?_⟩
   have:=List.any_eq_false.1 e m g
   simpa using this
  ·simp only[Bool.not_eq_true',Bool.or_eq_false_iff] at f
   obtain ⟨_,f⟩:=f
   have s:c.methods.any (·.abs)=true:=List.any_eq_true.2 ⟨m,g,q⟩
   rw[s] at f
   simpa using f
 ·cases h
theorem Q6F {l:List Cla} {c:Cla} (b:c∈Q6 l) (a:c.iface=true):c∈l:=by
 rcases List.mem_append.1 b with h | h
 ·have: ∀c∈F8,c.iface=false:=by decide
  rw[this c h] at a;cases a
 ·exact h
section
variable {l : List Cla} (wf : Wf l)
include wf
theorem Wf.likes {c:Cla} (f:c∈Q6 l) {u:X0} (b:u∈c.like): ∃d,lk (Q6 l) u=some d∧d.iface=true:=by
 rcases List.mem_append.1 f with h | h
 ·rw[(Zr c h).2.2] at b;simp at b
 ·have:=wf.up c h
  unfold L5 at this
  split at this
  ·cases this
  ·split at this
   ·cases this
   ·rename_i a
    have a:=List.any_eq_false.1 (eq_false_of_ne_true a) u b
    unfold O8 at a
    cases e:lk (Q6 l) u with
    | none=>rw[e] at a;simp at a
    | some d=>rw[e] at a;exact ⟨d,rfl,by simpa using a⟩
theorem Wf.above_iface {u b:X0} (h:Hm.Reach (lk (Q6 l)) u b): ∀d,lk (Q6 l) u=some d→d.iface=true→b=Z7∨ ∃e,lk (Q6 l) b=some e∧e.iface=true:=by
 induction h with
 | refl h=>intro d c a;exact .inr ⟨d,c,a⟩
 | step j hu k n=>
  intro d c a
  rw[j] at c;cases c
  obtain ⟨e,i,_⟩:=U7 j
  rcases List.mem_cons.1 hu with rfl | hu
  ·rw[((Q5R (wf.ck _ (Q6F i a))).2.2.1 a).1] at k
   exact .inl (wf.atRoot k)
  ·obtain ⟨f,m,g⟩:=wf.likes i hu
   exact n f m g
theorem Wf.by_chain {n b:X0} (h:Hm.Reach (lk (Q6 l)) n b): ∀e,lk (Q6 l) b=some e→e.iface=false→b≠Z7→e∈chain (Q6 l) n:=by
 induction h with
 | refl h=>
  intro e c _ _
  rw[G2 wf.acy,c];simp
 | step k hu o r=>
  intro e c m j
  obtain ⟨en,q,_⟩:=U7 k
  rcases List.mem_cons.1 hu with rfl | hu
  ·rw[G2 wf.acy,k]
   exact List.mem_cons_of_mem _ (r e c m j)
  ·obtain ⟨f,p,d⟩:=wf.likes q hu
   rcases wf.above_iface o f p d with h | ⟨g,i,a⟩
   ·exact absurd h j
   ·rw[c] at i;cases i;rw[m] at a;cases a
theorem Wf.chain_tail: ∀(k:Nat) {n:X0} {c:Cla},G1 (Q6 l) n<k→c∈chain (Q6 l) n→ ∃a,chain (Q6 l) n=a++chain (Q6 l) c.name:=by
 intro k
 induction k with
 | zero=>intro n c h;omega
 | succ k i=>
  intro n c o hc
  rw[G2 wf.acy] at hc
  cases b:lk (Q6 l) n with
  | none=>rw[b] at hc;simp at hc
  | some d=>
   rw[b] at hc
   have f:=(U7 b).1
   rcases List.mem_cons.1 hc with rfl | hc
   ·exact ⟨[],by rw[f];rfl⟩
   ·cases g:lk (Q6 l) d.super with
    | none=>rw[P6 g] at hc;simp at hc
    | some e=>
     have m:d.super∈J3 d:=by simp[J3]
     obtain ⟨a,j⟩:=i (by have:=Xx wf.acy b m g;omega) hc
     exact ⟨d::a,by rw[G2 wf.acy,b];show d::chain (Q6 l) d.super=_;rw[j];rfl⟩
theorem Wf.fields_tail {n:X0} {c:Cla} (h:c∈chain (Q6 l) n): ∃a,M7 (Q6 l) n=M7 (Q6 l) c.name++a:=by
 obtain ⟨b,d⟩:=wf.chain_tail _ (Nat.lt_succ_self _) h
 exact ⟨b.reverse.flatMap (·.fields),by unfold M7;rw[d];simp⟩
theorem Wf.none_nil:lk (Q6 l) []=none:=by
 cases h:lk (Q6 l) [] with
 | none=>rfl
 | some c=>exact absurd (wf.lkn h) (by decide)
theorem Wf.fault_fields:M7 (Q6 l) W0=[⟨K7,N7,false⟩]:=by
 unfold M7
 rw[G2 wf.acy,wf.fault]
 simp only
 rw[G2 wf.acy,wf.root]
 simp only
 rw[P6 wf.none_nil]
 rfl
theorem Wf.what {n:X0} (h:H8 (Q6 l) n W0=true) {c:Cla} (b:lk (Q6 l) n=some c):Xv (Q6 l) n K7=some 0:=by
 have f:=(wf.sub_class b).1 h
 have e:=wf.by_chain f _ wf.fault rfl (by decide)
 obtain ⟨a,d⟩:=wf.fields_tail e
 unfold Xv
 rw[d,show (Cla.mk W0 Z7 [] false false false [⟨K7,N7,false⟩] []).name=W0 from rfl,wf.fault_fields]
 rfl
end
end Go.Proofs.YtfppjenblllfaaaGreatDoor

namespace Go.Hm
open Go.Kd
end Go.Hm
namespace Go.Proofs.YtfppjenblllfaaaGreatDoor
open Go.Emb Go.RowKit Go.Kd Go.Hm
section
variable {l : List Cla} (wf : Wf l)
include wf
end
end Go.Proofs.YtfppjenblllfaaaGreatDoor
namespace Go.Proofs.YtfppjenblllfaaaGreatDoor
open Go.Emb Go.RowKit Go.Kd Go.Hm
end Go.Proofs.YtfppjenblllfaaaGreatDoor
namespace Go.Proofs.YtfppjenblllfaaaGreatDoor
open Go.Emb Go.RowKit Go.Kd Go.Hm
section
variable {l : List Cla} (wf : Wf l)
include wf
end
end Go.Proofs.YtfppjenblllfaaaGreatDoor

namespace Go.Proofs.YtfppjenblllfaaaGreatDoor
open Go.Emb Go.RowKit Go.Kd Go.Hm
variable {w : World} {K : Value → World → Prop} {σ : Q4}
def Q4Y (c:Cla):Bool:=((((W3 c.name&&W3 c.super&& !decide (c.name=c.super))&&(List.range c.like.length).all fun i=>Lx c i&&(List.range i).all (K1 c i))&&(List.range c.fields.length).all fun i=>Np c i&&(List.range i).all (Qm c i))&&(List.range c.methods.length).all fun i=>Li c i&&(List.range i).all (Qn c i))&&Q6O c
theorem Q9c {α:Type} {f:α→X0}: ∀(xs a:List α),H2 f a xs=true↔(xs.map f).Nodup∧ ∀x∈xs,∀y∈a,f y≠f x:=by
 intro xs
 induction xs with
 | nil=>intro a;simp[H2]
 | cons x r h=>
  intro a
  simp only[H2,Bool.and_eq_true,h,Bool.not_eq_true',List.map_cons,List.nodup_cons]
  rw[←Bool.not_eq_true,List.any_eq_true]
  simp only[decide_eq_true_eq,not_exists,not_and,List.mem_append,List.mem_cons,List.not_mem_nil,or_false,List.mem_map]
  constructor
  ·rintro ⟨d,g,c⟩
   refine ⟨⟨fun y hy e=>c y hy x (.inr rfl) e.symm,g⟩,fun y hy z b=>?_⟩
   rcases hy with rfl | hy
   ·exact d z b
   ·exact c y hy z (.inl b)
  ·rintro ⟨⟨d,g⟩,c⟩
   refine ⟨fun y hy=>c x (.inl rfl) y hy,g,fun y hy z b=>?_⟩
   rcases b with b | rfl
   ·exact c y (.inr hy) z b
   ·exact fun e=>d y hy e.symm
theorem Tx {α:Type} {f:α→X0} {xs:List α} {p:α→Bool} {P:Nat→Bool} {Q:Nat→Nat→Bool} (c: ∀i (h:i<xs.length),P i=p xs[i]) (e: ∀i (h:i<xs.length) k (o:k<xs.length),Q i k= !decide (f xs[k]=f xs[i])):
 ((List.range xs.length).all fun i=>P i&&(List.range i).all (Q i))=true↔(∀x∈xs,p x=true)∧H2 f [] xs=true:=by
 rw[Q9c,List.all_eq_true]
 simp only[List.mem_range,Bool.and_eq_true,List.all_eq_true,List.not_mem_nil,false_implies,implies_true,and_true]
 rw[List.nodup_iff_pairwise_ne,List.pairwise_iff_getElem]
 simp only[List.length_map,List.getElem_map]
 constructor
 ·intro h
  refine ⟨fun x m=>?_,fun i j a d b=>?_⟩
  ·obtain ⟨i,a,rfl⟩:=List.getElem_of_mem m
   rw[←c i a];exact (h i a).1
  ·have:=(h j d).2 i b
   rw[e j d i a] at this
   simpa using this
 ·rintro ⟨g,l⟩ i a
  refine ⟨by rw[c i a];exact g _ (List.getElem_mem a),fun k n=>?_⟩
  rw[e i a k (by omega)]
  simpa using l k i (by omega) a n
theorem Q8R (c:Cla):Q4Y c=Wm c:=by
 have v:=Tx (f:=id) (xs:=c.like) (p:=fun y=>W3 y&& !decide (y=c.name)) (P:=Lx c) (Q:=K1 c) (fun i h=>by unfold Lx;rw[E7 h]) (fun i h k n=>by unfold K1;rw[E7 h,E7 n];rfl)
 have g:=Tx (f:=Fld.name) (xs:=c.fields) (p:=fun f=>L7 f.name&&right f.kind&& !c.iface) (P:=Np c) (Q:=Qm c) (fun i h=>by unfold Np Rr;rw[E7 h]) (fun i h k n=>by unfold Qm Rr;rw[E7 h,E7 n])
 have d:=Tx (f:=Hm.Met.name) (xs:=c.methods) (p:=fun m=>B4 m&&(!m.abs||c.abs)&&(!c.iface||m.abs)) (P:=Li c) (Q:=Qn c) (fun i h=>by unfold Li Dp;rw[E7 h]) (fun i h k n=>by unfold Qn Dp;rw[E7 h,E7 n])
 rw[Bool.eq_iff_iff]
 unfold Q4Y Wm Q6O
 simp only[Bool.and_eq_true,v,g,d]
 simp only[Bool.and_eq_true,Bool.not_eq_true',Bool.or_eq_true,Bool.and_eq_false_iff,Bool.or_eq_false_iff,decide_eq_true_eq,decide_eq_false_iff_not,List.all_eq_true,List.mem_cons,List.any_eq_false,Oi,Bool.not_eq_false']
 constructor
 ·rintro ⟨⟨⟨⟨⟨⟨l,o⟩,t⟩,a,r⟩,h6,s⟩,j,q⟩,b,u⟩
  refine ⟨⟨⟨⟨⟨⟨⟨⟨?_,?_⟩,r⟩,?_⟩,u,?_⟩,s⟩,q⟩,?_⟩,fun m d=>(j m d).1.1⟩
  ·rintro x (rfl | rfl | hx)
   ·exact l
   ·exact o
   ·exact (a x hx).1
  ·rintro x (rfl | hx)
   ·exact t
   ·exact fun e=>(a x hx).2 e.symm
  ·cases A:c.iface with
   | false=>exact .inl rfl
   | true=>
    rw[A] at b h6 j
    have b:=b.resolve_left (by decide)
    refine .inr ⟨⟨b,?_⟩,fun m d e=>?_⟩
    ·rw[List.eq_nil_iff_forall_not_mem]
     intro f g
     exact absurd (h6 f g).2 (by decide)
    ·have:=(j m d).2.resolve_left (by decide)
     rw[this] at e;cases e
  ·cases z:c.abs with
   | true=>exact .inr rfl
   | false=>
    rw[z] at j
    refine .inl fun m d e=>?_
    have:=(j m d).1.2.resolve_right (by decide)
    rw[this] at e;cases e
  ·exact fun f g=>(h6 f g).1
 ·rintro ⟨⟨⟨⟨⟨⟨⟨⟨l,o⟩,t⟩,a⟩,r,h6⟩,s⟩,j⟩,q⟩,b⟩
  refine ⟨⟨⟨⟨⟨⟨l _ (.inl rfl),l _ (.inr (.inl rfl))⟩,o _ (.inl rfl)⟩,fun x hx=>⟨l x (.inr (.inr hx)),fun e=>o x (.inr hx) e.symm⟩,t⟩,fun f g=>⟨q f g,?_⟩,s⟩,fun m d=>⟨⟨b m d,?_⟩,?_⟩,j⟩,?_,r⟩
  ·rcases a with a | ⟨⟨_,a⟩,_⟩
   ·exact a
   ·rw[a] at g;simp at g
  ·rcases h6 with h6 | h6
   ·left;exact eq_false_of_ne_true (h6 m d)
   ·exact .inr h6
  ·rcases a with a | ⟨_,a⟩
   ·exact .inl a
   ·right
    cases hx:m.abs with
    | true=>rfl
    | false=>exact absurd hx (a m d)
  ·rcases a with a | ⟨⟨a,_⟩,_⟩
   ·exact .inl a
   ·exact .inr a
set_option maxHeartbeats 4000000 in
theorem Q85 {c:Cla} {cs:List Value} (hs:X4 w σ) (hc:U8 σ c cs) (h: ∀w' σ',Stp w σ w' σ'→K (.bool (Q4Y c)) w'):Q1 P F.ba [.agg cs.toArray] w K:=Fl (by
 unfold Wj
 obtain ⟨lv,fv,mv,rfl,f1,f2,f3,f4,f5⟩:=hc
 have db:c.name.length≤140737488355328:=by simp only[J0] at f4;omega
 have c5:c.super.length≤140737488355328:=by simp only[J0] at f5;omega
 refine Z0 hs fun q w1 σ1 bb hq=>?_
 have g1:=f1.up bb
 have g2:=f2.up bb
 have g3:=f3.up bb
 have b6:=bb.sat
 have ci: ∀ok:Bool,ok=(W3 c.name&&W3 c.super&& !decide (c.name=c.super))→_:=fun ok e=>
  Q9d (w1:=w1) (σ1:=σ1) (ok:=ok) b6 hq (J:=fun v w=>lp (α:=Value×Value) (v,(.int .i64 0)) w fun bz o d_ w=>
   fieldAddr P T.a (.pointer (some q)) 6 w fun c9 w=>
   Q2 P T.i c9 w fun de w=>
   X5 P .len [T.i] T.e [false] [de] w fun cv w=>
   Q3 P .lss T.e (.tmp 71) (.tmp 74) o.2 cv w fun dd w=>
   X1 dd (
    Q0 o.1 true w (fieldAddr P T.a (.pointer (some q)) 6) fun ct w=>
    Q0 o.1 true w (Q2 P T.i ct) fun da w=>
    Q0 o.1 true w (fun w J=>J o.2 w) fun cz w=>
    Q0 o.1 true w (indexAddr P T.i da cz) fun c6 w=>
    Q0 o.1 true w (fieldAddr P T.m c6 0) fun cq w=>
    Q0 o.1 true w (Q2 P T.b cq) fun cu w=>
    Q0 o.1 true w (Q1 P F.r [cu]) fun cy w=>
    pick P o.1 cy (.bool false) w fun X w=>
    Q0 X true w (fieldAddr P T.a (.pointer (some q)) 6) fun c8 w=>
    Q0 X true w (Q2 P T.i c8) fun dc w=>
    Q0 X true w (fun w J=>J o.2 w) fun c2 w=>
    Q0 X true w (indexAddr P T.i dc c2) fun cw w=>
    Q0 X true w (fieldAddr P T.m cw 1) fun c1 w=>
    Q0 X true w (Q2 P T.b c1) fun c4 w=>
    Q0 X true w (Q1 P F.i [c4]) fun cr w=>
    pick P X cr (.bool false) w fun cd w=>
    Q0 cd true w (fieldAddr P T.a (.pointer (some q)) 3) fun c7 w=>
    Q0 cd true w (Q2 P T.n c7) fun c3 w=>
    Q0 cd true w (J5 P .not c3) fun cj w=>
    pick P cd cj (.bool false) w fun cn w=>
    lp (α:=Value×Value) (cn,(.int .i64 0)) w fun bd l d_ w=>
     Q3 P .lss T.e (.tmp 102) (.tmp 103) l.2 o.2 w fun cm w=>
     X1 cm (
      dr w fun d n=>
      Q7 d (fun ax=> ∀w:World,n w→Q0 l.1 true w (fieldAddr P T.a (.pointer (some q)) 6) (dk d ax w)) fun ax=>
      Q7 d (fun a9=> ∀w:World,n w→Q0 l.1 true w (fun w J=>J l.2 w) (dk d a9 w)) fun a9=>
      Q7 d (fun a0=> ∀w:World,n w→Q0 l.1 true w (fieldAddr P T.a (.pointer (some q)) 6) (dk d a0 w)) fun a0=>
      Q7 d (fun ar=> ∀w:World,n w→Q0 l.1 true w (fun w J=>J o.2 w) (dk d ar w)) fun ar=>
      Q7 d (fun a5=> ∀aw:Value,∀w:World,n w→ax aw w→Q0 l.1 true w (Q2 P T.i aw) (dk d a5 w)) fun a5=>
      Q7 d (fun ao=> ∀a3:Value,∀a2:Value,∀w:World,n w→a5 a3 w→a9 a2 w→Q0 l.1 true w (indexAddr P T.i a3 a2) (dk d ao w)) fun ao=>
      Q7 d (fun aq=> ∀a6:Value,∀w:World,n w→ao a6 w→Q0 l.1 true w (fieldAddr P T.m a6 0) (dk d aq w)) fun aq=>
      Q7 d (fun b2=> ∀ap:Value,∀w:World,n w→aq ap w→Q0 l.1 true w (Q2 P T.b ap) (dk d b2 w)) fun b2=>
      Q7 d (fun ba=> ∀a7:Value,∀w:World,n w→a0 a7 w→Q0 l.1 true w (Q2 P T.i a7) (dk d ba w)) fun ba=>
      Q7 d (fun a8=> ∀av:Value,∀a4:Value,∀w:World,n w→ba av w→ar a4 w→Q0 l.1 true w (indexAddr P T.i av a4) (dk d a8 w)) fun a8=>
      Q7 d (fun a1=> ∀ay:Value,∀w:World,n w→a8 ay w→Q0 l.1 true w (fieldAddr P T.m ay 0) (dk d a1 w)) fun a1=>
      Q7 d (fun bn=> ∀az:Value,∀w:World,n w→a1 az w→Q0 l.1 true w (Q2 P T.b az) (dk d bn w)) fun bn=>
      ∀aw:Value,∀a2:Value,∀a7:Value,∀a4:Value,∀a3:Value,∀a6:Value,∀ap:Value,∀ce:Value,∀av:Value,∀ay:Value,∀az:Value,∀cf:Value,∀w:World,n w→ax aw w→a9 a2 w→a0 a7 w→ar a4 w→a5 a3 w→ao a6 w→aq ap w→b2 ce w→ba av w→a8 ay w→a1 az w→bn cf w→
      Q0 l.1 true w (Q3 P .neq T.b (.tmp 114) (.tmp 120) ce cf) fun ck w=>
      pick P l.1 ck (.bool false) w fun cp w=>
      Q3 P .add T.e (.tmp 105) (.const (.int .i64 1)) l.2 (.int .i64 1) w fun co w=>
      bd (cp,co) w) (
      Q3 P .add T.e (.tmp 76) (.const (.int .i64 1)) o.2 (.int .i64 1) w fun c0 w=>
      bz (l.1,c0) w)) (
    lp (α:=Value×Value) (o.1,(.int .i64 0)) w fun L f d_ w=>
     fieldAddr P T.a (.pointer (some q)) 7 w fun bj w=>
     Q2 P T.f bj w fun b9 w=>
     X5 P .len [T.f] T.e [false] [b9] w fun b8 w=>
     Q3 P .lss T.e (.tmp 123) (.tmp 126) f.2 b8 w fun b5 w=>
     X1 b5 (
      fieldAddr P T.a (.pointer (some q)) 7 w fun bc w=>
      Q2 P T.f bc w fun cb w=>
      indexAddr P T.f cb f.2 w fun bl w=>
      Q2 P T.c bl w fun bw w=>
      W7 P T.c w fun t9 w=>
      Z4 P T.c t9 bw w fun _u w=>
      Q0 f.1 true w (Q2 P T.c t9) fun bu w=>
      Q0 f.1 true w (Q1 P F.w [bu]) fun b3 w=>
      pick P f.1 b3 (.bool false) w fun j w=>
      Q0 j true w (fieldAddr P T.c t9 3) fun bh w=>
      Q0 j true w (Q2 P T.n bh) fun b1 w=>
      Q0 j true w (J5 P .not b1) fun bk w=>
      Q0 j true w (fun w J=>J bk w) fun H w=>
      Q0 H false w (fieldAddr P T.a (.pointer (some q)) 4) fun bp w=>
      Q0 H false w (Q2 P T.n bp) fun bm w=>
      Q0 j true w (pick P H (.bool true) bm) fun be w=>
      pick P j be (.bool false) w fun k w=>
      Q0 k true w (fieldAddr P T.a (.pointer (some q)) 3) fun bo w=>
      Q0 k true w (Q2 P T.n bo) fun bg w=>
      Q0 k true w (J5 P .not bg) fun bi w=>
      Q0 k true w (fun w J=>J bi w) fun Q w=>
      Q0 Q false w (fieldAddr P T.c t9 3) fun bs w=>
      Q0 Q false w (Q2 P T.n bs) fun cc w=>
      Q0 k true w (pick P Q (.bool true) cc) fun ca w=>
      pick P k ca (.bool false) w fun bx w=>
      lp (α:=Value×Value) (bx,(.int .i64 0)) w fun N b d_ w=>
       Q3 P .lss T.e (.tmp 158) (.tmp 159) b.2 f.2 w fun b0 w=>
       X1 b0 (
        dr w fun d n=>
        Q7 d (fun D=> ∀w:World,n w→Q0 b.1 true w (fieldAddr P T.a (.pointer (some q)) 7) (dk d D w)) fun D=>
        Q7 d (fun z=> ∀w:World,n w→Q0 b.1 true w (fun w J=>J b.2 w) (dk d z w)) fun z=>
        Q7 d (fun t=> ∀w:World,n w→Q0 b.1 true w (fieldAddr P T.c t9 0) (dk d t w)) fun t=>
        Q7 d (fun E=> ∀B:Value,∀w:World,n w→D B w→Q0 b.1 true w (Q2 P T.f B) (dk d E w)) fun E=>
        Q7 d (fun u=> ∀y:Value,∀s:Value,∀w:World,n w→E y w→z s w→Q0 b.1 true w (indexAddr P T.f y s) (dk d u w)) fun u=>
        Q7 d (fun C=> ∀r:Value,∀w:World,n w→u r w→Q0 b.1 true w (fieldAddr P T.c r 0) (dk d C w)) fun C=>
        Q7 d (fun O=> ∀A:Value,∀w:World,n w→C A w→Q0 b.1 true w (Q2 P T.b A) (dk d O w)) fun O=>
        Q7 d (fun M=> ∀p:Value,∀w:World,n w→t p w→Q0 b.1 true w (Q2 P T.b p) (dk d M w)) fun M=>
        ∀B:Value,∀s:Value,∀p:Value,∀y:Value,∀r:Value,∀A:Value,∀ah:Value,∀Y:Value,∀w:World,n w→D B w→z s w→t p w→E y w→u r w→C A w→O ah w→M Y w→
        Q0 b.1 true w (Q3 P .neq T.b (.tmp 170) (.tmp 172) ah Y) fun b4 w=>
        pick P b.1 b4 (.bool false) w fun br w=>
        Q3 P .add T.e (.tmp 161) (.const (.int .i64 1)) b.2 (.int .i64 1) w fun bq w=>
        N (br,bq) w) (
        Q3 P .add T.e (.tmp 128) (.const (.int .i64 1)) f.2 (.int .i64 1) w fun b7 w=>
        L (b.1,b7) w)) (
      Q0 f.1 true w (fieldAddr P T.a (.pointer (some q)) 3) fun aa w=>
      Q0 f.1 true w (Q2 P T.n aa) fun R w=>
      Q0 f.1 true w (J5 P .not R) fun aj w=>
      Q0 f.1 true w (fun w J=>J aj w) fun g w=>
      Q0 g false w (fieldAddr P T.a (.pointer (some q)) 4) fun af w=>
      Q0 g false w (Q2 P T.n af) fun ai w=>
      Q0 g false w (fun w J=>J ai w) fun i w=>
      Q0 i true w (fieldAddr P T.a (.pointer (some q)) 1) fun ab w=>
      Q0 i true w (Q2 P T.b ab) fun ad w=>
      Q0 i true w (Q3 P .eql T.b (.tmp 185) (.const (.string ⟨#[79,98,106,101,99,116]⟩)) ad (.string ⟨#[79,98,106,101,99,116]⟩)) fun ag w=>
      Q0 g false w (pick P i ag (.bool false)) fun U w=>
      Q0 f.1 true w (pick P g (.bool true) U) fun ak w=>
      pick P f.1 ak (.bool false) w fun a w=>
      Q0 a true w (fieldAddr P T.a (.pointer (some q)) 4) fun ae w=>
      Q0 a true w (Q2 P T.n ae) fun ac w=>
      Q0 a true w (fun w J=>J ac w) fun m w=>
      Q0 m true w (fieldAddr P T.a (.pointer (some q)) 5) fun Z w=>
      Q0 m true w (Q2 P T.n Z) fun al w=>
      Q0 a true w (pick P m al (.bool false)) fun am w=>
      Q0 a true w (J5 P .not am) fun W w=>
      pick P a W (.bool false) w fun V w=>
      K V w))) f4 g1 fun w2 σ2 an=>
  X0Q (J:=fun v w=>lp (α:=Value×Value) (v,(.int .i64 0)) w fun L f d_ w=>
   fieldAddr P T.a (.pointer (some q)) 7 w fun bj w=>
   Q2 P T.f bj w fun b9 w=>
   X5 P .len [T.f] T.e [false] [b9] w fun b8 w=>
   Q3 P .lss T.e (.tmp 123) (.tmp 126) f.2 b8 w fun b5 w=>
   X1 b5 (
    fieldAddr P T.a (.pointer (some q)) 7 w fun bc w=>
    Q2 P T.f bc w fun cb w=>
    indexAddr P T.f cb f.2 w fun bl w=>
    Q2 P T.c bl w fun bw w=>
    W7 P T.c w fun t9 w=>
    Z4 P T.c t9 bw w fun _u w=>
    Q0 f.1 true w (Q2 P T.c t9) fun bu w=>
    Q0 f.1 true w (Q1 P F.w [bu]) fun b3 w=>
    pick P f.1 b3 (.bool false) w fun j w=>
    Q0 j true w (fieldAddr P T.c t9 3) fun bh w=>
    Q0 j true w (Q2 P T.n bh) fun b1 w=>
    Q0 j true w (J5 P .not b1) fun bk w=>
    Q0 j true w (fun w J=>J bk w) fun H w=>
    Q0 H false w (fieldAddr P T.a (.pointer (some q)) 4) fun bp w=>
    Q0 H false w (Q2 P T.n bp) fun bm w=>
    Q0 j true w (pick P H (.bool true) bm) fun be w=>
    pick P j be (.bool false) w fun k w=>
    Q0 k true w (fieldAddr P T.a (.pointer (some q)) 3) fun bo w=>
    Q0 k true w (Q2 P T.n bo) fun bg w=>
    Q0 k true w (J5 P .not bg) fun bi w=>
    Q0 k true w (fun w J=>J bi w) fun Q w=>
    Q0 Q false w (fieldAddr P T.c t9 3) fun bs w=>
    Q0 Q false w (Q2 P T.n bs) fun cc w=>
    Q0 k true w (pick P Q (.bool true) cc) fun ca w=>
    pick P k ca (.bool false) w fun bx w=>
    lp (α:=Value×Value) (bx,(.int .i64 0)) w fun N b d_ w=>
     Q3 P .lss T.e (.tmp 158) (.tmp 159) b.2 f.2 w fun b0 w=>
     X1 b0 (
      dr w fun d n=>
      Q7 d (fun D=> ∀w:World,n w→Q0 b.1 true w (fieldAddr P T.a (.pointer (some q)) 7) (dk d D w)) fun D=>
      Q7 d (fun z=> ∀w:World,n w→Q0 b.1 true w (fun w J=>J b.2 w) (dk d z w)) fun z=>
      Q7 d (fun t=> ∀w:World,n w→Q0 b.1 true w (fieldAddr P T.c t9 0) (dk d t w)) fun t=>
      Q7 d (fun E=> ∀B:Value,∀w:World,n w→D B w→Q0 b.1 true w (Q2 P T.f B) (dk d E w)) fun E=>
      Q7 d (fun u=> ∀y:Value,∀s:Value,∀w:World,n w→E y w→z s w→Q0 b.1 true w (indexAddr P T.f y s) (dk d u w)) fun u=>
      Q7 d (fun C=> ∀r:Value,∀w:World,n w→u r w→Q0 b.1 true w (fieldAddr P T.c r 0) (dk d C w)) fun C=>
      Q7 d (fun O=> ∀A:Value,∀w:World,n w→C A w→Q0 b.1 true w (Q2 P T.b A) (dk d O w)) fun O=>
      Q7 d (fun M=> ∀p:Value,∀w:World,n w→t p w→Q0 b.1 true w (Q2 P T.b p) (dk d M w)) fun M=>
      ∀B:Value,∀s:Value,∀p:Value,∀y:Value,∀r:Value,∀A:Value,∀ah:Value,∀Y:Value,∀w:World,n w→D B w→z s w→t p w→E y w→u r w→C A w→O ah w→M Y w→
      Q0 b.1 true w (Q3 P .neq T.b (.tmp 170) (.tmp 172) ah Y) fun b4 w=>
      pick P b.1 b4 (.bool false) w fun br w=>
      Q3 P .add T.e (.tmp 161) (.const (.int .i64 1)) b.2 (.int .i64 1) w fun bq w=>
      N (br,bq) w) (
      Q3 P .add T.e (.tmp 128) (.const (.int .i64 1)) f.2 (.int .i64 1) w fun b7 w=>
      L (b.1,b7) w)) (
    Q0 f.1 true w (fieldAddr P T.a (.pointer (some q)) 3) fun aa w=>
    Q0 f.1 true w (Q2 P T.n aa) fun R w=>
    Q0 f.1 true w (J5 P .not R) fun aj w=>
    Q0 f.1 true w (fun w J=>J aj w) fun g w=>
    Q0 g false w (fieldAddr P T.a (.pointer (some q)) 4) fun af w=>
    Q0 g false w (Q2 P T.n af) fun ai w=>
    Q0 g false w (fun w J=>J ai w) fun i w=>
    Q0 i true w (fieldAddr P T.a (.pointer (some q)) 1) fun ab w=>
    Q0 i true w (Q2 P T.b ab) fun ad w=>
    Q0 i true w (Q3 P .eql T.b (.tmp 185) (.const (.string ⟨#[79,98,106,101,99,116]⟩)) ad (.string ⟨#[79,98,106,101,99,116]⟩)) fun ag w=>
    Q0 g false w (pick P i ag (.bool false)) fun U w=>
    Q0 f.1 true w (pick P g (.bool true) U) fun ak w=>
    pick P f.1 ak (.bool false) w fun a w=>
    Q0 a true w (fieldAddr P T.a (.pointer (some q)) 4) fun ae w=>
    Q0 a true w (Q2 P T.n ae) fun ac w=>
    Q0 a true w (fun w J=>J ac w) fun m w=>
    Q0 m true w (fieldAddr P T.a (.pointer (some q)) 5) fun Z w=>
    Q0 m true w (Q2 P T.n Z) fun al w=>
    Q0 a true w (pick P m al (.bool false)) fun am w=>
    Q0 a true w (J5 P .not am) fun W w=>
    pick P a W (.bool false) w fun V w=>
    K V w)) an.sat (hq.up an) (g2.up an) fun w3 σ3 bf=>
  X0R (J:=fun v w=>Q0 v true w (fieldAddr P T.a (.pointer (some q)) 3) fun aa w=>
   Q0 v true w (Q2 P T.n aa) fun R w=>
   Q0 v true w (J5 P .not R) fun aj w=>
   Q0 v true w (fun w J=>J aj w) fun g w=>
   Q0 g false w (fieldAddr P T.a (.pointer (some q)) 4) fun af w=>
   Q0 g false w (Q2 P T.n af) fun ai w=>
   Q0 g false w (fun w J=>J ai w) fun i w=>
   Q0 i true w (fieldAddr P T.a (.pointer (some q)) 1) fun ab w=>
   Q0 i true w (Q2 P T.b ab) fun ad w=>
   Q0 i true w (Q3 P .eql T.b (.tmp 185) (.const (.string ⟨#[79,98,106,101,99,116]⟩)) ad (.string ⟨#[79,98,106,101,99,116]⟩)) fun ag w=>
   Q0 g false w (pick P i ag (.bool false)) fun U w=>
   Q0 v true w (pick P g (.bool true) U) fun ak w=>
   pick P v ak (.bool false) w fun a w=>
   Q0 a true w (fieldAddr P T.a (.pointer (some q)) 4) fun ae w=>
   Q0 a true w (Q2 P T.n ae) fun ac w=>
   Q0 a true w (fun w J=>J ac w) fun m w=>
   Q0 m true w (fieldAddr P T.a (.pointer (some q)) 5) fun Z w=>
   Q0 m true w (Q2 P T.n Z) fun al w=>
   Q0 a true w (pick P m al (.bool false)) fun am w=>
   Q0 a true w (J5 P .not am) fun W w=>
   pick P a W (.bool false) w fun V w=>
   K V w) bf.sat ((hq.up an).up bf) ((g3.up an).up bf) fun w4 σ4 ch=>
  X14 (K:=K) ch.sat (((hq.up an).up bf).up ch) (by rw[e];exact h _ _ (bb.trans (an.trans (bf.trans ch))))
 (repeat refine Hd.h ?_)
 refine ld b6 hq rfl ?_
 refine Qw c.name db ?_
 cases d1:W3 c.name with
 | false=>(repeat refine Hd.h ?_);exact ci false (by rw[d1];rfl)
 | true=>
  (repeat refine Hd.h ?_)
  refine ld b6 hq rfl ?_
  (repeat refine Hd.h ?_)
  refine Qw c.super c5 ?_
  cases d2:W3 c.super with
  | false=>(repeat refine Hd.h ?_);exact ci false (by rw[d1,d2];rfl)
  | true=>
   (repeat refine Hd.h ?_)
   refine ld b6 hq rfl ?_
   (repeat refine Hd.h ?_)
   refine ld b6 hq rfl ?_
   (repeat refine Hd.h ?_)
   refine Lu ?_
   (repeat refine Hd.h ?_)
   exact ci _ (by rw[d1,d2];rfl))
theorem Q2s {c:Cla} {cs:List Value} (n:X4 w σ) (d:U8 σ c cs) (h: ∀w' l,Stp w σ w' l→K (I (M3 c)) w'):Q1 P F.b7 [.agg cs.toArray] w K:=Gr (by
 unfold Vw
 have f:=Rep.one (R:=U8) d
 obtain ⟨o,p,mv,rfl,r,s,k,t,m⟩:=d
 have d:U8 σ c _:=⟨o,p,mv,rfl,r,s,k,t,m⟩
 refine Z0 n fun q w1 σ1 a j=>?_
 unfold M3 at h
 refine Z1 a.sat j rfl ?_
 refine Q9e a.sat (RCl_lift d ⟨a.le⟩) fun y u b=>?_
 cases i:Yd c with
 | true=>simp only[i,if_true] at h;(try simp only[↓M1,M1,Mb,reduceIte]);exact h _ _ (a.trans b)
 | false=>
  simp only[i,Bool.false_eq_true,if_false] at h
  (try simp only[↓M1,M1,Mb,reduceIte])
  refine Z1 b.sat (j.up b) rfl ?_
  refine Q85 b.sat (RCl_lift d ⟨(a.trans b).le⟩) fun z v e=>?_
  rw[Q8R]
  cases g:Wm c with
  | true=>simp only[g,if_true] at h;(try simp only[↓M1,M1,Mb,reduceIte]);exact h _ _ (a.trans (b.trans e))
  | false=>simp only[g,Bool.false_eq_true,if_false] at h;(try simp only[↓M1,M1,Mb,reduceIte]);exact h _ _ (a.trans (b.trans e)))
end Go.Proofs.YtfppjenblllfaaaGreatDoor

namespace Go.Emb
open Go.RowKit Go.Hm
end Go.Emb
namespace Go.Hm
end Go.Hm
namespace Go.Proofs.YtfppjenblllfaaaGreatDoor
open Go.Emb Go.RowKit Go.Kd Go.Hm
variable {w : World} {K : Value → World → Prop} {σ : Q4} {l : List Cla}
theorem Q4a {a b:X0} (ok:Ok (Q6 l)) (g:a.length≤J0) (f:b.length≤J0):(F6 (Q6 l) a b).length≤J0:=by
 unfold F6
 split
 ·exact f
 split
 ·exact g
 split
 ·exact Nat.zero_le _
 split
 ·rename_i c d
  have e:=(Q5x ok.acy _ (Nat.lt_succ_self _) (List.mem_of_find?_eq_some d)).2
  have:=(ok.nm c (U7 e).2.1).1
  exact Nat.le_trans this (by decide)
 ·decide
end Go.Proofs.YtfppjenblllfaaaGreatDoor

namespace Go.Hm
open Go.Kd
structure Alike (l m : List Cla) : Prop where
  lk : lk l = lk m
  len : l.length = m.length
  weigh : weigh l [] = weigh m []
section
variable {l m : List Cla} (h : Alike l m)
include h
end
theorem X1c {l:List Cla} {frm:Nat}: ∀(f:Nat) (out:List Nat) (i:Nat),∀y∈Zf l frm f out i,y∈out∨frm≤y:=by
 intro f
 induction f with
 | zero=>intro out i y hy;exact .inl hy
 | succ f a=>
  intro out i y hy
  simp only[Zf] at hy
  split at hy
  ·exact .inl hy
  ·split at hy
   ·exact .inl hy
   ·rename_i d _
    rcases List.mem_append.1 hy with hy | hy
    ·exact Ve (p:=fun y=>frm≤y) _ _ (fun b x _ z c=>a b _ z c) y hy
    ·simp at hy;omega
theorem Q8Q {a:List Cla} (g:I0 a): ∀j∈V5 a 8,8≤j∧j<a.length:=by
 intro j d
 unfold V5 at d
 have e:=Ve (p:=fun y=>8≤y) _ _ (fun b x _ z c=>X1c _ b x z c) j d
 have f:=Ve (p:=fun y=>y<a.length) _ _ (fun b x i z c=>(Q3S g (by omega) _ b x (by
  have:=List.mem_of_mem_drop i
  simpa using this) z c).imp id (·.1)) j d
 exact ⟨e.resolve_left (by simp),f.resolve_left (by simp)⟩
end Go.Hm
namespace Go.Proofs.YtfppjenblllfaaaGreatDoor
open Go.Emb Go.RowKit Go.Kd Go.Hm
end Go.Proofs.YtfppjenblllfaaaGreatDoor

namespace Go.Hm
open Go.Kd
theorem Q78 {a:List Cla} {m:Nat} (b:m<a.length):Y5 a (Y0 a m)=some m↔Y5 (a.take m) (Y0 a m)=none:=by
 have d:Y0 a m=a[m].name:=by unfold Y0;rw[List.getD_eq_getElem?_getD,List.getElem?_eq_getElem b];rfl
 unfold Y5
 rw[List.findIdx?_eq_some_iff_getElem,List.findIdx?_eq_none_iff]
 constructor
 ·rintro ⟨i,k,e⟩ c f
  obtain ⟨j,g,rfl⟩:=List.mem_take_iff_getElem.1 f
  simpa using e j (by omega)
 ·intro h
  refine ⟨b,by simp[d],fun j g=>?_⟩
  simpa using h a[j] (List.mem_take_iff_getElem.2 ⟨j,by omega,rfl⟩)
theorem Q7e {a:List Cla} (d:I0 a) {m:Nat} (b:m<a.length):Jg a (Y0 a m) (Y0 a m)=I7 a a[m]:=by
 have c:Y0 a m=a[m].name:=by unfold Y0;rw[List.getD_eq_getElem?_getD,List.getElem?_eq_getElem b];rfl
 unfold Jg I7
 rw[Qy d b,List.getD_eq_getElem?_getD,List.getElem?_eq_getElem b]
 simp only[Option.getD_some,c]
end Go.Hm
namespace Go.Proofs.YtfppjenblllfaaaGreatDoor
open Go.Emb Go.RowKit Go.Kd Go.Hm
variable {w : World} {K : Value → World → Prop} {σ : Q4} {l : List Cla}
theorem Q6B: ∀c∈F8,Yd c=false:=by decide
theorem Q7y {c:Cla} (h:M3 c=0):Yd c=false:=by
 unfold M3 at h
 split at h
 ·cases h
 ·rename_i a;exact eq_false_of_ne_true a
set_option maxHeartbeats 4000000 in
theorem X0S {lv:Value} (hs:X4 w σ) (hl:Sl 8 U8 σ lv l) (cv:l.length≤900)
 (C: ∀i e w' B,Ia M3 l=some (i,e)→Stp w σ w' B→K (.tuple #[.slice none 0 0,I i,I e]) w')
 (h0: ∀v w' B,Ia M3 l=none→Stp w σ w' B→Sl 8 U8 B v (Q6 l)→Ok (Q6 l)→I0 (Q6 l)→K (.tuple #[v,I 0,I 0]) w'):Q1 P F.bt [lv] w K:=Ae (by
 unfold Og
 have r:F8.length=8:=rfl
 have c5:(Q6 l).length=8+l.length:=by simp[Q6,r]
 refine Q88 hs fun x0 w1 σ1 bk be=>?_
 refine Q7u be ?_
 rw[r]
 refine D5 l.length (fun n x w'=> ∃B,Stp w σ w' B∧V8 w.heap.size T.a 8 U8 B w' x (F8++l.take n)∧L4 M3 l 0=L4 M3 (l.drop n) n)
  ⟨σ1,bk,by simpa using be,rfl⟩ fun n x w4 d H f=>?_
 obtain ⟨σ4,Z,az,J⟩:=f
 have aa:=hl.up Z
 refine Q8 aa ?_
 refine Y8 ?_
 refine Q5 (fun hh=>?_) (fun hh=>?_)
 ·have a:n<l.length:=by simpa using hh
  obtain ⟨b5,bv,cb,p1,r1⟩:=aa.elC a
  refine U2 aa a ?_
  refine Z1 Z.sat p1 rfl ?_
  refine Q2s Z.sat r1 fun w6 σ6 ac=>?_
  have b6:=Z.trans ac
  have V:=Up a J
  refine P4 ?_
  refine Q5 (fun m=>?_) (fun m=>?_)
  ·have t: ¬M3 l[n]=0:=by simpa using m
   rw[if_neg t] at V
   refine C _ _ _ _ ?_ b6
   unfold Ia
   rw[V]
  ·have hz:M3 l[n]=0:=by simpa using m
   rw[if_pos hz] at V
   refine U2 (aa.up ac) a ?_
   refine Z1 ac.sat (p1.up ac) rfl ?_
   have cj:=az.up ac
   have r6:=RCl_lift r1 ⟨ac.le⟩
   refine Un (R:=U8) (x:=l[n]) b6 cj (by simpa [Value.cells] using r6) rfl rfl rfl (by simp[r];omega) (by simp[r];omega) fun s v' w9 σ9 c7 o ck a4=>?_
   refine O3 ?_
   refine Z6 aa.max a ⟨σ9,o,?_,V⟩
   rw[List.take_add_one,List.getElem?_eq_getElem a,←List.append_assoc]
   exact ck
 have a: ¬n<l.length:=by simpa using hh
 rw[List.take_of_length_le (by omega)] at az
 rw[List.drop_eq_nil_of_le (by omega)] at J
 have J:L4 M3 l 0=none:=J
 have bn:=Xq J
 have bg: ∀c∈l,T7 c∧Nm c∧c.name≠[]:=fun c hc=>Q0I (bn c hc)
 have q: ∀c∈Q6 l,T7 c:=fun c hc=>by
  rcases List.mem_append.1 hc with hc | hc
  ·exact (Zr c hc).1
  ·exact (bg c hc).1
 have a3: ∀c∈Q6 l,Nm c:=fun c hc=>by
  rcases List.mem_append.1 hc with hc | hc
  ·exact (Zr c hc).2.1
  ·exact (bg c hc).2.1
 have Y: ∀c∈Q6 l,Yd c=false:=fun c hc=>by
  rcases List.mem_append.1 hc with hc | hc
  ·exact Q6B c hc
  ·exact Q7y (bn c hc)
 have ai:(Q6 l).length≤100000:=by omega
 unfold Ia at C h0
 rw[J] at C h0
 simp only at C h0
 obtain ⟨σ5,p,E,c3,cz⟩:=az.keep Z
 change Sl 8 U8 σ5 x (Q6 l) at E
 clear az Z aa a hh H J be bk
 have A: ∀{n:Nat} (H:n<l.length),∃(h:8+n<(Q6 l).length),(Q6 l)[8+n]=l[n]:=fun {n} H=>⟨by omega,by
  unfold Q6
  rw[List.getElem_append_right (by rw[r];omega)]
  congr 1
  rw[r];omega⟩
 have b2: ∀{n:Nat} (H:n<l.length),Y0 (Q6 l) (8+n)=l[n].name:=fun {n} H=>by
  obtain ⟨C,h2⟩:=A H
  rw[Bu C,h2]
 have cg: ∀j,j<8→(Y5 ((Q6 l).take j) (Y0 (Q6 l) j)).isSome=false:=by
  have hd: ∀j,j<8→(Y5 (F8.take j) (Y0 F8 j)).isSome=false:=by decide
  intro j hj
  have e1:(Q6 l).take j=F8.take j:=by unfold Q6;rw[List.take_append_of_le_length (by rw[r];omega)]
  have e2:Y0 (Q6 l) j=Y0 F8 j:=by
   unfold Y0 Q6;rw[List.getD_eq_getElem?_getD,List.getD_eq_getElem?_getD,List.getElem?_append_left (by rw[r];omega)]
  rw[e1,e2];exact hd j hj
 refine J4 l.length (fun n w'=>Stp w σ w' σ5∧ ∀j,j<8+n→(Y5 ((Q6 l).take j) (Y0 (Q6 l) j)).isSome=false) ⟨p,by simpa using cg⟩ fun n w5 d H f=>?_
 clear p
 obtain ⟨p,a2⟩:=f
 have ax:=hl.up p
 refine Q8 ax ?_
 refine Y8 ?_
 refine Q5 (fun hh=>?_) (fun hh=>?_)
 ·have a:n<l.length:=by simpa using hh
  obtain ⟨b5,bv,cb,p1,r1⟩:=ax.elC a
  refine U2 ax a ?_
  (try simp only[↓M1,M1,Mb,reduceIte])
  refine ld p.sat p1 rfl ?_
  refine T2 p.sat E ?_
  rw[C4 (by omega) (by omega)]
  refine P4 ?_
  obtain ⟨O,e8⟩:=A a
  rw[←b2 a]
  have b0:=Q78 O
  cases av:Y5 ((Q6 l).take (8+n)) (Y0 (Q6 l) (8+n)) with
  | none=>
   rw[b0.2 av]
   have e:decide (W8 (some (8+n))=(8:Nat)+(n:Int))=true:=by simp[W8]
   rw[e]
   (try simp only[↓M1,M1,Mb,reduceIte])
   refine Y3 ax.max a ⟨p,fun j hj=>?_⟩
   by_cases ej:j=8+n
   ·rw[ej,av];rfl
   ·exact a2 j (by omega)
  | some i=>
   have t:Y5 (Q6 l) (Y0 (Q6 l) (8+n))≠some (8+n):=fun e=>by rw[b0.1 e] at av;cases av
   have e:decide (W8 (Y5 (Q6 l) (Y0 (Q6 l) (8+n)))=(8:Nat)+(n:Int))=false:=by
    rw[decide_eq_false_iff_not]
    intro e
    cases hf:Y5 (Q6 l) (Y0 (Q6 l) (8+n)) with
    | none=>rw[hf] at e;simp only[W8] at e;omega
    | some k=>
     rw[hf] at e t
     simp only[W8] at e
     apply t
     congr 1;omega
   rw[e]
   (try simp only[↓M1,M1,Mb,reduceIte])
   have W:Eh (Q6 l)=some (8+n):=by
    unfold Eh
    rw[List.find?_range_eq_some]
    refine ⟨by rw[av];rfl,by simpa using O,fun j hj=>by rw[a2 j hj];rfl⟩
   refine C _ _ _ _ ?_ p
   rw[W]
   have:((8+n:Nat):Int)-8=n:=by omega
   simp only[this]
 have a: ¬n<l.length:=by simpa using hh
 have W:Eh (Q6 l)=none:=by
  unfold Eh
  rw[List.find?_eq_none]
  intro j hj
  rw[a2 j (by have:=List.mem_range.1 hj;omega)];simp
 rw[W] at C h0
 simp only at C h0
 have g:=Q1u W
 clear a2 hh a H ax cg
 refine J4 l.length (fun n w'=> ∃B,Stp w σ w' B∧SLe σ5 B∧L4 (fun c=>(L5 (Q6 l) c:Int)) l 0=L4 (fun c=>(L5 (Q6 l) c:Int)) (l.drop n) n) ⟨σ5,p,SLe.refl _,rfl⟩ fun n w6 d H f=>?_
 obtain ⟨σ9,o,ah,ab⟩:=f
 have ag:=hl.up o
 refine Q8 ag ?_
 refine Y8 ?_
 refine Q5 (fun hh=>?_) (fun hh=>?_)
 ·have a:n<l.length:=by simpa using hh
  obtain ⟨b5,bv,cb,p1,r1⟩:=ag.elC a
  refine U2 ag a ?_
  refine Z1 o.sat p1 rfl ?_
  have M:=Up a ab
  refine Q7x o.sat (E.lift ah) r1 fun w8 cl ao=>?_
  refine P4 ?_
  refine Q5 (fun m=>?_) (fun m=>?_)
  ·have t: ¬(L5 (Q6 l) l[n]:Int)=0:=by simpa using m
   rw[if_neg t] at M
   refine C _ _ _ _ ?_ (o.trans ao)
   rw[M]
  ·have hz:(L5 (Q6 l) l[n]:Int)=0:=by simpa using m
   rw[if_pos hz] at M
   refine O3 ?_
   exact Y3 ag.max a ⟨cl,o.trans ao,ah.more ⟨ao.le⟩,M⟩
 have a: ¬n<l.length:=by simpa using hh
 rw[List.drop_eq_nil_of_le (by omega)] at ab
 have ab:L4 (fun c=>(L5 (Q6 l) c:Int)) l 0=none:=ab
 rw[ab] at C h0
 simp only at C h0
 have cd:=Xq ab
 clear hh a H p ag
 refine Q2X o.sat (E.lift ah) g (by omega) (by omega) q fun vb dm b3 ap ar=>?_
 have b:=o.trans ap
 have a5:=ah.more ⟨ap.le⟩
 have a0:(Xr (Q6 l)).length=(Q6 l).length:=by simp[Xr]
 refine J4 l.length (fun n w'=>Stp w σ w' b3∧ ∀j (hj:j<l.length),j<n→I7 (Q6 l) l[j]=false) ⟨b,fun j _ h=>by omega⟩ fun n df d H f=>?_
 clear b
 obtain ⟨b,ay⟩:=f
 have aw:=hl.up b
 refine Q8 aw ?_
 refine Y8 ?_
 refine Q5 (fun hh=>?_) (fun hh=>?_)
 ·have a:n<l.length:=by simpa using hh
  obtain ⟨O,e8⟩:=A a
  refine Cx ⟨by omega,by omega⟩ ?_
  have ec:((8:Nat):Int)+(n:Int)=((8+n:Nat):Int):=by omega
  rw[ec]
  obtain ⟨dl,pb,_,rv,rfl,rb⟩:=ar.el (i:=8+n) (by rw[a0];exact O)
  have bo:(Xr (Q6 l))[8+n]'(by rw[a0];exact O)=(List.range (Q6 l).length).map fun j=>Jg (Q6 l) (Y0 (Q6 l) (8+n)) (Y0 (Q6 l) j):=by simp[Xr]
  rw[bo] at rb
  obtain ⟨cn,bf,_,am⟩:=rb.el (i:=8+n) (by simpa using O)
  have am:cn=_:=am
  subst am
  simp only[List.getElem_map,List.getElem_range] at bf
  rw[Q7e g O,e8] at bf
  refine U2 ar (by rw[a0];exact O) ?_
  refine X7 b.sat pb rfl ?_
  refine Cx ⟨by omega,by omega⟩ ?_
  rw[ec]
  refine U2 rb (by simpa using O) ?_
  refine X7 b.sat bf rfl ?_
  cases ca:I7 (Q6 l) l[n] with
  | true=>
   (try simp only[↓M1,M1,Mb,reduceIte])
   have bh:l.findIdx? (I7 (Q6 l))=some n:=by
    rw[List.findIdx?_eq_some_iff_getElem]
    exact ⟨a,ca,fun j hj=>by simpa using ay j (by omega) hj⟩
   refine C _ _ _ _ ?_ b
   rw[bh]
  | false=>
   (try simp only[↓M1,M1,Mb,reduceIte])
   refine Y3 aw.max a ⟨b,fun j hj di=>?_⟩
   by_cases e:j=n
   ·subst e;exact ca
   ·exact ay j hj (by omega)
 have a: ¬n<l.length:=by simpa using hh
 have a7: ∀c∈l,I7 (Q6 l) c=false:=fun c hc=>by
  obtain ⟨j,hj,rfl⟩:=List.getElem_of_mem hc
  exact ay j hj (by omega)
 have bh:l.findIdx? (I7 (Q6 l))=none:=by
  rw[List.findIdx?_eq_none_iff];exact a7
 rw[bh] at C h0
 simp only at C h0
 clear ay hh a H aw ar ap o a0
 have aq:=Q83 g (fun c hc=>(bg c hc).2.2) a7
 have ae:Q9t (Q6 l):=fun c hc u hu=>by
  rcases List.mem_append.1 hc with hc | hc
  ·rw[(Zr c hc).2.2] at hu;simp at hu
  ·have:=cd c hc
   unfold L5 at this
   split at this
   ·simp at this
   ·split at this
    ·simp at this
    ·rename_i y
     have y:c.like.any (O8 (Q6 l))=false:=eq_false_of_ne_true y
     have:=List.any_eq_false.1 y u hu
     unfold O8 at this
     cases hd:lk (Q6 l) u with
     | none=>rw[hd] at this;simp at this
     | some d=>exact ⟨d,rfl⟩
 have bz:Ok (Q6 l):=⟨aq,ai,q,ae,a3⟩
 have br: ∀i (hi:i<(Q6 l).length),8≤i→ ∀u∈J3 (Q6 l)[i],∃j,Y5 (Q6 l) u=some j:=fun i hi O u hu=>by
  have al:i-8<l.length:=by omega
  obtain ⟨dj,e8⟩:=A al
  have cr:(Q6 l)[i]=l[i-8]:=by rw[←e8];congr 1;omega
  rw[cr] at hu
  have a8:=List.getElem_mem al
  rcases List.mem_cons.1 hu with hu | hu
  ·have:=cd _ a8
   unfold L5 at this
   split at this
   ·simp at this
   ·rename_i y
    unfold T3 at y
    rw[←hu] at y
    cases hd:lk (Q6 l) u with
    | none=>rw[hd] at y;simp at y
    | some d=>obtain ⟨_,_,j,hj,_⟩:=U7 hd;exact ⟨j,hj⟩
  ·obtain ⟨d,hd⟩:=ae _ (List.mem_append_right _ a8) u hu
   obtain ⟨_,_,j,hj,_⟩:=U7 hd;exact ⟨j,hj⟩
 refine Tm (R:=B5) (e:=T.e) b (by decide) fun ds c4 bc ba _=>?_
 refine D5 l.length (fun n x' w'=> ∃B out,Stp w σ w' B∧SLe σ5 B∧V8 w.heap.size T.e 1 B5 B w' x' (ints out)∧Am (Q6 l) out∧out=(((List.range (Q6 l).length).drop 8).take n).foldl (fun out i=>Qp (Q6 l) 8 out i) [])
  ⟨b3,[],b.trans bc,a5,ba,⟨List.nodup_nil,by simp⟩,rfl⟩ fun n x' c9 d H f=>?_
 clear ba bc b a5 ah
 obtain ⟨c6,out,N,Q,an,ad,ak⟩:=f
 have aj:=hl.up N
 refine Q8 aj ?_
 refine Y8 ?_
 refine Q5 (fun hh=>?_) (fun hh=>?_)
 ·have a:n<l.length:=by simpa using hh
  obtain ⟨O,e8⟩:=A a
  refine Cx ⟨by omega,by omega⟩ ?_
  have ec:((8:Nat):Int)+(n:Int)=((8+n:Nat):Int):=by omega
  rw[ec]
  refine X0O aq g (by omega) q (by omega) br ((Q6 l).length+1) O (Nat.lt_succ_of_le (Q06 _ _)) ad N (E.lift Q) an fun du c2 co b4 b7 bl=>?_
  refine O3 ?_
  refine Z6 aj.max a ⟨co,_,b4,Q.more b7,bl,Gu aq g (by omega) _ _ _ O ad,?_⟩
  rw[List.take_add_one,List.getElem?_drop,List.getElem?_range O,List.foldl_append,←ak]
  rfl
 have a: ¬n<l.length:=by simpa using hh
 have cp:n=l.length:=by omega
 subst cp
 have b8:out=V5 (Q6 l) 8:=by
  rw[ak,List.take_of_length_le (by rw[List.length_drop,List.length_range];omega)];rfl
 subst b8
 clear ak hh a H
 have dc:=ad.len
 have ct:=Q8Q g
 obtain ⟨bs,bx,bj,a9,_⟩:=an.keep N
 have bu:=Q.more ⟨a9⟩
 clear an N a9 Q aj
 have al:(ints (V5 (Q6 l) 8)).length=(V5 (Q6 l) 8).length:=by simp
 refine J4 (V5 (Q6 l) 8).length (fun n w'=> ∃B,Stp w σ w' B∧SLe bs B∧ ∀j∈(V5 (Q6 l) 8).take n,V2 (Q6 l) ((Q6 l).getD j Cla.zero)=0) ⟨bs,bx,SLe.refl _,by simp⟩ fun n dt d H f=>?_
 obtain ⟨dh,L,U,a1⟩:=f
 have X:=bj.lift U
 refine Q8 X ?_
 rw[al]
 refine Y8 ?_
 refine Q5 (fun hh=>?_) (fun hh=>?_)
 ·have a:n<(V5 (Q6 l) 8).length:=by simpa using hh
  have cc:n<(ints (V5 (Q6 l) 8)).length:=by rw[al];exact a
  refine U2 X cc ?_
  obtain ⟨cs,pc,_,cm⟩:=X.el cc
  obtain ⟨rfl,_⟩:=cm
  simp only[List.getElem_map] at pc
  refine X7 L.sat pc rfl ?_
  have bq:=(ct _ (List.getElem_mem a)).2
  have a4:(Q6 l).getD (V5 (Q6 l) 8)[n] Cla.zero=(Q6 l)[(V5 (Q6 l) 8)[n]]:=by rw[List.getD_eq_getElem?_getD,List.getElem?_eq_getElem bq];rfl
  refine Q5F L.sat (E.lift (bu.more U)) bz g (by omega) Y bq fun db ce z=>?_
  have a6:=L.trans z
  refine P4 ?_
  refine Q5 (fun m=>?_) (fun m=>?_)
  ·have t: ¬V2 (Q6 l) (Q6 l)[(V5 (Q6 l) 8)[n]]=0:=by simpa using m
   have cw:=X.up z
   have b1:=pc.up z
   refine V3 z.sat ?_
   (repeat refine U6 Qt ?_)
   (intros;(repeat (rename_i hx;subst hx));(try simp only[↓M2,M2,Mb,reduceIte]))
   rename_i cu bd
   refine X7 bd.sat b1 rfl ?_
   refine Dx ⟨by omega,by omega⟩ ?_
   have D:(V5 (Q6 l) 8).find? (fun j=> !decide (V2 (Q6 l) ((Q6 l).getD j Cla.zero)=0))=some (V5 (Q6 l) 8)[n]:=by
    rw[List.find?_eq_some_iff_getElem]
    refine ⟨by rw[a4];simpa using t,n,a,rfl,fun j hj=>?_⟩
    have:=a1 _ (List.mem_take_iff_getElem.2 ⟨j,by omega,rfl⟩)
    rw[this];simp
   have:=C (((V5 (Q6 l) 8)[n]:Int)-8) (V2 (Q6 l) (Q6 l)[(V5 (Q6 l) 8)[n]]) cu ce (by rw[D];simp only[a4]) (a6.trans bd.stp)
   exact this
  ·have hz:V2 (Q6 l) (Q6 l)[(V5 (Q6 l) 8)[n]]=0:=by simpa using m
   refine O3 ?_
   refine Y3 (by omega) a ⟨ce,a6,U.more ⟨z.le⟩,fun j hj=>?_⟩
   rw[List.take_add_one,List.getElem?_eq_getElem a] at hj
   rcases List.mem_append.1 hj with hj | hj
   ·exact a1 j hj
   ·simp at hj;subst hj;rw[a4];exact hz
 ·have a: ¬n<(V5 (Q6 l) 8).length:=by simpa using hh
  rw[List.take_of_length_le (by omega)] at a1
  have D:(V5 (Q6 l) 8).find? (fun j=> !decide (V2 (Q6 l) ((Q6 l).getD j Cla.zero)=0))=none:=by
   rw[List.find?_eq_none]
   intro j hj
   rw[a1 j hj];simp
  rw[D] at h0
  exact h0 _ _ _ rfl L (E.lift (bu.more U)) bz g)
end Go.Proofs.YtfppjenblllfaaaGreatDoor

namespace Go.Hm
open Go.Kd
def Q6Q:Ins:=⟨[105,110,116],1,[]⟩
def Ag:Ins:=⟨[114,101,116,117,114,110],0,[]⟩
def kA:X0:=[65]
def fX:Fld:=⟨[120],V6,false⟩
def Q0a:Fld:=⟨[110,101,120,116],kA,false⟩
def fL:Fld:=⟨[108],[65,91,93],false⟩
def mF:Hm.Met:=⟨[102],[V6,kA],V6,false,3,[Q6Q,Ag],[]⟩
def mG:Hm.Met:=⟨[103],[],[],false,1,[Ag],[]⟩
def cA:Cla:=⟨kA,Z7,[],false,false,false,[fX,Q0a],[mF,mG]⟩
def cB:Cla:=⟨[66],kA,[[73]],false,false,false,[fL],[]⟩
def cI:Cla:=⟨[73],Z7,[],true,true,false,[],[]⟩
def cD:Cla:=⟨[68],Z7,[],false,true,false,[],[]⟩
def Sh:List Cla:=[cA,cB,cI,cD]
end Go.Hm
namespace Go.Proofs.YtfppjenblllfaaaGreatDoor
open Go.Emb Go.RowKit Go.Kd Go.Hm
variable {w w' : World} {K : Value → World → Prop} {σ σ' : Q4} {ds : List Value} {l : List Cla} {hp tv : Value}
set_option maxRecDepth 100000 in
theorem Q4n:Ia M3 Sh=none:=by decide+kernel
theorem X0V: ∀c∈Sh,T7 c:=X1n (by decide)
set_option maxHeartbeats 1000000 in
theorem Q2P (Y:X4 w σ) (h: ∀v w' σ',Stp w σ w' σ'→Sl 8 U8 σ' v Sh→K v w'):Q1 P F.au [] w K:=St (by
 unfold Jx
 refine W1 (cells:= #[S Q6Q.op,I 1,S []]) (by kernel_rfl) ?_
 refine W1 (cells:= #[S Ag.op,I 0,S []]) (by kernel_rfl) ?_
 refine N5 (R:=C9) (sz:=3) Y [.agg #[S Q6Q.op,I 1,S []], .agg #[S Ag.op,I 0,S []]] [Q6Q,Ag] rfl rfl (by simp;exact ⟨rfl,rfl⟩) rfl ⟨⟨rfl,by decide,by decide,by decide⟩,⟨rfl,by decide,by decide,by decide⟩,trivial⟩ fun v1 w1 σ1 k c=>?_
 refine W1 (cells:= #[S fX.name,S fX.kind, .bool false]) (by kernel_rfl) ?_
 refine W1 (cells:= #[S Q0a.name,S Q0a.kind, .bool false]) (by kernel_rfl) ?_
 refine N5 (R:=E5) (sz:=3) k.sat [.agg #[S fX.name,S fX.kind, .bool false], .agg #[S Q0a.name,S Q0a.kind, .bool false]] [fX,Q0a] rfl rfl (by simp;exact ⟨rfl,rfl⟩) rfl ⟨⟨rfl,by decide,by decide⟩,⟨rfl,by decide,by decide⟩,trivial⟩ fun v2 w2 σ2 g d=>?_
 refine N5 (R:=Y1) (sz:=1) g.sat [S V6,S kA] [V6,kA] rfl rfl (by simp;exact ⟨rfl,rfl⟩) rfl ⟨⟨rfl,by decide⟩,⟨rfl,by decide⟩,trivial⟩ fun v3 w3 σ3 e z=>?_
 have r:=c;have u:=d;have y:=z
 obtain ⟨X,D,rfl,_⟩:=r
 obtain ⟨H,E,rfl,_⟩:=u
 obtain ⟨O,W,rfl,_⟩:=y
 have c:=(c.up g).up e
 have d:=d.up e
 refine W1 (cells:= #[S mF.name, .slice O 2 W,S V6, .bool false,I 3, .slice X 2 D, .slice none 0 0]) (by kernel_rfl) ?_
 refine W1 (cells:= #[S Ag.op,I 0,S []]) (by kernel_rfl) ?_
 refine N5 (R:=C9) (sz:=3) e.sat [.agg #[S Ag.op,I 0,S []]] [Ag] rfl rfl (by simp;rfl) rfl ⟨⟨rfl,by decide,by decide,by decide⟩,trivial⟩ fun v4 w4 Z a q=>?_
 have n:=q
 obtain ⟨U,V,rfl,_⟩:=n
 refine W1 (cells:= #[S mG.name, .slice none 0 0,S [], .bool false,I 1, .slice U 1 V, .slice none 0 0]) (by kernel_rfl) ?_
 refine N5 (R:=M6) (sz:=7) a.sat [.agg #[S mF.name, .slice O 2 W,S V6, .bool false,I 3, .slice X 2 D, .slice none 0 0], .agg #[S mG.name, .slice none 0 0,S [], .bool false,I 1, .slice U 1 V, .slice none 0 0]] [mF,mG] rfl rfl (by simp;exact ⟨rfl,rfl⟩) rfl
  ⟨⟨_,_,_,rfl,z.up a,c.up a,Sl.nil,by decide,by decide,by decide⟩,⟨_,_,_,rfl,Sl.nil,q,Sl.nil,by decide,by decide,by decide⟩,trivial⟩ fun v5 w5 σ5 i m=>?_
 have s:=m
 obtain ⟨N,J,rfl,_⟩:=s
 refine W1 (cells:= #[S kA,S Z7, .slice none 0 0, .bool false, .bool false, .bool false, .slice H 2 E, .slice N 2 J]) (by kernel_rfl) ?_
 refine N5 (R:=Y1) (sz:=1) i.sat [S [73]] [[73]] rfl rfl (by simp;rfl) rfl ⟨⟨rfl,by decide⟩,trivial⟩ fun v6 w6 σ6 f j=>?_
 have p:=j
 obtain ⟨M,C,rfl,_⟩:=p
 refine W1 (cells:= #[S fL.name,S fL.kind, .bool false]) (by kernel_rfl) ?_
 refine N5 (R:=E5) (sz:=3) f.sat [.agg #[S fL.name,S fL.kind, .bool false]] [fL] rfl rfl (by simp;rfl) rfl ⟨⟨rfl,by decide,by decide⟩,trivial⟩ fun v7 w7 σ7 b t=>?_
 have o:=t
 obtain ⟨Q,L,rfl,_⟩:=o
 refine W1 (cells:= #[S cB.name,S kA, .slice M 1 C, .bool false, .bool false, .bool false, .slice Q 1 L, .slice none 0 0]) (by kernel_rfl) ?_
 refine W1 (cells:= #[S cI.name,S Z7, .slice none 0 0, .bool true, .bool true, .bool false, .slice none 0 0, .slice none 0 0]) (by kernel_rfl) ?_
 refine W1 (cells:= #[S cD.name,S Z7, .slice none 0 0, .bool false, .bool true, .bool false, .slice none 0 0, .slice none 0 0]) (by kernel_rfl) ?_
 refine N5 (R:=U8) (sz:=8) b.sat [.agg #[S kA,S Z7, .slice none 0 0, .bool false, .bool false, .bool false, .slice H 2 E, .slice N 2 J], .agg #[S cB.name,S kA, .slice M 1 C, .bool false, .bool false, .bool false, .slice Q 1 L, .slice none 0 0], .agg #[S cI.name,S Z7, .slice none 0 0, .bool true, .bool true, .bool false, .slice none 0 0, .slice none 0 0], .agg #[S cD.name,S Z7, .slice none 0 0, .bool false, .bool true, .bool false, .slice none 0 0, .slice none 0 0]] Sh rfl rfl (by simp;exact ⟨rfl,rfl,rfl,rfl⟩) rfl
  ⟨⟨_,_,_,rfl,Sl.nil,(((d.up a).up i).up f).up b,(m.up f).up b,by decide,by decide⟩,⟨_,_,_,rfl,j.up b,t,Sl.nil,by decide,by decide⟩,⟨_,_,_,rfl,Sl.nil,Sl.nil,Sl.nil,by decide,by decide⟩,⟨_,_,_,rfl,Sl.nil,Sl.nil,Sl.nil,by decide,by decide⟩,trivial⟩ fun v8 w8 σ8 A B=>?_
 exact h _ _ _ ((((((((k.trans g).trans e).trans a).trans i).trans f).trans b)).trans A) B)
end Go.Proofs.YtfppjenblllfaaaGreatDoor

namespace Go.Proofs.YtfppjenblllfaaaGreatDoor
open Go.Emb Go.RowKit Go.Kd Go.Hm
variable {w w' : World} {K : Value → World → Prop} {σ σ' : Q4} {v u : Value}
theorem Q4M {xs ys:List X0} (t:X4 w σ) (c:Sl 1 Y1 σ v xs) (r:Sl 1 Y1 σ u ys) (h: ∀w',Below w.heap.size w w'→K (.bool (decide (xs=ys))) w'):Q1 P F.a0 [v,u] w K:=Lv (by
 have p:=c.max
 unfold K5
 refine Q8 c ?_
 refine Q8 r ?_
 refine P4 ?_
 by_cases m:xs.length=ys.length
 case neg=>
  rw[show (!decide ((xs.length:Int)=(ys.length:Nat)))=true from by simp;omega]
  refine U1 ?_
  have e:decide (xs=ys)=false:=decide_eq_false fun e=>m (by rw[e])
  rw[e] at h
  exact h _ (Below.refl _ _)
 rw[show (!decide ((xs.length:Int)=(ys.length:Nat)))=false from by simp[m]]
 refine J9 ?_
 first | refine Q8 c ?_ | skip
 refine J4 xs.length (fun i w'=>Stp w σ w' σ∧ ∀j (f:j<xs.length) (g:j<ys.length),j<i→xs[j]=ys[j]) ⟨Stp.refl t,fun _ _ _ h=>absurd h (Nat.not_lt_zero _)⟩ fun i w1 d E y=>?_
 obtain ⟨o,s⟩:=y
 first | refine Q8 c ?_ | skip
 refine Y8 ?_
 refine Q5 (fun n=>?_) (fun n=>?_)
 ·have b:i<xs.length:=by simpa using n
  have l:i<ys.length:=by omega
  obtain ⟨B,_⟩:=Sl.elS c b
  obtain ⟨C,_⟩:=Sl.elS r l
  refine V3 o.sat ?_
  (repeat refine U6 Qt ?_)
  (intros;(repeat (rename_i a;subst a));(try simp only[↓M2,M2,Mb,reduceIte]))
  rename_i D k
  have q:=o.trans k.stp
  by_cases a:xs[i]=ys[i]
  ·simp only[decide_eq_true a,Bool.not_true,Vf]
   (try simp only[↓M1,M1,Mb,reduceIte])
   exact Y3 p b ⟨q,fun j f g A=>by
    by_cases e:j=i
    ·subst e;exact a
    ·exact s j f g (by omega)⟩
  ·simp only[decide_eq_false a,Bool.not_false,Nh]
   have e:decide (xs=ys)=false:=decide_eq_false fun e=>a (by subst e;rfl)
   rw[e] at h
   exact h _ q.bel
 ·have z:i=xs.length:=by
   have: ¬i<xs.length:=by simpa using n
   omega
  have e:decide (xs=ys)=true:=decide_eq_true (List.ext_getElem m fun j f g=>s j f g (by omega))
  rw[e] at h
  exact h _ o.bel)
theorem Q3d {xs ys:List X0} (t:X4 w σ) (c:Sl 1 Y1 σ v xs) (r:Sl 1 Y1 σ u ys) (h: ∀w',Below w.heap.size w w'→K (.bool (decide (xs=ys))) w'):Q1 P F.aE [v,u] w K:=Ky (by
 have p:=c.max
 unfold Md
 refine Q8 c ?_
 refine Q8 r ?_
 refine P4 ?_
 by_cases m:xs.length=ys.length
 case neg=>
  rw[show (!decide ((xs.length:Int)=(ys.length:Nat)))=true from by simp;omega]
  refine U1 ?_
  have e:decide (xs=ys)=false:=decide_eq_false fun e=>m (by rw[e])
  rw[e] at h
  exact h _ (Below.refl _ _)
 rw[show (!decide ((xs.length:Int)=(ys.length:Nat)))=false from by simp[m]]
 refine J9 ?_
 first | refine Q8 c ?_ | skip
 refine J4 xs.length (fun i w'=>Stp w σ w' σ∧ ∀j (f:j<xs.length) (g:j<ys.length),j<i→xs[j]=ys[j]) ⟨Stp.refl t,fun _ _ _ h=>absurd h (Nat.not_lt_zero _)⟩ fun i w1 d E y=>?_
 obtain ⟨o,s⟩:=y
 first | refine Q8 c ?_ | skip
 refine Y8 ?_
 refine Q5 (fun n=>?_) (fun n=>?_)
 ·have b:i<xs.length:=by simpa using n
  have l:i<ys.length:=by omega
  obtain ⟨B,_⟩:=Sl.elS c b
  obtain ⟨C,_⟩:=Sl.elS r l
  refine V3 o.sat ?_
  (repeat refine U6 Qt ?_)
  (intros;(repeat (rename_i a;subst a));(try simp only[↓M2,M2,Mb,reduceIte]))
  rename_i D k
  have q:=o.trans k.stp
  by_cases a:xs[i]=ys[i]
  ·simp only[decide_eq_true a,Bool.not_true,Vf]
   (try simp only[↓M1,M1,Mb,reduceIte])
   exact Y3 p b ⟨q,fun j f g A=>by
    by_cases e:j=i
    ·subst e;exact a
    ·exact s j f g (by omega)⟩
  ·simp only[decide_eq_false a,Bool.not_false,Nh]
   have e:decide (xs=ys)=false:=decide_eq_false fun e=>a (by subst e;rfl)
   rw[e] at h
   exact h _ q.bel
 ·have z:i=xs.length:=by
   have: ¬i<xs.length:=by simpa using n
   omega
  have e:decide (xs=ys)=true:=decide_eq_true (List.ext_getElem m fun j f g=>s j f g (by omega))
  rw[e] at h
  exact h _ o.bel)
theorem Q8e (a b:Shp):decide (a=b)=((a.seen==b.seen)&&(decide (a.stack=b.stack)&&decide (a.locals=b.locals))):=by
 cases a;cases b
 rw[Bool.eq_iff_iff]
 simp[Shp.mk.injEq,and_assoc]
theorem X1a {a b:Shp} {ds es:List Value} (t:X4 w σ) (r:E0 σ a ds) (q:E0 σ b es) (h: ∀w',Below w.heap.size w w'→K (.bool (decide (a=b))) w'):Q1 P F.cC [.agg ds.toArray, .agg es.toArray] w K:=Q5C (by
 obtain ⟨sv,H,rfl,y,z⟩:=r
 obtain ⟨A,mv,rfl,s,o⟩:=q
 rw[Q8e] at h
 unfold Q0U
 refine Z0 t fun B w1 σ1 l j=>?_
 refine Z0 l.sat fun E J C e f=>?_
 have d:=j.up e
 have c:=l.trans e
 refine D2 ?_
 refine ld (i:=0) e.sat d rfl ?_
 refine D2 ?_
 refine ld (i:=0) e.sat f rfl ?_
 rw[Q6y]
 cases k:(a.seen==b.seen) with
 | false=>
  rw[k] at h
  (repeat refine Hd.h ?_)
  exact h _ c.bel
 | true=>
  rw[k,Bool.true_and] at h
  (repeat refine Hd.h ?_)
  refine ld (i:=1) e.sat d rfl ?_
  (repeat refine Hd.h ?_)
  refine ld (i:=1) e.sat f rfl ?_
  (repeat refine Hd.h ?_)
  refine Q4M e.sat (y.up c) (s.up c) fun L p=>?_
  have g:=Stp.of_below e.sat p
  cases m:decide (a.stack=b.stack) with
  | false=>
   rw[m] at h
   (repeat refine Hd.h ?_)
   exact h _ (c.trans g).bel
  | true=>
   rw[m,Bool.true_and] at h
   (repeat refine Hd.h ?_)
   refine ld (i:=2) g.sat d rfl ?_
   (repeat refine Hd.h ?_)
   refine ld (i:=2) g.sat f rfl ?_
   (repeat refine Hd.h ?_)
   refine Q4M g.sat (z.up c) (o.up c) fun D n=>?_
   (repeat refine Hd.h ?_)
   exact h _ (c.trans (g.trans (Stp.of_below g.sat n))).bel)
theorem Q3n {a b:Shp} {ds es:List Value} (t:X4 w σ) (r:E0 σ a ds) (q:E0 σ b es) (h: ∀w',Below w.heap.size w w'→K (.bool (decide (a=b))) w'):Q1 P F.aC [.agg ds.toArray, .agg es.toArray] w K:=Pa (by
 obtain ⟨sv,H,rfl,y,z⟩:=r
 obtain ⟨A,mv,rfl,s,o⟩:=q
 rw[Q8e] at h
 unfold Mx
 refine Z0 t fun B w1 σ1 l j=>?_
 refine Z0 l.sat fun E J C e f=>?_
 have d:=j.up e
 have c:=l.trans e
 refine D2 ?_
 refine ld (i:=0) e.sat d rfl ?_
 refine D2 ?_
 refine ld (i:=0) e.sat f rfl ?_
 rw[Q6y]
 cases k:(a.seen==b.seen) with
 | false=>
  rw[k] at h
  (repeat refine Hd.h ?_)
  exact h _ c.bel
 | true=>
  rw[k,Bool.true_and] at h
  (repeat refine Hd.h ?_)
  refine ld (i:=1) e.sat d rfl ?_
  (repeat refine Hd.h ?_)
  refine ld (i:=1) e.sat f rfl ?_
  (repeat refine Hd.h ?_)
  refine Q3d e.sat (y.up c) (s.up c) fun L p=>?_
  have g:=Stp.of_below e.sat p
  cases m:decide (a.stack=b.stack) with
  | false=>
   rw[m] at h
   (repeat refine Hd.h ?_)
   exact h _ (c.trans g).bel
  | true=>
   rw[m,Bool.true_and] at h
   (repeat refine Hd.h ?_)
   refine ld (i:=2) g.sat d rfl ?_
   (repeat refine Hd.h ?_)
   refine ld (i:=2) g.sat f rfl ?_
   (repeat refine Hd.h ?_)
   refine Q3d g.sat (z.up c) (o.up c) fun D n=>?_
   (repeat refine Hd.h ?_)
   exact h _ (c.trans (g.trans (Stp.of_below g.sat n))).bel)
end Go.Proofs.YtfppjenblllfaaaGreatDoor

namespace Go.Hm
open Go.Kd
structure Dr where
  stack : List X0
  locals : List X0
  e : Int
deriving DecidableEq
def Dr.wrong (d:Dr) (ok:Bool) (e:Int):Dr:=if ok=true then d else if d.e=0 then ⟨d.stack,d.locals,e⟩ else d
def Dr.taken (d:Dr) (n:Nat):List X0:=if d.e=0∧n≤d.stack.length then d.stack.drop (d.stack.length-n) else List.replicate n []
def Dr.take (d:Dr) (n:Nat):Dr:=if d.e=0∧n≤d.stack.length then ⟨d.stack.take (d.stack.length-n),d.locals,0⟩ else d.wrong (decide (n≤d.stack.length)) 72
def Dr.put (d:Dr) (xs:List X0):Dr:=if d.e=0 then ⟨d.stack++xs,d.locals,0⟩ else d
def Dr.put1 (d:Dr) (k:X0):Dr:=if k=[] then d else d.put [k]
def Dr.all (l:List Cla) (d:Dr) (p:X0) (a:List X0):Dr:=((d.take a.length).wrong ((List.zipWith (H8 l) (d.taken a.length) a).all id) 73).put1 p
def inL (d:Dr) (n:Int):Bool:=decide (0≤n)&&decide (n<(d.locals.length:Int))
def Q3I (l:List Cla) (a:X0):Bool:=R9 l a&& !plain a
def Q43 (l:List Cla) (s:X0):Bool:= !decide (s=C7)&&R9 l s
inductive Dact where
  | puts (k : X0) | takes (p : X0) (w : List X0) | load | store | pop | dup | swap | size | nop | make | get | give | call | array | at_ | set_ | is | cast | ret | equal
deriving DecidableEq
def Q8C (l:List Cla) (c f:X0) (ok:Bool):Option (X0×X0):=if ok=true then (Xv l c f).map fun k=>(c,((M7 l c).getD k Fld.zero).kind) else none
def Fc (l:List Cla) (m:Hm.Met) (i:Ins) (c f:X0) (ok:Bool) (d:Dr):Dact→Dr
 | .puts k=>d.put [k]
 | .takes p w=>d.all l p w
 | .load=>
  let a:=d.wrong (inL d i.n) 74
  if a.e=0 then (let k:=a.locals.getD i.n.toNat [];let b:=a.wrong (!decide (k=[])) 74;if b.e=0 then b.put [k] else b) else a
 | .store=>
  let a:=d.wrong (inL d i.n) 74
  let b:=a.take 1
  if b.e=0 then ⟨b.stack,b.locals.set i.n.toNat ((a.taken 1).getD 0 []),0⟩ else b
 | .pop=>d.take 1
 | .dup=>(d.take 1).put [(d.taken 1).getD 0 [],(d.taken 1).getD 0 []]
 | .swap=>(d.take 2).put [(d.taken 2).getD 1 [],(d.taken 2).getD 0 []]
 | .size=>((d.take 1).wrong (!decide (elem ((d.taken 1).getD 0 [])=[])) 73).put [V6]
 | .nop=>d
 | .make=>let a:=d.wrong (Q9F l i.s) 76;if a.e=0 then a.put [i.s] else a
 | .get=>match Q8C l c f ok with
  | some (c,k)=>d.all l k [c]
  | none=>(d.wrong false 76).all l [] [[]]
 | .give=>match Q8C l c f ok with
  | some (c,k)=>d.all l [] [c,k]
  | none=>(d.wrong false 76).all l [] [[],[]]
 | .call=>match U0 l c f with
  | some (_,x)=>d.all l x.result (c::x.params)
  | none=>d.wrong false 76
 | .array=>((d.wrong (Q43 l i.s) 76).wrong (right (i.s++[91,93])) 76).all l (i.s++[91,93]) [V6]
 | .at_=>
  let t:=d.taken 2
  (((d.take 2).wrong (H8 l (t.getD 1 []) V6) 73).wrong (!decide (elem (t.getD 0 [])=[])) 73).put [elem (t.getD 0 [])]
 | .set_=>
  let t:=d.taken 3
  let a:=d.take 3
  let k:=if a.e=0 then elem (t.getD 0 []) else []
  ((a.wrong (!decide (k=[])) 73).wrong (H8 l (t.getD 2 []) k) 73).wrong (H8 l (t.getD 1 []) V6) 73
 | .is=>let a:=d.wrong (Q43 l i.s) 76;((a.take 1).wrong (Q3I l ((a.taken 1).getD 0 [])) 73).put [M9]
 | .cast=>let a:=d.wrong (Q43 l i.s) 76;((a.take 1).wrong (Q3I l ((a.taken 1).getD 0 [])) 73).put [i.s]
 | .ret=>if m.result=[] then d else d.all l [] [m.result]
 | .equal=>let t:=d.taken 2;(((d.take 2).wrong (Q3I l (t.getD 1 [])) 73).wrong (Q3I l (t.getD 0 [])) 73).put [M9]
def Q8f:List (X0×Dact):=[
 ([105,110,116], .puts V6),
 ([116,114,117,101], .puts M9),
 ([102,97,108,115,101], .puts M9),
 ([119,111,114,100], .puts N7),
 ([110,117,108,108], .puts C7),
 ([108,111,97,100], .load),
 ([115,116,111,114,101], .store),
 ([100,117,112], .dup),
 ([115,119,97,112], .swap),
 ([112,111,112], .pop),
 ([110,101,103], .takes V6 [V6]),
 ([110,111,116], .takes M9 [M9]),
 ([98,111,116,104], .takes M9 [M9,M9]),
 ([106,111,105,110], .takes N7 [N7,N7]),
 ([108,101,115,115], .takes M9 [V6,V6]),
 ([115,97,109,101], .takes M9 [V6,V6]),
 ([115,105,122,101], .size),
 ([106,117,109,112], .nop),
 ([98,114,97,110,99,104], .takes [] [M9]),
 ([110,101,119], .make),
 ([103,101,116], .get),
 ([112,117,116], .give),
 ([99,97,108,108], .call),
 ([97,114,114,97,121], .array),
 ([97,116], .at_),
 ([115,101,116], .set_),
 ([105,115], .is),
 ([99,97,115,116], .cast),
 ([114,101,116,117,114,110], .ret),
 ([116,104,114,111,119], .takes [] [W0]),
 ([111,117,116], .takes [] [V6]),
 ([101,113,117,97,108], .equal)]
def Q1r:List X0:=[[97,100,100],[115,117,98],[109,117,108],[100,105,118],[114,101,109],[97,110,100],[111,114],[120,111,114],[115,104,108],[115,104,114]]
def Gm:List (X0×Dact):=(Q1r.map fun o=>(o,Dact.takes V6 [V6,V6])).reverse++Q8f.reverse
def doM (l:List Cla) (m:Hm.Met) (i:Ins) (c f:X0) (ok:Bool) (s:Shp):Shp×Int:=
 match Gm.lookup i.op with
 | none=>(Shp.zero,76)
 | some a=>
  let d:=Fc l m i c f ok ⟨s.stack,s.locals,0⟩ a
  let b:=d.wrong (decide (d.stack.length≤24)) 72
  if b.e=0 then (⟨true,b.stack,b.locals⟩,0) else (Shp.zero,b.e)
theorem Dr.wrong_ok {d:Dr} {ok:Bool} {e:Int} (g:e≠0) (h:(d.wrong ok e).e=0):d.e=0∧ok=true∧d.wrong ok e=d:=by
 unfold Dr.wrong at*
 by_cases a:ok=true
 ·rw[if_pos a] at*;exact ⟨h,a,rfl⟩
 ·rw[if_neg a] at h
  by_cases b:d.e=0
  ·rw[if_pos b] at h;exact absurd h g
  ·rw[if_neg b] at h;exact absurd h b
section
variable {l : List Cla} {m : Hm.Met} {i : Ins} {c f : X0} {ok : Bool} {d : Dr}
theorem Dr.wrong2 {d:Dr} {b a:Bool} {e:Int}:(d.wrong b e).wrong a e=d.wrong (b&&a) e:=by
 unfold Dr.wrong
 cases b<;>cases a<;>simp<;>split<;>simp_all
end
end Go.Hm

namespace Go.Proofs.YtfppjenblllfaaaGreatDoor
open Go.Emb Go.RowKit Go.Kd Go.Hm
variable {w : World} {K : Value → World → Prop} {σ : Q4}
end Go.Proofs.YtfppjenblllfaaaGreatDoor

namespace Go.Emb
open Go.RowKit Go.Hm
variable {w w0 w1 w' w'' : World} {σ σ0 σ1 σ2 σ' : Q4}
theorem Stp.weak (h:Stp w σ1 w' σ2) (a: ∀b o,σ b=some o→σ1 b=some o):Stp w σ w' σ:=
 ⟨h.bel,fun b o e=>h.sat b o (h.le b o (a b o e)),fun _ _ e=>e,fun _ _=>rfl⟩
end Go.Emb
namespace Go.Proofs.YtfppjenblllfaaaGreatDoor
open Go.Emb Go.RowKit Go.Kd Go.Hm
variable {w : World} {K : Value → World → Prop} {σ : Q4}
end Go.Proofs.YtfppjenblllfaaaGreatDoor

namespace Go.Emb
open Go.RowKit Go.Hm
section
variable {P : Program} {w w' w0 : World} {σ σ' σ0 : Q4} {α : Type} {R : Q4 → α → List Value → Prop} {B sz : Nat} {e : TypeId} {v u : Value} {xs : List α} {K : Value → World → Prop}
theorem X1m {t:TypeId} {by_:Nat} {z:Value} [ts:TS P t e] [tz:TZ P e sz by_ z] (h:U5 B e sz R σ w v xs) {k:Nat} (J:k≤xs.length)
 (A: ∀o,U5 B e sz R σ w o (xs.take k)→o.ownBlock=v.ownBlock→K o w):E9 P t v none (some (I k)) (some (I k)) w K:=by
 obtain ⟨a,c,rfl,M,O,j,y⟩:=h
 have hh: ∀w:World,(Instr.sliceBounds true xs.length c none (some (I k)) (some (I k))).run P w= .ok (0,k,k) w:=by
  intro w
  have E:(k:Int)≤c:=by omega
  simp[Instr.sliceBounds,Instr.sliceBound,asIntOf,E]
 unfold E9
 have:(Instr.sliceAt t (.slice a xs.length c) none (some (I k)) (some (I k))).run P w= .ok (.slice (if k=0 then a else a.map (·.add (0*sz))) (k-0) (k-0)) w:=by
  simp[Instr.sliceAt,run_underlying ts.h,Instr.slice,hh,W5 tz]
 rw[X9 this]
 have hv:(if k=0 then a else a.map (·.add (0*sz)))=a:=by
  split
  ·rfl
  ·cases a with
   | none=>rfl
   | some b=>simp[Addr.add]
 rw[hv,Nat.sub_zero]
 refine A _ ⟨a,k,by rw[List.length_take,Nat.min_eq_left J],by rw[List.length_take];omega,by omega,j,fun L=>?_⟩ (by cases a<;>rfl)
 obtain ⟨g,l,n,rfl,s,C,r,N,H⟩:=y (by omega)
 have q:k*sz≤c*sz:=Nat.mul_le_mul_right _ (by omega)
 refine ⟨g,l,n,rfl,s,C,r,by omega,fun i x f=>?_⟩
 rw[List.getElem?_take] at f
 split at f
 ·exact H i x f
 ·cases f
theorem U5.updD {b:Nat} (h:U5 B e sz R σ w v xs) (u:Upd w b w') (a:v.ownBlock≠some b):U5 B e sz R σ w' v xs:=
 h.kp (D:=fun j=>j=b) (Kpt.of_upd u rfl) fun k c e=>a (e▸c)
end
end Go.Emb
namespace Go.Proofs.YtfppjenblllfaaaGreatDoor
open Go.Emb Go.RowKit Go.Kd Go.Hm
variable {w w' : World} {K : Value → World → Prop} {σ σ' : Q4} {v u : Value}
theorem Q2E {xs:List X0} (j:X4 w σ) (hv:Sl 1 Y1 σ v xs) (z:xs.length≤1000000)
 (h: ∀g w',Stp w σ w' σ→V8 w.heap.size T.b 1 Y1 σ w' g xs→K g w'):Q1 P F.b [v] w K:=P7 (by
 unfold C3
 have b:=hv
 obtain ⟨a,o,rfl,E,C,k,A⟩:=hv
 refine Cj rfl ?_
 refine Q5 (fun f=>?_) (fun f=>?_)
 ·have:a=none:=by simpa using f
  subst this
  have l:=k rfl
  subst l
  have s:xs=[]:=List.eq_nil_of_length_eq_zero (by omega)
  subst s
  exact h _ w (Stp.refl j) V8.nil
 ·refine I6 (R:=Y1) (sz:=1) (Stp.refl j) [] [] rfl rfl (by simp) (by rfl) trivial fun H w1 t n _=>?_
  refine app t n b (by rfl) (by simp only[List.length_nil];omega) (by simp only[List.length_nil];omega) fun J q y r c _=>?_
  exact h _ q r c)
theorem Q9o {B:Nat} {xs:List X0} (l:X4 w σ) (hv:U5 B T.b 1 Y1 σ w v xs) (j:xs.length≤1000000)
 (h: ∀a w' σ',Stp w σ w' σ'→Sl 1 Y1 σ' a xs→K a w'):Q1 P F.b [v] w K:=by
 obtain ⟨s,g,b,f,_⟩:=hv.freeze l
 refine Q2E g f j fun a w' r k=>?_
 have c:=r.weak b.le
 have n:=(U5.of_acc k).down b fun _ _ h=>h
 obtain ⟨σ',o,q,_,_⟩:=n.keep (w0:=w) (σ0:=σ) c
 exact h a w' σ' o q
structure DrIs (B : Nat) (D : Nat → Prop) (σ : Q4) (w : World) (p tv pv cv hv : Value) (m : Hm.Met) (i : Ins) (d : Dr) : Prop where
  ex : ∃ b sv lv, p = .pointer (some ⟨b, 0, none⟩) ∧ B ≤ b ∧ Z5 σ w b [tv, S m.name, pv, S m.result, .bool m.abs, I m.locals, cv, hv, S i.op, I i.n, S i.s, .bool true, sv, lv, I d.e] ∧ U5 B T.b 1 Y1 σ w sv d.stack ∧ U5 B T.b 1 Y1 σ w lv d.locals ∧ (∀ k, sv.ownBlock = some k → k ≠ b ∧ lv.ownBlock ≠ some k) ∧ (∀ k, lv.ownBlock = some k → k ≠ b) ∧ ∀ k, D k ↔ (k = b ∨ sv.ownBlock = some k ∨ lv.ownBlock = some k)
section
variable {B : Nat} {D : Nat → Prop} {p tv pv cv hv : Value} {m : Hm.Met} {i : Ins} {d : Dr}
theorem DrIs.mem (h:DrIs B D σ w p tv pv cv hv m i d) {k:Nat} (hk:D k):B≤k∧k<w.heap.size∧σ k=none:=by
 obtain ⟨b,sv,g,rfl,hB,a,c,f,_,_,hD⟩:=h.ex
 rcases (hD k).1 hk with rfl | hk | hk
 ·exact ⟨hB,a.lt,a.1⟩
 ·exact c.mem hk
 ·exact f.mem hk
theorem DrIs.nx {F:Nat→Prop} (h:DrIs B D σ w p tv pv cv hv m i d) (k:Nxt F w σ w' σ') (a: ∀j,D j→ ¬F j):DrIs B D σ' w' p tv pv cv hv m i d:=by
 obtain ⟨b,sv,q,rfl,hB,n,f,o,g,l,hD⟩:=h.ex
 exact ⟨b,sv,q,rfl,hB,n.nx k (a b ((hD b).2 (.inl rfl))),f.nx k fun j c=>a j ((hD j).2 (.inr (.inl c))),o.nx k fun j c=>a j ((hD j).2 (.inr (.inr c))),g,l,hD⟩
theorem DrIs.up (h:DrIs B D σ w p tv pv cv hv m i d) (k:Stp w σ w' σ'):DrIs B D σ' w' p tv pv cv hv m i d:=
 h.nx (F:=fun _=>False) (.of_stp k) fun _ _=>id
theorem Nxt.rfl0 (a:X4 w σ):Nxt D w σ w σ:= .of_stp (Stp.refl a)
theorem Nxt.updD (f:X4 w σ) {b:Nat} (u:Upd w b w') (h:σ b=none) (g:D b):Nxt D w σ w' σ:=
 ⟨Kpt.of_upd u g,SLe.refl _,fun _ _=>rfl,fun k o c=>by
  have a:k≠b:=fun e=>by subst e;rw[h] at c;cases c
  rw[u.block k a];exact f k o c⟩
theorem Q2y {ok:Bool} {e:Int} (l:X4 w σ) (h:DrIs B D σ w p tv pv cv hv m i d)
 (hh: ∀w',Nxt D w σ w' σ→DrIs B D σ w' p tv pv cv hv m i (d.wrong ok e)→K (.bool (decide ((d.wrong ok e).e=0))) w'):Q1 P F.aj [p, .bool ok,I e] w K:=Pc (by
 have q:=h
 obtain ⟨b,sv,z,rfl,hB,j,C,y,r,s,hD⟩:=h.ex
 unfold Ma
 refine G6 (fun _ w'=>Nxt D w σ w' σ∧DrIs B D σ w' (.pointer (some ⟨b,0,none⟩)) tv pv cv hv m i (d.wrong ok e)) ?_ (fun _ J w1 H=>?_)
 ·cases ok with
  | true=>
   simp only[Bool.not_true,↓M1,M1,Mb,reduceIte]
   exact ⟨Nxt.rfl0 l,q⟩
  | false=>
   simp only[Bool.not_false,↓M1,M1,Mb,reduceIte]
   refine Uh (i:=14) j rfl ?_
   by_cases a:d.e=0
   ·simp only[decide_eq_true a,↓M1,M1,Mb,reduceIte]
    refine Nb (i:=14) j (by simp) rfl rfl fun M k n=>?_
    have c:d.wrong false e=⟨d.stack,d.locals,e⟩:=by unfold Dr.wrong;rw[if_neg (by simp),if_pos a]
    rw[c]
    exact ⟨Nxt.updD l k j.1 ((hD b).2 (.inl rfl)),b,sv,z,rfl,hB,n,C.updD k fun e=>(r b e).1 rfl,y.updD k fun e=>s b e rfl,r,s,hD⟩
   ·simp only[decide_eq_false a,↓M1,M1,Mb,reduceIte]
    have c:d.wrong false e=d:=by unfold Dr.wrong;rw[if_neg (by simp),if_neg a]
    rw[c]
    exact ⟨Nxt.rfl0 l,q⟩
 ·obtain ⟨N,o⟩:=H
  have f:=o
  obtain ⟨L,E,t,A,_,g,_⟩:=o.ex
  cases A
  simp only[↓M1,M1,Mb,reduceIte]
  refine Uh (i:=14) g rfl ?_
  simp only[↓M1,M1,Mb,reduceIte]
  exact hh w1 N f)
theorem X2b {ys:List X0} (Y:X4 w σ) (hB:B≤w.heap.size) (h:DrIs B D σ w p tv pv cv hv m i d) (hy:Sl 1 Y1 σ v ys) (hl:d.stack.length+ys.length≤1000000)
 (hh: ∀w' X,Nxt D w σ w' σ→DrIs B X σ w' p tv pv cv hv m i (d.put ys)→(∀j,X j→D j∨w.heap.size≤j)→K (.tuple #[]) w'):Q1 P F.bF [p,v] w K:=Q0k (by
 have h0:=h
 obtain ⟨b,sv,O,rfl,J,n,hq,s,C,Z,hD⟩:=h.ex
 unfold Db
 rw[E8]
 refine D2 ?_
 refine Uh (i:=14) n rfl ?_
 refine Sc ?_
 by_cases t:d.e=0
 case neg=>
  rw[decide_eq_false t]
  refine J9 ?_
  have H:d.put ys=d:=by unfold Dr.put;rw[if_neg t]
  rw[H] at hh
  exact hh w D (Nxt.rfl0 Y) h0 fun j hj=> .inl hj
 rw[decide_eq_true t]
 rw[t] at n
 refine U1 ?_
 have H:d.put ys=⟨d.stack++ys,d.locals,0⟩:=by unfold Dr.put;rw[if_pos t]
 rw[H] at hh
 simp only[↓M1,M1,Mb,reduceIte]
 refine Uh (i:=12) n rfl ?_
 refine Q1K Y hB hq hy (by rfl) (by omega) (by omega) fun A Q L q o U=>?_
 have g: ∀k,A.ownBlock=some k→sv.ownBlock=some k∨w.heap.size≤k:=fun k f=>by
  rcases U with ⟨a,af,ea,eb⟩ | ⟨_,z⟩
  ·left;rw[ea];rw[eb] at f;cases a<;>exact f
  ·exact .inr (z k f)
 have l:Kpt (fun k=>sv.ownBlock=some k) w Q:=L.mono fun k _ e=>e.1
 have y:Z5 σ Q b _:=⟨n.1,by obtain ⟨e,he⟩:=n.2;exact ⟨e,(l.block b n.lt fun e=>(C b e).1 rfl).trans he⟩⟩
 have M:=s.kp l fun k f e=>(C k e).2 f
 rw[Cl]
 refine Nb (i:=12) y (by simp) (by obtain ⟨a,c,rfl,_⟩:=o;rfl) (by obtain ⟨a,c,rfl,_⟩:=o;rfl) fun w3 N V=>?_
 have W:=n.lt
 have r: ∀k,A.ownBlock=some k→k≠b:=fun k f e=>by
  rcases g k f with h | h
  ·exact (C k h).1 e
  ·omega
 have E: ∀k,A.ownBlock=some k→O.ownBlock≠some k:=fun k f e=>by
  rcases g k f with h | h
  ·exact (C k h).2 e
  ·have:=(s.mem e).2.1;omega
 have N2:Nxt D w σ Q σ:=⟨l.mono fun k _ e=>(hD k).2 (.inr (.inl e)),SLe.refl _,fun _ _=>rfl,q⟩
 refine hh w3 (fun k=>k=b∨A.ownBlock=some k∨O.ownBlock=some k) (N2.trans (Nxt.updD q N y.1 ((hD b).2 (.inl rfl)))) ⟨b,A,O,rfl,J,V,o.updD N fun e=>r b e rfl,M.updD N fun e=>Z b e rfl,fun k f=>⟨r k f,E k f⟩,Z,fun k=>Iff.rfl⟩ fun j hj=>?_
 rcases hj with rfl | hj | hj
 ·exact .inl ((hD _).2 (.inl rfl))
 ·exact (g j hj).imp (fun h=>(hD j).2 (.inr (.inl h))) id
 ·exact .inl ((hD j).2 (.inr (.inr hj))))
end
end Go.Proofs.YtfppjenblllfaaaGreatDoor

namespace Go.Proofs.YtfppjenblllfaaaGreatDoor
open Go.Emb Go.RowKit Go.Kd Go.Hm
variable {w w' : World} {K : Value → World → Prop} {σ σ' : Q4} {v u : Value} {B : Nat} {D : Nat → Prop} {p tv pv cv hv : Value} {m : Hm.Met} {i : Ins} {d : Dr} {l : List Cla}
set_option maxHeartbeats 1000000 in
theorem X1M {n:Nat} (hs:X4 w σ) (h:DrIs B D σ w p tv pv cv hv m i d) (hl:d.stack.length≤1000000) (hn:n≤2000000)
 (hh: ∀v w' σ',Nxt D w σ w' σ'→DrIs B D σ' w' p tv pv cv hv m i (d.take n)→Sl 1 Y1 σ' v (d.taken n)→K v w'):Q1 P F.bv [p,I n] w K:=Aj (by
 have h0:=h
 obtain ⟨b,sv,lv,rfl,hB,hm,hq,al,h1,h2,hD⟩:=h.ex
 unfold Oo
 simp only[↓M1,M1,Mb,reduceIte]
 refine Uh (i:=12) hm rfl ?_
 refine Gh hq ?_
 refine F0 ?_
 rw[show decide ((n:Int)≤(d.stack.length:Nat))=decide (n≤d.stack.length) from decide_eq_decide.2 (by omega)]
 refine Q2y hs h0 fun w1 A z=>?_
 by_cases j:d.e=0∧n≤d.stack.length
 case neg=>
  have H:d.take n=d.wrong (decide (n≤d.stack.length)) 72:=by unfold Dr.take;rw[if_neg j]
  have Y:d.taken n=List.replicate n []:=by unfold Dr.taken;rw[if_neg j]
  have he: ¬(d.wrong (decide (n≤d.stack.length)) 72).e=0:=fun e=>by
   obtain ⟨k1,k2,_⟩:=Dr.wrong_ok (by decide) e
   exact j ⟨k1,by simpa using k2⟩
  rw[H,Y] at hh
  rw[decide_eq_false he]
  simp only[Bool.not_false,↓M1,M1,Mb,reduceIte]
  refine X24 (R:=Y1) (sz:=1) ([]:X0) A.sat (by kernel_rfl) (by decide) ⟨rfl,by decide⟩ (by omega) (by omega) fun v2 w2 L V _=>?_
  obtain ⟨Q,s3,q3,ah,_⟩:=V.keep L
  exact hh v2 w2 Q (A.trans (.of_stp s3)) (z.up s3) q3
 have ew:d.wrong (decide (n≤d.stack.length)) 72=d:=by rw[decide_eq_true j.2];rfl
 have H:d.take n=⟨d.stack.take (d.stack.length-n),d.locals,0⟩:=by unfold Dr.take;rw[if_pos j]
 have Y:d.taken n=d.stack.drop (d.stack.length-n):=by unfold Dr.taken;rw[if_pos j]
 rw[ew] at z⊢
 rw[H,Y] at hh
 rw[decide_eq_true j.1]
 simp only[Bool.not_true,↓M1,M1,Mb,reduceIte]
 have am:=z
 obtain ⟨b',ax,C,e1,M,g,o,t,g1,Z,y⟩:=z.ex
 cases e1
 rw[j.1] at g
 refine Uh (i:=12) g rfl ?_
 refine Gh o ?_
 refine Q9S ?_
 rw[C4 (by omega) (by omega),show (d.stack.length:Int)-(n:Int)=((d.stack.length-n:Nat):Int) by omega]
 refine Uh (i:=12) g rfl ?_
 refine X00 o (d.stack.length-n) (by omega) fun v2 O _=>?_
 refine Q9o A.sat O (by rw[List.length_drop];omega) fun v3 w3 Q f J=>?_
 have r:=g.up f
 have X:=o.up f
 have U:=t.up f
 refine Uh (i:=12) r rfl ?_
 refine X1m X (k:=d.stack.length-n) (by omega) fun v4 q s=>?_
 rw[Cl]
 refine Nb (i:=12) r (by simp) (by obtain ⟨a,c,rfl,_⟩:=q;rfl) (by obtain ⟨a,c,rfl,_⟩:=q;rfl) fun w5 N E=>?_
 have W:=A.trans (Nxt.of_stp (D:=D) f)
 refine hh v3 w5 Q (W.trans (Nxt.updD f.sat N r.1 ((y b).2 (.inl rfl)))) ⟨b,v4,C,rfl,M,E,q.updD N fun e=>(g1 b (by rw[←s];exact e)).1 rfl,U.updD N fun e=>Z b e rfl,fun k hk=>g1 k (by rw[←s];exact hk),Z,fun k=>by rw[s];exact y k⟩ J)
theorem X0X {a c:X0} (r:X4 w σ) (h:DrIs B D σ w p tv pv cv hv m i d) (j:Tab σ tv l) (ok:Ok l) (q:a.length≤J0) (f:c.length≤J0)
 (hh: ∀w' σ',Nxt D w σ w' σ'→DrIs B D σ' w' p tv pv cv hv m i (d.wrong (H8 l a c) 73)→K (.tuple #[]) w'):Q1 P F.bo [p,S a,S c] w K:=Kf (by
 have k:=h
 obtain ⟨b,sv,y,rfl,hB,n,z,o,A,C,hD⟩:=h.ex
 unfold Ml
 rw[E8]
 refine D2 ?_
 refine Uh (i:=0) n rfl ?_
 refine Q3M r j ok q f fun w1 σ1 e=>?_
 refine Q2y e.sat (k.up e) fun s t g=>?_
 exact hh s σ1 ((Nxt.of_stp e).trans t) g)
def dnM (y:Value):Nat:=match y with
 | .int _ z=>(z+1).toNat
 | _=>0
set_option maxHeartbeats 1000000 in
theorem X2g {q:X0} {ys:List X0} (hs:X4 w σ) (hB:B≤w.heap.size) (h:DrIs B D σ w p tv pv cv hv m i d) (ht:Tab σ tv l) (ok:Ok l) (hy:Sl 1 Y1 σ v ys) (hq:q.length≤J0) (hl:d.stack.length≤100000) (hn:ys.length≤2000000)
 (hh: ∀w' σ' X,Nxt D w σ w' σ'→DrIs B X σ' w' p tv pv cv hv m i (d.all l q ys)→(∀j,X j→D j∨w.heap.size≤j)→K (.tuple #[]) w'):Q1 P F.a4 [p,S q,v] w K:=Q0m (by
 unfold Da
 refine Q8 hy ?_
 refine X1M hs h (by omega) (by omega) fun af w1 σ1 s d1 g=>?_
 have E:(d.taken ys.length).length=ys.length:=by
  unfold Dr.taken
  split
  ·rename_i hc;rw[List.length_drop];omega
  ·simp
 have J:=hy.lift s.le
 have y:=ht.lift s.le
 have W:(d.take ys.length).stack.length≤d.stack.length:=by
  unfold Dr.take
  split
  ·rw[List.length_take];omega
  ·unfold Dr.wrong;split
   ·exact Nat.le_refl _
   ·split<;>exact Nat.le_refl _
 refine Q8 g ?_
 refine Q9S ?_
 rw[E,C4 (by omega) (by omega)]
 refine Jb (fun x w'=> ∃(k:Nat) (σ':Q4),x=I ((k:Int)-1)∧k≤ys.length∧Nxt D w1 σ1 w' σ'∧DrIs B D σ' w' p tv pv cv hv m i ((d.take ys.length).wrong (((List.zipWith (H8 l) (d.taken ys.length) ys).drop k).all id) 73)) (fun x _=>dnM x) ⟨ys.length,σ1,rfl,Nat.le_refl _,Nxt.rfl0 s.sat,by
  rw[List.drop_of_length_le (by simp;omega)];exact d1⟩ ?_
 rintro _ dd w2 ⟨k,Y,rfl,hk,f,r⟩
 refine F0 ?_
 by_cases z:k=0
 ·subst z
  rw[show decide ((0:Int)≤((0:Nat):Int)-1)=false from by decide]
  refine J9 ?_
  rw[List.drop_zero] at r
  refine Lu ?_
  have a:=s.trans f
  have eb: ∀w' σ',Nxt D w2 Y w' σ'→B≤w'.heap.size:=fun w' σ' N=>Nat.le_trans hB (Nat.le_trans a.kp.size N.kp.size)
  by_cases b:q=[]
  ·have t:d.all l q ys=(d.take ys.length).wrong ((List.zipWith (H8 l) (d.taken ys.length) ys).all id) 73:=by unfold Dr.all Dr.put1;rw[if_pos b]
   rw[t] at hh
   rw[show (!decide (q=[]))=false from by simp[b]]
   refine J9 ?_
   exact hh w2 Y D a r fun j C=> .inl C
  ·have t:d.all l q ys=((d.take ys.length).wrong ((List.zipWith (H8 l) (d.taken ys.length) ys).all id) 73).put [q]:=by unfold Dr.all Dr.put1;rw[if_neg b]
   rw[t] at hh
   rw[show (!decide (q=[]))=true from by simp[b]]
   refine U1 ?_
   refine N5 (R:=Y1) (sz:=1) f.sat [S q] [q] rfl rfl (by simp;rfl) rfl ⟨⟨rfl,hq⟩,trivial⟩ fun v3 w3 σ3 n U=>?_
   have ai:((d.take ys.length).wrong ((List.zipWith (H8 l) (d.taken ys.length) ys).all id) 73).stack.length≤d.stack.length:=by
    have e:((d.take ys.length).wrong ((List.zipWith (H8 l) (d.taken ys.length) ys).all id) 73).stack=(d.take ys.length).stack:=by
     unfold Dr.wrong;split
     ·rfl
     ·split<;>rfl
    rw[e];exact W
   refine X2b n.sat (Nat.le_trans hB (Nat.le_trans a.kp.size n.bel.size)) (r.up n) U (by simp only[List.length_cons,List.length_nil];omega) fun Z D4 A o H=>?_
   refine hh Z σ3 D4 ((a.trans (.of_stp n)).trans A) o fun j C=>(H j C).imp id fun e=>Nat.le_trans a.kp.size (Nat.le_trans n.bel.size e)
 ·rw[decide_eq_true (show (0:Int)≤(k:Int)-1 by omega)]
  refine U1 ?_
  obtain ⟨j,rfl⟩: ∃j,k=j+1:=⟨k-1,by omega⟩
  rw[show (((j+1:Nat):Int)-1)=(j:Int) by omega]
  have O:j<(d.taken ys.length).length:=by omega
  have Q:j<ys.length:=by omega
  have V:=g.lift f.le
  have M:=J.lift f.le
  have L:=y.lift f.le
  obtain ⟨t,f1⟩:=Sl.elS V O
  obtain ⟨e2,f2⟩:=Sl.elS M Q
  refine V3 f.sat ?_
  (repeat refine U6 Qt ?_)
  (intros;(repeat (rename_i hx;subst hx));(try simp only[↓M2,M2,Mb,reduceIte]))
  rename_i w3 c
  refine X0X c.sat (r.up c.stp) L ok f1 f2 fun Z σ4 A o=>?_
  rw[C4 (by omega) (by omega)]
  rw[Dr.wrong2] at o
  have ed:(((List.zipWith (H8 l) (d.taken ys.length) ys).drop (j+1)).all id&&H8 l (d.taken ys.length)[j] ys[j])=((List.zipWith (H8 l) (d.taken ys.length) ys).drop j).all id:=by
   rw[List.drop_eq_getElem_cons (i:=j) (by simp;omega),List.all_cons,Bool.and_comm]
   simp
  rw[ed] at o
  refine ⟨⟨j,σ4,rfl,by omega,(f.trans (.of_stp c.stp)).trans A,o⟩,?_⟩
  simp only[dnM]
  omega)
end Go.Proofs.YtfppjenblllfaaaGreatDoor

namespace Go.Proofs.YtfppjenblllfaaaGreatDoor
open Go.Emb Go.RowKit Go.Kd Go.Hm
variable {w w' w0 : World} {K : Value → World → Prop} {σ σ' σ0 : Q4} {v u : Value}
def O6 (f:Nat):Value:= .func (.func f) #[] #[]
def Ii (σ:Q4) (a:Dact) (v:Value):Prop:=match a with
 | .puts k=> ∃q,v= .func (.func F.cN) #[] #[.pointer (some q)]∧Z2 σ q [S k]∧k.length≤J0
 | .takes p ys=>(∃q r b,v= .func (.func F.c6) #[] #[.pointer (some q), .pointer (some r)]∧Z2 σ q [S p]∧Z2 σ r [b]∧Sl 1 Y1 σ b ys∧p.length≤J0)∨(v=O6 F.b8∧p=V6∧ys=[V6,V6])∨(v=O6 F.aw∧p=M9∧ys=[V6,V6])
 | .load=>v=O6 F.cf
 | .store=>v=O6 F.c7
 | .pop=>v=O6 F.cJ
 | .dup=>v=O6 F.cs
 | .swap=>v=O6 F.cg
 | .size=>v=O6 F.ch
 | .nop=>v=O6 F.cK
 | .make=>v=O6 F.c4
 | .get=>v=O6 F.ct
 | .give=>v=O6 F.ci
 | .call=>v=O6 F.cj
 | .array=>v=O6 F.c8
 | .at_=>v=O6 F.cA
 | .set_=>v=O6 F.cu
 | .is=>v=O6 F.cB
 | .cast=>v=O6 F.ck
 | .ret=>v=O6 F.cl
 | .equal=>v=O6 F.c9
theorem Ii.lift {a:Dact} (h:Ii σ a v) (k:SLe σ σ'):Ii σ' a v:=by
 cases a with
 | puts s=>obtain ⟨q,b,d,c⟩:=h;exact ⟨q,b,d.lift k,c⟩
 | takes p ys=>
  rcases h with ⟨q,r,f,b,d,c,e,g⟩ | h
  ·exact .inl ⟨q,r,f,b,d.lift k,c.lift k,e.lift k,g⟩
  ·exact .inr h
 | _=>exact h
def Fo (σ:Q4) (c:List (List UInt8×Value)) (b:List (X0×Dact)):Prop:= ∀k,match b.lookup k with
 | none=>L9 c k=none
 | some a=> ∃v,L9 c k=some v∧Ii σ a v
theorem Q9a (b:List (List UInt8×Value)) (k x:List UInt8) (v:Value):L9 (Xg b k v) x=if k=x then some v else L9 b x:=by
 induction b with
 | nil=>simp[Xg,L9]
 | cons p r c=>
  unfold Xg
  split
  ·rename_i h
   simp only[L9]
   split
   ·rfl
   ·rename_i a;rw[if_neg (by rw[h];exact a)]
  ·rename_i h
   simp only[L9,c]
   split
   ·rename_i a;rw[if_neg (fun e=>h (by rw[a,e]))]
   ·rfl
theorem Fo.lift {b:List (List UInt8×Value)} {a:List (X0×Dact)} (h:Fo σ b a) (c:SLe σ σ'):Fo σ' b a:=fun k=>by
 have:=h k
 split at this
 ·exact this
 ·obtain ⟨v,d,e⟩:=this;exact ⟨v,d,e.lift c⟩
theorem Fo.put {c:List (List UInt8×Value)} {b:List (X0×Dact)} {k:X0} {a:Dact} (h:Fo σ c b) (f:Ii σ a v):Fo σ (Xg c k v) ((k,a)::b):=fun x=>by
 rw[List.lookup_cons,Q9a]
 by_cases e:x=k
 ·subst e
  simp only[beq_self_eq_true,if_true]
  exact ⟨v,rfl,f⟩
 ·have d:(x==k)=false:=by simpa using e
  rw[d,if_neg (Ne.symm e)]
  exact h x
structure TS (w0 : World) (σ0 : Q4) (w : World) (σ : Q4) (r : Nat) (acts : List (X0 × Dact)) : Prop where
  stp : Stp w0 σ0 w σ
  ge : w0.heap.size ≤ r
  mp : ∃ mp, E2 σ w r mp ∧ Fo σ mp acts
theorem TS.up {r:Nat} {a:List (X0×Dact)} (h:TS w0 σ0 w σ r a) (k:Stp w σ w' σ'):TS w0 σ0 w' σ' r a:=by
 obtain ⟨d,b,c⟩:=h.mp
 exact ⟨h.stp.trans k,h.ge,d,b.up k,c.lift ⟨k.le⟩⟩
theorem L8 {r:Nat} {b:List (X0×Dact)} {k:X0} {a:Dact} (h:TS w0 σ0 w σ r b) (g:Ii σ a v) (j: ∀w',TS w0 σ0 w' σ r ((k,a)::b)→K undef w'):mapUpdate P T.j (.map (some r)) (S k) v w K:=by
 obtain ⟨l,d,f⟩:=h.mp
 refine Dh X8 d k v fun e i c=>?_
 exact j e ⟨i.stp h.stp h.ge d.1,h.ge,_,c,f.put g⟩
theorem Tq {r:Nat} {a:List (X0×Dact)} {s:X0} (h:TS w0 σ0 w σ r a) (d:s.length≤J0) (e: ∀v w' σ',TS w0 σ0 w' σ' r a→Ii σ' (.puts s) v→K v w'):Q1 P F.aP [S s] w K:=Q5o (by
 unfold Q0K
 refine J6 h.stp.sat rfl fun q w1 σ1 b c=>?_
 refine Q57 ?_
 exact e _ w1 σ1 (h.up b) ⟨q,rfl,c,d⟩)
theorem Q63 {r:Nat} {a:List (X0×Dact)} {s:X0} {ys:List X0} (h:TS w0 σ0 w σ r a) (i:s.length≤J0) (f:Sl 1 Y1 σ u ys) (m: ∀v w' σ',TS w0 σ0 w' σ' r a→Ii σ' (.takes s ys) v→K v w'):Q1 P F.a2 [S s,u] w K:=Q59 (by
 unfold Ak
 refine J6 h.stp.sat rfl fun q w1 σ1 d k=>?_
 refine L1 d.sat (f.up d) fun j l g e c=>?_
 refine Q57 ?_
 have b:=d.trans e
 exact m _ l g (h.up b) (.inl ⟨q,j,u,rfl,k.up e,c,f.up b,i⟩))
theorem Hp {r:Nat} {a:List (X0×Dact)} {s y:X0} (h:TS w0 σ0 w σ r a) (d:s.length≤J0) (e:y.length≤J0) (f: ∀v w' σ',TS w0 σ0 w' σ' r a→Ii σ' (.takes s [y]) v→K v w'):buildSlice P T.d 1 [(0,S y)] w fun t w=>Q1 P F.a2 [S s,t] w K:=by
 refine N5 (R:=Y1) (sz:=1) h.stp.sat [S y] [y] rfl rfl (by simp;rfl) rfl ⟨⟨rfl,e⟩,trivial⟩ fun i g j c b=>?_
 exact Q63 (h.up c) d b f
theorem Q4z {r:Nat} {a:List (X0×Dact)} {s y z:X0} (h:TS w0 σ0 w σ r a) (e:s.length≤J0) (d:y.length≤J0) (f:z.length≤J0) (g: ∀v w' σ',TS w0 σ0 w' σ' r a→Ii σ' (.takes s [y,z]) v→K v w'):buildSlice P T.d 2 [(0,S y),(1,S z)] w fun t w=>Q1 P F.a2 [S s,t] w K:=by
 refine N5 (R:=Y1) (sz:=1) h.stp.sat [S y,S z] [y,z] rfl rfl (by simp;exact ⟨rfl,rfl⟩) rfl ⟨⟨rfl,d⟩,⟨rfl,f⟩,trivial⟩ fun i k j c b=>?_
 exact Q63 (h.up c) e b g
set_option maxHeartbeats 4000000 in
set_option maxRecDepth 100000 in
theorem X0N (hs:X4 w σ) (h: ∀r e w' σ',Stp w σ w' σ'→I9 σ' r e→Fo σ' e Gm→K (.map (some r)) w'):Q1 P F.cq [] w K:=Q4p (by
 unfold Ps
 refine Tz hs fun r w1 hr k1 L=>?_
 have t0:TS w σ w1 σ r []:=⟨k1,hr,[],L,fun k=>rfl⟩
 refine Tq (s:=V6) t0 (by decide) fun v1 w1 σ1 s1 f1=>?_
 refine L8 (k:=[105,110,116]) (a:= .puts V6) s1 f1 fun x1 t1=>?_
 refine Tq (s:=M9) t1 (by decide) fun v2 w2 σ2 s2 f2=>?_
 refine L8 (k:=[116,114,117,101]) (a:= .puts M9) s2 f2 fun x2 t2=>?_
 refine Tq (s:=M9) t2 (by decide) fun v3 w3 σ3 l f3=>?_
 refine L8 (k:=[102,97,108,115,101]) (a:= .puts M9) l f3 fun x3 D=>?_
 refine Tq (s:=N7) D (by decide) fun v4 w4 σ4 s4 f4=>?_
 refine L8 (k:=[119,111,114,100]) (a:= .puts N7) s4 f4 fun x4 t4=>?_
 refine Tq (s:=C7) t4 (by decide) fun v5 w5 σ5 s5 f5=>?_
 refine L8 (k:=[110,117,108,108]) (a:= .puts C7) s5 f5 fun x5 t5=>?_
 refine L8 (k:=[108,111,97,100]) (a:= .load) t5 rfl fun x6 t6=>?_
 refine L8 (k:=[115,116,111,114,101]) (a:= .store) t6 rfl fun x7 t7=>?_
 refine L8 (k:=[100,117,112]) (a:= .dup) t7 rfl fun x8 t8=>?_
 refine L8 (k:=[115,119,97,112]) (a:= .swap) t8 rfl fun x9 t9=>?_
 refine L8 (k:=[112,111,112]) (a:= .pop) t9 rfl fun cg g=>?_
 refine Hp (s:=V6) (y:=V6) g (by decide) (by decide) fun co bp bg ah N=>?_
 refine L8 (k:=[110,101,103]) (a:= .takes V6 [V6]) ah N fun cn B=>?_
 refine Hp (s:=M9) (y:=M9) B (by decide) (by decide) fun b9 a1 bd ad A=>?_
 refine L8 (k:=[110,111,116]) (a:= .takes M9 [M9]) ad A fun cf aa=>?_
 refine Q4z (s:=M9) (y:=M9) (z:=M9) aa (by decide) (by decide) (by decide) fun ck bj a9 af p=>?_
 refine L8 (k:=[98,111,116,104]) (a:= .takes M9 [M9,M9]) af p fun bi ap=>?_
 refine Q4z (s:=N7) (y:=N7) (z:=N7) ap (by decide) (by decide) (by decide) fun a6 aw bq C ai=>?_
 refine L8 (k:=[106,111,105,110]) (a:= .takes N7 [N7,N7]) C ai fun cl O=>?_
 refine L8 (k:=[108,101,115,115]) (a:= .takes M9 [V6,V6]) O (.inr (.inr ⟨rfl,rfl,rfl⟩)) fun cb ab=>?_
 refine L8 (k:=[115,97,109,101]) (a:= .takes M9 [V6,V6]) ab (.inr (.inr ⟨rfl,rfl,rfl⟩)) fun bw H=>?_
 refine L8 (k:=[115,105,122,101]) (a:= .size) H rfl fun a7 j=>?_
 refine L8 (k:=[106,117,109,112]) (a:= .nop) j rfl fun cq n=>?_
 refine Hp (s:=[]) (y:=M9) n (by decide) (by decide) fun a3 b3 cj J E=>?_
 refine L8 (k:=[98,114,97,110,99,104]) (a:= .takes [] [M9]) J E fun ay R=>?_
 refine L8 (k:=[110,101,119]) (a:= .make) R rfl fun bf am=>?_
 refine L8 (k:=[103,101,116]) (a:= .get) am rfl fun bv Q=>?_
 refine L8 (k:=[112,117,116]) (a:= .give) Q rfl fun b1 Y=>?_
 refine L8 (k:=[99,97,108,108]) (a:= .call) Y rfl fun b5 q=>?_
 refine L8 (k:=[97,114,114,97,121]) (a:= .array) q rfl fun bn ao=>?_
 refine L8 (k:=[97,116]) (a:= .at_) ao rfl fun cr ae=>?_
 refine L8 (k:=[115,101,116]) (a:= .set_) ae rfl fun b2 al=>?_
 refine L8 (k:=[105,115]) (a:= .is) al rfl fun b4 aj=>?_
 refine L8 (k:=[99,97,115,116]) (a:= .cast) aj rfl fun bm U=>?_
 refine L8 (k:=[114,101,116,117,114,110]) (a:= .ret) U rfl fun cc W=>?_
 refine Hp (s:=[]) (y:=W0) W (by decide) (by decide) fun a0 ci a2 ak M=>?_
 refine L8 (k:=[116,104,114,111,119]) (a:= .takes [] [W0]) ak M fun be m=>?_
 refine Hp (s:=[]) (y:=V6) m (by decide) (by decide) fun b0 bk t V ac=>?_
 refine L8 (k:=[111,117,116]) (a:= .takes [] [V6]) V ac fun bu Z=>?_
 refine L8 (k:=[101,113,117,97,108]) (a:= .equal) Z rfl fun cs an=>?_
 refine W1 (cells:=(Q1r.map S).toArray) (by kernel_rfl) ?_
 refine J4 10 (fun i w'=>TS w σ w' t r ((((Q1r.take i).map fun o=>(o,Dact.takes V6 [V6,V6])).reverse)++Q8f.reverse)) an fun i w2 d hi f=>?_
 refine Y8 ?_
 refine Q5 (fun hc=>?_) (fun hc=>?_)
 ·have b:i<10:=by simp at hc;omega
  have c:i<Q1r.length:=b
  refine X0a (v:=S Q1r[i]) b (by rw[List.getElem?_map,List.getElem?_eq_getElem c];rfl) ?_
  refine L8 (a:= .takes V6 [V6,V6]) f (.inr (.inl ⟨rfl,rfl,rfl⟩)) fun w3 D=>?_
  (try simp only[↓M1,M1,Mb,reduceIte])
  refine Y3 (by decide) b ?_
  rw[List.take_add_one,List.getElem?_eq_getElem c,Option.toList_some,List.map_append,List.reverse_append]
  exact D
 ·have:i=10:=by simp at hc;omega
  subst this
  obtain ⟨e,q1,q2⟩:=f.mp
  obtain ⟨σ3,l,l3,X,_⟩:=q1.keep f.stp f.ge
  exact h r e w2 σ3 l l3 (q2.lift ⟨X⟩))
end Go.Proofs.YtfppjenblllfaaaGreatDoor

namespace Go.Proofs.YtfppjenblllfaaaGreatDoor
open Go.Emb Go.RowKit Go.Kd Go.Hm
variable {w w' w1 : World} {K : Value → World → Prop} {σ σ' σ1 : Q4} {v u : Value} {B : Nat} {D D1 : Nat → Prop} {p tv pv cv hv : Value} {m : Hm.Met} {i : Ins} {d d' : Dr} {l : List Cla} {E : World → Prop}
def To (B:Nat) (D:Nat→Prop) (w:World) (σ:Q4) (p tv pv cv hv:Value) (m:Hm.Met) (i:Ins) (d':Dr) (E:World→Prop):Prop:=
 ∀w' σ' a,Nxt D w σ w' σ'→DrIs B a σ' w' p tv pv cv hv m i d'→(∀j,a j→D j∨w.heap.size≤j)→E w'
theorem Nxt.chain0 {D F:Nat→Prop} {b:World} {f:Q4} (h:Nxt D w σ w1 σ1) (k:Nxt F w1 σ1 b f) (g: ∀j,j<w.heap.size→F j→D j):Nxt D w σ b f:=
 ⟨⟨k.kp.os.trans h.kp.os,k.kp.tape.trans h.kp.tape,k.kp.output.trans h.kp.output,Nat.le_trans h.kp.size k.kp.size,fun j a c=>(k.kp.block j (Nat.lt_of_lt_of_le a h.kp.size) fun e=>c (g j a e)).trans (h.kp.block j a c)⟩,
  h.le.more k.le,fun j a=>(k.old j (Nat.lt_of_lt_of_le a h.kp.size)).trans (h.old j a),k.sat⟩
theorem To.go (h:To B D w σ p tv pv cv hv m i d' E) (N:Nxt D w σ w1 σ1) (hD: ∀j,D1 j→D j∨w.heap.size≤j):To B D1 w1 σ1 p tv pv cv hv m i d' E:=fun w' σ' c g f a=>
 h w' σ' c (Nxt.chain0 N g fun j b e=>(hD j e).elim id fun h=>by omega) f fun j b=>(a j b).elim (fun e=>hD j e) fun e=> .inr (Nat.le_trans N.kp.size e)
theorem To.up (h:To B D w σ p tv pv cv hv m i d' E) (k:Stp w σ w1 σ1):To B D w1 σ1 p tv pv cv hv m i d' E:=h.go (.of_stp k) fun j a=> .inl a
theorem To.fin (h:To B D w σ p tv pv cv hv m i d' E) (a:X4 w σ) (b:DrIs B D σ w p tv pv cv hv m i d'):E w:=h w σ D (Nxt.rfl0 a) b fun j c=> .inl c
structure AtD (B : Nat) (D : Nat → Prop) (w : World) (σ : Q4) (p tv pv cv hv : Value) (m : Hm.Met) (i : Ins) (l : List Cla) (d : Dr) : Prop where
  sat : X4 w σ
  ge : B ≤ w.heap.size
  dr : DrIs B D σ w p tv pv cv hv m i d
  tab : Tab σ tv l
  ok : Ok l
  len : d.stack.length ≤ 100000
theorem AtD.up (h:AtD B D w σ p tv pv cv hv m i l d) (k:Stp w σ w1 σ1):AtD B D w1 σ1 p tv pv cv hv m i l d:=⟨k.sat,Nat.le_trans h.ge k.bel.size,h.dr.up k,h.tab.lift ⟨k.le⟩,h.ok,h.len⟩
theorem X05 {q:X0} {ys:List X0} (h:AtD B D w σ p tv pv cv hv m i l d) (c:Sl 1 Y1 σ v ys) (a:q.length≤J0) (b:ys.length≤2000000) (hh:To B D w σ p tv pv cv hv m i (d.all l q ys) (K (.tuple #[]))):Q1 P F.a4 [p,S q,v] w K:=
 X2g h.sat h.ge h.dr h.tab h.ok c a h.len b hh
theorem Q7H {q y z:X0} (h:AtD B D w σ p tv pv cv hv m i l d) (c:q.length≤J0) (e:y.length≤J0) (f:z.length≤J0) (hh:To B D w σ p tv pv cv hv m i (d.all l q [y,z]) E):buildSlice P T.d 2 [(0,S y),(1,S z)] w fun t w=>Q1 P F.a4 [p,S q,t] w fun _ w=>E w:=by
 refine N5 (R:=Y1) (sz:=1) h.sat [S y,S z] [y,z] rfl rfl (by simp;exact ⟨rfl,rfl⟩) rfl ⟨⟨rfl,e⟩,⟨rfl,f⟩,trivial⟩ fun j g k b a=>?_
 exact X05 (h.up b) a c (by simp) (hh.up b)
def X01 (l:List Cla) (m:Hm.Met) (i:Ins) (c f:X0) (k:Bool) (a:Dact):Prop:= ∀{w:World} {σ:Q4} {B:Nat} {D:Nat→Prop} {p tv pv cv hv v:Value} {d:Dr} {K:Value→World→Prop},AtD B D w σ p tv pv cv hv m i l d→Ii σ a v→d.e=0→
 To B D w σ p tv pv cv hv m i (Fc l m i c f k d a) (K (.tuple #[]))→Y9 P v [p] w K
theorem Q90 {c f q:X0} {k:Bool} {ys:List X0} (r:ys.length≤100000):X01 l m i c f k (.takes q ys):=fun {w σ B D p tv pv cv hv v d K} h g _ hh=>by
 have hh:To B D w σ p tv pv cv hv m i (d.all l q ys) (K (.tuple #[])):=hh
 rcases g with ⟨a,b,s,rfl,o,n,e,j⟩ | ⟨rfl,rfl,rfl⟩ | ⟨rfl,rfl,rfl⟩
 ·refine Y7 (first:=[]) (caps:=[.pointer (some a), .pointer (some b)]) (Q2c ?_)
  unfold Cr
  refine X7 h.sat o rfl ?_
  refine X7 h.sat n rfl ?_
  exact X05 h e j (by omega) hh
 ·refine Y7 (first:=[]) (caps:=[]) (Bx ?_)
  unfold Wv
  exact Q7H (E:=K (.tuple #[])) h (by decide) (by decide) (by decide) hh
 ·refine Y7 (first:=[]) (caps:=[]) (Ct ?_)
  unfold Vn
  exact Q7H (E:=K (.tuple #[])) h (by decide) (by decide) (by decide) hh
end Go.Proofs.YtfppjenblllfaaaGreatDoor

namespace Go.Proofs.YtfppjenblllfaaaGreatDoor
open Go.Emb Go.RowKit Go.Kd Go.Hm
variable {w w' w1 : World} {K : Value → World → Prop} {σ σ' σ1 : Q4} {v u : Value} {tv : Value} {m : Hm.Met} {i : Ins} {l : List Cla}
theorem X2z {t:TypeId} {sz by_ k b:Nat} {z:Value} [TG P t true] [TZ P t sz by_ z] {cs ds:List Value} (c:Z5 σ w b cs) (e: ∀i v,ds[i]? =some v→cs[k+i]? =some v) (d:ds.length=sz) (h:K (.agg ds.toArray) w):Q2 P t (.pointer (some ((⟨b,0,none⟩:Addr).add k))) w K:=
 Hl d (fun i v a=>by rw[Cl];exact c.cell (e i v a)) h
theorem Q3P {t:TypeId} {sz by_ b:Nat} {z:Value} [tz:TZ P t sz by_ z] {cs ds:List Value} (a:Z5 σ w b cs) (e:cs.length=sz) (f:ds.length=sz) (c: ∀u∈ds,u.oneCell'=true)
 (h: ∀w',Upd w b w'→Z5 σ w' b ds→K undef w'):Z4 P t (.pointer (some ⟨b,0,none⟩)) (.agg ds.toArray) w K:=
 sta a e f (by rw[List.all_toArray];exact List.all_eq_true.2 c) fun w' d a=>h w' d a
def QF (w0:World) (σ:Q4) (xs:List X0) (v:Value) (w':World):Prop:=Stp w0 σ w' σ∧U5 w0.heap.size T.b 1 Y1 σ w' v xs
theorem QF.st {w0:World} {xs:List X0}:K9 (fun w w'=>Below w.heap.size w w') (QF w0 σ xs):=fun _ _ _ ⟨a,c⟩ b=>⟨a.trans (Stp.of_below a.sat b),c.up (Stp.of_below a.sat b)⟩
def QFR (w0:World) (σ:Q4) (xs:List X0) (p:Iv) (v:Value) (w':World):Prop:=QF w0 σ xs v w'∧ ∀k,v.ownBlock=some k→p.1≤k∧k<p.2
theorem QFR.st {w0:World} {xs:List X0} (p:Iv):K9 (fun w w'=>Below w.heap.size w w') (QFR w0 σ xs p):=fun _ _ _ ⟨a,b⟩ c=>⟨QF.st _ _ _ a c,b⟩
theorem Q2N {w0:World} {xs:List X0} (a:Hst w0 σ w σ) (d:Sl 1 Y1 σ v xs) (f:xs.length≤1000000):Q1 P F.b [v] w (dkR (fun w w'=>Below w.heap.size w w') (QFR w0 σ xs) w):=
 Q2E a.sat d f fun g w' c b=>⟨c.bel,⟨a.stp.trans c,(U5.of_acc b).mono a.stp.bel.size⟩,fun k e=>⟨(b.mem k e).1,(b.mem k e).2.1⟩⟩
theorem X18 {A:(World→World→Prop)→(World→Prop)→Prop} (c:X4 w σ) (h:A (fun w w'=>Below w.heap.size w w') (fun w'=>Hst w σ w' σ)):drR w A:=
 X1Z _ _ ⟨Stp.of_below c (Below.refl _ _).drew⟩ (fun _ _ a b=>⟨a.stp.trans (Stp.of_below a.sat b)⟩) (fun _ _ h=>h.size) h
def Q3N (d:Dr):Shp×Int:=if d.e=0 then (⟨true,d.stack,d.locals⟩,0) else (Shp.zero,d.e)
def FnF (σ:Q4) (w0:World) (o:Option Dact) (v:Value) (w':World):Prop:= ∃σ',Stp w0 σ w' σ'∧ ∀a,o=some a→Ii σ' a v
def TbF (σ:Q4) (w0:World) (v:Value) (w':World):Prop:= ∃σ' r a,Stp w0 σ w' σ'∧v= .map (some r)∧I9 σ' r a∧Fo σ' a Gm
theorem TbF.st {w0:World}:K9 (fun w w'=>Below w.heap.size w w') (TbF σ w0):=fun _ _ _ ⟨σ',r,e,a,d,c,b⟩ f=>⟨σ',r,e,a.trans (Stp.of_below a.sat f),d,c,b⟩
theorem FnF.st {w0:World} {o:Option Dact}:K9 (fun w w'=>Below w.heap.size w w') (FnF σ w0 o):=fun _ _ _ ⟨σ',a,b⟩ c=>⟨σ',a.trans (Stp.of_below a.sat c),b⟩
set_option maxHeartbeats 2000000 in
theorem X2k {ms is:List Value} {sv lv:Value} {xs ys:List X0} {b0:Bool} {c f:X0} {k:Bool} (hs:X4 w σ) (ht:Tab σ tv l) (ok:Ok l) (hm:M6 σ m ms) (hi:C9 σ i is) (hx:Sl 1 Y1 σ sv xs) (hy:Sl 1 Y1 σ lv ys) (hl:xs.length≤1000) (N:ys.length≤1000) (a9: ∀a,Gm.lookup i.op=some a→X01 l m i c f k a)
 (h: ∀ds w' σ',Stp w σ w' σ'→E0 σ' (doM l m i c f k ⟨b0,xs,ys⟩).1 ds→K (.tuple #[.agg ds.toArray,I (doM l m i c f k ⟨b0,xs,ys⟩).2]) w'):
 Q1 P F.cP [tv, .agg ms.toArray, .agg is.toArray, .agg [.bool b0,sv,lv].toArray] w K:=Q8a (by
 obtain ⟨pv,cv,hv,rfl,O⟩:=hm
 obtain ⟨rfl,ei⟩:=hi
 obtain ⟨ta,b9⟩: ∃ta,tv= .pointer (some ta):=by obtain ⟨a,_,_,_,e,_⟩:=ht.ex;exact ⟨a,e⟩
 subst b9
 unfold Q2K
 refine Z0 hs fun qm w1 σ1 R bx=>?_
 refine Z0 R.sat fun qi w2 σ2 k2 cd=>?_
 refine Z0 k2.sat fun qs w3 σ3 k3 ci=>?_
 have bf:=(bx.up k2).up k3
 have bj:=cd.up k3
 have S3:=(R.trans k2).trans k3
 have cb:=hx.up S3
 have ca:=hy.up S3
 refine I2 k3.sat fun b8 L σ4 aw k4 ap=>?_
 have S4:=S3.trans k4
 have bh:=bf.up k4
 have Z:=bj.up k4
 have X:=ci.up k4
 have bz:=cb.up k4
 have cn:=ca.up k4
 refine X18 k4.sat ?_
 refine U6 (fun Q _ w g=>D2 (N4 rfl)) ?_
 refine U6 (fun Q _ w g=>D2 (N4 rfl)) ?_
 refine U6 (V:= .agg [S m.name,pv,S m.result, .bool m.abs,I m.locals,cv,hv].toArray) (fun Q _ w g=>Z1 g.sat (bh.up g.stp) rfl (N4 rfl)) ?_
 refine U6 (V:= .agg [S i.op,I i.n,S i.s].toArray) (fun Q _ w g=>Z1 g.sat (Z.up g.stp) rfl (N4 rfl)) ?_
 refine U6 (V:=sv) (fun t Q _ w g e=>?_) ?_
 ·subst e
  exact ld (i:=1) g.sat (X.up g.stp) rfl (N4 rfl)
 refine Q6t (QFR L σ4 xs) QFR.st (fun t Q _ w g e=>?_) ?_
 ·subst e
  exact Q2N g bz (by omega)
 refine U6 (V:=lv) (fun t Q _ w g e=>?_) ?_
 ·subst e
  exact ld (i:=2) g.sat (X.up g.stp) rfl (N4 rfl)
 refine Q6t (QFR L σ4 ys) QFR.st (fun t Q _ w g e=>?_) ?_
 ·subst e
  exact Q2N g cn (by omega)
 refine W9 (fun v w'=> ∃t u,v= .agg #[.bool true,t,u]∧QF L σ4 xs t w'∧QF L σ4 ys u w'∧ ∀k,t.ownBlock=some k→u.ownBlock≠some k) (fun _ _ _ ⟨t,u,M,J,h3,h4⟩ g=>⟨t,u,M,QF.st _ _ _ J g,QF.st _ _ _ h3 g,h4⟩) (fun q A Q hA w g ad ai=>?_) ?_
 ·refine W1 (cells:= #[.bool true,q,A]) (by obtain ⟨⟨_,a,d1,rfl,_⟩,_⟩:=ad;obtain ⟨⟨_,a2,c9,rfl,_⟩,_⟩:=ai;kernel_rfl) ?_
  exact ⟨Below.refl _ _,q,A,rfl,ad.1,ai.1,fun k e1 e2=>by
   have g1:=ad.2 k e1
   have g2:=ai.2 k e2
   rcases hA 6 8 (by decide) with h | h<;>omega⟩
 rintro _ _ _ _ _ _ _ _ _ Q-w5 eg rfl rfl rfl rfl rfl-rfl-⟨q,A,rfl,⟨k5,q5⟩,⟨-,y5⟩,cu⟩
 obtain ⟨cx,b5,cq,_⟩:=O
 refine W1 (cells:= #[.pointer (some ta),S m.name,pv,S m.result, .bool m.abs,I m.locals,cv,hv,S i.op,I i.n,S i.s, .bool true,q,A,I 0]) (by
  obtain ⟨a1,c1,rfl,_⟩:=cx;obtain ⟨a2,c2,rfl,_⟩:=b5;obtain ⟨a3,c3,rfl,_⟩:=cq;obtain ⟨a4,c4,rfl,_⟩:=q5;obtain ⟨a5,c5,rfl,_⟩:=y5;kernel_rfl) ?_
 refine Po k5.sat fun b w6 σ6 g U an=>?_
 have dc:=ap.lt
 have ce:L.heap.size≤b:=Nat.le_trans k5.bel.size g
 have aa:=(ap.up k5).up U
 have S5:=S4.trans k5
 have S6:=S5.trans U
 have q6:=q5.up U
 have y6:=y5.up U
 have a8:DrIs L.heap.size (fun k=>k=b∨q.ownBlock=some k∨A.ownBlock=some k) σ6 w6 (.pointer (some ⟨b,0,none⟩)) (.pointer (some ta)) pv cv hv m i ⟨xs,ys,0⟩:=
  ⟨b,q,A,rfl,ce,an,q6,y6,fun k y=>⟨fun e=>by have:=(q5.mem y).2.1;omega,cu k y⟩,fun k y e=>by have:=(y5.mem y).2.1;omega,fun k=>Iff.rfl⟩
 have A6:AtD L.heap.size _ w6 σ6 (.pointer (some ⟨b,0,none⟩)) (.pointer (some ta)) pv cv hv m i l ⟨xs,ys,0⟩:=⟨U.sat,Nat.le_trans k5.bel.size U.bel.size,a8,ht.lift ⟨S6.le⟩,ok,by show xs.length≤100000;omega⟩
 generalize (fun k=>k=b∨q.ownBlock=some k∨A.ownBlock=some k)=D at*
 have ba: ∀k,D k→L.heap.size≤k:=fun k y=>(A6.dr.mem y).1
 have db:=(Z.up k5).up U
 clear a8 q5 q6 y5 y6 an
 generalize (Value.pointer (some ⟨b,0,none⟩))=p at*
 have bg:doM l m i c f k ⟨b0,xs,ys⟩=match Gm.lookup i.op with
  | none=>(Shp.zero,76)
  | some a=>Q3N ((Fc l m i c f k ⟨xs,ys,0⟩ a).wrong (decide ((Fc l m i c f k ⟨xs,ys,0⟩ a).stack.length≤24)) 72):=rfl
 rw[bg] at h
 clear bg
 generalize ho:Gm.lookup i.op=o at*
 refine V3 U.sat ?_
 (repeat refine U6 Qt ?_)
 refine W9 (TbF σ6 w6) TbF.st (fun w g=>X0N g.sat fun r mp w' σ' R M J=>⟨R.bel,σ',r,mp,g.stp.trans R,rfl,M,J⟩) ?_
 (repeat refine U6 Qt ?_)
 refine W9 (fun v w'=> ∃v0,v= .tuple #[v0, .bool o.isSome]∧FnF σ6 w6 o v0 w') (fun _ _ _ ⟨v0,M,J⟩ g=>⟨v0,M,FnF.st _ _ _ J g⟩) (fun ej d9 w g ck cf=>?_) ?_
 ·subst cf
  obtain ⟨σ',r,mp,R,rfl,M,J⟩:=ck
  have h3:=J i.op
  rw[ho] at h3
  refine Q4V (sz:=1) (by_:=8) (z:= .nilFunc) (tz:=⟨by kernel_rfl⟩) X8 (M.is R.sat) i.op ?_
  refine ⟨Below.refl _ _,?_⟩
  cases o with
  | none=>
   have h3:L9 mp i.op=none:=h3
   rw[h3]
   exact ⟨_,rfl,σ',R,fun a e=>by cases e⟩
  | some a=>
   obtain ⟨v,h4,h5⟩:=h3
   rw[h4]
   exact ⟨v,rfl,σ',R,fun a e=>by cases e;exact h5⟩
 refine W9 (FnF σ6 w6 o) FnF.st (fun t w g ac=>?_) ?_
 ·obtain ⟨v0,rfl,J⟩:=ac
  exact U9 rfl ⟨Below.refl _ _,J⟩
 refine U6 (V:= .bool o.isSome) (fun t w g ac=>?_) ?_
 ·obtain ⟨v0,rfl,J⟩:=ac
  exact U9 rfl (N4 rfl)
 rintro _ _ _ _ dq _ w7 dl rfl-rfl-cm rfl
 obtain ⟨σ7,k7,hf⟩:=cm
 refine Nw ?_
 cases o with
 | none=>
  refine U1 ?_
  refine W1 (cells:= #[.bool false, .slice none 0 0, .slice none 0 0]) (by kernel_rfl) ?_
  refine Qg (ds:=[.bool false, .slice none 0 0, .slice none 0 0]) (aa.up k7) (S6.trans k7) (Nat.le_trans S3.bel.size aw) rfl rfl (by simp;exact ⟨rfl,rfl⟩) fun w9 cw B=>?_
  refine W2 B rfl ?_
  exact h _ _ _ cw.stp ⟨_,_,rfl,Sl.nil,Sl.nil⟩
 | some a=>
  refine J9 ?_
  refine a9 a rfl (A6.up k7) (hf a rfl) rfl fun w8 σ8 D8 N8 h8 d3=>?_
  replace h: ∀ds w' σ',Stp w σ w' σ'→E0 σ' (Q3N ((Fc l m i c f k ⟨xs,ys,0⟩ a).wrong (decide ((Fc l m i c f k ⟨xs,ys,0⟩ a).stack.length≤24)) 72)).1 ds→K (.tuple #[.agg ds.toArray,I (Q3N ((Fc l m i c f k ⟨xs,ys,0⟩ a).wrong (decide ((Fc l m i c f k ⟨xs,ys,0⟩ a).stack.length≤24)) 72)).2]) w':=h
  generalize Fc l m i c f k ⟨xs,ys,0⟩ a=d at*
  have S7:=S6.trans k7
  have b4: ∀k,D k→w.heap.size≤k:=fun k y=>Nat.le_trans S4.bel.size (ba k y)
  have Y: ∀k,D8 k→L.heap.size≤k:=fun k y=>(h8.mem y).1
  have ay:=h8
  obtain ⟨b1,eb,ec,rfl,co,O,be,cs,g1,g2,cy⟩:=h8.ex
  refine Q3J ?_
  refine D2 ?_
  refine D2 ?_
  refine Uh (i:=12) O rfl ?_
  refine Gh be ?_
  refine X2l ?_
  rw[show decide (((d.stack.length:Nat):Int)≤24)=decide (d.stack.length≤24) from decide_eq_decide.2 (by omega)]
  refine Q2y N8.sat ay fun w9 N9 h9=>?_
  generalize d.wrong (decide (d.stack.length≤24)) 72=d2 at*
  unfold Q3N at h
  clear ay O be cs g1 g2 cy h8 co
  obtain ⟨b2,H,E,e2,ea,ae,ak,N,g1,g2,dy⟩:=h9.ex
  cases e2
  have S8:=S7.nx N8 b4
  have S9:=S8.nx N9 fun k y=>Nat.le_trans S4.bel.size (Y k y)
  have aq: ¬D8 b8:=fun e=>by have:=Y _ e;omega
  have ag: ¬D b8:=fun e=>by have:=ba _ e;omega
  have B:=((aa.up k7).nx N8 ag).nx N9 aq
  have W:=Nat.le_trans S3.bel.size aw
  refine Q3J ?_
  refine D2 ?_
  refine Uh (i:=14) ae rfl ?_
  refine P4 ?_
  by_cases he:d2.e=0
  ·simp only[if_pos he] at h
   rw[show (!decide (d2.e=0))=false from by simp[he]]
   refine J9 ?_
   refine Q3J ?_
   refine D2 ?_
   refine X2z (k:=11) (ds:=[.bool true,H,E]) ae (fun j v hj=>by rcases j with _ | _ | _ | j<;>first | exact hj | cases hj) rfl ?_
   have M: ∀u∈[Value.bool true,H,E],u.oneCell'=true:=by
    obtain ⟨a1,c1,rfl,_⟩:=ak;obtain ⟨a2,c2,rfl,_⟩:=N;simp;exact ⟨rfl,rfl,rfl⟩
   refine Q3P (ds:=[.bool true,H,E]) B rfl rfl M fun a0 af C=>?_
   refine W2 C rfl ?_
   have b3:Stp w σ a0 σ8:=af.stp S9 W B.1
   have a6:H.ownBlock≠some b8:=fun e=>by have:=(ak.mem e).1;omega
   have ao:E.ownBlock≠some b8:=fun e=>by have:=(N.mem e).1;omega
   have av:=(ak.updD af a6).mono S4.bel.size
   have ab:=(N.updD af ao).mono S4.bel.size
   obtain ⟨σa,Sa,qa,cj,bc⟩:=av.keep b3
   have cp:=ab.shiftR cj fun k y=>(bc k fun e=>(g1 k e.symm).2 y).trans (ab.mem y).2.2
   obtain ⟨σb,Sb,qb,b6,_⟩:=cp.keep Sa
   exact h _ _ _ Sb ⟨H,E,rfl,qa.lift b6,qb⟩
  ·simp only[if_neg he] at h
   rw[show (!decide (d2.e=0))=true from by simp[he]]
   refine U1 ?_
   refine X1t (ds:=[.bool false, .slice none 0 0, .slice none 0 0]) S9 W B rfl rfl ?_
   refine U6 (V:= .pointer (some ⟨b1,0,none⟩)) (fun w g=>Q3J (By rfl)) ?_
   refine U6 (V:= .pointer (some ((⟨b1,0,none⟩:Addr).add 14))) (fun t w g e=>by subst e;exact D2 (By rfl)) ?_
   refine U6 (V:= .agg [.bool false, .slice none 0 0, .slice none 0 0].toArray) (fun w g=>W1 (by kernel_rfl) (By rfl)) ?_
   refine U6 (V:=I d2.e) (fun t w g e=>?_) ?_
   ·subst e
    exact Uh (i:=14) (ae.kp g.kp fun e=>by omega) rfl (By rfl)
   refine Q9D rfl (by simp;exact ⟨rfl,rfl⟩) (fun v w e=>e) ?_ B.1
   rintro _ _ _ _ _ a0 bb rfl rfl rfl rfl C
   refine W2 C rfl ?_
   exact h _ _ _ bb.hst.stp ⟨_,_,rfl,Sl.nil,Sl.nil⟩)
end Go.Proofs.YtfppjenblllfaaaGreatDoor

namespace Go.Proofs.YtfppjenblllfaaaGreatDoor
open Go.Emb Go.RowKit Go.Kd Go.Hm
variable {w w' w0 w1 : World} {K : Value → World → Prop} {σ σ' σ0 σ1 : Q4} {v u : Value} {tv : Value} {l : List Cla} {b b6 : Nat} {xs ys : List X0} {x : X0}
theorem Q3p {σ1:Q4} {cs ds:List Value} (h:Z5 σ w b cs) (k:Z5 σ1 w b ds):cs=ds:=by
 obtain ⟨_,e,h⟩:=h
 obtain ⟨_,f,k⟩:=k
 rw[h] at k
 have:=Option.some.inj k
 simp at this
 exact this.1
structure ShS (w0 : World) (σ0 : Q4) (w : World) (σ : Q4) (b : Nat) (xs ys : List X0) : Prop where
  stp : Stp w0 σ0 w σ
  ge : w0.heap.size ≤ b
  ex : ∃ v1 v2, Z5 σ w b [.bool true, v1, v2] ∧ U5 w0.heap.size T.b 1 Y1 σ w v1 xs ∧ U5 w0.heap.size T.b 1 Y1 σ w v2 ys ∧ (∀ k, v1.ownBlock = some k → k ≠ b ∧ v2.ownBlock ≠ some k) ∧ ∀ k, v2.ownBlock = some k → k ≠ b
theorem ShS.up (h:ShS w0 σ0 w σ b xs ys) (k:Stp w σ w' σ'):ShS w0 σ0 w' σ' b xs ys:=by
 obtain ⟨f,g,c,e,d,a,i⟩:=h.ex
 exact ⟨h.stp.trans k,h.ge,f,g,c.up k,e.up k,d.up k,a,i⟩
theorem X1P (g:X4 w σ) (h: ∀b w',ShS w σ w' σ b [] []→K (.pointer (some ⟨b,0,none⟩)) w'):W7 P T.h w fun p w=>Z4 P T.h p (.agg #[.bool true, .slice none 0 0, .slice none 0 0]) w fun _ w=>K p w:=
 Ha g fun b w1 d e a=>Q3P (sz:=3) (ds:=[.bool true, .slice none 0 0, .slice none 0 0]) a rfl rfl (by simp;exact ⟨rfl,rfl⟩) fun f i c=>
  h b f ⟨i.stp e d a.1,d,_,_,c,U5.of_acc V8.nil,U5.of_acc V8.nil,nofun,nofun⟩
theorem X2f {y z:Value} (h:ShS w0 σ0 w σ b xs ys) (L:Z5 σ w b [.bool true,y,z]) (H:Sl 1 Y1 σ u [x]) (Y:xs.length≤1000000) (hh: ∀w',ShS w0 σ0 w' σ b (xs++[x]) ys→K undef w'):
 X5 P .append [T.d,T.d] T.d [false,false] [y,u] w fun s w=>fieldAddr P T.h (.pointer (some ⟨b,0,none⟩)) 1 w fun q w=>Z4 P T.d q s w K:=by
 obtain ⟨Z,X,o,E,C,n,A⟩:=h.ex
 have e:=Q3p L o
 simp only[List.cons.injEq,and_true,true_and] at e
 obtain ⟨rfl,rfl⟩:=e
 refine Q1K h.stp.sat h.stp.bel.size E H (by rfl) (by simp only[List.length_cons,List.length_nil];omega) (by simp only[List.length_cons,List.length_nil];omega) fun p O j W m t=>?_
 have f: ∀k,p.ownBlock=some k→y.ownBlock=some k∨w.heap.size≤k:=fun k d=>by
  rcases t with ⟨a,N,V,M⟩ | ⟨_,g⟩
  ·left;rw[V];rw[M] at d;cases a<;>exact d
  ·exact .inr (g k d)
 have D:=o.kp j fun e=>(n b e.1).1 rfl
 have Q:=C.kp j fun k d e=>(n k e.1).2 d
 have B: ∀k,p.ownBlock=some k→k≠b∧z.ownBlock≠some k:=fun k d=>by
  rcases f k d with h | h
  ·exact n k h
  ·have:=o.lt
   exact ⟨by omega,fun e=>by have:=(C.mem e).2.1;omega⟩
 refine D2 ?_
 refine Nb (i:=1) D (by simp) (by obtain ⟨a,c,rfl,_⟩:=m;rfl) (by obtain ⟨a,c,rfl,_⟩:=m;rfl) fun R r J=>?_
 have U:Stp w0 σ0 O σ:=h.stp.kp j fun k d=>⟨d.2.1,d.2.2⟩
 exact hh R ⟨r.stp U h.ge D.1,h.ge,p,z,J,m.updD r fun e=>(B b e).1 rfl,Q.updD r fun e=>A b e rfl,B,A⟩
theorem X2o {y z:Value} (h:ShS w0 σ0 w σ b xs ys) (L:Z5 σ w b [.bool true,y,z]) (H:Sl 1 Y1 σ u [x]) (Z:ys.length≤1000000) (hh: ∀w',ShS w0 σ0 w' σ b xs (ys++[x])→K undef w'):
 X5 P .append [T.d,T.d] T.d [false,false] [z,u] w fun s w=>fieldAddr P T.h (.pointer (some ⟨b,0,none⟩)) 2 w fun q w=>Z4 P T.d q s w K:=by
 obtain ⟨a1,Y,p,B,N,o,A⟩:=h.ex
 have e:=Q3p L p
 simp only[List.cons.injEq,and_true,true_and] at e
 obtain ⟨rfl,rfl⟩:=e
 refine Q1K h.stp.sat h.stp.bel.size N H (by rfl) (by simp only[List.length_cons,List.length_nil];omega) (by simp only[List.length_cons,List.length_nil];omega) fun j Q m X n t=>?_
 have f: ∀k,j.ownBlock=some k→z.ownBlock=some k∨w.heap.size≤k:=fun k d=>by
  rcases t with ⟨a,O,W,M⟩ | ⟨_,g⟩
  ·left;rw[W];rw[M] at d;cases a<;>exact d
  ·exact .inr (g k d)
 have D:=p.kp m fun e=>A b e.1 rfl
 have R:=B.kp m fun k d e=>(o k d).2 e.1
 have C: ∀k,j.ownBlock=some k→k≠b:=fun k d=>by
  rcases f k d with h | h
  ·exact A k h
  ·have:=p.lt
   omega
 have E: ∀k,y.ownBlock=some k→k≠b∧j.ownBlock≠some k:=fun k d=>⟨(o k d).1,fun e=>by
  rcases f k e with h | h
  ·exact (o k d).2 h
  ·have:=(B.mem d).2.1;omega⟩
 refine D2 ?_
 refine Nb (i:=2) D (by simp) (by obtain ⟨a,c,rfl,_⟩:=n;rfl) (by obtain ⟨a,c,rfl,_⟩:=n;rfl) fun U r J=>?_
 have V:Stp w0 σ0 Q σ:=h.stp.kp m fun k d=>⟨d.2.1,d.2.2⟩
 exact hh U ⟨r.stp V h.ge D.1,h.ge,y,j,J,R.updD r fun e=>(E b e).1 rfl,n.updD r fun e=>C b e rfl,E,C⟩
theorem X1s {r:List Value} {K:Value→World→Prop} (h:ShS w0 σ0 w σ b xs ys) (S0:Stp w1 σ1 w0 σ0) (i:Z5 σ0 w0 b6 r) (M:r.length=3) (f:w1.heap.size≤b6) (hh: ∀ds w' σ',Stp w1 σ1 w' σ'→E0 σ' ⟨true,xs,ys⟩ ds→K (.agg ds.toArray) w'):
 Q2 P T.h (.pointer (some ⟨b,0,none⟩)) w fun t w=>Z4 P T.h (.pointer (some ⟨b6,0,none⟩)) t w fun _u w=>V7 P T.h (.pointer (some ⟨b6,0,none⟩)) w fun B=>K B w:=by
 obtain ⟨o,p,C,c,m,A,R⟩:=h.ex
 have H:=i.lt
 refine Q6N C rfl ?_
 have O: ∀u∈[Value.bool true,o,p],u.oneCell'=true:=by
  obtain ⟨Y,X,rfl,_⟩:=c;obtain ⟨U,V,rfl,_⟩:=m;simp;exact ⟨rfl,rfl,rfl⟩
 refine Q3P (ds:=[.bool true,o,p]) (i.up h.stp) M rfl O fun N g J=>?_
 refine W2 J rfl ?_
 have S:=S0.trans h.stp
 have Q:Stp w1 σ1 N σ:=g.stp S f (i.up h.stp).1
 have y:=(c.updD g fun e=>by have:=(c.mem e).1;omega).mono S0.bel.size
 have q:=(m.updD g fun e=>by have:=(m.mem e).1;omega).mono S0.bel.size
 obtain ⟨W,z,E,j,a⟩:=y.keep Q
 have d:=q.shiftR j fun k s=>(a k fun e=>(A k e.symm).2 s).trans (q.mem s).2.2
 obtain ⟨σb,D,L,n,_⟩:=d.keep z
 exact hh _ _ _ D ⟨o,p,rfl,E.lift n,L⟩
theorem Tj {d ds:List Value} {s:Shp} {K:Value→World→Prop} (S0:Stp w1 σ1 w σ) (e:Z5 σ w b6 d) (i:d.length=3) (c:w1.heap.size≤b6) (a:E0 σ s ds) (hh: ∀w',Stp w1 σ1 w' σ→K (.agg ds.toArray) w'):
 Z4 P T.h (.pointer (some ⟨b6,0,none⟩)) (.agg ds.toArray) w fun _u w=>V7 P T.h (.pointer (some ⟨b6,0,none⟩)) w fun f=>K f w:=by
 refine Q3P (ds:=ds) e i (by obtain ⟨_,_,rfl,_⟩:=a;rfl) (Rep.one a) fun j g h=>?_
 exact W2 h (by obtain ⟨_,_,rfl,_⟩:=a;rfl) (hh j (g.stp S0 c e.1))
theorem E0.zero:E0 σ Shp.zero [.bool false, .slice none 0 0, .slice none 0 0]:=⟨_,_,rfl,Sl.nil,Sl.nil⟩
theorem Q4O (h:K (.agg [.bool false, .slice none 0 0, .slice none 0 0].toArray) w):O7 P T.h [] w K:=W1 (by kernel_rfl) h
theorem Q9m (h:K (.agg #[.bool true, .slice none 0 0, .slice none 0 0]) w):O7 P T.h [(0, .bool true)] w K:=W1 (by kernel_rfl) h
end Go.Proofs.YtfppjenblllfaaaGreatDoor

namespace Go.Proofs.YtfppjenblllfaaaGreatDoor
open Go.Emb Go.RowKit Go.Kd Go.Hm
variable {w w' w0 w1 : World} {K : Value → World → Prop} {σ σ' σ0 σ1 : Q4} {v u : Value} {tv : Value} {l : List Cla} {b b6 : Nat} {xs ys : List X0} {x : X0} {s t : Shp}
theorem Q96 (e:X4 w σ) (f:Sl 1 Y1 σ v xs) (g:xs.length≤1000000)
 (h: ∀a w' σ',Stp w σ w' σ'→Sl 1 Y1 σ' a xs→K a w'):Q1 P F.b [v] w K:=
 Q2E e f g fun a w' j i=>by
  obtain ⟨σ',c,d,_⟩:=i.keep j
  exact h a w' σ' c d
def SlF (w0:World) (σ:Q4) (xs:List X0) (v:Value) (w':World):Prop:= ∃σ',Stp w0 σ w' σ'∧Sl 1 Y1 σ' v xs
theorem SlF.st:K9 (fun w w'=>Below w.heap.size w w') (SlF w0 σ xs):=fun _ _ _ ⟨σ',a,c⟩ d=>⟨σ',a.trans (Stp.of_below a.sat d),c⟩
theorem Q2H (a:Hst w0 σ w σ) (d:Sl 1 Y1 σ v xs) (e:xs.length≤1000000):Q1 P F.b [v] w (dk (fun w w'=>Below w.heap.size w w') (SlF w0 σ xs) w):=
 Q96 a.sat d e fun g w' σ' c f=>⟨c.bel,σ',a.stp.trans c,f⟩
theorem E0.liftS {ds:List Value} (h:E0 σ s ds) (k:Stp w σ w' σ'):E0 σ' s ds:=Rep.up k.le h
theorem Q37 {ds:List Value} (hs:X4 w σ) (R:E0 σ s ds) (h1:s.stack.length≤1000000) (h2:s.locals.length≤1000000) (h: ∀j w' σ',Stp w σ w' σ'→E0 σ' s j→K (.agg j.toArray) w'):Q1 P F.bI [.agg ds.toArray] w K:=Q3r (by
 obtain ⟨sv,lv,rfl,q,z⟩:=R
 unfold Iq
 refine Po hs fun b w1 σ1 c B a=>?_
 have N:=a.lt
 refine I2 B.sat fun b2 M H r o A=>?_
 have E:=B.trans o
 have a:=a.up o
 have q:=q.up E
 have z:=z.up E
 refine V3 o.sat ?_
 (repeat refine U6 Qt ?_)
 refine U6 (V:=sv) (fun t w c e=>by subst e;exact Uh (i:=1) (a.up c.stp) rfl (N4 rfl)) ?_
 refine W9 (SlF M H s.stack) SlF.st (fun t w c e=>by subst e;exact Q2H c q h1) ?_
 refine U6 (V:=lv) (fun t w c e=>by subst e;exact Uh (i:=2) (a.up c.stp) rfl (N4 rfl)) ?_
 (repeat refine U6 Qt ?_)
 refine W9 (SlF M H s.locals) SlF.st (fun t w c e=>by subst e;exact Q2H c z h2) ?_
 rintro _ _ _ D _ _ C w3 U rfl rfl rfl W rfl rfl Q
 obtain ⟨σa,ka,f⟩:=W
 obtain ⟨σb,Z,g⟩:=Q
 obtain ⟨σ3,y,O,X⟩:=ka.join Z
 have f:=f.lift O
 have g:=g.lift X
 have n:=a.up y
 refine Nb (i:=1) n (by simp) (Xc f) (G5 f) fun w4 J m=>?_
 refine D2 ?_
 refine Nb (i:=2) m (by simp) (Xc g) (G5 g) fun w5 L p=>?_
 refine Q6N (cs:=[.bool s.seen,D,C]) p rfl ?_
 have S3:=E.trans y
 have Y:=L.stp (J.stp S3 c n.1) c m.1
 have d:b2≠b:=fun e=>by subst e;omega
 have k:=(((A.up y).upd J d).upd L d)
 exact Tj (s:=s) (K:=K) Y k rfl (Nat.le_trans B.bel.size r) ⟨D,C,rfl,f,g⟩ fun w6 S6=>h _ _ _ S6 ⟨D,C,rfl,f,g⟩)
theorem X1q {α:Type} {f:X0→X0→α} {xs cs:List X0} {i:Nat} (c:i<xs.length) (d:i<cs.length):(List.zipWith f xs cs).take (i+1)=(List.zipWith f xs cs).take i++[f xs[i] cs[i]]:=by
 have a:i<(List.zipWith f xs cs).length:=by simp;omega
 rw[List.take_add_one,List.getElem?_eq_getElem a]
 simp
theorem X1i {f:X0→X0→X0} {xs cs:List X0} {e:X0} (j:xs.length=cs.length):(List.zipWith f xs cs).any (fun s=>decide (s=e))=false↔ ∀i (a:i<xs.length) (c:i<cs.length),f xs[i] cs[i]≠e:=by
 rw[List.any_eq_false]
 constructor
 ·intro h i a c
  have:=h (f xs[i] cs[i]) (List.mem_iff_getElem.2 ⟨i,by simp;omega,by simp⟩)
  simpa using this
 ·intro h x g
  obtain ⟨i,d,rfl⟩:=List.mem_iff_getElem.1 g
  simp at d
  simpa using h i (by omega) (by omega)
set_option maxHeartbeats 1000000 in
theorem X1b {ds es:List Value} (hs:X4 w σ) (ht:Tab σ tv (Q6 l)) (ok:Ok (Q6 l)) (hr:E0 σ s ds) (hu:E0 σ t es) (h1:s.stack.length≤1000) (h2:s.locals.length≤1000) (h3:t.stack.length≤1000) (h4:t.locals.length≤1000)
 (h: ∀q w' σ',Stp w σ w' σ'→E0 σ' (Ww (Q6 l) s t).1 q→K (.tuple #[.agg q.toArray,I (Ww (Q6 l) s t).2]) w'):Q1 P F.cp [tv, .agg ds.toArray, .agg es.toArray] w K:=Q4f (by
 have an:=hr
 have a4:=hu
 obtain ⟨sv,lv,rfl,X,q2⟩:=hr
 obtain ⟨b7,bm,rfl,q3,Y⟩:=hu
 unfold Az
 refine Z0 hs fun qa w1 σ1 k1 c=>?_
 refine Z0 k1.sat fun qb w2 σ2 k2 g=>?_
 have c:=c.up k2
 refine I2 k2.sat fun b6 w3 V o k3 y=>?_
 have c:=c.up k3
 have g:=g.up k3
 have S2:=k1.trans k2
 have a:=S2.trans k3
 have o:w.heap.size≤b6:=Nat.le_trans S2.bel.size o
 have ac:=ht.lift ⟨a.le⟩
 refine D2 ?_
 refine ld (i:=0) a.sat c rfl ?_
 refine Nw ?_
 cases e1:s.seen with
 | false=>
  have O:Ww (Q6 l) s t=(t,0):=by unfold Ww;rw[if_pos e1]
  rw[O] at h
  refine U1 ?_
  refine Z1 a.sat g rfl ?_
  refine Q37 a.sat (E0.liftS a4 a) (by omega) (by omega) fun q w4 σ4 Z C=>?_
  exact Tj (K:=fun r w=>K (.tuple #[r,I 0]) w) (a.trans Z) (y.up Z) rfl o C fun w5 f=>h _ _ _ f C
 | true=>
 refine J9 ?_
 refine D2 ?_
 refine ld (i:=0) a.sat g rfl ?_
 refine Nw ?_
 cases e2:t.seen with
 | false=>
  have O:Ww (Q6 l) s t=(s,0):=by unfold Ww;rw[if_neg (by simp[e1]),if_pos e2]
  rw[O] at h
  refine U1 ?_
  refine Z1 a.sat c rfl ?_
  refine Q37 a.sat (E0.liftS an a) (by omega) (by omega) fun q w4 σ4 Z C=>?_
  exact Tj (K:=fun r w=>K (.tuple #[r,I 0]) w) (a.trans Z) (y.up Z) rfl o C fun w5 f=>h _ _ _ f C
 | true=>
 refine J9 ?_
 have X:=X.up a
 have q2:=q2.up a
 have q3:=q3.up a
 have Y:=Y.up a
 refine D2 ?_
 refine ld (i:=1) a.sat c rfl ?_
 refine Q8 X ?_
 refine D2 ?_
 refine ld (i:=1) a.sat g rfl ?_
 refine Q8 q3 ?_
 refine P4 ?_
 have en:Ww (Q6 l) s t=if s.stack.length≠t.stack.length∨s.locals.length≠t.locals.length then (Shp.zero,75)
  else if (List.zipWith (F6 (Q6 l)) s.stack t.stack).any (fun s=>decide (s=[])) then (Shp.zero,75)
  else (⟨true,List.zipWith (F6 (Q6 l)) s.stack t.stack,List.zipWith (Yo (Q6 l)) s.locals t.locals⟩,0):=by
  unfold Ww;rw[if_neg (by simp[e1]),if_neg (by simp[e2])]
 rw[en] at h
 clear en
 have M:(s.stack.length≠t.stack.length∨s.locals.length≠t.locals.length)→ ∀w σ',Stp w3 V w σ'→O7 P T.h [] w fun a0 w=>Z4 P T.h (.pointer (some ⟨b6,0,none⟩)) a0 w fun _u w=>V7 P T.h (.pointer (some ⟨b6,0,none⟩)) w fun r0=>K (.tuple #[r0,I 75]) w:=fun E w σ' k=>by
  rw[if_pos E] at h
  refine Q4O ?_
  exact Tj (K:=fun r w=>K (.tuple #[r,I 75]) w) (a.trans k) (y.up k) rfl o E0.zero fun w5 f=>h _ _ _ f E0.zero
 by_cases el:s.stack.length=t.stack.length
 case neg=>
  rw[show (!decide ((s.stack.length:Int)=(t.stack.length:Nat)))=true from by simp;omega]
  (repeat refine Hd.h ?_)
  refine U1 ?_
  exact M (.inl el) w3 V (Stp.refl a.sat)
 rw[show (!decide ((s.stack.length:Int)=(t.stack.length:Nat)))=false from by simp[el]]
 (repeat refine Hd.h ?_)
 refine ld (i:=2) a.sat c rfl ?_
 (repeat refine Hd.h ?_)
 refine Q8 q2 ?_
 (repeat refine Hd.h ?_)
 refine ld (i:=2) a.sat g rfl ?_
 (repeat refine Hd.h ?_)
 refine Q8 Y ?_
 (repeat refine Hd.h ?_)
 refine P4 ?_
 (repeat refine Hd.h ?_)
 by_cases O:s.locals.length=t.locals.length
 case neg=>
  rw[show (!decide ((s.locals.length:Int)=(t.locals.length:Nat)))=true from by simp;omega]
  refine U1 ?_
  exact M (.inr O) w3 V (Stp.refl a.sat)
 rw[show (!decide ((s.locals.length:Int)=(t.locals.length:Nat)))=false from by simp[O]]
 refine J9 ?_
 clear M
 rw[if_neg (by simp[el,O])] at h
 refine Q9m ?_
 refine X1P a.sat fun b w4 A4=>?_
 have S4:=A4.stp
 refine D2 ?_
 refine ld (i:=1) S4.sat (c.up S4) rfl ?_
 refine Q8 X ?_
 refine J4 s.stack.length (fun k w'=> ∃σ',ShS w3 V w' σ' b ((List.zipWith (F6 (Q6 l)) s.stack t.stack).take k) []∧ ∀j (g1:j<s.stack.length) (g2:j<t.stack.length),j<k→F6 (Q6 l) s.stack[j] t.stack[j]≠[]) ⟨V,A4,fun j _ _ h=>absurd h (Nat.not_lt_zero _)⟩ fun k w5 d hk hi=>?_
 obtain ⟨σ5,A5,J⟩:=hi
 have f:=A5.stp
 refine Y8 ?_
 refine Q5 (fun E=>?_) (fun E=>?_)
 ·have m:k<s.stack.length:=by simp at E;omega
  have n:k<t.stack.length:=by omega
  refine Of (X.up f) m fun a1 L B=>?_
  refine X7 f.sat L rfl ?_
  refine D2 ?_
  refine ld (i:=1) f.sat (g.up f) rfl ?_
  refine Of (q3.up f) n fun a2 Q A=>?_
  refine X7 f.sat Q rfl ?_
  refine Q7L f.sat (ac.lift ⟨f.le⟩) ok B A fun w6 σ6 k6=>?_
  have D:=A5.up k6
  refine F9 ?_
  by_cases ej:F6 (Q6 l) s.stack[k] t.stack[k]=[]
  ·rw[decide_eq_true ej]
   refine U1 ?_
   have U:(List.zipWith (F6 (Q6 l)) s.stack t.stack).any (fun s=>decide (s=[]))=true:=by
    rw[←Bool.not_eq_false,X1i el]
    exact fun hh=>hh k m n ej
   rw[if_pos U] at h
   refine Q4O ?_
   exact Tj (K:=fun r w=>K (.tuple #[r,I 75]) w) (a.trans D.stp) (y.up D.stp) rfl o E0.zero fun w5 f=>h _ _ _ f E0.zero
  ·rw[decide_eq_false ej]
   refine J9 ?_
   obtain ⟨v1,v2,m6,p1,p2,n1,n2⟩:=D.ex
   refine D2 ?_
   refine Uh (i:=1) m6 rfl ?_
   have H:=Q4a ok B A
   refine N5 (R:=Y1) (sz:=1) D.stp.sat [S (F6 (Q6 l) s.stack[k] t.stack[k])] [F6 (Q6 l) s.stack[k] t.stack[k]] rfl rfl (by simp;rfl) rfl ⟨⟨rfl,H⟩,trivial⟩ fun v7 w7 σ7 W ao=>?_
   refine X2f (D.up W) (m6.up W) ao (by rw[List.length_take];omega) fun w8 A8=>?_
   (try simp only[↓M1,M1,Mb,reduceIte])
   refine Y3 (by omega) m ⟨σ7,?_,fun j g1 g2 hj=>?_⟩
   ·rw[X1q m n];exact A8
   ·by_cases e:j=k
    ·subst e;exact ej
    ·exact J j g1 g2 (by omega)
 have N:k=s.stack.length:=by simp at E;omega
 subst N
 have U:(List.zipWith (F6 (Q6 l)) s.stack t.stack).any (fun s=>decide (s=[]))=false:=(X1i el).2 fun j g1 g2=>J j g1 g2 g1
 rw[if_neg (by simp[U])] at h
 rw[List.take_of_length_le (by simp;omega)] at A5
 clear J U
 refine D2 ?_
 refine ld (i:=2) f.sat (c.up f) rfl ?_
 refine Q8 (q2.up f) ?_
 refine J4 s.locals.length (fun k w'=> ∃σ',ShS w3 V w' σ' b (List.zipWith (F6 (Q6 l)) s.stack t.stack) ((List.zipWith (Yo (Q6 l)) s.locals t.locals).take k)) ⟨σ5,A5⟩ fun k w6 d hk hi=>?_
 obtain ⟨σ6,D⟩:=hi
 have p:=D.stp
 refine Y8 ?_
 refine Q5 (fun E=>?_) (fun E=>?_)
 ·have m:k<s.locals.length:=by simp at E;omega
  have n:k<t.locals.length:=by omega
  refine Of (q2.up p) m fun a1 L B=>?_
  refine X7 p.sat L rfl ?_
  refine G6 (fun z w'=> ∃σ',Stp w6 σ6 w' σ'∧z=S (Yo (Q6 l) s.locals[k] t.locals[k])∧(Yo (Q6 l) s.locals[k] t.locals[k]).length≤J0) ?_ fun z d w7 U=>?_
  ·refine Lu ?_
   by_cases e3:s.locals[k]=[]
   ·rw[show (!decide (s.locals[k]=[]))=false from by simp[e3]]
    (repeat refine Hd.h ?_)
    refine J9 ?_
    have ee:Yo (Q6 l) s.locals[k] t.locals[k]=[]:=by unfold Yo;rw[if_pos (.inl e3)]
    rw[ee]
    exact ⟨σ6,Stp.refl p.sat,rfl,Nat.zero_le _⟩
   ·rw[show (!decide (s.locals[k]=[]))=true from by simp[e3]]
    (repeat refine Hd.h ?_)
    refine ld (i:=2) p.sat (g.up p) rfl ?_
    (repeat refine Hd.h ?_)
    refine Of (Y.up p) n fun a2 Q A=>?_
    (repeat refine Hd.h ?_)
    refine X7 p.sat Q rfl ?_
    (repeat refine Hd.h ?_)
    refine Lu ?_
    (repeat refine Hd.h ?_)
    by_cases e4:t.locals[k]=[]
    ·rw[show (!decide (t.locals[k]=[]))=false from by simp[e4]]
     refine J9 ?_
     have ee:Yo (Q6 l) s.locals[k] t.locals[k]=[]:=by unfold Yo;rw[if_pos (.inr e4)]
     rw[ee]
     exact ⟨σ6,Stp.refl p.sat,rfl,Nat.zero_le _⟩
    ·rw[show (!decide (t.locals[k]=[]))=true from by simp[e4]]
     refine U1 ?_
     have ee:Yo (Q6 l) s.locals[k] t.locals[k]=F6 (Q6 l) s.locals[k] t.locals[k]:=Q9A _ _ _
     rw[ee]
     refine D2 ?_
     refine ld (i:=2) p.sat (g.up p) rfl ?_
     refine Of (Y.up p) n fun a3 a6 bz=>?_
     refine X7 p.sat a6 rfl ?_
     refine Q7L p.sat (ac.lift ⟨p.le⟩) ok B A fun w7 σ7 W=>?_
     exact ⟨σ7,W,rfl,Q4a ok B A⟩
  ·obtain ⟨σ7,W,rfl,H⟩:=U
   have A7:=D.up W
   obtain ⟨v1,v2,m7,p1,p2,n1,n2⟩:=A7.ex
   refine D2 ?_
   refine Uh (i:=2) m7 rfl ?_
   refine N5 (R:=Y1) (sz:=1) A7.stp.sat [S (Yo (Q6 l) s.locals[k] t.locals[k])] [Yo (Q6 l) s.locals[k] t.locals[k]] rfl rfl (by simp;rfl) rfl ⟨⟨rfl,H⟩,trivial⟩ fun v8 w8 σ8 k8 ay=>?_
   refine X2o (A7.up k8) (m7.up k8) ay (by rw[List.length_take];omega) fun w9 A9=>?_
   (try simp only[↓M1,M1,Mb,reduceIte])
   refine Y3 (by omega) m ⟨σ8,?_⟩
   rw[X1q m n];exact A9
 have N:k=s.locals.length:=by simp at E;omega
 subst N
 rw[List.take_of_length_le (by simp;omega)] at D
 exact X1s (K:=fun r w=>K (.tuple #[r,I 0]) w) D a y rfl o fun q w' σ' k' aw=>h q w' σ' k' aw)
end Go.Proofs.YtfppjenblllfaaaGreatDoor

namespace Go.Proofs.YtfppjenblllfaaaGreatDoor
open Go.Emb Go.RowKit Go.Kd Go.Hm
variable {w : World} {K : Value → World → Prop} {σ : Q4} {l : List Cla} {v : Value}
end Go.Proofs.YtfppjenblllfaaaGreatDoor

namespace Go.Proofs.YtfppjenblllfaaaGreatDoor
open Go.Emb Go.RowKit Go.Kd Go.Hm
variable {w : World} {K : Value → World → Prop} {σ : Q4} {l : List Cla} {v : Value}
end Go.Proofs.YtfppjenblllfaaaGreatDoor

namespace Go.Proofs.YtfppjenblllfaaaGreatDoor
open Go.Emb Go.RowKit Go.Kd Go.Hm
variable {w w' w0 w1 : World} {K : Value → World → Prop} {σ σ' σ0 σ1 : Q4} {v u : Value} {tv : Value} {l : List Cla} {b b6 : Nat} {xs ys : List X0} {x : X0} {s t : Shp}
end Go.Proofs.YtfppjenblllfaaaGreatDoor

namespace Go.Hm
open Go.Kd
end Go.Hm
namespace Go.Proofs.YtfppjenblllfaaaGreatDoor
open Go.Emb Go.RowKit Go.Kd Go.Hm
variable {w w' w0 w1 : World} {K : Value → World → Prop} {σ σ' σ0 σ1 : Q4} {v u : Value} {tv : Value} {l : List Cla} {b b6 : Nat} {xs ys : List X0} {x : X0} {s t : Shp}
end Go.Proofs.YtfppjenblllfaaaGreatDoor

namespace Go.Proofs.YtfppjenblllfaaaGreatDoor
open Go.Emb Go.RowKit Go.Kd Go.Hm
variable {w w' w0 w1 : World} {K : Value → World → Prop} {σ σ' σ0 σ1 : Q4} {v u : Value} {tv : Value} {l : List Cla} {b b6 : Nat} {xs ys : List X0} {x : X0} {s t : Shp}
end Go.Proofs.YtfppjenblllfaaaGreatDoor

namespace Go.Hm
open Go.Kd
def Q9M:Hm.Met:=⟨[],[],[],false,0,[],[]⟩
def Q6I:Ins:=⟨[97,100,100],0,[]⟩
def Pt:X0:=N7++[91,93]
def sh1:Shp:=⟨true,[V6],[]⟩
def sh2:Shp:=⟨true,[Pt],[]⟩
set_option maxRecDepth 100000 in
theorem Q8Z:doM (Q6 Sh) Q9M Q6I [] [] false ⟨true,[V6,V6],[]⟩=(sh1,0):=by decide+kernel
set_option maxRecDepth 100000 in
theorem Q5Q:Ww (Q6 Sh) ⟨true,[C7],[]⟩ sh2=(sh2,0):=by decide+kernel
end Go.Hm
namespace Go.Proofs.YtfppjenblllfaaaGreatDoor
open Go.Emb Go.RowKit Go.Kd Go.Hm
variable {w w' w0 w1 : World} {K : Value → World → Prop} {σ σ' σ0 σ1 : Q4} {v u : Value} {tv : Value} {l : List Cla} {b b6 : Nat} {xs ys : List X0} {x : X0} {s t : Shp}
theorem Q9G (B:X4 w σ) (z:Glb σ)
 (h: ∀a v w' σ',Stp w σ w' σ'→Tab σ' (.pointer (some a)) (Q6 Sh)→Sl 8 U8 σ' v (Q6 Sh)→Ok (Q6 Sh)→K (.tuple #[.pointer (some a),v]) w'):Q1 P F.aU [] w K:=Sy (by
 unfold Vp
 refine Q2P B fun v M H d q=>?_
 refine X2c d.sat (z.lift ⟨d.le⟩) q (by decide) X0V (fun i e _ _ f=>by rw[Q4n] at f;cases f) fun tv O L _ j y ok _=>?_
 obtain ⟨a,_,_,_,rfl,_⟩:=y.ex
 have p:=d.trans j
 refine U9 (vs:=[_,_,_]) rfl ?_
 refine U9 (vs:=[_,_,_]) rfl ?_
 refine U9 (vs:=[_,_,_]) rfl ?_
 refine Q2P j.sat fun N J E g m=>?_
 refine X0S g.sat m (by decide) (fun i e _ _ f=>by rw[Q4n] at f;cases f) fun C A D _ n k r _=>?_
 have c:=g.trans n
 have o:=p.trans c
 refine U9 (vs:=[_,_,_]) rfl ?_
 refine U9 (vs:=[_,_,_]) rfl ?_
 refine U9 (vs:=[_,_,_]) rfl ?_
 refine P4 ?_
 simp only[decide_true,Bool.not_true]
 (repeat refine Hd.h ?_)
 refine P4 ?_
 simp only[decide_true,Bool.not_true]
 (repeat refine Hd.h ?_)
 refine Q8M ?_
 (repeat refine Hd.h ?_)
 refine J9 ?_
 exact h a C A D o (y.lift ⟨c.le⟩) k r)
set_option maxHeartbeats 2000000 in
theorem Q3W (hs:X4 w σ) (hg:Glb σ) (h: ∀w' σ',Stp w σ w' σ'→K (.bool true) w'):Q1 P F.ay [] w K:=Gc (by
 unfold Ls
 refine Q9G hs hg fun a lv w1 σ1 S1 ht hl ok=>?_
 refine U9 (vs:=[_,_]) rfl ?_
 refine U9 (vs:=[_,_]) rfl ?_
 refine Q8M ?_
 (repeat refine Hd.h ?_)
 refine Q8 hl ?_
 (repeat refine Hd.h ?_)
 refine Sc ?_
 (repeat refine Hd.h ?_)
 rw[show decide (((Q6 Sh).length:Int)=0)=false from by decide]
 refine J9 ?_
 refine Dw ?_
 refine W1 (cells:= #[S Q6I.op,I 0,S []]) (by kernel_rfl) ?_
 refine N5 (R:=Y1) (sz:=1) S1.sat [S V6,S V6] [V6,V6] rfl rfl (by simp;rfl) rfl ⟨⟨rfl,by decide⟩,⟨rfl,by decide⟩,trivial⟩ fun v2 w2 σ2 V U=>?_
 refine W1 (cells:= #[.bool true,v2, .slice none 0 0]) (by obtain ⟨a,c,rfl,_⟩:=U;kernel_rfl) ?_
 refine X2k (m:=Q9M) (i:=Q6I) (c:=[]) (f:=[]) (k:=false) V.sat (ht.lift ⟨V.le⟩) ok ⟨_,_,_,rfl,Sl.nil,Sl.nil,Sl.nil,by decide,by decide,by decide⟩ ⟨rfl,by decide,by decide,by decide⟩ U Sl.nil (by decide) (by decide) (fun a ha=>by
  have e:Gm.lookup Q6I.op=some (.takes V6 [V6,V6]):=by decide+kernel
  rw[e] at ha;cases ha
  exact @Q90 _ _ _ _ _ _ _ _ (by decide)) fun ds w3 σ3 k3 H=>?_
 rw[Q8Z] at H⊢
 have S3:=(S1.trans V).trans k3
 refine U9 (vs:=[_,_]) rfl ?_
 refine U9 (vs:=[_,_]) rfl ?_
 have d:E0 σ3 sh1 ds:=H
 refine Y4 (sz:=3) k3.sat rfl (by obtain ⟨_,_,rfl,_⟩:=d;rfl) (Rep.one d) fun qa w4 σ4 E X=>?_
 refine N5 (R:=Y1) (sz:=1) E.sat [S C7] [C7] rfl rfl (by simp;rfl) rfl ⟨⟨rfl,by decide⟩,trivial⟩ fun v5 w5 σ5 B C=>?_
 refine W1 (cells:= #[.bool true,v5, .slice none 0 0]) (by obtain ⟨a,c,rfl,_⟩:=C;kernel_rfl) ?_
 refine N5 (R:=Y1) (sz:=1) B.sat [S Pt] [Pt] rfl rfl (by simp;rfl) rfl ⟨⟨rfl,by decide⟩,trivial⟩ fun v6 w6 σ6 y J=>?_
 refine W1 (cells:= #[.bool true,v6, .slice none 0 0]) (by obtain ⟨a,c,rfl,_⟩:=J;kernel_rfl) ?_
 have W:=(((V.trans k3).trans E).trans B).trans y
 refine X1b (s:=⟨true,[C7],[]⟩) (t:=sh2) y.sat (ht.lift ⟨W.le⟩) ok ⟨_,_,rfl,C.up y,Sl.nil⟩ ⟨_,_,rfl,J,Sl.nil⟩ (by decide) (by decide) (by decide) (by decide) fun es w7 σ7 M Q=>?_
 rw[Q5Q] at Q⊢
 refine U9 (vs:=[_,_]) rfl ?_
 refine U9 (vs:=[_,_]) rfl ?_
 have j:E0 σ7 sh2 es:=Q
 refine Y4 (sz:=3) M.sat rfl (by obtain ⟨_,_,rfl,_⟩:=j;rfl) (Rep.one j) fun qb w8 σ8 z Z=>?_
 have n:=(((X.up B).up y).up M).up z
 have o:=E0.liftS d ((((E.trans B).trans y).trans M).trans z)
 have D:=E0.liftS j z
 refine Z1 z.sat n (by obtain ⟨_,_,rfl,_⟩:=d;rfl) ?_
 refine N5 (R:=Y1) (sz:=1) z.sat [S V6] [V6] rfl rfl (by simp;rfl) rfl ⟨⟨rfl,by decide⟩,trivial⟩ fun v9 w9 σ9 A L=>?_
 refine W1 (cells:= #[.bool true,v9, .slice none 0 0]) (by obtain ⟨a,c,rfl,_⟩:=L;kernel_rfl) ?_
 refine Q3n (b:=sh1) (es:=[.bool true,v9, .slice none 0 0]) A.sat (E0.liftS o A) ⟨_,_,rfl,L,Sl.nil⟩ fun ai N=>?_
 have ah:=(((S3.trans E).trans B).trans y).trans (M.trans (z.trans (A.trans (Stp.of_below A.sat N))))
 have p:=A.trans (Stp.of_below A.sat N)
 rw[show decide (sh1=sh1)=true from by decide]
 (repeat refine Hd.h ?_)
 refine Sc ?_
 simp only[decide_true]
 (repeat refine Hd.h ?_)
 refine Z1 p.sat (Z.up p) (by obtain ⟨_,_,rfl,_⟩:=j;rfl) ?_
 (repeat refine Hd.h ?_)
 refine N5 (R:=Y1) (sz:=1) p.sat [S Pt] [Pt] rfl rfl (by simp;rfl) rfl ⟨⟨rfl,by decide⟩,trivial⟩ fun O av am q r=>?_
 (repeat refine Hd.h ?_)
 refine W1 (cells:= #[.bool true,O, .slice none 0 0]) (by obtain ⟨a,c,rfl,_⟩:=r;kernel_rfl) ?_
 (repeat refine Hd.h ?_)
 refine Q3n (b:=sh2) (es:=[.bool true,O, .slice none 0 0]) q.sat (E0.liftS D (p.trans q)) ⟨_,_,rfl,r,Sl.nil⟩ fun ak ab=>?_
 have g:=p.trans (q.trans (Stp.of_below q.sat ab))
 rw[show decide (sh2=sh2)=true from by decide]
 (repeat refine Hd.h ?_)
 refine Sc ?_
 simp only[decide_true]
 (repeat refine Hd.h ?_)
 refine Z1 g.sat (n.up g) (by obtain ⟨_,_,rfl,_⟩:=d;rfl) ?_
 (repeat refine Hd.h ?_)
 refine Z1 g.sat (n.up g) (by obtain ⟨_,_,rfl,_⟩:=d;rfl) ?_
 (repeat refine Hd.h ?_)
 refine X1a (a:=sh1) (b:=sh1) g.sat (E0.liftS o g) (E0.liftS o g) fun ap Y=>?_
 rw[show decide (sh1=sh1)=true from by decide]
 (repeat refine Hd.h ?_)
 exact h _ _ ((((S3.trans E).trans B).trans y).trans (M.trans (z.trans (g.trans (Stp.of_below g.sat Y))))))
end Go.Proofs.YtfppjenblllfaaaGreatDoor

namespace Go.Hm
open Go.Kd
end Go.Hm
namespace Go.Proofs.YtfppjenblllfaaaGreatDoor
open Go.Emb Go.RowKit Go.Kd Go.Hm
variable {w w' w0 w1 : World} {K : Value → World → Prop} {σ σ' σ0 σ1 : Q4} {v u : Value} {tv : Value} {l : List Cla} {s t : Shp} {ds es : List Value}
end Go.Proofs.YtfppjenblllfaaaGreatDoor
