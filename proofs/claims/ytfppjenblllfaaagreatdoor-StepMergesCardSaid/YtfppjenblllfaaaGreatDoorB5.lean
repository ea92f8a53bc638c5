/- Parts of a proof about the given program: its functions as texts of their own, what each computes, plain laws of that. The conditions of each stand in its statement. -/
import Derived.Test.YtfppjenblllfaaaGreatDoorB4
import Derived.Test.YtfppjenblllfaaaGreatDoorB3
import Derived.Lib.TrimUEq
set_option linter.unnecessarySimpa false
set_option linter.defProp false
set_option linter.unusedSectionVars false
set_option linter.unusedVariables false
set_option linter.unusedSimpArgs false
namespace Go.Emb
open Go.RowKit Go.Hm
structure FinT (B : Nat) (F : Option Obj → Prop) (w w' : World) : Prop where
  os : w'.os = w.os
  tape : w'.tape = w.tape
  output : w'.output = w.output
  size : w.heap.size ≤ w'.heap.size
  old : ∀ k, k < w.heap.size → k < B → w'.heap[k]? = w.heap[k]?
  new : ∀ k, k < w.heap.size → w'.heap[k]? = w.heap[k]? ∨ F (w'.heap[k]?)
section
variable {P : Program} {B : Nat} {F : Option Obj → Prop} {w w' w0 : World} {σ : Q5} {v V : Value} {K : Value → World → Prop}
theorem FinT.of_below (h:Below w.heap.size w w'):FinT B F w w':=⟨h.os,h.tape,h.output,h.size,fun k a _=>h.block k a,fun k a=> .inl (h.block k a)⟩
theorem FinT.of_upd {b:Nat} (h:Upd w b w') (c:B≤b) (hF:F (w'.heap[b]?)):FinT B F w w':=
 ⟨h.os,h.tape,h.output,by rw[h.size];exact Nat.le_refl _,fun k a hB=>h.block k (by omega),fun k a=>by
  by_cases e:k=b
  ·subst e;exact .inr hF
  ·exact .inl (h.block k e)⟩
theorem FinT.hst (h:FinT w0.heap.size F w w') (c:X4 w0 σ) (a:Hst w0 σ w σ):Hst w0 σ w' σ:=
 ⟨Stp.of_below c ⟨h.os.trans a.stp.bel.os,h.tape.trans a.stp.bel.tape,h.output.trans a.stp.bel.output,Nat.le_trans a.stp.bel.size h.size,fun k b=>(h.old k (Nat.lt_of_lt_of_le b a.stp.bel.size) b).trans (a.stp.bel.block k b)⟩⟩
theorem X1w {A:(World→World→Prop)→(World→Prop)→Prop} (F:Option Obj→Prop) (a:X4 w σ) (h:A (FinT w.heap.size F) (fun w'=>Hst w σ w' σ)):dr w A:=
 Q0c _ _ ⟨Stp.of_below a (Below.refl _ _).drew⟩ (fun _ _ c b=>b.hst a c) h
theorem Q4U (h:V=v):dk (FinT B F) (fun v _=>V=v) w v w:=⟨.of_below (Below.refl _ _),h⟩
theorem X0P (a:Below w.heap.size w w') (h:V=v):dk (FinT B F) (fun v _=>V=v) w v w':=⟨.of_below a,h⟩
def X1J (B n:Nat) (F:Option Obj→Prop) (v:Value) (w:World):Prop:= ∃g,v= .pointer (some ⟨g,0,none⟩)∧B≤g∧((∃cs:List Value,∃e,cs.length=n∧w.heap[g]? =some (.cells cs.toArray e (0,0)))∨F (w.heap[g]?))
def X1u (B:Nat) (F:Option Obj→Prop) (v:Value) (w:World):Prop:= ∃g,v= .pointer (some ⟨g,0,none⟩)∧B≤g∧F (w.heap[g]?)
theorem Fl {w:World} {g:Nat} {o:Obj} (h:w.heap[g]? =some o):g<w.heap.size:=(Array.getElem?_eq_some_iff.1 h).1
theorem Q6M {n:Nat} (hF: ¬F none):K9 (FinT B F) (X1J B n F):=by
 rintro v w w' ⟨g,rfl,hB,c⟩ d
 have a:g<w.heap.size:=by
  rcases c with ⟨cs,e,_,h⟩ | h
  ·exact Fl h
  ·cases b:w.heap[g]? with
   | none=>rw[b] at h;exact absurd h hF
   | some o=>exact Fl b
 rcases d.new g a with h | h
 ·exact ⟨g,rfl,hB,by rw[h];exact c⟩
 ·exact ⟨g,rfl,hB, .inr h⟩
theorem Q7v (hF: ¬F none):K9 (FinT B F) (X1u B F):=by
 rintro v w w' ⟨g,rfl,hB,b⟩ d
 have a:g<w.heap.size:=by
  cases c:w.heap[g]? with
  | none=>rw[c] at b;exact absurd b hF
  | some o=>exact Fl c
 rcases d.new g a with h | h
 ·exact ⟨g,rfl,hB,by rw[h];exact b⟩
 ·exact ⟨g,rfl,hB,h⟩
end
end Go.Emb
namespace Go.Hm
open Go.Kd
theorem Q62 {a b:List Hm.Met} (h: ∀m,m∈a↔m∈b):Wx a=Wx b:=by
 rw[Bool.eq_iff_iff]
 simp only[Wx,List.any_eq_true]
 constructor
 ·rintro ⟨x,e,y,d,c⟩;exact ⟨x,(h x).1 e,y,(h y).1 d,c⟩
 ·rintro ⟨x,e,y,d,c⟩;exact ⟨x,(h x).2 e,y,(h y).2 d,c⟩
theorem Q9e {α:Type} {a b:List α} {p:α→Bool} (h: ∀m,m∈a↔m∈b):a.any p=b.any p:=by
 rw[Bool.eq_iff_iff]
 simp only[List.any_eq_true]
 constructor
 ·rintro ⟨x,c,y⟩;exact ⟨x,(h x).1 c,y⟩
 ·rintro ⟨x,c,y⟩;exact ⟨x,(h x).2 c,y⟩
def Xm (m:Hm.Met):List X0:=m.params++if m.result=[] then [] else [m.result]
def Zc (c:Cla):List X0:=c.fields.map (·.kind)++c.methods.flatMap Xm
theorem Q8U {l:List Cla} {c:Cla}:(Zc c).any (fun s=> !D9 l s)=B1 l c:=by
 unfold Zc B1 Xm
 rw[List.any_append,List.any_map,List.any_flatMap]
 congr 1
 congr 1
 funext m
 rw[List.any_append]
 by_cases e:m.result=[]
 ·simp[e]
 ·simp[e,Bool.or_comm]
def Pu (l:List Cla) (i k:Nat):Bool:=decide (k=i)||A0 l (X9 l i) (X9 l k)
def T8 (l:List Cla) (i n:Nat):List Hm.Met:=(List.range n).flatMap fun k=>if Pu l i k then (l.getD k Cla.zero).methods else []
theorem Q7d {l:List Cla} {i n:Nat}:T8 l i (n+1)=T8 l i n++if Pu l i n then (l.getD n Cla.zero).methods else []:=by
 unfold T8
 rw[List.range_succ,List.flatMap_append]
 simp
theorem Q3q {l:List Cla} (p:G7 l) {i:Nat} (h:i<l.length) (m:Hm.Met):m∈T8 l i l.length↔m∈Vo l (X9 l i):=by
 unfold T8 Vo
 simp only[List.mem_flatMap,List.mem_range]
 have b: ∀k,k<l.length→lk l (X9 l k)=some (l.getD k Cla.zero):=fun k g=>Qt p g
 constructor
 ·rintro ⟨k,g,d⟩
  split at d
  ·rename_i hu
   refine ⟨X9 l k,?_,by rw[b k g];exact d⟩
   rw[Zy,Pw]
   simp only[Pu,Bool.or_eq_true,decide_eq_true_eq,Ys] at hu
   rcases hu with rfl | hu
   ·exact .inl ⟨rfl,_,b _ g⟩
   ·exact .inr hu
  ·simp at d
 ·rintro ⟨u,hu,d⟩
  rw[Zy] at hu
  obtain ⟨c,o⟩:=hu.right
  obtain ⟨A,r,j,z,a⟩:=U1 o
  obtain ⟨n,s⟩:=List.getElem?_eq_some_iff.1 a
  have f:X9 l j=u:=by
   unfold X9;rw[List.getD_eq_getElem?_getD,a];exact A
  refine ⟨j,n,?_⟩
  rw[o] at d
  have:Pu l i j=true:=by
   simp only[Pu,Bool.or_eq_true,decide_eq_true_eq,Ys]
   rw[Pw] at hu
   rcases hu with ⟨e,_⟩ | hu
   ·left
    have t:=b i h
    rw[e,←f] at t
    have q:=G7.find p (i:=i) (c:=l[i]) (List.getElem?_eq_getElem h)
    have y:l[i].name=X9 l i:=by unfold X9;rw[List.getD_eq_getElem?_getD,List.getElem?_eq_getElem h];rfl
    rw[y,e,z] at q
    simpa using q
   ·right;rw[f];exact hu
  rw[if_pos this,List.getD_eq_getElem?_getD,a]
  exact d
theorem Q91 {l:List Cla} {i n:Nat} {m:Hm.Met} (h:m∈T8 l i n) (e:n≤l.length): ∃c∈l,m∈c.methods:=by
 unfold T8 at h
 simp only[List.mem_flatMap,List.mem_range] at h
 obtain ⟨k,d,a⟩:=h
 split at a
 ·have b:k<l.length:=by omega
  rw[List.getD_eq_getElem?_getD,List.getElem?_eq_getElem b] at a
  exact ⟨l[k],List.getElem_mem _,a⟩
 ·simp at a
def I4 (a:List Hm.Met) (x y:Nat):Bool:=decide ((a.getD x Hm.Met.zero).name=(a.getD y Hm.Met.zero).name)&& !decide (P7 (a.getD x Hm.Met.zero)=P7 (a.getD y Hm.Met.zero))
theorem Rs {α:Type} {l:List α} {d:α} {n:Nat} (h:n<l.length):l.getD n d=l[n]:=by rw[List.getD_eq_getElem?_getD,List.getElem?_eq_getElem h];rfl
theorem Q92 {a:List Hm.Met} {x y:Nat} (c:x<a.length) (b:y<a.length) (h:I4 a x y=true):Wx a=true:=by
 unfold Wx
 rw[List.any_eq_true]
 refine ⟨a[x],List.getElem_mem _,?_⟩
 rw[List.any_eq_true]
 refine ⟨a[y],List.getElem_mem _,?_⟩
 unfold I4 at h
 rwa [Rs c,Rs b] at h
theorem Q9y {d:List Hm.Met} (h: ∀x y,x<d.length→y<x→I4 d x y=false):Wx d=false:=by
 unfold Wx
 rw[List.any_eq_false]
 intro a j
 rw[List.any_eq_true]
 rintro ⟨b,k,e⟩
 obtain ⟨x,i,rfl⟩:=List.getElem_of_mem j
 obtain ⟨y,g,rfl⟩:=List.getElem_of_mem k
 have f:I4 d y x=I4 d x y:=by
  unfold I4
  congr 1
  ·rw[Bool.eq_iff_iff];simp[eq_comm]
  ·congr 1;rw[Bool.eq_iff_iff];simp[eq_comm]
 have c:I4 d x y=true:=by unfold I4;rw[Rs i,Rs g];exact e
 rcases Nat.lt_trichotomy x y with hlt | heq | hlt
 ·rw[←f,h y x g hlt] at c;cases c
 ·subst heq;simp[I4] at c
 ·rw[h x y i hlt] at c;cases c
end Go.Hm
namespace Go.Proofs.YtfppjenblllfaaaGreatDoor
open Go.Emb Go.RowKit Go.Kd Go.Hm
variable {w : World} {K : Value → World → Prop} {σ : Q5} {l : List Cla} {v : Value}
theorem Fs {c:Cla} (h:Xz c=false):c.fields.length≤32∧c.methods.length≤32∧ ∀m∈c.methods,m.params.length≤32:=by
 simp only[Xz,Bool.or_eq_false_iff,decide_eq_false_iff_not,List.any_eq_false] at h
 obtain ⟨⟨⟨b,d⟩,f⟩,e⟩:=h
 refine ⟨by omega,by omega,fun m a=>?_⟩
 have:=b m a
 simp only[Uj,Bool.or_eq_true,decide_eq_true_eq,not_or] at this
 omega
set_option maxHeartbeats 8000000 in
theorem Q5X {i:Nat} (hs:X4 w σ) (hv:Sl 8 U5 σ v l) (ok:Ok l) (own:G7 l) (hlen:l.length≤1000) (hmn: ∀c∈l,Xz c=false) (hi:i<l.length)
 (h: ∀w' σ',Stp w σ w' σ'→K (I (V2 l l[i])) w'):Q0 P F.aV [v,I i] w K:=Si (by
 unfold Uh
 obtain ⟨lv,fv,mv,p0,r0⟩:=hv.elC hi
 refine J0 hv hi ?_
 refine Y9 hs p0 rfl ?_
 refine Y6 hs (by rfl) rfl (Rep.one r0) fun q w1 σ1 hk1 hq1=>?_
 have r1:=RCl_lift r0 ⟨hk1.le⟩
 obtain ⟨_,gf,gm,g4,_⟩:=r1.parts
 have hv1:=hv.up hk1
 have hnm:=ok.nm _ (List.getElem_mem hi)
 have hcm:=hmn _ (List.getElem_mem hi)
 have hname:X9 l i=l[i].name:=Fj hi
 generalize hcE:l[i]=c at*
 obtain ⟨mf,mm,mp⟩:=Fs hcm
 have e64:Qy l c=true→V2 l c=64:=fun e=>by unfold V2;simp[e]
 have e65:Qy l c=false→B1 l c=true→V2 l c=65:=fun e e2=>by unfold V2;simp[e,e2]
 have e66:Qy l c=false→B1 l c=false→Xx l c=true→V2 l c=66:=fun e e2 e3=>by unfold V2;simp[e,e2,e3]
 have e67:Qy l c=false→B1 l c=false→Xx l c=false→Nj l c=true→V2 l c=67:=fun e e2 e3 e4=>by unfold V2;simp[e,e2,e3,e4]
 have e0:Qy l c=false→B1 l c=false→Xx l c=false→Nj l c=false→V2 l c=0:=fun e e2 e3 e4=>by unfold V2;simp[e,e2,e3,e4]
 generalize V2 l c=R at*
 clear p0 r0 r1 hcm
 refine J1 c.fields.length (fun n w'=> ∃σ',Stp w σ w' σ'∧SLe σ1 σ'∧(c.fields.take n).any (fun f=>(Xr l c.super f.name).isSome)=false) ⟨σ1,hk1,SLe.refl _,rfl⟩ fun n w2 d hn hinv=>?_
 obtain ⟨σ2,hS2,le2,hno⟩:=hinv
 have hq2:=hq1.lift le2
 have gf2:=gf.lift le2
 (try simp only[↓M1,M1,Mb,reduceIte])
 refine ld hS2.sat hq2 rfl ?_
 refine Q8 gf2 ?_
 refine Z1 ?_
 refine Q6 (fun hc=>?_) (fun hc=>?_)
 ·have hn':n<c.fields.length:=by simpa using hc
  obtain ⟨pf,_⟩:=gf2.elF hn'
  have hs2:=hS2.sat
  refine U8 hs2 ?_
  (repeat refine J5 P5 ?_)
  (intros;(repeat (rename_i hx;subst hx));(try simp only[↓M2,M2,Mb,reduceIte]))
  rename_i w3 hb3
  refine Q8Q hb3.sat (hv.up (hS2.trans hb3.stp)) ok.acy hlen ok.sm fun w4 σ4 hk4=>?_
  refine Xe ?_
  rw[G9]
  have hnx:=M4 (p:=fun f:Fld=>(Xr l c.super f.name).isSome) hn'
  cases hp:(Xr l c.super c.fields[n].name).isSome with
  | true=>
   (try simp only[↓M1,M1,Mb,reduceIte])
   rw[hp,Bool.or_true] at hnx
   have:R=64:=e64 (C4 hn' hp)
   subst this
   exact h _ _ ((hS2.trans hb3.stp).trans hk4)
  | false=>
   (try simp only[↓M1,M1,Mb,reduceIte])
   exact Y2 gf.max hn' ⟨σ4,(hS2.trans hb3.stp).trans hk4,le2.more ⟨(hb3.stp.trans hk4).le⟩,by rw[hnx,hno,hp];rfl⟩
 have hA:Qy l c=false:=by
  have hn': ¬n<c.fields.length:=by simpa using hc
  rw[D5 hn'] at hno;exact hno
 clear hno hc hn e64
 refine Tv (R:=Y1) (e:=T.b) hS2 (by decide) fun x3 w3 hk3 ha3 _=>?_
 have hS3:=hS2.trans hk3
 refine D3 c.fields.length (fun n x w'=> ∃σ',Stp w σ w' σ'∧SLe σ1 σ'∧V7 w.heap.size T.b 1 Y1 σ' w' x ((c.fields.take n).map (·.kind))) ⟨σ2,hS3,le2,ha3⟩ fun n x w4 d hn hinv=>?_
 obtain ⟨σ4,hS4,le4,ha4⟩:=hinv
 have hq4:=hq1.lift le4
 have gf4:=gf.lift le4
 (try simp only[↓M1,M1,Mb,reduceIte])
 refine ld hS4.sat hq4 rfl ?_
 refine Q8 gf4 ?_
 refine Z1 ?_
 refine Q6 (fun hc=>?_) (fun hc=>?_)
 ·have hn':n<c.fields.length:=by simpa using hc
  obtain ⟨pf,rf⟩:=gf4.elF hn'
  have hkl:=(hnm.2.1 _ (List.getElem_mem hn')).2
  (try simp only[↓M1,M1,Mb,reduceIte])
  refine ld hS4.sat hq4 rfl ?_
  refine J0 gf4 hn' ?_
  (try simp only[↓M1,M1,Mb,reduceIte])
  refine ld hS4.sat pf rfl ?_
  refine Jy (R:=Y1) (x:=c.fields[n].kind) hS4 ha4 ⟨rfl,Nat.le_trans hkl (by decide)⟩ rfl rfl rfl (by rw[List.length_map,List.length_take];omega) (by rw[List.length_map,List.length_take];omega) fun s v' w5 σ5 hnx hS5 ha5 _=>?_
  (try simp only[↓M1,M1,Mb,reduceIte])
  refine Z6 gf.max hn' ⟨σ5,hS5,le4.more hnx.le,?_⟩
  rw[List.take_add_one,List.getElem?_eq_getElem hn',List.map_append]
  exact ha5
 rw[List.take_of_length_le (by
  have: ¬n<c.fields.length:=by simpa using hc
  omega)] at ha4
 clear hc hn hk3 ha3 hS3 hS2 le2 hq2 gf2 hq4 gf4
 have hkl: ∀n,(c.fields.map (·.kind)++(c.methods.take n).flatMap Xm).length≤2000:=fun n=>by
  have h1:=Jx Xm 33 (c.methods.take n) fun m hm=>by
   have:=mp m (List.mem_of_mem_take hm)
   unfold Xm
   split<;>simp<;>omega
  have h2:(c.methods.take n).length≤32:=by rw[List.length_take];omega
  have h3:(c.methods.take n).length*33≤32*33:=Nat.mul_le_mul_right _ h2
  rw[List.length_append,List.length_map];omega
 refine D3 c.methods.length (fun n x w'=> ∃σ',Stp w σ w' σ'∧SLe σ1 σ'∧V7 w.heap.size T.b 1 Y1 σ' w' x (c.fields.map (·.kind)++(c.methods.take n).flatMap Xm)) ⟨σ4,hS4,le4,by simpa using ha4⟩ fun n x w5 d hn hinv=>?_
 clear ha4 hS4 le4
 obtain ⟨σ5,hS5,le5,ha5⟩:=hinv
 have hq5:=hq1.lift le5
 have gm5:=gm.lift le5
 have hkn:=hkl n
 (try simp only[↓M1,M1,Mb,reduceIte])
 refine ld hS5.sat hq5 rfl ?_
 refine Q8 gm5 ?_
 refine Z1 ?_
 refine Q6 (fun hc=>?_) (fun hc=>?_)
 ·have hn':n<c.methods.length:=by simpa using hc
  obtain ⟨pv,cv,hv',pm,rm⟩:=gm5.elM hn'
  obtain ⟨gp,_,_,_,gr,_⟩:=rm.parts
  have hpn:=mp _ (List.getElem_mem hn')
  have hrl:=(hnm.2.2 _ (List.getElem_mem hn')).1
  have hnx:(c.methods.take (n+1)).flatMap Xm=(c.methods.take n).flatMap Xm++Xm c.methods[n]:=by
   rw[List.take_add_one,List.getElem?_eq_getElem hn',List.flatMap_append];simp
  refine V8 ?_
  (try simp only[↓M1,M1,Mb,reduceIte])
  refine ld hS5.sat hq5 rfl ?_
  refine J0 gm5 hn' ?_
  (try simp only[↓M1,M1,Mb,reduceIte])
  refine ld hS5.sat pm rfl ?_
  refine Dg hS5 ha5 gp rfl (by omega) (by omega) fun v6 w6 hn6 hS6 ha6 _=>?_
  (try simp only[↓M1,M1,Mb,reduceIte])
  refine ld hS6.sat hq5 rfl ?_
  refine J0 gm5 hn' ?_
  (try simp only[↓M1,M1,Mb,reduceIte])
  refine ld hS6.sat pm rfl ?_
  refine Wo ?_
  by_cases he:c.methods[n].result=[]
  ·simp only[he,decide_true,Bool.not_true,↓M1,M1,Mb,reduceIte]
   intro d
   refine Z6 gm.max hn' ⟨σ5,hS6,le5,?_⟩
   rw[hnx]
   unfold Xm
   rw[if_pos he,List.append_nil,←List.append_assoc]
   exact ha6
  ·simp only[he,decide_false,Bool.not_false,↓M1,M1,Mb,reduceIte]
   refine ld hS6.sat hq5 rfl ?_
   refine J0 gm5 hn' ?_
   (try simp only[↓M1,M1,Mb,reduceIte])
   refine ld hS6.sat pm rfl ?_
   refine Jy (R:=Y1) (x:=c.methods[n].result) hS6 ha6 ⟨rfl,Nat.le_trans hrl (by decide)⟩ rfl rfl rfl (by rw[List.length_append];omega) (by rw[List.length_append];omega) fun s v' w7 σ7 hn7 hS7 ha7 _=>?_
   intro d
   (try simp only[↓M1,M1,Mb,reduceIte])
   refine Z6 gm.max hn' ⟨σ7,hS7,le5.more hn7.le,?_⟩
   rw[hnx]
   unfold Xm at ha7⊢
   rw[if_neg he]
   simpa only[List.append_assoc] using ha7
 rw[List.take_of_length_le (by
  have: ¬n<c.methods.length:=by simpa using hc
  omega)] at ha5
 have hkn:=hkl c.methods.length
 rw[List.take_of_length_le (Nat.le_refl _)] at hkn
 have hkE:B1 l c=(Zc c).any (fun s=> !D9 l s):=Q8U.symm
 have hkb: ∀s∈Zc c,s.length≤Z9:=fun s hs=>by
  unfold Zc at hs
  rcases List.mem_append.1 hs with hs | hs
  ·obtain ⟨f,hf,rfl⟩:=List.mem_map.1 hs
   exact Nat.le_trans (hnm.2.1 f hf).2 (by decide)
  ·obtain ⟨m,hm,hs⟩:=List.mem_flatMap.1 hs
   unfold Xm at hs
   rcases List.mem_append.1 hs with hs | hs
   ·exact Nat.le_trans ((hnm.2.2 m hm).2 s hs) (by decide)
   ·split at hs
    ·simp at hs
    ·simp at hs;subst hs;exact Nat.le_trans (hnm.2.2 m hm).1 (by decide)
 obtain ⟨σ6,hS6,hv6,lee6,_⟩:=ha5.keep hS5
 have le6:=le5.more ⟨lee6⟩
 clear ha5 hq5 gm5 hc hn
 change Sl 1 Y1 σ6 x (Zc c) at hv6
 refine J1 (Zc c).length (fun n w'=>Stp w σ w' σ6∧((Zc c).take n).any (fun s=> !D9 l s)=false) ⟨hS6,rfl⟩ fun n w7 d hn hinv=>?_
 obtain ⟨hS7,hno⟩:=hinv
 refine Q8 hv6 ?_
 refine Z1 ?_
 refine Q6 (fun hc=>?_) (fun hc=>?_)
 ·have hn':n<(Zc c).length:=by simpa using hc
  refine J0 hv6 hn' ?_
  obtain ⟨pk,_⟩:=hv6.elS hn'
  refine X8 hS7.sat pk rfl ?_
  refine Q8I hS7.sat (hv.up hS7) (hkb _ (List.getElem_mem hn')) ?_
  have hnx:=M4 (p:=fun s=> !D9 l s) hn'
  cases hp:D9 l (Zc c)[n] with
  | false=>
   (try simp only[↓M1,M1,Mb,reduceIte])
   have:R=65:=e65 hA (by rw[hkE];exact C4 hn' (by simp[hp]))
   subst this
   exact h _ _ hS7
  | true=>
   (try simp only[↓M1,M1,Mb,reduceIte])
   exact Y2 hv6.max hn' ⟨hS7,by rw[hnx,hno,hp];rfl⟩
 have hB:B1 l c=false:=by
  have hn': ¬n<(Zc c).length:=by simpa using hc
  rw[D5 hn'] at hno;rw[hkE];exact hno
 clear hno hc hn e65 hkE hkb hkn hkl hS5 le5 lee6 hv6
 refine Ag hS7.sat (hv.up hS7) own (by omega) hlen ok.sm fun vb w8 σ8 hk8 hb8=>?_
 have hS8:=hS7.trans hk8
 refine Tv (R:=M6) (e:=T.d) hS8 (by decide) fun x9 w9 hk9 ha9 _=>?_
 have hml: ∀n,n≤l.length→(T8 l i n).length≤32000:=fun n hn=>by
  unfold T8
  have h1:=Jx (fun k=>if Pu l i k then (l.getD k Cla.zero).methods else []) 32 (List.range n) fun k hk=>by
   have hk':k<l.length:=by have:=List.mem_range.1 hk;omega
   split
   ·rw[Rs hk'];exact (Fs (hmn _ (List.getElem_mem _))).2.1
   ·simp
  rw[List.length_range] at h1
  have h3:n*32≤1000*32:=Nat.mul_le_mul_right _ (by omega)
  omega
 have hbl:(C5 l).length=l.length:=by simp[C5]
 refine D3 l.length (fun n x w'=> ∃σ',Stp w σ w' σ'∧SLe σ1 σ'∧SLe σ8 σ'∧V7 w.heap.size T.d 7 M6 σ' w' x (T8 l i n)) ⟨σ8,hS8.trans hk9,le6.more ⟨hk8.le⟩,SLe.refl _,ha9⟩ fun n x w10 d hn hinv=>?_
 clear ha9 hk9 hS7 hS8 le6 hS6 hk8
 obtain ⟨σ10,hS10,le10,leb,ha10⟩:=hinv
 have hv10:=hv.up hS10
 refine Q8 hv10 ?_
 refine Z1 ?_
 refine Q6 (fun hc=>?_) (fun hc=>?_)
 ·have hn':n<l.length:=by simpa using hc
  have hmn1:=hml n hn
  have hsuc:=Q7d (l:=l) (i:=i) (n:=n)
  rw[Rs hn'] at hsuc
  obtain ⟨lv2,fv2,mv2,p2,r2⟩:=hv10.elC hn'
  obtain ⟨_,_,g3,_,_⟩:=r2.parts
  have hmn2:=(Fs (hmn _ (List.getElem_mem hn'))).2.1
  refine Zz (fun z w'=>Stp w σ w' σ10∧V7 w.heap.size T.d 7 M6 σ10 w' z (T8 l i (n+1))) ?_ (fun z d w' hz=>?_)
  ·refine Ro ?_
   have happ: ∀{J:Value→World→Prop},Pu l i n=true→(∀z w',Stp w σ w' σ10→V7 w.heap.size T.d 7 M6 σ10 w' z (T8 l i (n+1))→J z w')→
    X5 P .append [T.g,T.g] T.g [false,false] [x,mv2] w10 J:=fun hu hJ=>
    Dg hS10 ha10 g3 rfl (by omega) (by omega) fun v' w' _ hS' ha' _=>hJ v' w' hS' (by rw[hsuc,if_pos hu];exact ha')
   by_cases e:n=i
   ·have e1:decide ((n:Int)=(i:Int))=true:=by simp[e]
    rw[e1]
    (try simp only[↓M1,M1,Mb,reduceIte])
    refine J0 hv10 hn' ?_
    (try simp only[↓M1,M1,Mb,reduceIte])
    refine ld hS10.sat p2 rfl ?_
    exact happ (by simp[Pu,e]) fun z w' h1 h2=>⟨h1,h2⟩
   ·have e1:decide ((n:Int)=(i:Int))=false:=by rw[decide_eq_false_iff_not];omega
    rw[e1]
    obtain ⟨cs1,pb,_,rv,rfl,rb⟩:=(hb8.lift leb).el (i:=i) (by rw[hbl];exact hi)
    have hrow:(C5 l)[i]'(by rw[hbl];exact hi)=(List.range l.length).map fun j=>A0 l (X9 l i) (X9 l j):=by simp[C5]
    rw[hrow] at rb
    obtain ⟨cs2,pb2,_,hcs2⟩:=rb.el (i:=n) (by simpa using hn')
    have hcs2:cs2=_:=hcs2
    subst hcs2
    simp only[List.getElem_map,List.getElem_range] at pb2
    (try simp only[↓M1,M1,Mb,reduceIte])
    refine J0 (hb8.lift leb) (by rw[hbl];exact hi) ?_
    refine X8 hS10.sat pb rfl ?_
    refine J0 rb (by simpa using hn') ?_
    refine X8 hS10.sat pb2 rfl ?_
    (try simp only[↓M1,M1,Mb,reduceIte])
    cases ho:A0 l (X9 l i) (X9 l n) with
    | true=>
     (try simp only[↓M1,M1,Mb,reduceIte])
     refine J0 hv10 hn' ?_
     (try simp only[↓M1,M1,Mb,reduceIte])
     refine ld hS10.sat p2 rfl ?_
     exact happ (by simp[Pu,ho]) fun z w' h1 h2=>⟨h1,h2⟩
    | false=>
     (try simp only[↓M1,M1,Mb,reduceIte])
     refine ⟨hS10,?_⟩
     have:Pu l i n=false:=by simp[Pu,ho,e]
     rw[hsuc,this]
     simpa using ha10
  ·obtain ⟨hS',ha'⟩:=hz
   (try simp only[↓M1,M1,Mb,reduceIte])
   exact Z6 (by omega) hn' ⟨σ10,hS',le10,leb,ha'⟩
 have hn0:n=l.length:=by
  have: ¬n<l.length:=by simpa using hc
  omega
 subst hn0
 obtain ⟨σ11,hS11,hv11,lee11,_⟩:=ha10.keep hS10
 have le11:=le10.more ⟨lee11⟩
 have hml2:=hml _ (Nat.le_refl l.length)
 have hov:Xx l c=Wx (T8 l i l.length):=by
  unfold Xx
  refine (Q62 fun m=>?_).symm
  rw[Q3q own hi,hname]
 have hlk:Nj l c=(!c.abs&&(T8 l i l.length).any fun m=>Xo l c.name m.name):=by
  unfold Nj
  congr 1
  refine (Q9e fun m=>?_).symm
  rw[Q3q own hi,hname]
 have hsn: ∀m∈T8 l i l.length,SmM m∧NmM m:=fun m hm=>by
  obtain ⟨c2,hc2,hm2⟩:=Q91 hm (Nat.le_refl _)
  exact ⟨(ok.sm c2 hc2).2.2.2 m hm2,(ok.nm c2 hc2).2.2 m hm2⟩
 generalize T8 l i l.length=ms at hov hlk hsn hml2 hv11
 clear ha10 lee11 hS10 le10 leb hv10 hml hc hb8 hbl
 refine J1 ms.length (fun n w'=> ∃σ',Stp w σ w' σ'∧SLe σ11 σ'∧ ∀a b,a<n→b<a→I4 ms a b=false) ⟨σ11,hS11,SLe.refl _,fun a b h=>by omega⟩ fun n w12 d hn hinv=>?_
 obtain ⟨σ12,hS12,le12,hno⟩:=hinv
 have hv12:=hv11.lift le12
 refine Q8 hv12 ?_
 refine Z1 ?_
 refine Q6 (fun hc=>?_) (fun hc=>?_)
 ·have hn':n<ms.length:=by simpa using hc
  refine J1 n (fun m w'=> ∃σ',Stp w σ w' σ'∧SLe σ11 σ'∧ ∀b,b<m→I4 ms n b=false) ⟨σ12,hS12,le12,fun b h=>by omega⟩ fun m w13 d hm hinv=>?_
  obtain ⟨σ13,hS13,le13,hno2⟩:=hinv
  have hv13:=hv11.lift le13
  refine Z1 ?_
  refine Q6 (fun hc=>?_) (fun hc=>?_)
  ·have hm':m<n:=by simpa using hc
   have hm2:m<ms.length:=by omega
   obtain ⟨pv1,cv1,hv1',pn,rn⟩:=hv13.elM hn'
   obtain ⟨pv2,cv2,hv2',pm,rm⟩:=hv13.elM hm2
   obtain ⟨sn1,sn2⟩:=hsn _ (List.getElem_mem hn')
   obtain ⟨sm1,sm2⟩:=hsn _ (List.getElem_mem hm2)
   have hat:I4 ms n m=(decide (ms[n].name=ms[m].name)&& !decide (P7 ms[n]=P7 ms[m])):=by
    unfold I4;rw[Rs hn',Rs hm2]
   have hs13:=hS13.sat
   have hnx:I4 ms n m=false→ ∀b,b<m+1→I4 ms n b=false:=fun e b hb=>by
    by_cases e2:b=m
    ·subst e2;exact e
    ·exact hno2 b (by omega)
   refine U8 hs13 ?_
   (repeat refine J5 P5 ?_)
   by_cases he:ms[n].name=ms[m].name
   ·have hd:decide (ms[n].name=ms[m].name)=true:=by simp[he]
    simp only[hd,reduceIte]
    (repeat (apply J5;(· intros;(repeat (rename_i hx;subst hx));(repeat' (first | (with_reducible exact M5 rfl) | (with_reducible exact Qf (Stp.bel (by (repeat (first | exact Stp.refl (by (first | assumption | exact Stp.sat (by assumption) | exact Hst.sat (by assumption))) | assumption | refine Stp.trans ?_ (by first | assumption | exact Hst.stp (by assumption)))))) rfl) | (with_reducible intro _) | (simp only[↓M2,M2,Mb,reduceIte]) | (with_reducible show Q2 _ _ _ _ _;first | refine X8 aS aL aR ?_ | refine Y9 aS aL aR ?_ | refine ld aS aL aR ?_) | (with_reducible show indexAddr _ _ _ _ _ _;refine J0 aL au ?_) | (with_reducible show X5 _ _ _ _ _ _ _ _;refine Q8 aL ?_) | (with_reducible show Ut _ _ _ _ _ _;refine V3 aR ?_) | (with_reducible show pick _ _ _ _ _ _;refine Zq ?_) | (with_reducible show Q0 _ _ _ _ _;first | refine Q4b au au au au ?_) | (apply Jv;intro hh;(try simp only[hh,reduceIte,↓M2,M2,Mb,reduceIte]))));done)))
    (intros;(repeat (rename_i hx;subst hx));(try simp only[↓M2,M2,Mb,reduceIte]))
    rename_i w14 hb14
    refine Q4b hb14.sat rm sm1 sm2 fun w15 σ15 hk15=>?_
    refine Wo ?_
    (try simp only[↓M1,M1,Mb,reduceIte])
    have hS15:=(hS13.trans hb14.stp).trans hk15
    by_cases hsg:P7 ms[n]=P7 ms[m]
    ·simp only[hsg,decide_true,Bool.not_true,↓M1,M1,Mb,reduceIte]
     refine Y2 (by omega) hm' ⟨σ15,hS15,le13.more ⟨(hb14.stp.trans hk15).le⟩,hnx ?_⟩
     rw[hat,hsg];simp
    ·simp only[hsg,decide_false,Bool.not_false,↓M1,M1,Mb,reduceIte]
     have:R=66:=e66 hA hB (by rw[hov];exact Q92 hn' hm2 (by rw[hat];simp[he,hsg]))
     subst this
     exact h _ _ hS15
   ·have hd:decide (ms[n].name=ms[m].name)=false:=by simp[he]
    simp only[hd,Bool.false_eq_true,reduceIte]
    (repeat refine J5 P5 ?_)
    (intros;(repeat (rename_i hx;subst hx));(try simp only[↓M2,M2,Mb,reduceIte]))
    rename_i w14 hb14
    (try simp only[↓M1,M1,Mb,reduceIte])
    refine Y2 (by omega) hm' ⟨σ13,hS13.trans hb14.stp,le13,hnx ?_⟩
    rw[hat];simp[he]
  ·have hm0:m=n:=by
    have: ¬m<n:=by simpa using hc
    omega
   subst hm0
   (try simp only[↓M1,M1,Mb,reduceIte])
   refine Y2 hv11.max hn' ⟨σ13,hS13,le13,fun a b ha hb=>?_⟩
   by_cases e:a=m
   ·subst e;exact hno2 b hb
   ·exact hno a b (by omega) hb
 have hC:Xx l c=false:=by
  rw[hov]
  have: ¬n<ms.length:=by simpa using hc
  exact Q9y fun x y hx hy=>hno x y (by omega) hy
 clear hno hc hn hv12 hov e66
 refine J1 ms.length (fun n w'=> ∃σ',Stp w σ w' σ'∧SLe σ11 σ'∧(c.abs=true→n=0)∧(ms.take n).any (fun m=>Xo l c.name m.name)=false) ⟨σ12,hS12,le12,fun _=>rfl,rfl⟩ fun n w13 d hn hinv=>?_
 clear hS12 le12
 obtain ⟨σ13,hS13,le13,hab,hno⟩:=hinv
 have hv13:=hv11.lift le13
 have hq13:=hq1.lift (le11.more le13)
 refine Q8 hv13 ?_
 refine Z1 ?_
 by_cases hn':n<ms.length
 ·have e1:decide ((n:Int)<(ms.length:Int))=true:=by simpa using hn'
  rw[e1]
  (try simp only[↓M1,M1,Mb,reduceIte])
  refine ld hS13.sat hq13 rfl ?_
  refine Wc ?_
  (try simp only[↓M1,M1,Mb,reduceIte])
  cases hca:c.abs with
  | true=>
   (try simp only[↓M1,M1,Mb,reduceIte])
   have:R=0:=e0 hA hB hC (by rw[hlk,hca];rfl)
   subst this
   exact h _ _ hS13
  | false=>
   (try simp only[↓M1,M1,Mb,reduceIte])
   obtain ⟨pvn,cvn,hvn,pn,rn⟩:=hv13.elM hn'
   have hs13:=hS13.sat
   have hnx:=M4 (p:=fun m:Hm.Met=>Xo l c.name m.name) hn'
   have hla:Xo l c.name ms[n].name=(!(U0 l c.name ms[n].name).isSome||(o2 (U0 l c.name ms[n].name)).abs):=by
    unfold Xo
    cases U0 l c.name ms[n].name<;>rfl
   generalize hF:(fun o:Option Obj=> ∃cs:List Value,∃e,o=some (.cells cs.toArray e (0,0))∧cs.length=7∧cs[3]? =some (.bool (o2 (U0 l c.name ms[n].name)).abs))=F
   have hFn: ¬F none:=by rw[←hF];rintro ⟨_,_,h,_⟩;cases h
   refine X1w F hs13 ?_
   (repeat (apply J5;(· intros;(repeat (rename_i hx;subst hx));(repeat' (first | (with_reducible exact Q4U rfl) | (with_reducible exact X0P (Stp.bel (by (repeat (first | exact Stp.refl (by (first | assumption | exact Stp.sat (by assumption) | exact Hst.sat (by assumption))) | assumption | refine Stp.trans ?_ (by first | assumption | exact Hst.stp (by assumption)))))) rfl) | (with_reducible intro _) | (simp only[↓M2,M2,Mb,reduceIte]) | (with_reducible show Q2 _ _ _ _ _;first | refine X8 aS aL aR ?_ | refine Y9 aS aL aR ?_ | refine ld aS aL aR ?_) | (with_reducible show indexAddr _ _ _ _ _ _;refine J0 aL au ?_) | (with_reducible show X5 _ _ _ _ _ _ _ _;refine Q8 aL ?_) | (with_reducible show Ut _ _ _ _ _ _;refine V3 aR ?_) | (with_reducible show pick _ _ _ _ _ _;refine Zq ?_)));done)))
   refine W6 (fun v _=> ∃s,∃ds:List Value,v= .tuple #[s, .agg ds.toArray, .bool (U0 l c.name ms[n].name).isSome]∧ds.length=7∧ds[3]? =some (.bool (o2 (U0 l c.name ms[n].name)).abs)∧ ∀u∈ds,u.oneCell'=true) (fun _ _ _ h _=>h) (fun t180 t185 w hb e1 e2=>?_) ?_
   ·subst e1;subst e2
    refine Q7g hb.sat (hv.up (hS13.trans hb.stp)) ok fun pv cv hv w' σ' hk hr=>⟨.of_below hk.bel,_,_,rfl,rfl,rfl,Rep.one hr⟩
   refine W6 (fun _ _=>True) (fun _ _ _ _ _=>trivial) (fun t186 w hb e=>?_) ?_
   ·obtain ⟨s,ds,rfl,_⟩:=e
    exact U7 (vs:=[_,_,_]) rfl ⟨.of_below (Below.refl _ _),trivial⟩
   refine W6 (fun v _=> ∃ds:List Value,v= .agg ds.toArray∧ds.length=7∧ds[3]? =some (.bool (o2 (U0 l c.name ms[n].name)).abs)∧ ∀u∈ds,u.oneCell'=true) (fun _ _ _ h _=>h) (fun t186 w hb e=>?_) ?_
   ·obtain ⟨s,ds,rfl,h7⟩:=e
    exact U7 (vs:=[_,_,_]) rfl ⟨.of_below (Below.refl _ _),ds,rfl,h7⟩
   refine J5 (V:= .bool (U0 l c.name ms[n].name).isSome) (fun t186 w hb e=>?_) ?_
   ·obtain ⟨s,ds,rfl,h7⟩:=e
    exact U7 (vs:=[_,_,_]) rfl (Q4U rfl)
   refine W6 (X1J w13.heap.size 7 F) (Q6M hFn) (fun w hb=>?_) ?_
   ·exact Ey hb.sat fun b w' hb2 hk hm=>⟨.of_below hk.bel,b,rfl,Nat.le_trans hb.stp.bel.size hb2, .inl ⟨_,hm.2.choose,rfl,hm.2.choose_spec⟩⟩
   refine Q6w (fun xs _ w=>X1u w13.heap.size F (xs.headD undef) w) (fun xs _ w w' h hT=>Q7v hFn _ w w' h hT) (fun t18 t188 w hb e1 e2=>?_) ?_
   ·obtain ⟨g,rfl,hg,hd⟩:=e1
    obtain ⟨ds,rfl,h7,h3,h1⟩:=e2
    obtain ⟨cs,e,hl7,hh⟩: ∃cs:List Value,∃e,cs.length=7∧w.heap[g]? =some (.cells cs.toArray e (0,0)):=by
     rcases hd with h | h
     ·exact h
     ·rw[←hF] at h
      obtain ⟨cs,e,h4,h5,_⟩:=h
      exact ⟨cs,e,h5,h4⟩
    refine sta (σ:=fun _=>none) (cs:=cs) (ds:=ds) ⟨rfl,e,hh⟩ hl7 h7 (by rw[List.all_toArray];exact List.all_eq_true.2 h1) fun w' hu hm=>?_
    have hFg:F (w'.heap[g]?):=by
     obtain ⟨_,e',hm'⟩:=hm
     rw[hm',←hF]
     exact ⟨ds,e',rfl,h7,h3⟩
    exact ⟨FinT.of_upd hu hg hFg,g,rfl,hg,hFg⟩
   rintro t179 t183 t184 t180 t185 t186 t187 t188 t189 t18 u15 w14 hb14 rfl rfl rfl rfl rfl _ _ _ rfl _ ⟨g,e,hg,hd⟩
   have e:t18=_:=e
   subst e
   rw[←hF] at hd
   obtain ⟨cs,ty,hh,hl7,h3⟩:=hd
   have hS14:=hS13.trans hb14.stp
   refine Wc ?_
   cases hsm:(U0 l c.name ms[n].name).isSome with
   | false=>
    (try simp only[↓M1,M1,Mb,reduceIte])
    have:R=67:=e67 hA hB hC (by rw[hlk,hca];exact C4 hn' (by rw[hla,hsm];rfl))
    subst this
    exact h _ _ hS14
   | true=>
    (try simp only[↓M1,M1,Mb,reduceIte])
    refine Yv (σ:=fun _=>none) ⟨rfl,ty,hh⟩ h3 ?_
    (try simp only[↓M1,M1,Mb,reduceIte])
    cases hma:(o2 (U0 l c.name ms[n].name)).abs with
    | true=>
     (try simp only[↓M1,M1,Mb,reduceIte])
     have:R=67:=e67 hA hB hC (by rw[hlk,hca];exact C4 hn' (by rw[hla,hma,Bool.or_true]))
     subst this
     exact h _ _ hS14
    | false=>
     (try simp only[↓M1,M1,Mb,reduceIte])
     refine Y2 hv11.max hn' ⟨σ13,hS14,le13,fun e=>False.elim (by simpa using e),?_⟩
     rw[hnx,hno,hla,hsm,hma];rfl
 ·have e1:decide ((n:Int)<(ms.length:Int))=false:=by simpa using hn'
  rw[e1]
  (try simp only[↓M1,M1,Mb,reduceIte])
  rw[D5 hn'] at hno
  have:R=0:=e0 hA hB hC (by rw[hlk,hno,Bool.and_false])
  subst this
  exact h _ _ hS13)
end Go.Proofs.YtfppjenblllfaaaGreatDoor

namespace Go.Proofs.YtfppjenblllfaaaGreatDoor
open Go.Emb Go.RowKit Go.Kd Go.Hm
variable {w : World} {K : Value → World → Prop} {σ : Q5} {v : Value}
def Q27:List Cla:=[⟨Z7,[],[],false,false,false,[],[]⟩,⟨V9,Z7,[],false,false,false,[⟨P1,O4,false⟩],[]⟩]
def gMk (n:X0):Cla:=⟨n,V9,[],false,false,true,[],[]⟩
theorem Q5A:B7=Q27++J6.map gMk:=rfl
theorem Q81 (V:X4 w σ) (h: ∀C w' g,Stp w σ w' g→V7 w.heap.size T.a 8 U5 g w' C B7→K C w'):Q0 P F.ba [] w K:=Gj (by
 unfold Ws
 refine W1 (cells:= #[S Z7,S [], .slice none 0 0, .bool false, .bool false, .bool false, .slice none 0 0, .slice none 0 0]) (by kernel_rfl) ?_
 refine W1 (cells:= #[S P1,S O4, .bool false]) (by kernel_rfl) ?_
 refine D2 (R:=E2) (sz:=3) V [.agg #[S P1,S O4, .bool false]] [⟨P1,O4,false⟩] rfl rfl (by simp;rfl) rfl ⟨⟨rfl,by decide,by decide⟩,trivial⟩ fun X w1 σ1 m i=>?_
 have k:=i
 obtain ⟨E,b,rfl,_⟩:=k
 refine W1 (cells:= #[S V9,S Z7, .slice none 0 0, .bool false, .bool false, .bool false, .slice E 1 b, .slice none 0 0]) (by kernel_rfl) ?_
 refine Qc (R:=U5) (sz:=8) m [.agg #[S Z7,S [], .slice none 0 0, .bool false, .bool false, .bool false, .slice none 0 0, .slice none 0 0], .agg #[S V9,S Z7, .slice none 0 0, .bool false, .bool false, .bool false, .slice E 1 b, .slice none 0 0]]
  Q27 rfl rfl (by simp;exact ⟨rfl,rfl⟩) rfl ⟨⟨_,_,_,rfl,Sl.nil,Sl.nil,Sl.nil,by decide,by decide⟩,⟨_,_,_,rfl,Sl.nil,i,Sl.nil,by decide,by decide⟩,trivial⟩ fun v2 Y o B _=>?_
 refine D2 (R:=Y1) (sz:=1) o.sat (J6.map S) J6 rfl rfl (by decide) rfl ⟨⟨rfl,by decide⟩,⟨rfl,by decide⟩,⟨rfl,by decide⟩,⟨rfl,by decide⟩,⟨rfl,by decide⟩,⟨rfl,by decide⟩,trivial⟩ fun W w3 J q j=>?_
 have A:=(m.trans o).trans q
 have Q:J6.length=6:=rfl
 refine D3 J6.length (fun n x w'=> ∃g,Stp w σ w' g∧SLe J g∧V7 w.heap.size T.a 8 U5 g w' x (Q27++(J6.take n).map gMk)) ⟨J,A,SLe.refl _,B.up q⟩ fun n x Z d hn l=>?_
 obtain ⟨O,e,f,c⟩:=l
 refine Q8 (j.lift f) ?_
 refine Z1 ?_
 refine Q6 (fun y=>?_) (fun y=>?_)
 ·have a:n<J6.length:=by simpa using y
  have r:=j.lift f
  refine J0 r a ?_
  obtain ⟨U,H⟩:=r.elS a
  refine X8 e.sat U rfl ?_
  have L:(Q27++(J6.take n).map gMk).length≤8:=by
   rw[List.length_append,List.length_map,List.length_take,show Q27.length=2 from rfl];omega
  have p:(J6.take (n+1)).map gMk=(J6.take n).map gMk++[gMk J6[n]]:=by
   rw[List.take_add_one,List.getElem?_eq_getElem a,List.map_append];rfl
  generalize J6[n]=t at H p
  refine W1 (cells:= #[S t,S V9, .slice none 0 0, .bool false, .bool false, .bool true, .slice none 0 0, .slice none 0 0]) (by kernel_rfl) ?_
  have M:U5 O (gMk t) [S t,S V9, .slice none 0 0, .bool false, .bool false, .bool true, .slice none 0 0, .slice none 0 0]:=⟨_,_,_,rfl,Sl.nil,Sl.nil,Sl.nil,H,(by decide:V9.length≤Z9)⟩
  refine Jy (x:=gMk t) e c M rfl rfl rfl (by omega) (by omega) fun s C w5 N z D u _=>?_
  refine E4 ?_
  refine Z6 (by omega) a ⟨N,D,f.more z.le,?_⟩
  rw[p,←List.append_assoc];exact u
 ·have a: ¬n<J6.length:=by simpa using y
  rw[List.take_of_length_le (by omega),←Q5A] at c
  exact h _ _ _ e c)
end Go.Proofs.YtfppjenblllfaaaGreatDoor

namespace Go.Proofs.YtfppjenblllfaaaGreatDoor
open Go.Emb Go.RowKit Go.Kd Go.Hm
variable {w : World} {K : Value → World → Prop} {σ : Q5} {l : List Cla} {v : Value}
theorem X10 {w0:World} {σ0:Q5} {frm:Nat} (Z:Ye l) (ho:G7 l) (hl:l.length≤1000) (av: ∀c∈l,T2 c) (hf:0<frm) (a0: ∀i (A:i<l.length),frm≤i→ ∀u∈J4 l[i],∃j,Y3 l u=some j): ∀(k:Nat) {i:Nat} {b:List Nat} {x:Value} {w:World} {σ:Q5} {K:Value→World→Prop},i<l.length→F0 l (X9 l i)<k→Tf l b→Stp w0 σ0 w σ→Sl 8 U5 σ v l→V7 w0.heap.size T.e 1 Un σ w x (ints b)→
 (∀x' w' L,Stp w0 σ0 w' L→SLe σ L→V7 w0.heap.size T.e 1 Un L w' x' (ints (Qi l frm b i))→K x' w')→Q0 P F.aQ [v,x,I frm,I i] w K:=by
 intro k
 induction k with
 | zero=>intro i b x w σ K A hk;omega
 | succ k ih=>
  intro i b x w σ K A hk D hS hv hx h
  refine Ar ?_
  unfold Nx
  rw[Q6s Z ho hf b A] at h
  refine Z1 ?_
  refine Q6 (fun N=>?_) (fun N=>?_)
  ·have N:i<frm:=by have:=of_decide_eq_true N;omega
   rw[if_pos N] at h
   exact h _ _ _ hS (SLe.refl _) hx
  have N: ¬i<frm:=by have:=of_decide_eq_false N;omega
  rw[if_neg N] at h
  have bf:=D.len
  refine J1 b.length (fun n w'=>w'=w∧ ∀m (hm:m<b.length),m<n→b[m]≠i) ⟨rfl,fun m _ h=>by omega⟩ fun n w2 d hn p=>?_
  obtain ⟨hw,Q⟩:=p
  subst hw
  refine Q6I hx ?_
  rw[show (ints b).length=b.length from by simp]
  refine Z1 ?_
  refine Q6 (fun B=>?_) (fun B=>?_)
  ·have f:n<b.length:=by simpa using B
   refine Q49 (U6.of_acc hx) (n:=n) (by simpa using f) fun a cs aw bu hr=>?_
   obtain ⟨rfl,_⟩:=hr
   refine Qd (by have:=aw 0 _ rfl;rwa [add_zero] at this) ?_
   simp only[List.getElem_map]
   refine Ro ?_
   by_cases e:b[n]=i
   ·have:decide ((b[n]:Int)=i)=true:=by simp[e]
    rw[this]
    refine V1 ?_
    rw[if_pos (e▸List.getElem_mem f)] at h
    exact h _ _ _ hS (SLe.refl _) hx
   ·have:decide ((b[n]:Int)=i)=false:=by rw[decide_eq_false_iff_not];omega
    rw[this]
    refine V6 ?_
    refine E4 ?_
    refine Y2 (by omega) f ⟨rfl,fun m hm bw=>?_⟩
    by_cases e2:m=n
    ·subst e2;exact e
    ·exact Q m hm (by omega)
  ·have f: ¬n<b.length:=by simpa using B
   have C:i∉b:=fun ar=>by
    obtain ⟨m,hm,e⟩:=List.getElem_of_mem ar
    exact Q m hm (by omega) e
   rw[if_neg C] at h
   have ad:l.getD i Cla.zero=l[i]:=by rw[List.getD_eq_getElem?_getD,List.getElem?_eq_getElem A];rfl
   rw[ad] at h
   have aq:=a0 i A (by omega)
   obtain ⟨lv,fv,mv,p1,r1⟩:=hv.elC A
   obtain ⟨g1,_,_,_,g5⟩:=r1.parts
   have H:=av _ (List.getElem_mem A)
   clear Q C B hn
   refine U8 hS.sat ?_
   (repeat refine J5 P5 ?_)
   refine Q2w (w:=w2) (σ:=σ) (R:=Y1) (sz:=1) (e:=T.b) [l[i].super] (fun t w hb e=>?_) ?_
   ·subst e;exact Qc hb.stp [_] [l[i].super] rfl rfl (by simp;rfl) rfl ⟨⟨rfl,g5⟩,trivial⟩ fun v' w' hk Z _=>Q4E hb hk Z
   (repeat refine J5 P5 ?_)
   rintro a8 bd bn bm bq ba bl w4 az rfl rfl rfl rfl rfl ⟨X,V⟩ rfl
   refine Dg X V g1 rfl (by simp;have:=H.1;omega) (by simp;have:=H.1;omega) fun v5 w5 ao aa ab ae=>?_
   obtain ⟨σ6,q,O,bb,_⟩:=ab.keep aa
   have O:Sl 1 Y1 σ6 v5 (J4 l[i]):=O
   have ay:=hx.up q
   have Y:=hv.up q
   have W:=hS.trans q
   have af:SLe σ σ6:=⟨q.le⟩
   clear ao ae ab V X az aa
   refine D3 (J4 l[i]).length (fun n x w'=> ∃L o,Stp w0 σ0 w' L∧SLe σ6 L∧V7 w0.heap.size T.e 1 Un L w' x (ints o)∧Tf l o∧o=((J4 l[i]).take n).foldl (fun b n=>Qi l frm b ((Y3 l n).getD 0)) b) ⟨σ6,b,W,SLe.refl _,ay,D,rfl⟩ fun n x7 w7 d hn p=>?_
   obtain ⟨σ7,a6,r,y,ag,g,U⟩:=p
   have z:=O.lift y
   refine Q8 z ?_
   refine Z1 ?_
   refine Q6 (fun B=>?_) (fun B=>?_)
   ·have f:n<(J4 l[i]).length:=by simpa using B
    refine J0 z f ?_
    obtain ⟨p7,_⟩:=z.elS f
    refine X8 r.sat p7 rfl ?_
    have E:=Y.lift y
    refine C2 r.sat E ?_
    obtain ⟨j,hj⟩:=aq _ (List.getElem_mem f)
    have bj:=Q0p Z ho A (by rw[ad];exact List.getElem_mem f) hj
    have ac:=(E0 hj).1
    simp only[hj,W3]
    refine ih ac (by omega) g r E ag fun x8 w8 σ8 M ax J=>?_
    refine E4 ?_
    refine Z6 z.max f ⟨σ8,_,M,y.more ax,J,Gh Z ho hf _ _ _ ac g,?_⟩
    rw[List.take_add_one,List.getElem?_eq_getElem f,List.foldl_append,←U]
    simp[hj]
   ·have f: ¬n<(J4 l[i]).length:=by simpa using B
    rw[List.take_of_length_le (by omega)] at U
    have bg:=g.len
    refine Jy (R:=Un) (x:=(i:Int)) r ag ⟨rfl,by omega,by omega⟩ rfl rfl rfl (by simp;omega) (by simp;omega) fun s x8 w8 σ8 am M J _=>?_
    refine h _ _ _ M ((af.more y).more am.le) ?_
    rw[←U]
    simpa [ints] using J
end Go.Proofs.YtfppjenblllfaaaGreatDoor

namespace Go.Hm
open Go.Kd
def H0 (n i b:Nat):Bool:=decide (i<n)&&decide (128≤b)&&decide (b<192)
def Yf (n a b c d:Nat):Nat:=
 if a<128 then 1
 else if (decide (194≤a)&&decide (a<224)&&H0 n 1 b)=true then 2
 else if (decide (224≤a)&&decide (a<240)&&H0 n 1 b&&H0 n 2 c)=true then
  (if 2048≤a % 16*4096+b % 64*64+c % 64∧(a % 16*4096+b % 64*64+c % 64<55296∨57343<a % 16*4096+b % 64*64+c % 64) then 3 else 0)
 else if (decide (240≤a)&&decide (a<245)&&H0 n 1 b&&H0 n 2 c&&H0 n 3 d)=true then
  (if 65536≤a % 8*262144+b % 64*4096+c % 64*64+d % 64∧a % 8*262144+b % 64*4096+c % 64*64+d % 64≤1114111 then 4 else 0)
 else 0
theorem Q9f (n a b c d:Nat) (u:a<256) (s:b<256) (r:c<256) (t:d<256):
 Yf n a b c d=if (Lib.decodeN n a b c d).1=65533∧(Lib.decodeN n a b c d).2=1 then 0 else (Lib.decodeN n a b c d).2:=by
 have key: ∀v k:Nat,Lib.decodeN n a b c d=(v,k)→ ¬k=1→Yf n a b c d=k→Yf n a b c d=if (Lib.decodeN n a b c d).1=65533∧(Lib.decodeN n a b c d).2=1 then 0 else (Lib.decodeN n a b c d).2:=by
  intro v k h p m
  rw[h,m,if_neg (fun e=>p e.2)]
 have g:Lib.decodeN n a b c d=(65533,1)→Yf n a b c d=0→Yf n a b c d=if (Lib.decodeN n a b c d).1=65533∧(Lib.decodeN n a b c d).2=1 then 0 else (Lib.decodeN n a b c d).2:=by
  intro h m
  rw[h,m];simp
 by_cases f:a<128
 ·have h:Lib.decodeN n a b c d=(a,1):=by unfold Lib.decodeN;rw[if_pos f]
  rw[h,if_neg (by simp only;omega)]
  unfold Yf;rw[if_pos f]
 by_cases j:a / 32=6∧(1<n∧b / 64=2)
 ·by_cases i:a % 32*64+b % 64≥128
  ·refine key _ 2 (by unfold Lib.decodeN;rw[if_neg f,if_pos j,if_pos i]) (by decide) ?_
   unfold Yf H0
   simp only[Bool.and_eq_true,decide_eq_true_eq]
   rw[if_neg f,if_pos (by omega)]
  ·refine g (by unfold Lib.decodeN;rw[if_neg f,if_pos j,if_neg i]) ?_
   unfold Yf H0
   simp only[Bool.and_eq_true,decide_eq_true_eq]
   rw[if_neg f,if_neg (by omega),if_neg (by omega),if_neg (by omega)]
 by_cases l:a / 16=14∧(1<n∧b / 64=2)∧(2<n∧c / 64=2)
 ·by_cases i:2048≤a % 16*4096+b % 64*64+c % 64∧(a % 16*4096+b % 64*64+c % 64<55296∨57343<a % 16*4096+b % 64*64+c % 64)
  ·refine key _ 3 (by unfold Lib.decodeN;rw[if_neg f,if_neg j,if_pos l,if_pos (by omega)]) (by decide) ?_
   unfold Yf H0
   simp only[Bool.and_eq_true,decide_eq_true_eq]
   rw[if_neg f,if_neg (by omega),if_pos (by omega),if_pos i]
  ·refine g (by unfold Lib.decodeN;rw[if_neg f,if_neg j,if_pos l,if_neg (by omega)]) ?_
   unfold Yf H0
   simp only[Bool.and_eq_true,decide_eq_true_eq]
   rw[if_neg f,if_neg (by omega),if_pos (by omega),if_neg i]
 by_cases o:a / 8=30∧(1<n∧b / 64=2)∧(2<n∧c / 64=2)∧(3<n∧d / 64=2)
 ·by_cases i:65536≤a % 8*262144+b % 64*4096+c % 64*64+d % 64∧a % 8*262144+b % 64*4096+c % 64*64+d % 64≤1114111
  ·refine key _ 4 (by unfold Lib.decodeN;rw[if_neg f,if_neg j,if_neg l,if_pos o,if_pos (by omega)]) (by decide) ?_
   unfold Yf H0
   simp only[Bool.and_eq_true,decide_eq_true_eq]
   rw[if_neg f,if_neg (by omega),if_neg (by omega),if_pos (by omega),if_pos i]
  ·refine g (by unfold Lib.decodeN;rw[if_neg f,if_neg j,if_neg l,if_pos o,if_neg (by omega)]) ?_
   unfold Yf H0
   simp only[Bool.and_eq_true,decide_eq_true_eq]
   rw[if_neg f,if_neg (by omega),if_neg (by omega)]
   by_cases q:a<245
   ·rw[if_pos (by omega),if_neg i]
   ·rw[if_neg (by omega)]
 ·refine g (by unfold Lib.decodeN;rw[if_neg f,if_neg j,if_neg l,if_neg o]) ?_
  unfold Yf H0
  simp only[Bool.and_eq_true,decide_eq_true_eq]
  rw[if_neg f,if_neg (by omega),if_neg (by omega),if_neg (by omega)]
def X3 (l:X0) (i:Nat):Nat:=(l.getD i 0).toNat
theorem Qv (l:X0) (i:Nat):X3 l i<256:=(l.getD i 0).toNat_lt
def Yl (l:X0):Nat:=Yf l.length (X3 l 0) (X3 l 1) (X3 l 2) (X3 l 3)
theorem Q4M (l:X0):Yl l=if (Lib.decodeL l).1=65533∧(Lib.decodeL l).2=1 then 0 else (Lib.decodeL l).2:=by
 rw[Lib.decodeL_N]
 exact Q9f _ _ _ _ _ (Qv l 0) (Qv l 1) (Qv l 2) (Qv l 3)
theorem Q8D {l:X0} (a:l≠[]) (h:Yl l≠0):1≤Yl l∧Yl l≤l.length:=by
 have c:=Lib.decodeL_le l a
 have b:=Lib.decodeL_width l
 rw[Q4M] at h⊢
 split at h
 ·exact absurd rfl h
 ·rw[if_neg (by assumption)];omega
theorem Q6U {f:Nat} {l:X0} (a:l≠[]):Lib.validGoD (f+1) l=if Yl l=0 then false else Lib.validGoD f (l.drop (Yl l)):=by
 have b:=Lib.decodeL_width l
 simp only[Lib.validGoD,if_neg a]
 rw[Q4M]
 split
 ·rw[if_pos rfl]
 ·rw[if_neg (by omega)]
end Go.Hm
namespace Go.Emb
open Go.RowKit
theorem Q8P {P:Program} {w:World} {K:Value→World→Prop} {k:IntKind} {t:TypeId} {d b:Operand} {a c:Int} (f:0<c∧0≤a) (h:K (.int k (a % c)) w):Q3 P .rem t d b (.int k a) (.int k c) w K:=by
 have e:Q3 P .rem t d b (.int k a) (.int k c) w K=K (.int k (a.tmod c)) w:=Y0 (by simp[eqGuard,Go.binOp,Op.intDiv];intro e;omega)
 rw[e,Int.tmod_eq_emod_of_nonneg f.2];exact h
end Go.Emb
namespace Go.Proofs.YtfppjenblllfaaaGreatDoor
open Go.Emb Go.RowKit Go.Kd Go.Hm
variable {w : World} {K : Value → World → Prop} {σ : Q5}
theorem Lg {a:X0} {i:Nat} (b:i<a.length) (h:K (.int .u8 (X3 a i)) w):E5 P T.b (S a) (I i) w K:=by
 rw[Qk X7 (by omega) (by simpa using b)]
 have:(a[(i:Int).toNat]'(by simpa using b)).toNat=X3 a i:=by
  unfold X3
  rw[List.getD_eq_getElem?_getD,List.getElem?_eq_getElem b];rfl
 rw[this];exact h
theorem Q2o {n:Int} (a:0≤n∧n<256) (h:K (I n) w):conv P T.w T.e (.int .u8 n) w K:=by
 rw[Q15 Q2i X2f,F4 (by omega) (by omega)];exact h
theorem Vl {a:X0} {i:Nat} (h:K (.bool (H0 a.length i (X3 a i))) w):Q0 P F.q [S a,I i] w K:=Fe (by
 unfold Lk
 unfold H0 at h
 simp only[↓M1,M1,Mb,reduceIte]
 by_cases b:i<a.length
 ·have d:decide ((i:Int)<a.length)=true:=by rw[decide_eq_true_eq];omega
  have c:decide (i<a.length)=true:=by simpa using b
  rw[c] at h
  simp only[d,↓M1,M1,Mb,reduceIte]
  refine Lg b ?_
  (try simp only[↓M1,M1,Mb,reduceIte])
  have g:decide ((128:Int)≤(X3 a i:Int))=decide (128≤X3 a i):=by rw[Bool.eq_iff_iff,decide_eq_true_eq,decide_eq_true_eq];omega
  have f:decide ((X3 a i:Int)<192)=decide (X3 a i<192):=by rw[Bool.eq_iff_iff,decide_eq_true_eq,decide_eq_true_eq];omega
  rw[g]
  cases e:decide (128≤X3 a i) with
  | true=>
   rw[e] at h
   simp only[↓M1,M1,Mb,reduceIte]
   refine Lg b ?_
   simp only[f,↓M1,M1,Mb,reduceIte]
   simpa using h
  | false=>
   rw[e] at h
   simp only[↓M1,M1,Mb,reduceIte]
   simpa using h
 ·have d:decide ((i:Int)<a.length)=false:=by rw[decide_eq_false_iff_not];omega
  have c:decide (i<a.length)=false:=by simpa using b
  rw[c] at h
  simp only[d,↓M1,M1,Mb,reduceIte]
  simpa using h)
def Zu (a:X0):Nat:=X3 a 0 % 16*4096+X3 a 1 % 64*64+X3 a 2 % 64
def Ha (a:X0):Nat:=X3 a 0 % 8*262144+X3 a 1 % 64*4096+X3 a 2 % 64*64+X3 a 3 % 64
theorem Q8E (a:X0):Yl a=if X3 a 0<128 then 1
 else if (decide (194≤X3 a 0)&&decide (X3 a 0<224)&&H0 a.length 1 (X3 a 1))=true then 2
 else if (decide (224≤X3 a 0)&&decide (X3 a 0<240)&&H0 a.length 1 (X3 a 1)&&H0 a.length 2 (X3 a 2))=true then
  (if 2048≤Zu a∧(Zu a<55296∨57343<Zu a) then 3 else 0)
 else if (decide (240≤X3 a 0)&&decide (X3 a 0<245)&&H0 a.length 1 (X3 a 1)&&H0 a.length 2 (X3 a 2)&&H0 a.length 3 (X3 a 3))=true then
  (if 65536≤Ha a∧Ha a≤1114111 then 4 else 0)
 else 0:=rfl
set_option maxHeartbeats 2000000 in
theorem Q9P {a:X0} (hne:a≠[]) (hs:X4 w σ) (h: ∀w',Below w.heap.size w w'→K (I (Yl a)) w'):Q0 P F.bt [S a] w K:=Ke (by
 unfold Ms
 have hl:0<a.length:=List.length_pos_iff.2 hne
 have b0:=Qv a 0
 have b1:=Qv a 1
 have b2:=Qv a 2
 have b3:=Qv a 3
 refine Lg (i:=0) hl ?_
 refine Q2o (by omega) ?_
 refine Zz (fun _ w'=>Below w.heap.size w w'∧Yl a=0) ?_ (fun _ d w' hx=>by
  have:=h w' hx.1
  rw[hx.2] at this
  exact this)
 have hK: ∀n w',Below w.heap.size w w'→Yl a=n→K (I n) w':=fun n w' hb e=>by rw[←e];exact h w' hb
 clear h
 have hcm:=Q8E a
 simp only[↓M1,M1,Mb,reduceIte]
 refine Q6 (fun h1=>?_) (fun h1=>?_)
 ·have:X3 a 0<128:=by have:=of_decide_eq_true h1;omega
  exact hK 1 _ (Below.refl _ _) (by rw[hcm,if_pos this])
 have c0: ¬X3 a 0<128:=by have:=of_decide_eq_false h1;omega
 rw[if_neg c0] at hcm
 by_cases c1:X3 a 0<194
 ·have i1:decide ((194:Int)≤X3 a 0)=false:=by rw[decide_eq_false_iff_not];omega
  have n1:decide (194≤X3 a 0)=false:=by rw[decide_eq_false_iff_not];omega
  have i2:decide ((X3 a 0:Int)<224)=true:=by rw[decide_eq_true_eq];omega
  have n2:decide (X3 a 0<224)=true:=by rw[decide_eq_true_eq];omega
  have i3:decide ((224:Int)≤X3 a 0)=false:=by rw[decide_eq_false_iff_not];omega
  have n3:decide (224≤X3 a 0)=false:=by rw[decide_eq_false_iff_not];omega
  have i4:decide ((X3 a 0:Int)<240)=true:=by rw[decide_eq_true_eq];omega
  have n4:decide (X3 a 0<240)=true:=by rw[decide_eq_true_eq];omega
  have i5:decide ((240:Int)≤X3 a 0)=false:=by rw[decide_eq_false_iff_not];omega
  have n5:decide (240≤X3 a 0)=false:=by rw[decide_eq_false_iff_not];omega
  have i6:decide ((X3 a 0:Int)<245)=true:=by rw[decide_eq_true_eq];omega
  have n6:decide (X3 a 0<245)=true:=by rw[decide_eq_true_eq];omega
  simp only[i1,i2,i3,i4,i5,i6,↓M1,M1,Mb,reduceIte]
  exact ⟨Below.refl _ _,by rw[hcm];simp only[n1,n2,n3,n4,n5,n6,Bool.and_true,Bool.true_and,Bool.false_and,Bool.and_false,Bool.false_eq_true,if_true,if_false,reduceIte]⟩
 by_cases c2:X3 a 0<224
 ·have i1:decide ((194:Int)≤X3 a 0)=true:=by rw[decide_eq_true_eq];omega
  have n1:decide (194≤X3 a 0)=true:=by rw[decide_eq_true_eq];omega
  have i2:decide ((X3 a 0:Int)<224)=true:=by rw[decide_eq_true_eq];omega
  have n2:decide (X3 a 0<224)=true:=by rw[decide_eq_true_eq];omega
  have i3:decide ((224:Int)≤X3 a 0)=false:=by rw[decide_eq_false_iff_not];omega
  have n3:decide (224≤X3 a 0)=false:=by rw[decide_eq_false_iff_not];omega
  have i4:decide ((X3 a 0:Int)<240)=true:=by rw[decide_eq_true_eq];omega
  have n4:decide (X3 a 0<240)=true:=by rw[decide_eq_true_eq];omega
  have i5:decide ((240:Int)≤X3 a 0)=false:=by rw[decide_eq_false_iff_not];omega
  have n5:decide (240≤X3 a 0)=false:=by rw[decide_eq_false_iff_not];omega
  have i6:decide ((X3 a 0:Int)<245)=true:=by rw[decide_eq_true_eq];omega
  have n6:decide (X3 a 0<245)=true:=by rw[decide_eq_true_eq];omega
  simp only[i1,i2,i3,i4,i5,i6,↓M1,M1,Mb,reduceIte]
  refine Vl (i:=1) ?_
  cases A1:H0 a.length 1 (X3 a 1) with
  | true=>simp only[↓M1,M1,Mb,reduceIte];exact hK 2 _ (Below.refl _ _) (by rw[hcm];simp only[A1,n1,n2,n3,n4,n5,n6,Bool.and_true,Bool.true_and,Bool.false_and,Bool.and_false,Bool.false_eq_true,if_true,if_false,reduceIte])
  | false=>simp only[↓M1,M1,Mb,reduceIte];exact ⟨Below.refl _ _,by rw[hcm];simp only[A1,n1,n2,n3,n4,n5,n6,Bool.and_true,Bool.true_and,Bool.false_and,Bool.and_false,Bool.false_eq_true,if_true,if_false,reduceIte]⟩
 by_cases c3:X3 a 0<240
 ·have i1:decide ((194:Int)≤X3 a 0)=true:=by rw[decide_eq_true_eq];omega
  have n1:decide (194≤X3 a 0)=true:=by rw[decide_eq_true_eq];omega
  have i2:decide ((X3 a 0:Int)<224)=false:=by rw[decide_eq_false_iff_not];omega
  have n2:decide (X3 a 0<224)=false:=by rw[decide_eq_false_iff_not];omega
  have i3:decide ((224:Int)≤X3 a 0)=true:=by rw[decide_eq_true_eq];omega
  have n3:decide (224≤X3 a 0)=true:=by rw[decide_eq_true_eq];omega
  have i4:decide ((X3 a 0:Int)<240)=true:=by rw[decide_eq_true_eq];omega
  have n4:decide (X3 a 0<240)=true:=by rw[decide_eq_true_eq];omega
  have i5:decide ((240:Int)≤X3 a 0)=false:=by rw[decide_eq_false_iff_not];omega
  have n5:decide (240≤X3 a 0)=false:=by rw[decide_eq_false_iff_not];omega
  have i6:decide ((X3 a 0:Int)<245)=true:=by rw[decide_eq_true_eq];omega
  have n6:decide (X3 a 0<245)=true:=by rw[decide_eq_true_eq];omega
  simp only[i1,i2,i3,i4,i5,i6,↓M1,M1,Mb,reduceIte]
  refine Vl (i:=1) ?_
  cases A1:H0 a.length 1 (X3 a 1) with
  | false=>simp only[↓M1,M1,Mb,reduceIte];exact ⟨Below.refl _ _,by rw[hcm];simp only[A1,n1,n2,n3,n4,n5,n6,Bool.and_true,Bool.true_and,Bool.false_and,Bool.and_false,Bool.false_eq_true,if_true,if_false,reduceIte]⟩
  | true=>
  simp only[↓M1,M1,Mb,reduceIte]
  refine Vl (i:=2) ?_
  cases A2:H0 a.length 2 (X3 a 2) with
  | false=>simp only[↓M1,M1,Mb,reduceIte];exact ⟨Below.refl _ _,by rw[hcm];simp only[A1,A2,n1,n2,n3,n4,n5,n6,Bool.and_true,Bool.true_and,Bool.false_and,Bool.and_false,Bool.false_eq_true,if_true,if_false,reduceIte]⟩
  | true=>
  simp only[↓M1,M1,Mb,reduceIte]
  simp only[A1,A2,n1,n2,n3,n4,n5,n6,Bool.and_true,Bool.true_and,Bool.false_and,Bool.and_false,Bool.false_eq_true,if_true,if_false,reduceIte] at hcm
  have hl1:1<a.length:=by unfold H0 at A1;simp only[Bool.and_eq_true,decide_eq_true_eq] at A1;exact A1.1.1
  have hl2:2<a.length:=by unfold H0 at A2;simp only[Bool.and_eq_true,decide_eq_true_eq] at A2;exact A2.1.1
  have hw:IntKind.i64.wrap (IntKind.i64.wrap (IntKind.i64.wrap ((X3 a 0:Int) % 16*4096)+IntKind.i64.wrap ((X3 a 1:Int) % 64*64))+(X3 a 2:Int) % 64)=((Zu a:Nat):Int):=by
   rw[F4 (n:=(X3 a 0:Int) % 16*4096) (by omega) (by omega),F4 (n:=(X3 a 1:Int) % 64*64) (by omega) (by omega),F4 (n:=_+(X3 a 1:Int) % 64*64) (by omega) (by omega),F4 (by omega) (by omega)]
   unfold Zu;omega
  refine U8 hs ?_
  have hx1: ∀{w':World} {K:Value→World→Prop},K (.int .u8 (X3 a 1)) w'→E5 P T.b (S a) (.int .i64 1) w' K:=fun hK=>Lg (i:=1) hl1 hK
  have hx2: ∀{w':World} {K:Value→World→Prop},K (.int .u8 (X3 a 2)) w'→E5 P T.b (S a) (.int .i64 2) w' K:=fun hK=>Lg (i:=2) hl2 hK
  (repeat (apply J5;(· intros;(repeat (rename_i hx;subst hx));(repeat' (first | (with_reducible exact M5 rfl) | (with_reducible exact Qf (Stp.bel (by (repeat (first | exact Stp.refl (by (first | assumption | exact Stp.sat (by assumption) | exact Hst.sat (by assumption))) | assumption | refine Stp.trans ?_ (by first | assumption | exact Hst.stp (by assumption)))))) rfl) | (with_reducible intro _) | (simp only[↓M2,M2,Mb,reduceIte]) | (with_reducible refine Q8P au ?_) | (with_reducible refine Q2o au ?_) | (with_reducible refine hx1 ?_) | (with_reducible refine hx2 ?_) | (with_reducible show Q2 _ _ _ _ _;first | refine X8 aS aL aR ?_ | refine Y9 aS aL aR ?_ | refine ld aS aL aR ?_) | (with_reducible show indexAddr _ _ _ _ _ _;refine J0 aL au ?_) | (with_reducible show X5 _ _ _ _ _ _ _ _;refine Q8 aL ?_) | (with_reducible show Ut _ _ _ _ _ _;refine V3 aR ?_) | (with_reducible show pick _ _ _ _ _ _;refine Zq ?_) | (apply Jv;intro hh;(try simp only[hh,reduceIte,↓M2,M2,Mb,reduceIte]))));done)))
  (intros;(repeat (rename_i hx;subst hx));(try simp only[↓M2,M2,Mb,reduceIte]))
  rename_i w2 hb2
  simp only[hw]
  have hb:=hb2.stp.bel
  by_cases e1:2048≤Zu a
  ·by_cases e2:Zu a<55296
   ·simp only[(show decide ((2048:Int)≤(Zu a:Int))=true by rw[decide_eq_true_eq];omega),(show decide ((Zu a:Int)<55296)=true by rw[decide_eq_true_eq];omega),↓M1,M1,Mb,reduceIte]
    exact hK 3 _ hb (by rw[hcm,if_pos ⟨e1, .inl e2⟩])
   ·by_cases e3:57343<Zu a
    ·simp only[(show decide ((2048:Int)≤(Zu a:Int))=true by rw[decide_eq_true_eq];omega),(show decide ((Zu a:Int)<55296)=false by rw[decide_eq_false_iff_not];omega),(show decide ((57343:Int)<(Zu a:Int))=true by rw[decide_eq_true_eq];omega),↓M1,M1,Mb,reduceIte]
     exact hK 3 _ hb (by rw[hcm,if_pos ⟨e1, .inr e3⟩])
    ·simp only[(show decide ((2048:Int)≤(Zu a:Int))=true by rw[decide_eq_true_eq];omega),(show decide ((Zu a:Int)<55296)=false by rw[decide_eq_false_iff_not];omega),(show decide ((57343:Int)<(Zu a:Int))=false by rw[decide_eq_false_iff_not];omega),↓M1,M1,Mb,reduceIte]
     exact ⟨hb,by rw[hcm,if_neg (by omega)]⟩
  ·simp only[(show decide ((2048:Int)≤(Zu a:Int))=false by rw[decide_eq_false_iff_not];omega),↓M1,M1,Mb,reduceIte]
   exact ⟨hb,by rw[hcm,if_neg (by omega)]⟩
 by_cases c4:X3 a 0<245
 ·have i1:decide ((194:Int)≤X3 a 0)=true:=by rw[decide_eq_true_eq];omega
  have n1:decide (194≤X3 a 0)=true:=by rw[decide_eq_true_eq];omega
  have i2:decide ((X3 a 0:Int)<224)=false:=by rw[decide_eq_false_iff_not];omega
  have n2:decide (X3 a 0<224)=false:=by rw[decide_eq_false_iff_not];omega
  have i3:decide ((224:Int)≤X3 a 0)=true:=by rw[decide_eq_true_eq];omega
  have n3:decide (224≤X3 a 0)=true:=by rw[decide_eq_true_eq];omega
  have i4:decide ((X3 a 0:Int)<240)=false:=by rw[decide_eq_false_iff_not];omega
  have n4:decide (X3 a 0<240)=false:=by rw[decide_eq_false_iff_not];omega
  have i5:decide ((240:Int)≤X3 a 0)=true:=by rw[decide_eq_true_eq];omega
  have n5:decide (240≤X3 a 0)=true:=by rw[decide_eq_true_eq];omega
  have i6:decide ((X3 a 0:Int)<245)=true:=by rw[decide_eq_true_eq];omega
  have n6:decide (X3 a 0<245)=true:=by rw[decide_eq_true_eq];omega
  simp only[i1,i2,i3,i4,i5,i6,↓M1,M1,Mb,reduceIte]
  refine Vl (i:=1) ?_
  cases A1:H0 a.length 1 (X3 a 1) with
  | false=>simp only[↓M1,M1,Mb,reduceIte];exact ⟨Below.refl _ _,by rw[hcm];simp only[A1,n1,n2,n3,n4,n5,n6,Bool.and_true,Bool.true_and,Bool.false_and,Bool.and_false,Bool.false_eq_true,if_true,if_false,reduceIte]⟩
  | true=>
  simp only[↓M1,M1,Mb,reduceIte]
  refine Vl (i:=2) ?_
  cases A2:H0 a.length 2 (X3 a 2) with
  | false=>simp only[↓M1,M1,Mb,reduceIte];exact ⟨Below.refl _ _,by rw[hcm];simp only[A1,A2,n1,n2,n3,n4,n5,n6,Bool.and_true,Bool.true_and,Bool.false_and,Bool.and_false,Bool.false_eq_true,if_true,if_false,reduceIte]⟩
  | true=>
  simp only[↓M1,M1,Mb,reduceIte]
  refine Vl (i:=3) ?_
  cases A3:H0 a.length 3 (X3 a 3) with
  | false=>simp only[↓M1,M1,Mb,reduceIte];exact ⟨Below.refl _ _,by rw[hcm];simp only[A1,A2,A3,n1,n2,n3,n4,n5,n6,Bool.and_true,Bool.true_and,Bool.false_and,Bool.and_false,Bool.false_eq_true,if_true,if_false,reduceIte]⟩
  | true=>
  simp only[↓M1,M1,Mb,reduceIte]
  simp only[A1,A2,A3,n1,n2,n3,n4,n5,n6,Bool.and_true,Bool.true_and,Bool.false_and,Bool.and_false,Bool.false_eq_true,if_true,if_false,reduceIte] at hcm
  have hl1:1<a.length:=by unfold H0 at A1;simp only[Bool.and_eq_true,decide_eq_true_eq] at A1;exact A1.1.1
  have hl2:2<a.length:=by unfold H0 at A2;simp only[Bool.and_eq_true,decide_eq_true_eq] at A2;exact A2.1.1
  have hl3:3<a.length:=by unfold H0 at A3;simp only[Bool.and_eq_true,decide_eq_true_eq] at A3;exact A3.1.1
  have hw:IntKind.i64.wrap (IntKind.i64.wrap (IntKind.i64.wrap (IntKind.i64.wrap ((X3 a 0:Int) % 8*262144)+IntKind.i64.wrap ((X3 a 1:Int) % 64*4096))+IntKind.i64.wrap ((X3 a 2:Int) % 64*64))+(X3 a 3:Int) % 64)=((Ha a:Nat):Int):=by
   rw[F4 (n:=(X3 a 0:Int) % 8*262144) (by omega) (by omega),F4 (n:=(X3 a 1:Int) % 64*4096) (by omega) (by omega),F4 (n:=(X3 a 2:Int) % 64*64) (by omega) (by omega),F4 (n:=_+(X3 a 1:Int) % 64*4096) (by omega) (by omega),F4 (n:=_+(X3 a 2:Int) % 64*64) (by omega) (by omega),F4 (by omega) (by omega)]
   unfold Ha;omega
  refine U8 hs ?_
  have hx1: ∀{w':World} {K:Value→World→Prop},K (.int .u8 (X3 a 1)) w'→E5 P T.b (S a) (.int .i64 1) w' K:=fun hK=>Lg (i:=1) hl1 hK
  have hx2: ∀{w':World} {K:Value→World→Prop},K (.int .u8 (X3 a 2)) w'→E5 P T.b (S a) (.int .i64 2) w' K:=fun hK=>Lg (i:=2) hl2 hK
  have hx3: ∀{w':World} {K:Value→World→Prop},K (.int .u8 (X3 a 3)) w'→E5 P T.b (S a) (.int .i64 3) w' K:=fun hK=>Lg (i:=3) hl3 hK
  (repeat (apply J5;(· intros;(repeat (rename_i hx;subst hx));(repeat' (first | (with_reducible exact M5 rfl) | (with_reducible exact Qf (Stp.bel (by (repeat (first | exact Stp.refl (by (first | assumption | exact Stp.sat (by assumption) | exact Hst.sat (by assumption))) | assumption | refine Stp.trans ?_ (by first | assumption | exact Hst.stp (by assumption)))))) rfl) | (with_reducible intro _) | (simp only[↓M2,M2,Mb,reduceIte]) | (with_reducible refine Q8P au ?_) | (with_reducible refine Q2o au ?_) | (with_reducible refine hx1 ?_) | (with_reducible refine hx2 ?_) | (with_reducible refine hx3 ?_) | (with_reducible show Q2 _ _ _ _ _;first | refine X8 aS aL aR ?_ | refine Y9 aS aL aR ?_ | refine ld aS aL aR ?_) | (with_reducible show indexAddr _ _ _ _ _ _;refine J0 aL au ?_) | (with_reducible show X5 _ _ _ _ _ _ _ _;refine Q8 aL ?_) | (with_reducible show Ut _ _ _ _ _ _;refine V3 aR ?_) | (with_reducible show pick _ _ _ _ _ _;refine Zq ?_) | (apply Jv;intro hh;(try simp only[hh,reduceIte,↓M2,M2,Mb,reduceIte]))));done)))
  (intros;(repeat (rename_i hx;subst hx));(try simp only[↓M2,M2,Mb,reduceIte]))
  rename_i w2 hb2
  simp only[hw]
  have hb:=hb2.stp.bel
  by_cases e1:65536≤Ha a
  ·by_cases e2:Ha a≤1114111
   ·simp only[(show decide ((65536:Int)≤(Ha a:Int))=true by rw[decide_eq_true_eq];omega),(show decide ((Ha a:Int)≤1114111)=true by rw[decide_eq_true_eq];omega),↓M1,M1,Mb,reduceIte]
    exact hK 4 _ hb (by rw[hcm,if_pos ⟨e1,e2⟩])
   ·simp only[(show decide ((65536:Int)≤(Ha a:Int))=true by rw[decide_eq_true_eq];omega),(show decide ((Ha a:Int)≤1114111)=false by rw[decide_eq_false_iff_not];omega),↓M1,M1,Mb,reduceIte]
    exact ⟨hb,by rw[hcm,if_neg (by omega)]⟩
  ·simp only[(show decide ((65536:Int)≤(Ha a:Int))=false by rw[decide_eq_false_iff_not];omega),↓M1,M1,Mb,reduceIte]
   exact ⟨hb,by rw[hcm,if_neg (by omega)]⟩
 have i1:decide ((194:Int)≤X3 a 0)=true:=by rw[decide_eq_true_eq];omega
 have n1:decide (194≤X3 a 0)=true:=by rw[decide_eq_true_eq];omega
 have i2:decide ((X3 a 0:Int)<224)=false:=by rw[decide_eq_false_iff_not];omega
 have n2:decide (X3 a 0<224)=false:=by rw[decide_eq_false_iff_not];omega
 have i3:decide ((224:Int)≤X3 a 0)=true:=by rw[decide_eq_true_eq];omega
 have n3:decide (224≤X3 a 0)=true:=by rw[decide_eq_true_eq];omega
 have i4:decide ((X3 a 0:Int)<240)=false:=by rw[decide_eq_false_iff_not];omega
 have n4:decide (X3 a 0<240)=false:=by rw[decide_eq_false_iff_not];omega
 have i5:decide ((240:Int)≤X3 a 0)=true:=by rw[decide_eq_true_eq];omega
 have n5:decide (240≤X3 a 0)=true:=by rw[decide_eq_true_eq];omega
 have i6:decide ((X3 a 0:Int)<245)=false:=by rw[decide_eq_false_iff_not];omega
 have n6:decide (X3 a 0<245)=false:=by rw[decide_eq_false_iff_not];omega
 simp only[i1,i2,i3,i4,i5,i6,↓M1,M1,Mb,reduceIte]
 exact ⟨Below.refl _ _,by rw[hcm];simp only[n1,n2,n3,n4,n5,n6,Bool.and_true,Bool.true_and,Bool.false_and,Bool.and_false,Bool.false_eq_true,if_true,if_false,reduceIte]⟩)
theorem Q8k {s:X0} (u:s.length≤Z9) (q:X4 w σ) (h: ∀w',Below w.heap.size w w'→K (.bool (Lib.validD s)) w'):Q0 P F.bk [S s] w K:=Fg (by
 unfold Ld
 refine Ri (fun f x w'=> ∃r,x=S r∧r.length≤f∧r.length≤Z9∧Below w.heap.size w w'∧Lib.validD s=Lib.validGoD f r) s.length ⟨s,rfl,Nat.le_refl _,u,Below.refl _ _,rfl⟩ ?_
 rintro l f x d w1 ⟨r,rfl,p,t,b,c⟩ n
 refine Wo ?_
 by_cases a:r=[]
 ·have e:decide (r=[])=true:=by simpa using a
  simp only[e,↓M1,M1,Mb,reduceIte]
  subst a
  have:Lib.validGoD f []=true:=by cases f<;>simp[Lib.validGoD]
  rw[c,this] at h
  exact h _ b
 ·have e:decide (r=[])=false:=by simpa using a
  simp only[e,↓M1,M1,Mb,reduceIte]
  have o:0<r.length:=List.length_pos_iff.2 a
  obtain ⟨f,rfl⟩: ∃g,f=g+1:=⟨f-1,by omega⟩
  rw[Q6U a] at c
  refine Q9P a (q.below b) fun v m=>?_
  have i:=b.trans (m.mono b.size)
  refine Ro ?_
  by_cases k:Yl r=0
  ·have j:decide ((Yl r:Int)=0)=true:=by rw[decide_eq_true_eq];omega
   simp only[j,↓M1,M1,Mb,reduceIte]
   rw[c,if_pos k] at h
   exact h _ i
  ·have j:decide ((Yl r:Int)=0)=false:=by rw[decide_eq_false_iff_not];omega
   simp only[j,↓M1,M1,Mb,reduceIte]
   obtain ⟨z,y⟩:=Q8D a k
   rw[Ls X7 (by omega) (by omega)]
   rw[if_neg k] at c
   refine n f _ _ (by omega) ⟨r.drop (Yl r),by simp,by rw[List.length_drop];omega,by rw[List.length_drop];omega,i,c⟩)
end Go.Proofs.YtfppjenblllfaaaGreatDoor

namespace Go.Proofs.YtfppjenblllfaaaGreatDoor
open Go.Emb Go.RowKit Go.Kd Go.Hm
variable {w : World} {K : Value → World → Prop} {σ : Q5}
theorem Q4V {σ:Q5}: ∀(xs:List X0),(∀x∈xs,x.length≤Z9)→Pn Y1 σ (xs.map S) xs
 | [],_=>trivial
 | x::r,h=>⟨⟨rfl,h x (by simp)⟩,Q4V r fun y a=>h y (by simp[a])⟩
def Zv:List X0:=Zh.map (·.name)
set_option maxRecDepth 100000 in
theorem X0F (c:X4 w σ) (h: ∀v w' a,Stp w σ w' a→Sl 1 Y1 a v Zv→K v w'):Q0 P F.bw [] w K:=Am (by
 unfold Of
 exact D2 (R:=Y1) (sz:=1) c (Zv.map S) Zv rfl rfl (by intro v b;obtain ⟨x,_,rfl⟩:=List.mem_map.1 b;rfl) rfl (Q4V _ (by decide)) fun v w' a d b=>h v w' a d b)
theorem Q6P {a:X0} (A:X4 w σ) (h: ∀w' B,Stp w σ w' B→K (I (W3 (P2 a))) w'):Q0 P F.aY [S a] w K:=Ch (by
 unfold Ve
 refine X0F A fun v w1 σ1 n l=>?_
 have r:P2 a=Zv.findIdx? fun x=>decide (x=a):=by
  unfold P2 Zv
  rw[List.findIdx?_map];rfl
 have q: ∀o,P2 a=o→K (I (W3 o)) w1:=fun o e=>by rw[←e];exact h _ _ n
 rw[r] at q
 have p:Zv.length=42:=rfl
 generalize Zv=f at l q p
 refine J1 f.length (fun k w'=>w'=w1∧ ∀j (i:j<f.length),j<k→ ¬f[j]=a) ⟨rfl,fun j _ h=>by omega⟩ fun k D d E u=>?_
 obtain ⟨C,g⟩:=u
 subst C
 refine Q8 l ?_
 refine Z1 ?_
 refine Q6 (fun s=>?_) (fun s=>?_)
 ·have b:k<f.length:=by simpa using s
  refine J0 l b ?_
  obtain ⟨z,_⟩:=l.elS b
  refine X8 n.sat z rfl ?_
  refine Vx ?_
  refine Q6 (fun c=>?_) (fun c=>?_)
  ·have c:f[k]=a:=by simpa using c
   exact q (some k) (by
    rw[List.findIdx?_eq_some_iff_getElem]
    exact ⟨b,by simpa using c,fun j i=>by simpa using g j (by omega) i⟩)
  ·have c: ¬f[k]=a:=by simpa using c
   (try simp only[↓M1,M1,Mb,reduceIte])
   refine Y2 l.max b ⟨rfl,fun j i y=>?_⟩
   by_cases e:j=k
   ·subst e;exact c
   ·exact g j i (by omega)
 ·have b: ¬k<f.length:=by simpa using s
  exact q none (by
   rw[List.findIdx?_eq_none_iff]
   intro m t
   obtain ⟨j,i,rfl⟩:=List.getElem_of_mem t
   simpa using g j i (by omega)))
theorem X1h {o:Option Nat}:decide (W3 o<0)= !o.isSome:=by
 cases o with
 | none=>rfl
 | some i=>
  have: ¬(i:Int)<0:=by omega
  exact decide_eq_false this
def Ll (a:X0):Bool:=decide (a=[105,110,116])||decide (a=[108,111,97,100])||decide (a=[115,116,111,114,101])||decide (a=[106,117,109,112])||decide (a=[98,114,97,110,99,104])
def Ui (a:X0):Bool:=decide (a=[119,111,114,100])||decide (a=[110,101,119])||decide (a=[103,101,116])||decide (a=[112,117,116])||decide (a=[99,97,108,108])||decide (a=[97,114,114,97,121])||decide (a=[105,115])||decide (a=[99,97,115,116])
theorem Q9V (a:X0):takes a=(Ll a,Ui a,(P2 a).isSome):=by
 unfold takes
 cases h:P2 a with
 | none=>
  have c:=List.findIdx?_eq_none_iff.1 h
  have d: ∀x∈Zv,¬x=a:=by
   intro x f
   obtain ⟨o,j,rfl⟩:=List.mem_map.1 f
   have:=c o j
   simpa using this
  have b: ∀x∈Zv,decide (a=x)=false:=fun x f=>by rw[decide_eq_false_iff_not];exact fun e=>d x f e.symm
  have q:Ll a=false:=by
   unfold Ll
   rw[b _ (by decide),b _ (by decide),b _ (by decide),b _ (by decide),b _ (by decide)];rfl
  have p:Ui a=false:=by
   unfold Ui
   rw[b _ (by decide),b _ (by decide),b _ (by decide),b _ (by decide),b _ (by decide),b _ (by decide),b _ (by decide),b _ (by decide)];rfl
  simp[q,p]
 | some i=>
  obtain ⟨g,r,_⟩:=List.findIdx?_eq_some_iff_getElem.1 h
  have n:Zh[i].name=a:=by simpa using r
  have k:Zh.getD i ⟨[],false,false⟩=Zh[i]:=by rw[List.getD_eq_getElem?_getD,List.getElem?_eq_getElem g];rfl
  have c: ∀o∈Zh,o.number=Ll o.name∧o.text=Ui o.name:=by decide
  obtain ⟨m,l⟩:=c _ (List.getElem_mem g)
  simp only[k,Option.isSome_some]
  rw[m,l,n]
def Nw (a:X0):Int:=if Ll a then 1 else if Ui a then 2 else if (P2 a).isSome then 0 else-1
theorem Q8t {a:X0} (c:X4 w σ) (h: ∀w' l,Stp w σ w' l→K (I (Nw a)) w'):Q0 P F.b7 [S a] w K:=Bu (by
 unfold Wn
 refine Zz (fun x w'=>w'=w∧x= .bool (Ll a)) ?_ (fun x d w' g=>?_)
 ·unfold Ll
  simp only[↓M1,M1,Mb,reduceIte]
  repeat' (refine Q6 (fun hh=>?_) (fun hh=>?_))
  all_goals (refine ⟨by trivial,?_⟩;congr 1;simp_all)
 ·obtain ⟨rfl,rfl⟩:=g
  cases f:Ll a with
  | true=>
   (try simp only[↓M1,M1,Mb,reduceIte])
   have:=h _ _ (Stp.refl c)
   unfold Nw at this
   simpa [f] using this
  | false=>
   (try simp only[↓M1,M1,Mb,reduceIte])
   refine Zz (fun x b=>b=w'∧x= .bool (Ui a)) ?_ (fun x d b g=>?_)
   ·unfold Ui
    simp only[↓M1,M1,Mb,reduceIte]
    repeat' (refine Q6 (fun hh=>?_) (fun hh=>?_))
    all_goals (refine ⟨by trivial,?_⟩;congr 1;simp_all)
   ·obtain ⟨rfl,rfl⟩:=g
    cases j:Ui a with
    | true=>
     (try simp only[↓M1,M1,Mb,reduceIte])
     have:=h _ _ (Stp.refl c)
     unfold Nw at this
     simpa [f,j] using this
    | false=>
     (try simp only[↓M1,M1,Mb,reduceIte])
     refine Q6P c fun w1 σ1 e=>?_
     have:=h _ _ e
     unfold Nw at this
     simp only[f,j,Bool.false_eq_true,if_false] at this
     simp only[X1h,↓M1,M1,Mb,reduceIte]
     cases k:P2 a with
     | none=>rw[k] at this;simp only[Option.isSome_none,↓M1,M1,Mb,reduceIte];simpa using this
     | some i=>rw[k] at this;simp only[Option.isSome_some,↓M1,M1,Mb,reduceIte];simpa using this)
theorem Q3Y (a:X0):decide (Nw a<0)= !(takes a).2.2∧decide (Nw a=1)=(takes a).1∧decide (Nw a=2)=(takes a).2.1:=by
 rw[Q9V]
 have c:Ll a=true→Ui a=false∧(P2 a).isSome=true:=by
  intro h
  unfold Ll at h
  simp only[Bool.or_eq_true,decide_eq_true_eq] at h
  rcases h with (((h | h) | h) | h) | h<;>(subst h;decide)
 have b:Ui a=true→(P2 a).isSome=true:=by
  intro h
  unfold Ui at h
  simp only[Bool.or_eq_true,decide_eq_true_eq] at h
  rcases h with ((((((h | h) | h) | h) | h) | h) | h) | h<;>(subst h;decide)
 unfold Nw
 cases f:Ll a with
 | true=>obtain ⟨g,e⟩:=c f;rw[g,e];decide
 | false=>
  cases d:Ui a with
  | true=>rw[b d];decide
  | false=>cases (P2 a).isSome<;>decide
theorem X2H (s:X0) (c:UInt8):decide (0≤Lib.indexByte s c)=s.any fun b=>decide (b=c):=by
 induction s with
 | nil=>rfl
 | cons b r g=>
  simp only[Lib.indexByte,List.any_cons,←g]
  by_cases e:b=c
  ·simp[e]
  ·have a:(b==c)=false:=by simpa using e
   have f:=Lib.indexByte_ge r c
   simp only[a,e,decide_false,Bool.false_or,Bool.false_eq_true,if_false]
   by_cases d:Lib.indexByte r c= -1
   ·simp[d]
   ·have:(Lib.indexByte r c== -1)=false:=by simpa using d
    simp only[this,Bool.false_eq_true,if_false]
    rw[Bool.eq_iff_iff,decide_eq_true_eq,decide_eq_true_eq];omega
def JB (w:World) (σ:Q5) (b:Bool) (x:Value) (w':World):Prop:= ∃a,Stp w σ w' a∧x= .bool b
theorem JB.mk {w w':World} {σ a:Q5} {b:Bool} (h:Stp w σ w' a):JB w σ b (.bool b) w':=⟨a,h,rfl⟩
theorem JB.of {w w':World} {σ a:Q5} {b c:Bool} (h:Stp w σ w' a) (e:c=b):JB w σ b (.bool c) w':=⟨a,h,by rw[e]⟩
theorem X1L {s:X0} {n:Nat} (h:n<s.length):decide ((X3 s n:Int)=10)=decide (s[n]=10):=by
 unfold X3
 rw[List.getD_eq_getElem?_getD,List.getElem?_eq_getElem h,Bool.eq_iff_iff,decide_eq_true_eq,decide_eq_true_eq]
 simp only[Option.getD_some]
 rw[←UInt8.toNat_inj]
 constructor
 ·intro e;have:s[n].toNat=10:=by omega
  rw[this];rfl
 ·intro e;rw[e];rfl
theorem Jb {α:Type} {xs:List α} {p:α→Bool} {n:Nat} (h:n<xs.length):(xs.take (n+1)).all p=((xs.take n).all p&&p xs[n]):=by
 rw[List.take_add_one,List.getElem?_eq_getElem h,List.all_append];simp
set_option maxHeartbeats 2000000 in
theorem Q75 {i:Ins} {cs:List Value} (hs:X4 w σ) (hi:I8 σ i cs) (h: ∀w' m,Stp w σ w' m→K (I (N7 i)) w'):Q0 P F.bj [.agg cs.toArray] w K:=Gn (by
 obtain ⟨rfl,h1,h2,h3⟩:=hi
 unfold Wg
 refine Y7 hs fun q w1 σ1 U hq=>?_
 have R:=U.sat
 (try simp only[↓M1,M1,Mb,reduceIte])
 refine ld R hq rfl ?_
 refine Q8t R fun Y σ2 V=>?_
 obtain ⟨t1,W,H⟩:=Q3Y i.op
 have f:=U.trans V
 have g:=hq.up V
 have e:=f.sat
 have r:i.s.length≤140737488355328:=by simp only[Z9] at h3;omega
 simp only[t1,↓M1,M1,Mb,reduceIte]
 unfold N7 at h
 cases e1:(takes i.op).2.2 with
 | false=>
  simp only[e1,Bool.not_false,if_true] at h
  (try simp only[↓M1,M1,Mb,reduceIte])
  exact h _ _ f
 | true=>
 simp only[e1,Bool.not_true,Bool.false_eq_true,if_false] at h
 simp only[W,H,↓M1,M1,Mb,reduceIte]
 have k: ∀(b:Bool) (w':World) (m:Q5),Stp w σ w' m→b=(!((!(takes i.op).1&&decide (i.n≠0))||(!(takes i.op).2.1&&decide (i.s≠[]))||((takes i.op).2.1&& !txt i.op i.s)))→
  X1 (.bool (!b)) (K (.int .i64 41) w') (K (.int .i64 0) w'):=by
  intro b w' m u D
  subst D
  rw[Bool.not_not]
  cases D:((!(takes i.op).1&&decide (i.n≠0))||(!(takes i.op).2.1&&decide (i.s≠[]))||((takes i.op).2.1&& !txt i.op i.s)) with
  | true=>simp only[D,if_true] at h;(try simp only[↓M1,M1,Mb,reduceIte]);exact h _ _ u
  | false=>simp only[D,Bool.false_eq_true,if_false] at h;(try simp only[↓M1,M1,Mb,reduceIte]);exact h _ _ u
 clear h
 have af:(takes i.op).2.1=true→(takes i.op).1=false:=by
  intro X
  rw[←W,decide_eq_false_iff_not]
  rw[←H,decide_eq_true_eq] at X
  omega
 cases C:(takes i.op).2.1 with
 | false=>
  rw[C] at k H
  cases v:(takes i.op).1 with
  | true=>
   rw[v] at k W
   (try simp only[↓M1,M1,Mb,reduceIte])
   simp only[H,↓M1,M1,Mb,reduceIte]
   refine ld e g rfl ?_
   (try simp only[↓M1,M1,Mb,reduceIte])
   refine V8 ?_
   intro d
   simp only[↓M1,M1,Mb,reduceIte]
   exact k _ _ _ f (by simp)
  | false=>
   rw[v] at k W
   (try simp only[↓M1,M1,Mb,reduceIte])
   refine ld e g rfl ?_
   (try simp only[↓M1,M1,Mb,reduceIte])
   by_cases N:i.n=0
   ·have d0:decide (i.n=0)=true:=by simpa using N
    simp only[d0,H,↓M1,M1,Mb,reduceIte]
    refine ld e g rfl ?_
    (try simp only[↓M1,M1,Mb,reduceIte])
    refine V8 ?_
    intro d
    simp only[↓M1,M1,Mb,reduceIte]
    exact k _ _ _ f (by simp[N])
   ·have d0:decide (i.n=0)=false:=by simpa using N
    simp only[d0,↓M1,M1,Mb,reduceIte]
    refine V8 ?_
    intro d
    have E:=k false _ _ f (by simp[N])
    (try simp only[↓M1,M1,Mb,reduceIte] at E⊢)
    exact E
 | true=>
  have v:=af C
  rw[C,v] at k
  rw[C] at H
  rw[v] at W⊢
  (try simp only[↓M1,M1,Mb,reduceIte])
  refine ld e g rfl ?_
  (try simp only[↓M1,M1,Mb,reduceIte])
  have o: ∀(b c:Bool) (w':World) (m:Q5),decide (i.n=0)=b→Stp w σ w' m→c=(b&&txt i.op i.s)→X1 (.bool (!c)) (K (.int .i64 41) w') (K (.int .i64 0) w'):=by
   intro b c w' m D u p
   refine k c w' m u ?_
   rw[p,←D]
   by_cases N:i.n=0<;>simp[N]
  clear k
  cases D:decide (i.n=0) with
  | false=>
   have y:=fun w' m u=>o false false w' m D u rfl
   clear o
   simp only[H,↓M1,M1,Mb,reduceIte]
   refine Zz (JB w σ false) ?_ (fun x d w' X=>?_)
   ·refine ld e g rfl ?_
    (try simp only[↓M1,M1,Mb,reduceIte])
    refine Q6 (fun hh=>?_) (fun hh=>?_)
    ·refine D3 (a:=Value.bool false) i.s.length (fun n x w'=>w'=Y∧x=Value.bool false) ⟨rfl,rfl⟩ fun n x w3 d hn l=>?_
     obtain ⟨B,rfl⟩:=l
     subst B
     (try simp only[↓M1,M1,Mb,reduceIte])
     refine ld e g rfl ?_
     (try simp only[↓M1,M1,Mb,reduceIte])
     refine Q6 (fun p=>?_) (fun p=>?_)
     ·have j:n<i.s.length:=by simpa using p
      (try simp only[↓M1,M1,Mb,reduceIte])
      exact Z6 (by omega) j ⟨rfl,rfl⟩
     ·exact .mk f
    refine Q6 (fun hh=>?_) (fun hh=>?_)
    ·exact .mk f
    refine Zz (fun x w'=>w'=Y∧ ∃b:Bool,x=Value.bool b) ?_ (fun z d w' hz=>?_)
    ·refine Q6 (fun hh=>?_) (fun hh=>?_)
     ·exact ⟨rfl,_,rfl⟩
     ·exact ⟨rfl,_,rfl⟩
    obtain ⟨B,b,rfl⟩:=hz
    subst B
    refine Q6 (fun hh=>?_) (fun hh=>?_)
    ·exact .mk f
    refine Q6 (fun hh=>?_) (fun hh=>?_)
    ·exact .mk f
    refine ld e g rfl ?_
    refine Q3a i.s r fun w4 t=>?_
    by_cases M:(T0 i.s).2.2=true
    ·simp only[M,if_true,↓M1,M1,Mb,reduceIte]
     exact .mk (f.trans (Stp.of_below e t))
    ·simp only[M,if_false,↓M1,M1,Mb,reduceIte]
     exact .mk (f.trans (Stp.of_below e t))
   ·obtain ⟨m,u,rfl⟩:=X
    have E:=y w' m u
    (try simp only[↓M1,M1,Mb,reduceIte] at E⊢)
    exact E
  | true=>
   have y:=fun c w' m u p=>o true c w' m D u p
   clear o
   simp only[H,↓M1,M1,Mb,reduceIte]
   refine Zz (JB w σ (txt i.op i.s)) ?_ (fun x d w' X=>?_)
   ·refine ld e g rfl ?_
    (try simp only[↓M1,M1,Mb,reduceIte])
    unfold txt
    by_cases o1:i.op=[119,111,114,100]
    ·simp only[if_pos o1,decide_eq_true o1,↓M1,M1,Mb,reduceIte]
     refine ld e g rfl ?_
     (try simp only[↓M1,M1,Mb,reduceIte])
     have ag:decide ((i.s.length:Int)≤64)=decide (i.s.length≤64):=by rw[Bool.eq_iff_iff,decide_eq_true_eq,decide_eq_true_eq];omega
     rw[ag,X2H,List.not_any_eq_all_not]
     cases aq:decide (i.s.length≤64) with
     | false=>
      (try simp only[↓M1,M1,Mb,reduceIte])
      refine D3 (a:=Value.bool false) i.s.length (fun n x w'=>w'=Y∧x=Value.bool false) ⟨rfl,rfl⟩ fun n x w3 d hn l=>?_
      obtain ⟨B,rfl⟩:=l
      subst B
      (try simp only[↓M1,M1,Mb,reduceIte])
      refine ld e g rfl ?_
      (try simp only[↓M1,M1,Mb,reduceIte])
      refine Q6 (fun p=>?_) (fun p=>?_)
      ·have j:n<i.s.length:=by simpa using p
       (try simp only[↓M1,M1,Mb,reduceIte])
       exact Z6 (by omega) j ⟨rfl,rfl⟩
      ·exact .of f (by simp)
     | true=>
      (try simp only[↓M1,M1,Mb,reduceIte])
      refine ld e g rfl ?_
      refine Q8k h3 e fun w4 t=>?_
      have L:=Stp.of_below e t
      have Q:=g.up L
      have O:=L.sat
      have A:=f.trans L
      (try simp only[↓M1,M1,Mb,reduceIte])
      refine D3 (a:=Value.bool (Lib.validD i.s)) i.s.length (fun n x w'=>w'=w4∧x=Value.bool (Lib.validD i.s&&(i.s.take n).all fun c=> !decide (c=10))) ⟨rfl,by simp⟩ fun n x w3 d hn l=>?_
      obtain ⟨B,rfl⟩:=l
      subst B
      (try simp only[↓M1,M1,Mb,reduceIte])
      refine ld O Q rfl ?_
      (try simp only[↓M1,M1,Mb,reduceIte])
      refine Q6 (fun p=>?_) (fun p=>?_)
      ·have j:n<i.s.length:=by simpa using p
       have J:(Lib.validD i.s&&(i.s.take (n+1)).all fun c=> !decide (c=10))=((Lib.validD i.s&&(i.s.take n).all fun c=> !decide (c=10))&& !decide (i.s[n]=10)):=by rw[Jb j,Bool.and_assoc]
       generalize aj:(Lib.validD i.s&&(i.s.take n).all fun c=> !decide (c=10))=ac at J⊢
       cases ac with
       | false=>(try simp only[↓M1,M1,Mb,reduceIte]);exact Z6 (by omega) j ⟨rfl,by rw[J];rfl⟩
       | true=>
        (try simp only[↓M1,M1,Mb,reduceIte])
        refine ld O Q rfl ?_
        refine Lg j ?_
        simp only[X1L j,↓M1,M1,Mb,reduceIte]
        exact Z6 (by omega) j ⟨rfl,by rw[J];rfl⟩
      ·have j: ¬n<i.s.length:=by simpa using p
       rw[List.take_of_length_le (by omega)]
       exact .of A (by simp)
    ·simp only[if_neg o1,decide_eq_false o1,↓M1,M1,Mb,reduceIte]
     by_cases o2:i.op=[110,101,119]
     ·simp only[if_pos o2,decide_eq_true o2,↓M1,M1,Mb,reduceIte]
      refine ld e g rfl ?_
      refine Qs i.s r ?_
      (try simp only[↓M1,M1,Mb,reduceIte])
      exact .mk f
     ·simp only[if_neg o2,decide_eq_false o2,↓M1,M1,Mb,reduceIte]
      refine Zz (fun x w'=>w'=Y∧x=Value.bool (decide (i.op=[105,115]∨i.op=[99,97,115,116]))) ?_ (fun z d w' hz=>?_)
      ·refine Q6 (fun hh=>?_) (fun hh=>?_)
       ·exact ⟨rfl,by simp_all⟩
       ·exact ⟨rfl,by simp_all⟩
      obtain ⟨B,rfl⟩:=hz
      subst B
      by_cases Z:i.op=[105,115]∨i.op=[99,97,115,116]
      ·simp only[if_pos Z,decide_eq_true Z,↓M1,M1,Mb,reduceIte]
       refine ld e g rfl ?_
       refine Vb i.s r ?_
       cases hr:right i.s with
       | false=>(try simp only[↓M1,M1,Mb,reduceIte]);exact .mk f
       | true=>
        (try simp only[↓M1,M1,Mb,reduceIte])
        refine ld e g rfl ?_
        refine Zt i.s ?_
        (try simp only[↓M1,M1,Mb,reduceIte])
        exact .mk f
      ·simp only[if_neg Z,decide_eq_false Z,↓M1,M1,Mb,reduceIte]
       by_cases o4:i.op=[97,114,114,97,121]
       ·simp only[if_pos o4,decide_eq_true o4,↓M1,M1,Mb,reduceIte]
        refine ld e g rfl ?_
        refine Vb i.s r ?_
        cases hr:right i.s with
        | false=>(try simp only[↓M1,M1,Mb,reduceIte]);exact .mk f
        | true=>
         (try simp only[↓M1,M1,Mb,reduceIte])
         refine ld e g rfl ?_
         refine Q1f i.s r ?_
         (try simp only[↓M1,M1,Mb,reduceIte])
         have e3:decide (((base i.s).2:Int)<3)=decide (Q19 i.s<3):=by
          unfold Q19;rw[if_pos hr,Bool.eq_iff_iff,decide_eq_true_eq,decide_eq_true_eq];omega
         rw[e3]
         exact .mk f
       ·simp only[if_neg o4,decide_eq_false o4,↓M1,M1,Mb,reduceIte]
        refine ld e g rfl ?_
        refine Q3a i.s r fun w4 t=>?_
        have A:=f.trans (Stp.of_below e t)
        by_cases M:(T0 i.s).2.2=true
        ·simp only[M,if_true,↓M1,M1,Mb,reduceIte]
         exact .mk A
        ·have:Xw i.s=false:=by unfold Xw;rw[eq_false_of_ne_true M];rfl
         simp only[M,if_false,↓M1,M1,Mb,reduceIte]
         exact .of A this.symm
   ·obtain ⟨m,u,rfl⟩:=X
    have E:=y _ w' m u rfl
    simp only[Bool.true_and] at E
    (try simp only[↓M1,M1,Mb,reduceIte])
    exact E)
end Go.Proofs.YtfppjenblllfaaaGreatDoor

namespace Go.Emb
theorem X1s {w:World} {K:Value→World→Prop} {v:Value} (h:K v w):Q1 (.bool true) true w (fun w J=>J v w) K:=by rw[I3];exact h
theorem X0O {w:World} {K:Value→World→Prop} {v:Value} (h:K v w):Q1 (.bool false) false w (fun w J=>J v w) K:=by rw[Vi];exact h
theorem X1t {w:World} {K:Value→World→Prop} {b:Bool} {run:World→(Value→World→Prop)→Prop} (h:K undef w):Q1 undef b w run K:=by rw[Q00];exact h
class Hd (p : Prop) (q : outParam Prop) : Prop where
  h : q → p
section
variable {P : Program} {w : World} {K : Value → World → Prop} {run : World → (Value → World → Prop) → Prop} {v u : Value} {b : Bool}
instance:Hd (Z8 P .not (.bool b) w K) (K (.bool (!b)) w):=⟨Wc⟩
instance:Hd (Q1 undef b w run K) (K undef w):=⟨X1t⟩
instance {t:TypeId} {k off:Nat} {ft:TypeId} {sz by_:Nat} {z:Value} {a:Addr} [tf:TF P t k off ft] [tz:TZ P ft sz by_ z] [nz:NZ sz]:Hd (fieldAddr P t (.pointer (some a)) k w K) (K (.pointer (some (a.add off))) w):=⟨M9⟩
instance:Hd (pick P (.bool false) v u w K) (K u w):=⟨X1d⟩
instance:Hd (pick P (.bool true) v u w K) (K v w):=⟨X0V⟩
instance:Hd (Q1 (.bool false) false w run K) (run w K):=⟨X1N⟩
instance:Hd (Q1 (.bool true) true w run K) (run w K):=⟨X1E⟩
instance:Hd (Q1 (.bool false) true w run K) (K undef w):=⟨X0G⟩
instance:Hd (Q1 (.bool true) false w run K) (K undef w):=⟨X0M⟩
instance:Hd (Q1 (.bool false) false w (fun w J=>J v w) K) (K v w):=⟨X0O⟩
instance:Hd (Q1 (.bool true) true w (fun w J=>J v w) K) (K v w):=⟨X1s⟩
end
end Go.Emb
namespace Go.Proofs.YtfppjenblllfaaaGreatDoor
open Go.Emb Go.RowKit Go.Kd Go.Hm
variable {w : World} {K : Value → World → Prop} {σ : Q5}
theorem X0R {xs:List Ins} {v:Value} (r:X4 w σ) (o:Sl 3 I8 σ v xs) (h: ∀e w' m,Stp w σ w' m→decide (e=0)=xs.all (fun i=>decide (N7 i=0))→K (I e) w'):Q0 P F.aS [v] w K:=Af (by
 unfold Ol
 refine J1 xs.length (fun n w'=> ∃m,Stp w σ w' m∧(xs.take n).all (fun i=>decide (N7 i=0))=true) ⟨σ,Stp.refl r,rfl⟩ fun n w1 d z j=>?_
 obtain ⟨σ1,c,f⟩:=j
 have g:=o.up c
 refine Q8 g ?_
 refine Z1 ?_
 refine Q6 (fun l=>?_) (fun l=>?_)
 ·have a:n<xs.length:=by simpa using l
  refine J0 g a ?_
  obtain ⟨q,s⟩:=g.elI a
  refine Y9 c.sat q rfl ?_
  refine Q75 c.sat s fun y p k=>?_
  refine K1 ?_
  by_cases e:N7 xs[n]=0
  ·have:decide (N7 xs[n]=0)=true:=by simpa using e
   simp only[this,↓M1,M1,Mb,reduceIte]
   exact Y2 o.max a ⟨p,c.trans k,by rw[Jb a,f];simpa using e⟩
  ·have:decide (N7 xs[n]=0)=false:=by simpa using e
   simp only[this,↓M1,M1,Mb,reduceIte]
   refine h _ _ _ (c.trans k) ?_
   rw[this]
   symm
   rw[←Bool.not_eq_true,List.all_eq_true]
   intro t
   have:=t _ (List.getElem_mem a)
   simp at this
   exact e this
 ·have a: ¬n<xs.length:=by simpa using l
  rw[List.take_of_length_le (by omega)] at f
  exact h 0 _ _ c (by rw[f];rfl))
theorem Q9p {c:Cla} {cs:List Value} (hs:X4 w σ) (hc:U5 σ c cs) (h: ∀w' σ',Stp w σ w' σ'→K (.bool (Xz c)) w'):Q0 P F.bo [.agg cs.toArray] w K:=Ks (by
 unfold Ml
 obtain ⟨lv,fv,mv,rfl,f1,f2,f3,f4,f5⟩:=hc
 refine Y7 hs fun q w1 σ1 hk1 hq=>?_
 have f1:=f1.up hk1
 have f2:=f2.up hk1
 have f3:=f3.up hk1
 refine J1 c.methods.length (fun n w'=> ∃σ',Stp w1 σ1 w' σ'∧(c.methods.take n).any Uj=false) ⟨σ1,Stp.refl hk1.sat,rfl⟩ fun n w2 d hn hinv=>?_
 obtain ⟨σ2,hk2,hno⟩:=hinv
 have hq2:=hq.up hk2
 have f32:=f3.up hk2
 have f12:=f1.up hk2
 have f22:=f2.up hk2
 have hs2:=hk2.sat
 (try simp only[↓M1,M1,Mb,reduceIte])
 refine ld hs2 hq2 rfl ?_
 refine Q8 f32 ?_
 refine Z1 ?_
 refine Q6 (fun hc=>?_) (fun hc=>?_)
 ·have hn':n<c.methods.length:=by simpa using hc
  (try simp only[↓M1,M1,Mb,reduceIte])
  refine ld hs2 hq2 rfl ?_
  refine J0 f32 hn' ?_
  obtain ⟨pv,cv,hv,p1,r1⟩:=f32.elM hn'
  refine Y9 hs2 p1 rfl ?_
  refine Y6 hs2 (by rfl) rfl (Rep.one r1) fun q3 w3 σ3 hk3 hq3=>?_
  obtain ⟨g1,g2,g3,_,_,_⟩:=(RMe_lift r1 ⟨hk3.le⟩).parts
  have hS3:=hk1.trans (hk2.trans hk3)
  have hyes:Uj c.methods[n]=true→K (.bool true) w3:=fun e=>by
   have:=h _ _ hS3
   have hm:Xz c=true:=by unfold Xz;rw[C4 hn' e];rfl
   rwa [hm] at this
  have hk23:=hk2.trans hk3
  clear h hk2 hk3 hS3
  have hmax:=f3.max
  (repeat' (first | (with_reducible intro _) | (with_reducible refine V8 ?_) | (simp only[↓M2,M2,Mb,reduceIte]) | (with_reducible first | refine ld aS aL aR ?_ | refine X8 aS aL aR ?_ | refine Y9 aS aL aR ?_ | refine Q8 aL ?_ | refine V3 aR ?_ | refine Y7 aS ?_ | refine L2 aS aL ?_ | refine J9 aS aR ?_ | refine Y6 aS aR aR (Rep.one (by assumption)) ?_ | refine U3 aS aR aR aR ?_ | (refine Z4 (fun hh=>?_) (fun hh=>?_)<;>(try simp only[hh,Bool.not_true,Bool.not_false,↓M2,M2,Mb,reduceIte])) | (refine Q6 (fun hh=>?_) (fun hh=>?_)<;>(try simp only[hh,Bool.not_true,Bool.not_false,↓M2,M2,Mb,reduceIte])))))
  all_goals clear hq hq2 f1 f2 f3 f32 f12 f22 hs hs2 p1 r1 g1 g2 g3 hk1 f4 f5 hq3
  all_goals first
   | (refine hyes ?_;clear hyes hk23;unfold Uj;simp only[Bool.not_false,Bool.not_true,Bool.or_eq_true,decide_eq_true_eq,decide_eq_false_iff_not] at*;omega)
   | (
    have hnx:(c.methods.take (n+1)).any Uj=false:=by
     rw[M4 hn',hno,Bool.false_or];clear hyes hk23;unfold Uj;simp only[Bool.or_eq_false_iff,decide_eq_false_iff_not] at*;omega
    exact Y2 hmax hn' ⟨_,hk23,hnx⟩)
 ·have hn': ¬n<c.methods.length:=by simpa using hc
  rw[D5 hn'] at hno
  have hS2:=hk1.trans hk2
  have hm:Xz c=(decide (32<c.like.length)||decide (32<c.fields.length)||decide (32<c.methods.length)):=by unfold Xz;rw[hno];simp
  rw[hm] at h
  have hK:=h _ _ hS2
  clear h hk2
  (try simp only[↓M1,M1,Mb,reduceIte])
  refine ld hs2 hq2 rfl ?_
  refine Q8 f12 ?_
  have d32: ∀k:Nat,decide ((32:Int)<(k:Int))=decide (32<k):=fun k=>by rw[Bool.eq_iff_iff,decide_eq_true_eq,decide_eq_true_eq];omega
  simp only[d32,↓M1,M1,Mb,reduceIte]
  cases e1:decide (32<c.like.length) with
  | true=>rw[e1] at hK;(try simp only[↓M1,M1,Mb,reduceIte]);simpa using hK
  | false=>
   rw[e1] at hK
   (try simp only[↓M1,M1,Mb,reduceIte])
   refine ld hs2 hq2 rfl ?_
   refine Q8 f22 ?_
   simp only[d32,↓M1,M1,Mb,reduceIte]
   cases e2:decide (32<c.fields.length) with
   | true=>rw[e2] at hK;(try simp only[↓M1,M1,Mb,reduceIte]);simpa using hK
   | false=>
    rw[e2] at hK
    (try simp only[↓M1,M1,Mb,reduceIte])
    refine ld hs2 hq2 rfl ?_
    refine Q8 f32 ?_
    simp only[d32,↓M1,M1,Mb,reduceIte]
    simpa using hK)
theorem Q6f {α:Type} {xs:List α} {p:α→Bool} {n:Nat} (h: ¬n<xs.length):(xs.take n).all p=xs.all p:=by rw[List.take_of_length_le (by omega)]
set_option maxHeartbeats 4000000 in
theorem Pk {m:Hm.Met} {pv cv hv:Value} {w1:World} {σ1:Q5} {q:Addr} {r:Bool} (hs:X4 w σ) (ag:Stp w σ w1 σ1) (hq:Z3 σ1 q [S m.name,pv,S m.result, .bool m.abs,I m.locals,cv,hv]) (g1:Sl 1 Y1 σ1 pv m.params) (g2:Sl 3 I8 σ1 cv m.code) (g3:Sl 4 Yo σ1 hv m.catches)
 (h: ∀w' O,Stp w σ w' O→K (.bool ((r&&m.params.all right)&&if m.abs then decide (m.locals=0)&&decide (m.code=[])&&decide (m.catches=[])
  else decide (m.code≠[])&&decide ((m.params.length:Int)<m.locals)&&m.code.all (fun i=>decide (N7 i=0))&&m.catches.all (C7 m.code.length))) w'):
 lp (α:=Value×Value) (Value.bool r,(.int .i64 0)) w1 fun W B d_ w=>
  fieldAddr P T.d (.pointer (some q)) 1 w fun bn w=>
  Q2 P T.c bn w fun ch w=>
  X5 P .len [T.c] T.e [false] [ch] w fun db w=>
  Q3 P .lss T.e (.tmp 21) (.tmp 24) B.2 db w fun cj w=>
  X1 cj (
   Q1 B.1 true w (fieldAddr P T.d (.pointer (some q)) 1) fun ca w=>
   Q1 B.1 true w (Q2 P T.c ca) fun ci w=>
   Q1 B.1 true w (fun w J=>J B.2 w) fun cs w=>
   Q1 B.1 true w (indexAddr P T.c ci cs) fun c9 w=>
   Q1 B.1 true w (Q2 P T.b c9) fun bm w=>
   Q1 B.1 true w (Q0 P F.i [bm]) fun br w=>
   pick P B.1 br (.bool false) w fun cr w=>
   Q3 P .add T.e (.tmp 26) (.const (.int .i64 1)) B.2 (.int .i64 1) w fun b5 w=>
   W (cr,b5) w) (
   fieldAddr P T.d (.pointer (some q)) 3 w fun c5 w=>
   Q2 P T.m c5 w fun c3 w=>
   X1 c3 (
    Q1 B.1 true w (fieldAddr P T.d (.pointer (some q)) 4) fun cx w=>
    Q1 B.1 true w (Q2 P T.e cx) fun b3 w=>
    Q1 B.1 true w (Q3 P .eql T.e (.tmp 42) (.const (.int .i64 0)) b3 (.int .i64 0)) fun cy w=>
    pick P B.1 cy (.bool false) w fun L w=>
    Q1 L true w (fieldAddr P T.d (.pointer (some q)) 5) fun bz w=>
    Q1 L true w (Q2 P T.l bz) fun c6 w=>
    Q1 L true w (X5 P .len [T.l] T.e [false] [c6]) fun bh w=>
    Q1 L true w (Q3 P .eql T.e (.tmp 48) (.const (.int .i64 0)) bh (.int .i64 0)) fun b1 w=>
    pick P L b1 (.bool false) w fun N w=>
    Q1 N true w (fieldAddr P T.d (.pointer (some q)) 6) fun bs w=>
    Q1 N true w (Q2 P T.o bs) fun b4 w=>
    Q1 N true w (X5 P .len [T.o] T.e [false] [b4]) fun cc w=>
    Q1 N true w (Q3 P .eql T.e (.tmp 54) (.const (.int .i64 0)) cc (.int .i64 0)) fun c8 w=>
    pick P N c8 (.bool false) w fun cz w=>
    K cz w) (
    fieldAddr P T.d (.pointer (some q)) 5 w fun cp w=>
    Q2 P T.l cp w fun co w=>
    X5 P .len [T.l] T.e [false] [co] w fun ah w=>
    lp (α:=Value×Value) (B.1,(.int .i64 0)) w fun U j d_ w=>
     fieldAddr P T.d (.pointer (some q)) 6 w fun c7 w=>
     Q2 P T.o c7 w fun dc w=>
     X5 P .len [T.o] T.e [false] [dc] w fun cf w=>
     Q3 P .lss T.e (.tmp 60) (.tmp 63) j.2 cf w fun cd w=>
     X1 cd (
      fieldAddr P T.d (.pointer (some q)) 6 w fun bl w=>
      Q2 P T.o bl w fun b8 w=>
      indexAddr P T.o b8 j.2 w fun bj w=>
      Q2 P T.p bj w fun bu w=>
      W4 P T.p w fun t7 w=>
      Z0 P T.p t7 bu w fun _u w=>
      Q1 j.1 true w (fieldAddr P T.p t7 0) fun cl w=>
      Q1 j.1 true w (Q2 P T.e cl) fun ck w=>
      Q1 j.1 true w (Q3 P .geq T.e (.tmp 75) (.const (.int .i64 0)) ck (.int .i64 0)) fun b9 w=>
      pick P j.1 b9 (.bool false) w fun H w=>
      Q1 H true w (fieldAddr P T.p t7 0) fun cm w=>
      Q1 H true w (Q2 P T.e cm) fun b0 w=>
      Q1 H true w (fieldAddr P T.p t7 1) fun bk w=>
      Q1 H true w (Q2 P T.e bk) fun b2 w=>
      Q1 H true w (Q3 P .lss T.e (.tmp 80) (.tmp 82) b0 b2) fun cu w=>
      pick P H cu (.bool false) w fun Q w=>
      Q1 Q true w (fieldAddr P T.p t7 1) fun cq w=>
      Q1 Q true w (Q2 P T.e cq) fun cn w=>
      Q1 Q true w (fun w J=>J ah w) fun cb w=>
      Q1 Q true w (Q3 P .leq T.e (.tmp 87) (.tmp 88) cn cb) fun cg w=>
      pick P Q cg (.bool false) w fun V w=>
      Q1 V true w (fieldAddr P T.p t7 2) fun bw w=>
      Q1 V true w (Q2 P T.e bw) fun ce w=>
      Q1 V true w (Q3 P .geq T.e (.tmp 93) (.const (.int .i64 0)) ce (.int .i64 0)) fun bq w=>
      pick P V bq (.bool false) w fun R w=>
      Q1 R true w (fieldAddr P T.p t7 2) fun bo w=>
      Q1 R true w (Q2 P T.e bo) fun cw w=>
      Q1 R true w (fun w J=>J ah w) fun dd w=>
      Q1 R true w (Q3 P .lss T.e (.tmp 98) (.tmp 99) cw dd) fun a0 w=>
      pick P R a0 (.bool false) w fun D w=>
      Q1 D true w (fieldAddr P T.p t7 3) fun a7 w=>
      Q1 D true w (Q2 P T.b a7) fun az w=>
      Q1 D true w (Q0 P F.e [az]) fun al w=>
      pick P D al (.bool false) w fun ap w=>
      Q3 P .add T.e (.tmp 65) (.const (.int .i64 1)) j.2 (.int .i64 1) w fun bi w=>
      U (ap,bi) w) (
      Q1 j.1 true w (fun w J=>J ah w) fun an w=>
      Q1 j.1 true w (Q3 P .gtr T.e (.tmp 109) (.const (.int .i64 0)) an (.int .i64 0)) fun aj w=>
      pick P j.1 aj (.bool false) w fun g w=>
      Q1 g true w (fieldAddr P T.d (.pointer (some q)) 4) fun am w=>
      Q1 g true w (Q2 P T.e am) fun bd w=>
      Q1 g true w (fieldAddr P T.d (.pointer (some q)) 1) fun a8 w=>
      Q1 g true w (Q2 P T.c a8) fun ay w=>
      Q1 g true w (X5 P .len [T.c] T.e [false] [ay]) fun bb w=>
      Q1 g true w (Q3 P .gtr T.e (.tmp 114) (.tmp 117) bd bb) fun ba w=>
      pick P g ba (.bool false) w fun t w=>
      Q1 t true w (fieldAddr P T.d (.pointer (some q)) 5) fun a5 w=>
      Q1 t true w (Q2 P T.l a5) fun a4 w=>
      Q1 t true w (Q0 P F.aS [a4]) fun aq w=>
      Q1 t true w (Q3 P .eql T.s (.tmp 123) (.const (.int .i64 0)) aq (.int .i64 0)) fun ax w=>
      pick P t ax (.bool false) w fun aw w=>
      K aw w))):=by
 have c4:=ag.sat
 have c0:decide ((m.code.length:Int)=0)=decide (m.code=[]):=by cases m.code<;>simp;omega
 have c1:decide ((m.catches.length:Int)=0)=decide (m.catches=[]):=by cases m.catches<;>simp;omega
 have c2:decide ((0:Int)<m.code.length)=decide (m.code≠[]):=by cases m.code<;>simp
 refine D3 (a:=Value.bool r) m.params.length (fun n x w'=> ∃O,Stp w1 σ1 w' O∧x=Value.bool (r&&(m.params.take n).all right)) ⟨σ1,Stp.refl c4,by simp⟩ fun n x w2 d hn M=>?_
 obtain ⟨σ2,o,rfl⟩:=M
 have l:=hq.up o
 have Y:=g1.up o
 have k:=o.sat
 (try simp only[↓M1,M1,Mb,reduceIte])
 refine ld k l rfl ?_
 refine Q8 Y ?_
 refine Z1 ?_
 refine Q6 (fun hc=>?_) (fun hc=>?_)
 ·have c:n<m.params.length:=by simpa using hc
  have z:(r&&(m.params.take (n+1)).all right)=((r&&(m.params.take n).all right)&&right m.params[n]):=by rw[Jb c,Bool.and_assoc]
  generalize (r&&(m.params.take n).all right)=f at z⊢
  cases f with
  | false=>(try simp only[↓M1,M1,Mb,reduceIte]);exact Z6 g1.max c ⟨σ2,o,by rw[z];rfl⟩
  | true=>
   (try simp only[↓M1,M1,Mb,reduceIte])
   refine ld k l rfl ?_
   (try simp only[↓M1,M1,Mb,reduceIte])
   refine J0 Y c ?_
   obtain ⟨p1,p2⟩:=Y.elS c
   refine X8 k p1 rfl ?_
   refine Vb _ (by simp only[Z9] at p2;omega) ?_
   (try simp only[↓M1,M1,Mb,reduceIte])
   exact Z6 g1.max c ⟨σ2,o,by rw[z];rfl⟩
 ·have c: ¬n<m.params.length:=by simpa using hc
  rw[Q6f c]
  have a6:=ag.trans o
  have af:=g2.up o
  have aa:=g3.up o
  clear ag o hq g1 g2 g3 hn hc
  generalize (r&&m.params.all right)=f at h⊢
  refine ld k l rfl ?_
  cases a2:m.abs with
  | true=>
   simp only[a2,if_true] at h
   have hK:=h _ _ a6
   clear h
   (try simp only[↓M1,M1,Mb,reduceIte])
   cases f with
   | false=>(try simp only[↓M1,M1,Mb,reduceIte]);simpa using hK
   | true=>
    (try simp only[↓M1,M1,Mb,reduceIte])
    refine ld k l rfl ?_
    (try simp only[↓M1,M1,Mb,reduceIte])
    cases bc:decide (m.locals=0) with
    | false=>rw[bc] at hK;(try simp only[↓M1,M1,Mb,reduceIte]);simpa using hK
    | true=>
     rw[bc] at hK
     (try simp only[↓M1,M1,Mb,reduceIte])
     refine ld k l rfl ?_
     refine Q8 af ?_
     simp only[c0,↓M1,M1,Mb,reduceIte]
     cases a3:decide (m.code=[]) with
     | false=>rw[a3] at hK;(try simp only[↓M1,M1,Mb,reduceIte]);simpa using hK
     | true=>
      rw[a3] at hK
      (try simp only[↓M1,M1,Mb,reduceIte])
      refine ld k l rfl ?_
      refine Q8 aa ?_
      simp only[c1,↓M1,M1,Mb,reduceIte]
      simpa using hK
  | false=>
   simp only[a2,Bool.false_eq_true,if_false] at h
   (try simp only[↓M1,M1,Mb,reduceIte])
   refine ld k l rfl ?_
   refine Q8 af ?_
   refine D3 (a:=Value.bool f) m.catches.length (fun n x w'=> ∃O,Stp w2 σ2 w' O∧x=Value.bool (f&&(m.catches.take n).all (C7 m.code.length))) ⟨σ2,Stp.refl k,by simp⟩ fun n x w4 d hn M=>?_
   obtain ⟨σ4,s,rfl⟩:=M
   have E:=l.up s
   have Z:=aa.up s
   have p:=s.sat
   (try simp only[↓M1,M1,Mb,reduceIte])
   refine ld p E rfl ?_
   refine Q8 Z ?_
   refine Z1 ?_
   refine Q6 (fun hc=>?_) (fun hc=>?_)
   ·have c:n<m.catches.length:=by simpa using hc
    have z:(f&&(m.catches.take (n+1)).all (C7 m.code.length))=((f&&(m.catches.take n).all (C7 m.code.length))&&C7 m.code.length m.catches[n]):=by rw[Jb c,Bool.and_assoc]
    generalize (f&&(m.catches.take n).all (C7 m.code.length))=bp at z⊢
    (try simp only[↓M1,M1,Mb,reduceIte])
    refine ld p E rfl ?_
    refine J0 Z c ?_
    obtain ⟨p1,r1⟩:=Z.elK c
    have ar:m.catches[n].cls.length≤140737488355328:=by have:=r1.2.2.2.2;simp only[Z9] at this;omega
    refine Y9 p p1 rfl ?_
    refine Y6 p (by rfl) rfl (Rep.one r1) fun q5 w5 σ5 a9 y=>?_
    have C:=a9.sat
    have ab:=s.trans a9
    cases bp with
    | false=>(try simp only[↓M1,M1,Mb,reduceIte]);exact Z6 aa.max c ⟨σ5,ab,by rw[z];rfl⟩
    | true=>
     have A: ∀b,C7 m.code.length m.catches[n]=b→Sj m.catches.length (fun n x w'=> ∃O,Stp w2 σ2 w' O∧x=Value.bool (f&&(m.catches.take n).all (C7 m.code.length))) (Value.bool b, .int .i64 (IntKind.i64.wrap (n+1))) w5∧Ww m.catches.length (Value.bool b, .int .i64 (IntKind.i64.wrap (n+1)))<Ww m.catches.length (Value.bool true,I n):=fun b e=>Z6 aa.max c ⟨σ5,ab,by rw[z,e];rfl⟩
     unfold C7 at A
     generalize m.catches[n]=x at y A ar
     clear z p1 r1 E l Z h
     (try simp only[↓M1,M1,Mb,reduceIte])
     refine ld C y rfl ?_
     (try simp only[↓M1,M1,Mb,reduceIte])
     cases d1:decide (0≤x.frm) with
     | false=>(try simp only[↓M1,M1,Mb,reduceIte]);exact A _ (by simp[d1])
     | true=>
     (try simp only[↓M1,M1,Mb,reduceIte])
     refine ld C y rfl ?_
     (try simp only[↓M1,M1,Mb,reduceIte])
     refine ld C y rfl ?_
     (try simp only[↓M1,M1,Mb,reduceIte])
     cases d2:decide (x.frm<x.to) with
     | false=>(try simp only[↓M1,M1,Mb,reduceIte]);exact A _ (by simp[d1,d2])
     | true=>
     (try simp only[↓M1,M1,Mb,reduceIte])
     refine ld C y rfl ?_
     (try simp only[↓M1,M1,Mb,reduceIte])
     cases d3:decide (x.to≤(m.code.length:Int)) with
     | false=>(try simp only[↓M1,M1,Mb,reduceIte]);exact A _ (by simp[d1,d2,d3])
     | true=>
     (try simp only[↓M1,M1,Mb,reduceIte])
     refine ld C y rfl ?_
     (try simp only[↓M1,M1,Mb,reduceIte])
     cases d4:decide (0≤x.at_) with
     | false=>(try simp only[↓M1,M1,Mb,reduceIte]);exact A _ (by simp[d1,d2,d3,d4])
     | true=>
     (try simp only[↓M1,M1,Mb,reduceIte])
     refine ld C y rfl ?_
     (try simp only[↓M1,M1,Mb,reduceIte])
     cases d5:decide (x.at_<(m.code.length:Int)) with
     | false=>(try simp only[↓M1,M1,Mb,reduceIte]);exact A _ (by simp[d1,d2,d3,d4,d5])
     | true=>
     (try simp only[↓M1,M1,Mb,reduceIte])
     refine ld C y rfl ?_
     refine Qs x.cls ar ?_
     (try simp only[↓M1,M1,Mb,reduceIte])
     exact A _ (by simp[d1,d2,d3,d4,d5])
   ·have c: ¬n<m.catches.length:=by simpa using hc
    rw[Q6f c]
    have X:=a6.trans s
    have ct:=af.up s
    have bv:=Y.up s
    have hh: ∀w' O,Stp w σ w' O→K (.bool ((f&&m.catches.all (C7 m.code.length))&&(decide (m.code≠[])&&decide ((m.params.length:Int)<m.locals)&&m.code.all (fun i=>decide (N7 i=0))))) w':=by
     intro w' O hk
     have:=h w' O hk
     refine Eq.subst (motive:=fun b=>K (.bool b) w') ?_ this
     cases f<;>cases m.catches.all (C7 m.code.length)<;>simp
    clear h s
    generalize (f&&m.catches.all (C7 m.code.length))=bx at hh⊢
    cases bx with
    | false=>(try simp only[↓M1,M1,Mb,reduceIte]);simpa using hh _ _ X
    | true=>
     (try simp only[↓M1,M1,Mb,reduceIte])
     simp only[c2,↓M1,M1,Mb,reduceIte]
     cases ao:decide (m.code≠[]) with
     | false=>rw[ao] at hh;(try simp only[↓M1,M1,Mb,reduceIte]);simpa using hh _ _ X
     | true=>
      rw[ao] at hh
      (try simp only[↓M1,M1,Mb,reduceIte])
      refine ld p E rfl ?_
      (try simp only[↓M1,M1,Mb,reduceIte])
      refine ld p E rfl ?_
      refine Q8 bv ?_
      (try simp only[↓M1,M1,Mb,reduceIte])
      cases a1:decide ((m.params.length:Int)<m.locals) with
      | false=>rw[a1] at hh;(try simp only[↓M1,M1,Mb,reduceIte]);simpa using hh _ _ X
      | true=>
       rw[a1] at hh
       (try simp only[↓M1,M1,Mb,reduceIte])
       refine ld p E rfl ?_
       refine X0R p ct fun e w6 σ6 b6 he=>?_
       simp only[he,↓M1,M1,Mb,reduceIte]
       simpa using hh _ _ (X.trans b6)
set_option maxHeartbeats 2000000 in
theorem Q6E {m:Hm.Met} {cs:List Value} (n:X4 w σ) (y:M6 σ m cs) (h: ∀w' E,Stp w σ w' E→K (.bool (B3 m)) w'):Q0 P F.y [.agg cs.toArray] w K:=Ck (by
 unfold Ux
 obtain ⟨pv,H,J,rfl,A,B,C,z,D,L⟩:=y
 have o:m.name.length≤140737488355328:=by simp only[Z9] at z;omega
 have p:m.result.length≤140737488355328:=by simp only[Z9] at D;omega
 refine Y7 n fun q w1 σ1 a g=>?_
 have t:=A.up a
 have s:=B.up a
 have r:=C.up a
 have e:=a.sat
 obtain ⟨d,c⟩: ∃b,b=(L9 m.name&&(decide (m.result=[])||right m.result)):=⟨_,rfl⟩
 have l:B3 m=((d&&m.params.all right)&&if m.abs then decide (m.locals=0)&&decide (m.code=[])&&decide (m.catches=[])
  else decide (m.code≠[])&&decide ((m.params.length:Int)<m.locals)&&m.code.all (fun i=>decide (N7 i=0))&&m.catches.all (C7 m.code.length)):=by
  rw[c];unfold B3
  cases L9 m.name<;>cases m.params.all right<;>cases decide (m.result=[])<;>cases right m.result<;>rfl
 rw[l] at h
 clear l
 (repeat refine Hd.h ?_)
 refine ld e g rfl ?_
 refine Bh m.name o ?_
 cases f:L9 m.name with
 | false=>
  have k:d=false:=by rw[c,f];rfl
  (repeat refine Hd.h ?_)
  refine Eq.subst (motive:=fun b=>lp (α:=Value×Value) (Value.bool b, .int .i64 0) w1 _) k ?_
  exact Pk n a g t s r h
 | true=>
  (repeat refine Hd.h ?_)
  refine ld e g rfl ?_
  (repeat refine Hd.h ?_)
  refine Vx ?_
  cases j:decide (m.result=[]) with
  | true=>
   have k:d=true:=by rw[c,f,j];rfl
   (repeat refine Hd.h ?_)
   refine Eq.subst (motive:=fun b=>lp (α:=Value×Value) (Value.bool b, .int .i64 0) w1 _) k ?_
   exact Pk n a g t s r h
  | false=>
   (repeat refine Hd.h ?_)
   refine ld e g rfl ?_
   (repeat refine Hd.h ?_)
   refine Vb m.result p ?_
   have k:d=right m.result:=by rw[c,f,j];rfl
   (repeat refine Hd.h ?_)
   refine Eq.subst (motive:=fun b=>lp (α:=Value×Value) (Value.bool b, .int .i64 0) w1 _) k ?_
   exact Pk n a g t s r h)
end Go.Proofs.YtfppjenblllfaaaGreatDoor

namespace Go.Hm
open Go.Kd
def Wd (c:Cla) (i:Nat):Bool:=W7 (c.like.getD i [])&& !decide (c.like.getD i []=c.name)
def I6 (c:Cla) (i k:Nat):Bool:= !decide (c.like.getD k []=c.like.getD i [])
def Rj (c:Cla) (i:Nat):Fld:=c.fields.getD i Fld.zero
def Dk (c:Cla) (i:Nat):Hm.Met:=c.methods.getD i Hm.Met.zero
def Nk (c:Cla) (i:Nat):Bool:=L9 (Rj c i).name&&right (Rj c i).kind&& !c.iface
def Qn (c:Cla) (i k:Nat):Bool:= !decide ((Rj c k).name=(Rj c i).name)
def Q77 (c:Cla):Bool:=(!c.iface||(c.abs&&decide (c.super=Z7)))&& !(c.abs&&c.fin)
def Qo (c:Cla) (i k:Nat):Bool:= !decide ((Dk c k).name=(Dk c i).name)
theorem Uy {p:Nat→Bool} {n:Nat}:(List.range (n+1)).all p=((List.range n).all p&&p n):=by rw[List.range_succ,List.all_append];simp
theorem E7 {α:Type} {xs:List α} {i:Nat} {d:α} (h:i<xs.length):xs.getD i d=xs[i]:=by rw[List.getD_eq_getElem?_getD,List.getElem?_eq_getElem h];rfl
end Go.Hm
namespace Go.Proofs.YtfppjenblllfaaaGreatDoor
open Go.Emb Go.RowKit Go.Kd Go.Hm
variable {w : World} {K : Value → World → Prop} {σ : Q5}
def Lb (c:Cla) (i:Nat):Bool:=B3 (Dk c i)&&(!(Dk c i).abs||c.abs)&&(!c.iface||(Dk c i).abs)
set_option maxHeartbeats 2000000 in
theorem Q2u {c:Cla} {lv fv mv:Value} {w1:World} {σ1:Q5} {q:Addr} {ok:Bool} (af:X4 w1 σ1) (hq:Z3 σ1 q [S c.name,S c.super,lv, .bool c.iface, .bool c.abs, .bool c.fin,fv,mv]) {i:Nat} {N m0:Nat} {U:Nat→Value→World→Prop} (g1:Sl 1 Y1 σ1 lv c.like) (hi:i<c.like.length)
 (h: ∀w' σ',Stp w1 σ1 w' σ'→Sj N U (Value.bool (ok&&(List.range i).all (I6 c i)), .int .i64 (IntKind.i64.wrap (i+1))) w'∧Ww N (Value.bool (ok&&(List.range i).all (I6 c i)), .int .i64 (IntKind.i64.wrap (i+1)))<m0):
 lp (
  α:=Value×Value) (Value.bool ok,(.int .i64 0)) w1 fun f b d_ w=>
  Q3 P .lss T.e (.tmp 52) (.tmp 53) b.2 (I i) w fun ag w=>
  X1 ag (
   dr w fun e g=>
   Q7 e (fun r=> ∀w:World,g w→Q1 b.1 true w (fieldAddr P T.a (.pointer (some q)) 2) (dk e r w)) fun r=>
   Q7 e (fun v=> ∀w:World,g w→Q1 b.1 true w (fun w J=>J b.2 w) (dk e v w)) fun v=>
   Q7 e (fun D=> ∀w:World,g w→Q1 b.1 true w (fieldAddr P T.a (.pointer (some q)) 2) (dk e D w)) fun D=>
   Q7 e (fun o=> ∀w:World,g w→Q1 b.1 true w (fun w J=>J (I i) w) (dk e o w)) fun o=>
   Q7 e (fun B=> ∀u:Value,∀w:World,g w→r u w→Q1 b.1 true w (Q2 P T.c u) (dk e B w)) fun B=>
   Q7 e (fun s=> ∀m:Value,∀z:Value,∀w:World,g w→B m w→v z w→Q1 b.1 true w (indexAddr P T.c m z) (dk e s w)) fun s=>
   Q7 e (fun E=> ∀C:Value,∀w:World,g w→s C w→Q1 b.1 true w (Q2 P T.b C) (dk e E w)) fun E=>
   Q7 e (fun n=> ∀A:Value,∀w:World,g w→D A w→Q1 b.1 true w (Q2 P T.c A) (dk e n w)) fun n=>
   Q7 e (fun t=> ∀y:Value,∀l:Value,∀w:World,g w→n y w→o l w→Q1 b.1 true w (indexAddr P T.c y l) (dk e t w)) fun t=>
   Q7 e (fun H=> ∀p:Value,∀w:World,g w→t p w→Q1 b.1 true w (Q2 P T.b p) (dk e H w)) fun H=>
   ∀u:Value,∀z:Value,∀A:Value,∀l:Value,∀m:Value,∀C:Value,∀W:Value,∀y:Value,∀p:Value,∀R:Value,∀w:World,g w→r u w→v z w→D A w→o l w→B m w→s C w→E W w→n y w→t p w→H R w→
   Q1 b.1 true w (Q3 P .neq T.b (.tmp 63) (.tmp 68) W R) fun ac w=>
   pick P b.1 ac (.bool false) w fun aa w=>
   Q3 P .add T.e (.tmp 55) (.const (.int .i64 1)) b.2 (.int .i64 1) w fun ae w=>
   f (aa,ae) w) (
   Q3 P .add T.e (.tmp 31) (.const (.int .i64 1)) (I i) (.int .i64 1) w fun M w=>
   (Sj N U (b.1,M) w∧Ww N (b.1,M)<m0)):=by
 have am:=g1.max
 refine D3 (a:=Value.bool ok) i (fun k x w'=> ∃σ',Stp w1 σ1 w' σ'∧x=Value.bool (ok&&(List.range k).all (I6 c i))) ⟨σ1,Stp.refl af,by simp⟩ fun k x w2 d hk Q=>?_
 obtain ⟨σ2,j,rfl⟩:=Q
 have ap:=hq.up j
 have V:=g1.up j
 have ah:=j.sat
 refine Z1 ?_
 refine Q6 (fun X=>?_) (fun X=>?_)
 ·have Y:k<i:=by simpa using X
  have O:k<c.like.length:=by omega
  have L:(ok&&(List.range (k+1)).all (I6 c i))=((ok&&(List.range k).all (I6 c i))&&I6 c i k):=by rw[Uy,Bool.and_assoc]
  have hQ:I6 c i k= !decide (c.like[k]=c.like[i]):=by unfold I6;rw[E7 O,E7 hi]
  rw[hQ] at L
  obtain ⟨p1,_⟩:=V.elS O
  obtain ⟨p2,_⟩:=V.elS hi
  generalize (ok&&(List.range k).all (I6 c i))=ab at L⊢
  clear h hQ X
  cases ab
  all_goals
   refine U8 ah ?_
   (repeat refine J5 P5 ?_)
   (intros;(repeat (rename_i hx;subst hx));(try simp only[↓M2,M2,Mb,reduceIte]))
   rename_i w3 Z
   exact Z6 (by omega) Y ⟨σ2,j.trans Z.stp,by rw[L];rfl⟩
 ·have ai:k=i:=by
   have: ¬k<i:=by simpa using X
   omega
  subst ai
  (try simp only[↓M1,M1,Mb,reduceIte])
  exact h _ _ j
set_option maxHeartbeats 4000000 in
theorem Q9C {c:Cla} {lv fv mv:Value} {w1:World} {σ1:Q5} {q:Addr} {ok:Bool} (hs1:X4 w1 σ1) (hq:Z3 σ1 q [S c.name,S c.super,lv, .bool c.iface, .bool c.abs, .bool c.fin,fv,mv]) {J:Value→World→Prop} (hn:c.name.length≤Z9) (g1:Sl 1 Y1 σ1 lv c.like)
 (h: ∀w' σ',Stp w1 σ1 w' σ'→J (.bool (ok&&(List.range c.like.length).all fun i=>Wd c i&&(List.range i).all (I6 c i))) w'):
 lp (α:=Value×Value) (Value.bool ok,(.int .i64 0)) w1 fun again4 x4 d_ w=>
 fieldAddr P T.a (.pointer (some q)) 2 w fun t27 w=>
 Q2 P T.c t27 w fun t28 w=>
 X5 P .len [T.c] T.e [false] [t28] w fun t29 w=>
 Q3 P .lss T.e (.tmp 26) (.tmp 29) x4.2 t29 w fun t30 w=>
 X1 t30 (
  dr w fun Tr Br=>
  Q7 Tr (fun φ35=> ∀w:World,Br w→Q1 x4.1 true w (fieldAddr P T.a (.pointer (some q)) 2) (dk Tr φ35 w)) fun φ35=>
  Q7 Tr (fun φ37=> ∀w:World,Br w→Q1 x4.1 true w (fun w J=>J x4.2 w) (dk Tr φ37 w)) fun φ37=>
  Q7 Tr (fun φ36=> ∀t35:Value,∀w:World,Br w→φ35 t35 w→Q1 x4.1 true w (Q2 P T.c t35) (dk Tr φ36 w)) fun φ36=>
  Q7 Tr (fun φ38=> ∀t36:Value,∀t37:Value,∀w:World,Br w→φ36 t36 w→φ37 t37 w→Q1 x4.1 true w (indexAddr P T.c t36 t37) (dk Tr φ38 w)) fun φ38=>
  Q7 Tr (fun φ39=> ∀t38:Value,∀w:World,Br w→φ38 t38 w→Q1 x4.1 true w (Q2 P T.b t38) (dk Tr φ39 w)) fun φ39=>
  Q7 Tr (fun φ40=> ∀t39:Value,∀w:World,Br w→φ39 t39 w→Q1 x4.1 true w (Q0 P F.e [t39]) (dk Tr φ40 w)) fun φ40=>
  Q7 Tr (fun φ41=> ∀t40:Value,∀w:World,Br w→φ40 t40 w→pick P x4.1 t40 (.bool false) w (dk Tr φ41 w)) fun φ41=>
  Q7 Tr (fun φ43=> ∀t41:Value,∀w:World,Br w→φ41 t41 w→Q1 t41 true w (fieldAddr P T.a (.pointer (some q)) 2) (dk Tr φ43 w)) fun φ43=>
  Q7 Tr (fun φ45=> ∀t41:Value,∀w:World,Br w→φ41 t41 w→Q1 t41 true w (fun w J=>J x4.2 w) (dk Tr φ45 w)) fun φ45=>
  Q7 Tr (fun φ48=> ∀t41:Value,∀w:World,Br w→φ41 t41 w→Q1 t41 true w (fieldAddr P T.a (.pointer (some q)) 0) (dk Tr φ48 w)) fun φ48=>
  Q7 Tr (fun φ44=> ∀t41:Value,∀t43:Value,∀w:World,Br w→φ41 t41 w→φ43 t43 w→Q1 t41 true w (Q2 P T.c t43) (dk Tr φ44 w)) fun φ44=>
  Q7 Tr (fun φ46=> ∀t41:Value,∀t44:Value,∀t45:Value,∀w:World,Br w→φ41 t41 w→φ44 t44 w→φ45 t45 w→Q1 t41 true w (indexAddr P T.c t44 t45) (dk Tr φ46 w)) fun φ46=>
  Q7 Tr (fun φ47=> ∀t41:Value,∀t46:Value,∀w:World,Br w→φ41 t41 w→φ46 t46 w→Q1 t41 true w (Q2 P T.b t46) (dk Tr φ47 w)) fun φ47=>
  Q7 Tr (fun φ49=> ∀t41:Value,∀t48:Value,∀w:World,Br w→φ41 t41 w→φ48 t48 w→Q1 t41 true w (Q2 P T.b t48) (dk Tr φ49 w)) fun φ49=>
  ∀t35:Value,∀t37:Value,∀t36:Value,∀t38:Value,∀t39:Value,∀t40:Value,∀t41:Value,∀t43:Value,∀t45:Value,∀t48:Value,∀t44:Value,∀t46:Value,∀t47:Value,∀t49:Value,∀w:World,Br w→φ35 t35 w→φ37 t37 w→φ36 t36 w→φ38 t38 w→φ39 t39 w→φ40 t40 w→φ41 t41 w→φ43 t43 w→φ45 t45 w→φ48 t48 w→φ44 t44 w→φ46 t46 w→φ47 t47 w→φ49 t49 w→
  Q1 t41 true w (Q3 P .neq T.b (.tmp 47) (.tmp 49) t47 t49) fun t50 w=>
  pick P t41 t50 (.bool false) w fun t51 w=>
  lp (α:=Value×Value) (t51,(.int .i64 0)) w fun again10 x10 d_ w=>
   Q3 P .lss T.e (.tmp 52) (.tmp 53) x10.2 x4.2 w fun t54 w=>
   X1 t54 (
    dr w fun Tr Br=>
    Q7 Tr (fun φ59=> ∀w:World,Br w→Q1 x10.1 true w (fieldAddr P T.a (.pointer (some q)) 2) (dk Tr φ59 w)) fun φ59=>
    Q7 Tr (fun φ61=> ∀w:World,Br w→Q1 x10.1 true w (fun w J=>J x10.2 w) (dk Tr φ61 w)) fun φ61=>
    Q7 Tr (fun φ64=> ∀w:World,Br w→Q1 x10.1 true w (fieldAddr P T.a (.pointer (some q)) 2) (dk Tr φ64 w)) fun φ64=>
    Q7 Tr (fun φ66=> ∀w:World,Br w→Q1 x10.1 true w (fun w J=>J x4.2 w) (dk Tr φ66 w)) fun φ66=>
    Q7 Tr (fun φ60=> ∀t59:Value,∀w:World,Br w→φ59 t59 w→Q1 x10.1 true w (Q2 P T.c t59) (dk Tr φ60 w)) fun φ60=>
    Q7 Tr (fun φ62=> ∀t60:Value,∀t61:Value,∀w:World,Br w→φ60 t60 w→φ61 t61 w→Q1 x10.1 true w (indexAddr P T.c t60 t61) (dk Tr φ62 w)) fun φ62=>
    Q7 Tr (fun φ63=> ∀t62:Value,∀w:World,Br w→φ62 t62 w→Q1 x10.1 true w (Q2 P T.b t62) (dk Tr φ63 w)) fun φ63=>
    Q7 Tr (fun φ65=> ∀t64:Value,∀w:World,Br w→φ64 t64 w→Q1 x10.1 true w (Q2 P T.c t64) (dk Tr φ65 w)) fun φ65=>
    Q7 Tr (fun φ67=> ∀t65:Value,∀t66:Value,∀w:World,Br w→φ65 t65 w→φ66 t66 w→Q1 x10.1 true w (indexAddr P T.c t65 t66) (dk Tr φ67 w)) fun φ67=>
    Q7 Tr (fun φ68=> ∀t67:Value,∀w:World,Br w→φ67 t67 w→Q1 x10.1 true w (Q2 P T.b t67) (dk Tr φ68 w)) fun φ68=>
    ∀t59:Value,∀t61:Value,∀t64:Value,∀t66:Value,∀t60:Value,∀t62:Value,∀t63:Value,∀t65:Value,∀t67:Value,∀t68:Value,∀w:World,Br w→φ59 t59 w→φ61 t61 w→φ64 t64 w→φ66 t66 w→φ60 t60 w→φ62 t62 w→φ63 t63 w→φ65 t65 w→φ67 t67 w→φ68 t68 w→
    Q1 x10.1 true w (Q3 P .neq T.b (.tmp 63) (.tmp 68) t63 t68) fun t69 w=>
    pick P x10.1 t69 (.bool false) w fun t70 w=>
    Q3 P .add T.e (.tmp 55) (.const (.int .i64 1)) x10.2 (.int .i64 1) w fun t56 w=>
    again10 (t70,t56) w) (
    Q3 P .add T.e (.tmp 31) (.const (.int .i64 1)) x4.2 (.int .i64 1) w fun t32 w=>
    again4 (x10.1,t32) w)) (
  J x4.1 w):=by
 have hmax:=g1.max
 refine D3 (a:=Value.bool ok) c.like.length (fun n x w'=> ∃σ',Stp w1 σ1 w' σ'∧x=Value.bool (ok&&(List.range n).all fun i=>Wd c i&&(List.range i).all (I6 c i))) ⟨σ1,Stp.refl hs1,by simp⟩ fun n x w2 d hn2 hinv=>?_
 obtain ⟨σ2,hk2,rfl⟩:=hinv
 have hq2:=hq.up hk2
 have g12:=g1.up hk2
 have hs2:=hk2.sat
 (repeat refine Hd.h ?_)
 refine ld hs2 hq2 rfl ?_
 refine Q8 g12 ?_
 refine Z1 ?_
 refine Q6 (fun hc=>?_) (fun hc=>?_)
 ·have hn':n<c.like.length:=by simpa using hc
  have hnx:(ok&&(List.range (n+1)).all fun i=>Wd c i&&(List.range i).all (I6 c i))=((ok&&(List.range n).all fun i=>Wd c i&&(List.range i).all (I6 c i))&&(Wd c n&&(List.range n).all (I6 c n))):=by rw[Uy,Bool.and_assoc]
  have hP:Wd c n=(W7 c.like[n]&& !decide (c.like[n]=c.name)):=by unfold Wd;rw[E7 hn']
  obtain ⟨p1,p2⟩:=g12.elS hn'
  have p2:c.like[n].length≤140737488355328:=by simp only[Z9] at p2;omega
  generalize (ok&&(List.range n).all fun i=>Wd c i&&(List.range i).all (I6 c i))=acc at hnx⊢
  clear h hc
  cases hacc:acc with
  | false=>
   refine U8 hs2 ?_
   (repeat refine J5 P5 ?_)
   intros;(repeat (rename_i hx;subst hx))
   rename_i w3 hb3
   (repeat refine Hd.h ?_)
   refine Q2u hb3.sat hq2 g12 hn' fun w4 σ4 hk4=>?_
   exact Z6 hmax hn' ⟨σ4,hk2.trans (hb3.stp.trans hk4),by rw[hnx,hacc];rfl⟩
  | true=>
   cases hcl:W7 c.like[n] with
   | false=>
    refine U8 hs2 ?_
    have hrc: ∀{w':World} {K:Value→World→Prop},K (.bool false) w'→Q0 P F.e [S c.like[n]] w' K:=fun hK=>Qs _ p2 (by rw[hcl];exact hK)
    (repeat (apply J5;(· intros;(repeat (rename_i hx;subst hx));(repeat' (first | (with_reducible exact M5 rfl) | (with_reducible exact Qf (Stp.bel (by (repeat (first | exact Stp.refl (by (first | assumption | exact Stp.sat (by assumption) | exact Hst.sat (by assumption))) | assumption | refine Stp.trans ?_ (by first | assumption | exact Hst.stp (by assumption)))))) rfl) | (with_reducible intro _) | (simp only[↓M2,M2,Mb,reduceIte]) | (with_reducible refine hrc ?_) | (with_reducible show Q2 _ _ _ _ _;first | refine X8 aS aL aR ?_ | refine Y9 aS aL aR ?_ | refine ld aS aL aR ?_) | (with_reducible show indexAddr _ _ _ _ _ _;refine J0 aL au ?_) | (with_reducible show X5 _ _ _ _ _ _ _ _;refine Q8 aL ?_) | (with_reducible show Ut _ _ _ _ _ _;refine V3 aR ?_) | (with_reducible show pick _ _ _ _ _ _;refine Zq ?_) | (apply Jv;intro hh;(try simp only[hh,reduceIte,↓M2,M2,Mb,reduceIte]))));done)))
    intros;(repeat (rename_i hx;subst hx))
    rename_i w3 hb3
    (repeat refine Hd.h ?_)
    refine Q2u hb3.sat hq2 g12 hn' fun w4 σ4 hk4=>?_
    exact Z6 hmax hn' ⟨σ4,hk2.trans (hb3.stp.trans hk4),by rw[hnx,hacc,hP,hcl];rfl⟩
   | true=>
    refine U8 hs2 ?_
    have hrc: ∀{w':World} {K:Value→World→Prop},K (.bool true) w'→Q0 P F.e [S c.like[n]] w' K:=fun hK=>Qs _ p2 (by rw[hcl];exact hK)
    (repeat (apply J5;(· intros;(repeat (rename_i hx;subst hx));(repeat' (first | (with_reducible exact M5 rfl) | (with_reducible exact Qf (Stp.bel (by (repeat (first | exact Stp.refl (by (first | assumption | exact Stp.sat (by assumption) | exact Hst.sat (by assumption))) | assumption | refine Stp.trans ?_ (by first | assumption | exact Hst.stp (by assumption)))))) rfl) | (with_reducible intro _) | (simp only[↓M2,M2,Mb,reduceIte]) | (with_reducible refine hrc ?_) | (with_reducible show Q2 _ _ _ _ _;first | refine X8 aS aL aR ?_ | refine Y9 aS aL aR ?_ | refine ld aS aL aR ?_) | (with_reducible show indexAddr _ _ _ _ _ _;refine J0 aL au ?_) | (with_reducible show X5 _ _ _ _ _ _ _ _;refine Q8 aL ?_) | (with_reducible show Ut _ _ _ _ _ _;refine V3 aR ?_) | (with_reducible show pick _ _ _ _ _ _;refine Zq ?_) | (apply Jv;intro hh;(try simp only[hh,reduceIte,↓M2,M2,Mb,reduceIte]))));done)))
    intros;(repeat (rename_i hx;subst hx))
    rename_i w3 hb3
    (repeat refine Hd.h ?_)
    refine Wo ?_
    (repeat refine Hd.h ?_)
    refine Q2u hb3.sat hq2 g12 hn' fun w4 σ4 hk4=>?_
    exact Z6 hmax hn' ⟨σ4,hk2.trans (hb3.stp.trans hk4),by rw[hnx,hacc,hP,hcl];simp⟩
 ·have hn': ¬n<c.like.length:=by simpa using hc
  obtain rfl:n=c.like.length:=by omega
  exact h _ _ hk2
set_option maxHeartbeats 2000000 in
theorem Q1s {c:Cla} {lv fv mv:Value} {w1:World} {σ1:Q5} {q:Addr} {ok:Bool} (ak:X4 w1 σ1) (hq:Z3 σ1 q [S c.name,S c.super,lv, .bool c.iface, .bool c.abs, .bool c.fin,fv,mv]) {i:Nat} {N m0:Nat} {ac:Nat→Value→World→Prop} (g2:Sl 3 E2 σ1 fv c.fields) (hi:i<c.fields.length)
 (h: ∀w' σ',Stp w1 σ1 w' σ'→Sj N ac (Value.bool (ok&&(List.range i).all (Qn c i)), .int .i64 (IntKind.i64.wrap (i+1))) w'∧Ww N (Value.bool (ok&&(List.range i).all (Qn c i)), .int .i64 (IntKind.i64.wrap (i+1)))<m0):
 lp (α:=Value×Value) (Value.bool ok,(.int .i64 0)) w1 fun O b d_ w=>
  Q3 P .lss T.e (.tmp 102) (.tmp 103) b.2 (I i) w fun ae w=>
  X1 ae (
   dr w fun e H=>
   Q7 e (fun t=> ∀w:World,H w→Q1 b.1 true w (fieldAddr P T.a (.pointer (some q)) 6) (dk e t w)) fun t=>
   Q7 e (fun v=> ∀w:World,H w→Q1 b.1 true w (fun w J=>J b.2 w) (dk e v w)) fun v=>
   Q7 e (fun o=> ∀w:World,H w→Q1 b.1 true w (fieldAddr P T.a (.pointer (some q)) 6) (dk e o w)) fun o=>
   Q7 e (fun r=> ∀w:World,H w→Q1 b.1 true w (fun w J=>J (I i) w) (dk e r w)) fun r=>
   Q7 e (fun l=> ∀m:Value,∀w:World,H w→t m w→Q1 b.1 true w (Q2 P T.i m) (dk e l w)) fun l=>
   Q7 e (fun E=> ∀g:Value,∀p:Value,∀w:World,H w→l g w→v p w→Q1 b.1 true w (indexAddr P T.i g p) (dk e E w)) fun E=>
   Q7 e (fun s=> ∀C:Value,∀w:World,H w→E C w→Q1 b.1 true w (fieldAddr P T.k C 0) (dk e s w)) fun s=>
   Q7 e (fun L=> ∀j:Value,∀w:World,H w→s j w→Q1 b.1 true w (Q2 P T.b j) (dk e L w)) fun L=>
   Q7 e (fun u=> ∀y:Value,∀w:World,H w→o y w→Q1 b.1 true w (Q2 P T.i y) (dk e u w)) fun u=>
   Q7 e (fun f=> ∀D:Value,∀B:Value,∀w:World,H w→u D w→r B w→Q1 b.1 true w (indexAddr P T.i D B) (dk e f w)) fun f=>
   Q7 e (fun A=> ∀z:Value,∀w:World,H w→f z w→Q1 b.1 true w (fieldAddr P T.k z 0) (dk e A w)) fun A=>
   Q7 e (fun Q=> ∀n:Value,∀w:World,H w→A n w→Q1 b.1 true w (Q2 P T.b n) (dk e Q w)) fun Q=>
   ∀m:Value,∀p:Value,∀y:Value,∀B:Value,∀g:Value,∀C:Value,∀j:Value,∀U:Value,∀D:Value,∀z:Value,∀n:Value,∀R:Value,∀w:World,H w→t m w→v p w→o y w→r B w→l g w→E C w→s j w→L U w→u D w→f z w→A n w→Q R w→
   Q1 b.1 true w (Q3 P .neq T.b (.tmp 114) (.tmp 120) U R) fun X w=>
   pick P b.1 X (.bool false) w fun W w=>
   Q3 P .add T.e (.tmp 105) (.const (.int .i64 1)) b.2 (.int .i64 1) w fun Y w=>
   O (W,Y) w) (
   Q3 P .add T.e (.tmp 76) (.const (.int .i64 1)) (I i) (.int .i64 1) w fun ad w=>
   (Sj N ac (b.1,ad) w∧Ww N (b.1,ad)<m0)):=by
 have av:=g2.max
 refine D3 (a:=Value.bool ok) i (fun k x w'=> ∃σ',Stp w1 σ1 w' σ'∧x=Value.bool (ok&&(List.range k).all (Qn c i))) ⟨σ1,Stp.refl ak,by simp⟩ fun k x w2 d hk ab=>?_
 obtain ⟨σ2,M,rfl⟩:=ab
 have aw:=hq.up M
 have Z:=g2.up M
 have al:=M.sat
 refine Z1 ?_
 refine Q6 (fun hc=>?_) (fun hc=>?_)
 ·have ag:k<i:=by simpa using hc
  have aa:k<c.fields.length:=by omega
  have V:(ok&&(List.range (k+1)).all (Qn c i))=((ok&&(List.range k).all (Qn c i))&&Qn c i k):=by rw[Uy,Bool.and_assoc]
  have hQ:Qn c i k= !decide (c.fields[k].name=c.fields[i].name):=by unfold Qn Rj;rw[E7 aa,E7 hi]
  rw[hQ] at V
  obtain ⟨p1,_⟩:=Z.elF aa
  obtain ⟨p2,_⟩:=Z.elF hi
  generalize (ok&&(List.range k).all (Qn c i))=ai at V⊢
  clear h hQ hc
  cases ai
  all_goals
   refine U8 al ?_
   (repeat refine J5 P5 ?_)
   (intros;(repeat (rename_i hx;subst hx));(try simp only[↓M2,M2,Mb,reduceIte]))
   rename_i w3 ah
   exact Z6 (by omega) ag ⟨σ2,M.trans ah.stp,by rw[V];rfl⟩
 ·have am:k=i:=by
   have: ¬k<i:=by simpa using hc
   omega
  subst am
  (try simp only[↓M1,M1,Mb,reduceIte])
  exact h _ _ M
set_option maxHeartbeats 4000000 in
theorem X0S {c:Cla} {lv fv mv:Value} {w1:World} {σ1:Q5} {q:Addr} {ok:Bool} (be:X4 w1 σ1) (hq:Z3 σ1 q [S c.name,S c.super,lv, .bool c.iface, .bool c.abs, .bool c.fin,fv,mv]) {J:Value→World→Prop} (g2:Sl 3 E2 σ1 fv c.fields)
 (h: ∀w' σ',Stp w1 σ1 w' σ'→J (.bool (ok&&(List.range c.fields.length).all fun i=>Nk c i&&(List.range i).all (Qn c i))) w'):
 lp (
  α:=Value×Value) (Value.bool ok,(.int .i64 0)) w1 fun ad g d_ w=>
  fieldAddr P T.a (.pointer (some q)) 6 w fun ba w=>
  Q2 P T.i ba w fun bf w=>
  X5 P .len [T.i] T.e [false] [bf] w fun aw w=>
  Q3 P .lss T.e (.tmp 71) (.tmp 74) g.2 aw w fun ar w=>
  X1 ar (
   Q1 g.1 true w (fieldAddr P T.a (.pointer (some q)) 6) fun a5 w=>
   Q1 g.1 true w (Q2 P T.i a5) fun ax w=>
   Q1 g.1 true w (fun w J=>J g.2 w) fun a7 w=>
   Q1 g.1 true w (indexAddr P T.i ax a7) fun a2 w=>
   Q1 g.1 true w (fieldAddr P T.k a2 0) fun a6 w=>
   Q1 g.1 true w (Q2 P T.b a6) fun bh w=>
   Q1 g.1 true w (Q0 P F.t [bh]) fun az w=>
   pick P g.1 az (.bool false) w fun o w=>
   Q1 o true w (fieldAddr P T.a (.pointer (some q)) 6) fun bj w=>
   Q1 o true w (Q2 P T.i bj) fun av w=>
   Q1 o true w (fun w J=>J g.2 w) fun a8 w=>
   Q1 o true w (indexAddr P T.i av a8) fun a1 w=>
   Q1 o true w (fieldAddr P T.k a1 1) fun bi w=>
   Q1 o true w (Q2 P T.b bi) fun a0 w=>
   Q1 o true w (Q0 P F.i [a0]) fun a9 w=>
   pick P o a9 (.bool false) w fun ae w=>
   Q1 ae true w (fieldAddr P T.a (.pointer (some q)) 3) fun a4 w=>
   Q1 ae true w (Q2 P T.m a4) fun bb w=>
   Q1 ae true w (Z8 P .not bb) fun ap w=>
   pick P ae ap (.bool false) w fun aj w=>
   lp (α:=Value×Value) (aj,(.int .i64 0)) w fun ab f d_ w=>
    Q3 P .lss T.e (.tmp 102) (.tmp 103) f.2 g.2 w fun ao w=>
    X1 ao (
     dr w fun k Y=>
     Q7 k (fun H=> ∀w:World,Y w→Q1 f.1 true w (fieldAddr P T.a (.pointer (some q)) 6) (dk k H w)) fun H=>
     Q7 k (fun M=> ∀w:World,Y w→Q1 f.1 true w (fun w J=>J f.2 w) (dk k M w)) fun M=>
     Q7 k (fun B=> ∀w:World,Y w→Q1 f.1 true w (fieldAddr P T.a (.pointer (some q)) 6) (dk k B w)) fun B=>
     Q7 k (fun D=> ∀w:World,Y w→Q1 f.1 true w (fun w J=>J g.2 w) (dk k D w)) fun D=>
     Q7 k (fun y=> ∀z:Value,∀w:World,Y w→H z w→Q1 f.1 true w (Q2 P T.i z) (dk k y w)) fun y=>
     Q7 k (fun X=> ∀u:Value,∀C:Value,∀w:World,Y w→y u w→M C w→Q1 f.1 true w (indexAddr P T.i u C) (dk k X w)) fun X=>
     Q7 k (fun E=> ∀V:Value,∀w:World,Y w→X V w→Q1 f.1 true w (fieldAddr P T.k V 0) (dk k E w)) fun E=>
     Q7 k (fun aa=> ∀v:Value,∀w:World,Y w→E v w→Q1 f.1 true w (Q2 P T.b v) (dk k aa w)) fun aa=>
     Q7 k (fun L=> ∀O:Value,∀w:World,Y w→B O w→Q1 f.1 true w (Q2 P T.i O) (dk k L w)) fun L=>
     Q7 k (fun t=> ∀W:Value,∀U:Value,∀w:World,Y w→L W w→D U w→Q1 f.1 true w (indexAddr P T.i W U) (dk k t w)) fun t=>
     Q7 k (fun R=> ∀Q:Value,∀w:World,Y w→t Q w→Q1 f.1 true w (fieldAddr P T.k Q 0) (dk k R w)) fun R=>
     Q7 k (fun ac=> ∀A:Value,∀w:World,Y w→R A w→Q1 f.1 true w (Q2 P T.b A) (dk k ac w)) fun ac=>
     ∀z:Value,∀C:Value,∀O:Value,∀U:Value,∀u:Value,∀V:Value,∀v:Value,∀ag:Value,∀W:Value,∀Q:Value,∀A:Value,∀af:Value,∀w:World,Y w→H z w→M C w→B O w→D U w→y u w→X V w→E v w→aa ag w→L W w→t Q w→R A w→ac af w→
     Q1 f.1 true w (Q3 P .neq T.b (.tmp 114) (.tmp 120) ag af) fun al w=>
     pick P f.1 al (.bool false) w fun ak w=>
     Q3 P .add T.e (.tmp 105) (.const (.int .i64 1)) f.2 (.int .i64 1) w fun am w=>
     ab (ak,am) w) (
     Q3 P .add T.e (.tmp 76) (.const (.int .i64 1)) g.2 (.int .i64 1) w fun bg w=>
     ad (f.1,bg) w)) (
   J g.1 w):=by
 have N:=g2.max
 refine D3 (a:=Value.bool ok) c.fields.length (fun n x w'=> ∃σ',Stp w1 σ1 w' σ'∧x=Value.bool (ok&&(List.range n).all fun i=>Nk c i&&(List.range i).all (Qn c i))) ⟨σ1,Stp.refl be,by simp⟩ fun n x w2 d bp an=>?_
 obtain ⟨σ2,r,rfl⟩:=an
 have m:=hq.up r
 have p:=g2.up r
 have l:=r.sat
 (repeat refine Hd.h ?_)
 refine ld l m rfl ?_
 refine Q8 p ?_
 refine Z1 ?_
 refine Q6 (fun hc=>?_) (fun hc=>?_)
 ·have j:n<c.fields.length:=by simpa using hc
  have Z:(ok&&(List.range (n+1)).all fun i=>Nk c i&&(List.range i).all (Qn c i))=((ok&&(List.range n).all fun i=>Nk c i&&(List.range i).all (Qn c i))&&(Nk c n&&(List.range n).all (Qn c n))):=by rw[Uy,Bool.and_assoc]
  have hP:Nk c n=(L9 c.fields[n].name&&right c.fields[n].kind&& !c.iface):=by unfold Nk Rj;rw[E7 j]
  obtain ⟨p1,r1⟩:=p.elF j
  have b1:c.fields[n].name.length≤140737488355328:=by have:=r1.2.1;simp only[Z9] at this;omega
  have b2:c.fields[n].kind.length≤140737488355328:=by have:=r1.2.2;simp only[Z9] at this;omega
  generalize (ok&&(List.range n).all fun i=>Nk c i&&(List.range i).all (Qn c i))=ah at Z⊢
  clear h hc
  have step: ∀b,b=(ah&&Nk c n)→(ah&&(Nk c n&&(List.range n).all (Qn c n)))=(b&&(List.range n).all (Qn c n)):=fun b e=>by rw[e,Bool.and_assoc]
  cases ah with
  | false=>
   (repeat refine Hd.h ?_)
   refine Q1s l m p j fun w4 σ4 s=>?_
   exact Z6 N j ⟨σ4,r.trans s,by rw[Z];rfl⟩
  | true=>
   (repeat refine Hd.h ?_)
   refine ld l m rfl ?_
   (repeat refine Hd.h ?_)
   refine J0 p j ?_
   (repeat refine Hd.h ?_)
   refine ld l p1 rfl ?_
   (repeat refine Hd.h ?_)
   refine Bh _ b1 ?_
   cases d1:L9 c.fields[n].name with
   | false=>
    (repeat refine Hd.h ?_)
    refine Q1s l m p j fun w4 σ4 s=>?_
    exact Z6 N j ⟨σ4,r.trans s,by rw[Z,step false (by rw[hP,d1];rfl)]⟩
   | true=>
    (repeat refine Hd.h ?_)
    refine ld l m rfl ?_
    (repeat refine Hd.h ?_)
    refine J0 p j ?_
    (repeat refine Hd.h ?_)
    refine ld l p1 rfl ?_
    (repeat refine Hd.h ?_)
    refine Vb _ b2 ?_
    cases d2:right c.fields[n].kind with
    | false=>
     (repeat refine Hd.h ?_)
     refine Q1s l m p j fun w4 σ4 s=>?_
     exact Z6 N j ⟨σ4,r.trans s,by rw[Z,step false (by rw[hP,d1,d2];rfl)]⟩
    | true=>
     (repeat refine Hd.h ?_)
     refine ld l m rfl ?_
     (repeat refine Hd.h ?_)
     refine Q1s l m p j fun w4 σ4 s=>?_
     exact Z6 N j ⟨σ4,r.trans s,by rw[Z,step (!c.iface) (by rw[hP,d1,d2];rfl)]⟩
 ·have j: ¬n<c.fields.length:=by simpa using hc
  obtain rfl:n=c.fields.length:=by omega
  exact h _ _ r
set_option maxHeartbeats 2000000 in
theorem Eh {c:Cla} {lv fv mv:Value} {w1:World} {σ1:Q5} {q:Addr} {ok:Bool} (ac:X4 w1 σ1) (hq:Z3 σ1 q [S c.name,S c.super,lv, .bool c.iface, .bool c.abs, .bool c.fin,fv,mv]) {i:Nat} {q9:Addr} {pv cv hv:Value} {N m0:Nat} {V:Nat→Value→World→Prop} (g3:Sl 7 M6 σ1 mv c.methods) (hi:i<c.methods.length) (ad:Z3 σ1 q9 [S c.methods[i].name,pv,S c.methods[i].result, .bool c.methods[i].abs,I c.methods[i].locals,cv,hv])
 (h: ∀w' σ',Stp w1 σ1 w' σ'→Sj N V (Value.bool (ok&&(List.range i).all (Qo c i)), .int .i64 (IntKind.i64.wrap (i+1))) w'∧Ww N (Value.bool (ok&&(List.range i).all (Qo c i)), .int .i64 (IntKind.i64.wrap (i+1)))<m0):
 lp (α:=Value×Value) (Value.bool ok,(.int .i64 0)) w1 fun z b d_ w=>
  Q3 P .lss T.e (.tmp 158) (.tmp 159) b.2 (I i) w fun R w=>
  X1 R (
   dr w fun e B=>
   Q7 e (fun j=> ∀w:World,B w→Q1 b.1 true w (fieldAddr P T.a (.pointer (some q)) 7) (dk e j w)) fun j=>
   Q7 e (fun t=> ∀w:World,B w→Q1 b.1 true w (fun w J=>J b.2 w) (dk e t w)) fun t=>
   Q7 e (fun s=> ∀w:World,B w→Q1 b.1 true w (fieldAddr P T.d (.pointer (some q9)) 0) (dk e s w)) fun s=>
   Q7 e (fun f=> ∀u:Value,∀w:World,B w→j u w→Q1 b.1 true w (Q2 P T.g u) (dk e f w)) fun f=>
   Q7 e (fun n=> ∀g:Value,∀l:Value,∀w:World,B w→f g w→t l w→Q1 b.1 true w (indexAddr P T.g g l) (dk e n w)) fun n=>
   Q7 e (fun r=> ∀m:Value,∀w:World,B w→n m w→Q1 b.1 true w (fieldAddr P T.d m 0) (dk e r w)) fun r=>
   Q7 e (fun y=> ∀o:Value,∀w:World,B w→r o w→Q1 b.1 true w (Q2 P T.b o) (dk e y w)) fun y=>
   Q7 e (fun A=> ∀p:Value,∀w:World,B w→s p w→Q1 b.1 true w (Q2 P T.b p) (dk e A w)) fun A=>
   ∀u:Value,∀l:Value,∀p:Value,∀g:Value,∀m:Value,∀o:Value,∀E:Value,∀C:Value,∀w:World,B w→j u w→t l w→s p w→f g w→n m w→r o w→y E w→A C w→
   Q1 b.1 true w (Q3 P .neq T.b (.tmp 170) (.tmp 172) E C) fun O w=>
   pick P b.1 O (.bool false) w fun L w=>
   Q3 P .add T.e (.tmp 161) (.const (.int .i64 1)) b.2 (.int .i64 1) w fun M w=>
   z (L,M) w) (
   Q3 P .add T.e (.tmp 128) (.const (.int .i64 1)) (I i) (.int .i64 1) w fun D w=>
   (Sj N V (b.1,D) w∧Ww N (b.1,D)<m0)):=by
 have aj:=g3.max
 refine D3 (a:=Value.bool ok) i (fun k x w'=> ∃σ',Stp w1 σ1 w' σ'∧x=Value.bool (ok&&(List.range k).all (Qo c i))) ⟨σ1,Stp.refl ac,by simp⟩ fun k x w2 d hk U=>?_
 obtain ⟨σ2,v,rfl⟩:=U
 have an:=hq.up v
 have ak:=ad.up v
 have aa:=g3.up v
 have ae:=v.sat
 refine Z1 ?_
 refine Q6 (fun W=>?_) (fun W=>?_)
 ·have X:k<i:=by simpa using W
  have Q:k<c.methods.length:=by omega
  have H:(ok&&(List.range (k+1)).all (Qo c i))=((ok&&(List.range k).all (Qo c i))&&Qo c i k):=by rw[Uy,Bool.and_assoc]
  have hQ:Qo c i k= !decide (c.methods[k].name=c.methods[i].name):=by unfold Qo Dk;rw[E7 Q,E7 hi]
  rw[hQ] at H
  obtain ⟨ax,ar,aw,p1,_⟩:=aa.elM Q
  generalize (ok&&(List.range k).all (Qo c i))=Z at H⊢
  clear h hQ W
  cases Z
  all_goals
   refine U8 ae ?_
   (repeat refine J5 P5 ?_)
   (intros;(repeat (rename_i hx;subst hx));(try simp only[↓M2,M2,Mb,reduceIte]))
   rename_i w3 Y
   exact Z6 (by omega) X ⟨σ2,v.trans Y.stp,by rw[H];rfl⟩
 ·have af:k=i:=by
   have: ¬k<i:=by simpa using W
   omega
  subst af
  (try simp only[↓M1,M1,Mb,reduceIte])
  exact h _ _ v
set_option maxHeartbeats 4000000 in
theorem X1r {c:Cla} {lv fv mv:Value} {w1:World} {σ1:Q5} {q:Addr} {ok:Bool} (bv:X4 w1 σ1) (hq:Z3 σ1 q [S c.name,S c.super,lv, .bool c.iface, .bool c.abs, .bool c.fin,fv,mv]) {J:Value→World→Prop} (g3:Sl 7 M6 σ1 mv c.methods)
 (h: ∀w' σ',Stp w1 σ1 w' σ'→J (.bool (ok&&(List.range c.methods.length).all fun i=>Lb c i&&(List.range i).all (Qo c i))) w'):
 lp (α:=Value×Value) (Value.bool ok,(.int .i64 0)) w1 fun aa u d_ w=>
  fieldAddr P T.a (.pointer (some q)) 7 w fun ba w=>
  Q2 P T.g ba w fun a5 w=>
  X5 P .len [T.g] T.e [false] [a5] w fun a8 w=>
  Q3 P .lss T.e (.tmp 123) (.tmp 126) u.2 a8 w fun av w=>
  X1 av (
   fieldAddr P T.a (.pointer (some q)) 7 w fun ay w=>
   Q2 P T.g ay w fun a9 w=>
   indexAddr P T.g a9 u.2 w fun ar w=>
   Q2 P T.d ar w fun a3 w=>
   W4 P T.d w fun t9 w=>
   Z0 P T.d t9 a3 w fun _u w=>
   Q1 u.1 true w (Q2 P T.d t9) fun bj w=>
   Q1 u.1 true w (Q0 P F.y [bj]) fun bd w=>
   pick P u.1 bd (.bool false) w fun r w=>
   Q1 r true w (fieldAddr P T.d t9 3) fun a1 w=>
   Q1 r true w (Q2 P T.m a1) fun bc w=>
   Q1 r true w (Z8 P .not bc) fun aq w=>
   Q1 r true w (fun w J=>J aq w) fun W w=>
   Q1 W false w (fieldAddr P T.a (.pointer (some q)) 4) fun bf w=>
   Q1 W false w (Q2 P T.m bf) fun bn w=>
   Q1 r true w (pick P W (.bool true) bn) fun bi w=>
   pick P r bi (.bool false) w fun p w=>
   Q1 p true w (fieldAddr P T.a (.pointer (some q)) 3) fun a0 w=>
   Q1 p true w (Q2 P T.m a0) fun be w=>
   Q1 p true w (Z8 P .not be) fun aw w=>
   Q1 p true w (fun w J=>J aw w) fun Y w=>
   Q1 Y false w (fieldAddr P T.d t9 3) fun a7 w=>
   Q1 Y false w (Q2 P T.m a7) fun bm w=>
   Q1 p true w (pick P Y (.bool true) bm) fun bb w=>
   pick P p bb (.bool false) w fun bk w=>
   lp (α:=Value×Value) (bk,(.int .i64 0)) w fun X k d_ w=>
    Q3 P .lss T.e (.tmp 158) (.tmp 159) k.2 u.2 w fun a2 w=>
    X1 a2 (
     dr w fun y Br=>
     Q7 y (fun B=> ∀w:World,Br w→Q1 k.1 true w (fieldAddr P T.a (.pointer (some q)) 7) (dk y B w)) fun B=>
     Q7 y (fun M=> ∀w:World,Br w→Q1 k.1 true w (fun w J=>J k.2 w) (dk y M w)) fun M=>
     Q7 y (fun L=> ∀w:World,Br w→Q1 k.1 true w (fieldAddr P T.d t9 0) (dk y L w)) fun L=>
     Q7 y (fun z=> ∀Q:Value,∀w:World,Br w→B Q w→Q1 k.1 true w (Q2 P T.g Q) (dk y z w)) fun z=>
     Q7 y (fun E=> ∀A:Value,∀C:Value,∀w:World,Br w→z A w→M C w→Q1 k.1 true w (indexAddr P T.g A C) (dk y E w)) fun E=>
     Q7 y (fun H=> ∀D:Value,∀w:World,Br w→E D w→Q1 k.1 true w (fieldAddr P T.d D 0) (dk y H w)) fun H=>
     Q7 y (fun V=> ∀N:Value,∀w:World,Br w→H N w→Q1 k.1 true w (Q2 P T.b N) (dk y V w)) fun V=>
     Q7 y (fun ab=> ∀O:Value,∀w:World,Br w→L O w→Q1 k.1 true w (Q2 P T.b O) (dk y ab w)) fun ab=>
     ∀Q:Value,∀C:Value,∀O:Value,∀A:Value,∀D:Value,∀N:Value,∀aj:Value,∀ai:Value,∀w:World,Br w→B Q w→M C w→L O w→z A w→E D w→H N w→V aj w→ab ai w→
     Q1 k.1 true w (Q3 P .neq T.b (.tmp 170) (.tmp 172) aj ai) fun bh w=>
     pick P k.1 bh (.bool false) w fun ax w=>
     Q3 P .add T.e (.tmp 161) (.const (.int .i64 1)) k.2 (.int .i64 1) w fun bg w=>
     X (ax,bg) w) (
     Q3 P .add T.e (.tmp 128) (.const (.int .i64 1)) u.2 (.int .i64 1) w fun bl w=>
     aa (k.1,bl) w)) (
   J u.1 w):=by
 have o:=g3.max
 refine D3 (a:=Value.bool ok) c.methods.length (fun n x w'=> ∃σ',Stp w1 σ1 w' σ'∧x=Value.bool (ok&&(List.range n).all fun i=>Lb c i&&(List.range i).all (Qo c i))) ⟨σ1,Stp.refl bv,by simp⟩ fun n x w2 d b2 a4=>?_
 obtain ⟨σ2,ad,rfl⟩:=a4
 have an:=hq.up ad
 have ag:=g3.up ad
 have af:=ad.sat
 (repeat refine Hd.h ?_)
 refine ld af an rfl ?_
 refine Q8 ag ?_
 refine Z1 ?_
 refine Q6 (fun hc=>?_) (fun hc=>?_)
 ·have f:n<c.methods.length:=by simpa using hc
  have v:(ok&&(List.range (n+1)).all fun i=>Lb c i&&(List.range i).all (Qo c i))=((ok&&(List.range n).all fun i=>Lb c i&&(List.range i).all (Qo c i))&&(Lb c n&&(List.range n).all (Qo c n))):=by rw[Uy,Bool.and_assoc]
  have hP:Lb c n=(B3 c.methods[n]&&(!c.methods[n].abs||c.abs)&&(!c.iface||c.methods[n].abs)):=by unfold Lb Dk;rw[E7 f]
  obtain ⟨pv,cv,hv,p1,r1⟩:=ag.elM f
  generalize (ok&&(List.range n).all fun i=>Lb c i&&(List.range i).all (Qo c i))=ak at v⊢
  clear h hc
  have step: ∀b,b=(ak&&Lb c n)→(ak&&(Lb c n&&(List.range n).all (Qo c n)))=(b&&(List.range n).all (Qo c n)):=fun b e=>by rw[e,Bool.and_assoc]
  (repeat refine Hd.h ?_)
  refine ld af an rfl ?_
  refine J0 ag f ?_
  refine Y9 af p1 rfl ?_
  refine Y6 af (by rfl) rfl (Rep.one r1) fun q9 w3 σ3 Z am=>?_
  have ao:=Z.sat
  have bp:=an.up Z
  have az:=ag.up Z
  have r3:=RMe_lift r1 ⟨Z.le⟩
  have ah:=ad.trans Z
  cases ak with
  | false=>
   (repeat refine Hd.h ?_)
   refine Eh ao bp az f am fun w4 R l=>?_
   exact Z6 o f ⟨R,ah.trans l,by rw[v];rfl⟩
  | true=>
   (repeat refine Hd.h ?_)
   refine Y9 ao am rfl ?_
   (repeat refine Hd.h ?_)
   refine Q6E ao r3 fun w5 σ5 ac=>?_
   have m:=ac.sat
   have t:=bp.up ac
   have g:=am.up ac
   have U:=az.up ac
   have s:=ah.trans ac
   cases d1:B3 c.methods[n] with
   | false=>
    (repeat refine Hd.h ?_)
    refine Eh m t U f g fun w4 R l=>?_
    exact Z6 o f ⟨R,s.trans l,by rw[v,step false (by rw[hP,d1];rfl)]⟩
   | true=>
    (repeat refine Hd.h ?_)
    refine ld m g rfl ?_
    (repeat refine Hd.h ?_)
    have j: ∀b1:Bool,b1=(!c.methods[n].abs||c.abs)→Lb c n=(b1&&(!c.iface||c.methods[n].abs)):=fun b1 e=>by rw[hP,d1,e];rfl
    cases d2:c.methods[n].abs with
    | false=>
     rw[d2] at j g
     simp only[Bool.not_true,Bool.not_false]
     (repeat refine Hd.h ?_)
     refine ld m t rfl ?_
     (repeat refine Hd.h ?_)
     cases d4:c.iface with
     | false=>
      simp only[Bool.not_true,Bool.not_false]
      (repeat refine Hd.h ?_)
      refine Eh m t U f (by rw[d2];exact g) fun w4 R l=>?_
      exact Z6 o f ⟨R,s.trans l,by rw[v,step true (by rw[j true rfl,d4];rfl)]⟩
     | true=>
      simp only[Bool.not_true,Bool.not_false]
      (repeat refine Hd.h ?_)
      refine ld m g rfl ?_
      (repeat refine Hd.h ?_)
      refine Eh m t U f (by rw[d2];exact g) fun w4 R l=>?_
      exact Z6 o f ⟨R,s.trans l,by rw[v,step false (by rw[j true rfl,d4];rfl)]⟩
    | true=>
     rw[d2] at j g
     simp only[Bool.not_true,Bool.not_false]
     (repeat refine Hd.h ?_)
     refine ld m t rfl ?_
     cases d3:c.abs with
     | false=>
      (repeat refine Hd.h ?_)
      refine Eh m t U f (by rw[d2];exact g) fun w4 R l=>?_
      exact Z6 o f ⟨R,s.trans l,by rw[v,step false (by rw[j false (by rw[d3];rfl)];rfl)]⟩
     | true=>
      (repeat refine Hd.h ?_)
      refine ld m t rfl ?_
      (repeat refine Hd.h ?_)
      cases d4:c.iface with
      | false=>
       simp only[Bool.not_true,Bool.not_false]
       (repeat refine Hd.h ?_)
       refine Eh m t U f (by rw[d2];exact g) fun w4 R l=>?_
       exact Z6 o f ⟨R,s.trans l,by rw[v,step true (by rw[j true (by rw[d3];rfl),d4];rfl)]⟩
      | true=>
       simp only[Bool.not_true,Bool.not_false]
       (repeat refine Hd.h ?_)
       refine ld m g rfl ?_
       (repeat refine Hd.h ?_)
       refine Eh m t U f (by rw[d2];exact g) fun w4 R l=>?_
       exact Z6 o f ⟨R,s.trans l,by rw[v,step true (by rw[j true (by rw[d3];rfl),d4];rfl)]⟩
 ·have f: ¬n<c.methods.length:=by simpa using hc
  obtain rfl:n=c.methods.length:=by omega
  exact h _ _ ad
theorem X1o {c:Cla} {H L mv:Value} {w1:World} {σ1:Q5} {q:Addr} {ok:Bool} (d:X4 w1 σ1) (g:Z3 σ1 q [S c.name,S c.super,H, .bool c.iface, .bool c.abs, .bool c.fin,L,mv]) (h:K (.bool (ok&&Q77 c)) w1):
 Q1 (Value.bool ok) true w1 (fieldAddr P T.a (.pointer (some q)) 3) fun r w=>
  Q1 (Value.bool ok) true w (Q2 P T.m r) fun n w=>
  Q1 (Value.bool ok) true w (Z8 P .not n) fun l w=>
  Q1 (Value.bool ok) true w (fun w J=>J l w) fun b w=>
  Q1 b false w (fieldAddr P T.a (.pointer (some q)) 4) fun B w=>
  Q1 b false w (Q2 P T.m B) fun z w=>
  Q1 b false w (fun w J=>J z w) fun e w=>
  Q1 e true w (fieldAddr P T.a (.pointer (some q)) 1) fun C w=>
  Q1 e true w (Q2 P T.b C) fun j w=>
  Q1 e true w (Q3 P .eql T.b (.tmp 185) (.const (.string ⟨#[79,98,106,101,99,116]⟩)) j (.string ⟨#[79,98,106,101,99,116]⟩)) fun s w=>
  Q1 b false w (pick P e s (.bool false)) fun t w=>
  Q1 (Value.bool ok) true w (pick P b (.bool true) t) fun p w=>
  pick P (Value.bool ok) p (.bool false) w fun a w=>
  Q1 a true w (fieldAddr P T.a (.pointer (some q)) 4) fun o w=>
  Q1 a true w (Q2 P T.m o) fun k w=>
  Q1 a true w (fun w J=>J k w) fun f w=>
  Q1 f true w (fieldAddr P T.a (.pointer (some q)) 5) fun v w=>
  Q1 f true w (Q2 P T.m v) fun u w=>
  Q1 a true w (pick P f u (.bool false)) fun y w=>
  Q1 a true w (Z8 P .not y) fun m w=>
  pick P a m (.bool false) w fun A w=>
  K A w:=by
 unfold Q77 at h
 have M:decide (c.super=Z7)=decide (c.super=[79,98,106,101,99,116]):=rfl
 rw[M] at h
 cases ok with
 | false=>(try simp only[↓M1,M1,Mb,reduceIte]);simpa using h
 | true=>
  (try simp only[↓M1,M1,Mb,reduceIte])
  refine ld d g rfl ?_
  (try simp only[↓M1,M1,Mb,reduceIte])
  cases D:c.iface with
  | false=>
   rw[D] at h
   (try simp only[↓M1,M1,Mb,reduceIte])
   refine ld d g rfl ?_
   cases i:c.abs with
   | false=>rw[i] at h;(try simp only[↓M1,M1,Mb,reduceIte]);simpa using h
   | true=>
    rw[i] at h
    (try simp only[↓M1,M1,Mb,reduceIte])
    refine ld d g rfl ?_
    (try simp only[↓M1,M1,Mb,reduceIte])
    simpa using h
  | true=>
   rw[D] at h
   (try simp only[↓M1,M1,Mb,reduceIte])
   refine ld d g rfl ?_
   cases i:c.abs with
   | false=>rw[i] at h;(try simp only[↓M1,M1,Mb,reduceIte]);simpa using h
   | true=>
    rw[i] at h
    (try simp only[↓M1,M1,Mb,reduceIte])
    refine ld d g rfl ?_
    (try simp only[↓M1,M1,Mb,reduceIte])
    cases E:decide (c.super=[79,98,106,101,99,116]) with
    | false=>rw[E] at h;(try simp only[↓M1,M1,Mb,reduceIte]);simpa using h
    | true=>
     rw[E] at h
     (try simp only[↓M1,M1,Mb,reduceIte])
     refine ld d g rfl ?_
     simp only[i,↓M1,M1,Mb,reduceIte]
     refine ld d g rfl ?_
     (try simp only[↓M1,M1,Mb,reduceIte])
     simpa using h
end Go.Proofs.YtfppjenblllfaaaGreatDoor

namespace Go.Proofs.YtfppjenblllfaaaGreatDoor
open Go.Emb Go.RowKit Go.Kd Go.Hm
theorem Q5Q {c:Cla} (h:L8 c=0):W7 c.name=true∧W7 c.super=true∧(c.iface=true→c.super=Z7∧c.fields=[]∧c.abs=true∧ ∀m∈c.methods,m.abs=true)∧(∀m∈c.methods,m.abs=true→c.abs=true)∧c.fields.all Ns=true∧c.methods.all B3=true∧H1 Fld.name [] c.fields=true∧H1 Hm.Met.name [] c.methods=true:=by
 unfold L8 at h
 split at h
 ·cases h
 split at h
 ·rename_i j
  simp only[Wk,Bool.and_eq_true] at j
  obtain ⟨⟨⟨⟨⟨⟨⟨⟨k,u⟩,v⟩,i⟩,f⟩,p⟩,s⟩,o⟩,t⟩:=j
  refine ⟨List.all_eq_true.1 k c.name (by simp),List.all_eq_true.1 k c.super (by simp),fun n=>?_,fun m g r=>?_,o,t,p,s⟩
  ·rw[n] at i
   simp only[Bool.true_and,Bool.not_eq_true',Bool.or_eq_false_iff,Bool.not_eq_false',decide_eq_true_eq] at i
   obtain ⟨⟨⟨a,b⟩,d⟩,e⟩:=i
   refine ⟨b,d,a,fun m g=>?_⟩
   have:=List.any_eq_false.1 e m g
   simpa using this
  ·simp only[Bool.not_eq_true',Bool.or_eq_false_iff] at f
   obtain ⟨_,f⟩:=f
   have q:c.methods.any (·.abs)=true:=List.any_eq_true.2 ⟨m,g,r⟩
   rw[q] at f
   simpa using f
 ·cases h
theorem Q70 {l:List Cla} {c:Cla} (b:c∈Q4 l) (a:c.iface=true):c∈l:=by
 rcases List.mem_append.1 b with h | h
 ·have: ∀c∈B7,c.iface=false:=by decide
  rw[this c h] at a;cases a
 ·exact h
section
variable {l : List Cla} (wf : Wf l)
include wf
theorem Wf.likes {c:Cla} (f:c∈Q4 l) {u:X0} (b:u∈c.like): ∃d,lk (Q4 l) u=some d∧d.iface=true:=by
 rcases List.mem_append.1 f with h | h
 ·rw[(Yp c h).2.2] at b;simp at b
 ·have:=wf.up c h
  unfold L5 at this
  split at this
  ·cases this
  ·split at this
   ·cases this
   ·rename_i a
    have a:=List.any_eq_false.1 (eq_false_of_ne_true a) u b
    unfold O7 at a
    cases e:lk (Q4 l) u with
    | none=>rw[e] at a;simp at a
    | some d=>rw[e] at a;exact ⟨d,rfl,by simpa using a⟩
theorem Wf.above_iface {u b:X0} (h:Hm.Reach (lk (Q4 l)) u b): ∀d,lk (Q4 l) u=some d→d.iface=true→b=Z7∨ ∃e,lk (Q4 l) b=some e∧e.iface=true:=by
 induction h with
 | refl h=>intro d c a;exact .inr ⟨d,c,a⟩
 | step j hu k n=>
  intro d c a
  rw[j] at c;cases c
  obtain ⟨e,i,_⟩:=U1 j
  rcases List.mem_cons.1 hu with rfl | hu
  ·rw[((Q5Q (wf.ck _ (Q70 i a))).2.2.1 a).1] at k
   exact .inl (wf.atRoot k)
  ·obtain ⟨f,m,g⟩:=wf.likes i hu
   exact n f m g
theorem Wf.by_chain {n b:X0} (h:Hm.Reach (lk (Q4 l)) n b): ∀e,lk (Q4 l) b=some e→e.iface=false→b≠Z7→e∈chain (Q4 l) n:=by
 induction h with
 | refl h=>
  intro e c _ _
  rw[C9 wf.acy,c];simp
 | step j hu q r=>
  intro e c i m
  obtain ⟨en,o,_⟩:=U1 j
  rcases List.mem_cons.1 hu with rfl | hu
  ·rw[C9 wf.acy,j]
   exact List.mem_cons_of_mem _ (r e c i m)
  ·obtain ⟨f,p,d⟩:=wf.likes o hu
   rcases wf.above_iface q f p d with h | ⟨g,k,a⟩
   ·exact absurd h m
   ·rw[c] at k;cases k;rw[i] at a;cases a
theorem Wf.chain_tail: ∀(k:Nat) {n:X0} {c:Cla},F0 (Q4 l) n<k→c∈chain (Q4 l) n→ ∃a,chain (Q4 l) n=a++chain (Q4 l) c.name:=by
 intro k
 induction k with
 | zero=>intro n c h;omega
 | succ k m=>
  intro n c o hc
  rw[C9 wf.acy] at hc
  cases b:lk (Q4 l) n with
  | none=>rw[b] at hc;simp at hc
  | some d=>
   rw[b] at hc
   have f:=(U1 b).1
   rcases List.mem_cons.1 hc with rfl | hc
   ·exact ⟨[],by rw[f];rfl⟩
   ·cases g:lk (Q4 l) d.super with
    | none=>rw[G3 g] at hc;simp at hc
    | some e=>
     have j:d.super∈J4 d:=by simp[J4]
     obtain ⟨a,i⟩:=m (by have:=Qe wf.acy b j g;omega) hc
     exact ⟨d::a,by rw[C9 wf.acy,b];show d::chain (Q4 l) d.super=_;rw[i];rfl⟩
theorem Wf.fields_tail {n:X0} {c:Cla} (h:c∈chain (Q4 l) n): ∃a,M8 (Q4 l) n=M8 (Q4 l) c.name++a:=by
 obtain ⟨b,d⟩:=wf.chain_tail _ (Nat.lt_succ_self _) h
 exact ⟨b.reverse.flatMap (·.fields),by unfold M8;rw[d];simp⟩
theorem Wf.none_nil:lk (Q4 l) []=none:=by
 cases h:lk (Q4 l) [] with
 | none=>rfl
 | some c=>exact absurd (wf.lkn h) (by decide)
theorem Wf.fault_fields:M8 (Q4 l) V9=[⟨P1,O4,false⟩]:=by
 unfold M8
 rw[C9 wf.acy,wf.fault]
 simp only
 rw[C9 wf.acy,wf.root]
 simp only
 rw[G3 wf.none_nil]
 rfl
theorem Wf.what {n:X0} (h:W9 (Q4 l) n V9=true) {c:Cla} (e:lk (Q4 l) n=some c):Xr (Q4 l) n P1=some 0:=by
 have f:=(wf.sub_class e).1 h
 have b:=wf.by_chain f _ wf.fault rfl (by decide)
 obtain ⟨a,d⟩:=wf.fields_tail b
 unfold Xr
 rw[d,show (Cla.mk V9 Z7 [] false false false [⟨P1,O4,false⟩] []).name=V9 from rfl,wf.fault_fields]
 rfl
end
end Go.Proofs.YtfppjenblllfaaaGreatDoor

namespace Go.Hm
open Go.Kd
end Go.Hm
namespace Go.Proofs.YtfppjenblllfaaaGreatDoor
open Go.Emb Go.RowKit Go.Kd Go.Hm
section
variable {l : List Cla} (wf : Wf l)
include wf
end
end Go.Proofs.YtfppjenblllfaaaGreatDoor
namespace Go.Proofs.YtfppjenblllfaaaGreatDoor
open Go.Emb Go.RowKit Go.Kd Go.Hm
end Go.Proofs.YtfppjenblllfaaaGreatDoor
namespace Go.Proofs.YtfppjenblllfaaaGreatDoor
open Go.Emb Go.RowKit Go.Kd Go.Hm
section
variable {l : List Cla} (wf : Wf l)
include wf
end
end Go.Proofs.YtfppjenblllfaaaGreatDoor

namespace Go.Proofs.YtfppjenblllfaaaGreatDoor
open Go.Emb Go.RowKit Go.Kd Go.Hm
variable {w : World} {K : Value → World → Prop} {σ : Q5}
def Q4m (c:Cla):Bool:=((((W7 c.name&&W7 c.super&& !decide (c.name=c.super))&&(List.range c.like.length).all fun i=>Wd c i&&(List.range i).all (I6 c i))&&(List.range c.fields.length).all fun i=>Nk c i&&(List.range i).all (Qn c i))&&(List.range c.methods.length).all fun i=>Lb c i&&(List.range i).all (Qo c i))&&Q77 c
theorem Q9s {α:Type} {f:α→X0}: ∀(xs a:List α),H1 f a xs=true↔(xs.map f).Nodup∧ ∀x∈xs,∀y∈a,f y≠f x:=by
 intro xs
 induction xs with
 | nil=>intro a;simp[H1]
 | cons x r h=>
  intro a
  simp only[H1,Bool.and_eq_true,h,Bool.not_eq_true',List.map_cons,List.nodup_cons]
  rw[←Bool.not_eq_true,List.any_eq_true]
  simp only[decide_eq_true_eq,not_exists,not_and,List.mem_append,List.mem_cons,List.not_mem_nil,or_false,List.mem_map]
  constructor
  ·rintro ⟨g,d,c⟩
   refine ⟨⟨fun y hy e=>c y hy x (.inr rfl) e.symm,d⟩,fun y hy z b=>?_⟩
   rcases hy with rfl | hy
   ·exact g z b
   ·exact c y hy z (.inl b)
  ·rintro ⟨⟨g,d⟩,c⟩
   refine ⟨fun y hy=>c x (.inl rfl) y hy,d,fun y hy z b=>?_⟩
   rcases b with b | rfl
   ·exact c y (.inr hy) z b
   ·exact fun e=>g y hy e.symm
theorem Py {α:Type} {f:α→X0} {xs:List α} {p:α→Bool} {P:Nat→Bool} {Q:Nat→Nat→Bool} (d: ∀i (h:i<xs.length),P i=p xs[i]) (c: ∀i (h:i<xs.length) k (o:k<xs.length),Q i k= !decide (f xs[k]=f xs[i])):
 ((List.range xs.length).all fun i=>P i&&(List.range i).all (Q i))=true↔(∀x∈xs,p x=true)∧H1 f [] xs=true:=by
 rw[Q9s,List.all_eq_true]
 simp only[List.mem_range,Bool.and_eq_true,List.all_eq_true,List.not_mem_nil,false_implies,implies_true,and_true]
 rw[List.nodup_iff_pairwise_ne,List.pairwise_iff_getElem]
 simp only[List.length_map,List.getElem_map]
 constructor
 ·intro h
  refine ⟨fun x n=>?_,fun i j a e b=>?_⟩
  ·obtain ⟨i,a,rfl⟩:=List.getElem_of_mem n
   rw[←d i a];exact (h i a).1
  ·have:=(h j e).2 i b
   rw[c j e i a] at this
   simpa using this
 ·rintro ⟨m,l⟩ i a
  refine ⟨by rw[d i a];exact m _ (List.getElem_mem a),fun k g=>?_⟩
  rw[c i a k (by omega)]
  simpa using l k i (by omega) a g
theorem Q9j (c:Cla):Q4m c=Wk c:=by
 have z:=Py (f:=id) (xs:=c.like) (p:=fun y=>W7 y&& !decide (y=c.name)) (P:=Wd c) (Q:=I6 c) (fun i h=>by unfold Wd;rw[E7 h]) (fun i h k n=>by unfold I6;rw[E7 h,E7 n];rfl)
 have g:=Py (f:=Fld.name) (xs:=c.fields) (p:=fun f=>L9 f.name&&right f.kind&& !c.iface) (P:=Nk c) (Q:=Qn c) (fun i h=>by unfold Nk Rj;rw[E7 h]) (fun i h k n=>by unfold Qn Rj;rw[E7 h,E7 n])
 have d:=Py (f:=Hm.Met.name) (xs:=c.methods) (p:=fun m=>B3 m&&(!m.abs||c.abs)&&(!c.iface||m.abs)) (P:=Lb c) (Q:=Qo c) (fun i h=>by unfold Lb Dk;rw[E7 h]) (fun i h k n=>by unfold Qo Dk;rw[E7 h,E7 n])
 rw[Bool.eq_iff_iff]
 unfold Q4m Wk Q77
 simp only[Bool.and_eq_true,z,g,d]
 simp only[Bool.and_eq_true,Bool.not_eq_true',Bool.or_eq_true,Bool.and_eq_false_iff,Bool.or_eq_false_iff,decide_eq_true_eq,decide_eq_false_iff_not,List.all_eq_true,List.mem_cons,List.any_eq_false,Ns,Bool.not_eq_false']
 constructor
 ·rintro ⟨⟨⟨⟨⟨⟨l,o⟩,q⟩,a,t⟩,h6,r⟩,j,s⟩,b,u⟩
  refine ⟨⟨⟨⟨⟨⟨⟨⟨?_,?_⟩,t⟩,?_⟩,u,?_⟩,r⟩,s⟩,?_⟩,fun m d=>(j m d).1.1⟩
  ·rintro x (rfl | rfl | hx)
   ·exact l
   ·exact o
   ·exact (a x hx).1
  ·rintro x (rfl | hx)
   ·exact q
   ·exact fun e=>(a x hx).2 e.symm
  ·cases v:c.iface with
   | false=>exact .inl rfl
   | true=>
    rw[v] at b h6 j
    have b:=b.resolve_left (by decide)
    refine .inr ⟨⟨b,?_⟩,fun m d e=>?_⟩
    ·rw[List.eq_nil_iff_forall_not_mem]
     intro f g
     exact absurd (h6 f g).2 (by decide)
    ·have:=(j m d).2.resolve_left (by decide)
     rw[this] at e;cases e
  ·cases A:c.abs with
   | true=>exact .inr rfl
   | false=>
    rw[A] at j
    refine .inl fun m d e=>?_
    have:=(j m d).1.2.resolve_right (by decide)
    rw[this] at e;cases e
  ·exact fun f g=>(h6 f g).1
 ·rintro ⟨⟨⟨⟨⟨⟨⟨⟨l,o⟩,q⟩,a⟩,t,h6⟩,r⟩,j⟩,s⟩,b⟩
  refine ⟨⟨⟨⟨⟨⟨l _ (.inl rfl),l _ (.inr (.inl rfl))⟩,o _ (.inl rfl)⟩,fun x hx=>⟨l x (.inr (.inr hx)),fun e=>o x (.inr hx) e.symm⟩,q⟩,fun f g=>⟨s f g,?_⟩,r⟩,fun m d=>⟨⟨b m d,?_⟩,?_⟩,j⟩,?_,t⟩
  ·rcases a with a | ⟨⟨_,a⟩,_⟩
   ·exact a
   ·rw[a] at g;simp at g
  ·rcases h6 with h6 | h6
   ·left;exact eq_false_of_ne_true (h6 m d)
   ·exact .inr h6
  ·rcases a with a | ⟨_,a⟩
   ·exact .inl a
   ·right
    cases hx:m.abs with
    | true=>rfl
    | false=>exact absurd hx (a m d)
  ·rcases a with a | ⟨⟨a,_⟩,_⟩
   ·exact .inl a
   ·exact .inr a
set_option maxHeartbeats 4000000 in
theorem Q93 {c:Cla} {cs:List Value} (hs:X4 w σ) (hc:U5 σ c cs) (h: ∀w' σ',Stp w σ w' σ'→K (.bool (Q4m c)) w'):Q0 P F.be [.agg cs.toArray] w K:=Gc (by
 unfold Vz
 obtain ⟨lv,fv,mv,rfl,f1,f2,f3,f4,f5⟩:=hc
 have db:c.name.length≤140737488355328:=by simp only[Z9] at f4;omega
 have cq:c.super.length≤140737488355328:=by simp only[Z9] at f5;omega
 refine Y7 hs fun q w1 σ1 bn hq=>?_
 have g1:=f1.up bn
 have g2:=f2.up bn
 have g3:=f3.up bn
 have b6:=bn.sat
 have ch: ∀ok:Bool,ok=(W7 c.name&&W7 c.super&& !decide (c.name=c.super))→_:=fun ok e=>
  Q9C (w1:=w1) (σ1:=σ1) (ok:=ok) b6 hq (J:=fun v w=>lp (α:=Value×Value) (v,(.int .i64 0)) w fun cb o d_ w=>
   fieldAddr P T.a (.pointer (some q)) 6 w fun cy w=>
   Q2 P T.i cy w fun dc w=>
   X5 P .len [T.i] T.e [false] [dc] w fun c4 w=>
   Q3 P .lss T.e (.tmp 71) (.tmp 74) o.2 c4 w fun c3 w=>
   X1 c3 (
    Q1 o.1 true w (fieldAddr P T.a (.pointer (some q)) 6) fun cw w=>
    Q1 o.1 true w (Q2 P T.i cw) fun ct w=>
    Q1 o.1 true w (fun w J=>J o.2 w) fun cx w=>
    Q1 o.1 true w (indexAddr P T.i ct cx) fun c6 w=>
    Q1 o.1 true w (fieldAddr P T.k c6 0) fun c8 w=>
    Q1 o.1 true w (Q2 P T.b c8) fun c0 w=>
    Q1 o.1 true w (Q0 P F.t [c0]) fun c5 w=>
    pick P o.1 c5 (.bool false) w fun af w=>
    Q1 af true w (fieldAddr P T.a (.pointer (some q)) 6) fun c2 w=>
    Q1 af true w (Q2 P T.i c2) fun cr w=>
    Q1 af true w (fun w J=>J o.2 w) fun c9 w=>
    Q1 af true w (indexAddr P T.i cr c9) fun cv w=>
    Q1 af true w (fieldAddr P T.k cv 1) fun c1 w=>
    Q1 af true w (Q2 P T.b c1) fun cu w=>
    Q1 af true w (Q0 P F.i [cu]) fun da w=>
    pick P af da (.bool false) w fun cd w=>
    Q1 cd true w (fieldAddr P T.a (.pointer (some q)) 3) fun c7 w=>
    Q1 cd true w (Q2 P T.m c7) fun de w=>
    Q1 cd true w (Z8 P .not de) fun cm w=>
    pick P cd cm (.bool false) w fun cn w=>
    lp (α:=Value×Value) (cn,(.int .i64 0)) w fun ca l d_ w=>
     Q3 P .lss T.e (.tmp 102) (.tmp 103) l.2 o.2 w fun cl w=>
     X1 cl (
      dr w fun d n=>
      Q7 d (fun a6=> ∀w:World,n w→Q1 l.1 true w (fieldAddr P T.a (.pointer (some q)) 6) (dk d a6 w)) fun a6=>
      Q7 d (fun ay=> ∀w:World,n w→Q1 l.1 true w (fun w J=>J l.2 w) (dk d ay w)) fun ay=>
      Q7 d (fun ar=> ∀w:World,n w→Q1 l.1 true w (fieldAddr P T.a (.pointer (some q)) 6) (dk d ar w)) fun ar=>
      Q7 d (fun a5=> ∀w:World,n w→Q1 l.1 true w (fun w J=>J o.2 w) (dk d a5 w)) fun a5=>
      Q7 d (fun a3=> ∀aq:Value,∀w:World,n w→a6 aq w→Q1 l.1 true w (Q2 P T.i aq) (dk d a3 w)) fun a3=>
      Q7 d (fun a1=> ∀ao:Value,∀av:Value,∀w:World,n w→a3 ao w→ay av w→Q1 l.1 true w (indexAddr P T.i ao av) (dk d a1 w)) fun a1=>
      Q7 d (fun aw=> ∀az:Value,∀w:World,n w→a1 az w→Q1 l.1 true w (fieldAddr P T.k az 0) (dk d aw w)) fun aw=>
      Q7 d (fun b8=> ∀ap:Value,∀w:World,n w→aw ap w→Q1 l.1 true w (Q2 P T.b ap) (dk d b8 w)) fun b8=>
      Q7 d (fun ax=> ∀a7:Value,∀w:World,n w→ar a7 w→Q1 l.1 true w (Q2 P T.i a7) (dk d ax w)) fun ax=>
      Q7 d (fun a2=> ∀a0:Value,∀ba:Value,∀w:World,n w→ax a0 w→a5 ba w→Q1 l.1 true w (indexAddr P T.i a0 ba) (dk d a2 w)) fun a2=>
      Q7 d (fun a9=> ∀a8:Value,∀w:World,n w→a2 a8 w→Q1 l.1 true w (fieldAddr P T.k a8 0) (dk d a9 w)) fun a9=>
      Q7 d (fun bq=> ∀a4:Value,∀w:World,n w→a9 a4 w→Q1 l.1 true w (Q2 P T.b a4) (dk d bq w)) fun bq=>
      ∀aq:Value,∀av:Value,∀a7:Value,∀ba:Value,∀ao:Value,∀az:Value,∀ap:Value,∀cg:Value,∀a0:Value,∀a8:Value,∀a4:Value,∀ce:Value,∀w:World,n w→a6 aq w→ay av w→ar a7 w→a5 ba w→a3 ao w→a1 az w→aw ap w→b8 cg w→ax a0 w→a2 a8 w→a9 a4 w→bq ce w→
      Q1 l.1 true w (Q3 P .neq T.b (.tmp 114) (.tmp 120) cg ce) fun cp w=>
      pick P l.1 cp (.bool false) w fun co w=>
      Q3 P .add T.e (.tmp 105) (.const (.int .i64 1)) l.2 (.int .i64 1) w fun cj w=>
      ca (co,cj) w) (
      Q3 P .add T.e (.tmp 76) (.const (.int .i64 1)) o.2 (.int .i64 1) w fun dd w=>
      cb (l.1,dd) w)) (
    lp (α:=Value×Value) (o.1,(.int .i64 0)) w fun O f d_ w=>
     fieldAddr P T.a (.pointer (some q)) 7 w fun bs w=>
     Q2 P T.g bs w fun bm w=>
     X5 P .len [T.g] T.e [false] [bm] w fun bp w=>
     Q3 P .lss T.e (.tmp 123) (.tmp 126) f.2 bp w fun bd w=>
     X1 bd (
      fieldAddr P T.a (.pointer (some q)) 7 w fun bg w=>
      Q2 P T.g bg w fun br w=>
      indexAddr P T.g br f.2 w fun bc w=>
      Q2 P T.d bc w fun bl w=>
      W4 P T.d w fun t9 w=>
      Z0 P T.d t9 bl w fun _u w=>
      Q1 f.1 true w (Q2 P T.d t9) fun b3 w=>
      Q1 f.1 true w (Q0 P F.y [b3]) fun bw w=>
      pick P f.1 bw (.bool false) w fun k w=>
      Q1 k true w (fieldAddr P T.d t9 3) fun bj w=>
      Q1 k true w (Q2 P T.m bj) fun bv w=>
      Q1 k true w (Z8 P .not bv) fun bb w=>
      Q1 k true w (fun w J=>J bb w) fun L w=>
      Q1 L false w (fieldAddr P T.a (.pointer (some q)) 4) fun bz w=>
      Q1 L false w (Q2 P T.m bz) fun b9 w=>
      Q1 k true w (pick P L (.bool true) b9) fun b2 w=>
      pick P k b2 (.bool false) w fun j w=>
      Q1 j true w (fieldAddr P T.a (.pointer (some q)) 3) fun bi w=>
      Q1 j true w (Q2 P T.m bi) fun bx w=>
      Q1 j true w (Z8 P .not bx) fun be w=>
      Q1 j true w (fun w J=>J be w) fun N w=>
      Q1 N false w (fieldAddr P T.d t9 3) fun bo w=>
      Q1 N false w (Q2 P T.m bo) fun b7 w=>
      Q1 j true w (pick P N (.bool true) b7) fun bu w=>
      pick P j bu (.bool false) w fun b4 w=>
      lp (α:=Value×Value) (b4,(.int .i64 0)) w fun M b d_ w=>
       Q3 P .lss T.e (.tmp 158) (.tmp 159) b.2 f.2 w fun bk w=>
       X1 bk (
        dr w fun d n=>
        Q7 d (fun s=> ∀w:World,n w→Q1 b.1 true w (fieldAddr P T.a (.pointer (some q)) 7) (dk d s w)) fun s=>
        Q7 d (fun B=> ∀w:World,n w→Q1 b.1 true w (fun w J=>J b.2 w) (dk d B w)) fun B=>
        Q7 d (fun A=> ∀w:World,n w→Q1 b.1 true w (fieldAddr P T.d t9 0) (dk d A w)) fun A=>
        Q7 d (fun p=> ∀E:Value,∀w:World,n w→s E w→Q1 b.1 true w (Q2 P T.g E) (dk d p w)) fun p=>
        Q7 d (fun y=> ∀r:Value,∀t:Value,∀w:World,n w→p r w→B t w→Q1 b.1 true w (indexAddr P T.g r t) (dk d y w)) fun y=>
        Q7 d (fun z=> ∀u:Value,∀w:World,n w→y u w→Q1 b.1 true w (fieldAddr P T.d u 0) (dk d z w)) fun z=>
        Q7 d (fun H=> ∀C:Value,∀w:World,n w→z C w→Q1 b.1 true w (Q2 P T.b C) (dk d H w)) fun H=>
        Q7 d (fun Q=> ∀D:Value,∀w:World,n w→A D w→Q1 b.1 true w (Q2 P T.b D) (dk d Q w)) fun Q=>
        ∀E:Value,∀t:Value,∀D:Value,∀r:Value,∀u:Value,∀C:Value,∀ag:Value,∀ah:Value,∀w:World,n w→s E w→B t w→A D w→p r w→y u w→z C w→H ag w→Q ah w→
        Q1 b.1 true w (Q3 P .neq T.b (.tmp 170) (.tmp 172) ag ah) fun b1 w=>
        pick P b.1 b1 (.bool false) w fun bf w=>
        Q3 P .add T.e (.tmp 161) (.const (.int .i64 1)) b.2 (.int .i64 1) w fun b0 w=>
        M (bf,b0) w) (
        Q3 P .add T.e (.tmp 128) (.const (.int .i64 1)) f.2 (.int .i64 1) w fun b5 w=>
        O (b.1,b5) w)) (
      Q1 f.1 true w (fieldAddr P T.a (.pointer (some q)) 3) fun ad w=>
      Q1 f.1 true w (Q2 P T.m ad) fun aa w=>
      Q1 f.1 true w (Z8 P .not aa) fun ak w=>
      Q1 f.1 true w (fun w J=>J ak w) fun g w=>
      Q1 g false w (fieldAddr P T.a (.pointer (some q)) 4) fun am w=>
      Q1 g false w (Q2 P T.m am) fun al w=>
      Q1 g false w (fun w J=>J al w) fun i w=>
      Q1 i true w (fieldAddr P T.a (.pointer (some q)) 1) fun aj w=>
      Q1 i true w (Q2 P T.b aj) fun Y w=>
      Q1 i true w (Q3 P .eql T.b (.tmp 185) (.const (.string ⟨#[79,98,106,101,99,116]⟩)) Y (.string ⟨#[79,98,106,101,99,116]⟩)) fun V w=>
      Q1 g false w (pick P i V (.bool false)) fun ae w=>
      Q1 f.1 true w (pick P g (.bool true) ae) fun U w=>
      pick P f.1 U (.bool false) w fun a w=>
      Q1 a true w (fieldAddr P T.a (.pointer (some q)) 4) fun ai w=>
      Q1 a true w (Q2 P T.m ai) fun Z w=>
      Q1 a true w (fun w J=>J Z w) fun m w=>
      Q1 m true w (fieldAddr P T.a (.pointer (some q)) 5) fun W w=>
      Q1 m true w (Q2 P T.m W) fun ab w=>
      Q1 a true w (pick P m ab (.bool false)) fun ac w=>
      Q1 a true w (Z8 P .not ac) fun R w=>
      pick P a R (.bool false) w fun X w=>
      K X w))) f4 g1 fun w2 σ2 an=>
  X0S (J:=fun v w=>lp (α:=Value×Value) (v,(.int .i64 0)) w fun O f d_ w=>
   fieldAddr P T.a (.pointer (some q)) 7 w fun bs w=>
   Q2 P T.g bs w fun bm w=>
   X5 P .len [T.g] T.e [false] [bm] w fun bp w=>
   Q3 P .lss T.e (.tmp 123) (.tmp 126) f.2 bp w fun bd w=>
   X1 bd (
    fieldAddr P T.a (.pointer (some q)) 7 w fun bg w=>
    Q2 P T.g bg w fun br w=>
    indexAddr P T.g br f.2 w fun bc w=>
    Q2 P T.d bc w fun bl w=>
    W4 P T.d w fun t9 w=>
    Z0 P T.d t9 bl w fun _u w=>
    Q1 f.1 true w (Q2 P T.d t9) fun b3 w=>
    Q1 f.1 true w (Q0 P F.y [b3]) fun bw w=>
    pick P f.1 bw (.bool false) w fun k w=>
    Q1 k true w (fieldAddr P T.d t9 3) fun bj w=>
    Q1 k true w (Q2 P T.m bj) fun bv w=>
    Q1 k true w (Z8 P .not bv) fun bb w=>
    Q1 k true w (fun w J=>J bb w) fun L w=>
    Q1 L false w (fieldAddr P T.a (.pointer (some q)) 4) fun bz w=>
    Q1 L false w (Q2 P T.m bz) fun b9 w=>
    Q1 k true w (pick P L (.bool true) b9) fun b2 w=>
    pick P k b2 (.bool false) w fun j w=>
    Q1 j true w (fieldAddr P T.a (.pointer (some q)) 3) fun bi w=>
    Q1 j true w (Q2 P T.m bi) fun bx w=>
    Q1 j true w (Z8 P .not bx) fun be w=>
    Q1 j true w (fun w J=>J be w) fun N w=>
    Q1 N false w (fieldAddr P T.d t9 3) fun bo w=>
    Q1 N false w (Q2 P T.m bo) fun b7 w=>
    Q1 j true w (pick P N (.bool true) b7) fun bu w=>
    pick P j bu (.bool false) w fun b4 w=>
    lp (α:=Value×Value) (b4,(.int .i64 0)) w fun M b d_ w=>
     Q3 P .lss T.e (.tmp 158) (.tmp 159) b.2 f.2 w fun bk w=>
     X1 bk (
      dr w fun d n=>
      Q7 d (fun s=> ∀w:World,n w→Q1 b.1 true w (fieldAddr P T.a (.pointer (some q)) 7) (dk d s w)) fun s=>
      Q7 d (fun B=> ∀w:World,n w→Q1 b.1 true w (fun w J=>J b.2 w) (dk d B w)) fun B=>
      Q7 d (fun A=> ∀w:World,n w→Q1 b.1 true w (fieldAddr P T.d t9 0) (dk d A w)) fun A=>
      Q7 d (fun p=> ∀E:Value,∀w:World,n w→s E w→Q1 b.1 true w (Q2 P T.g E) (dk d p w)) fun p=>
      Q7 d (fun y=> ∀r:Value,∀t:Value,∀w:World,n w→p r w→B t w→Q1 b.1 true w (indexAddr P T.g r t) (dk d y w)) fun y=>
      Q7 d (fun z=> ∀u:Value,∀w:World,n w→y u w→Q1 b.1 true w (fieldAddr P T.d u 0) (dk d z w)) fun z=>
      Q7 d (fun H=> ∀C:Value,∀w:World,n w→z C w→Q1 b.1 true w (Q2 P T.b C) (dk d H w)) fun H=>
      Q7 d (fun Q=> ∀D:Value,∀w:World,n w→A D w→Q1 b.1 true w (Q2 P T.b D) (dk d Q w)) fun Q=>
      ∀E:Value,∀t:Value,∀D:Value,∀r:Value,∀u:Value,∀C:Value,∀ag:Value,∀ah:Value,∀w:World,n w→s E w→B t w→A D w→p r w→y u w→z C w→H ag w→Q ah w→
      Q1 b.1 true w (Q3 P .neq T.b (.tmp 170) (.tmp 172) ag ah) fun b1 w=>
      pick P b.1 b1 (.bool false) w fun bf w=>
      Q3 P .add T.e (.tmp 161) (.const (.int .i64 1)) b.2 (.int .i64 1) w fun b0 w=>
      M (bf,b0) w) (
      Q3 P .add T.e (.tmp 128) (.const (.int .i64 1)) f.2 (.int .i64 1) w fun b5 w=>
      O (b.1,b5) w)) (
    Q1 f.1 true w (fieldAddr P T.a (.pointer (some q)) 3) fun ad w=>
    Q1 f.1 true w (Q2 P T.m ad) fun aa w=>
    Q1 f.1 true w (Z8 P .not aa) fun ak w=>
    Q1 f.1 true w (fun w J=>J ak w) fun g w=>
    Q1 g false w (fieldAddr P T.a (.pointer (some q)) 4) fun am w=>
    Q1 g false w (Q2 P T.m am) fun al w=>
    Q1 g false w (fun w J=>J al w) fun i w=>
    Q1 i true w (fieldAddr P T.a (.pointer (some q)) 1) fun aj w=>
    Q1 i true w (Q2 P T.b aj) fun Y w=>
    Q1 i true w (Q3 P .eql T.b (.tmp 185) (.const (.string ⟨#[79,98,106,101,99,116]⟩)) Y (.string ⟨#[79,98,106,101,99,116]⟩)) fun V w=>
    Q1 g false w (pick P i V (.bool false)) fun ae w=>
    Q1 f.1 true w (pick P g (.bool true) ae) fun U w=>
    pick P f.1 U (.bool false) w fun a w=>
    Q1 a true w (fieldAddr P T.a (.pointer (some q)) 4) fun ai w=>
    Q1 a true w (Q2 P T.m ai) fun Z w=>
    Q1 a true w (fun w J=>J Z w) fun m w=>
    Q1 m true w (fieldAddr P T.a (.pointer (some q)) 5) fun W w=>
    Q1 m true w (Q2 P T.m W) fun ab w=>
    Q1 a true w (pick P m ab (.bool false)) fun ac w=>
    Q1 a true w (Z8 P .not ac) fun R w=>
    pick P a R (.bool false) w fun X w=>
    K X w)) an.sat (hq.up an) (g2.up an) fun w3 σ3 bh=>
  X1r (J:=fun v w=>Q1 v true w (fieldAddr P T.a (.pointer (some q)) 3) fun ad w=>
   Q1 v true w (Q2 P T.m ad) fun aa w=>
   Q1 v true w (Z8 P .not aa) fun ak w=>
   Q1 v true w (fun w J=>J ak w) fun g w=>
   Q1 g false w (fieldAddr P T.a (.pointer (some q)) 4) fun am w=>
   Q1 g false w (Q2 P T.m am) fun al w=>
   Q1 g false w (fun w J=>J al w) fun i w=>
   Q1 i true w (fieldAddr P T.a (.pointer (some q)) 1) fun aj w=>
   Q1 i true w (Q2 P T.b aj) fun Y w=>
   Q1 i true w (Q3 P .eql T.b (.tmp 185) (.const (.string ⟨#[79,98,106,101,99,116]⟩)) Y (.string ⟨#[79,98,106,101,99,116]⟩)) fun V w=>
   Q1 g false w (pick P i V (.bool false)) fun ae w=>
   Q1 v true w (pick P g (.bool true) ae) fun U w=>
   pick P v U (.bool false) w fun a w=>
   Q1 a true w (fieldAddr P T.a (.pointer (some q)) 4) fun ai w=>
   Q1 a true w (Q2 P T.m ai) fun Z w=>
   Q1 a true w (fun w J=>J Z w) fun m w=>
   Q1 m true w (fieldAddr P T.a (.pointer (some q)) 5) fun W w=>
   Q1 m true w (Q2 P T.m W) fun ab w=>
   Q1 a true w (pick P m ab (.bool false)) fun ac w=>
   Q1 a true w (Z8 P .not ac) fun R w=>
   pick P a R (.bool false) w fun X w=>
   K X w) bh.sat ((hq.up an).up bh) ((g3.up an).up bh) fun w4 σ4 ci=>
  X1o (K:=K) ci.sat (((hq.up an).up bh).up ci) (by rw[e];exact h _ _ (bn.trans (an.trans (bh.trans ci))))
 (repeat refine Hd.h ?_)
 refine ld b6 hq rfl ?_
 refine Qs c.name db ?_
 cases d1:W7 c.name with
 | false=>(repeat refine Hd.h ?_);exact ch false (by rw[d1];rfl)
 | true=>
  (repeat refine Hd.h ?_)
  refine ld b6 hq rfl ?_
  (repeat refine Hd.h ?_)
  refine Qs c.super cq ?_
  cases d2:W7 c.super with
  | false=>(repeat refine Hd.h ?_);exact ch false (by rw[d1,d2];rfl)
  | true=>
   (repeat refine Hd.h ?_)
   refine ld b6 hq rfl ?_
   (repeat refine Hd.h ?_)
   refine ld b6 hq rfl ?_
   (repeat refine Hd.h ?_)
   refine Wo ?_
   (repeat refine Hd.h ?_)
   exact ch _ (by rw[d1,d2];rfl))
theorem Q2H {c:Cla} {cs:List Value} (s:X4 w σ) (d:U5 σ c cs) (h: ∀w' t,Stp w σ w' t→K (I (L8 c)) w'):Q0 P F.bb [.agg cs.toArray] w K:=Gy (by
 unfold Vv
 have i:=Rep.one (R:=U5) d
 obtain ⟨m,o,mv,rfl,l,n,p,k,r⟩:=d
 have d:U5 σ c _:=⟨m,o,mv,rfl,l,n,p,k,r⟩
 refine Y7 s fun q w1 σ1 a j=>?_
 unfold L8 at h
 refine Y9 a.sat j rfl ?_
 refine Q9p a.sat (RCl_lift d ⟨a.le⟩) fun u v b=>?_
 cases f:Xz c with
 | true=>simp only[f,if_true] at h;(try simp only[↓M1,M1,Mb,reduceIte]);exact h _ _ (a.trans b)
 | false=>
  simp only[f,Bool.false_eq_true,if_false] at h
  (try simp only[↓M1,M1,Mb,reduceIte])
  refine Y9 b.sat (j.up b) rfl ?_
  refine Q93 b.sat (RCl_lift d ⟨(a.trans b).le⟩) fun y z e=>?_
  rw[Q9j]
  cases g:Wk c with
  | true=>simp only[g,if_true] at h;(try simp only[↓M1,M1,Mb,reduceIte]);exact h _ _ (a.trans (b.trans e))
  | false=>simp only[g,Bool.false_eq_true,if_false] at h;(try simp only[↓M1,M1,Mb,reduceIte]);exact h _ _ (a.trans (b.trans e)))
end Go.Proofs.YtfppjenblllfaaaGreatDoor

namespace Go.Emb
open Go.RowKit Go.Hm
end Go.Emb
namespace Go.Hm
end Go.Hm
namespace Go.Proofs.YtfppjenblllfaaaGreatDoor
open Go.Emb Go.RowKit Go.Kd Go.Hm
variable {w : World} {K : Value → World → Prop} {σ : Q5} {l : List Cla}
theorem Bk {a b:X0} (ok:Ok (Q4 l)) (e:a.length≤Z9) (g:b.length≤Z9):(W8 (Q4 l) a b).length≤Z9:=by
 unfold W8
 split
 ·exact g
 split
 ·exact e
 split
 ·exact Nat.zero_le _
 split
 ·rename_i c f
  have d:=(Q60 ok.acy _ (Nat.lt_succ_self _) (List.mem_of_find?_eq_some f)).2
  have:=(ok.nm c (U1 d).2.1).1
  exact Nat.le_trans this (by decide)
 ·decide
end Go.Proofs.YtfppjenblllfaaaGreatDoor

namespace Go.Hm
open Go.Kd
structure Alike (l m : List Cla) : Prop where
  lk : lk l = lk m
  len : l.length = m.length
  weigh : weigh l [] = weigh m []
section
variable {l m : List Cla} (h : Alike l m)
include h
end
theorem X1a {l:List Cla} {frm:Nat}: ∀(f:Nat) (a:List Nat) (i:Nat),∀y∈I2 l frm f a i,y∈a∨frm≤y:=by
 intro f
 induction f with
 | zero=>intro a i y hy;exact .inl hy
 | succ f d=>
  intro a i y hy
  simp only[I2] at hy
  split at hy
  ·exact .inl hy
  ·split at hy
   ·exact .inl hy
   ·rename_i e _
    rcases List.mem_append.1 hy with hy | hy
    ·exact Vq (p:=fun y=>frm≤y) _ _ (fun b x _ z c=>d b _ z c) y hy
    ·simp at hy;omega
theorem Q9A {a:List Cla} (g:G7 a): ∀j∈U9 a 8,8≤j∧j<a.length:=by
 intro j c
 unfold U9 at c
 have f:=Vq (p:=fun y=>8≤y) _ _ (fun b x _ z d=>X1a _ b x z d) j c
 have e:=Vq (p:=fun y=>y<a.length) _ _ (fun b x i z d=>(Q52 g (by omega) _ b x (by
  have:=List.mem_of_mem_drop i
  simpa using this) z d).imp id (·.1)) j c
 exact ⟨f.resolve_left (by simp),e.resolve_left (by simp)⟩
end Go.Hm
namespace Go.Proofs.YtfppjenblllfaaaGreatDoor
open Go.Emb Go.RowKit Go.Kd Go.Hm
end Go.Proofs.YtfppjenblllfaaaGreatDoor

namespace Go.Hm
open Go.Kd
theorem Q7h {a:List Cla} {m:Nat} (b:m<a.length):Y3 a (X9 a m)=some m↔Y3 (a.take m) (X9 a m)=none:=by
 have e:X9 a m=a[m].name:=by unfold X9;rw[List.getD_eq_getElem?_getD,List.getElem?_eq_getElem b];rfl
 unfold Y3
 rw[List.findIdx?_eq_some_iff_getElem,List.findIdx?_eq_none_iff]
 constructor
 ·rintro ⟨k,i,g⟩ c f
  obtain ⟨j,d,rfl⟩:=List.mem_take_iff_getElem.1 f
  simpa using g j (by omega)
 ·intro h
  refine ⟨b,by simp[e],fun j d=>?_⟩
  simpa using h a[j] (List.mem_take_iff_getElem.2 ⟨j,by omega,rfl⟩)
theorem Q6N {a:List Cla} (d:G7 a) {m:Nat} (b:m<a.length):A0 a (X9 a m) (X9 a m)=G0 a a[m]:=by
 have c:X9 a m=a[m].name:=by unfold X9;rw[List.getD_eq_getElem?_getD,List.getElem?_eq_getElem b];rfl
 unfold A0 G0
 rw[Qt d b,List.getD_eq_getElem?_getD,List.getElem?_eq_getElem b]
 simp only[Option.getD_some,c]
end Go.Hm
namespace Go.Proofs.YtfppjenblllfaaaGreatDoor
open Go.Emb Go.RowKit Go.Kd Go.Hm
variable {w : World} {K : Value → World → Prop} {σ : Q5} {l : List Cla}
theorem Q7B: ∀c∈B7,Xz c=false:=by decide
theorem Q6V {c:Cla} (h:L8 c=0):Xz c=false:=by
 unfold L8 at h
 split at h
 ·cases h
 ·rename_i a;exact eq_false_of_ne_true a
set_option maxHeartbeats 4000000 in
theorem X1g {lv:Value} (hs:X4 w σ) (hl:Sl 8 U5 σ lv l) (cz:l.length≤900)
 (C: ∀i e w' B,Eb L8 l=some (i,e)→Stp w σ w' B→K (.tuple #[.slice none 0 0,I i,I e]) w')
 (h0: ∀v w' B,Eb L8 l=none→Stp w σ w' B→Sl 8 U5 B v (Q4 l)→Ok (Q4 l)→G7 (Q4 l)→K (.tuple #[v,I 0,I 0]) w'):Q0 P F.bv [lv] w K:=Pv (by
 unfold Oh
 have y:B7.length=8:=rfl
 have dp:(Q4 l).length=8+l.length:=by simp[Q4,y]
 refine Q81 hs fun x0 w1 σ1 bu bi=>?_
 refine Q6I bi ?_
 rw[y]
 refine D3 l.length (fun n x w'=> ∃B,Stp w σ w' B∧V7 w.heap.size T.a 8 U5 B w' x (B7++l.take n)∧L4 L8 l 0=L4 L8 (l.drop n) n)
  ⟨σ1,bu,by simpa using bi,rfl⟩ fun n x w4 d L f=>?_
 obtain ⟨σ4,Z,az,D⟩:=f
 have ac:=hl.up Z
 refine Q8 ac ?_
 refine Z1 ?_
 refine Q6 (fun hh=>?_) (fun hh=>?_)
 ·have a:n<l.length:=by simpa using hh
  obtain ⟨br,cc,ca,p1,r1⟩:=ac.elC a
  refine J0 ac a ?_
  refine Y9 Z.sat p1 rfl ?_
  refine Q2H Z.sat r1 fun w6 σ6 aa=>?_
  have bp:=Z.trans aa
  have Q:=Uk a D
  refine K1 ?_
  refine Q6 (fun m=>?_) (fun m=>?_)
  ·have t: ¬L8 l[n]=0:=by simpa using m
   rw[if_neg t] at Q
   refine C _ _ _ _ ?_ bp
   unfold Eb
   rw[Q]
  ·have hz:L8 l[n]=0:=by simpa using m
   rw[if_pos hz] at Q
   refine J0 (ac.up aa) a ?_
   refine Y9 aa.sat (p1.up aa) rfl ?_
   have co:=az.up aa
   have r6:=RCl_lift r1 ⟨aa.le⟩
   refine Jy (R:=U5) (x:=l[n]) bp co (by simpa [Value.cells] using r6) rfl rfl rfl (by simp[y];omega) (by simp[y];omega) fun s v' w9 σ9 ds o cp a3=>?_
   refine E4 ?_
   refine Z6 ac.max a ⟨σ9,o,?_,Q⟩
   rw[List.take_add_one,List.getElem?_eq_getElem a,←List.append_assoc]
   exact cp
 have a: ¬n<l.length:=by simpa using hh
 rw[List.take_of_length_le (by omega)] at az
 rw[List.drop_eq_nil_of_le (by omega)] at D
 have D:L4 L8 l 0=none:=D
 have b3:=F8 D
 have bg: ∀c∈l,T2 c∧Nm c∧c.name≠[]:=fun c hc=>Sh (b3 c hc)
 have q: ∀c∈Q4 l,T2 c:=fun c hc=>by
  rcases List.mem_append.1 hc with hc | hc
  ·exact (Yp c hc).1
  ·exact (bg c hc).1
 have a2: ∀c∈Q4 l,Nm c:=fun c hc=>by
  rcases List.mem_append.1 hc with hc | hc
  ·exact (Yp c hc).2.1
  ·exact (bg c hc).2.1
 have ab: ∀c∈Q4 l,Xz c=false:=fun c hc=>by
  rcases List.mem_append.1 hc with hc | hc
  ·exact Q7B c hc
  ·exact Q6V (b3 c hc)
 have ae:(Q4 l).length≤100000:=by omega
 unfold Eb at C h0
 rw[D] at C h0
 simp only at C h0
 obtain ⟨σ5,p,E,c4,c0⟩:=az.keep Z
 change Sl 8 U5 σ5 x (Q4 l) at E
 clear az Z ac a hh L D bi bu
 have A: ∀{n:Nat} (L:n<l.length),∃(h:8+n<(Q4 l).length),(Q4 l)[8+n]=l[n]:=fun {n} L=>⟨by omega,by
  unfold Q4
  rw[List.getElem_append_right (by rw[y];omega)]
  congr 1
  rw[y];omega⟩
 have bm: ∀{n:Nat} (L:n<l.length),X9 (Q4 l) (8+n)=l[n].name:=fun {n} L=>by
  obtain ⟨C,h2⟩:=A L
  rw[Fj C,h2]
 have b6: ∀j,j<8→(Y3 ((Q4 l).take j) (X9 (Q4 l) j)).isSome=false:=by
  have hd: ∀j,j<8→(Y3 (B7.take j) (X9 B7 j)).isSome=false:=by decide
  intro j hj
  have e1:(Q4 l).take j=B7.take j:=by unfold Q4;rw[List.take_append_of_le_length (by rw[y];omega)]
  have e2:X9 (Q4 l) j=X9 B7 j:=by
   unfold X9 Q4;rw[List.getD_eq_getElem?_getD,List.getD_eq_getElem?_getD,List.getElem?_append_left (by rw[y];omega)]
  rw[e1,e2];exact hd j hj
 refine J1 l.length (fun n w'=>Stp w σ w' σ5∧ ∀j,j<8+n→(Y3 ((Q4 l).take j) (X9 (Q4 l) j)).isSome=false) ⟨p,by simpa using b6⟩ fun n w5 d L f=>?_
 clear p
 obtain ⟨p,a4⟩:=f
 have ai:=hl.up p
 refine Q8 ai ?_
 refine Z1 ?_
 refine Q6 (fun hh=>?_) (fun hh=>?_)
 ·have a:n<l.length:=by simpa using hh
  obtain ⟨br,cc,ca,p1,r1⟩:=ai.elC a
  refine J0 ai a ?_
  (try simp only[↓M1,M1,Mb,reduceIte])
  refine ld p.sat p1 rfl ?_
  refine C2 p.sat E ?_
  rw[F4 (by omega) (by omega)]
  refine K1 ?_
  obtain ⟨V,e8⟩:=A a
  rw[←bm a]
  have cd:=Q7h V
  cases av:Y3 ((Q4 l).take (8+n)) (X9 (Q4 l) (8+n)) with
  | none=>
   rw[cd.2 av]
   have e:decide (W3 (some (8+n))=(8:Nat)+(n:Int))=true:=by simp[W3]
   rw[e]
   (try simp only[↓M1,M1,Mb,reduceIte])
   refine Y2 ai.max a ⟨p,fun j hj=>?_⟩
   by_cases ej:j=8+n
   ·rw[ej,av];rfl
   ·exact a4 j (by omega)
  | some i=>
   have t:Y3 (Q4 l) (X9 (Q4 l) (8+n))≠some (8+n):=fun e=>by rw[cd.1 e] at av;cases av
   have e:decide (W3 (Y3 (Q4 l) (X9 (Q4 l) (8+n)))=(8:Nat)+(n:Int))=false:=by
    rw[decide_eq_false_iff_not]
    intro e
    cases hf:Y3 (Q4 l) (X9 (Q4 l) (8+n)) with
    | none=>rw[hf] at e;simp only[W3] at e;omega
    | some k=>
     rw[hf] at e t
     simp only[W3] at e
     apply t
     congr 1;omega
   rw[e]
   (try simp only[↓M1,M1,Mb,reduceIte])
   have N:Eo (Q4 l)=some (8+n):=by
    unfold Eo
    rw[List.find?_range_eq_some]
    refine ⟨by rw[av];rfl,by simpa using V,fun j hj=>by rw[a4 j hj];rfl⟩
   refine C _ _ _ _ ?_ p
   rw[N]
   have:((8+n:Nat):Int)-8=n:=by omega
   simp only[this]
 have a: ¬n<l.length:=by simpa using hh
 have N:Eo (Q4 l)=none:=by
  unfold Eo
  rw[List.find?_eq_none]
  intro j hj
  rw[a4 j (by have:=List.mem_range.1 hj;omega)];simp
 rw[N] at C h0
 simp only at C h0
 have g:=Fo N
 clear a4 hh a L ai b6
 refine J1 l.length (fun n w'=> ∃B,Stp w σ w' B∧SLe σ5 B∧L4 (fun c=>(L5 (Q4 l) c:Int)) l 0=L4 (fun c=>(L5 (Q4 l) c:Int)) (l.drop n) n) ⟨σ5,p,SLe.refl _,rfl⟩ fun n w6 d L f=>?_
 obtain ⟨σ9,o,ax,ad⟩:=f
 have ao:=hl.up o
 refine Q8 ao ?_
 refine Z1 ?_
 refine Q6 (fun hh=>?_) (fun hh=>?_)
 ·have a:n<l.length:=by simpa using hh
  obtain ⟨br,cc,ca,p1,r1⟩:=ao.elC a
  refine J0 ao a ?_
  refine Y9 o.sat p1 rfl ?_
  have O:=Uk a ad
  refine Q7p o.sat (E.lift ax) r1 fun w8 cm ag=>?_
  refine K1 ?_
  refine Q6 (fun m=>?_) (fun m=>?_)
  ·have t: ¬(L5 (Q4 l) l[n]:Int)=0:=by simpa using m
   rw[if_neg t] at O
   refine C _ _ _ _ ?_ (o.trans ag)
   rw[O]
  ·have hz:(L5 (Q4 l) l[n]:Int)=0:=by simpa using m
   rw[if_pos hz] at O
   refine E4 ?_
   exact Y2 ao.max a ⟨cm,o.trans ag,ax.more ⟨ag.le⟩,O⟩
 have a: ¬n<l.length:=by simpa using hh
 rw[List.drop_eq_nil_of_le (by omega)] at ad
 have ad:L4 (fun c=>(L5 (Q4 l) c:Int)) l 0=none:=ad
 rw[ad] at C h0
 simp only at C h0
 have ch:=F8 ad
 clear hh a L p ao
 refine Ag o.sat (E.lift ax) g (by omega) (by omega) q fun vb di bn ah aq=>?_
 have b:=o.trans ah
 have bc:=ax.more ⟨ah.le⟩
 have a5:(C5 (Q4 l)).length=(Q4 l).length:=by simp[C5]
 refine J1 l.length (fun n w'=>Stp w σ w' bn∧ ∀j (hj:j<l.length),j<n→G0 (Q4 l) l[j]=false) ⟨b,fun j _ h=>by omega⟩ fun n c8 d L f=>?_
 clear b
 obtain ⟨b,a0⟩:=f
 have al:=hl.up b
 refine Q8 al ?_
 refine Z1 ?_
 refine Q6 (fun hh=>?_) (fun hh=>?_)
 ·have a:n<l.length:=by simpa using hh
  obtain ⟨V,e8⟩:=A a
  refine Cu ⟨by omega,by omega⟩ ?_
  have ec:((8:Nat):Int)+(n:Int)=((8+n:Nat):Int):=by omega
  rw[ec]
  obtain ⟨c6,pb,_,rv,rfl,rb⟩:=aq.el (i:=8+n) (by rw[a5];exact V)
  have b2:(C5 (Q4 l))[8+n]'(by rw[a5];exact V)=(List.range (Q4 l).length).map fun j=>A0 (Q4 l) (X9 (Q4 l) (8+n)) (X9 (Q4 l) j):=by simp[C5]
  rw[b2] at rb
  obtain ⟨cr,bh,_,an⟩:=rb.el (i:=8+n) (by simpa using V)
  have an:cr=_:=an
  subst an
  simp only[List.getElem_map,List.getElem_range] at bh
  rw[Q6N g V,e8] at bh
  refine J0 aq (by rw[a5];exact V) ?_
  refine X8 b.sat pb rfl ?_
  refine Cu ⟨by omega,by omega⟩ ?_
  rw[ec]
  refine J0 rb (by simpa using V) ?_
  refine X8 b.sat bh rfl ?_
  cases b1:G0 (Q4 l) l[n] with
  | true=>
   (try simp only[↓M1,M1,Mb,reduceIte])
   have bf:l.findIdx? (G0 (Q4 l))=some n:=by
    rw[List.findIdx?_eq_some_iff_getElem]
    exact ⟨a,b1,fun j hj=>by simpa using a0 j (by omega) hj⟩
   refine C _ _ _ _ ?_ b
   rw[bf]
  | false=>
   (try simp only[↓M1,M1,Mb,reduceIte])
   refine Y2 al.max a ⟨b,fun j hj df=>?_⟩
   by_cases e:j=n
   ·subst e;exact b1
   ·exact a0 j hj (by omega)
 have a: ¬n<l.length:=by simpa using hh
 have bd: ∀c∈l,G0 (Q4 l) c=false:=fun c hc=>by
  obtain ⟨j,hj,rfl⟩:=List.getElem_of_mem hc
  exact a0 j hj (by omega)
 have bf:l.findIdx? (G0 (Q4 l))=none:=by
  rw[List.findIdx?_eq_none_iff];exact bd
 rw[bf] at C h0
 simp only at C h0
 clear a0 hh a L al aq ah o a5
 have ar:=Q44 g (fun c hc=>(bg c hc).2.2) bd
 have am:Q9X (Q4 l):=fun c hc u hu=>by
  rcases List.mem_append.1 hc with hc | hc
  ·rw[(Yp c hc).2.2] at hu;simp at hu
  ·have:=ch c hc
   unfold L5 at this
   split at this
   ·simp at this
   ·split at this
    ·simp at this
    ·rename_i r
     have r:c.like.any (O7 (Q4 l))=false:=eq_false_of_ne_true r
     have:=List.any_eq_false.1 r u hu
     unfold O7 at this
     cases hd:lk (Q4 l) u with
     | none=>rw[hd] at this;simp at this
     | some d=>exact ⟨d,rfl⟩
 have cb:Ok (Q4 l):=⟨ar,ae,q,am,a2⟩
 have bs: ∀i (hi:i<(Q4 l).length),8≤i→ ∀u∈J4 (Q4 l)[i],∃j,Y3 (Q4 l) u=some j:=fun i hi V u hu=>by
  have ak:i-8<l.length:=by omega
  obtain ⟨dv,e8⟩:=A ak
  have cq:(Q4 l)[i]=l[i-8]:=by rw[←e8];congr 1;omega
  rw[cq] at hu
  have a8:=List.getElem_mem ak
  rcases List.mem_cons.1 hu with hu | hu
  ·have:=ch _ a8
   unfold L5 at this
   split at this
   ·simp at this
   ·rename_i r
    unfold P8 at r
    rw[←hu] at r
    cases hd:lk (Q4 l) u with
    | none=>rw[hd] at r;simp at r
    | some d=>obtain ⟨_,_,j,hj,_⟩:=U1 hd;exact ⟨j,hj⟩
  ·obtain ⟨d,hd⟩:=am _ (List.mem_append_right _ a8) u hu
   obtain ⟨_,_,j,hj,_⟩:=U1 hd;exact ⟨j,hj⟩
 refine Tv (R:=Un) (e:=T.e) b (by decide) fun c9 da be bb _=>?_
 refine D3 l.length (fun n x' w'=> ∃B H,Stp w σ w' B∧SLe σ5 B∧V7 w.heap.size T.e 1 Un B w' x' (ints H)∧Tf (Q4 l) H∧H=(((List.range (Q4 l).length).drop 8).take n).foldl (fun H i=>Qi (Q4 l) 8 H i) [])
  ⟨bn,[],b.trans be,bc,bb,⟨List.nodup_nil,by simp⟩,rfl⟩ fun n x' dd d L f=>?_
 clear bb be b bc ax
 obtain ⟨dm,H,W,U,ay,af,aj⟩:=f
 have ap:=hl.up W
 refine Q8 ap ?_
 refine Z1 ?_
 refine Q6 (fun hh=>?_) (fun hh=>?_)
 ·have a:n<l.length:=by simpa using hh
  obtain ⟨V,e8⟩:=A a
  refine Cu ⟨by omega,by omega⟩ ?_
  have ec:((8:Nat):Int)+(n:Int)=((8+n:Nat):Int):=by omega
  rw[ec]
  refine X10 ar g (by omega) q (by omega) bs ((Q4 l).length+1) V (Nat.lt_succ_of_le (Q0o _ _)) af W (E.lift U) ay fun dc de cj bz bq bv=>?_
  refine E4 ?_
  refine Z6 ap.max a ⟨cj,_,bz,U.more bq,bv,Gh ar g (by omega) _ _ _ V af,?_⟩
  rw[List.take_add_one,List.getElem?_drop,List.getElem?_range V,List.foldl_append,←aj]
  rfl
 have a: ¬n<l.length:=by simpa using hh
 have ck:n=l.length:=by omega
 subst ck
 have bk:H=U9 (Q4 l) 8:=by
  rw[aj,List.take_of_length_le (by rw[List.length_drop,List.length_range];omega)];rfl
 subst bk
 clear aj hh a L
 have c7:=af.len
 have cv:=Q9A g
 obtain ⟨b7,b8,cf,a6,_⟩:=ay.keep W
 have b9:=U.more ⟨a6⟩
 clear ay W a6 U ap
 have ak:(ints (U9 (Q4 l) 8)).length=(U9 (Q4 l) 8).length:=by simp
 refine J1 (U9 (Q4 l) 8).length (fun n w'=> ∃B,Stp w σ w' B∧SLe b7 B∧ ∀j∈(U9 (Q4 l) 8).take n,V2 (Q4 l) ((Q4 l).getD j Cla.zero)=0) ⟨b7,b8,SLe.refl _,by simp⟩ fun n dn d L f=>?_
 obtain ⟨du,M,Y,a1⟩:=f
 have X:=cf.lift Y
 refine Q8 X ?_
 rw[ak]
 refine Z1 ?_
 refine Q6 (fun hh=>?_) (fun hh=>?_)
 ·have a:n<(U9 (Q4 l) 8).length:=by simpa using hh
  have bo:n<(ints (U9 (Q4 l) 8)).length:=by rw[ak];exact a
  refine J0 X bo ?_
  obtain ⟨cs,pc,_,cl⟩:=X.el bo
  obtain ⟨rfl,_⟩:=cl
  simp only[List.getElem_map] at pc
  refine X8 M.sat pc rfl ?_
  have bl:=(cv _ (List.getElem_mem a)).2
  have a3:(Q4 l).getD (U9 (Q4 l) 8)[n] Cla.zero=(Q4 l)[(U9 (Q4 l) 8)[n]]:=by rw[List.getD_eq_getElem?_getD,List.getElem?_eq_getElem bl];rfl
  refine Q5X M.sat (E.lift (b9.more Y)) cb g (by omega) ab bl fun dh ce z=>?_
  have ba:=M.trans z
  refine K1 ?_
  refine Q6 (fun m=>?_) (fun m=>?_)
  ·have t: ¬V2 (Q4 l) (Q4 l)[(U9 (Q4 l) 8)[n]]=0:=by simpa using m
   have c2:=X.up z
   have bw:=pc.up z
   refine U8 z.sat ?_
   (repeat refine J5 P5 ?_)
   (intros;(repeat (rename_i hx;subst hx));(try simp only[↓M2,M2,Mb,reduceIte]))
   rename_i cu a7
   refine X8 a7.sat bw rfl ?_
   refine Du ⟨by omega,by omega⟩ ?_
   have J:(U9 (Q4 l) 8).find? (fun j=> !decide (V2 (Q4 l) ((Q4 l).getD j Cla.zero)=0))=some (U9 (Q4 l) 8)[n]:=by
    rw[List.find?_eq_some_iff_getElem]
    refine ⟨by rw[a3];simpa using t,n,a,rfl,fun j hj=>?_⟩
    have:=a1 _ (List.mem_take_iff_getElem.2 ⟨j,by omega,rfl⟩)
    rw[this];simp
   have:=C (((U9 (Q4 l) 8)[n]:Int)-8) (V2 (Q4 l) (Q4 l)[(U9 (Q4 l) 8)[n]]) cu ce (by rw[J];simp only[a3]) (ba.trans a7.stp)
   exact this
  ·have hz:V2 (Q4 l) (Q4 l)[(U9 (Q4 l) 8)[n]]=0:=by simpa using m
   refine E4 ?_
   refine Y2 (by omega) a ⟨ce,ba,Y.more ⟨z.le⟩,fun j hj=>?_⟩
   rw[List.take_add_one,List.getElem?_eq_getElem a] at hj
   rcases List.mem_append.1 hj with hj | hj
   ·exact a1 j hj
   ·simp at hj;subst hj;rw[a3];exact hz
 ·have a: ¬n<(U9 (Q4 l) 8).length:=by simpa using hh
  rw[List.take_of_length_le (by omega)] at a1
  have J:(U9 (Q4 l) 8).find? (fun j=> !decide (V2 (Q4 l) ((Q4 l).getD j Cla.zero)=0))=none:=by
   rw[List.find?_eq_none]
   intro j hj
   rw[a1 j hj];simp
  rw[J] at h0
  exact h0 _ _ _ rfl M (E.lift (b9.more Y)) cb g)
end Go.Proofs.YtfppjenblllfaaaGreatDoor

namespace Go.Hm
open Go.Kd
def Q7r:Ins:=⟨[105,110,116],1,[]⟩
def Aw:Ins:=⟨[114,101,116,117,114,110],0,[]⟩
def kA:X0:=[65]
def fX:Fld:=⟨[120],V5,false⟩
def Q0i:Fld:=⟨[110,101,120,116],kA,false⟩
def fL:Fld:=⟨[108],[65,91,93],false⟩
def mF:Hm.Met:=⟨[102],[V5,kA],V5,false,3,[Q7r,Aw],[]⟩
def mG:Hm.Met:=⟨[103],[],[],false,1,[Aw],[]⟩
def cA:Cla:=⟨kA,Z7,[],false,false,false,[fX,Q0i],[mF,mG]⟩
def cB:Cla:=⟨[66],kA,[[73]],false,false,false,[fL],[]⟩
def cI:Cla:=⟨[73],Z7,[],true,true,false,[],[]⟩
def cD:Cla:=⟨[68],Z7,[],false,true,false,[],[]⟩
def On:List Cla:=[cA,cB,cI,cD]
end Go.Hm
namespace Go.Proofs.YtfppjenblllfaaaGreatDoor
open Go.Emb Go.RowKit Go.Kd Go.Hm
variable {w w' : World} {K : Value → World → Prop} {σ σ' : Q5} {ds : List Value} {l : List Cla} {hp tv : Value}
set_option maxRecDepth 100000 in
theorem Q14:Eb L8 On=none:=by decide+kernel
theorem X0K: ∀c∈On,T2 c:=X1B (by decide)
theorem X12:Wf On:=X2q Q14
theorem Q9g:(Q4 On).length≤1000:=by decide
set_option maxHeartbeats 1000000 in
theorem Q3m (Y:X4 w σ) (h: ∀v w' σ',Stp w σ w' σ'→Sl 8 U5 σ' v On→K v w'):Q0 P F.ax [] w K:=Sq (by
 unfold Ju
 refine W1 (cells:= #[S Q7r.op,I 1,S []]) (by kernel_rfl) ?_
 refine W1 (cells:= #[S Aw.op,I 0,S []]) (by kernel_rfl) ?_
 refine D2 (R:=I8) (sz:=3) Y [.agg #[S Q7r.op,I 1,S []], .agg #[S Aw.op,I 0,S []]] [Q7r,Aw] rfl rfl (by simp;exact ⟨rfl,rfl⟩) rfl ⟨⟨rfl,by decide,by decide,by decide⟩,⟨rfl,by decide,by decide,by decide⟩,trivial⟩ fun v1 w1 σ1 q c=>?_
 refine W1 (cells:= #[S fX.name,S fX.kind, .bool false]) (by kernel_rfl) ?_
 refine W1 (cells:= #[S Q0i.name,S Q0i.kind, .bool false]) (by kernel_rfl) ?_
 refine D2 (R:=E2) (sz:=3) q.sat [.agg #[S fX.name,S fX.kind, .bool false], .agg #[S Q0i.name,S Q0i.kind, .bool false]] [fX,Q0i] rfl rfl (by simp;exact ⟨rfl,rfl⟩) rfl ⟨⟨rfl,by decide,by decide⟩,⟨rfl,by decide,by decide⟩,trivial⟩ fun v2 w2 σ2 i e=>?_
 refine D2 (R:=Y1) (sz:=1) i.sat [S V5,S kA] [V5,kA] rfl rfl (by simp;exact ⟨rfl,rfl⟩) rfl ⟨⟨rfl,by decide⟩,⟨rfl,by decide⟩,trivial⟩ fun v3 w3 σ3 f j=>?_
 have m:=c;have y:=e;have p:=j
 obtain ⟨E,U,rfl,_⟩:=m
 obtain ⟨O,M,rfl,_⟩:=y
 obtain ⟨Q,C,rfl,_⟩:=p
 have c:=(c.up i).up f
 have e:=e.up f
 refine W1 (cells:= #[S mF.name, .slice Q 2 C,S V5, .bool false,I 3, .slice E 2 U, .slice none 0 0]) (by kernel_rfl) ?_
 refine W1 (cells:= #[S Aw.op,I 0,S []]) (by kernel_rfl) ?_
 refine D2 (R:=I8) (sz:=3) f.sat [.agg #[S Aw.op,I 0,S []]] [Aw] rfl rfl (by simp;rfl) rfl ⟨⟨rfl,by decide,by decide,by decide⟩,trivial⟩ fun v4 w4 σ4 b u=>?_
 have o:=u
 obtain ⟨H,X,rfl,_⟩:=o
 refine W1 (cells:= #[S mG.name, .slice none 0 0,S [], .bool false,I 1, .slice H 1 X, .slice none 0 0]) (by kernel_rfl) ?_
 refine D2 (R:=M6) (sz:=7) b.sat [.agg #[S mF.name, .slice Q 2 C,S V5, .bool false,I 3, .slice E 2 U, .slice none 0 0], .agg #[S mG.name, .slice none 0 0,S [], .bool false,I 1, .slice H 1 X, .slice none 0 0]] [mF,mG] rfl rfl (by simp;exact ⟨rfl,rfl⟩) rfl
  ⟨⟨_,_,_,rfl,j.up b,c.up b,Sl.nil,by decide,by decide,by decide⟩,⟨_,_,_,rfl,Sl.nil,u,Sl.nil,by decide,by decide,by decide⟩,trivial⟩ fun v5 w5 σ5 g k=>?_
 have n:=k
 obtain ⟨N,J,rfl,_⟩:=n
 refine W1 (cells:= #[S kA,S Z7, .slice none 0 0, .bool false, .bool false, .bool false, .slice O 2 M, .slice N 2 J]) (by kernel_rfl) ?_
 refine D2 (R:=Y1) (sz:=1) g.sat [S [73]] [[73]] rfl rfl (by simp;rfl) rfl ⟨⟨rfl,by decide⟩,trivial⟩ fun v6 Z σ6 d t=>?_
 have s:=t
 obtain ⟨L,V,rfl,_⟩:=s
 refine W1 (cells:= #[S fL.name,S fL.kind, .bool false]) (by kernel_rfl) ?_
 refine D2 (R:=E2) (sz:=3) d.sat [.agg #[S fL.name,S fL.kind, .bool false]] [fL] rfl rfl (by simp;rfl) rfl ⟨⟨rfl,by decide,by decide⟩,trivial⟩ fun v7 w7 σ7 a z=>?_
 have r:=z
 obtain ⟨W,D,rfl,_⟩:=r
 refine W1 (cells:= #[S cB.name,S kA, .slice L 1 V, .bool false, .bool false, .bool false, .slice W 1 D, .slice none 0 0]) (by kernel_rfl) ?_
 refine W1 (cells:= #[S cI.name,S Z7, .slice none 0 0, .bool true, .bool true, .bool false, .slice none 0 0, .slice none 0 0]) (by kernel_rfl) ?_
 refine W1 (cells:= #[S cD.name,S Z7, .slice none 0 0, .bool false, .bool true, .bool false, .slice none 0 0, .slice none 0 0]) (by kernel_rfl) ?_
 refine D2 (R:=U5) (sz:=8) a.sat [.agg #[S kA,S Z7, .slice none 0 0, .bool false, .bool false, .bool false, .slice O 2 M, .slice N 2 J], .agg #[S cB.name,S kA, .slice L 1 V, .bool false, .bool false, .bool false, .slice W 1 D, .slice none 0 0], .agg #[S cI.name,S Z7, .slice none 0 0, .bool true, .bool true, .bool false, .slice none 0 0, .slice none 0 0], .agg #[S cD.name,S Z7, .slice none 0 0, .bool false, .bool true, .bool false, .slice none 0 0, .slice none 0 0]] On rfl rfl (by simp;exact ⟨rfl,rfl,rfl,rfl⟩) rfl
  ⟨⟨_,_,_,rfl,Sl.nil,(((e.up b).up g).up d).up a,(k.up d).up a,by decide,by decide⟩,⟨_,_,_,rfl,t.up a,z,Sl.nil,by decide,by decide⟩,⟨_,_,_,rfl,Sl.nil,Sl.nil,Sl.nil,by decide,by decide⟩,⟨_,_,_,rfl,Sl.nil,Sl.nil,Sl.nil,by decide,by decide⟩,trivial⟩ fun v8 w8 σ8 A B=>?_
 exact h _ _ _ ((((((((q.trans i).trans f).trans b).trans g).trans d).trans a)).trans A) B)
end Go.Proofs.YtfppjenblllfaaaGreatDoor

namespace Go.Proofs.YtfppjenblllfaaaGreatDoor
open Go.Emb Go.RowKit Go.Kd Go.Hm
variable {w w' : World} {K : Value → World → Prop} {σ σ' : Q5} {v u : Value}
theorem Q4k {xs ys:List X0} (y:X4 w σ) (c:Sl 1 Y1 σ v xs) (s:Sl 1 Y1 σ u ys) (h: ∀w',Below w.heap.size w w'→K (.bool (decide (xs=ys))) w'):Q0 P F.a2 [v,u] w K:=Wu (by
 have o:=c.max
 unfold P4
 refine Q8 c ?_
 refine Q8 s ?_
 refine K1 ?_
 by_cases k:xs.length=ys.length
 case neg=>
  rw[show (!decide ((xs.length:Int)=(ys.length:Nat)))=true from by simp;omega]
  refine V1 ?_
  have e:decide (xs=ys)=false:=decide_eq_false fun e=>k (by rw[e])
  rw[e] at h
  exact h _ (Below.refl _ _)
 rw[show (!decide ((xs.length:Int)=(ys.length:Nat)))=false from by simp[k]]
 refine V6 ?_
 first | refine Q8 c ?_ | skip
 refine J1 xs.length (fun i w'=>Stp w σ w' σ∧ ∀j (g:j<xs.length) (f:j<ys.length),j<i→xs[j]=ys[j]) ⟨Stp.refl y,fun _ _ _ h=>absurd h (Nat.not_lt_zero _)⟩ fun i w1 d z t=>?_
 obtain ⟨m,q⟩:=t
 first | refine Q8 c ?_ | skip
 refine Z1 ?_
 refine Q6 (fun l=>?_) (fun l=>?_)
 ·have b:i<xs.length:=by simpa using l
  have p:i<ys.length:=by omega
  obtain ⟨C,_⟩:=Sl.elS c b
  obtain ⟨B,_⟩:=Sl.elS s p
  refine U8 m.sat ?_
  (repeat refine J5 P5 ?_)
  (intros;(repeat (rename_i a;subst a));(try simp only[↓M2,M2,Mb,reduceIte]))
  rename_i A n
  have r:=m.trans n.stp
  by_cases a:xs[i]=ys[i]
  ·simp only[decide_eq_true a,Bool.not_true,Uz]
   (try simp only[↓M1,M1,Mb,reduceIte])
   exact Y2 o b ⟨r,fun j g f D=>by
    by_cases e:j=i
    ·subst e;exact a
    ·exact q j g f (by omega)⟩
  ·simp only[decide_eq_false a,Bool.not_false,Nh]
   have e:decide (xs=ys)=false:=decide_eq_false fun e=>a (by subst e;rfl)
   rw[e] at h
   exact h _ r.bel
 ·have E:i=xs.length:=by
   have: ¬i<xs.length:=by simpa using l
   omega
  have e:decide (xs=ys)=true:=decide_eq_true (List.ext_getElem k fun j g f=>q j g f (by omega))
  rw[e] at h
  exact h _ m.bel)
theorem Q3c {xs ys:List X0} (y:X4 w σ) (c:Sl 1 Y1 σ v xs) (s:Sl 1 Y1 σ u ys) (h: ∀w',Below w.heap.size w w'→K (.bool (decide (xs=ys))) w'):Q0 P F.aH [v,u] w K:=Pa (by
 have o:=c.max
 unfold Me
 refine Q8 c ?_
 refine Q8 s ?_
 refine K1 ?_
 by_cases k:xs.length=ys.length
 case neg=>
  rw[show (!decide ((xs.length:Int)=(ys.length:Nat)))=true from by simp;omega]
  refine V1 ?_
  have e:decide (xs=ys)=false:=decide_eq_false fun e=>k (by rw[e])
  rw[e] at h
  exact h _ (Below.refl _ _)
 rw[show (!decide ((xs.length:Int)=(ys.length:Nat)))=false from by simp[k]]
 refine V6 ?_
 first | refine Q8 c ?_ | skip
 refine J1 xs.length (fun i w'=>Stp w σ w' σ∧ ∀j (g:j<xs.length) (f:j<ys.length),j<i→xs[j]=ys[j]) ⟨Stp.refl y,fun _ _ _ h=>absurd h (Nat.not_lt_zero _)⟩ fun i w1 d z t=>?_
 obtain ⟨m,q⟩:=t
 first | refine Q8 c ?_ | skip
 refine Z1 ?_
 refine Q6 (fun l=>?_) (fun l=>?_)
 ·have b:i<xs.length:=by simpa using l
  have p:i<ys.length:=by omega
  obtain ⟨C,_⟩:=Sl.elS c b
  obtain ⟨B,_⟩:=Sl.elS s p
  refine U8 m.sat ?_
  (repeat refine J5 P5 ?_)
  (intros;(repeat (rename_i a;subst a));(try simp only[↓M2,M2,Mb,reduceIte]))
  rename_i A n
  have r:=m.trans n.stp
  by_cases a:xs[i]=ys[i]
  ·simp only[decide_eq_true a,Bool.not_true,Uz]
   (try simp only[↓M1,M1,Mb,reduceIte])
   exact Y2 o b ⟨r,fun j g f D=>by
    by_cases e:j=i
    ·subst e;exact a
    ·exact q j g f (by omega)⟩
  ·simp only[decide_eq_false a,Bool.not_false,Nh]
   have e:decide (xs=ys)=false:=decide_eq_false fun e=>a (by subst e;rfl)
   rw[e] at h
   exact h _ r.bel
 ·have E:i=xs.length:=by
   have: ¬i<xs.length:=by simpa using l
   omega
  have e:decide (xs=ys)=true:=decide_eq_true (List.ext_getElem k fun j g f=>q j g f (by omega))
  rw[e] at h
  exact h _ m.bel)
theorem Q8b (a b:Shp):decide (a=b)=((a.seen==b.seen)&&(decide (a.stack=b.stack)&&decide (a.locals=b.locals))):=by
 cases a;cases b
 rw[Bool.eq_iff_iff]
 simp[Shp.mk.injEq,and_assoc]
theorem Q6c {a b:Shp} {ds es:List Value} (y:X4 w σ) (t:U2 σ a ds) (z:U2 σ b es) (h: ∀w',Below w.heap.size w w'→K (.bool (decide (a=b))) w'):Q0 P F.c6 [.agg ds.toArray, .agg es.toArray] w K:=Q63 (by
 obtain ⟨sv,H,rfl,q,p⟩:=t
 obtain ⟨E,mv,rfl,r,o⟩:=z
 rw[Q8b] at h
 unfold Q0V
 refine Y7 y fun A w1 σ1 l j=>?_
 refine Y7 l.sat fun J B C e f=>?_
 have d:=j.up e
 have c:=l.trans e
 refine M9 ?_
 refine ld (i:=0) e.sat d rfl ?_
 refine M9 ?_
 refine ld (i:=0) e.sat f rfl ?_
 rw[Q3J]
 cases m:(a.seen==b.seen) with
 | false=>
  rw[m] at h
  (repeat refine Hd.h ?_)
  exact h _ c.bel
 | true=>
  rw[m,Bool.true_and] at h
  (repeat refine Hd.h ?_)
  refine ld (i:=1) e.sat d rfl ?_
  (repeat refine Hd.h ?_)
  refine ld (i:=1) e.sat f rfl ?_
  (repeat refine Hd.h ?_)
  refine Q4k e.sat (q.up c) (r.up c) fun L s=>?_
  have g:=Stp.of_below e.sat s
  cases k:decide (a.stack=b.stack) with
  | false=>
   rw[k] at h
   (repeat refine Hd.h ?_)
   exact h _ (c.trans g).bel
  | true=>
   rw[k,Bool.true_and] at h
   (repeat refine Hd.h ?_)
   refine ld (i:=2) g.sat d rfl ?_
   (repeat refine Hd.h ?_)
   refine ld (i:=2) g.sat f rfl ?_
   (repeat refine Hd.h ?_)
   refine Q4k g.sat (p.up c) (o.up c) fun D n=>?_
   (repeat refine Hd.h ?_)
   exact h _ (c.trans (g.trans (Stp.of_below g.sat n))).bel)
theorem Rf {a b:Shp} {ds es:List Value} (y:X4 w σ) (t:U2 σ a ds) (z:U2 σ b es) (h: ∀w',Below w.heap.size w w'→K (.bool (decide (a=b))) w'):Q0 P F.a8 [.agg ds.toArray, .agg es.toArray] w K:=Km (by
 obtain ⟨sv,H,rfl,q,p⟩:=t
 obtain ⟨E,mv,rfl,r,o⟩:=z
 rw[Q8b] at h
 unfold Mh
 refine Y7 y fun A w1 σ1 l j=>?_
 refine Y7 l.sat fun J B C e f=>?_
 have d:=j.up e
 have c:=l.trans e
 refine M9 ?_
 refine ld (i:=0) e.sat d rfl ?_
 refine M9 ?_
 refine ld (i:=0) e.sat f rfl ?_
 rw[Q3J]
 cases m:(a.seen==b.seen) with
 | false=>
  rw[m] at h
  (repeat refine Hd.h ?_)
  exact h _ c.bel
 | true=>
  rw[m,Bool.true_and] at h
  (repeat refine Hd.h ?_)
  refine ld (i:=1) e.sat d rfl ?_
  (repeat refine Hd.h ?_)
  refine ld (i:=1) e.sat f rfl ?_
  (repeat refine Hd.h ?_)
  refine Q3c e.sat (q.up c) (r.up c) fun L s=>?_
  have g:=Stp.of_below e.sat s
  cases k:decide (a.stack=b.stack) with
  | false=>
   rw[k] at h
   (repeat refine Hd.h ?_)
   exact h _ (c.trans g).bel
  | true=>
   rw[k,Bool.true_and] at h
   (repeat refine Hd.h ?_)
   refine ld (i:=2) g.sat d rfl ?_
   (repeat refine Hd.h ?_)
   refine ld (i:=2) g.sat f rfl ?_
   (repeat refine Hd.h ?_)
   refine Q3c g.sat (p.up c) (o.up c) fun D n=>?_
   (repeat refine Hd.h ?_)
   exact h _ (c.trans (g.trans (Stp.of_below g.sat n))).bel)
end Go.Proofs.YtfppjenblllfaaaGreatDoor

namespace Go.Hm
open Go.Kd
structure Dr where
  stack : List X0
  locals : List X0
  e : Int
deriving DecidableEq
def Dr.wrong (d:Dr) (ok:Bool) (e:Int):Dr:=if ok=true then d else if d.e=0 then ⟨d.stack,d.locals,e⟩ else d
def Dr.taken (d:Dr) (n:Nat):List X0:=if d.e=0∧n≤d.stack.length then d.stack.drop (d.stack.length-n) else List.replicate n []
def Dr.take (d:Dr) (n:Nat):Dr:=if d.e=0∧n≤d.stack.length then ⟨d.stack.take (d.stack.length-n),d.locals,0⟩ else d.wrong (decide (n≤d.stack.length)) 72
def Dr.put (d:Dr) (xs:List X0):Dr:=if d.e=0 then ⟨d.stack++xs,d.locals,0⟩ else d
def Dr.put1 (d:Dr) (k:X0):Dr:=if k=[] then d else d.put [k]
def Dr.all (l:List Cla) (d:Dr) (p:X0) (a:List X0):Dr:=((d.take a.length).wrong ((List.zipWith (W9 l) (d.taken a.length) a).all id) 73).put1 p
def inL (d:Dr) (n:Int):Bool:=decide (0≤n)&&decide (n<(d.locals.length:Int))
def Q3O (l:List Cla) (a:X0):Bool:=N0 l a&& !plain a
def Q57 (l:List Cla) (s:X0):Bool:= !decide (s=D0)&&N0 l s
inductive Dact where
  | puts (k : X0) | takes (p : X0) (w : List X0) | load | store | pop | dup | swap | size | nop | make | get | give | call | array | at_ | set_ | is | cast | ret | equal
deriving DecidableEq
def Q8L (l:List Cla) (c f:X0) (ok:Bool):Option (X0×X0):=if ok=true then (Xr l c f).map fun k=>(c,((M8 l c).getD k Fld.zero).kind) else none
def Fh (l:List Cla) (m:Hm.Met) (i:Ins) (c f:X0) (ok:Bool) (d:Dr):Dact→Dr
 | .puts k=>d.put [k]
 | .takes p w=>d.all l p w
 | .load=>
  let a:=d.wrong (inL d i.n) 74
  if a.e=0 then (let k:=a.locals.getD i.n.toNat [];let b:=a.wrong (!decide (k=[])) 74;if b.e=0 then b.put [k] else b) else a
 | .store=>
  let a:=d.wrong (inL d i.n) 74
  let b:=a.take 1
  if b.e=0 then ⟨b.stack,b.locals.set i.n.toNat ((a.taken 1).getD 0 []),0⟩ else b
 | .pop=>d.take 1
 | .dup=>(d.take 1).put [(d.taken 1).getD 0 [],(d.taken 1).getD 0 []]
 | .swap=>(d.take 2).put [(d.taken 2).getD 1 [],(d.taken 2).getD 0 []]
 | .size=>((d.take 1).wrong (!decide (elem ((d.taken 1).getD 0 [])=[])) 73).put [V5]
 | .nop=>d
 | .make=>let a:=d.wrong (Q9l l i.s) 76;if a.e=0 then a.put [i.s] else a
 | .get=>match Q8L l c f ok with
  | some (c,k)=>d.all l k [c]
  | none=>(d.wrong false 76).all l [] [[]]
 | .give=>match Q8L l c f ok with
  | some (c,k)=>d.all l [] [c,k]
  | none=>(d.wrong false 76).all l [] [[],[]]
 | .call=>match U0 l c f with
  | some (_,x)=>d.all l x.result (c::x.params)
  | none=>d.wrong false 76
 | .array=>((d.wrong (Q57 l i.s) 76).wrong (right (i.s++[91,93])) 76).all l (i.s++[91,93]) [V5]
 | .at_=>
  let t:=d.taken 2
  (((d.take 2).wrong (W9 l (t.getD 1 []) V5) 73).wrong (!decide (elem (t.getD 0 [])=[])) 73).put [elem (t.getD 0 [])]
 | .set_=>
  let t:=d.taken 3
  let a:=d.take 3
  let k:=if a.e=0 then elem (t.getD 0 []) else []
  ((a.wrong (!decide (k=[])) 73).wrong (W9 l (t.getD 2 []) k) 73).wrong (W9 l (t.getD 1 []) V5) 73
 | .is=>let a:=d.wrong (Q57 l i.s) 76;((a.take 1).wrong (Q3O l ((a.taken 1).getD 0 [])) 73).put [N3]
 | .cast=>let a:=d.wrong (Q57 l i.s) 76;((a.take 1).wrong (Q3O l ((a.taken 1).getD 0 [])) 73).put [i.s]
 | .ret=>if m.result=[] then d else d.all l [] [m.result]
 | .equal=>let t:=d.taken 2;(((d.take 2).wrong (Q3O l (t.getD 1 [])) 73).wrong (Q3O l (t.getD 0 [])) 73).put [N3]
def Q8T:List (X0×Dact):=[
 ([105,110,116], .puts V5),
 ([116,114,117,101], .puts N3),
 ([102,97,108,115,101], .puts N3),
 ([119,111,114,100], .puts O4),
 ([110,117,108,108], .puts D0),
 ([108,111,97,100], .load),
 ([115,116,111,114,101], .store),
 ([100,117,112], .dup),
 ([115,119,97,112], .swap),
 ([112,111,112], .pop),
 ([110,101,103], .takes V5 [V5]),
 ([110,111,116], .takes N3 [N3]),
 ([98,111,116,104], .takes N3 [N3,N3]),
 ([106,111,105,110], .takes O4 [O4,O4]),
 ([108,101,115,115], .takes N3 [V5,V5]),
 ([115,97,109,101], .takes N3 [V5,V5]),
 ([115,105,122,101], .size),
 ([106,117,109,112], .nop),
 ([98,114,97,110,99,104], .takes [] [N3]),
 ([110,101,119], .make),
 ([103,101,116], .get),
 ([112,117,116], .give),
 ([99,97,108,108], .call),
 ([97,114,114,97,121], .array),
 ([97,116], .at_),
 ([115,101,116], .set_),
 ([105,115], .is),
 ([99,97,115,116], .cast),
 ([114,101,116,117,114,110], .ret),
 ([116,104,114,111,119], .takes [] [V9]),
 ([111,117,116], .takes [] [V5]),
 ([101,113,117,97,108], .equal)]
def Q1F:List X0:=[[97,100,100],[115,117,98],[109,117,108],[100,105,118],[114,101,109],[97,110,100],[111,114],[120,111,114],[115,104,108],[115,104,114]]
def Gs:List (X0×Dact):=(Q1F.map fun o=>(o,Dact.takes V5 [V5,V5])).reverse++Q8T.reverse
def doM (l:List Cla) (m:Hm.Met) (i:Ins) (c f:X0) (ok:Bool) (s:Shp):Shp×Int:=
 match Gs.lookup i.op with
 | none=>(Shp.zero,76)
 | some a=>
  let d:=Fh l m i c f ok ⟨s.stack,s.locals,0⟩ a
  let b:=d.wrong (decide (d.stack.length≤24)) 72
  if b.e=0 then (⟨true,b.stack,b.locals⟩,0) else (Shp.zero,b.e)
theorem Dr.wrong_ok {d:Dr} {ok:Bool} {e:Int} (g:e≠0) (h:(d.wrong ok e).e=0):d.e=0∧ok=true∧d.wrong ok e=d:=by
 unfold Dr.wrong at*
 by_cases b:ok=true
 ·rw[if_pos b] at*;exact ⟨h,b,rfl⟩
 ·rw[if_neg b] at h
  by_cases a:d.e=0
  ·rw[if_pos a] at h;exact absurd h g
  ·rw[if_neg a] at h;exact absurd h a
section
variable {l : List Cla} {m : Hm.Met} {i : Ins} {c f : X0} {ok : Bool} {d : Dr}
theorem Dr.wrong2 {d:Dr} {a b:Bool} {e:Int}:(d.wrong a e).wrong b e=d.wrong (a&&b) e:=by
 unfold Dr.wrong
 cases a<;>cases b<;>simp<;>split<;>simp_all
end
end Go.Hm

namespace Go.Proofs.YtfppjenblllfaaaGreatDoor
open Go.Emb Go.RowKit Go.Kd Go.Hm
variable {w : World} {K : Value → World → Prop} {σ : Q5}
end Go.Proofs.YtfppjenblllfaaaGreatDoor

namespace Go.Emb
open Go.RowKit Go.Hm
variable {w w0 w1 w' w'' : World} {σ σ0 σ1 σ2 σ' : Q5}
theorem Stp.weak (h:Stp w σ1 w' σ2) (a: ∀b o,σ b=some o→σ1 b=some o):Stp w σ w' σ:=
 ⟨h.bel,fun b o e=>h.sat b o (h.le b o (a b o e)),fun _ _ e=>e,fun _ _=>rfl⟩
end Go.Emb
namespace Go.Proofs.YtfppjenblllfaaaGreatDoor
open Go.Emb Go.RowKit Go.Kd Go.Hm
variable {w : World} {K : Value → World → Prop} {σ : Q5}
end Go.Proofs.YtfppjenblllfaaaGreatDoor

namespace Go.Emb
open Go.RowKit Go.Hm
section
variable {P : Program} {w w' w0 : World} {σ σ' σ0 : Q5} {α : Type} {R : Q5 → α → List Value → Prop} {B sz : Nat} {e : TypeId} {v u : Value} {xs : List α} {K : Value → World → Prop}
theorem X2b {t:TypeId} {by_:Nat} {z:Value} [ts:TS P t e] [tz:TZ P e sz by_ z] (h:U6 B e sz R σ w v xs) {k:Nat} (y:k≤xs.length)
 (C: ∀o,U6 B e sz R σ w o (xs.take k)→o.ownBlock=v.ownBlock→K o w):H7 P t v none (some (I k)) (some (I k)) w K:=by
 obtain ⟨a,c,rfl,N,M,n,A⟩:=h
 have hh: ∀w:World,(Instr.sliceBounds true xs.length c none (some (I k)) (some (I k))).run P w= .ok (0,k,k) w:=by
  intro w
  have J:(k:Int)≤c:=by omega
  simp[Instr.sliceBounds,Instr.sliceBound,asIntOf,J]
 unfold H7
 have:(Instr.sliceAt t (.slice a xs.length c) none (some (I k)) (some (I k))).run P w= .ok (.slice (if k=0 then a else a.map (·.add (0*sz))) (k-0) (k-0)) w:=by
  simp[Instr.sliceAt,run_underlying ts.h,Instr.slice,hh,W5 tz]
 rw[Y0 this]
 have hv:(if k=0 then a else a.map (·.add (0*sz)))=a:=by
  split
  ·rfl
  ·cases a with
   | none=>rfl
   | some b=>simp[Addr.add]
 rw[hv,Nat.sub_zero]
 refine C _ ⟨a,k,by rw[List.length_take,Nat.min_eq_left y],by rw[List.length_take];omega,by omega,n,fun L=>?_⟩ (by cases a<;>rfl)
 obtain ⟨g,j,l,rfl,r,E,H,O,s⟩:=A (by omega)
 have q:k*sz≤c*sz:=Nat.mul_le_mul_right _ (by omega)
 refine ⟨g,j,l,rfl,r,E,H,by omega,fun i x f=>?_⟩
 rw[List.getElem?_take] at f
 split at f
 ·exact s i x f
 ·cases f
theorem U6.updD {b:Nat} (h:U6 B e sz R σ w v xs) (u:Upd w b w') (a:v.ownBlock≠some b):U6 B e sz R σ w' v xs:=
 h.kp (D:=fun j=>j=b) (Kpt.of_upd u rfl) fun k c e=>a (e▸c)
end
end Go.Emb
namespace Go.Proofs.YtfppjenblllfaaaGreatDoor
open Go.Emb Go.RowKit Go.Kd Go.Hm
variable {w w' : World} {K : Value → World → Prop} {σ σ' : Q5} {v u : Value}
theorem Q2M {xs:List X0} (g:X4 w σ) (hv:Sl 1 Y1 σ v xs) (y:xs.length≤1000000)
 (h: ∀j w',Stp w σ w' σ→V7 w.heap.size T.b 1 Y1 σ w' j xs→K j w'):Q0 P F.b [v] w K:=K3 (by
 unfold R5
 have b:=hv
 obtain ⟨a,o,rfl,C,E,k,J⟩:=hv
 refine Bc rfl ?_
 refine Q6 (fun f=>?_) (fun f=>?_)
 ·have:a=none:=by simpa using f
  subst this
  have r:=k rfl
  subst r
  have t:xs=[]:=List.eq_nil_of_length_eq_zero (by omega)
  subst t
  exact h _ w (Stp.refl g) V7.nil
 ·refine Qc (R:=Y1) (sz:=1) (Stp.refl g) [] [] rfl rfl (by simp) (by rfl) trivial fun z w1 n q _=>?_
  refine app n q b (by rfl) (by simp only[List.length_nil];omega) (by simp only[List.length_nil];omega) fun H l A s c _=>?_
  exact h _ l s c)
theorem Q9W {B:Nat} {xs:List X0} (q:X4 w σ) (hv:U6 B T.b 1 Y1 σ w v xs) (c:xs.length≤1000000)
 (h: ∀a w' σ',Stp w σ w' σ'→Sl 1 Y1 σ' a xs→K a w'):Q0 P F.b [v] w K:=by
 obtain ⟨s,l,b,f,_⟩:=hv.freeze q
 refine Q2M l f c fun a w' g n=>?_
 have r:=g.weak b.le
 have o:=(U6.of_acc n).down b fun _ _ h=>h
 obtain ⟨σ',k,j,_,_⟩:=o.keep (w0:=w) (σ0:=σ) r
 exact h a w' σ' k j
structure DrIs (B : Nat) (D : Nat → Prop) (σ : Q5) (w : World) (p tv pv cv hv : Value) (m : Hm.Met) (i : Ins) (d : Dr) : Prop where
  ex : ∃ b sv lv, p = .pointer (some ⟨b, 0, none⟩) ∧ B ≤ b ∧ Z5 σ w b [tv, S m.name, pv, S m.result, .bool m.abs, I m.locals, cv, hv, S i.op, I i.n, S i.s, .bool true, sv, lv, I d.e] ∧ U6 B T.b 1 Y1 σ w sv d.stack ∧ U6 B T.b 1 Y1 σ w lv d.locals ∧ (∀ k, sv.ownBlock = some k → k ≠ b ∧ lv.ownBlock ≠ some k) ∧ (∀ k, lv.ownBlock = some k → k ≠ b) ∧ ∀ k, D k ↔ (k = b ∨ sv.ownBlock = some k ∨ lv.ownBlock = some k)
section
variable {B : Nat} {D : Nat → Prop} {p tv pv cv hv : Value} {m : Hm.Met} {i : Ins} {d : Dr}
theorem DrIs.mem (h:DrIs B D σ w p tv pv cv hv m i d) {k:Nat} (hk:D k):B≤k∧k<w.heap.size∧σ k=none:=by
 obtain ⟨b,sv,g,rfl,hB,a,f,c,_,_,hD⟩:=h.ex
 rcases (hD k).1 hk with rfl | hk | hk
 ·exact ⟨hB,a.lt,a.1⟩
 ·exact f.mem hk
 ·exact c.mem hk
theorem DrIs.nx {F:Nat→Prop} (h:DrIs B D σ w p tv pv cv hv m i d) (k:Nxt F w σ w' σ') (c: ∀j,D j→ ¬F j):DrIs B D σ' w' p tv pv cv hv m i d:=by
 obtain ⟨b,sv,g,rfl,hB,f,q,l,o,n,hD⟩:=h.ex
 exact ⟨b,sv,g,rfl,hB,f.nx k (c b ((hD b).2 (.inl rfl))),q.nx k fun j a=>c j ((hD j).2 (.inr (.inl a))),l.nx k fun j a=>c j ((hD j).2 (.inr (.inr a))),o,n,hD⟩
theorem DrIs.up (h:DrIs B D σ w p tv pv cv hv m i d) (k:Stp w σ w' σ'):DrIs B D σ' w' p tv pv cv hv m i d:=
 h.nx (F:=fun _=>False) (.of_stp k) fun _ _=>id
theorem Nxt.rfl0 (a:X4 w σ):Nxt D w σ w σ:= .of_stp (Stp.refl a)
theorem Nxt.updD (f:X4 w σ) {b:Nat} (u:Upd w b w') (h:σ b=none) (g:D b):Nxt D w σ w' σ:=
 ⟨Kpt.of_upd u g,SLe.refl _,fun _ _=>rfl,fun k o c=>by
  have a:k≠b:=fun e=>by subst e;rw[h] at c;cases c
  rw[u.block k a];exact f k o c⟩
theorem Q2J {ok:Bool} {e:Int} (n:X4 w σ) (h:DrIs B D σ w p tv pv cv hv m i d)
 (hh: ∀w',Nxt D w σ w' σ→DrIs B D σ w' p tv pv cv hv m i (d.wrong ok e)→K (.bool (decide ((d.wrong ok e).e=0))) w'):Q0 P F.am [p, .bool ok,I e] w K:=Ka (by
 have s:=h
 obtain ⟨b,sv,z,rfl,hB,c,C,t,r,q,hD⟩:=h.ex
 unfold Mc
 refine Zz (fun _ w'=>Nxt D w σ w' σ∧DrIs B D σ w' (.pointer (some ⟨b,0,none⟩)) tv pv cv hv m i (d.wrong ok e)) ?_ (fun _ M w1 y=>?_)
 ·cases ok with
  | true=>
   simp only[Bool.not_true,↓M1,M1,Mb,reduceIte]
   exact ⟨Nxt.rfl0 n,s⟩
  | false=>
   simp only[Bool.not_false,↓M1,M1,Mb,reduceIte]
   refine Yv (i:=14) c rfl ?_
   by_cases a:d.e=0
   ·simp only[decide_eq_true a,↓M1,M1,Mb,reduceIte]
    refine Mn (i:=14) c (by simp) rfl rfl fun L l g=>?_
    have f:d.wrong false e=⟨d.stack,d.locals,e⟩:=by unfold Dr.wrong;rw[if_neg (by simp),if_pos a]
    rw[f]
    exact ⟨Nxt.updD n l c.1 ((hD b).2 (.inl rfl)),b,sv,z,rfl,hB,g,C.updD l fun e=>(r b e).1 rfl,t.updD l fun e=>q b e rfl,r,q,hD⟩
   ·simp only[decide_eq_false a,↓M1,M1,Mb,reduceIte]
    have f:d.wrong false e=d:=by unfold Dr.wrong;rw[if_neg (by simp),if_neg a]
    rw[f]
    exact ⟨Nxt.rfl0 n,s⟩
 ·obtain ⟨N,o⟩:=y
  have k:=o
  obtain ⟨J,H,E,A,_,j,_⟩:=o.ex
  cases A
  simp only[↓M1,M1,Mb,reduceIte]
  refine Yv (i:=14) j rfl ?_
  simp only[↓M1,M1,Mb,reduceIte]
  exact hh w1 N k)
theorem X2s {ys:List X0} (Z:X4 w σ) (hB:B≤w.heap.size) (h:DrIs B D σ w p tv pv cv hv m i d) (hy:Sl 1 Y1 σ v ys) (hl:d.stack.length+ys.length≤1000000)
 (hh: ∀w' Y,Nxt D w σ w' σ→DrIs B Y σ w' p tv pv cv hv m i (d.put ys)→(∀j,Y j→D j∨w.heap.size≤j)→K (.tuple #[]) w'):Q0 P F.bI [p,v] w K:=Q0v (by
 have h0:=h
 obtain ⟨b,sv,N,rfl,M,l,hq,q,C,W,hD⟩:=h.ex
 unfold Ox
 rw[E9]
 refine M9 ?_
 refine Yv (i:=14) l rfl ?_
 refine Ro ?_
 by_cases s:d.e=0
 case neg=>
  rw[decide_eq_false s]
  refine V6 ?_
  have H:d.put ys=d:=by unfold Dr.put;rw[if_neg s]
  rw[H] at hh
  exact hh w D (Nxt.rfl0 Z) h0 fun j hj=> .inl hj
 rw[decide_eq_true s]
 rw[s] at l
 refine V1 ?_
 have H:d.put ys=⟨d.stack++ys,d.locals,0⟩:=by unfold Dr.put;rw[if_pos s]
 rw[H] at hh
 simp only[↓M1,M1,Mb,reduceIte]
 refine Yv (i:=12) l rfl ?_
 refine Q1Q Z hB hq hy (by rfl) (by omega) (by omega) fun z J O A n E=>?_
 have g: ∀k,z.ownBlock=some k→sv.ownBlock=some k∨w.heap.size≤k:=fun k f=>by
  rcases E with ⟨a,af,ea,eb⟩ | ⟨_,y⟩
  ·left;rw[ea];rw[eb] at f;cases a<;>exact f
  ·exact .inr (y k f)
 have o:Kpt (fun k=>sv.ownBlock=some k) w J:=O.mono fun k _ e=>e.1
 have t:Z5 σ J b _:=⟨l.1,by obtain ⟨e,he⟩:=l.2;exact ⟨e,(o.block b l.lt fun e=>(C b e).1 rfl).trans he⟩⟩
 have V:=q.kp o fun k f e=>(C k e).2 f
 rw[Sx]
 refine Mn (i:=12) t (by simp) (by obtain ⟨a,c,rfl,_⟩:=n;rfl) (by obtain ⟨a,c,rfl,_⟩:=n;rfl) fun w3 L Q=>?_
 have X:=l.lt
 have r: ∀k,z.ownBlock=some k→k≠b:=fun k f e=>by
  rcases g k f with h | h
  ·exact (C k h).1 e
  ·omega
 have U: ∀k,z.ownBlock=some k→N.ownBlock≠some k:=fun k f e=>by
  rcases g k f with h | h
  ·exact (C k h).2 e
  ·have:=(q.mem e).2.1;omega
 have N2:Nxt D w σ J σ:=⟨o.mono fun k _ e=>(hD k).2 (.inr (.inl e)),SLe.refl _,fun _ _=>rfl,A⟩
 refine hh w3 (fun k=>k=b∨z.ownBlock=some k∨N.ownBlock=some k) (N2.trans (Nxt.updD A L t.1 ((hD b).2 (.inl rfl)))) ⟨b,z,N,rfl,M,Q,n.updD L fun e=>r b e rfl,V.updD L fun e=>W b e rfl,fun k f=>⟨r k f,U k f⟩,W,fun k=>Iff.rfl⟩ fun j hj=>?_
 rcases hj with rfl | hj | hj
 ·exact .inl ((hD _).2 (.inl rfl))
 ·exact (g j hj).imp (fun h=>(hD j).2 (.inr (.inl h))) id
 ·exact .inl ((hD j).2 (.inr (.inr hj))))
end
end Go.Proofs.YtfppjenblllfaaaGreatDoor

namespace Go.Proofs.YtfppjenblllfaaaGreatDoor
open Go.Emb Go.RowKit Go.Kd Go.Hm
variable {w w' : World} {K : Value → World → Prop} {σ σ' : Q5} {v u : Value} {B : Nat} {D : Nat → Prop} {p tv pv cv hv : Value} {m : Hm.Met} {i : Ins} {d : Dr} {l : List Cla}
set_option maxHeartbeats 1000000 in
theorem X1Y {n:Nat} (hs:X4 w σ) (h:DrIs B D σ w p tv pv cv hv m i d) (hl:d.stack.length≤1000000) (hn:n≤2000000)
 (hh: ∀v w' σ',Nxt D w σ w' σ'→DrIs B D σ' w' p tv pv cv hv m i (d.take n)→Sl 1 Y1 σ' v (d.taken n)→K v w'):Q0 P F.bx [p,I n] w K:=Aj (by
 have h0:=h
 obtain ⟨b,sv,lv,rfl,hB,hm,hq,af,h1,h2,hD⟩:=h.ex
 unfold Ob
 simp only[↓M1,M1,Mb,reduceIte]
 refine Yv (i:=12) hm rfl ?_
 refine Bs hq ?_
 refine Xe ?_
 rw[show decide ((n:Int)≤(d.stack.length:Nat))=decide (n≤d.stack.length) from decide_eq_decide.2 (by omega)]
 refine Q2J hs h0 fun w1 z A=>?_
 by_cases j:d.e=0∧n≤d.stack.length
 case neg=>
  have E:d.take n=d.wrong (decide (n≤d.stack.length)) 72:=by unfold Dr.take;rw[if_neg j]
  have Y:d.taken n=List.replicate n []:=by unfold Dr.taken;rw[if_neg j]
  have he: ¬(d.wrong (decide (n≤d.stack.length)) 72).e=0:=fun e=>by
   obtain ⟨k1,k2,_⟩:=Dr.wrong_ok (by decide) e
   exact j ⟨k1,by simpa using k2⟩
  rw[E,Y] at hh
  rw[decide_eq_false he]
  simp only[Bool.not_false,↓M1,M1,Mb,reduceIte]
  refine X21 (R:=Y1) (sz:=1) ([]:X0) z.sat (by kernel_rfl) (by decide) ⟨rfl,by decide⟩ (by omega) (by omega) fun v2 w2 O Q _=>?_
  obtain ⟨X,Z,q3,al,_⟩:=Q.keep O
  exact hh v2 w2 X (z.trans (.of_stp Z)) (A.up Z) q3
 have ew:d.wrong (decide (n≤d.stack.length)) 72=d:=by rw[decide_eq_true j.2];rfl
 have E:d.take n=⟨d.stack.take (d.stack.length-n),d.locals,0⟩:=by unfold Dr.take;rw[if_pos j]
 have Y:d.taken n=d.stack.drop (d.stack.length-n):=by unfold Dr.taken;rw[if_pos j]
 rw[ew] at A⊢
 rw[E,Y] at hh
 rw[decide_eq_true j.1]
 simp only[Bool.not_true,↓M1,M1,Mb,reduceIte]
 have ay:=A
 obtain ⟨b',ax,U,e1,V,g,o,t,g1,g2,y⟩:=A.ex
 cases e1
 rw[j.1] at g
 refine Yv (i:=12) g rfl ?_
 refine Bs o ?_
 refine X0i ?_
 rw[F4 (by omega) (by omega),show (d.stack.length:Int)-(n:Int)=((d.stack.length-n:Nat):Int) by omega]
 refine Yv (i:=12) g rfl ?_
 refine X0g o (d.stack.length-n) (by omega) fun v2 H _=>?_
 refine Q9W z.sat H (by rw[List.length_drop];omega) fun v3 w3 X f C=>?_
 have r:=g.up f
 have W:=o.up f
 have N:=t.up f
 refine Yv (i:=12) r rfl ?_
 refine X2b W (k:=d.stack.length-n) (by omega) fun v4 q s=>?_
 rw[Sx]
 refine Mn (i:=12) r (by simp) (by obtain ⟨a,c,rfl,_⟩:=q;rfl) (by obtain ⟨a,c,rfl,_⟩:=q;rfl) fun w5 M J=>?_
 have L:=z.trans (Nxt.of_stp (D:=D) f)
 refine hh v3 w5 X (L.trans (Nxt.updD f.sat M r.1 ((y b).2 (.inl rfl)))) ⟨b,v4,U,rfl,V,J,q.updD M fun e=>(g1 b (by rw[←s];exact e)).1 rfl,N.updD M fun e=>g2 b e rfl,fun k hk=>g1 k (by rw[←s];exact hk),g2,fun k=>by rw[s];exact y k⟩ C)
theorem X13 {a c:X0} (s:X4 w σ) (h:DrIs B D σ w p tv pv cv hv m i d) (k:Tab σ tv l) (ok:Ok l) (r:a.length≤Z9) (t:c.length≤Z9)
 (hh: ∀w' σ',Nxt D w σ w' σ'→DrIs B D σ' w' p tv pv cv hv m i (d.wrong (W9 l a c) 73)→K (.tuple #[]) w'):Q0 P F.bp [p,S a,S c] w K:=Pe (by
 have q:=h
 obtain ⟨b,sv,A,rfl,hB,f,C,j,z,y,hD⟩:=h.ex
 unfold Mi
 rw[E9]
 refine M9 ?_
 refine Yv (i:=0) f rfl ?_
 refine Q3N s k ok r t fun w1 σ1 e=>?_
 refine Q2J e.sat (q.up e) fun o g n=>?_
 exact hh o σ1 ((Nxt.of_stp e).trans g) n)
def dnM (y:Value):Nat:=match y with
 | .int _ z=>(z+1).toNat
 | _=>0
set_option maxHeartbeats 1000000 in
theorem X2i {q:X0} {ys:List X0} (hs:X4 w σ) (hB:B≤w.heap.size) (h:DrIs B D σ w p tv pv cv hv m i d) (ht:Tab σ tv l) (ok:Ok l) (X:Sl 1 Y1 σ v ys) (hq:q.length≤Z9) (hl:d.stack.length≤100000) (hn:ys.length≤2000000)
 (hh: ∀w' σ' D',Nxt D w σ w' σ'→DrIs B D' σ' w' p tv pv cv hv m i (d.all l q ys)→(∀j,D' j→D j∨w.heap.size≤j)→K (.tuple #[]) w'):Q0 P F.a6 [p,S q,v] w K:=Q0x (by
 unfold Ou
 refine Q8 X ?_
 refine X1Y hs h (by omega) (by omega) fun ac w1 σ1 s d1 n=>?_
 have C:(d.taken ys.length).length=ys.length:=by
  unfold Dr.taken
  split
  ·rename_i hc;rw[List.length_drop];omega
  ·simp
 have Q:=X.lift s.le
 have O:=ht.lift s.le
 have L:(d.take ys.length).stack.length≤d.stack.length:=by
  unfold Dr.take
  split
  ·rw[List.length_take];omega
  ·unfold Dr.wrong;split
   ·exact Nat.le_refl _
   ·split<;>exact Nat.le_refl _
 refine Q8 n ?_
 refine X0i ?_
 rw[C,F4 (by omega) (by omega)]
 refine Zw (fun x w'=> ∃(k:Nat) (σ':Q5),x=I ((k:Int)-1)∧k≤ys.length∧Nxt D w1 σ1 w' σ'∧DrIs B D σ' w' p tv pv cv hv m i ((d.take ys.length).wrong (((List.zipWith (W9 l) (d.taken ys.length) ys).drop k).all id) 73)) (fun x _=>dnM x) ⟨ys.length,σ1,rfl,Nat.le_refl _,Nxt.rfl0 s.sat,by
  rw[List.drop_of_length_le (by simp;omega)];exact d1⟩ ?_
 rintro _ dd Y ⟨k,Z,rfl,hk,c,r⟩
 refine Xe ?_
 by_cases U:k=0
 ·subst U
  rw[show decide ((0:Int)≤((0:Nat):Int)-1)=false from by decide]
  refine V6 ?_
  rw[List.drop_zero] at r
  refine Wo ?_
  have a:=s.trans c
  have eb: ∀w' σ',Nxt D Y Z w' σ'→B≤w'.heap.size:=fun w' σ' N=>Nat.le_trans hB (Nat.le_trans a.kp.size N.kp.size)
  by_cases b:q=[]
  ·have t:d.all l q ys=(d.take ys.length).wrong ((List.zipWith (W9 l) (d.taken ys.length) ys).all id) 73:=by unfold Dr.all Dr.put1;rw[if_pos b]
   rw[t] at hh
   rw[show (!decide (q=[]))=false from by simp[b]]
   refine V6 ?_
   exact hh Y Z D a r fun j V=> .inl V
  ·have t:d.all l q ys=((d.take ys.length).wrong ((List.zipWith (W9 l) (d.taken ys.length) ys).all id) 73).put [q]:=by unfold Dr.all Dr.put1;rw[if_neg b]
   rw[t] at hh
   rw[show (!decide (q=[]))=true from by simp[b]]
   refine V1 ?_
   refine D2 (R:=Y1) (sz:=1) c.sat [S q] [q] rfl rfl (by simp;rfl) rfl ⟨⟨rfl,hq⟩,trivial⟩ fun v3 w3 σ3 g A=>?_
   have ag:((d.take ys.length).wrong ((List.zipWith (W9 l) (d.taken ys.length) ys).all id) 73).stack.length≤d.stack.length:=by
    have e:((d.take ys.length).wrong ((List.zipWith (W9 l) (d.taken ys.length) ys).all id) 73).stack=(d.take ys.length).stack:=by
     unfold Dr.wrong;split
     ·rfl
     ·split<;>rfl
    rw[e];exact L
   refine X2s g.sat (Nat.le_trans hB (Nat.le_trans a.kp.size g.bel.size)) (r.up g) A (by simp only[List.length_cons,List.length_nil];omega) fun w4 D4 H o y=>?_
   refine hh w4 σ3 D4 ((a.trans (.of_stp g)).trans H) o fun j V=>(y j V).imp id fun e=>Nat.le_trans a.kp.size (Nat.le_trans g.bel.size e)
 ·rw[decide_eq_true (show (0:Int)≤(k:Int)-1 by omega)]
  refine V1 ?_
  obtain ⟨j,rfl⟩: ∃j,k=j+1:=⟨k-1,by omega⟩
  rw[show (((j+1:Nat):Int)-1)=(j:Int) by omega]
  have W:j<(d.taken ys.length).length:=by omega
  have M:j<ys.length:=by omega
  have E:=n.lift c.le
  have z:=Q.lift c.le
  have J:=O.lift c.le
  obtain ⟨t,f1⟩:=Sl.elS E W
  obtain ⟨e2,f2⟩:=Sl.elS z M
  refine U8 c.sat ?_
  (repeat refine J5 P5 ?_)
  (intros;(repeat (rename_i hx;subst hx));(try simp only[↓M2,M2,Mb,reduceIte]))
  rename_i w3 f
  refine X13 f.sat (r.up f.stp) J ok f1 f2 fun w4 σ4 H o=>?_
  rw[F4 (by omega) (by omega)]
  rw[Dr.wrong2] at o
  have ed:(((List.zipWith (W9 l) (d.taken ys.length) ys).drop (j+1)).all id&&W9 l (d.taken ys.length)[j] ys[j])=((List.zipWith (W9 l) (d.taken ys.length) ys).drop j).all id:=by
   rw[List.drop_eq_getElem_cons (i:=j) (by simp;omega),List.all_cons,Bool.and_comm]
   simp
  rw[ed] at o
  refine ⟨⟨j,σ4,rfl,by omega,(c.trans (.of_stp f.stp)).trans H,o⟩,?_⟩
  simp only[dnM]
  omega)
end Go.Proofs.YtfppjenblllfaaaGreatDoor

namespace Go.Proofs.YtfppjenblllfaaaGreatDoor
open Go.Emb Go.RowKit Go.Kd Go.Hm
variable {w w' w0 : World} {K : Value → World → Prop} {σ σ' σ0 : Q5} {v u : Value}
def O9 (f:Nat):Value:= .func (.func f) #[] #[]
def Ih (σ:Q5) (a:Dact) (v:Value):Prop:=match a with
 | .puts k=> ∃q,v= .func (.func F.cM) #[] #[.pointer (some q)]∧Z3 σ q [S k]∧k.length≤Z9
 | .takes p ys=>(∃q r b,v= .func (.func F.c9) #[] #[.pointer (some q), .pointer (some r)]∧Z3 σ q [S p]∧Z3 σ r [b]∧Sl 1 Y1 σ b ys∧p.length≤Z9)∨(v=O9 F.bc∧p=V5∧ys=[V5,V5])∨(v=O9 F.aB∧p=N3∧ys=[V5,V5])
 | .load=>v=O9 F.ch
 | .store=>v=O9 F.ca
 | .pop=>v=O9 F.cI
 | .dup=>v=O9 F.ct
 | .swap=>v=O9 F.ci
 | .size=>v=O9 F.cj
 | .nop=>v=O9 F.cJ
 | .make=>v=O9 F.c7
 | .get=>v=O9 F.cu
 | .give=>v=O9 F.ck
 | .call=>v=O9 F.cl
 | .array=>v=O9 F.cb
 | .at_=>v=O9 F.cB
 | .set_=>v=O9 F.cv
 | .is=>v=O9 F.cC
 | .cast=>v=O9 F.cm
 | .ret=>v=O9 F.cn
 | .equal=>v=O9 F.cc
theorem Ih.lift {a:Dact} (h:Ih σ a v) (k:SLe σ σ'):Ih σ' a v:=by
 cases a with
 | puts s=>obtain ⟨q,c,b,d⟩:=h;exact ⟨q,c,b.lift k,d⟩
 | takes p ys=>
  rcases h with ⟨q,r,e,c,b,d,g,f⟩ | h
  ·exact .inl ⟨q,r,e,c,b.lift k,d.lift k,g.lift k,f⟩
  ·exact .inr h
 | _=>exact h
def Ge (σ:Q5) (c:List (List UInt8×Value)) (b:List (X0×Dact)):Prop:= ∀k,match b.lookup k with
 | none=>M3 c k=none
 | some a=> ∃v,M3 c k=some v∧Ih σ a v
theorem Q9I (b:List (List UInt8×Value)) (k x:List UInt8) (v:Value):M3 (Xd b k v) x=if k=x then some v else M3 b x:=by
 induction b with
 | nil=>simp[Xd,M3]
 | cons p r c=>
  unfold Xd
  split
  ·rename_i h
   simp only[M3]
   split
   ·rfl
   ·rename_i a;rw[if_neg (by rw[h];exact a)]
  ·rename_i h
   simp only[M3,c]
   split
   ·rename_i a;rw[if_neg (fun e=>h (by rw[a,e]))]
   ·rfl
theorem Ge.lift {b:List (List UInt8×Value)} {a:List (X0×Dact)} (h:Ge σ b a) (d:SLe σ σ'):Ge σ' b a:=fun k=>by
 have:=h k
 split at this
 ·exact this
 ·obtain ⟨v,e,c⟩:=this;exact ⟨v,e,c.lift d⟩
theorem Ge.put {c:List (List UInt8×Value)} {b:List (X0×Dact)} {k:X0} {a:Dact} (h:Ge σ c b) (d:Ih σ a v):Ge σ (Xd c k v) ((k,a)::b):=fun x=>by
 rw[List.lookup_cons,Q9I]
 by_cases e:x=k
 ·subst e
  simp only[beq_self_eq_true,if_true]
  exact ⟨v,rfl,d⟩
 ·have f:(x==k)=false:=by simpa using e
  rw[f,if_neg (Ne.symm e)]
  exact h x
structure TS (w0 : World) (σ0 : Q5) (w : World) (σ : Q5) (r : Nat) (acts : List (X0 × Dact)) : Prop where
  stp : Stp w0 σ0 w σ
  ge : w0.heap.size ≤ r
  mp : ∃ mp, E6 σ w r mp ∧ Ge σ mp acts
theorem TS.up {r:Nat} {a:List (X0×Dact)} (h:TS w0 σ0 w σ r a) (k:Stp w σ w' σ'):TS w0 σ0 w' σ' r a:=by
 obtain ⟨c,d,b⟩:=h.mp
 exact ⟨h.stp.trans k,h.ge,c,d.up k,b.lift ⟨k.le⟩⟩
theorem M0 {r:Nat} {b:List (X0×Dact)} {k:X0} {a:Dact} (h:TS w0 σ0 w σ r b) (f:Ih σ a v) (g: ∀w',TS w0 σ0 w' σ r ((k,a)::b)→K undef w'):mapUpdate P T.j (.map (some r)) (S k) v w K:=by
 obtain ⟨l,d,i⟩:=h.mp
 refine Df X7 d k v fun j e c=>?_
 exact g j ⟨e.stp h.stp h.ge d.1,h.ge,_,c,i.put f⟩
theorem Ay {r:Nat} {a:List (X0×Dact)} {s:X0} (h:TS w0 σ0 w σ r a) (b:s.length≤Z9) (c: ∀v w' σ',TS w0 σ0 w' σ' r a→Ih σ' (.puts s) v→K v w'):Q0 P F.aT [S s] w K:=Q5B (by
 unfold Q0S
 refine J9 h.stp.sat rfl fun q w1 σ1 d e=>?_
 refine Q8z ?_
 exact c _ w1 σ1 (h.up d) ⟨q,rfl,e,b⟩)
theorem Q6p {r:Nat} {a:List (X0×Dact)} {s:X0} {ys:List X0} (h:TS w0 σ0 w σ r a) (m:s.length≤Z9) (e:Sl 1 Y1 σ u ys) (j: ∀v w' σ',TS w0 σ0 w' σ' r a→Ih σ' (.takes s ys) v→K v w'):Q0 P F.a4 [S s,u] w K:=Q5c (by
 unfold Ps
 refine J9 h.stp.sat rfl fun q w1 σ1 d l=>?_
 refine L2 d.sat (e.up d) fun k g i f c=>?_
 refine Q8z ?_
 have b:=d.trans f
 exact j _ g i (h.up b) (.inl ⟨q,k,u,rfl,l.up f,c,e.up b,m⟩))
theorem Em {r:Nat} {a:List (X0×Dact)} {s y:X0} (h:TS w0 σ0 w σ r a) (c:s.length≤Z9) (f:y.length≤Z9) (e: ∀v w' σ',TS w0 σ0 w' σ' r a→Ih σ' (.takes s [y]) v→K v w'):buildSlice P T.c 1 [(0,S y)] w fun t w=>Q0 P F.a4 [S s,t] w K:=by
 refine D2 (R:=Y1) (sz:=1) h.stp.sat [S y] [y] rfl rfl (by simp;rfl) rfl ⟨⟨rfl,f⟩,trivial⟩ fun g i j d b=>?_
 exact Q6p (h.up d) c b e
theorem Q4R {r:Nat} {a:List (X0×Dact)} {s y z:X0} (h:TS w0 σ0 w σ r a) (g:s.length≤Z9) (e:y.length≤Z9) (d:z.length≤Z9) (f: ∀v w' σ',TS w0 σ0 w' σ' r a→Ih σ' (.takes s [y,z]) v→K v w'):buildSlice P T.c 2 [(0,S y),(1,S z)] w fun t w=>Q0 P F.a4 [S s,t] w K:=by
 refine D2 (R:=Y1) (sz:=1) h.stp.sat [S y,S z] [y,z] rfl rfl (by simp;exact ⟨rfl,rfl⟩) rfl ⟨⟨rfl,e⟩,⟨rfl,d⟩,trivial⟩ fun i j k c b=>?_
 exact Q6p (h.up c) g b f
set_option maxHeartbeats 4000000 in
set_option maxRecDepth 100000 in
theorem X16 (hs:X4 w σ) (h: ∀r f w' σ',Stp w σ w' σ'→I5 σ' r f→Ge σ' f Gs→K (.map (some r)) w'):Q0 P F.cr [] w K:=Q4I (by
 unfold Td
 refine Pl hs fun r w1 hr k1 O=>?_
 have t0:TS w σ w1 σ r []:=⟨k1,hr,[],O,fun k=>rfl⟩
 refine Ay (s:=V5) t0 (by decide) fun v1 w1 σ1 s1 f1=>?_
 refine M0 (k:=[105,110,116]) (a:= .puts V5) s1 f1 fun x1 t1=>?_
 refine Ay (s:=N3) t1 (by decide) fun v2 w2 σ2 s2 f2=>?_
 refine M0 (k:=[116,114,117,101]) (a:= .puts N3) s2 f2 fun x2 t2=>?_
 refine Ay (s:=N3) t2 (by decide) fun v3 w3 σ3 s3 f3=>?_
 refine M0 (k:=[102,97,108,115,101]) (a:= .puts N3) s3 f3 fun x3 E=>?_
 refine Ay (s:=O4) E (by decide) fun v4 w4 σ4 s4 f4=>?_
 refine M0 (k:=[119,111,114,100]) (a:= .puts O4) s4 f4 fun x4 t4=>?_
 refine Ay (s:=D0) t4 (by decide) fun v5 w5 σ5 s5 f5=>?_
 refine M0 (k:=[110,117,108,108]) (a:= .puts D0) s5 f5 fun x5 t5=>?_
 refine M0 (k:=[108,111,97,100]) (a:= .load) t5 rfl fun x6 t6=>?_
 refine M0 (k:=[115,116,111,114,101]) (a:= .store) t6 rfl fun x7 t7=>?_
 refine M0 (k:=[100,117,112]) (a:= .dup) t7 rfl fun x8 t8=>?_
 refine M0 (k:=[115,119,97,112]) (a:= .swap) t8 rfl fun x9 t9=>?_
 refine M0 (k:=[112,111,112]) (a:= .pop) t9 rfl fun a3 g=>?_
 refine Em (s:=V5) (y:=V5) g (by decide) (by decide) fun ci bd b8 H t=>?_
 refine M0 (k:=[110,101,103]) (a:= .takes V5 [V5]) H t fun bv ac=>?_
 refine Em (s:=N3) (y:=N3) ac (by decide) (by decide) fun bw bq a1 q ai=>?_
 refine M0 (k:=[110,111,116]) (a:= .takes N3 [N3]) q ai fun bn p=>?_
 refine Q4R (s:=N3) (y:=N3) (z:=N3) p (by decide) (by decide) (by decide) fun bz bx ce Q j=>?_
 refine M0 (k:=[98,111,116,104]) (a:= .takes N3 [N3,N3]) Q j fun b3 A=>?_
 refine Q4R (s:=O4) (y:=O4) (z:=O4) A (by decide) (by decide) (by decide) fun a7 b0 bk J am=>?_
 refine M0 (k:=[106,111,105,110]) (a:= .takes O4 [O4,O4]) J am fun bs m=>?_
 refine M0 (k:=[108,101,115,115]) (a:= .takes N3 [V5,V5]) m (.inr (.inr ⟨rfl,rfl,rfl⟩)) fun a2 M=>?_
 refine M0 (k:=[115,97,109,101]) (a:= .takes N3 [V5,V5]) M (.inr (.inr ⟨rfl,rfl,rfl⟩)) fun bh ak=>?_
 refine M0 (k:=[115,105,122,101]) (a:= .size) ak rfl fun bg B=>?_
 refine M0 (k:=[106,117,109,112]) (a:= .nop) B rfl fun cp aj=>?_
 refine Em (s:=[]) (y:=N3) aj (by decide) (by decide) fun ca a5 bm Z al=>?_
 refine M0 (k:=[98,114,97,110,99,104]) (a:= .takes [] [N3]) Z al fun aw D=>?_
 refine M0 (k:=[110,101,119]) (a:= .make) D rfl fun a0 af=>?_
 refine M0 (k:=[103,101,116]) (a:= .get) af rfl fun bj L=>?_
 refine M0 (k:=[112,117,116]) (a:= .give) L rfl fun cg n=>?_
 refine M0 (k:=[99,97,108,108]) (a:= .call) n rfl fun cl R=>?_
 refine M0 (k:=[97,114,114,97,121]) (a:= .array) R rfl fun cs ao=>?_
 refine M0 (k:=[97,116]) (a:= .at_) ao rfl fun ay W=>?_
 refine M0 (k:=[115,101,116]) (a:= .set_) W rfl fun ch U=>?_
 refine M0 (k:=[105,115]) (a:= .is) U rfl fun cb C=>?_
 refine M0 (k:=[99,97,115,116]) (a:= .cast) C rfl fun av an=>?_
 refine M0 (k:=[114,101,116,117,114,110]) (a:= .ret) an rfl fun br ad=>?_
 refine Em (s:=[]) (y:=V9) ad (by decide) (by decide) fun bl b2 a4 aa ap=>?_
 refine M0 (k:=[116,104,114,111,119]) (a:= .takes [] [V9]) aa ap fun az N=>?_
 refine Em (s:=[]) (y:=V5) N (by decide) (by decide) fun b9 bp ae ag l=>?_
 refine M0 (k:=[111,117,116]) (a:= .takes [] [V5]) ag l fun bu V=>?_
 refine M0 (k:=[101,113,117,97,108]) (a:= .equal) V rfl fun bi ab=>?_
 refine W1 (cells:=(Q1F.map S).toArray) (by kernel_rfl) ?_
 refine J1 10 (fun i w'=>TS w σ w' ae r ((((Q1F.take i).map fun o=>(o,Dact.takes V5 [V5,V5])).reverse)++Q8T.reverse)) ab fun i w2 d hi e=>?_
 refine Z1 ?_
 refine Q6 (fun X=>?_) (fun X=>?_)
 ·have b:i<10:=by simp at X;omega
  have c:i<Q1F.length:=b
  refine X0v (v:=S Q1F[i]) b (by rw[List.getElem?_map,List.getElem?_eq_getElem c];rfl) ?_
  refine M0 (a:= .takes V5 [V5,V5]) e (.inr (.inl ⟨rfl,rfl,rfl⟩)) fun w3 E=>?_
  (try simp only[↓M1,M1,Mb,reduceIte])
  refine Y2 (by decide) b ?_
  rw[List.take_add_one,List.getElem?_eq_getElem c,Option.toList_some,List.map_append,List.reverse_append]
  exact E
 ·have:i=10:=by simp at X;omega
  subst this
  obtain ⟨f,q1,q2⟩:=e.mp
  obtain ⟨σ3,s3,l3,Y,_⟩:=q1.keep e.stp e.ge
  exact h r f w2 σ3 s3 l3 (q2.lift ⟨Y⟩))
end Go.Proofs.YtfppjenblllfaaaGreatDoor

namespace Go.Proofs.YtfppjenblllfaaaGreatDoor
open Go.Emb Go.RowKit Go.Kd Go.Hm
variable {w w' w1 : World} {K : Value → World → Prop} {σ σ' σ1 : Q5} {v u : Value} {B : Nat} {D D1 : Nat → Prop} {p tv pv cv hv : Value} {m : Hm.Met} {i : Ins} {d d' : Dr} {l : List Cla} {E : World → Prop}
def To (B:Nat) (D:Nat→Prop) (w:World) (σ:Q5) (p tv pv cv hv:Value) (m:Hm.Met) (i:Ins) (d':Dr) (E:World→Prop):Prop:=
 ∀w' σ' a,Nxt D w σ w' σ'→DrIs B a σ' w' p tv pv cv hv m i d'→(∀j,a j→D j∨w.heap.size≤j)→E w'
theorem Nxt.chain0 {D F:Nat→Prop} {f:World} {b:Q5} (h:Nxt D w σ w1 σ1) (k:Nxt F w1 σ1 f b) (g: ∀j,j<w.heap.size→F j→D j):Nxt D w σ f b:=
 ⟨⟨k.kp.os.trans h.kp.os,k.kp.tape.trans h.kp.tape,k.kp.output.trans h.kp.output,Nat.le_trans h.kp.size k.kp.size,fun j a c=>(k.kp.block j (Nat.lt_of_lt_of_le a h.kp.size) fun e=>c (g j a e)).trans (h.kp.block j a c)⟩,
  h.le.more k.le,fun j a=>(k.old j (Nat.lt_of_lt_of_le a h.kp.size)).trans (h.old j a),k.sat⟩
theorem To.go (h:To B D w σ p tv pv cv hv m i d' E) (N:Nxt D w σ w1 σ1) (hD: ∀j,D1 j→D j∨w.heap.size≤j):To B D1 w1 σ1 p tv pv cv hv m i d' E:=fun w' σ' f c g a=>
 h w' σ' f (Nxt.chain0 N c fun j b e=>(hD j e).elim id fun h=>by omega) g fun j b=>(a j b).elim (fun e=>hD j e) fun e=> .inr (Nat.le_trans N.kp.size e)
theorem To.up (h:To B D w σ p tv pv cv hv m i d' E) (k:Stp w σ w1 σ1):To B D w1 σ1 p tv pv cv hv m i d' E:=h.go (.of_stp k) fun j a=> .inl a
theorem To.fin (h:To B D w σ p tv pv cv hv m i d' E) (a:X4 w σ) (c:DrIs B D σ w p tv pv cv hv m i d'):E w:=h w σ D (Nxt.rfl0 a) c fun j b=> .inl b
structure AtD (B : Nat) (D : Nat → Prop) (w : World) (σ : Q5) (p tv pv cv hv : Value) (m : Hm.Met) (i : Ins) (l : List Cla) (d : Dr) : Prop where
  sat : X4 w σ
  ge : B ≤ w.heap.size
  dr : DrIs B D σ w p tv pv cv hv m i d
  tab : Tab σ tv l
  ok : Ok l
  len : d.stack.length ≤ 100000
theorem AtD.up (h:AtD B D w σ p tv pv cv hv m i l d) (k:Stp w σ w1 σ1):AtD B D w1 σ1 p tv pv cv hv m i l d:=⟨k.sat,Nat.le_trans h.ge k.bel.size,h.dr.up k,h.tab.lift ⟨k.le⟩,h.ok,h.len⟩
theorem X0j {q:X0} {ys:List X0} (h:AtD B D w σ p tv pv cv hv m i l d) (b:Sl 1 Y1 σ v ys) (c:q.length≤Z9) (a:ys.length≤2000000) (hh:To B D w σ p tv pv cv hv m i (d.all l q ys) (K (.tuple #[]))):Q0 P F.a6 [p,S q,v] w K:=
 X2i h.sat h.ge h.dr h.tab h.ok b c h.len a hh
theorem Q8s {q y z:X0} (h:AtD B D w σ p tv pv cv hv m i l d) (f:q.length≤Z9) (e:y.length≤Z9) (c:z.length≤Z9) (hh:To B D w σ p tv pv cv hv m i (d.all l q [y,z]) E):buildSlice P T.c 2 [(0,S y),(1,S z)] w fun t w=>Q0 P F.a6 [p,S q,t] w fun _ w=>E w:=by
 refine D2 (R:=Y1) (sz:=1) h.sat [S y,S z] [y,z] rfl rfl (by simp;exact ⟨rfl,rfl⟩) rfl ⟨⟨rfl,e⟩,⟨rfl,c⟩,trivial⟩ fun j k g b a=>?_
 exact X0j (h.up b) a f (by simp) (hh.up b)
def X0c (l:List Cla) (m:Hm.Met) (i:Ins) (c f:X0) (k:Bool) (a:Dact):Prop:= ∀{w:World} {σ:Q5} {B:Nat} {D:Nat→Prop} {p tv pv cv hv v:Value} {d:Dr} {K:Value→World→Prop},AtD B D w σ p tv pv cv hv m i l d→Ih σ a v→d.e=0→
 To B D w σ p tv pv cv hv m i (Fh l m i c f k d a) (K (.tuple #[]))→Z2 P v [p] w K
theorem Q9t {c f q:X0} {k:Bool} {ys:List X0} (s:ys.length≤100000):X0c l m i c f k (.takes q ys):=fun {w σ B D p tv pv cv hv v d K} h e _ hh=>by
 have hh:To B D w σ p tv pv cv hv m i (d.all l q ys) (K (.tuple #[])):=hh
 rcases e with ⟨a,b,r,rfl,j,n,g,o⟩ | ⟨rfl,rfl,rfl⟩ | ⟨rfl,rfl,rfl⟩
 ·refine Y8 (first:=[]) (caps:=[.pointer (some a), .pointer (some b)]) (Q2e ?_)
  unfold Cf
  refine X8 h.sat j rfl ?_
  refine X8 h.sat n rfl ?_
  exact X0j h g o (by omega) hh
 ·refine Y8 (first:=[]) (caps:=[]) (Fq ?_)
  unfold We
  exact Q8s (E:=K (.tuple #[])) h (by decide) (by decide) (by decide) hh
 ·refine Y8 (first:=[]) (caps:=[]) (Ba ?_)
  unfold Vc
  exact Q8s (E:=K (.tuple #[])) h (by decide) (by decide) (by decide) hh
end Go.Proofs.YtfppjenblllfaaaGreatDoor

namespace Go.Proofs.YtfppjenblllfaaaGreatDoor
open Go.Emb Go.RowKit Go.Kd Go.Hm
variable {w w' w1 : World} {K : Value → World → Prop} {σ σ' σ1 : Q5} {v u : Value} {tv : Value} {m : Hm.Met} {i : Ins} {l : List Cla}
theorem X2F {t:TypeId} {sz by_ k b:Nat} {z:Value} [TG P t true] [TZ P t sz by_ z] {cs ds:List Value} (a:Z5 σ w b cs) (e: ∀i v,ds[i]? =some v→cs[k+i]? =some v) (d:ds.length=sz) (h:K (.agg ds.toArray) w):Q2 P t (.pointer (some ((⟨b,0,none⟩:Addr).add k))) w K:=
 Dy d (fun i v c=>by rw[Sx];exact a.cell (e i v c)) h
theorem Q3P {t:TypeId} {sz by_ b:Nat} {z:Value} [tz:TZ P t sz by_ z] {cs ds:List Value} (a:Z5 σ w b cs) (c:cs.length=sz) (e:ds.length=sz) (f: ∀u∈ds,u.oneCell'=true)
 (h: ∀w',Upd w b w'→Z5 σ w' b ds→K undef w'):Z0 P t (.pointer (some ⟨b,0,none⟩)) (.agg ds.toArray) w K:=
 sta a c e (by rw[List.all_toArray];exact List.all_eq_true.2 f) fun w' d a=>h w' d a
def QF (w0:World) (σ:Q5) (xs:List X0) (v:Value) (w':World):Prop:=Stp w0 σ w' σ∧U6 w0.heap.size T.b 1 Y1 σ w' v xs
theorem QF.st {w0:World} {xs:List X0}:K9 (fun w w'=>Below w.heap.size w w') (QF w0 σ xs):=fun _ _ _ ⟨a,c⟩ b=>⟨a.trans (Stp.of_below a.sat b),c.up (Stp.of_below a.sat b)⟩
def QFR (w0:World) (σ:Q5) (xs:List X0) (p:Iv) (v:Value) (w':World):Prop:=QF w0 σ xs v w'∧ ∀k,v.ownBlock=some k→p.1≤k∧k<p.2
theorem QFR.st {w0:World} {xs:List X0} (p:Iv):K9 (fun w w'=>Below w.heap.size w w') (QFR w0 σ xs p):=fun _ _ _ ⟨b,a⟩ c=>⟨QF.st _ _ _ b c,a⟩
theorem Q35 {w0:World} {xs:List X0} (b:Hst w0 σ w σ) (d:Sl 1 Y1 σ v xs) (f:xs.length≤1000000):Q0 P F.b [v] w (dkR (fun w w'=>Below w.heap.size w w') (QFR w0 σ xs) w):=
 Q2M b.sat d f fun g w' c a=>⟨c.bel,⟨b.stp.trans c,(U6.of_acc a).mono b.stp.bel.size⟩,fun k e=>⟨(a.mem k e).1,(a.mem k e).2.1⟩⟩
theorem X11 {A:(World→World→Prop)→(World→Prop)→Prop} (b:X4 w σ) (h:A (fun w w'=>Below w.heap.size w w') (fun w'=>Hst w σ w' σ)):drR w A:=
 X25 _ _ ⟨Stp.of_below b (Below.refl _ _).drew⟩ (fun _ _ a c=>⟨a.stp.trans (Stp.of_below a.sat c)⟩) (fun _ _ h=>h.size) h
def Q3L (d:Dr):Shp×Int:=if d.e=0 then (⟨true,d.stack,d.locals⟩,0) else (Shp.zero,d.e)
def FnF (σ:Q5) (w0:World) (o:Option Dact) (v:Value) (w':World):Prop:= ∃σ',Stp w0 σ w' σ'∧ ∀a,o=some a→Ih σ' a v
def TbF (σ:Q5) (w0:World) (v:Value) (w':World):Prop:= ∃σ' r a,Stp w0 σ w' σ'∧v= .map (some r)∧I5 σ' r a∧Ge σ' a Gs
theorem TbF.st {w0:World}:K9 (fun w w'=>Below w.heap.size w w') (TbF σ w0):=fun _ _ _ ⟨σ',r,c,a,b,e,d⟩ f=>⟨σ',r,c,a.trans (Stp.of_below a.sat f),b,e,d⟩
theorem FnF.st {w0:World} {o:Option Dact}:K9 (fun w w'=>Below w.heap.size w w') (FnF σ w0 o):=fun _ _ _ ⟨σ',a,b⟩ c=>⟨σ',a.trans (Stp.of_below a.sat c),b⟩
set_option maxHeartbeats 2000000 in
theorem X2z {ms is:List Value} {sv lv:Value} {xs ys:List X0} {b0:Bool} {c f:X0} {k:Bool} (hs:X4 w σ) (ht:Tab σ tv l) (ok:Ok l) (hm:M6 σ m ms) (hi:I8 σ i is) (hx:Sl 1 Y1 σ sv xs) (hy:Sl 1 Y1 σ lv ys) (hl:xs.length≤1000) (N:ys.length≤1000) (bd: ∀a,Gs.lookup i.op=some a→X0c l m i c f k a)
 (h: ∀ds w' σ',Stp w σ w' σ'→U2 σ' (doM l m i c f k ⟨b0,xs,ys⟩).1 ds→K (.tuple #[.agg ds.toArray,I (doM l m i c f k ⟨b0,xs,ys⟩).2]) w'):
 Q0 P F.cO [tv, .agg ms.toArray, .agg is.toArray, .agg [.bool b0,sv,lv].toArray] w K:=Q7U (by
 obtain ⟨pv,cv,hv,rfl,L⟩:=hm
 obtain ⟨rfl,dv⟩:=hi
 obtain ⟨ta,b5⟩: ∃ta,tv= .pointer (some ta):=by obtain ⟨a,_,_,_,e,_⟩:=ht.ex;exact ⟨a,e⟩
 subst b5
 unfold Q31
 refine Y7 hs fun qm w1 σ1 R cr=>?_
 refine Y7 R.sat fun qi w2 σ2 k2 cg=>?_
 refine Y7 k2.sat fun qs w3 σ3 k3 b4=>?_
 have bf:=(cr.up k2).up k3
 have bc:=cg.up k3
 have S3:=(R.trans k2).trans k3
 have ch:=hx.up S3
 have bx:=hy.up S3
 refine G1 k3.sat fun b8 O σ4 ay k4 be=>?_
 have S4:=S3.trans k4
 have aq:=bf.up k4
 have aa:=bc.up k4
 have X:=b4.up k4
 have b9:=ch.up k4
 have cf:=bx.up k4
 refine X11 k4.sat ?_
 refine J5 (fun M _ w g=>M9 (M5 rfl)) ?_
 refine J5 (fun M _ w g=>M9 (M5 rfl)) ?_
 refine J5 (V:= .agg [S m.name,pv,S m.result, .bool m.abs,I m.locals,cv,hv].toArray) (fun M _ w g=>Y9 g.sat (aq.up g.stp) rfl (M5 rfl)) ?_
 refine J5 (V:= .agg [S i.op,I i.n,S i.s].toArray) (fun M _ w g=>Y9 g.sat (aa.up g.stp) rfl (M5 rfl)) ?_
 refine J5 (V:=sv) (fun t M _ w g e=>?_) ?_
 ·subst e
  exact ld (i:=1) g.sat (X.up g.stp) rfl (M5 rfl)
 refine Q6n (QFR O σ4 xs) QFR.st (fun t M _ w g e=>?_) ?_
 ·subst e
  exact Q35 g b9 (by omega)
 refine J5 (V:=lv) (fun t M _ w g e=>?_) ?_
 ·subst e
  exact ld (i:=2) g.sat (X.up g.stp) rfl (M5 rfl)
 refine Q6n (QFR O σ4 ys) QFR.st (fun t M _ w g e=>?_) ?_
 ·subst e
  exact Q35 g cf (by omega)
 refine W6 (fun v w'=> ∃t u,v= .agg #[.bool true,t,u]∧QF O σ4 xs t w'∧QF O σ4 ys u w'∧ ∀k,t.ownBlock=some k→u.ownBlock≠some k) (fun _ _ _ ⟨t,u,Q,J,h3,h4⟩ g=>⟨t,u,Q,QF.st _ _ _ J g,QF.st _ _ _ h3 g,h4⟩) (fun A y M hA w g ae ac=>?_) ?_
 ·refine W1 (cells:= #[.bool true,A,y]) (by obtain ⟨⟨_,a,eg,rfl,_⟩,_⟩:=ae;obtain ⟨⟨_,a2,de,rfl,_⟩,_⟩:=ac;kernel_rfl) ?_
  exact ⟨Below.refl _ _,A,y,rfl,ae.1,ac.1,fun k e1 e2=>by
   have g1:=ae.2 k e1
   have g2:=ac.2 k e2
   rcases hA 6 8 (by decide) with h | h<;>omega⟩
 rintro _ _ _ _ _ _ _ _ _ M-w5 dt rfl rfl rfl rfl rfl-rfl-⟨A,y,rfl,⟨k5,q5⟩,⟨-,y5⟩,cx⟩
 obtain ⟨cq,b6,cp,_⟩:=L
 refine W1 (cells:= #[.pointer (some ta),S m.name,pv,S m.result, .bool m.abs,I m.locals,cv,hv,S i.op,I i.n,S i.s, .bool true,A,y,I 0]) (by
  obtain ⟨a1,c1,rfl,_⟩:=cq;obtain ⟨a2,c2,rfl,_⟩:=b6;obtain ⟨a3,c3,rfl,_⟩:=cp;obtain ⟨a4,c4,rfl,_⟩:=q5;obtain ⟨a5,c5,rfl,_⟩:=y5;kernel_rfl) ?_
 refine Ad k5.sat fun b w6 σ6 g U an=>?_
 have da:=be.lt
 have cc:O.heap.size≤b:=Nat.le_trans k5.bel.size g
 have ab:=(be.up k5).up U
 have S5:=S4.trans k5
 have S6:=S5.trans U
 have q6:=q5.up U
 have y6:=y5.up U
 have bi:DrIs O.heap.size (fun k=>k=b∨A.ownBlock=some k∨y.ownBlock=some k) σ6 w6 (.pointer (some ⟨b,0,none⟩)) (.pointer (some ta)) pv cv hv m i ⟨xs,ys,0⟩:=
  ⟨b,A,y,rfl,cc,an,q6,y6,fun k q=>⟨fun e=>by have:=(q5.mem q).2.1;omega,cx k q⟩,fun k q e=>by have:=(y5.mem q).2.1;omega,fun k=>Iff.rfl⟩
 have A6:AtD O.heap.size _ w6 σ6 (.pointer (some ⟨b,0,none⟩)) (.pointer (some ta)) pv cv hv m i l ⟨xs,ys,0⟩:=⟨U.sat,Nat.le_trans k5.bel.size U.bel.size,bi,ht.lift ⟨S6.le⟩,ok,by show xs.length≤100000;omega⟩
 generalize (fun k=>k=b∨A.ownBlock=some k∨y.ownBlock=some k)=D at*
 have a7: ∀k,D k→O.heap.size≤k:=fun k q=>(A6.dr.mem q).1
 have df:=(aa.up k5).up U
 clear bi q5 q6 y5 y6 an
 generalize (Value.pointer (some ⟨b,0,none⟩))=p at*
 have aw:doM l m i c f k ⟨b0,xs,ys⟩=match Gs.lookup i.op with
  | none=>(Shp.zero,76)
  | some a=>Q3L ((Fh l m i c f k ⟨xs,ys,0⟩ a).wrong (decide ((Fh l m i c f k ⟨xs,ys,0⟩ a).stack.length≤24)) 72):=rfl
 rw[aw] at h
 clear aw
 generalize ho:Gs.lookup i.op=o at*
 refine U8 U.sat ?_
 (repeat refine J5 P5 ?_)
 refine W6 (TbF σ6 w6) TbF.st (fun w g=>X16 g.sat fun r mp w' σ' R Q J=>⟨R.bel,σ',r,mp,g.stp.trans R,rfl,Q,J⟩) ?_
 (repeat refine J5 P5 ?_)
 refine W6 (fun v w'=> ∃v0,v= .tuple #[v0, .bool o.isSome]∧FnF σ6 w6 o v0 w') (fun _ _ _ ⟨v0,Q,J⟩ g=>⟨v0,Q,FnF.st _ _ _ J g⟩) (fun d6 ei w g cy cn=>?_) ?_
 ·subst cn
  obtain ⟨σ',r,mp,R,rfl,Q,J⟩:=cy
  have h3:=J i.op
  rw[ho] at h3
  refine Q4c (sz:=1) (by_:=8) (z:= .nilFunc) (tz:=⟨by kernel_rfl⟩) X7 (Q.is R.sat) i.op ?_
  refine ⟨Below.refl _ _,?_⟩
  cases o with
  | none=>
   have h3:M3 mp i.op=none:=h3
   rw[h3]
   exact ⟨_,rfl,σ',R,fun a e=>by cases e⟩
  | some a=>
   obtain ⟨v,h4,h5⟩:=h3
   rw[h4]
   exact ⟨v,rfl,σ',R,fun a e=>by cases e;exact h5⟩
 refine W6 (FnF σ6 w6 o) FnF.st (fun t w g ai=>?_) ?_
 ·obtain ⟨v0,rfl,J⟩:=ai
  exact U7 rfl ⟨Below.refl _ _,J⟩
 refine J5 (V:= .bool o.isSome) (fun t w g ai=>?_) ?_
 ·obtain ⟨v0,rfl,J⟩:=ai
  exact U7 rfl (M5 rfl)
 rintro _ _ _ _ d3 _ w7 dw rfl-rfl-cz rfl
 obtain ⟨σ7,k7,hf⟩:=cz
 refine Wc ?_
 cases o with
 | none=>
  refine V1 ?_
  refine W1 (cells:= #[.bool false, .slice none 0 0, .slice none 0 0]) (by kernel_rfl) ?_
  refine Qb (ds:=[.bool false, .slice none 0 0, .slice none 0 0]) (ab.up k7) (S6.trans k7) (Nat.le_trans S3.bel.size ay) rfl rfl (by simp;exact ⟨rfl,rfl⟩) fun w9 cw B=>?_
  refine W2 B rfl ?_
  exact h _ _ _ cw.stp ⟨_,_,rfl,Sl.nil,Sl.nil⟩
 | some a=>
  refine V6 ?_
  refine bd a rfl (A6.up k7) (hf a rfl) rfl fun w8 σ8 D8 N8 h8 dy=>?_
  replace h: ∀ds w' σ',Stp w σ w' σ'→U2 σ' (Q3L ((Fh l m i c f k ⟨xs,ys,0⟩ a).wrong (decide ((Fh l m i c f k ⟨xs,ys,0⟩ a).stack.length≤24)) 72)).1 ds→K (.tuple #[.agg ds.toArray,I (Q3L ((Fh l m i c f k ⟨xs,ys,0⟩ a).wrong (decide ((Fh l m i c f k ⟨xs,ys,0⟩ a).stack.length≤24)) 72)).2]) w':=h
  generalize Fh l m i c f k ⟨xs,ys,0⟩ a=d at*
  have S7:=S6.trans k7
  have ci: ∀k,D k→w.heap.size≤k:=fun k q=>Nat.le_trans S4.bel.size (a7 k q)
  have W: ∀k,D8 k→O.heap.size≤k:=fun k q=>(h8.mem q).1
  have bh:=h8
  obtain ⟨b1,d9,d1,rfl,ca,L,ar,ck,g1,g2,ct⟩:=h8.ex
  refine Q3R ?_
  refine M9 ?_
  refine M9 ?_
  refine Yv (i:=12) L rfl ?_
  refine Bs ar ?_
  refine X2v ?_
  rw[show decide (((d.stack.length:Nat):Int)≤24)=decide (d.stack.length≤24) from decide_eq_decide.2 (by omega)]
  refine Q2J N8.sat bh fun w9 N9 h9=>?_
  generalize d.wrong (decide (d.stack.length≤24)) 72=d2 at*
  unfold Q3L at h
  clear bh L ar ck g1 g2 ct h8 ca
  obtain ⟨b2,C,H,e2,ee,aj,af,N,g1,g2,du⟩:=h9.ex
  cases e2
  have S8:=S7.nx N8 ci
  have S9:=S8.nx N9 fun k q=>Nat.le_trans S4.bel.size (W k q)
  have bg: ¬D8 b8:=fun e=>by have:=W _ e;omega
  have ah: ¬D b8:=fun e=>by have:=a7 _ e;omega
  have B:=((ab.up k7).nx N8 ah).nx N9 bg
  have Y:=Nat.le_trans S3.bel.size ay
  refine Q3R ?_
  refine M9 ?_
  refine Yv (i:=14) aj rfl ?_
  refine K1 ?_
  by_cases he:d2.e=0
  ·simp only[if_pos he] at h
   rw[show (!decide (d2.e=0))=false from by simp[he]]
   refine V6 ?_
   refine Q3R ?_
   refine M9 ?_
   refine X2F (k:=11) (ds:=[.bool true,C,H]) aj (fun j v hj=>by rcases j with _ | _ | _ | j<;>first | exact hj | cases hj) rfl ?_
   have Q: ∀u∈[Value.bool true,C,H],u.oneCell'=true:=by
    obtain ⟨a1,c1,rfl,_⟩:=af;obtain ⟨a2,c2,rfl,_⟩:=N;simp;exact ⟨rfl,rfl,rfl⟩
   refine Q3P (ds:=[.bool true,C,H]) B rfl rfl Q fun a6 ad E=>?_
   refine W2 E rfl ?_
   have b7:Stp w σ a6 σ8:=ad.stp S9 Y B.1
   have ap:C.ownBlock≠some b8:=fun e=>by have:=(af.mem e).1;omega
   have az:H.ownBlock≠some b8:=fun e=>by have:=(N.mem e).1;omega
   have ao:=(af.updD ad ap).mono S4.bel.size
   have Z:=(N.updD ad az).mono S4.bel.size
   obtain ⟨σa,Sa,qa,cd,ax⟩:=ao.keep b7
   have cj:=Z.shiftR cd fun k q=>(ax k fun e=>(g1 k e.symm).2 q).trans (Z.mem q).2.2
   obtain ⟨σb,Sb,qb,co,_⟩:=cj.keep Sa
   exact h _ _ _ Sb ⟨C,H,rfl,qa.lift co,qb⟩
  ·simp only[if_neg he] at h
   rw[show (!decide (d2.e=0))=true from by simp[he]]
   refine V1 ?_
   refine X29 (ds:=[.bool false, .slice none 0 0, .slice none 0 0]) S9 Y B rfl rfl ?_
   refine J5 (V:= .pointer (some ⟨b1,0,none⟩)) (fun w g=>Q3R (Bg rfl)) ?_
   refine J5 (V:= .pointer (some ((⟨b1,0,none⟩:Addr).add 14))) (fun t w g e=>by subst e;exact M9 (Bg rfl)) ?_
   refine J5 (V:= .agg [.bool false, .slice none 0 0, .slice none 0 0].toArray) (fun w g=>W1 (by kernel_rfl) (Bg rfl)) ?_
   refine J5 (V:=I d2.e) (fun t w g e=>?_) ?_
   ·subst e
    exact Yv (i:=14) (aj.kp g.kp fun e=>by omega) rfl (Bg rfl)
   refine Q9k rfl (by simp;exact ⟨rfl,rfl⟩) (fun v w e=>e) ?_ B.1
   rintro _ _ _ _ _ a6 ba rfl rfl rfl rfl E
   refine W2 E rfl ?_
   exact h _ _ _ ba.hst.stp ⟨_,_,rfl,Sl.nil,Sl.nil⟩)
end Go.Proofs.YtfppjenblllfaaaGreatDoor

namespace Go.Proofs.YtfppjenblllfaaaGreatDoor
open Go.Emb Go.RowKit Go.Kd Go.Hm
variable {w w' w0 w1 : World} {K : Value → World → Prop} {σ σ' σ0 σ1 : Q5} {v u : Value} {tv : Value} {l : List Cla} {b b6 : Nat} {xs ys : List X0} {x : X0}
theorem Q2Z {σ1:Q5} {cs ds:List Value} (h:Z5 σ w b cs) (k:Z5 σ1 w b ds):cs=ds:=by
 obtain ⟨_,e,h⟩:=h
 obtain ⟨_,f,k⟩:=k
 rw[h] at k
 have:=Option.some.inj k
 simp at this
 exact this.1
structure ShS (w0 : World) (σ0 : Q5) (w : World) (σ : Q5) (b : Nat) (xs ys : List X0) : Prop where
  stp : Stp w0 σ0 w σ
  ge : w0.heap.size ≤ b
  ex : ∃ v1 v2, Z5 σ w b [.bool true, v1, v2] ∧ U6 w0.heap.size T.b 1 Y1 σ w v1 xs ∧ U6 w0.heap.size T.b 1 Y1 σ w v2 ys ∧ (∀ k, v1.ownBlock = some k → k ≠ b ∧ v2.ownBlock ≠ some k) ∧ ∀ k, v2.ownBlock = some k → k ≠ b
theorem ShS.up (h:ShS w0 σ0 w σ b xs ys) (k:Stp w σ w' σ'):ShS w0 σ0 w' σ' b xs ys:=by
 obtain ⟨i,d,f,c,g,e,a⟩:=h.ex
 exact ⟨h.stp.trans k,h.ge,i,d,f.up k,c.up k,g.up k,e,a⟩
theorem Q85 (f:X4 w σ) (h: ∀b w',ShS w σ w' σ b [] []→K (.pointer (some ⟨b,0,none⟩)) w'):W4 P T.f w fun p w=>Z0 P T.f p (.agg #[.bool true, .slice none 0 0, .slice none 0 0]) w fun _ w=>K p w:=
 Ey f fun b w1 d g a=>Q3P (sz:=3) (ds:=[.bool true, .slice none 0 0, .slice none 0 0]) a rfl rfl (by simp;exact ⟨rfl,rfl⟩) fun i e c=>
  h b i ⟨e.stp g d a.1,d,_,_,c,U6.of_acc V7.nil,U6.of_acc V7.nil,nofun,nofun⟩
theorem X05 {o t:Value} (h:ShS w0 σ0 w σ b xs ys) (E:Z5 σ w b [.bool true,o,t]) (R:Sl 1 Y1 σ u [x]) (W:xs.length≤1000000) (hh: ∀w',ShS w0 σ0 w' σ b (xs++[x]) ys→K undef w'):
 X5 P .append [T.c,T.c] T.c [false,false] [o,u] w fun p w=>fieldAddr P T.f (.pointer (some ⟨b,0,none⟩)) 1 w fun n w=>Z0 P T.c n p w K:=by
 obtain ⟨X,Y,r,H,C,y,B⟩:=h.ex
 have e:=Q2Z E r
 simp only[List.cons.injEq,and_true,true_and] at e
 obtain ⟨rfl,rfl⟩:=e
 refine Q1Q h.stp.sat h.stp.bel.size H R (by rfl) (by simp only[List.length_cons,List.length_nil];omega) (by simp only[List.length_cons,List.length_nil];omega) fun j L z Z s m=>?_
 have f: ∀k,j.ownBlock=some k→o.ownBlock=some k∨w.heap.size≤k:=fun k d=>by
  rcases m with ⟨a,N,U,J⟩ | ⟨_,g⟩
  ·left;rw[U];rw[J] at d;cases a<;>exact d
  ·exact .inr (g k d)
 have D:=r.kp z fun e=>(y b e.1).1 rfl
 have Q:=C.kp z fun k d e=>(y k e.1).2 d
 have A: ∀k,j.ownBlock=some k→k≠b∧t.ownBlock≠some k:=fun k d=>by
  rcases f k d with h | h
  ·exact y k h
  ·have:=r.lt
   exact ⟨by omega,fun e=>by have:=(C.mem e).2.1;omega⟩
 refine M9 ?_
 refine Mn (i:=1) D (by simp) (by obtain ⟨a,c,rfl,_⟩:=s;rfl) (by obtain ⟨a,c,rfl,_⟩:=s;rfl) fun V q M=>?_
 have O:Stp w0 σ0 L σ:=h.stp.kp z fun k d=>⟨d.2.1,d.2.2⟩
 exact hh V ⟨q.stp O h.ge D.1,h.ge,j,t,M,s.updD q fun e=>(A b e).1 rfl,Q.updD q fun e=>B b e rfl,A,B⟩
theorem X0h {o t:Value} (h:ShS w0 σ0 w σ b xs ys) (H:Z5 σ w b [.bool true,o,t]) (U:Sl 1 Y1 σ u [x]) (X:ys.length≤1000000) (hh: ∀w',ShS w0 σ0 w' σ b xs (ys++[x])→K undef w'):
 X5 P .append [T.c,T.c] T.c [false,false] [t,u] w fun p w=>fieldAddr P T.f (.pointer (some ⟨b,0,none⟩)) 2 w fun n w=>Z0 P T.c n p w K:=by
 obtain ⟨Y,Z,r,C,Q,y,D⟩:=h.ex
 have e:=Q2Z H r
 simp only[List.cons.injEq,and_true,true_and] at e
 obtain ⟨rfl,rfl⟩:=e
 refine Q1Q h.stp.sat h.stp.bel.size Q U (by rfl) (by simp only[List.length_cons,List.length_nil];omega) (by simp only[List.length_cons,List.length_nil];omega) fun j L z s2 s m=>?_
 have f: ∀k,j.ownBlock=some k→t.ownBlock=some k∨w.heap.size≤k:=fun k d=>by
  rcases m with ⟨a,N,V,J⟩ | ⟨_,g⟩
  ·left;rw[V];rw[J] at d;cases a<;>exact d
  ·exact .inr (g k d)
 have E:=r.kp z fun e=>D b e.1 rfl
 have R:=C.kp z fun k d e=>(y k d).2 e.1
 have A: ∀k,j.ownBlock=some k→k≠b:=fun k d=>by
  rcases f k d with h | h
  ·exact D k h
  ·have:=r.lt
   omega
 have B: ∀k,o.ownBlock=some k→k≠b∧j.ownBlock≠some k:=fun k d=>⟨(y k d).1,fun e=>by
  rcases f k e with h | h
  ·exact (y k d).2 h
  ·have:=(C.mem d).2.1;omega⟩
 refine M9 ?_
 refine Mn (i:=2) E (by simp) (by obtain ⟨a,c,rfl,_⟩:=s;rfl) (by obtain ⟨a,c,rfl,_⟩:=s;rfl) fun W q M=>?_
 have O:Stp w0 σ0 L σ:=h.stp.kp z fun k d=>⟨d.2.1,d.2.2⟩
 exact hh W ⟨q.stp O h.ge E.1,h.ge,o,j,M,R.updD q fun e=>(B b e).1 rfl,s.updD q fun e=>A b e rfl,B,A⟩
theorem Q7T {q:List Value} {K:Value→World→Prop} (h:ShS w0 σ0 w σ b xs ys) (S0:Stp w1 σ1 w0 σ0) (c:Z5 σ0 w0 b6 q) (z:q.length=3) (d:w1.heap.size≤b6) (hh: ∀ds w' σ',Stp w1 σ1 w' σ'→U2 σ' ⟨true,xs,ys⟩ ds→K (.agg ds.toArray) w'):
 Q2 P T.f (.pointer (some ⟨b,0,none⟩)) w fun t w=>Z0 P T.f (.pointer (some ⟨b6,0,none⟩)) t w fun _u w=>J8 P T.f (.pointer (some ⟨b6,0,none⟩)) w fun M=>K M w:=by
 obtain ⟨g,n,D,f,j,O,W⟩:=h.ex
 have y:=c.lt
 refine Q7A D rfl ?_
 have E: ∀u∈[Value.bool true,g,n],u.oneCell'=true:=by
  obtain ⟨U,Y,rfl,_⟩:=f;obtain ⟨X,R,rfl,_⟩:=j;simp;exact ⟨rfl,rfl,rfl⟩
 refine Q3P (ds:=[.bool true,g,n]) (c.up h.stp) z rfl E fun B o N=>?_
 refine W2 N rfl ?_
 have S:=S0.trans h.stp
 have J:Stp w1 σ1 B σ:=o.stp S d (c.up h.stp).1
 have L:=(f.updD o fun e=>by have:=(f.mem e).1;omega).mono S0.bel.size
 have s:=(j.updD o fun e=>by have:=(j.mem e).1;omega).mono S0.bel.size
 obtain ⟨V,C,A,p,a⟩:=L.keep J
 have i:=s.shiftR p fun k r=>(a k fun e=>(O k e.symm).2 r).trans (s.mem r).2.2
 obtain ⟨σb,H,Q,m,_⟩:=i.keep C
 exact hh _ _ _ H ⟨g,n,rfl,A.lift m,Q⟩
theorem Vt {e ds:List Value} {s:Shp} {K:Value→World→Prop} (S0:Stp w1 σ1 w σ) (d:Z5 σ w b6 e) (f:e.length=3) (a:w1.heap.size≤b6) (c:U2 σ s ds) (hh: ∀w',Stp w1 σ1 w' σ→K (.agg ds.toArray) w'):
 Z0 P T.f (.pointer (some ⟨b6,0,none⟩)) (.agg ds.toArray) w fun _u w=>J8 P T.f (.pointer (some ⟨b6,0,none⟩)) w fun h=>K h w:=by
 refine Q3P (ds:=ds) d f (by obtain ⟨_,_,rfl,_⟩:=c;rfl) (Rep.one c) fun g j i=>?_
 exact W2 i (by obtain ⟨_,_,rfl,_⟩:=c;rfl) (hh g (j.stp S0 a d.1))
theorem U2.zero:U2 σ Shp.zero [.bool false, .slice none 0 0, .slice none 0 0]:=⟨_,_,rfl,Sl.nil,Sl.nil⟩
theorem Gi (h:K (.agg [.bool false, .slice none 0 0, .slice none 0 0].toArray) w):N4 P T.f [] w K:=W1 (by kernel_rfl) h
theorem Q51 (h:K (.agg #[.bool true, .slice none 0 0, .slice none 0 0]) w):N4 P T.f [(0, .bool true)] w K:=W1 (by kernel_rfl) h
end Go.Proofs.YtfppjenblllfaaaGreatDoor

namespace Go.Proofs.YtfppjenblllfaaaGreatDoor
open Go.Emb Go.RowKit Go.Kd Go.Hm
variable {w w' w0 w1 : World} {K : Value → World → Prop} {σ σ' σ0 σ1 : Q5} {v u : Value} {tv : Value} {l : List Cla} {b b6 : Nat} {xs ys : List X0} {x : X0} {s t : Shp}
theorem Q9v (c:X4 w σ) (d:Sl 1 Y1 σ v xs) (e:xs.length≤1000000)
 (h: ∀a w' σ',Stp w σ w' σ'→Sl 1 Y1 σ' a xs→K a w'):Q0 P F.b [v] w K:=
 Q2M c d e fun a w' f i=>by
  obtain ⟨σ',j,g,_⟩:=i.keep f
  exact h a w' σ' j g
def SlF (w0:World) (σ:Q5) (xs:List X0) (v:Value) (w':World):Prop:= ∃σ',Stp w0 σ w' σ'∧Sl 1 Y1 σ' v xs
theorem SlF.st:K9 (fun w w'=>Below w.heap.size w w') (SlF w0 σ xs):=fun _ _ _ ⟨σ',a,c⟩ d=>⟨σ',a.trans (Stp.of_below a.sat d),c⟩
theorem Q37 (c:Hst w0 σ w σ) (d:Sl 1 Y1 σ v xs) (e:xs.length≤1000000):Q0 P F.b [v] w (dk (fun w w'=>Below w.heap.size w w') (SlF w0 σ xs) w):=
 Q9v c.sat d e fun g w' σ' a f=>⟨a.bel,σ',c.stp.trans a,f⟩
theorem U2.liftS {ds:List Value} (h:U2 σ s ds) (k:Stp w σ w' σ'):U2 σ' s ds:=Rep.up k.le h
theorem Q2U {ds:List Value} (hs:X4 w σ) (Q:U2 σ s ds) (X:s.stack.length≤1000000) (R:s.locals.length≤1000000) (h: ∀k w' σ',Stp w σ w' σ'→U2 σ' s k→K (.agg k.toArray) w'):Q0 P F.bK [.agg ds.toArray] w K:=Q3C (by
 obtain ⟨sv,Y,rfl,r,B⟩:=Q
 unfold Iq
 refine Ad hs fun b w1 σ1 c C a=>?_
 have ag:=a.lt
 refine G1 C.sat fun b2 H J D E z=>?_
 have A:=C.trans E
 have a:=a.up E
 have r:=r.up A
 have B:=B.up A
 refine U8 E.sat ?_
 (repeat refine J5 P5 ?_)
 refine J5 (V:=sv) (fun t w c e=>by subst e;exact Yv (i:=1) (a.up c.stp) rfl (M5 rfl)) ?_
 refine W6 (SlF H J s.stack) SlF.st (fun t w c e=>by subst e;exact Q37 c r X) ?_
 refine J5 (V:=Y) (fun t w c e=>by subst e;exact Yv (i:=2) (a.up c.stp) rfl (M5 rfl)) ?_
 (repeat refine J5 P5 ?_)
 refine W6 (SlF H J s.locals) SlF.st (fun t w c e=>by subst e;exact Q37 c B R) ?_
 rintro _ _ _ p _ _ y w3 N rfl rfl rfl f5 rfl rfl U
 obtain ⟨σa,ka,g⟩:=f5
 obtain ⟨σb,kb,f⟩:=U
 obtain ⟨σ3,o,la,W⟩:=ka.join kb
 have g:=g.lift la
 have f:=f.lift W
 have m:=a.up o
 refine Mn (i:=1) m (by simp) (Xj g) (F9 g) fun w4 M n=>?_
 refine M9 ?_
 refine Mn (i:=2) n (by simp) (Xj f) (F9 f) fun w5 L q=>?_
 refine Q7A (cs:=[.bool s.seen,p,y]) q rfl ?_
 have Z:=A.trans o
 have S5:=L.stp (M.stp Z c m.1) c n.1
 have d:b2≠b:=fun e=>by subst e;omega
 have j:=(((z.up o).upd M d).upd L d)
 exact Vt (s:=s) (K:=K) S5 j rfl (Nat.le_trans C.bel.size D) ⟨p,y,rfl,g,f⟩ fun w6 O=>h _ _ _ O ⟨p,y,rfl,g,f⟩)
theorem Q7c {α:Type} {f:X0→X0→α} {xs cs:List X0} {i:Nat} (d:i<xs.length) (c:i<cs.length):(List.zipWith f xs cs).take (i+1)=(List.zipWith f xs cs).take i++[f xs[i] cs[i]]:=by
 have a:i<(List.zipWith f xs cs).length:=by simp;omega
 rw[List.take_add_one,List.getElem?_eq_getElem a]
 simp
theorem Q7w {f:X0→X0→X0} {xs cs:List X0} {e:X0} (j:xs.length=cs.length):(List.zipWith f xs cs).any (fun s=>decide (s=e))=false↔ ∀i (d:i<xs.length) (c:i<cs.length),f xs[i] cs[i]≠e:=by
 rw[List.any_eq_false]
 constructor
 ·intro h i d c
  have:=h (f xs[i] cs[i]) (List.mem_iff_getElem.2 ⟨i,by simp;omega,by simp⟩)
  simpa using this
 ·intro h x g
  obtain ⟨i,a,rfl⟩:=List.mem_iff_getElem.1 g
  simp at a
  simpa using h i (by omega) (by omega)
set_option maxHeartbeats 1000000 in
theorem Q6q {ds es:List Value} (hs:X4 w σ) (ht:Tab σ tv (Q4 l)) (ok:Ok (Q4 l)) (hr:U2 σ s ds) (hu:U2 σ t es) (h1:s.stack.length≤1000) (h2:s.locals.length≤1000) (h3:t.stack.length≤1000) (h4:t.locals.length≤1000)
 (h: ∀q w' σ',Stp w σ w' σ'→U2 σ' (R6 (Q4 l) s t).1 q→K (.tuple #[.agg q.toArray,I (R6 (Q4 l) s t).2]) w'):Q0 P F.bu [tv, .agg ds.toArray, .agg es.toArray] w K:=Q4u (by
 have a5:=hr
 have az:=hu
 obtain ⟨sv,lv,rfl,X,q2⟩:=hr
 obtain ⟨b4,b3,rfl,q3,q4⟩:=hu
 unfold Q04
 refine Y7 hs fun qa w1 σ1 k1 c=>?_
 refine Y7 k1.sat fun qb w2 σ2 k2 g=>?_
 have c:=c.up k2
 refine G1 k2.sat fun b6 Z W n k3 y=>?_
 have c:=c.up k3
 have g:=g.up k3
 have S2:=k1.trans k2
 have a:=S2.trans k3
 have n:w.heap.size≤b6:=Nat.le_trans S2.bel.size n
 have aa:=ht.lift ⟨a.le⟩
 refine M9 ?_
 refine ld (i:=0) a.sat c rfl ?_
 refine Wc ?_
 cases e1:s.seen with
 | false=>
  have Q:R6 (Q4 l) s t=(t,0):=by unfold R6;rw[if_pos e1]
  rw[Q] at h
  refine V1 ?_
  refine Y9 a.sat g rfl ?_
  refine Q2U a.sat (U2.liftS az a) (by omega) (by omega) fun q w4 σ4 k4 C=>?_
  exact Vt (K:=fun r w=>K (.tuple #[r,I 0]) w) (a.trans k4) (y.up k4) rfl n C fun w5 f=>h _ _ _ f C
 | true=>
 refine V6 ?_
 refine M9 ?_
 refine ld (i:=0) a.sat g rfl ?_
 refine Wc ?_
 cases e2:t.seen with
 | false=>
  have Q:R6 (Q4 l) s t=(s,0):=by unfold R6;rw[if_neg (by simp[e1]),if_pos e2]
  rw[Q] at h
  refine V1 ?_
  refine Y9 a.sat c rfl ?_
  refine Q2U a.sat (U2.liftS a5 a) (by omega) (by omega) fun q w4 σ4 k4 C=>?_
  exact Vt (K:=fun r w=>K (.tuple #[r,I 0]) w) (a.trans k4) (y.up k4) rfl n C fun w5 f=>h _ _ _ f C
 | true=>
 refine V6 ?_
 have X:=X.up a
 have q2:=q2.up a
 have q3:=q3.up a
 have q4:=q4.up a
 refine M9 ?_
 refine ld (i:=1) a.sat c rfl ?_
 refine Q8 X ?_
 refine M9 ?_
 refine ld (i:=1) a.sat g rfl ?_
 refine Q8 q3 ?_
 refine K1 ?_
 have en:R6 (Q4 l) s t=if s.stack.length≠t.stack.length∨s.locals.length≠t.locals.length then (Shp.zero,75)
  else if (List.zipWith (W8 (Q4 l)) s.stack t.stack).any (fun s=>decide (s=[])) then (Shp.zero,75)
  else (⟨true,List.zipWith (W8 (Q4 l)) s.stack t.stack,List.zipWith (T9 (Q4 l)) s.locals t.locals⟩,0):=by
  unfold R6;rw[if_neg (by simp[e1]),if_neg (by simp[e2])]
 rw[en] at h
 clear en
 have L:(s.stack.length≠t.stack.length∨s.locals.length≠t.locals.length)→ ∀w σ',Stp Z W w σ'→N4 P T.f [] w fun av w=>Z0 P T.f (.pointer (some ⟨b6,0,none⟩)) av w fun _u w=>J8 P T.f (.pointer (some ⟨b6,0,none⟩)) w fun r0=>K (.tuple #[r0,I 75]) w:=fun E w σ' k=>by
  rw[if_pos E] at h
  refine Gi ?_
  exact Vt (K:=fun r w=>K (.tuple #[r,I 75]) w) (a.trans k) (y.up k) rfl n U2.zero fun w5 f=>h _ _ _ f U2.zero
 by_cases Y:s.stack.length=t.stack.length
 case neg=>
  rw[show (!decide ((s.stack.length:Int)=(t.stack.length:Nat)))=true from by simp;omega]
  (repeat refine Hd.h ?_)
  refine V1 ?_
  exact L (.inl Y) Z W (Stp.refl a.sat)
 rw[show (!decide ((s.stack.length:Int)=(t.stack.length:Nat)))=false from by simp[Y]]
 (repeat refine Hd.h ?_)
 refine ld (i:=2) a.sat c rfl ?_
 (repeat refine Hd.h ?_)
 refine Q8 q2 ?_
 (repeat refine Hd.h ?_)
 refine ld (i:=2) a.sat g rfl ?_
 (repeat refine Hd.h ?_)
 refine Q8 q4 ?_
 (repeat refine Hd.h ?_)
 refine K1 ?_
 (repeat refine Hd.h ?_)
 by_cases Q:s.locals.length=t.locals.length
 case neg=>
  rw[show (!decide ((s.locals.length:Int)=(t.locals.length:Nat)))=true from by simp;omega]
  refine V1 ?_
  exact L (.inr Q) Z W (Stp.refl a.sat)
 rw[show (!decide ((s.locals.length:Int)=(t.locals.length:Nat)))=false from by simp[Q]]
 refine V6 ?_
 clear L
 rw[if_neg (by simp[Y,Q])] at h
 refine Q51 ?_
 refine Q85 a.sat fun b w4 A4=>?_
 have S4:=A4.stp
 refine M9 ?_
 refine ld (i:=1) S4.sat (c.up S4) rfl ?_
 refine Q8 X ?_
 refine J1 s.stack.length (fun k w'=> ∃σ',ShS Z W w' σ' b ((List.zipWith (W8 (Q4 l)) s.stack t.stack).take k) []∧ ∀j (g1:j<s.stack.length) (g2:j<t.stack.length),j<k→W8 (Q4 l) s.stack[j] t.stack[j]≠[]) ⟨W,A4,fun j _ _ h=>absurd h (Nat.not_lt_zero _)⟩ fun k w5 d hk hi=>?_
 obtain ⟨σ5,A5,J⟩:=hi
 have f:=A5.stp
 refine Z1 ?_
 refine Q6 (fun E=>?_) (fun E=>?_)
 ·have m:k<s.stack.length:=by simp at E;omega
  have o:k<t.stack.length:=by omega
  refine Js (X.up f) m fun a1 O A=>?_
  refine X8 f.sat O rfl ?_
  refine M9 ?_
  refine ld (i:=1) f.sat (g.up f) rfl ?_
  refine Js (q3.up f) o fun a2 H B=>?_
  refine X8 f.sat H rfl ?_
  refine Q8e f.sat (aa.lift ⟨f.le⟩) ok A B fun w6 σ6 k6=>?_
  have D:=A5.up k6
  refine Vx ?_
  by_cases ej:W8 (Q4 l) s.stack[k] t.stack[k]=[]
  ·rw[decide_eq_true ej]
   refine V1 ?_
   have U:(List.zipWith (W8 (Q4 l)) s.stack t.stack).any (fun s=>decide (s=[]))=true:=by
    rw[←Bool.not_eq_false,Q7w Y]
    exact fun hh=>hh k m o ej
   rw[if_pos U] at h
   refine Gi ?_
   exact Vt (K:=fun r w=>K (.tuple #[r,I 75]) w) (a.trans D.stp) (y.up D.stp) rfl n U2.zero fun w5 f=>h _ _ _ f U2.zero
  ·rw[decide_eq_false ej]
   refine V6 ?_
   obtain ⟨v1,v2,m6,p1,p2,n1,n2⟩:=D.ex
   refine M9 ?_
   refine Yv (i:=1) m6 rfl ?_
   have M:=Bk ok A B
   refine D2 (R:=Y1) (sz:=1) D.stp.sat [S (W8 (Q4 l) s.stack[k] t.stack[k])] [W8 (Q4 l) s.stack[k] t.stack[k]] rfl rfl (by simp;rfl) rfl ⟨⟨rfl,M⟩,trivial⟩ fun v7 w7 σ7 V ay=>?_
   refine X05 (D.up V) (m6.up V) ay (by rw[List.length_take];omega) fun w8 A8=>?_
   (try simp only[↓M1,M1,Mb,reduceIte])
   refine Y2 (by omega) m ⟨σ7,?_,fun j g1 g2 hj=>?_⟩
   ·rw[Q7c m o];exact A8
   ·by_cases e:j=k
    ·subst e;exact ej
    ·exact J j g1 g2 (by omega)
 have N:k=s.stack.length:=by simp at E;omega
 subst N
 have U:(List.zipWith (W8 (Q4 l)) s.stack t.stack).any (fun s=>decide (s=[]))=false:=(Q7w Y).2 fun j g1 g2=>J j g1 g2 g1
 rw[if_neg (by simp[U])] at h
 rw[List.take_of_length_le (by simp;omega)] at A5
 clear J U
 refine M9 ?_
 refine ld (i:=2) f.sat (c.up f) rfl ?_
 refine Q8 (q2.up f) ?_
 refine J1 s.locals.length (fun k w'=> ∃σ',ShS Z W w' σ' b (List.zipWith (W8 (Q4 l)) s.stack t.stack) ((List.zipWith (T9 (Q4 l)) s.locals t.locals).take k)) ⟨σ5,A5⟩ fun k w6 d hk hi=>?_
 obtain ⟨σ6,D⟩:=hi
 have p:=D.stp
 refine Z1 ?_
 refine Q6 (fun E=>?_) (fun E=>?_)
 ·have m:k<s.locals.length:=by simp at E;omega
  have o:k<t.locals.length:=by omega
  refine Js (q2.up p) m fun a1 O A=>?_
  refine X8 p.sat O rfl ?_
  refine Zz (fun z w'=> ∃σ',Stp w6 σ6 w' σ'∧z=S (T9 (Q4 l) s.locals[k] t.locals[k])∧(T9 (Q4 l) s.locals[k] t.locals[k]).length≤Z9) ?_ fun z d w7 U=>?_
  ·refine Wo ?_
   by_cases e3:s.locals[k]=[]
   ·rw[show (!decide (s.locals[k]=[]))=false from by simp[e3]]
    (repeat refine Hd.h ?_)
    refine V6 ?_
    have ee:T9 (Q4 l) s.locals[k] t.locals[k]=[]:=by unfold T9;rw[if_pos (.inl e3)]
    rw[ee]
    exact ⟨σ6,Stp.refl p.sat,rfl,Nat.zero_le _⟩
   ·rw[show (!decide (s.locals[k]=[]))=true from by simp[e3]]
    (repeat refine Hd.h ?_)
    refine ld (i:=2) p.sat (g.up p) rfl ?_
    (repeat refine Hd.h ?_)
    refine Js (q4.up p) o fun a2 H B=>?_
    (repeat refine Hd.h ?_)
    refine X8 p.sat H rfl ?_
    (repeat refine Hd.h ?_)
    refine Wo ?_
    (repeat refine Hd.h ?_)
    by_cases e4:t.locals[k]=[]
    ·rw[show (!decide (t.locals[k]=[]))=false from by simp[e4]]
     refine V6 ?_
     have ee:T9 (Q4 l) s.locals[k] t.locals[k]=[]:=by unfold T9;rw[if_pos (.inr e4)]
     rw[ee]
     exact ⟨σ6,Stp.refl p.sat,rfl,Nat.zero_le _⟩
    ·rw[show (!decide (t.locals[k]=[]))=true from by simp[e4]]
     refine V1 ?_
     have ee:T9 (Q4 l) s.locals[k] t.locals[k]=W8 (Q4 l) s.locals[k] t.locals[k]:=Q4z _ _ _
     rw[ee]
     refine M9 ?_
     refine ld (i:=2) p.sat (g.up p) rfl ?_
     refine Js (q4.up p) o fun a3 ap bx=>?_
     refine X8 p.sat ap rfl ?_
     refine Q8e p.sat (aa.lift ⟨p.le⟩) ok A B fun w7 σ7 V=>?_
     exact ⟨σ7,V,rfl,Bk ok A B⟩
  ·obtain ⟨σ7,V,rfl,M⟩:=U
   have A7:=D.up V
   obtain ⟨v1,v2,m7,p1,p2,n1,n2⟩:=A7.ex
   refine M9 ?_
   refine Yv (i:=2) m7 rfl ?_
   refine D2 (R:=Y1) (sz:=1) A7.stp.sat [S (T9 (Q4 l) s.locals[k] t.locals[k])] [T9 (Q4 l) s.locals[k] t.locals[k]] rfl rfl (by simp;rfl) rfl ⟨⟨rfl,M⟩,trivial⟩ fun v8 w8 σ8 k8 a6=>?_
   refine X0h (A7.up k8) (m7.up k8) a6 (by rw[List.length_take];omega) fun w9 A9=>?_
   (try simp only[↓M1,M1,Mb,reduceIte])
   refine Y2 (by omega) m ⟨σ8,?_⟩
   rw[Q7c m o];exact A9
 have N:k=s.locals.length:=by simp at E;omega
 subst N
 rw[List.take_of_length_le (by simp;omega)] at D
 exact Q7T (K:=fun r w=>K (.tuple #[r,I 0]) w) D a y rfl n fun q w' σ' k' aq=>h q w' σ' k' aq)
end Go.Proofs.YtfppjenblllfaaaGreatDoor

namespace Go.Proofs.YtfppjenblllfaaaGreatDoor
open Go.Emb Go.RowKit Go.Kd Go.Hm
variable {w : World} {K : Value → World → Prop} {σ : Q5} {l : List Cla} {v : Value}
theorem Q6L:(C5 l).length=l.length:=by simp[C5]
theorem Q7V {i:Nat} (a:i<(C5 l).length):(C5 l)[i]=(List.range l.length).map fun j=>A0 l (X9 l i) (X9 l j):=by simp[C5]
theorem Sl.elB {xs:List (List Bool)} {v:Value} (h:Sl 1 Q3Z σ v xs) {i:Nat} (a:i<xs.length): ∃u,Z3 σ (Ib 1 v i) [u]∧Sl 1 Q1A σ u xs[i]:=by
 obtain ⟨cs,b,d,u,rfl,c⟩:=h.el a;exact ⟨u,b,c⟩
theorem Sl.elb {xs:List Bool} {v:Value} (h:Sl 1 Q1A σ v xs) {i:Nat} (b:i<xs.length):Z3 σ (Ib 1 v i) [.bool xs[i]]:=by
 obtain ⟨cs,c,d,a⟩:=h.el b
 have a:cs=_:=a
 subst a;exact c
theorem Q2r {a b:X0} (n:X4 w σ) (p:Sl 8 U5 σ v (Q4 l)) (o:Wf l) (ok:Ok (Q4 l)) (L:(Q4 l).length≤1000) (U:a.length≤Z9) (hb:b.length≤Z9) (h: ∀w' σ',Stp w σ w' σ'→K (.bool (W9 (Q4 l) a b)) w'):Q0 P F.ay [v,S a,S b] w K:=Tn (by
 unfold Oi
 have y: ∀r,W9 (Q4 l) a b=r→K (.bool r) w:=fun r e=>by rw[←e];exact h _ _ (Stp.refl n)
 refine Uo n p U ?_
 cases f:N0 (Q4 l) a with
 | false=>
  have O:W9 (Q4 l) a b=false:=by unfold W9;simp[f]
  (try simp only[↓M1,M1,Mb,reduceIte])
  by_cases e:a=b
  ·have g:decide (a=b)=true:=by simpa using e
   simp only[g,↓M1,M1,Mb,reduceIte]
   refine Uo n p U ?_
   rw[f]
   (try simp only[↓M1,M1,Mb,reduceIte])
   exact y _ O
  ·have g:decide (a=b)=false:=by simpa using e
   simp only[g,↓M1,M1,Mb,reduceIte]
   exact y _ O
 | true=>
 (try simp only[↓M1,M1,Mb,reduceIte])
 refine Uo n p hb ?_
 cases k:N0 (Q4 l) b with
 | false=>
  have O:W9 (Q4 l) a b=false:=by unfold W9;simp[k]
  have g:decide (a=b)=false:=by
   rw[decide_eq_false_iff_not];rintro rfl;rw[f] at k;cases k
  simp only[g,↓M1,M1,Mb,reduceIte]
  exact y _ O
 | true=>
 (try simp only[↓M1,M1,Mb,reduceIte])
 by_cases e:a=b
 ·have g:decide (a=b)=true:=by simpa using e
  simp only[g,↓M1,M1,Mb,reduceIte]
  refine Uo n p U ?_
  rw[f]
  (try simp only[↓M1,M1,Mb,reduceIte])
  exact y _ (o.sub_iff.2 ⟨f,k, .inl e⟩)
 have g:decide (a=b)=false:=by simpa using e
 simp only[g,↓M1,M1,Mb,reduceIte]
 refine Zt _ ?_
 have c:(∀(_:plain a=false∧plain b=false∧(a=D0∨(elem a≠[]∧b=Z7)∨(lk (Q4 l) a≠none∧Hm.Reach (lk (Q4 l)) a b))),False)→K (.bool false) w:=fun hx=>y _ (eq_false_of_ne_true fun ht=>by
  obtain ⟨_,_,h3⟩:=o.sub_iff.1 ht
  rcases h3 with h3 | h3
  ·exact e h3
  ·exact hx h3)
 cases t:plain a with
 | true=>(try simp only[↓M1,M1,Mb,reduceIte]);exact c fun hx=>by rw[t] at hx;cases hx.1
 | false=>
 (try simp only[↓M1,M1,Mb,reduceIte])
 refine Zt _ ?_
 cases C:plain b with
 | true=>(try simp only[↓M1,M1,Mb,reduceIte]);exact c fun hx=>by rw[C] at hx;cases hx.2.1
 | false=>
 (try simp only[↓M1,M1,Mb,reduceIte])
 by_cases M:b=D0
 ·have g:decide (b=[110,117,108,108])=true:=by rw[decide_eq_true_eq];exact M
  simp only[g,↓M1,M1,Mb,reduceIte]
  refine c fun ⟨_,_,hx⟩=>?_
  rcases hx with hx | ⟨_,hx⟩ | ⟨_,hx⟩
  ·exact e (hx.trans M.symm)
  ·rw[M] at hx;exact absurd hx (by decide)
  ·obtain ⟨d,A⟩:=hx.right
   rw[M,o.none_null] at A;cases A
 have X:decide (b=[110,117,108,108])=false:=by rw[decide_eq_false_iff_not];exact M
 simp only[X,↓M1,M1,Mb,reduceIte]
 by_cases m:a=D0
 ·have g:decide (a=[110,117,108,108])=true:=by rw[decide_eq_true_eq];exact m
  simp only[g,↓M1,M1,Mb,reduceIte]
  exact y _ (o.sub_iff.2 ⟨f,k, .inr ⟨t,C, .inl m⟩⟩)
 have J:decide (a=[110,117,108,108])=false:=by rw[decide_eq_false_iff_not];exact m
 simp only[J,↓M1,M1,Mb,reduceIte]
 by_cases D:b=Z7
 ·have g:decide (b=[79,98,106,101,99,116])=true:=by rw[decide_eq_true_eq];exact D
  simp only[g,↓M1,M1,Mb,reduceIte]
  exact y _ (by rw[D];exact o.sub_root f t)
 have Q:decide (b=[79,98,106,101,99,116])=false:=by rw[decide_eq_false_iff_not];exact D
 simp only[Q,↓M1,M1,Mb,reduceIte]
 refine C2 n p ?_
 refine C2 n p ?_
 refine Xe ?_
 rw[G9]
 cases z:Y3 (Q4 l) a with
 | none=>
  simp only[Option.isSome_none,↓M1,M1,Mb,reduceIte]
  refine c fun ⟨_,_,hx⟩=>?_
  rcases hx with hx | ⟨_,hx⟩ | ⟨hx,_⟩
  ·exact m hx
  ·exact D hx
  ·exact hx (by unfold lk;rw[z];rfl)
 | some i=>
 simp only[Option.isSome_some,↓M1,M1,Mb,reduceIte]
 cases E:Y3 (Q4 l) b with
 | none=>
  simp only[G9,Option.isSome_none,↓M1,M1,Mb,reduceIte]
  refine c fun ⟨_,_,hx⟩=>?_
  rcases hx with hx | ⟨_,hx⟩ | ⟨_,hx⟩
  ·exact m hx
  ·exact D hx
  ·obtain ⟨d,A⟩:=hx.right
   unfold lk at A;rw[E] at A;cases A
 | some j=>
 obtain ⟨Z,W⟩:=E0 z
 obtain ⟨hj,R⟩:=E0 E
 simp only[G9,Option.isSome_some,↓M1,M1,Mb,reduceIte]
 simp only[W3]
 refine Ag n p o.own (by omega) L ok.sm fun v1 w1 σ1 s B=>?_
 have q:i<(C5 (Q4 l)).length:=by rw[Q6L];exact Z
 refine J0 B q ?_
 obtain ⟨u,p1,Y⟩:=Sl.elB B q
 refine X8 s.sat p1 rfl ?_
 rw[Q7V q] at Y
 have N:j<((List.range (Q4 l).length).map fun j=>A0 (Q4 l) (X9 (Q4 l) i) (X9 (Q4 l) j)).length:=by simpa using hj
 refine J0 Y N ?_
 refine X8 s.sat (Sl.elb Y N) rfl ?_
 (try simp only[↓M1,M1,Mb,reduceIte])
 simp only[List.getElem_map,List.getElem_range,W,R]
 have H:W9 (Q4 l) a b=A0 (Q4 l) a b:=by
  obtain ⟨ca,V,_⟩:=Xt z
  rw[Bool.eq_iff_iff,o.sub_class V,Ys,Pw]
  constructor
  ·rintro (⟨hx,_⟩ | hx)
   ·exact absurd hx e
   ·exact hx
  ·exact .inr
 rw[←H]
 exact h _ _ s)
end Go.Proofs.YtfppjenblllfaaaGreatDoor

namespace Go.Proofs.YtfppjenblllfaaaGreatDoor
open Go.Emb Go.RowKit Go.Kd Go.Hm
variable {w : World} {K : Value → World → Prop} {σ : Q5} {l : List Cla} {v : Value}
theorem Q4K {a b:X0} (hs:X4 w σ) (R:Sl 8 U5 σ v (Q4 l)) (Q:Wf l) (ok:Ok (Q4 l)) (g:(Q4 l).length≤1000) (V:a.length≤Z9) (N:b.length≤Z9) (h: ∀w' Y,Stp w σ w' Y→K (S (W8 (Q4 l) a b)) w'):Q0 P F.aG [v,S a,S b] w K:=Ky (by
 unfold Lz
 unfold W8 at h
 refine Q2r hs R Q ok g V N fun w1 σ1 o=>?_
 cases h1:W9 (Q4 l) a b with
 | true=>
  (try simp only[↓M1,M1,Mb,reduceIte])
  simp only[h1,if_true] at h
  exact h _ _ o
 | false=>
 simp only[h1,Bool.false_eq_true,if_false] at h
 (try simp only[↓M1,M1,Mb,reduceIte])
 have H:=R.up o
 refine Q2r o.sat H Q ok g N V fun w2 σ2 L=>?_
 have p:=o.trans L
 have u:=H.up L
 cases h2:W9 (Q4 l) b a with
 | true=>
  (try simp only[↓M1,M1,Mb,reduceIte])
  simp only[h2,if_true] at h
  exact h _ _ p
 | false=>
 simp only[h2,Bool.false_eq_true,if_false] at h
 (try simp only[↓M1,M1,Mb,reduceIte])
 have A:=p.sat
 have J:=fun r (e:_=r)=>(Eq.subst (motive:=fun r=>K (S r) w2) e (h _ _ p))
 refine Uo A u V ?_
 cases h3:N0 (Q4 l) a with
 | false=>(try simp only[↓M1,M1,Mb,reduceIte]);exact J _ (by simp[h3])
 | true=>
 (try simp only[↓M1,M1,Mb,reduceIte])
 refine Uo A u N ?_
 cases h4:N0 (Q4 l) b with
 | false=>(try simp only[↓M1,M1,Mb,reduceIte]);exact J _ (by simp[h4])
 | true=>
 (try simp only[↓M1,M1,Mb,reduceIte])
 refine Zt _ ?_
 cases h5:plain a with
 | true=>(try simp only[↓M1,M1,Mb,reduceIte]);exact J _ (by simp[h5])
 | false=>
 (try simp only[↓M1,M1,Mb,reduceIte])
 refine Zt _ ?_
 cases h6:plain b with
 | true=>(try simp only[↓M1,M1,Mb,reduceIte]);exact J _ (by simp[h6])
 | false=>
 (try simp only[↓M1,M1,Mb,reduceIte])
 clear J
 simp only[h3,h4,h5,h6,Bool.not_true,Bool.or_false,Bool.false_eq_true,if_false] at h
 refine C2 A u ?_
 refine Ri (fun m x w'=> ∃s O Y,m=(chain (Q4 l) s).length∧x=I (W3 (Y3 (Q4 l) s))∧chain (Q4 l) a=O++chain (Q4 l) s∧Stp w σ w' Y∧O.find? (fun c=>W9 (Q4 l) b c.name)=none)
  (chain (Q4 l) a).length ⟨a,[],σ2,rfl,rfl,rfl,p,rfl⟩ ?_
 rintro U m x d w3 ⟨s,O,σ3,rfl,rfl,y,f,C⟩ Z
 have k:=R.up f
 have E:=f.sat
 refine Xe ?_
 rw[G9]
 cases M:lk (Q4 l) s with
 | some c=>
  obtain ⟨am,ao,i,X,aa⟩:=U1 M
  obtain ⟨n,W⟩:=List.getElem?_eq_some_iff.1 aa
  have z:chain (Q4 l) s=c::chain (Q4 l) c.super:=by rw[C9 ok.acy s,M]
  simp only[X,Option.isSome_some,W3,↓M1,M1,Mb,reduceIte]
  refine J0 k n ?_
  obtain ⟨lv,fv,mv,D,r1⟩:=k.elC n
  rw[W] at D r1
  obtain ⟨_,_,_,b4,b5⟩:=r1.parts
  (try simp only[↓M1,M1,Mb,reduceIte])
  refine ld E D rfl ?_
  refine Q2r E k Q ok g N b4 fun w4 σ4 j=>?_
  have B:=k.up j
  have t:=j.sat
  replace D:=D.up j
  cases q:W9 (Q4 l) b c.name with
  | true=>
   (try simp only[↓M1,M1,Mb,reduceIte])
   refine J0 B n ?_
   (try simp only[↓M1,M1,Mb,reduceIte])
   refine ld t D rfl ?_
   have:(chain (Q4 l) a).find? (fun c=>W9 (Q4 l) b c.name)=some c:=by
    rw[y,List.find?_append,C,z,List.find?_cons,q];rfl
   rw[this] at h
   exact h _ _ (f.trans j)
  | false=>
   (try simp only[↓M1,M1,Mb,reduceIte])
   refine J0 B n ?_
   (try simp only[↓M1,M1,Mb,reduceIte])
   refine ld t D rfl ?_
   refine C2 t B ?_
   refine Z (chain (Q4 l) c.super).length _ _ (by rw[z,List.length_cons];omega) ⟨c.super,O++[c],σ4,rfl,rfl,by rw[y,z];simp,f.trans j,?_⟩
   rw[List.find?_append,C]
   simp[q]
 | none=>
  rw[Tc M]
  simp only[Option.isSome_none,↓M1,M1,Mb,reduceIte]
  have:(chain (Q4 l) a).find? (fun c=>W9 (Q4 l) b c.name)=none:=by rw[y,G3 M,List.append_nil];exact C
  rw[this] at h
  exact h _ _ f)
end Go.Proofs.YtfppjenblllfaaaGreatDoor
