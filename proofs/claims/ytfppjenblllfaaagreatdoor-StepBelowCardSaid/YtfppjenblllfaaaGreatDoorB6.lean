/- Parts of a proof about the given program: its functions as texts of their own, what each computes, plain laws of that. The conditions of each stand in its statement. -/
import Derived.Test.YtfppjenblllfaaaGreatDoorB5
import Derived.Test.YtfppjenblllfaaaGreatDoorB3
import Derived.Test.YtfppjenblllfaaaGreatDoorB4
import Derived.Test.YtfppjenblllfaaaGreatDoorRows
import Derived.WalkKit
import Derived.ProofKit
import Derived.OpenShut
import Derived.ShutString
import Derived.ChangeOld
import Derived.Below
import Derived.SizedLaws
import Derived.Lay
import Derived.Carry
import Derived.MakeChecks
import Derived.PinnedBridge
set_option linter.unnecessarySimpa false
set_option linter.defProp false
set_option linter.unusedSectionVars false
set_option linter.unusedVariables false
set_option linter.unusedSimpArgs false
namespace Go.Emb
open Go.RowKit Go.Hm
section
variable {P : Program} {w w0 w1 w' : World} {K : Value → World → Prop} {σ σ0 : Q4} {α : Type} {R : Q4 → α → List Value → Prop} {sz : Nat} {e : TypeId} {v u : Value} {xs ys : List α}
def Full (v:Value):Prop:= ∃a n,v= .slice a n n
theorem Q1v {t:TypeId} {by_:Nat} {z:Value} {n:Nat} {a:List (Nat×Value)} [ts:TS P t e] [tz:TZ P e sz by_ z] (q:Stp w0 σ0 w σ) (vs:List Value) (xs:List α) (A:n=vs.length) (s:a=en 0 vs) (hv: ∀v∈vs,v.cells.size=sz) (b:(decide (0<sz)&&decide (vs.length*sz≤16777216))=true) (r:Pm R σ vs xs)
 (h: ∀v w',Stp w σ w' σ→J1 w0.heap.size e sz R σ w' v xs→Full v→K v w'):buildSlice P t n a w K:=by
 subst A s
 simp only[Bool.and_eq_true,decide_eq_true_eq] at b
 obtain ⟨o,b⟩:=b
 obtain ⟨cells,J,j⟩:=Uu (P:=P) (t:=t) vs hv b w
 unfold buildSlice
 rw[Y2 J]
 have g:=r.len
 refine h _ _ (Stp.own q.sat _) ⟨cells.toList,⟨by rw[j,Dg hv,g], .inr ⟨_,_,cells,by rw[g],q.bel.size,heap_alloc_new w _,by omega,?_,?_,?_⟩⟩,?_,?_⟩ ⟨_,_,rfl⟩
 ·simp only[maxLen]
  have:vs.length*1≤vs.length*sz:=Nat.mul_le_mul_left _ o
  omega
 ·rw[←Array.length_toList,j,Dg hv,g]
 ·rw[List.take_of_length_le (by rw[j,Dg hv,g];exact Nat.le_refl _)]
 ·intro k L;cases L;exact q.sat.none (Nat.le_refl _)
 ·intro i x H
  obtain ⟨v,y,C⟩:=r.get H
  rw[j,Q3e hv i v y];exact C
theorem Q6U {t ty:TypeId} {by_:Nat} {z:Value} {cs:List Bool} [ts:TS P t e] [tz:TZ P e sz by_ z] [hr:Rep R] (hS:Stp w0 σ0 w σ) (ha:J1 w0.heap.size e sz R σ w v xs) (hv:Full v) (C:Sl sz R σ u ys) (hz:(z.cells.size==sz&&decide (0<sz))=true)
 (hb:(xs.length+ys.length)*by_≤140737488355328) (hm:xs.length+ys.length≤1000000000000)
 (h: ∀q w',Stp w σ w' σ→J1 w0.heap.size e sz R σ w' q (xs++ys)→((∀k,q.ownBlock=some k→w.heap.size≤k)∨ys=[]∧q=v)→K q w'):X5 P .append [t,t] ty cs [v,u] w K:=by
 have Q:=ha
 obtain ⟨cells,Z,h2,h3⟩:=ha
 obtain ⟨av,nv,rfl⟩:=hv
 rcases Z.2 with ⟨O,e2⟩ | ⟨g,a5,al,O,be,hg,ba,a7,M,am⟩
 ·cases O
  have:xs=[]:=List.eq_nil_of_length_eq_zero e2
  subst this
  exact app hS Q C hz hb (by simp at hm⊢;omega) fun q w' hg _ ai aj=>h q w' (Stp.of_below hS.sat ((Kpt.of_grown (D:=fun _=>False) hg fun k y=>by cases y).below fun _=>id)) ai (.inl fun k y=>by
   rcases aj with e | e
   ·rw[e] at y;cases y
   ·exact e k y)
 injection O with O e2 e3
 subst O e3 e2
 have hs:=hS.sat
 obtain ⟨a,o,n,rfl,n1,n2,n3,n4,n5⟩:=C.cells hs
 obtain ⟨i,hi,X,an,L⟩:=tz.info
 simp only[Bool.and_eq_true,beq_iff_eq,decide_eq_true_eq] at hz
 obtain ⟨ag,bd⟩:=hz
 have r:Src P i.size t (.slice a ys.length o) ys.length n w:=by
  cases a with
  | some b=>exact Src.ofSlice w ts.h b ys.length o n (by rw[X];exact n2) (n3 b rfl) n4
  | none=>
   have Y:ys.length=0:=by
    obtain ⟨a',ay,e',q1,_,q3,_⟩:=C;injection e' with O e2 e3;have:=n1 rfl;omega
   have V:n=[]:=List.eq_nil_of_length_eq_zero (by rw[n2,Y];simp)
   subst V
   rw[Y];exact Src.ofNil w ts.h o
 have W: ∀q w',(Builtin.append_ #[t,t] ty #[.slice (some ⟨g,0,none⟩) xs.length xs.length, .slice a ys.length o]).run P w= .ok q w'→Stp w σ w' σ→J1 w0.heap.size e sz R σ w' q (xs++ys)→((∀k,q.ownBlock=some k→w.heap.size≤k)∨ys=[]∧q= .slice (some ⟨g,0,none⟩) xs.length xs.length)→X5 P .append [t,t] ty cs [.slice (some ⟨g,0,none⟩) xs.length xs.length, .slice a ys.length o] w K:=by
  intro q w' s y hq V
  have N:(builtin .append #[t,t] ty cs.toArray #[.slice (some ⟨g,0,none⟩) xs.length xs.length, .slice a ys.length o]).run P w= .ok (.value q) w':=by
   simp[builtin,s]
  unfold X5
  rw[Qj];unfold P7
  rw[N]
  exact h q w' y hq V
 by_cases Y:ys=[]
 ·subst Y
  have V:n=[]:=List.eq_nil_of_length_eq_zero (by simpa using n2)
  subst V
  refine W _ w ?_ (Stp.refl hs) (by rw[List.append_nil];exact Q) (.inr ⟨rfl,rfl⟩)
  have hl:=r.len w
  have M:=r.cells
  simp only[List.length_nil] at hl M⊢
  simp[Builtin.append_,run_underlying ts.h,sizeOf,typeInfo,hi,hl,M,storeCells]
 ·have a0:0<ys.length:=List.length_pos_iff.2 Y
  have J:(Builtin.firstCells i.size xs.length (.slice (some ⟨g,0,none⟩) xs.length xs.length)).run P w.drew= .ok cells.toArray w.drew:=by
   refine run_firstCells_some _ _ _ _ _ _ _ (by rw[X];exact Z.1) fun j u C=>?_
   unfold World.cell?
   have hh:w.drew.heap[g]? =some (.cells al e (0,0)):=hg
   rw[←am,List.getElem?_take] at C
   have ea:(⟨g,0,none⟩:Addr).add j=⟨g,j,none⟩:=by unfold Addr.add;split<;>simp_all
   rw[ea]
   simp only[hh]
   split at C
   ·simpa using C
   ·cases C
  have U:xs.length<xs.length+ys.length:=by omega
  have s:=run_append_grow_src (P:=P) w t t ty e i z ts.h hi L (some ⟨g,0,none⟩) xs.length xs.length cells J (.slice a ys.length o) ys.length n r U (by omega) (growslice_fits U (by rw[an];exact hb))
  have ao:=grownCap_le_maxLen w (xs.length+ys.length) xs.length e (by simp only[maxLen];omega)
  have ak:=grownCap_ge w (xs.length+ys.length) xs.length e
  have A:(xs++ys).length=xs.length+ys.length:=List.length_append
  have H:(cells++n).length=(xs.length+ys.length)*sz:=by rw[List.length_append,Z.1,n2,Nat.add_mul]
  refine W _ _ s (Stp.of_below hs ((Below.refl _ _).drew.alloc (Nat.le_refl _) _)) ⟨cells++n,⟨by rw[A];exact H, .inr ⟨w.heap.size,_,_,by rw[A],hS.bel.size,heap_alloc_new w.drew _,by rw[A];exact ak,ao,?_,?_⟩⟩,?_,fun j x hx=>?_⟩ (.inl fun k y=>by cases y;exact Nat.le_refl _)
  ·rw[Array.size_append,List.size_toArray,H,size_zeroCells,ag,←Nat.add_mul]
   congr 1;omega
  ·rw[Array.toList_append,A]
   rw[List.take_append_of_le_length (by simp only[List.toList_toArray];omega),List.take_of_length_le (by simp only[List.toList_toArray];omega)]
  ·intro k y;cases y;exact hs.none (Nat.le_refl _)
  ·by_cases hj:j<xs.length
   ·rw[List.getElem?_append_left hj] at hx
    rw[Vx cells n xs.length j Z.1 hj]
    exact h3 j x hx
   ·rw[List.getElem?_append_right (by omega)] at hx
    have:=n5 _ _ hx
    rw[show j*sz=cells.length+(j-xs.length)*sz by rw[Z.1,←Nat.add_mul];congr 1;omega,List.drop_append]
    simpa [List.drop_eq_nil_of_le] using this
def Df (w0:World) (σ:Q4) (e:TypeId) (sz:Nat) (R:Q4→α→List Value→Prop) (xs:List α) (v:Value) (w':World):Prop:=Stp w0 σ w' σ∧J1 w0.heap.size e sz R σ w' v xs∧Full v
theorem Df.st [Rep R]:D6 (fun w w'=>Below w.heap.size w w') (Df w0 σ e sz R xs):=fun _ _ _ ⟨a,h,g⟩ b=>⟨a.trans (Stp.of_below a.sat b),h.up (Stp.of_below a.sat b),g⟩
end
end Go.Emb
namespace Go.Proofs.YtfppjenblllfaaaGreatDoor
open Go.Emb Go.RowKit Go.Kd Go.Hm
variable {w w' w1 : World} {K : Value → World → Prop} {σ σ' σ1 : Q4} {v u : Value} {B : Nat} {D D1 : Nat → Prop} {p tv pv cv hv : Value} {m : Hm.Met} {i : Ins} {d d' d2 : Dr} {l : List Cla} {E E' : World → Prop} {c f : Q8} {k : Bool}
theorem Q6h {n:Nat} (h:F5 l c f=some n):n<(U4 l c).length:=(List.findIdx?_eq_some_iff_getElem.1 h).1
theorem Q4g (ok:Ok l) {x:Fld} (h:x∈U4 l c):x.kind.length≤Y9:=by
 unfold U4 at h
 obtain ⟨y,a,b⟩:=List.mem_flatMap.1 h
 have:=((ok.nm _ (Ct (List.mem_reverse.1 a))).2.1 x b).2
 exact Nat.le_trans this (by decide)
def X2s (o:Option (Q8×Q8)):Value:= .tuple #[S ((o.map (·.1)).getD []),S ((o.map (·.2)).getD [])]
theorem Co {s:Q8}:(P4 s).1.length≤s.length∧(P4 s).2.1.length≤s.length:=by
 unfold P4
 split
 ·have:=X3f s
  exact ⟨by show (G2 s).1.length≤_;omega,by show (G2 s).2.1.length≤_;omega⟩
 ·exact ⟨Nat.zero_le _,Nat.zero_le _⟩
theorem Q5Z {s:Q8} (b:s.length≤Y9) (h: ∀w',Below w.heap.size w w'→K (.tuple #[S (P4 s).1,S (P4 s).2.1,I (if (P4 s).2.2 then 0 else 30)]) w'):Q0 P F.bk [S s] w K:=
 Q8j s (by unfold Y9 at b;omega) fun w1 a=>by
  have:=h w1 a
  unfold P4 at this
  by_cases e:T1 s
  ·rw[if_pos e] at this⊢;exact this
  ·rw[if_neg e] at this⊢;exact this
theorem Q8d (h:AtD B D w σ p tv pv cv hv m i l d) (hi:i.s.length≤Y9) (hp:P4 i.s=(c,f,k)) (hh:To B D w σ p tv pv cv hv m i (d.wrong (C2 l c f k).isSome 76) (K (if (d.wrong (C2 l c f k).isSome 76).e=0 then X2s (C2 l c f k) else X2s none))):Q0 P F.aV [p] w K:=Au (by
 unfold Om
 obtain ⟨b,sv,lv,rfl,hm,hq,hl⟩:=h.cells
 have a8:c.length≤Y9:=by have:=(Co (s:=i.s)).1;rw[hp] at this;exact Nat.le_trans this hi
 refine R2 ?_
 refine J5 ?_
 refine J5 ?_
 refine B6 (i:=10) hm rfl ?_
 refine Q5Z hi fun w1 b1=>?_
 rw[hp]
 have k1:=Stp.of_below h.sat b1
 refine Z8 (vs:=[_,_,_]) rfl ?_
 refine Z8 (vs:=[_,_,_]) rfl ?_
 refine Z8 (vs:=[_,_,_]) rfl ?_
 have h1:=h.up k1
 obtain ⟨b',a9,a5,eb,al,_⟩:=h1.cells
 cases eb
 refine R2 ?_
 refine J5 ?_
 refine B6 (i:=0) al rfl ?_
 refine Q8B h1.sat h1.tab h1.ok.acy h1.ok.len h1.ok.sm fun w2 σ2 k2=>?_
 have h2:=h1.up k2
 have aq:=(hh.up k1).up k2
 refine Vo ?_
 have ad: ∀q,(C2 l c f k).isSome=q→Q0 P F.c [.pointer (some ⟨b,0,none⟩), .bool q,I 76] w2 fun ax w=>
  J4 P .not ax w fun am w=>
  X1 am (
   K (.tuple #[(.string ⟨#[]⟩),(.string ⟨#[]⟩)]) w) (
   dr w fun o Y=>
   Q6 o (fun J=> ∀w,Y w→nilCheck P (.pointer (some ⟨b,0,none⟩)) w (dk o J w)) fun J=>
   Q6 o (fun W=> ∀C w,Y w→J C w→fieldAddr P T.m C 0 w (dk o W w)) fun W=>
   Q6 o (fun N=> ∀U w,Y w→W U w→Q2 P T.r U w (dk o N w)) fun N=>
   Q6 o (fun O=> ∀Q w,Y w→N Q w→Q0 P F.ag [Q,S c] w (dk o O w)) fun O=>
   Q6 o (fun M=> ∀X w,Y w→O X w→indexAddr P T.i X (I (L2 (F5 l c f))) w (dk o M w)) fun M=>
   Q6 o (fun A=> ∀L w,Y w→M L w→fieldAddr P T.l L 1 w (dk o A w)) fun A=>
   Q6 o (fun Z=> ∀H w,Y w→A H w→Q2 P T.a H w (dk o Z w)) fun Z=>
   ∀C U Q X L H ag w,Y w→J C w→W U w→N Q w→O X w→M L w→A H w→Z ag w→
   K (.tuple #[S c,ag]) w):=fun q eq=>by
  subst eq
  refine Xk h2 (h2.to aq (by rw[Dr.wrong_st];exact h2.len) fun w3 σ3 D3 N3 z y=>?_)
  refine Lm ?_
  by_cases e3:(d.wrong (C2 l c f k).isSome 76).e=0
  ·rw[if_pos e3] at y
   rw[decide_eq_true e3,Bool.not_true]
   refine U6 ?_
   obtain ⟨_,g,_⟩:=Dr.wrong_ok (by decide) e3
   obtain ⟨n,hn,hk⟩: ∃n,F5 l c f=some n∧C2 l c f k=some (c,((U4 l c).getD n Fld.zero).kind):=by
    unfold C2 at g⊢
    cases k with
    | false=>simp at g
    | true=>
     simp only[if_true] at g⊢
     cases ai:F5 l c f with
     | none=>rw[ai] at g;simp at g
     | some n=>exact ⟨n,rfl,rfl⟩
   rw[hk] at y z
   rw[hn]
   have ah:n<(U4 l c).length:=Q6h hn
   have an:=z.tab
   obtain ⟨a6,a1,a4,eb,aj,_⟩:=z.cells
   cases eb
   refine V0 z.sat ?_
   refine J3 (fun w j=>R2 (Y1 rfl)) ?_
   refine J3 (fun t w j e=>by subst e;exact J5 (Y1 rfl)) ?_
   refine J3 (V:=tv) (fun t w j e=>by subst e;exact B6 (i:=0) (aj.up j.stp) rfl (Y1 rfl)) ?_
   refine Ra (w:=w3) (σ:=σ3) (Φ:=fun σ' v=>Sl 3 H0 σ' v (U4 l c)) (fun t w j e=>?_) ?_
   ·subst e;exact Q6g j.sat (an.lift ⟨j.stp.le⟩) z.ok.acy z.ok.len z.ok.sm fun v' w' σ' hk ak=>Q0s j hk ak
   refine L3 (fun v w'=> ∃σ',Stp w3 σ3 w' σ'∧ ∃a,v= .pointer (some a)∧Z2 σ' a [S (U4 l c)[n].name,S (U4 l c)[n].kind, .bool (U4 l c)[n].tr]) (fun _ _ _ ⟨σ',r,a,g2,g3⟩ j=>⟨σ',r.trans (Stp.of_below r.sat j),a,g2,g3⟩) (fun t w j e=>?_) ?_
   ·obtain ⟨σ',r,g2⟩:=e
    exact Q6z g2 ah fun a ha _=>⟨Below.refl _ _,σ',r,a,rfl,ha⟩
   refine L3 (fun v w'=> ∃σ',Stp w3 σ3 w' σ'∧ ∃a,v= .pointer (some (a.add 1))∧Z2 σ' a [S (U4 l c)[n].name,S (U4 l c)[n].kind, .bool (U4 l c)[n].tr]) (fun _ _ _ ⟨σ',r,a,g2,g3⟩ j=>⟨σ',r.trans (Stp.of_below r.sat j),a,g2,g3⟩) (fun t w j e=>?_) ?_
   ·obtain ⟨σ',r,a,rfl,g3⟩:=e
    exact J5 ⟨Below.refl _ _,σ',r,a,rfl,g3⟩
   refine J3 (V:=S (U4 l c)[n].kind) (fun t w j e=>?_) ?_
   ·obtain ⟨σ',r,a,rfl,g3⟩:=e
    exact ld (i:=1) r.sat g3 rfl (Y1 rfl)
   rintro _ _ _ _ _ _ _ w4 aa- - - - - -rfl
   have:=(y.up aa.stp).fin aa.sat (z.up aa.stp).dr
   have ek:(U4 l c).getD n Fld.zero=(U4 l c)[n]:=by simp[List.getD,ah]
   rw[ek] at this
   exact this
  ·rw[if_neg e3] at y
   rw[decide_eq_false e3,Bool.not_false]
   refine J8 ?_
   exact y.fin z.sat z.dr
 cases k with
 | false=>
  rw[show decide ((if (false:Bool)=true then (0:Int) else 30)=0)=false from by decide]
  simp only[E3,E8,G6,L4,N6,B3,G8]
  exact ad false rfl
 | true=>
  rw[show decide ((if (true:Bool)=true then (0:Int) else 30)=0)=true from by decide]
  simp only[E3,E8,G6,L4,N6,B3,G8]
  refine G5 ?_
  refine ad _ ?_
  unfold C2
  rw[if_pos rfl]
  cases F5 l c f with
  | none=>simp[L2]
  | some n=>simp[L2])
theorem Q5a (ok:Ok l) {x y:Q8} (b:C2 l c f k=some (x,y)) (h:c.length≤Y9):x.length≤Y9∧y.length≤Y9:=by
 unfold C2 at b
 split at b
 ·cases a:F5 l c f with
  | none=>rw[a] at b;cases b
  | some n=>
   rw[a] at b
   cases b
   refine ⟨h,?_⟩
   have g:=Q6h a
   have j:(U4 l c).getD n Fld.zero=(U4 l c)[n]:=by simp[List.getD,g]
   rw[j]
   exact Q4g ok (List.getElem_mem g)
 ·cases b
theorem X4p (t:i.s.length≤Y9) (o:P4 i.s=(c,f,k)):B9 l m i c f k .get:=fun {w σ B D p tv pv cv hv v d K} h n C hh=>by
 have n:v=U7 F.bg:=n
 subst n
 have j:c.length≤Y9:=by have:=(Co (s:=i.s)).1;rw[o] at this;exact Nat.le_trans this t
 refine X9 (first:=[]) (caps:=[]) (Q1W ?_)
 unfold Hh
 refine Q8d h t o (h.to hh (by rw[Dr.wrong_st];exact h.len) fun w1 σ1 D1 H b a=>?_)
 have A:V7 l m i c f k d .get=match C2 l c f k with
  | some (c,k)=>d.all l k [c]
  | none=>(d.wrong false 76).all l [] [[]]:=rfl
 rw[A] at a
 cases g:C2 l c f k with
 | none=>
  rw[g] at b a
  have b:AtD B D1 w1 σ1 p tv pv cv hv m i l (d.wrong false 76):=b
  rw[if_neg (show¬(d.wrong (Option.isSome (none:Option (Q8×Q8))) 76).e=0 from fun e=>absurd (Dr.wrong_ok (by decide) e).2.1 (by decide))]
  refine Z8 (vs:=[_,_]) rfl ?_
  refine Z8 (vs:=[_,_]) rfl ?_
  exact Q31 (q:=[]) (y:=[]) (E:=K (.tuple #[])) b (by decide) (by decide) a
 | some z=>
  obtain ⟨x,y⟩:=z
  rw[g] at b a
  have b:AtD B D1 w1 σ1 p tv pv cv hv m i l d:=b
  have r:=Q5a b.ok g j
  rw[if_pos (show (d.wrong (Option.isSome (some (x,y))) 76).e=0 from C)]
  refine Z8 (vs:=[_,_]) rfl ?_
  refine Z8 (vs:=[_,_]) rfl ?_
  exact Q31 (E:=K (.tuple #[])) b r.2 r.1 a
theorem X2H (t:i.s.length≤Y9) (o:P4 i.s=(c,f,k)):B9 l m i c f k .give:=fun {w σ B D p tv pv cv hv v d K} h n H hh=>by
 have n:v=U7 F.b5:=n
 subst n
 have j:c.length≤Y9:=by have:=(Co (s:=i.s)).1;rw[o] at this;exact Nat.le_trans this t
 refine X9 (first:=[]) (caps:=[]) (Q0Z ?_)
 unfold Eu
 refine Q8d h t o (h.to hh (by rw[Dr.wrong_st];exact h.len) fun w1 σ1 D1 J b a=>?_)
 have C:V7 l m i c f k d .give=match C2 l c f k with
  | some (c,k)=>d.all l [] [c,k]
  | none=>(d.wrong false 76).all l [] [[],[]]:=rfl
 rw[C] at a
 cases g:C2 l c f k with
 | none=>
  rw[g] at b a
  have b:AtD B D1 w1 σ1 p tv pv cv hv m i l (d.wrong false 76):=b
  rw[if_neg (show¬(d.wrong (Option.isSome (none:Option (Q8×Q8))) 76).e=0 from fun e=>absurd (Dr.wrong_ok (by decide) e).2.1 (by decide))]
  refine Z8 (vs:=[_,_]) rfl ?_
  refine Z8 (vs:=[_,_]) rfl ?_
  exact Q38 (q:=[]) (y:=[]) (z:=[]) (E:=K (.tuple #[])) b (by decide) (by decide) (by decide) a
 | some A=>
  obtain ⟨x,y⟩:=A
  rw[g] at b a
  have b:AtD B D1 w1 σ1 p tv pv cv hv m i l d:=b
  have r:=Q5a b.ok g j
  rw[if_pos (show (d.wrong (Option.isSome (some (x,y))) 76).e=0 from H)]
  refine Z8 (vs:=[_,_]) rfl ?_
  refine Z8 (vs:=[_,_]) rfl ?_
  exact Q38 (q:=[]) (E:=K (.tuple #[])) b (by decide) r.1 r.2 a
theorem X3k (hi:i.s.length≤Y9) (hp:P4 i.s=(c,f,k)) (hx: ∀o x,Z9 l c f=some (o,x)→x.params.length≤1000000∧x.result.length≤Y9):B9 l m i c f k .call:=fun {w σ B D p tv pv cv hv v d K} h H e0 hh=>by
 have H:v=U7 F.b6:=H
 subst H
 have ae:c.length≤Y9:=by have:=(Co (s:=i.s)).1;rw[hp] at this;exact Nat.le_trans this hi
 refine X9 (first:=[]) (caps:=[]) (Q19 ?_)
 unfold Er
 obtain ⟨b,sv,lv,rfl,hm,hq,hl⟩:=h.cells
 refine R2 ?_
 refine J5 ?_
 refine J5 ?_
 refine B6 (i:=10) hm rfl ?_
 refine Q5Z hi fun w1 b1=>?_
 rw[hp]
 have k1:=Stp.of_below h.sat b1
 refine Z8 (vs:=[_,_,_]) rfl ?_
 refine Z8 (vs:=[_,_,_]) rfl ?_
 refine Z8 (vs:=[_,_,_]) rfl ?_
 have U:=h.up k1
 obtain ⟨b',a0,ap,eb,Y,_⟩:=U.cells
 cases eb
 refine R2 ?_
 refine J5 ?_
 refine B6 (i:=0) Y rfl ?_
 refine Q6W U.sat U.tab U.ok fun n M J w2 σ2 k2 j=>?_
 refine Z8 (vs:=[_,_,_]) rfl ?_
 refine Z8 (vs:=[_,_,_]) rfl ?_
 refine Z8 (vs:=[_,_,_]) rfl ?_
 refine Y6 (sz:=7) k2.sat rfl rfl (Rep.one j) fun q w3 σ3 k3 r=>?_
 have C:=(k1.trans k2).trans k3
 have Z:=h.up C
 have N:=hh.up C
 have ea:V7 l m i c f k d .call=match Z9 l c f with
  | some (_,x)=>d.all l x.result (c::x.params)
  | none=>d.wrong false 76:=rfl
 rw[ea] at N
 refine Xk Z (Z.to N (by rw[Dr.wrong_st];exact Z.len) fun O A D4 N4 y a=>?_)
 cases z:Z9 l c f with
 | none=>
  rw[z] at a y
  rw[decide_eq_false (show¬(d.wrong (Option.isSome (none:Option (Q8×Hm.Met))) 76).e=0 from fun e=>absurd (Dr.wrong_ok (by decide) e).2.1 (by decide))]
  refine U6 ?_
  exact a.fin y.sat y.dr
 | some ox=>
  obtain ⟨o,x⟩:=ox
  rw[z] at a y j r
  rw[decide_eq_true (show (d.wrong (Option.isSome (some (o,x))) 76).e=0 from e0)]
  have y:AtD B D4 O A _ tv pv cv hv m i l d:=y
  have a:To B D4 O A _ tv pv cv hv m i (d.all l x.result (c::x.params)) (K (.tuple #[])):=a
  have j:M3 σ2 x [S x.name,n,S x.result, .bool x.abs,I x.locals,M,J]:=j
  have r:Z2 σ3 q [S x.name,n,S x.result, .bool x.abs,I x.locals,M,J]:=r
  have af:Sl 1 X7 A n x.params:=(j.parts.1.up k3).lift N4.le
  have L:=r.lift N4.le
  obtain ⟨a7,ab⟩:=hx o x z
  refine J8 ?_
  refine V0 y.sat ?_
  refine J3 (fun w g=>J5 (Y1 rfl)) ?_
  refine J3 (fun w g=>J5 (Y1 rfl)) ?_
  refine J3 (V:=S x.result) (fun t w g e=>by subst e;exact ld (i:=2) g.sat (L.up g.stp) rfl (Y1 rfl)) ?_
  refine L3 (Df O A T.a 1 X7 [c]) Df.st (fun w g=>Q1v g.stp [_] [c] rfl rfl (by simp;rfl) rfl ⟨⟨rfl,ae⟩,trivial⟩ fun v' w' W ha H=>⟨W.bel,g.stp.trans W,ha,H⟩) ?_
  refine J3 (V:=n) (fun t w g e=>by subst e;exact ld (i:=1) g.sat (L.up g.stp) rfl (Y1 rfl)) ?_
  refine Q1s (w:=O) (σ:=A) (R:=X7) (sz:=1) (e:=T.a) (c::x.params) (fun t1 t2 w g Q f2=>?_) ?_
  ·subst f2
   obtain ⟨Q,a1,b1⟩:=Q
   exact Q6U Q a1 b1 (af.up Q) rfl (by simp;omega) (by simp;omega) fun v' w' W ha _=>Q3p g W ha
  rintro _ _ _ _ _ av w5 ax rfl rfl rfl-rfl ⟨aa,ad⟩
  obtain ⟨σ6,k6,X,_⟩:=ad.keep aa
  exact Q5z (y.up k6) X ab (by simp;omega) (a.up k6)
end Go.Proofs.YtfppjenblllfaaaGreatDoor

namespace Go.Proofs.YtfppjenblllfaaaGreatDoor
open Go.Emb Go.RowKit Go.Kd Go.Hm
variable {w w' w1 : World} {K : Value → World → Prop} {σ σ' σ1 : Q4} {v u : Value} {tv : Value} {m : Hm.Met} {i : Ins} {l : List Cla}
theorem X5k {t:TypeId} {sz by_ k b:Nat} {z:Value} [TG P t true] [TZ P t sz by_ z] {cs ds:List Value} (c:Z7 σ w b cs) (d: ∀i v,ds[i]? =some v→cs[k+i]? =some v) (e:ds.length=sz) (h:K (.agg ds.toArray) w):Q2 P t (.pointer (some ((⟨b,0,none⟩:Addr).add k))) w K:=
 Sd e (fun i v a=>by rw[Yt];exact c.cell (d i v a)) h
theorem Q1D {t:TypeId} {sz by_ b:Nat} {z:Value} [tz:TZ P t sz by_ z] {cs ds:List Value} (a:Z7 σ w b cs) (e:cs.length=sz) (c:ds.length=sz) (f: ∀u∈ds,u.oneCell'=true)
 (h: ∀w',Upd w b w'→Z7 σ w' b ds→K undef w'):Z4 P t (.pointer (some ⟨b,0,none⟩)) (.agg ds.toArray) w K:=
 sta a e c (by rw[List.all_toArray];exact List.all_eq_true.2 f) fun w' d a=>h w' d a
def QF (w0:World) (σ:Q4) (xs:List Q8) (v:Value) (w':World):Prop:=Stp w0 σ w' σ∧J9 w0.heap.size T.a 1 X7 σ w' v xs
theorem QF.st {w0:World} {xs:List Q8}:D6 (fun w w'=>Below w.heap.size w w') (QF w0 σ xs):=fun _ _ _ ⟨a,c⟩ b=>⟨a.trans (Stp.of_below a.sat b),c.up (Stp.of_below a.sat b)⟩
def QFR (w0:World) (σ:Q4) (xs:List Q8) (p:Iv) (v:Value) (w':World):Prop:=QF w0 σ xs v w'∧ ∀k,v.ownBlock=some k→p.1≤k∧k<p.2
theorem QFR.st {w0:World} {xs:List Q8} (p:Iv):D6 (fun w w'=>Below w.heap.size w w') (QFR w0 σ xs p):=fun _ _ _ ⟨b,c⟩ a=>⟨QF.st _ _ _ b a,c⟩
theorem Q4R {w0:World} {xs:List Q8} (a:Hst w0 σ w σ) (d:Sl 1 X7 σ v xs) (f:xs.length≤1000000):Q0 P F.b [v] w (Pw (fun w w'=>Below w.heap.size w w') (QFR w0 σ xs) w):=
 Q4q a.sat d f fun g w' c b=>⟨c.bel,⟨a.stp.trans c,(J9.of_acc b).mono a.stp.bel.size⟩,fun k e=>⟨(b.mem k e).1,(b.mem k e).2.1⟩⟩
theorem X3i {A:((Nat→Iv)→World→World→Prop)→(World→Prop)→Prop} (c:X4 w σ) (h:A (fun _ w w'=>Below w.heap.size w w') (fun w'=>Hst w σ w' σ)):drR w A:=
 Q6v _ _ ⟨Stp.of_below c (Below.refl _ _).drew⟩ (fun _ _ _ a b=>⟨a.stp.trans (Stp.of_below a.sat b)⟩) (fun _ _ _ h=>h.size) h
theorem T5 {T:(Nat→Iv)→World→World→Prop} {A a:(Value→World→Prop)→Prop} {V:Value} (h:A (fun v _=>V=v)) (b:a (fun v _=>V=v)):K5 T A a:=Rd _ (fun _ _ _ _ _ h _=>h) h b
def Q5t (d:Dr):Shp×Int:=if d.e=0 then (⟨true,d.stack,d.locals⟩,0) else (Shp.zero,d.e)
def FnF (σ:Q4) (w0:World) (o:Option Dact) (v:Value) (w':World):Prop:= ∃σ',Stp w0 σ w' σ'∧ ∀a,o=some a→Tc σ' a v
def TbF (σ:Q4) (w0:World) (v:Value) (w':World):Prop:= ∃σ' r a,Stp w0 σ w' σ'∧v= .map (some r)∧P9 σ' r a∧Ik σ' a Ub
theorem TbF.st {w0:World}:D6 (fun w w'=>Below w.heap.size w w') (TbF σ w0):=fun _ _ _ ⟨σ',r,e,a,f,c,d⟩ b=>⟨σ',r,e,a.trans (Stp.of_below a.sat b),f,c,d⟩
theorem FnF.st {w0:World} {o:Option Dact}:D6 (fun w w'=>Below w.heap.size w w') (FnF σ w0 o):=fun _ _ _ ⟨σ',a,c⟩ b=>⟨σ',a.trans (Stp.of_below a.sat b),c⟩
set_option maxHeartbeats 2000000 in
theorem X21 {ms is:List Value} {sv lv:Value} {xs ys:List Q8} {b0:Bool} {c f:Q8} {k:Bool} (hs:X4 w σ) (ht:Tab σ tv l) (ok:Ok l) (hm:M3 σ m ms) (hi:G9 σ i is) (hx:Sl 1 X7 σ sv xs) (hy:Sl 1 X7 σ lv ys) (hl:xs.length≤1000) (J:ys.length≤1000) (ax: ∀a,Ub.lookup i.op=some a→B9 l m i c f k a)
 (h: ∀ds w' σ',Stp w σ w' σ'→W8 σ' (Sn l m i c f k ⟨b0,xs,ys⟩).1 ds→K (.tuple #[.agg ds.toArray,I (Sn l m i c f k ⟨b0,xs,ys⟩).2]) w'):
 Q0 P F.ce [tv, .agg ms.toArray, .agg is.toArray, .agg [.bool b0,sv,lv].toArray] w K:=X0s (by
 obtain ⟨pv,cv,hv,rfl,L⟩:=hm
 obtain ⟨rfl,dl⟩:=hi
 obtain ⟨ta,cb⟩: ∃ta,tv= .pointer (some ta):=by obtain ⟨a,_,_,_,e,_⟩:=ht.ex;exact ⟨a,e⟩
 subst cb
 unfold Q4O
 refine Z0 hs fun qm w1 σ1 M ci=>?_
 refine Z0 M.sat fun qi w2 σ2 k2 ce=>?_
 refine Z0 k2.sat fun qs w3 σ3 k3 cw=>?_
 have a9:=(ci.up k2).up k3
 have aw:=ce.up k3
 have S3:=(M.trans k2).trans k3
 have b6:=hx.up S3
 have bz:=hy.up S3
 refine P3 k3.sat fun b8 w4 σ4 ao k4 bd=>?_
 have S4:=S3.trans k4
 have am:=a9.up k4
 have W:=aw.up k4
 have Q:=cw.up k4
 have bx:=b6.up k4
 have cc:=bz.up k4
 refine X3i k4.sat ?_
 refine T5 (fun N _ w g=>J5 (Y1 rfl)) ?_
 refine T5 (fun N _ w g=>J5 (Y1 rfl)) ?_
 refine T5 (V:= .agg [S m.name,pv,S m.result, .bool m.abs,I m.locals,cv,hv].toArray) (fun N _ w g=>Z1 g.sat (am.up g.stp) rfl (Y1 rfl)) ?_
 refine T5 (V:= .agg [S i.op,I i.n,S i.s].toArray) (fun N _ w g=>Z1 g.sat (W.up g.stp) rfl (Y1 rfl)) ?_
 refine T5 (V:=sv) (fun t N _ w g e=>?_) ?_
 ·subst e
  exact ld (i:=1) g.sat (Q.up g.stp) rfl (Y1 rfl)
 refine Oy (QFR w4 σ4 xs) (fun _ _=>QFR.st _) (fun t N _ w g e=>?_) ?_
 ·subst e
  exact Q4R g bx (by omega)
 refine T5 (V:=lv) (fun t N _ w g e=>?_) ?_
 ·subst e
  exact ld (i:=2) g.sat (Q.up g.stp) rfl (Y1 rfl)
 refine Oy (QFR w4 σ4 ys) (fun _ _=>QFR.st _) (fun t N _ w g e=>?_) ?_
 ·subst e
  exact Q4R g cc (by omega)
 refine Q2E (fun xs v _=>v= .agg #[.bool true,xs.getD 0 undef,xs.getD 1 undef]) (fun _ _ _ _ _ _ h _=>h) (fun q y N hA w g b9 bs=>?_) ?_
 ·refine W0 (cells:= #[.bool true,q,y]) (by obtain ⟨⟨_,a,dx,rfl,_⟩,_⟩:=b9;obtain ⟨⟨_,a2,c0,rfl,_⟩,_⟩:=bs;kernel_rfl) ?_
  exact ⟨Below.refl _ _,rfl⟩
 rintro _ _ _ _ _ q _ y _ N hA w5 eh rfl rfl rfl rfl rfl ⟨⟨k5,q5⟩,cu⟩ rfl ⟨⟨-,y5⟩,ck⟩ rfl
 have bu: ∀k,q.ownBlock=some k→y.ownBlock≠some k:=fun k e1 e2=>by
  have g1:=cu k e1
  have g2:=ck k e2
  rcases hA 6 8 (by decide) with h | h<;>omega
 obtain ⟨cp,cd,cq,_⟩:=L
 refine W0 (cells:= #[.pointer (some ta),S m.name,pv,S m.result, .bool m.abs,I m.locals,cv,hv,S i.op,I i.n,S i.s, .bool true,q,y,I 0]) (by
  obtain ⟨a1,c1,rfl,_⟩:=cp;obtain ⟨a2,c2,rfl,_⟩:=cd;obtain ⟨a3,c3,rfl,_⟩:=cq;obtain ⟨a4,c4,rfl,_⟩:=q5;obtain ⟨a5,c5,rfl,_⟩:=y5;kernel_rfl) ?_
 refine Q0r k5.sat fun b w6 σ6 g O bg=>?_
 have c6:=bd.lt
 have co:w4.heap.size≤b:=Nat.le_trans k5.bel.size g
 have R:=(bd.up k5).up O
 have S5:=S4.trans k5
 have S6:=S5.trans O
 have q6:=q5.up O
 have y6:=y5.up O
 have bf:DrIs w4.heap.size (fun k=>k=b∨q.ownBlock=some k∨y.ownBlock=some k) σ6 w6 (.pointer (some ⟨b,0,none⟩)) (.pointer (some ta)) pv cv hv m i ⟨xs,ys,0⟩:=
  ⟨b,q,y,rfl,co,bg,q6,y6,fun k A=>⟨fun e=>by have:=(q5.mem A).2.1;omega,bu k A⟩,fun k A e=>by have:=(y5.mem A).2.1;omega,fun k=>Iff.rfl⟩
 have A6:AtD w4.heap.size _ w6 σ6 (.pointer (some ⟨b,0,none⟩)) (.pointer (some ta)) pv cv hv m i l ⟨xs,ys,0⟩:=⟨O.sat,Nat.le_trans k5.bel.size O.bel.size,bf,ht.lift ⟨S6.le⟩,ok,by show xs.length≤100000;omega⟩
 generalize (fun k=>k=b∨q.ownBlock=some k∨y.ownBlock=some k)=D at*
 have a7: ∀k,D k→w4.heap.size≤k:=fun k A=>(A6.dr.mem A).1
 have c7:=(W.up k5).up O
 clear bf q5 q6 y5 y6 bg
 generalize (Value.pointer (some ⟨b,0,none⟩))=p at*
 have ay:Sn l m i c f k ⟨b0,xs,ys⟩=match Ub.lookup i.op with
  | none=>(Shp.zero,76)
  | some a=>Q5t ((V7 l m i c f k ⟨xs,ys,0⟩ a).wrong (decide ((V7 l m i c f k ⟨xs,ys,0⟩ a).stack.length≤24)) 72):=rfl
 rw[ay] at h
 clear ay
 generalize ho:Ub.lookup i.op=o at*
 refine V0 O.sat ?_
 (repeat refine J3 Xt ?_)
 refine L3 (TbF σ6 w6) TbF.st (fun w g=>X3b g.sat fun r mp w' σ' M h1 Z=>⟨M.bel,σ',r,mp,g.stp.trans M,rfl,h1,Z⟩) ?_
 (repeat refine J3 Xt ?_)
 refine L3 (fun v w'=> ∃v0,v= .tuple #[v0, .bool o.isSome]∧FnF σ6 w6 o v0 w') (fun _ _ _ ⟨v0,h1,Z⟩ g=>⟨v0,h1,FnF.st _ _ _ Z g⟩) (fun d6 dy w g b5 cf=>?_) ?_
 ·subst cf
  obtain ⟨σ',r,mp,M,rfl,h1,Z⟩:=b5
  have h3:=Z i.op
  rw[ho] at h3
  refine Q6M (sz:=1) (by_:=8) (z:= .nilFunc) (tz:=⟨by kernel_rfl⟩) X8 (h1.is M.sat) i.op ?_
  refine ⟨Below.refl _ _,?_⟩
  cases o with
  | none=>
   have h3:M9 mp i.op=none:=h3
   rw[h3]
   exact ⟨_,rfl,σ',M,fun a e=>by cases e⟩
  | some a=>
   obtain ⟨v,h4,h5⟩:=h3
   rw[h4]
   exact ⟨v,rfl,σ',M,fun a e=>by cases e;exact h5⟩
 refine L3 (FnF σ6 w6 o) FnF.st (fun t w g aa=>?_) ?_
 ·obtain ⟨v0,rfl,Z⟩:=aa
  exact Z8 rfl ⟨Below.refl _ _,Z⟩
 refine J3 (V:= .bool o.isSome) (fun t w g aa=>?_) ?_
 ·obtain ⟨v0,rfl,Z⟩:=aa
  exact Z8 rfl (Y1 rfl)
 rintro _ _ _ _ dp _ w7 ek rfl-rfl-ch rfl
 obtain ⟨σ7,k7,hf⟩:=ch
 refine Lm ?_
 cases o with
 | none=>
  refine J8 ?_
  refine W0 (cells:= #[.bool false, .slice none 0 0, .slice none 0 0]) (by kernel_rfl) ?_
  refine Qz (ds:=[.bool false, .slice none 0 0, .slice none 0 0]) (R.up k7) (S6.trans k7) (Nat.le_trans S3.bel.size ao) rfl rfl (by simp;exact ⟨rfl,rfl⟩) fun w9 cy B=>?_
  refine W7 B rfl ?_
  exact h _ _ _ cy.stp ⟨_,_,rfl,Sl.nil,Sl.nil⟩
 | some a=>
  refine U6 ?_
  refine ax a rfl (A6.up k7) (hf a rfl) rfl fun w8 σ8 D8 N8 h8 dz=>?_
  replace h: ∀ds w' σ',Stp w σ w' σ'→W8 σ' (Q5t ((V7 l m i c f k ⟨xs,ys,0⟩ a).wrong (decide ((V7 l m i c f k ⟨xs,ys,0⟩ a).stack.length≤24)) 72)).1 ds→K (.tuple #[.agg ds.toArray,I (Q5t ((V7 l m i c f k ⟨xs,ys,0⟩ a).wrong (decide ((V7 l m i c f k ⟨xs,ys,0⟩ a).stack.length≤24)) 72)).2]) w':=h
  generalize V7 l m i c f k ⟨xs,ys,0⟩ a=d at*
  have S7:=S6.trans k7
  have cm: ∀k,D k→w.heap.size≤k:=fun k A=>Nat.le_trans S4.bel.size (a7 k A)
  have U: ∀k,D8 k→w4.heap.size≤k:=fun k A=>(h8.mem A).1
  have ar:=h8
  obtain ⟨b1,ef,d5,rfl,b7,L,ba,cj,g1,g2,ca⟩:=h8.ex
  refine R2 ?_
  refine J5 ?_
  refine J5 ?_
  refine B6 (i:=12) L rfl ?_
  refine Vq ba ?_
  refine X57 ?_
  rw[show decide (((d.stack.length:Nat):Int)≤24)=decide (d.stack.length≤24) from decide_eq_decide.2 (by omega)]
  refine Q1F N8.sat ar fun w9 N9 h9=>?_
  generalize d.wrong (decide (d.stack.length≤24)) 72=d2 at*
  unfold Q5t at h
  clear ar L ba cj g1 g2 ca h8 b7
  obtain ⟨b2,E,H,e2,d9,ac,ae,J,g1,g2,ea⟩:=h9.ex
  cases e2
  have S8:=S7.nx N8 cm
  have S9:=S8.nx N9 fun k A=>Nat.le_trans S4.bel.size (U k A)
  have bb: ¬D8 b8:=fun e=>by have:=U _ e;omega
  have ad: ¬D b8:=fun e=>by have:=a7 _ e;omega
  have B:=((R.up k7).nx N8 ad).nx N9 bb
  have X:=Nat.le_trans S3.bel.size ao
  refine R2 ?_
  refine J5 ?_
  refine B6 (i:=14) ac rfl ?_
  refine T4 ?_
  by_cases he:d2.e=0
  ·simp only[if_pos he] at h
   rw[show (!decide (d2.e=0))=false from by simp[he]]
   refine U6 ?_
   refine R2 ?_
   refine J5 ?_
   refine X5k (k:=11) (ds:=[.bool true,E,H]) ac (fun j v hj=>by rcases j with _ | _ | _ | j<;>first | exact hj | cases hj) rfl ?_
   have h1: ∀u∈[Value.bool true,E,H],u.oneCell'=true:=by
    obtain ⟨a1,c1,rfl,_⟩:=ae;obtain ⟨a2,c2,rfl,_⟩:=J;simp;exact ⟨rfl,rfl,rfl⟩
   refine Q1D (ds:=[.bool true,E,H]) B rfl rfl h1 fun be ab C=>?_
   refine W7 C rfl ?_
   have b3:Stp w σ be σ8:=ab.stp S9 X B.1
   have a6:E.ownBlock≠some b8:=fun e=>by have:=(ae.mem e).1;omega
   have a0:H.ownBlock≠some b8:=fun e=>by have:=(J.mem e).1;omega
   have av:=(ae.updD ab a6).mono S4.bel.size
   have Y:=(J.updD ab a0).mono S4.bel.size
   obtain ⟨σa,Sa,qa,b4,az⟩:=av.keep b3
   have cg:=Y.shiftR b4 fun k A=>(az k fun e=>(g1 k e.symm).2 A).trans (Y.mem A).2.2
   obtain ⟨σb,Sb,qb,cx,_⟩:=cg.keep Sa
   exact h _ _ _ Sb ⟨E,H,rfl,qa.lift cx,qb⟩
  ·simp only[if_neg he] at h
   rw[show (!decide (d2.e=0))=true from by simp[he]]
   refine J8 ?_
   refine X3H (ds:=[.bool false, .slice none 0 0, .slice none 0 0]) S9 X B rfl rfl ?_
   refine J3 (V:= .pointer (some ⟨b1,0,none⟩)) (fun w g=>R2 (Ks rfl)) ?_
   refine J3 (V:= .pointer (some ((⟨b1,0,none⟩:Addr).add 14))) (fun t w g e=>by subst e;exact J5 (Ks rfl)) ?_
   refine J3 (V:= .agg [.bool false, .slice none 0 0, .slice none 0 0].toArray) (fun w g=>W0 (by kernel_rfl) (Ks rfl)) ?_
   refine J3 (V:=I d2.e) (fun t w g e=>?_) ?_
   ·subst e
    exact B6 (i:=14) (ac.kp g.kp fun e=>by omega) rfl (Ks rfl)
   refine X15 rfl (by simp;exact ⟨rfl,rfl⟩) (fun v w e=>e) ?_ B.1
   rintro _ _ _ _ _ be bc rfl rfl rfl rfl C
   refine W7 C rfl ?_
   exact h _ _ _ bc.hst.stp ⟨_,_,rfl,Sl.nil,Sl.nil⟩)
end Go.Proofs.YtfppjenblllfaaaGreatDoor

namespace Go.Proofs.YtfppjenblllfaaaGreatDoor
open Go.Emb Go.RowKit Go.Kd Go.Hm
variable {w w' w0 w1 : World} {K : Value → World → Prop} {σ σ' σ0 σ1 : Q4} {v u : Value} {tv : Value} {l : List Cla} {b b6 : Nat} {xs ys : List Q8} {x : Q8}
theorem Q4Y {σ1:Q4} {cs ds:List Value} (h:Z7 σ w b cs) (k:Z7 σ1 w b ds):cs=ds:=by
 obtain ⟨_,e,h⟩:=h
 obtain ⟨_,f,k⟩:=k
 rw[h] at k
 have:=Option.some.inj k
 simp at this
 exact this.1
structure ShS (w0 : World) (σ0 : Q4) (w : World) (σ : Q4) (b : Nat) (xs ys : List Q8) : Prop where
  stp : Stp w0 σ0 w σ
  ge : w0.heap.size ≤ b
  ex : ∃ v1 v2, Z7 σ w b [.bool true, v1, v2] ∧ J9 w0.heap.size T.a 1 X7 σ w v1 xs ∧ J9 w0.heap.size T.a 1 X7 σ w v2 ys ∧ (∀ k, v1.ownBlock = some k → k ≠ b ∧ v2.ownBlock ≠ some k) ∧ ∀ k, v2.ownBlock = some k → k ≠ b
theorem ShS.up (h:ShS w0 σ0 w σ b xs ys) (k:Stp w σ w' σ'):ShS w0 σ0 w' σ' b xs ys:=by
 obtain ⟨i,d,f,a,c,e,g⟩:=h.ex
 exact ⟨h.stp.trans k,h.ge,i,d,f.up k,a.up k,c.up k,e,g⟩
theorem X4m (g:X4 w σ) (h: ∀b w',ShS w σ w' σ b [] []→K (.pointer (some ⟨b,0,none⟩)) w'):W6 P T.f w fun p w=>Z4 P T.f p (.agg #[.bool true, .slice none 0 0, .slice none 0 0]) w fun _ w=>K p w:=
 Sg g fun b w1 d e a=>Q1D (sz:=3) (ds:=[.bool true, .slice none 0 0, .slice none 0 0]) a rfl rfl (by simp;exact ⟨rfl,rfl⟩) fun f i c=>
  h b f ⟨i.stp e d a.1,d,_,_,c,J9.of_acc J1.nil,J9.of_acc J1.nil,nofun,nofun⟩
theorem X4Y {o n:Value} (h:ShS w0 σ0 w σ b xs ys) (O:Z7 σ w b [.bool true,o,n]) (J:Sl 1 X7 σ u [x]) (X:xs.length≤1000000) (hh: ∀w',ShS w0 σ0 w' σ b (xs++[x]) ys→K undef w'):
 X5 P .append [T.b,T.b] T.b [false,false] [o,u] w fun r w=>fieldAddr P T.f (.pointer (some ⟨b,0,none⟩)) 1 w fun p w=>Z4 P T.b p r w K:=by
 obtain ⟨Z,Y,z,H,B,m,A⟩:=h.ex
 have e:=Q4Y O z
 simp only[List.cons.injEq,and_true,true_and] at e
 obtain ⟨rfl,rfl⟩:=e
 refine Q2U h.stp.sat h.stp.bel.size H J (by rfl) (by simp only[List.length_cons,List.length_nil];omega) (by simp only[List.length_cons,List.length_nil];omega) fun s R t W y j=>?_
 have f: ∀k,s.ownBlock=some k→o.ownBlock=some k∨w.heap.size≤k:=fun k d=>by
  rcases j with ⟨a,U,V,M⟩ | ⟨_,g⟩
  ·left;rw[V];rw[M] at d;cases a<;>exact d
  ·exact .inr (g k d)
 have D:=z.kp t fun e=>(m b e.1).1 rfl
 have E:=B.kp t fun k d e=>(m k e.1).2 d
 have C: ∀k,s.ownBlock=some k→k≠b∧n.ownBlock≠some k:=fun k d=>by
  rcases f k d with h | h
  ·exact m k h
  ·have:=z.lt
   exact ⟨by omega,fun e=>by have:=(B.mem e).2.1;omega⟩
 refine J5 ?_
 refine Nz (i:=1) D (by simp) (by obtain ⟨a,c,rfl,_⟩:=y;rfl) (by obtain ⟨a,c,rfl,_⟩:=y;rfl) fun N q L=>?_
 have Q:Stp w0 σ0 R σ:=h.stp.kp t fun k d=>⟨d.2.1,d.2.2⟩
 exact hh N ⟨q.stp Q h.ge D.1,h.ge,s,n,L,y.updD q fun e=>(C b e).1 rfl,E.updD q fun e=>A b e rfl,C,A⟩
theorem X4S {p o:Value} (h:ShS w0 σ0 w σ b xs ys) (O:Z7 σ w b [.bool true,p,o]) (J:Sl 1 X7 σ u [x]) (Y:ys.length≤1000000) (hh: ∀w',ShS w0 σ0 w' σ b xs (ys++[x])→K undef w'):
 X5 P .append [T.b,T.b] T.b [false,false] [o,u] w fun s w=>fieldAddr P T.f (.pointer (some ⟨b,0,none⟩)) 2 w fun q w=>Z4 P T.b q s w K:=by
 obtain ⟨a1,Z,z,A,Q,n,C⟩:=h.ex
 have e:=Q4Y O z
 simp only[List.cons.injEq,and_true,true_and] at e
 obtain ⟨rfl,rfl⟩:=e
 refine Q2U h.stp.sat h.stp.bel.size Q J (by rfl) (by simp only[List.length_cons,List.length_nil];omega) (by simp only[List.length_cons,List.length_nil];omega) fun j U t X y m=>?_
 have f: ∀k,j.ownBlock=some k→o.ownBlock=some k∨w.heap.size≤k:=fun k d=>by
  rcases m with ⟨a,V,W,M⟩ | ⟨_,g⟩
  ·left;rw[W];rw[M] at d;cases a<;>exact d
  ·exact .inr (g k d)
 have E:=z.kp t fun e=>C b e.1 rfl
 have H:=A.kp t fun k d e=>(n k d).2 e.1
 have D: ∀k,j.ownBlock=some k→k≠b:=fun k d=>by
  rcases f k d with h | h
  ·exact C k h
  ·have:=z.lt
   omega
 have B: ∀k,p.ownBlock=some k→k≠b∧j.ownBlock≠some k:=fun k d=>⟨(n k d).1,fun e=>by
  rcases f k e with h | h
  ·exact (n k d).2 h
  ·have:=(A.mem d).2.1;omega⟩
 refine J5 ?_
 refine Nz (i:=2) E (by simp) (by obtain ⟨a,c,rfl,_⟩:=y;rfl) (by obtain ⟨a,c,rfl,_⟩:=y;rfl) fun N r L=>?_
 have R:Stp w0 σ0 U σ:=h.stp.kp t fun k d=>⟨d.2.1,d.2.2⟩
 exact hh N ⟨r.stp R h.ge E.1,h.ge,p,j,L,H.updD r fun e=>(B b e).1 rfl,y.updD r fun e=>D b e rfl,B,D⟩
theorem X4o {q:List Value} {K:Value→World→Prop} (h:ShS w0 σ0 w σ b xs ys) (S0:Stp w1 σ1 w0 σ0) (g:Z7 σ0 w0 b6 q) (y:q.length=3) (n:w1.heap.size≤b6) (hh: ∀ds w' σ',Stp w1 σ1 w' σ'→W8 σ' ⟨true,xs,ys⟩ ds→K (.agg ds.toArray) w'):
 Q2 P T.f (.pointer (some ⟨b,0,none⟩)) w fun t w=>Z4 P T.f (.pointer (some ⟨b6,0,none⟩)) t w fun _u w=>W3 P T.f (.pointer (some ⟨b6,0,none⟩)) w fun N=>K N w:=by
 obtain ⟨f,d,M,c,j,A,U⟩:=h.ex
 have C:=g.lt
 refine Q8Q M rfl ?_
 have H: ∀u∈[Value.bool true,f,d],u.oneCell'=true:=by
  obtain ⟨X,R,rfl,_⟩:=c;obtain ⟨W,V,rfl,_⟩:=j;simp;exact ⟨rfl,rfl,rfl⟩
 refine Q1D (ds:=[.bool true,f,d]) (g.up h.stp) y rfl H fun O i J=>?_
 refine W7 J rfl ?_
 have S:=S0.trans h.stp
 have L:Stp w1 σ1 O σ:=i.stp S n (g.up h.stp).1
 have z:=(c.updD i fun e=>by have:=(c.mem e).1;omega).mono S0.bel.size
 have r:=(j.updD i fun e=>by have:=(j.mem e).1;omega).mono S0.bel.size
 obtain ⟨Y,B,Q,p,a⟩:=z.keep L
 have m:=r.shiftR p fun k s=>(a k fun e=>(A k e.symm).2 s).trans (r.mem s).2.2
 obtain ⟨σb,D,E,o,_⟩:=m.keep B
 exact hh _ _ _ D ⟨f,d,rfl,Q.lift o,E⟩
theorem Q09 {e ds:List Value} {s:Shp} {K:Value→World→Prop} (S0:Stp w1 σ1 w σ) (d:Z7 σ w b6 e) (f:e.length=3) (a:w1.heap.size≤b6) (c:W8 σ s ds) (hh: ∀w',Stp w1 σ1 w' σ→K (.agg ds.toArray) w'):
 Z4 P T.f (.pointer (some ⟨b6,0,none⟩)) (.agg ds.toArray) w fun _u w=>W3 P T.f (.pointer (some ⟨b6,0,none⟩)) w fun i=>K i w:=by
 refine Q1D (ds:=ds) d f (by obtain ⟨_,_,rfl,_⟩:=c;rfl) (Rep.one c) fun j g h=>?_
 exact W7 h (by obtain ⟨_,_,rfl,_⟩:=c;rfl) (hh j (g.stp S0 a d.1))
theorem W8.zero:W8 σ Shp.zero [.bool false, .slice none 0 0, .slice none 0 0]:=⟨_,_,rfl,Sl.nil,Sl.nil⟩
theorem Q67 (h:K (.agg [.bool false, .slice none 0 0, .slice none 0 0].toArray) w):O4 P T.f [] w K:=W0 (by kernel_rfl) h
theorem X1D (h:K (.agg #[.bool true, .slice none 0 0, .slice none 0 0]) w):O4 P T.f [(0, .bool true)] w K:=W0 (by kernel_rfl) h
end Go.Proofs.YtfppjenblllfaaaGreatDoor

namespace Go.Proofs.YtfppjenblllfaaaGreatDoor
open Go.Emb Go.RowKit Go.Kd Go.Hm
variable {w w' w0 w1 : World} {K : Value → World → Prop} {σ σ' σ0 σ1 : Q4} {v u : Value} {tv : Value} {l : List Cla} {b b6 : Nat} {xs ys : List Q8} {x : Q8} {s t : Shp}
theorem X1S (g:X4 w σ) (c:Sl 1 X7 σ v xs) (f:xs.length≤1000000)
 (h: ∀a w' σ',Stp w σ w' σ'→Sl 1 X7 σ' a xs→K a w'):Q0 P F.b [v] w K:=
 Q4q g c f fun a w' d e=>by
  obtain ⟨σ',i,j,_⟩:=e.keep d
  exact h a w' σ' i j
def SlF (w0:World) (σ:Q4) (xs:List Q8) (v:Value) (w':World):Prop:= ∃σ',Stp w0 σ w' σ'∧Sl 1 X7 σ' v xs
theorem SlF.st:D6 (fun w w'=>Below w.heap.size w w') (SlF w0 σ xs):=fun _ _ _ ⟨σ',a,d⟩ c=>⟨σ',a.trans (Stp.of_below a.sat c),d⟩
theorem Q4N (c:Hst w0 σ w σ) (d:Sl 1 X7 σ v xs) (f:xs.length≤1000000):Q0 P F.b [v] w (dk (fun w w'=>Below w.heap.size w w') (SlF w0 σ xs) w):=
 X1S c.sat d f fun g w' σ' a e=>⟨a.bel,σ',c.stp.trans a,e⟩
theorem W8.liftS {ds:List Value} (h:W8 σ s ds) (k:Stp w σ w' σ'):W8 σ' s ds:=Rep.up k.le h
theorem Q4s {ds:List Value} (hs:X4 w σ) (hr:W8 σ s ds) (h1:s.stack.length≤1000000) (h2:s.locals.length≤1000000) (h: ∀n w' σ',Stp w σ w' σ'→W8 σ' s n→K (.agg n.toArray) w'):Q0 P F.c7 [.agg ds.toArray] w K:=Q5q (by
 obtain ⟨sv,lv,rfl,o,C⟩:=hr
 unfold Ti
 refine Q0r hs fun b w1 σ1 c p a=>?_
 have ac:=a.lt
 refine P3 p.sat fun Z M L z B y=>?_
 have D:=p.trans B
 have a:=a.up B
 have o:=o.up D
 have C:=C.up D
 refine V0 B.sat ?_
 (repeat refine J3 Xt ?_)
 refine J3 (V:=sv) (fun t w c e=>by subst e;exact B6 (i:=1) (a.up c.stp) rfl (Y1 rfl)) ?_
 refine L3 (SlF M L s.stack) SlF.st (fun t w c e=>by subst e;exact Q4N c o h1) ?_
 refine J3 (V:=lv) (fun t w c e=>by subst e;exact B6 (i:=2) (a.up c.stp) rfl (Y1 rfl)) ?_
 (repeat refine J3 Xt ?_)
 refine L3 (SlF M L s.locals) SlF.st (fun t w c e=>by subst e;exact Q4N c C h2) ?_
 rintro _ _ _ A _ _ q w3 Q rfl rfl rfl O rfl rfl U
 obtain ⟨σa,Y,g⟩:=O
 obtain ⟨σb,kb,f⟩:=U
 obtain ⟨σ3,E,W,X⟩:=Y.join kb
 have g:=g.lift W
 have f:=f.lift X
 have k:=a.up E
 refine Nz (i:=1) k (by simp) (Xx g) (K4 g) fun w4 H m=>?_
 refine J5 ?_
 refine Nz (i:=2) m (by simp) (Xx f) (K4 f) fun w5 J r=>?_
 refine Q8Q (cs:=[.bool s.seen,A,q]) r rfl ?_
 have N:=D.trans E
 have R:=J.stp (H.stp N c k.1) c m.1
 have d:Z≠b:=fun e=>by subst e;omega
 have j:=(((y.up E).upd H d).upd J d)
 exact Q09 (s:=s) (K:=K) R j rfl (Nat.le_trans p.bel.size z) ⟨A,q,rfl,g,f⟩ fun w6 S6=>h _ _ _ S6 ⟨A,q,rfl,g,f⟩)
theorem X3E {α:Type} {f:Q8→Q8→α} {xs cs:List Q8} {i:Nat} (c:i<xs.length) (d:i<cs.length):(List.zipWith f xs cs).take (i+1)=(List.zipWith f xs cs).take i++[f xs[i] cs[i]]:=by
 have a:i<(List.zipWith f xs cs).length:=by simp;omega
 rw[List.take_add_one,List.getElem?_eq_getElem a]
 simp
theorem X4f {f:Q8→Q8→Q8} {xs cs:List Q8} {e:Q8} (j:xs.length=cs.length):(List.zipWith f xs cs).any (fun s=>decide (s=e))=false↔ ∀i (d:i<xs.length) (g:i<cs.length),f xs[i] cs[i]≠e:=by
 rw[List.any_eq_false]
 constructor
 ·intro h i d g
  have:=h (f xs[i] cs[i]) (List.mem_iff_getElem.2 ⟨i,by simp;omega,by simp⟩)
  simpa using this
 ·intro h x a
  obtain ⟨i,c,rfl⟩:=List.mem_iff_getElem.1 a
  simp at c
  simpa using h i (by omega) (by omega)
set_option maxHeartbeats 1000000 in
theorem X3y {ds es:List Value} (hs:X4 w σ) (ht:Tab σ tv (Q7 l)) (ok:Ok (Q7 l)) (hr:W8 σ s ds) (hu:W8 σ t es) (h1:s.stack.length≤1000) (h2:s.locals.length≤1000) (h3:t.stack.length≤1000) (h4:t.locals.length≤1000)
 (h: ∀q w' σ',Stp w σ w' σ'→W8 σ' (Mz (Q7 l) s t).1 q→K (.tuple #[.agg q.toArray,I (Mz (Q7 l) s t).2]) w'):Q0 P F.cE [tv, .agg ds.toArray, .agg es.toArray] w K:=Q6n (by
 have aq:=hr
 have a4:=hu
 obtain ⟨sv,lv,rfl,q1,q2⟩:=hr
 obtain ⟨bs,b1,rfl,q3,Y⟩:=hu
 unfold Q0S
 refine Z0 hs fun qa w1 σ1 k1 c=>?_
 refine Z0 k1.sat fun qb w2 σ2 k2 g=>?_
 have c:=c.up k2
 refine P3 k2.sat fun b6 Z V o k3 C=>?_
 have c:=c.up k3
 have g:=g.up k3
 have S2:=k1.trans k2
 have a:=S2.trans k3
 have o:w.heap.size≤b6:=Nat.le_trans S2.bel.size o
 have ab:=ht.lift ⟨a.le⟩
 refine J5 ?_
 refine ld (i:=0) a.sat c rfl ?_
 refine Lm ?_
 cases e1:s.seen with
 | false=>
  have O:Mz (Q7 l) s t=(t,0):=by unfold Mz;rw[if_pos e1]
  rw[O] at h
  refine J8 ?_
  refine Z1 a.sat g rfl ?_
  refine Q4s a.sat (W8.liftS a4 a) (by omega) (by omega) fun q w4 σ4 k4 A=>?_
  exact Q09 (K:=fun r w=>K (.tuple #[r,I 0]) w) (a.trans k4) (C.up k4) rfl o A fun w5 f=>h _ _ _ f A
 | true=>
 refine U6 ?_
 refine J5 ?_
 refine ld (i:=0) a.sat g rfl ?_
 refine Lm ?_
 cases e2:t.seen with
 | false=>
  have O:Mz (Q7 l) s t=(s,0):=by unfold Mz;rw[if_neg (by simp[e1]),if_pos e2]
  rw[O] at h
  refine J8 ?_
  refine Z1 a.sat c rfl ?_
  refine Q4s a.sat (W8.liftS aq a) (by omega) (by omega) fun q w4 σ4 k4 A=>?_
  exact Q09 (K:=fun r w=>K (.tuple #[r,I 0]) w) (a.trans k4) (C.up k4) rfl o A fun w5 f=>h _ _ _ f A
 | true=>
 refine U6 ?_
 have q1:=q1.up a
 have q2:=q2.up a
 have q3:=q3.up a
 have Y:=Y.up a
 refine J5 ?_
 refine ld (i:=1) a.sat c rfl ?_
 refine X0 q1 ?_
 refine J5 ?_
 refine ld (i:=1) a.sat g rfl ?_
 refine X0 q3 ?_
 refine T4 ?_
 have en:Mz (Q7 l) s t=if s.stack.length≠t.stack.length∨s.locals.length≠t.locals.length then (Shp.zero,75)
  else if (List.zipWith (I4 (Q7 l)) s.stack t.stack).any (fun s=>decide (s=[])) then (Shp.zero,75)
  else (⟨true,List.zipWith (I4 (Q7 l)) s.stack t.stack,List.zipWith (Zd (Q7 l)) s.locals t.locals⟩,0):=by
  unfold Mz;rw[if_neg (by simp[e1]),if_neg (by simp[e2])]
 rw[en] at h
 clear en
 have M:(s.stack.length≠t.stack.length∨s.locals.length≠t.locals.length)→ ∀w σ',Stp Z V w σ'→O4 P T.f [] w fun ao w=>Z4 P T.f (.pointer (some ⟨b6,0,none⟩)) ao w fun _u w=>W3 P T.f (.pointer (some ⟨b6,0,none⟩)) w fun r0=>K (.tuple #[r0,I 75]) w:=fun E w σ' k=>by
  rw[if_pos E] at h
  refine Q67 ?_
  exact Q09 (K:=fun r w=>K (.tuple #[r,I 75]) w) (a.trans k) (C.up k) rfl o W8.zero fun w5 f=>h _ _ _ f W8.zero
 by_cases el:s.stack.length=t.stack.length
 case neg=>
  rw[show (!decide ((s.stack.length:Int)=(t.stack.length:Nat)))=true from by simp;omega]
  (repeat refine Hd.h ?_)
  refine J8 ?_
  exact M (.inl el) Z V (Stp.refl a.sat)
 rw[show (!decide ((s.stack.length:Int)=(t.stack.length:Nat)))=false from by simp[el]]
 (repeat refine Hd.h ?_)
 refine ld (i:=2) a.sat c rfl ?_
 (repeat refine Hd.h ?_)
 refine X0 q2 ?_
 (repeat refine Hd.h ?_)
 refine ld (i:=2) a.sat g rfl ?_
 (repeat refine Hd.h ?_)
 refine X0 Y ?_
 (repeat refine Hd.h ?_)
 refine T4 ?_
 (repeat refine Hd.h ?_)
 by_cases O:s.locals.length=t.locals.length
 case neg=>
  rw[show (!decide ((s.locals.length:Int)=(t.locals.length:Nat)))=true from by simp;omega]
  refine J8 ?_
  exact M (.inr O) Z V (Stp.refl a.sat)
 rw[show (!decide ((s.locals.length:Int)=(t.locals.length:Nat)))=false from by simp[O]]
 refine U6 ?_
 clear M
 rw[if_neg (by simp[el,O])] at h
 refine X1D ?_
 refine X4m a.sat fun b w4 A4=>?_
 have S4:=A4.stp
 refine J5 ?_
 refine ld (i:=1) S4.sat (c.up S4) rfl ?_
 refine X0 q1 ?_
 refine U3 s.stack.length (fun k w'=> ∃σ',ShS Z V w' σ' b ((List.zipWith (I4 (Q7 l)) s.stack t.stack).take k) []∧ ∀j (X:j<s.stack.length) (g2:j<t.stack.length),j<k→I4 (Q7 l) s.stack[j] t.stack[j]≠[]) ⟨V,A4,fun j _ _ h=>absurd h (Nat.not_lt_zero _)⟩ fun k w5 d hk hi=>?_
 obtain ⟨σ5,A5,N⟩:=hi
 have f:=A5.stp
 refine Z3 ?_
 refine Q5 (fun E=>?_) (fun E=>?_)
 ·have m:k<s.stack.length:=by simp at E;omega
  have n:k<t.stack.length:=by omega
  refine Zp (q1.up f) m fun a1 J B=>?_
  refine Y0 f.sat J rfl ?_
  refine J5 ?_
  refine ld (i:=1) f.sat (g.up f) rfl ?_
  refine Zp (q3.up f) n fun a2 Q y=>?_
  refine Y0 f.sat Q rfl ?_
  refine Q9U f.sat (ab.lift ⟨f.le⟩) ok B y fun w6 σ6 k6=>?_
  have D:=A5.up k6
  refine Ni ?_
  by_cases ej:I4 (Q7 l) s.stack[k] t.stack[k]=[]
  ·rw[decide_eq_true ej]
   refine J8 ?_
   have W:(List.zipWith (I4 (Q7 l)) s.stack t.stack).any (fun s=>decide (s=[]))=true:=by
    rw[←Bool.not_eq_false,X4f el]
    exact fun hh=>hh k m n ej
   rw[if_pos W] at h
   refine Q67 ?_
   exact Q09 (K:=fun r w=>K (.tuple #[r,I 75]) w) (a.trans D.stp) (C.up D.stp) rfl o W8.zero fun w5 f=>h _ _ _ f W8.zero
  ·rw[decide_eq_false ej]
   refine U6 ?_
   obtain ⟨v1,v2,m6,p1,p2,n1,n2⟩:=D.ex
   refine J5 ?_
   refine B6 (i:=1) m6 rfl ?_
   have H:=Q6T ok B y
   refine O7 (R:=X7) (sz:=1) D.stp.sat [S (I4 (Q7 l) s.stack[k] t.stack[k])] [I4 (Q7 l) s.stack[k] t.stack[k]] rfl rfl (by simp;rfl) rfl ⟨⟨rfl,H⟩,trivial⟩ fun v7 w7 σ7 U av=>?_
   refine X4Y (D.up U) (m6.up U) av (by rw[List.length_take];omega) fun w8 A8=>?_
   (try simp only[↓M1,M1,Mb,reduceIte])
   refine Y5 (by omega) m ⟨σ7,?_,fun j X g2 hj=>?_⟩
   ·rw[X3E m n];exact A8
   ·by_cases e:j=k
    ·subst e;exact ej
    ·exact N j X g2 (by omega)
 have L:k=s.stack.length:=by simp at E;omega
 subst L
 have W:(List.zipWith (I4 (Q7 l)) s.stack t.stack).any (fun s=>decide (s=[]))=false:=(X4f el).2 fun j X g2=>N j X g2 X
 rw[if_neg (by simp[W])] at h
 rw[List.take_of_length_le (by simp;omega)] at A5
 clear N W
 refine J5 ?_
 refine ld (i:=2) f.sat (c.up f) rfl ?_
 refine X0 (q2.up f) ?_
 refine U3 s.locals.length (fun k w'=> ∃σ',ShS Z V w' σ' b (List.zipWith (I4 (Q7 l)) s.stack t.stack) ((List.zipWith (Zd (Q7 l)) s.locals t.locals).take k)) ⟨σ5,A5⟩ fun k w6 d hk hi=>?_
 obtain ⟨σ6,D⟩:=hi
 have p:=D.stp
 refine Z3 ?_
 refine Q5 (fun E=>?_) (fun E=>?_)
 ·have m:k<s.locals.length:=by simp at E;omega
  have n:k<t.locals.length:=by omega
  refine Zp (q2.up p) m fun a1 J B=>?_
  refine Y0 p.sat J rfl ?_
  refine Zj (fun z w'=> ∃σ',Stp w6 σ6 w' σ'∧z=S (Zd (Q7 l) s.locals[k] t.locals[k])∧(Zd (Q7 l) s.locals[k] t.locals[k]).length≤Y9) ?_ fun z d w7 W=>?_
  ·refine I5 ?_
   by_cases e3:s.locals[k]=[]
   ·rw[show (!decide (s.locals[k]=[]))=false from by simp[e3]]
    (repeat refine Hd.h ?_)
    refine U6 ?_
    have ee:Zd (Q7 l) s.locals[k] t.locals[k]=[]:=by unfold Zd;rw[if_pos (.inl e3)]
    rw[ee]
    exact ⟨σ6,Stp.refl p.sat,rfl,Nat.zero_le _⟩
   ·rw[show (!decide (s.locals[k]=[]))=true from by simp[e3]]
    (repeat refine Hd.h ?_)
    refine ld (i:=2) p.sat (g.up p) rfl ?_
    (repeat refine Hd.h ?_)
    refine Zp (Y.up p) n fun a2 Q y=>?_
    (repeat refine Hd.h ?_)
    refine Y0 p.sat Q rfl ?_
    (repeat refine Hd.h ?_)
    refine I5 ?_
    (repeat refine Hd.h ?_)
    by_cases e4:t.locals[k]=[]
    ·rw[show (!decide (t.locals[k]=[]))=false from by simp[e4]]
     refine U6 ?_
     have ee:Zd (Q7 l) s.locals[k] t.locals[k]=[]:=by unfold Zd;rw[if_pos (.inr e4)]
     rw[ee]
     exact ⟨σ6,Stp.refl p.sat,rfl,Nat.zero_le _⟩
    ·rw[show (!decide (t.locals[k]=[]))=true from by simp[e4]]
     refine J8 ?_
     have ee:Zd (Q7 l) s.locals[k] t.locals[k]=I4 (Q7 l) s.locals[k] t.locals[k]:=X1q _ _ _
     rw[ee]
     refine J5 ?_
     refine ld (i:=2) p.sat (g.up p) rfl ?_
     refine Zp (Y.up p) n fun a3 aw bz=>?_
     refine Y0 p.sat aw rfl ?_
     refine Q9U p.sat (ab.lift ⟨p.le⟩) ok B y fun w7 σ7 U=>?_
     exact ⟨σ7,U,rfl,Q6T ok B y⟩
  ·obtain ⟨σ7,U,rfl,H⟩:=W
   have A7:=D.up U
   obtain ⟨v1,v2,m7,p1,p2,n1,n2⟩:=A7.ex
   refine J5 ?_
   refine B6 (i:=2) m7 rfl ?_
   refine O7 (R:=X7) (sz:=1) A7.stp.sat [S (Zd (Q7 l) s.locals[k] t.locals[k])] [Zd (Q7 l) s.locals[k] t.locals[k]] rfl rfl (by simp;rfl) rfl ⟨⟨rfl,H⟩,trivial⟩ fun v8 w8 σ8 k8 ax=>?_
   refine X4S (A7.up k8) (m7.up k8) ax (by rw[List.length_take];omega) fun w9 A9=>?_
   (try simp only[↓M1,M1,Mb,reduceIte])
   refine Y5 (by omega) m ⟨σ8,?_⟩
   rw[X3E m n];exact A9
 have L:k=s.locals.length:=by simp at E;omega
 subst L
 rw[List.take_of_length_le (by simp;omega)] at D
 exact X4o (K:=fun r w=>K (.tuple #[r,I 0]) w) D a C rfl o fun q w' σ' k' a0=>h q w' σ' k' a0)
end Go.Proofs.YtfppjenblllfaaaGreatDoor

namespace Go.Proofs.YtfppjenblllfaaaGreatDoor
open Go.Emb Go.RowKit Go.Kd Go.Hm
variable {w : World} {K : Value → World → Prop} {σ : Q4} {l : List Cla} {v : Value}
end Go.Proofs.YtfppjenblllfaaaGreatDoor

namespace Go.Proofs.YtfppjenblllfaaaGreatDoor
open Go.Emb Go.RowKit Go.Kd Go.Hm
variable {w : World} {K : Value → World → Prop} {σ : Q4} {l : List Cla} {v : Value}
end Go.Proofs.YtfppjenblllfaaaGreatDoor

namespace Go.Proofs.YtfppjenblllfaaaGreatDoor
open Go.Emb Go.RowKit Go.Kd Go.Hm
variable {w w' w0 w1 : World} {K : Value → World → Prop} {σ σ' σ0 σ1 : Q4} {v u : Value} {tv : Value} {l : List Cla} {b b6 : Nat} {xs ys : List Q8} {x : Q8} {s t : Shp}
end Go.Proofs.YtfppjenblllfaaaGreatDoor

namespace Go.Hm
open Go.Kd
def Q2t (s:Shp):Bool:=(decide (s.stack.length≤40)&&decide (s.locals.length≤40))&&(s.stack.all (fun x=>decide (x.length≤100))&&s.locals.all (fun x=>decide (x.length≤100)))
theorem X0y {xs:List Q8} {f:Q8→Bool} (h: ∀j (a:j<xs.length),f xs[j]=true):xs.all f=true:=List.all_eq_true.2 fun x c=>by
 obtain ⟨j,a,rfl⟩:=List.mem_iff_getElem.1 c
 exact h j a
theorem Q82 {xs:List Q8} {f:Q8→Bool} {j:Nat} (a:j<xs.length) (h:f xs[j]=false):xs.all f=false:=by
 rw[←Bool.not_eq_true,List.all_eq_true]
 intro hh
 rw[hh xs[j] (List.getElem_mem a)] at h
 cases h
end Go.Hm
namespace Go.Proofs.YtfppjenblllfaaaGreatDoor
open Go.Emb Go.RowKit Go.Kd Go.Hm
variable {w w' w0 w1 : World} {K : Value → World → Prop} {σ σ' σ0 σ1 : Q4} {v u : Value} {tv : Value} {l : List Cla} {b b6 : Nat} {xs ys : List Q8} {x : Q8} {s t : Shp}
theorem X4D {ds:List Value} (M:X4 w σ) (U:W8 σ s ds) (h: ∀w',Below w.heap.size w w'→K (.bool (Q2t s)) w'):Q0 P F.bR [.agg ds.toArray] w K:=Q13 (by
 obtain ⟨sv,V,rfl,r,z⟩:=U
 unfold En
 refine Z0 M fun q w1 σ1 a y=>?_
 have r:=r.up a
 have z:=z.up a
 have O:=r.max
 have N:=z.max
 refine J5 ?_
 refine ld (i:=1) a.sat y rfl ?_
 refine X0 r ?_
 refine Nf ?_
 unfold Q2t at h
 by_cases H:s.stack.length≤40
 case neg=>
  rw[decide_eq_false H] at h
  rw[show decide ((40:Int)<(s.stack.length:Nat))=true from by simp;omega]
  (repeat refine Hd.h ?_)
  refine J8 ?_
  exact h _ a.bel
 rw[decide_eq_true H] at h
 rw[show decide ((40:Int)<(s.stack.length:Nat))=false from by simp;omega]
 (repeat refine Hd.h ?_)
 refine ld (i:=2) a.sat y rfl ?_
 (repeat refine Hd.h ?_)
 refine X0 z ?_
 (repeat refine Hd.h ?_)
 refine Nf ?_
 (repeat refine Hd.h ?_)
 by_cases E:s.locals.length≤40
 case neg=>
  rw[decide_eq_false E] at h
  rw[show decide ((40:Int)<(s.locals.length:Nat))=true from by simp;omega]
  refine J8 ?_
  exact h _ a.bel
 rw[decide_eq_true E] at h
 rw[show decide ((40:Int)<(s.locals.length:Nat))=false from by simp;omega]
 refine U6 ?_
 simp only[Bool.true_and] at h
 refine U3 s.stack.length (fun k w'=>w'=w1∧ ∀j (g:j<s.stack.length),j<k→decide (s.stack[j].length≤100)=true) ⟨rfl,fun j _ h=>absurd h (Nat.not_lt_zero _)⟩ fun k J d Q B=>?_
 obtain ⟨rfl,m⟩:=B
 refine J5 ?_
 refine ld (i:=1) a.sat y rfl ?_
 refine X0 r ?_
 refine Z3 ?_
 refine Q5 (fun n=>?_) (fun n=>?_)
 ·have c:k<s.stack.length:=by simp at n;omega
  refine J5 ?_
  refine ld (i:=1) a.sat y rfl ?_
  refine Zp r c fun R o C=>?_
  refine Y0 a.sat o rfl ?_
  refine Sm (by kernel_rfl) ?_
  refine Nf ?_
  by_cases A:s.stack[k].length≤100
  ·rw[show decide ((100:Int)<(s.stack[k].length:Nat))=false from by simp;omega]
   refine U6 ?_
   (try simp only[↓M1,M1,Mb,reduceIte])
   exact Y5 O c ⟨rfl,fun j g L=>by
    by_cases e:j=k
    ·subst e;simpa using A
    ·exact m j g (by omega)⟩
  ·rw[show decide ((100:Int)<(s.stack[k].length:Nat))=true from by simp;omega]
   refine J8 ?_
   have D:=Q82 (f:=fun x=>decide (x.length≤100)) c (by simpa using A)
   rw[D,Bool.false_and] at h
   exact h _ a.bel
 have p:k=s.stack.length:=by simp at n;omega
 subst p
 rw[X0y (f:=fun x=>decide (x.length≤100)) fun j g=>m j g g,Bool.true_and] at h
 clear m
 refine U3 s.locals.length (fun k w'=>w'=J∧ ∀j (g:j<s.locals.length),j<k→decide (s.locals[j].length≤100)=true) ⟨rfl,fun j _ h=>absurd h (Nat.not_lt_zero _)⟩ fun k J d Q B=>?_
 obtain ⟨rfl,m⟩:=B
 refine J5 ?_
 refine ld (i:=2) a.sat y rfl ?_
 refine X0 z ?_
 refine Z3 ?_
 refine Q5 (fun n=>?_) (fun n=>?_)
 ·have c:k<s.locals.length:=by simp at n;omega
  refine J5 ?_
  refine ld (i:=2) a.sat y rfl ?_
  refine Zp z c fun R o C=>?_
  refine Y0 a.sat o rfl ?_
  refine Sm (by kernel_rfl) ?_
  refine Nf ?_
  by_cases A:s.locals[k].length≤100
  ·rw[show decide ((100:Int)<(s.locals[k].length:Nat))=false from by simp;omega]
   refine U6 ?_
   (try simp only[↓M1,M1,Mb,reduceIte])
   exact Y5 N c ⟨rfl,fun j g L=>by
    by_cases e:j=k
    ·subst e;simpa using A
    ·exact m j g (by omega)⟩
  ·rw[show decide ((100:Int)<(s.locals[k].length:Nat))=true from by simp;omega]
   refine J8 ?_
   have D:=Q82 (f:=fun x=>decide (x.length≤100)) c (by simpa using A)
   rw[D] at h
   exact h _ a.bel
 have p:k=s.locals.length:=by simp at n;omega
 subst p
 rw[X0y (f:=fun x=>decide (x.length≤100)) fun j g=>m j g g] at h
 exact h _ a.bel)
end Go.Proofs.YtfppjenblllfaaaGreatDoor

namespace Go.Proofs.YtfppjenblllfaaaGreatDoor
open Go.Emb Go.RowKit Go.Kd Go.Hm
variable {w w' w0 w1 : World} {K : Value → World → Prop} {σ σ' σ0 σ1 : Q4} {v u : Value} {tv : Value} {l : List Cla} {b b6 : Nat} {xs ys : List Q8} {x : Q8} {s t : Shp}
end Go.Proofs.YtfppjenblllfaaaGreatDoor

namespace Go.Hm
open Go.Kd
def X2r:Hm.Met:=⟨[],[],[],false,0,[],[]⟩
def Q9K:Ins:=⟨[97,100,100],0,[]⟩
def Q0w:Q8:=D7++[91,93]
def sh1:Shp:=⟨true,[V1],[]⟩
def sh2:Shp:=⟨true,[Q0w],[]⟩
set_option maxRecDepth 100000 in
theorem X1t:Sn (Q7 Za) X2r Q9K [] [] false ⟨true,[V1,V1],[]⟩=(sh1,0):=by decide+kernel
set_option maxRecDepth 100000 in
theorem Q7l:Mz (Q7 Za) ⟨true,[C3],[]⟩ sh2=(sh2,0):=by decide+kernel
end Go.Hm
namespace Go.Proofs.YtfppjenblllfaaaGreatDoor
open Go.Emb Go.RowKit Go.Kd Go.Hm
variable {w w' w0 w1 : World} {K : Value → World → Prop} {σ σ' σ0 σ1 : Q4} {v u : Value} {tv : Value} {l : List Cla} {b b6 : Nat} {xs ys : List Q8} {x : Q8} {s t : Shp}
theorem Q6E (A:X4 w σ) (C:Glb σ)
 (h: ∀a v w' σ',Stp w σ w' σ'→Tab σ' (.pointer (some a)) (Q7 Za)→Sl 8 V4 σ' v (Q7 Za)→Ok (Q7 Za)→K (.tuple #[.pointer (some a),v]) w'):Q0 P F.aD [] w K:=Fo (by
 unfold Wu
 refine Q53 A fun v O J d r=>?_
 refine X4K d.sat (C.lift ⟨d.le⟩) r (by decide) X39 (fun i e _ _ g=>by rw[Q2u] at g;cases g) fun tv H M _ j y ok _=>?_
 obtain ⟨a,_,_,_,rfl,_⟩:=y.ex
 have p:=d.trans j
 refine Z8 (vs:=[_,_,_]) rfl ?_
 refine Z8 (vs:=[_,_,_]) rfl ?_
 refine Z8 (vs:=[_,_,_]) rfl ?_
 refine Q53 j.sat fun N L E f o=>?_
 refine X2Q f.sat o (by decide) (fun i e _ _ g=>by rw[Q2u] at g;cases g) fun B D z _ q m n _=>?_
 have c:=f.trans q
 have k:=p.trans c
 refine Z8 (vs:=[_,_,_]) rfl ?_
 refine Z8 (vs:=[_,_,_]) rfl ?_
 refine Z8 (vs:=[_,_,_]) rfl ?_
 refine T4 ?_
 simp only[decide_true,Bool.not_true]
 (repeat refine Hd.h ?_)
 refine T4 ?_
 simp only[decide_true,Bool.not_true]
 (repeat refine Hd.h ?_)
 refine X07 ?_
 (repeat refine Hd.h ?_)
 refine U6 ?_
 exact h a B D z k (y.lift ⟨c.le⟩) m n)
set_option maxHeartbeats 2000000 in
theorem Q6y (hs:X4 w σ) (hg:Glb σ) (h: ∀w' σ',Stp w σ w' σ'→K (.bool true) w'):Q0 P F.ai [] w K:=Iq (by
 unfold Nl
 refine Q6E hs hg fun a lv w1 σ1 S1 ht hl ok=>?_
 refine Z8 (vs:=[_,_]) rfl ?_
 refine Z8 (vs:=[_,_]) rfl ?_
 refine X07 ?_
 (repeat refine Hd.h ?_)
 refine X0 hl ?_
 (repeat refine Hd.h ?_)
 refine Vo ?_
 (repeat refine Hd.h ?_)
 rw[show decide (((Q7 Za).length:Int)=0)=false from by decide]
 refine U6 ?_
 refine Rh ?_
 refine W0 (cells:= #[S Q9K.op,I 0,S []]) (by kernel_rfl) ?_
 refine O7 (R:=X7) (sz:=1) S1.sat [S V1,S V1] [V1,V1] rfl rfl (by simp;rfl) rfl ⟨⟨rfl,by decide⟩,⟨rfl,by decide⟩,trivial⟩ fun v2 w2 σ2 V J=>?_
 refine W0 (cells:= #[.bool true,v2, .slice none 0 0]) (by obtain ⟨a,c,rfl,_⟩:=J;kernel_rfl) ?_
 refine X21 (m:=X2r) (i:=Q9K) (c:=[]) (f:=[]) (k:=false) V.sat (ht.lift ⟨V.le⟩) ok ⟨_,_,_,rfl,Sl.nil,Sl.nil,Sl.nil,by decide,by decide,by decide⟩ ⟨rfl,by decide,by decide,by decide⟩ J Sl.nil (by decide) (by decide) (fun a ha=>by
  have e:Ub.lookup Q9K.op=some (.takes V1 [V1,V1]):=by decide+kernel
  rw[e] at ha;cases ha
  exact @Q6f _ _ _ _ _ _ _ _ (by decide)) fun ds w3 σ3 W L=>?_
 rw[X1t] at L⊢
 have S3:=(S1.trans V).trans W
 refine Z8 (vs:=[_,_]) rfl ?_
 refine Z8 (vs:=[_,_]) rfl ?_
 have d:W8 σ3 sh1 ds:=L
 refine Y6 (sz:=3) W.sat rfl (by obtain ⟨_,_,rfl,_⟩:=d;rfl) (Rep.one d) fun qa w4 σ4 N X=>?_
 refine O7 (R:=X7) (sz:=1) N.sat [S C3] [C3] rfl rfl (by simp;rfl) rfl ⟨⟨rfl,by decide⟩,trivial⟩ fun v5 w5 σ5 B Q=>?_
 refine W0 (cells:= #[.bool true,v5, .slice none 0 0]) (by obtain ⟨a,c,rfl,_⟩:=Q;kernel_rfl) ?_
 refine O7 (R:=X7) (sz:=1) B.sat [S Q0w] [Q0w] rfl rfl (by simp;rfl) rfl ⟨⟨rfl,by decide⟩,trivial⟩ fun v6 w6 σ6 z C=>?_
 refine W0 (cells:= #[.bool true,v6, .slice none 0 0]) (by obtain ⟨a,c,rfl,_⟩:=C;kernel_rfl) ?_
 have Y:=(((V.trans W).trans N).trans B).trans z
 refine X3y (s:=⟨true,[C3],[]⟩) (t:=sh2) z.sat (ht.lift ⟨Y.le⟩) ok ⟨_,_,rfl,Q.up z,Sl.nil⟩ ⟨_,_,rfl,C,Sl.nil⟩ (by decide) (by decide) (by decide) (by decide) fun es w7 σ7 M U=>?_
 rw[Q7l] at U⊢
 refine Z8 (vs:=[_,_]) rfl ?_
 refine Z8 (vs:=[_,_]) rfl ?_
 have j:W8 σ7 sh2 es:=U
 refine Y6 (sz:=3) M.sat rfl (by obtain ⟨_,_,rfl,_⟩:=j;rfl) (Rep.one j) fun qb w8 σ8 y aa=>?_
 have o:=(((X.up B).up z).up M).up y
 have p:=W8.liftS d ((((N.trans B).trans z).trans M).trans y)
 have E:=W8.liftS j y
 refine Z1 y.sat o (by obtain ⟨_,_,rfl,_⟩:=d;rfl) ?_
 refine O7 (R:=X7) (sz:=1) y.sat [S V1] [V1] rfl rfl (by simp;rfl) rfl ⟨⟨rfl,by decide⟩,trivial⟩ fun v9 w9 σ9 A O=>?_
 refine W0 (cells:= #[.bool true,v9, .slice none 0 0]) (by obtain ⟨a,c,rfl,_⟩:=O;kernel_rfl) ?_
 refine Bf (b:=sh1) (es:=[.bool true,v9, .slice none 0 0]) A.sat (W8.liftS p A) ⟨_,_,rfl,O,Sl.nil⟩ fun av H=>?_
 have ao:=(((S3.trans N).trans B).trans z).trans (M.trans (y.trans (A.trans (Stp.of_below A.sat H))))
 have n:=A.trans (Stp.of_below A.sat H)
 rw[show decide (sh1=sh1)=true from by decide]
 (repeat refine Hd.h ?_)
 refine Vo ?_
 simp only[decide_true]
 (repeat refine Hd.h ?_)
 refine Z1 n.sat (aa.up n) (by obtain ⟨_,_,rfl,_⟩:=j;rfl) ?_
 (repeat refine Hd.h ?_)
 refine O7 (R:=X7) (sz:=1) n.sat [S Q0w] [Q0w] rfl rfl (by simp;rfl) rfl ⟨⟨rfl,by decide⟩,trivial⟩ fun D ai aq q r=>?_
 (repeat refine Hd.h ?_)
 refine W0 (cells:= #[.bool true,D, .slice none 0 0]) (by obtain ⟨a,c,rfl,_⟩:=r;kernel_rfl) ?_
 (repeat refine Hd.h ?_)
 refine Bf (b:=sh2) (es:=[.bool true,D, .slice none 0 0]) q.sat (W8.liftS E (n.trans q)) ⟨_,_,rfl,r,Sl.nil⟩ fun ak Z=>?_
 have g:=n.trans (q.trans (Stp.of_below q.sat Z))
 rw[show decide (sh2=sh2)=true from by decide]
 (repeat refine Hd.h ?_)
 refine Vo ?_
 simp only[decide_true]
 (repeat refine Hd.h ?_)
 refine Z1 g.sat (o.up g) (by obtain ⟨_,_,rfl,_⟩:=d;rfl) ?_
 (repeat refine Hd.h ?_)
 refine Z1 g.sat (o.up g) (by obtain ⟨_,_,rfl,_⟩:=d;rfl) ?_
 (repeat refine Hd.h ?_)
 refine X2O (a:=sh1) (b:=sh1) g.sat (W8.liftS p g) (W8.liftS p g) fun ax ab=>?_
 rw[show decide (sh1=sh1)=true from by decide]
 (repeat refine Hd.h ?_)
 exact h _ _ ((((S3.trans N).trans B).trans z).trans (M.trans (y.trans (g.trans (Stp.of_below g.sat ab))))))
end Go.Proofs.YtfppjenblllfaaaGreatDoor

namespace Go.Hm
open Go.Kd
theorem X1h {s:Shp} (h:Q2t s=true):s.stack.length≤1000∧s.locals.length≤1000:=by
 simp only[Q2t,Bool.and_eq_true,decide_eq_true_eq] at h
 omega
end Go.Hm
namespace Go.Proofs.YtfppjenblllfaaaGreatDoor
open Go.Emb Go.RowKit Go.Kd Go.Hm
variable {w w' w0 w1 : World} {K : Value → World → Prop} {σ σ' σ0 σ1 : Q4} {v u : Value} {tv : Value} {l : List Cla} {s t : Shp} {ds es : List Value}
theorem Q8s (h:W8 σ s ds):ds.length=3:=by obtain ⟨_,_,rfl,_⟩:=h;rfl
theorem Q9R {A:Value→World→Prop} (c:X4 w σ) (b:W8 σ s ds) (h: ∀a w' σ',Stp w σ w' σ'→Z2 σ' a ds→A (.pointer (some a)) w'):W6 P T.f w fun p w=>Z4 P T.f p (.agg ds.toArray) w fun _ w=>A p w:=
 Y6 (sz:=3) (A:=fun p _ w=>A p w) c rfl (Q8s b) (Rep.one b) h
end Go.Proofs.YtfppjenblllfaaaGreatDoor

namespace Go.Proofs.YtfppjenblllfaaaGreatDoor
open Go.Emb Go.RowKit Go.Kd Go.Hm
variable {w w' w0 w1 : World} {K : Value → World → Prop} {σ σ' σ0 σ1 : Q4} {v u : Value} {tv : Value} {l : List Cla} {s t : Shp} {ds es : List Value}
end Go.Proofs.YtfppjenblllfaaaGreatDoor

namespace Go.Hm
open Go.Kd
def Py (l:List Cla) (m:Hm.Met) (i:Ins) (s:Shp):Shp×Int:=Sn l m i (P4 i.s).1 (P4 i.s).2.1 (P4 i.s).2.2 s
end Go.Hm
namespace Go.Proofs.YtfppjenblllfaaaGreatDoor
open Go.Emb Go.RowKit Go.Kd Go.Hm
variable {w w' w0 w1 : World} {K : Value → World → Prop} {σ σ' σ0 σ1 : Q4} {v u : Value} {tv : Value} {l : List Cla} {s t : Shp} {ms is ds es : List Value} {m : Hm.Met} {i : Ins} {c f : Q8} {k : Bool}
theorem X48 (h:i.s.length≤200) (j:m.result.length≤Y9) (e: ∀o x,Z9 l c f=some (o,x)→x.params.length≤1000000∧x.result.length≤Y9) (d:P4 i.s=(c,f,k)) {a:Dact} (g:X1T a=true):B9 l m i c f k a:=by
 have hB:(200:Nat)≤Y9:=by decide
 have b:=Nat.le_trans h hB
 cases a with
 | puts q=>exact @X2S _ _ _ _ _ _ _
 | takes q ys=>exact @Q6f _ _ _ _ _ _ _ _ (of_decide_eq_true g)
 | load=>exact @X3q _ _ _ _ _ _
 | store=>exact @X20 _ _ _ _ _ _
 | pop=>exact @X46 _ _ _ _ _ _
 | dup=>exact @X3V _ _ _ _ _ _
 | swap=>exact @X2F _ _ _ _ _ _
 | size=>exact @X3p _ _ _ _ _ _
 | nop=>exact @X40 _ _ _ _ _ _
 | make=>exact @X2I _ _ _ _ _ _ b
 | get=>exact @X4p _ _ _ _ _ _ b d
 | give=>exact @X2H _ _ _ _ _ _ b d
 | call=>exact @X3k _ _ _ _ _ _ b d e
 | array=>exact @X1W _ _ _ _ _ _ (by omega)
 | at_=>exact @X4M _ _ _ _ _ _
 | set_=>exact @X3T _ _ _ _ _ _
 | is=>exact @X50 _ _ _ _ _ _ b
 | cast=>exact @X3r _ _ _ _ _ _ b
 | ret=>exact @X3M _ _ _ _ _ _ j
 | equal=>exact @X1V _ _ _ _ _ _
theorem Wf.met_sm (e:Wf l) (ok:Ok (Q7 l)) {o:Q8} {x:Hm.Met} (h:Z9 (Q7 l) c f=some (o,x)):x.params.length≤1000000∧x.result.length≤Y9:=by
 obtain ⟨y,g,d,_⟩:=e.method_some h
 have b:=(V2 g).2.1
 have a:=List.mem_of_find?_eq_some d
 exact ⟨((ok.sm y b).2.2.2 x a).1,Nat.le_trans ((ok.nm y b).2.2 x a).1 (by decide)⟩
theorem X22 (y:X4 w σ) (g:Tab σ tv (Q7 l)) (j:Wf l) (ok:Ok (Q7 l)) (d:M3 σ m ms) (n:G9 σ i is) (C:W8 σ s ds) (p:s.stack.length≤1000) (A:s.locals.length≤1000) (z:i.s.length≤200) (D:m.result.length≤100)
 (h: ∀b w' σ',Stp w σ w' σ'→W8 σ' (Py (Q7 l) m i s).1 b→K (.tuple #[.agg b.toArray,I (Py (Q7 l) m i s).2]) w'):Q0 P F.ce [tv, .agg ms.toArray, .agg is.toArray, .agg ds.toArray] w K:=by
 obtain ⟨sv,E,rfl,q,r⟩:=C
 exact X21 y g ok d n q r p A (fun a B=>X48 z (Nat.le_trans D (by decide)) (fun o x e=>j.met_sm ok e) rfl (X4E B)) h
end Go.Proofs.YtfppjenblllfaaaGreatDoor

namespace Go.Emb
open Go.RowKit Go.Hm
variable {P : Program} {w w0 w1 w' : World} {K : Value → World → Prop} {σ σ0 : Q4} {B : Nat} {e : TypeId} {v u : Value} {xs ys tgt : List Kd.Q8} {D : Nat → Prop}
structure RowT (e : TypeId) (D : Nat → Prop) (tgt : List Kd.Q8) (w w' : World) : Prop where
  kp : Kpt D w w'
  cs : ∀ k cur e' fr, D k → w.heap[k]? = some (.cells cur e' fr) → w'.heap[k]? = w.heap[k]? ∨ (e' = e ∧ ∃ cur' : Array Value, w'.heap[k]? = some (.cells cur' e' fr) ∧ cur'.size = cur.size ∧ ∀ j v, j < tgt.length → cur'[j]? = some v → cur[j]? = some v ∨ ∃ y, tgt[j]? = some y ∧ v = S y)
theorem RowT.of_below (h:Below w.heap.size w w'):RowT e D tgt w w':=⟨.of_below h,fun k a c d _ b=> .inl (h.block k (Array.getElem?_eq_some_iff.1 b).1)⟩
theorem RowT.mono {c:Nat→Prop} (h:RowT e D tgt w w') (d: ∀k,D k→c k):RowT e c tgt w w':=⟨h.kp.mono fun k _ a=>d k a,fun k b f g _ a=>by
 by_cases hD:D k
 ·exact h.cs k b f g hD a
 ·exact .inl (h.kp.block k (Array.getElem?_eq_some_iff.1 a).1 hD)⟩
theorem RowT.acc (Q:RowT e D tgt w w') (R: ∀(j:Nat) (y:Kd.Q8),xs[j]? =some y→tgt[j]? =some y) (h:J1 B e 1 X7 σ w v xs):J1 B e 1 X7 σ w' v xs:=by
 obtain ⟨cells,J,O,L⟩:=h
 rcases J.2 with ⟨rfl,Z⟩ | ⟨g,k,b,rfl,U,N,n,l,C,o⟩
 ·exact ⟨cells,⟨J.1, .inl ⟨rfl,Z⟩⟩,O,L⟩
 have z:=(Array.getElem?_eq_some_iff.1 N).1
 have d:w'.heap[g]? =w.heap[g]? →J1 B e 1 X7 σ w' (.slice (some ⟨g,0,none⟩) xs.length k) xs:=fun H=>⟨cells,⟨J.1, .inr ⟨g,k,b,rfl,U,H.trans N,n,l,C,o⟩⟩,O,L⟩
 by_cases hD:D g
 case neg=>exact d (Q.kp.block g z hD)
 rcases Q.cs g b e (0,0) hD N with H | ⟨_,a,M,Y,A⟩
 ·exact d H
 have W:=Array.length_toList (xs:=b)
 have V:=Array.length_toList (xs:=a)
 refine ⟨a.toList.take (xs.length*1),⟨by rw[List.length_take];omega, .inr ⟨g,k,a,rfl,U,M,n,l,by omega,rfl⟩⟩,O,fun i x p=>?_⟩
 have X:i<xs.length:=(List.getElem?_eq_some_iff.1 p).1
 have t:i<tgt.length:=(List.getElem?_eq_some_iff.1 (R i x p)).1
 obtain ⟨m,q2⟩:=L i x p
 refine ⟨?_,q2⟩
 rw[←o] at m
 have f: ∀c:List Value,xs.length≤c.length→List.take 1 (List.drop (i*1) (List.take (xs.length*1) c))=(c[i]?).toList:=fun c hc=>by
  rw[Nat.mul_one,Nat.mul_one,List.drop_take,List.take_take,Nat.min_eq_left (by omega),List.drop_eq_getElem_cons (by omega:i<c.length),List.getElem?_eq_getElem (by omega:i<c.length)]
  rfl
 rw[f _ (by omega)] at m⊢
 have s:i<b.toList.length:=by omega
 have E:i<a.toList.length:=by omega
 rw[List.getElem?_eq_getElem s] at m
 rw[List.getElem?_eq_getElem E]
 simp only[Option.toList_some,List.cons.injEq,and_true] at m⊢
 have h4:a[i]? =some a.toList[i]:=by simp
 rcases A i _ t h4 with q | ⟨y,q,r⟩
 ·have r:b[i]? =some b.toList[i]:=by simp
  rw[q] at r
  rw[Option.some.inj r];exact m
 ·rw[R i x p] at q
  cases q
  exact r
theorem RowT.accN (p:RowT e D tgt w w') (q: ∀k,v.ownBlock=some k→ ¬D k) (h:J1 B e 1 X7 σ w v xs):J1 B e 1 X7 σ w' v xs:=by
 obtain ⟨cells,i,n,l⟩:=h
 rcases i.2 with ⟨rfl,o⟩ | ⟨g,j,d,rfl,r,m,c,a,b,f⟩
 ·exact ⟨cells,⟨i.1, .inl ⟨rfl,o⟩⟩,n,l⟩
 exact ⟨cells,⟨i.1, .inr ⟨g,j,d,rfl,r,(p.kp.block g (Array.getElem?_eq_some_iff.1 m).1 (q g rfl)).trans m,c,a,b,f⟩⟩,n,l⟩
theorem RowT.hst (b:RowT e D tgt w w') (f:X4 w0 σ) (h:Hst w0 σ w σ) (hD: ∀k,D k→w0.heap.size≤k):Hst w0 σ w' σ:=by
 refine ⟨h.stp.nx (D:=D) (⟨b.kp,SLe.refl _,fun _ _=>rfl,fun k o a=>?_⟩:Nxt D w σ w' σ) hD⟩
 have c:=h.sat k o a
 exact (b.kp.block k (Array.getElem?_eq_some_iff.1 c).1 fun d=>by rw[f.none (hD k d)] at a;cases a).trans c
theorem X43 {t ty:TypeId} {by_:Nat} {z:Value} {cs:List Bool} [ts:TS P t e] [tz:TZ P e 1 by_ z] (hS:Stp w0 σ0 w σ) (ha:J1 w0.heap.size e 1 X7 σ w v xs) (R:Sl 1 X7 σ u ys) (hz:(z.cells.size==1&&decide (0<1))=true)
 (W:(xs.length+ys.length)*by_≤140737488355328) (hm:xs.length+ys.length≤1000000000000)
 (h: ∀f w',RowT e (fun k=>v.ownBlock=some k) (xs++ys) w w'→Stp w0 σ0 w' σ→J1 w0.heap.size e 1 X7 σ w' f (xs++ys)→(f.ownBlock=v.ownBlock∨ ∀k,f.ownBlock=some k→w.heap.size≤k)→K f w'):X5 P .append [t,t] ty cs [v,u] w K:=by
 have H:=ha
 obtain ⟨cells,m,ao,a2⟩:=ha
 have Q:=app (P:=P) (K:=fun f w'=>Stp w0 σ0 w' σ∧J1 w0.heap.size e 1 X7 σ w' f (xs++ys)∧(f.ownBlock=v.ownBlock∨ ∀k,f.ownBlock=some k→w.heap.size≤k)) (t:=t) (ty:=ty) (cs:=cs) hS H R hz W (by omega) fun f w' _ J O N=>⟨J,O,N⟩
 rcases m.2 with ⟨rfl,e2⟩ | ⟨g,d,A,rfl,a3,E,aa,aw,ae,a0⟩
 ·exact app hS H R hz W (by omega) fun f w' E J O N=>h f w' (.of_below ((Kpt.of_grown (D:=fun _=>False) E fun k hk=>by cases hk).below fun _=>id)) J O N
 obtain ⟨a,c,l,rfl,n1,U,n3,n4,n5⟩:=R.cells hS.sat
 obtain ⟨i,Y,o,ab,y⟩:=tz.info
 have s: ∀f w',(Builtin.append_ #[t,t] ty #[.slice (some ⟨g,0,none⟩) xs.length d, .slice a ys.length c]).run P w= .ok f w'→RowT e (fun k=>(Value.slice (some ⟨g,0,none⟩) xs.length d).ownBlock=some k) (xs++ys) w w'→X5 P .append [t,t] ty cs [.slice (some ⟨g,0,none⟩) xs.length d, .slice a ys.length c] w K:=by
  intro f w' M L
  have C:(builtin .append #[t,t] ty cs.toArray #[.slice (some ⟨g,0,none⟩) xs.length d, .slice a ys.length c]).run P w= .ok (.value f) w':=by
   simp[builtin,M]
  unfold X5 at Q⊢
  rw[Qj] at Q⊢
  unfold P7 at Q⊢
  rw[C] at Q⊢
  obtain ⟨J,O,N⟩:=Q
  exact h f w' L J O N
 cases a with
 | none=>
  have Z:=n1 rfl
  have hy:ys=[]:=List.eq_nil_of_length_eq_zero (by obtain ⟨a',aj,e',q1,_,q3,_⟩:=R;injection e' with _ e2 e3;omega)
  subst hy Z
  refine s (.slice (some ⟨g,0,none⟩) xs.length d) w ?_ (.of_below (Below.refl _ _))
  simp[Builtin.append_,run_underlying ts.h,sizeOf,typeInfo,Y,Builtin.lenOf,Builtin.firstCells,aa,loadCells,loadCellsFrom,storeCells]
 | some b=>
  by_cases p:xs.length+ys.length≤d
  ·have n:xs.length*i.size+l.length≤A.size:=by rw[U,ae,o,←Nat.add_mul];exact Nat.mul_le_mul_right _ p
   have X:=run_append_room (P:=P) w t ty e i ts.h Y g xs.length d A E b ys.length c l (by rw[o];exact U) (n3 b rfl) n4 p n
   refine s _ _ X ⟨Kpt.of_upd (Xz E).1 rfl,fun k ai e' fr hk V=>?_⟩
   cases hk
   have V:=E.symm.trans V
   cases V
   refine .inr ⟨rfl,_,(Xz E).2,?_,fun j v hj q=>?_⟩
   ·simp;omega
   ·have av:=Array.length_toList (xs:=A)
    rw[o] at q n
    simp only[Nat.mul_one] at q n U
    rw[List.getElem?_toArray] at q
    by_cases h2:j<xs.length
    ·rw[List.append_assoc,List.getElem?_append_left (by rw[List.length_take];omega),List.getElem?_take_of_lt h2] at q
     exact .inl (by simpa using q)
    ·have h4:j-xs.length<ys.length:=by rw[List.length_append] at hj;omega
     rw[List.append_assoc,List.getElem?_append_right (by rw[List.length_take];omega),List.length_take,Nat.min_eq_left (by omega),List.getElem?_append_left (by omega)] at q
     have h5:=n5 (j-xs.length) ys[j-xs.length] (List.getElem?_eq_getElem h4)
     obtain ⟨h6,_⟩:=h5
     have h7:j-xs.length<l.length:=by omega
     rw[Nat.mul_one,List.drop_eq_getElem_cons h7] at h6
     simp only[List.take_succ_cons,List.take_zero,List.cons.injEq,and_true] at h6
     rw[List.getElem?_eq_getElem h7,h6] at q
     cases q
     exact .inr ⟨_,by rw[List.getElem?_append_right (by omega),List.getElem?_eq_getElem h4],rfl⟩
  ·have r: ∀j u,cells[j]? =some u→w.cell? ((⟨g,0,none⟩:Addr).add j)=some u:=m.cells (g:=g) rfl
   have X:=run_append_grow (P:=P) w t ty e i z ts.h Y y ⟨g,0,none⟩ xs.length d cells (by rw[o];exact m.1) r b ys.length c l (by rw[o];exact U) (n3 b rfl) (by omega) (by omega) (growslice_fits (by omega) (by rw[ab];exact W))
   exact s _ _ X (.of_below ((Below.refl _ _).drew.alloc (Nat.le_refl _) _))
theorem J1.ty (h:J1 B e 1 X7 σ w v xs) {k:Nat} (b:v.ownBlock=some k): ∃a,w.heap[k]? =some (.cells a e (0,0)):=by
 obtain ⟨cells,f,_⟩:=h
 rcases f.2 with ⟨rfl,j⟩ | ⟨g,d,a,rfl,i,c,_⟩
 ·cases b
 ·cases b;exact ⟨a,c⟩
theorem J1.upd {b:Nat} (h:J1 B e 1 X7 σ w v xs) (u:Upd w b w') (l:v.ownBlock≠some b):J1 B e 1 X7 σ w' v xs:=by
 obtain ⟨cells,j,n,m⟩:=h
 rcases j.2 with ⟨rfl,o⟩ | ⟨g,k,f,rfl,p,q,d,a,c,i⟩
 ·exact ⟨cells,⟨j.1, .inl ⟨rfl,o⟩⟩,n,m⟩
 exact ⟨cells,⟨j.1, .inr ⟨g,k,f,rfl,p,(u.block g fun e=>l (by rw[←e];rfl)).trans q,d,a,c,i⟩⟩,n,m⟩
def Pf (n:Nat) (σ:Q4) (w:World):Q4:=fun k=>if k<n then σ k else w.heap[k]?
theorem Q86 (b:X4 w σ) {n:Nat}:SLe σ (Pf n σ w):=⟨fun k o a=>by
 unfold Pf
 split
 ·exact a
 ·exact b k o a⟩
theorem Stp.all (h:Stp w0 σ0 w σ):Stp w0 σ0 w (Pf w0.heap.size σ w):=⟨h.bel,fun k o a=>by
 unfold Pf at a
 split at a
 ·exact h.sat k o a
 ·exact a,fun k o a=>(Q86 h.sat).le k o (h.le k o a),fun k b=>by
 unfold Pf
 rw[if_pos b];exact h.old k b⟩
theorem J1.all (y:X4 w σ) (h:J1 B e 1 X7 σ w v xs):Sl 1 X7 (Pf B σ w) v xs:=by
 obtain ⟨cells,o,A,r⟩:=h
 rcases o.2 with ⟨rfl,q⟩ | ⟨g,m,f,rfl,z,s,d,c,p,l⟩
 ·have:xs=[]:=List.eq_nil_of_length_eq_zero q
  subst this
  exact Sl.nil
 ·refine ⟨_,m,rfl,d,c,by simp,?_⟩
  intro b k
  cases k
  refine ⟨fun _=>rfl,fun i x n=>⟨(cells.drop (i*1)).take 1,⟨I9 rfl _,f,e,(0,0),by rw[R9];unfold Pf;rw[if_neg (by show¬g<B;omega)];exact s,?_⟩,?_,r i x n⟩⟩
  ·intro j u a
   rw[Xj]
   rw[List.getElem?_take] at a
   split at a
   ·rw[List.getElem?_drop,←l,List.getElem?_take] at a
    split at a
    ·simpa using a
    ·cases a
   ·cases a
  ·have t:i<xs.length:=(List.getElem?_eq_some_iff.1 n).1
   rw[List.length_take,List.length_drop,o.1];omega
theorem Z7.all {b n:Nat} {cs:List Value} (h:Z7 σ w b cs) (d:n≤b):Z2 (Pf n σ w) ⟨b,0,none⟩ cs:=by
 obtain ⟨_,e,c⟩:=h
 exact ⟨rfl,cs.toArray,e,(0,0),by unfold Pf;rw[if_neg (by show¬b<n;omega)];exact c,fun i v a=>by simpa using a⟩
theorem X0Z {t:TypeId} {sz by_:Nat} {z:Value} [tz:TZ P t sz by_ z] (a:X4 w σ) (h: ∀b w',w.heap.size≤b→Below w.heap.size w w'→w'.heap[b]? =some (.cells z.cells t (0,0))→K (.pointer (some ⟨b,0,none⟩)) w'):W6 P t w K:=by
 unfold W6
 have:(Instr.alloc t true (.tuple #[])).run P w= .ok (.pointer (some ⟨w.heap.size,0,none⟩)) (w.alloc (.cells z.cells t)):=by
  simp[Instr.alloc,Qm tz,newVar,newRow]
 rw[Y2 this]
 exact h _ _ (Nat.le_refl _) ((Below.refl _ _).alloc (Nat.le_refl _) _) (heap_alloc_new w _)
end Go.Emb

namespace Go.Hm
open Go.Kd
end Go.Hm
namespace Go.Proofs.YtfppjenblllfaaaGreatDoor
open Go.Emb Go.RowKit Go.Kd Go.Hm
variable {w w' w0 w1 : World} {K : Value → World → Prop} {σ σ' σ0 σ1 : Q4} {v u : Value} {tv : Value} {l : List Cla} {s t : Shp} {ds es : List Value} {m : Hm.Met} {cls : Q8}
end Go.Proofs.YtfppjenblllfaaaGreatDoor

namespace Go.Emb
open Go.RowKit Go.Hm
variable {P : Program} {w w0 w1 w' : World} {K : Value → World → Prop} {σ : Q4} {e : TypeId} {v u : Value} {xs ys tgt : List Kd.Q8} {D : Nat → Prop}
def Hb (w0:World) (σ:Q4) (e:TypeId) (xs:List Kd.Q8) (p:Iv) (v:Value) (w':World):Prop:=Stp w0 σ w' σ∧J1 w0.heap.size e 1 X7 σ w' v xs∧((∀k,v.ownBlock=some k→p.1≤k∧k<p.2)∨xs=[]∧Full v)
abbrev Ib (w0:World) (p:Iv):Nat→Prop:=fun k=>w0.heap.size≤k∧p.1≤k∧k<p.2
theorem Hb.pre {q p:Iv} (n:X4 w0 σ) (h: ∀(j:Nat) (y:Kd.Q8),xs[j]? =some y→tgt[j]? =some y):D6 (RowT e (Ib w0 q) tgt) (Hb w0 σ e xs p):=fun _ _ _ ⟨o,b,d⟩ a=>
 ⟨(a.hst n ⟨o⟩ fun k g=>g.1).stp,a.acc h b,d⟩
theorem Hb.dis {q p:Iv} (n:X4 w0 σ) (r:q.2≤p.1∨p.2≤q.1):D6 (RowT e (Ib w0 q) tgt) (Hb w0 σ e xs p):=fun _ _ _ ⟨o,g,a⟩ d=>
 ⟨(
  d.hst n ⟨o⟩ fun k b=>b.1).stp,by
  rcases a with a | ⟨rfl,_⟩
  ·refine d.accN (fun k b hD=>?_) g
   have:=a k b
   have:=hD.2
   omega
  ·exact d.acc (fun j y h=>by cases h) g,a⟩
theorem Df.stI {q:Iv} (n:X4 w0 σ):D6 (RowT e (Ib w0 q) tgt) (Df w0 σ e 1 X7 ([]:List Kd.Q8)):=fun _ _ _ ⟨o,d,g⟩ a=>
 ⟨(a.hst n ⟨o⟩ fun k h=>h.1).stp,a.acc (fun j y b=>by cases b) d,g⟩
theorem dj {φ:Value→World→Prop} (h:φ v w):dk (RowT e D tgt) φ w v w:=⟨.of_below (Below.refl _ _),h⟩
theorem Q5Q {t ty:TypeId} {by_:Nat} {z:Value} {cs:List Bool} {f:Value} [ts:TS P t e] [tz:TZ P e 1 by_ z] (r:Df w0 σ e 1 X7 ([]:List Kd.Q8) f w) (o:Sl 1 X7 σ u ys) (n:(z.cells.size==1&&decide (0<1))=true) (y:ys.length*by_≤140737488355328) (p:ys.length≤1000000000000):
 X5 P .append [t,t] ty cs [f,u] w (Pw (RowT e D tgt) (Hb w0 σ e ys) w):=by
 obtain ⟨g,q,d⟩:=r
 refine Q6U g q d o n (by simpa using y) (by simpa using p) fun B w' h j a=>⟨.of_below h.bel,g.trans h,j,?_⟩
 rcases a with a | ⟨a,A⟩
 ·exact .inl fun k b=>⟨a k b,(j.mem k b).2.1⟩
 ·exact .inr ⟨a,by rw[A];exact d⟩
def Q2x (w0:World) (σ:Q4) (e:TypeId) (xs:List Kd.Q8) (_:Iv) (v:Value) (w':World):Prop:=Stp w0 σ w' σ∧J1 w0.heap.size e 1 X7 σ w' v xs
theorem Q2x.st {q p:Iv} (d:X4 w0 σ):D6 (RowT e (Ib w0 q) xs) (Q2x w0 σ e xs p):=fun _ _ _ ⟨g,j⟩ a=>
 ⟨(a.hst d ⟨g⟩ fun k b=>b.1).stp,a.acc (fun _ _ h=>h) j⟩
theorem Q88 {t ty:TypeId} {by_:Nat} {z:Value} {cs:List Bool} {f:Value} {p:Iv} [ts:TS P t e] [tz:TZ P e 1 by_ z] (B:Hb w0 σ e xs p f w) (j:Sl 1 X7 σ u ys) (h:(z.cells.size==1&&decide (0<1))=true) (o:(xs.length+ys.length)*by_≤140737488355328) (n:xs.length+ys.length≤1000000000000):
 X5 P .append [t,t] ty cs [f,u] w (Pw (RowT e (Ib w0 p) (xs++ys)) (Q2x w0 σ e (xs++ys)) w):=by
 obtain ⟨g,b,d⟩:=B
 rcases d with d | ⟨C,r⟩
 ·exact X43 g b j h o n fun q w' y S A _=>⟨y.mono fun k a=>⟨(b.mem k a).1,d k a⟩,S,A⟩
 ·exact Q6U g b r j h o n fun q w' a E _=>⟨.of_below a.bel,g.trans a,E⟩
def Q3O (w0:World) (t:TypeId) (v:Value) (w':World):Prop:= ∃b,v= .pointer (some ⟨b,0,none⟩)∧w0.heap.size≤b∧ ∃L6:Array Value,L6.size=3∧w'.heap[b]? =some (.cells L6 t (0,0))
theorem Q3O.st {t:TypeId} (o:t≠e):D6 (RowT e D tgt) (Q3O w0 t):=fun v w w' ⟨b,n,h,L6,j,a⟩ g=>⟨b,n,h,L6,j,by
 by_cases hD:D b
 ·rcases g.cs b L6 t (0,0) hD a with d | ⟨d,_⟩
  ·exact d.trans a
  ·exact absurd d o
 ·exact (g.kp.block b (Array.getElem?_eq_some_iff.1 a).1 hD).trans a⟩
end Go.Emb
namespace Go.Proofs.YtfppjenblllfaaaGreatDoor
open Go.Emb Go.RowKit Go.Kd Go.Hm
variable {w w' w0 w1 : World} {K : Value → World → Prop} {σ σ' σ0 σ1 : Q4} {v u : Value} {tv : Value} {l : List Cla} {s t : Shp} {ms is ds es : List Value} {m : Hm.Met} {i : Ins} {c f : Q8} {k : Bool} {xs ys : List Q8}
theorem X2q:T.f≠T.a:=by decide
theorem X3L {b:Nat} {d a:Value} {L6:Array Value} (M:X4 w0 σ) (h:Hst w0 σ w σ) (p:w0.heap.size≤b) (R:L6.size=3) (j:w.heap[b]? =some (.cells L6 T.f (0,0))) (o:J1 w0.heap.size T.a 1 X7 σ w d xs) (A:J1 w0.heap.size T.a 1 X7 σ w a ys)
 (Q: ∀w' σ',Stp w0 σ w' σ'→Sl 1 X7 σ' d xs→Sl 1 X7 σ' a ys→Z2 σ' ⟨b,0,none⟩ [.bool true,d,a]→K undef w'):Z4 P T.f (.pointer (some ⟨b,0,none⟩)) (.agg #[.bool true,d,a]) w K:=by
 have B:Z7 σ w b L6.toList:=⟨M.none p,T.f,by simpa using j⟩
 have O: ∃x y z,d= .slice x y z:=by obtain ⟨c,g,_⟩:=o;rcases g.2 with ⟨rfl,_⟩ | ⟨_,_,_,rfl,_⟩<;>exact ⟨_,_,_,rfl⟩
 have H: ∃x y z,a= .slice x y z:=by obtain ⟨c,g,_⟩:=A;rcases g.2 with ⟨rfl,_⟩ | ⟨_,_,_,rfl,_⟩<;>exact ⟨_,_,_,rfl⟩
 have E: ∀{x:Value} {N:List Q8},J1 w0.heap.size T.a 1 X7 σ w x N→x.ownBlock≠some b:=fun L e=>by
  obtain ⟨J,C⟩:=L.ty e
  rw[j] at C
  cases C
 refine Q1D (ds:=[.bool true,d,a]) B (by simpa using R) rfl (by obtain ⟨_,_,_,rfl⟩:=O;obtain ⟨_,_,_,rfl⟩:=H;simp;exact ⟨rfl,rfl,rfl⟩) fun w1 r n=>?_
 have q:Stp w0 σ w1 σ:=r.stp h.stp p B.1
 exact Q w1 _ q.all ((o.upd r (E o)).all q.sat) ((A.upd r (E A)).all q.sat) (n.all p)
theorem X3d {b:Nat} {d a:Value} {L6:Array Value} (J:X4 w0 σ) (h:Hst w0 σ w σ) (p:w0.heap.size≤b) (N:L6.size=3) (j:w.heap[b]? =some (.cells L6 T.f (0,0))) (o:J1 w0.heap.size T.a 1 X7 σ w d xs) (C:Sl 1 X7 σ a ys)
 (M: ∀w' σ',Stp w0 σ w' σ'→Sl 1 X7 σ' d xs→Sl 1 X7 σ' a ys→Z2 σ' ⟨b,0,none⟩ [.bool true,d,a]→K undef w'):Z4 P T.f (.pointer (some ⟨b,0,none⟩)) (.agg #[.bool true,d,a]) w K:=by
 have r:Z7 σ w b L6.toList:=⟨J.none p,T.f,by simpa using j⟩
 have L: ∃x y z,d= .slice x y z:=by obtain ⟨c,g,_⟩:=o;rcases g.2 with ⟨rfl,_⟩ | ⟨_,_,_,rfl,_⟩<;>exact ⟨_,_,_,rfl⟩
 have E: ∃x y z,a= .slice x y z:=by obtain ⟨_,_,rfl,_⟩:=C;exact ⟨_,_,_,rfl⟩
 refine Q1D (ds:=[.bool true,d,a]) r (by simpa using N) rfl (by obtain ⟨_,_,_,rfl⟩:=L;obtain ⟨_,_,_,rfl⟩:=E;simp;exact ⟨rfl,rfl,rfl⟩) fun w1 B n=>?_
 have q:Stp w0 σ w1 σ:=B.stp h.stp p r.1
 exact M w1 _ q.all ((o.upd B fun e=>by
  obtain ⟨H,A⟩:=o.ty e
  rw[j] at A
  cases A).all q.sat) (C.lift (Q86 q.sat)) (n.all p)
theorem X4P {s:Shp} (h:Q2t s=true):s.stack.length≤40∧s.locals.length≤40:=by
 simp only[Q2t,Bool.and_eq_true,decide_eq_true_eq] at h
 omega
theorem X38 {s:Shp} (h:(Py l m i s).2=0):(Py l m i s).1.stack.length≤24:=by
 obtain ⟨a,d,_,_,_,b,g,_⟩:=X05 h
 unfold Py
 rw[g];exact b
theorem Q8z {xs b:List Q8}: ∀(j:Nat) (y:Q8),xs[j]? =some y→(xs++b)[j]? =some y:=fun j y a=>by
 rw[List.getElem?_append_left (List.getElem?_eq_some_iff.1 a).1];exact a
set_option maxHeartbeats 4000000 in
theorem Q7u {uv:Value} (hs:X4 w σ) (hg:Glb σ) (hm:M3 σ m ms) (hi:G9 σ i is) (hr:W8 σ s ds) (hu:Sl 1 X7 σ uv xs) (h: ∀w' σ',Stp w σ w' σ'→K (.bool true) w'):Q0 P F.c6 [.agg ms.toArray, .agg is.toArray, .agg ds.toArray,uv] w K:=Sk (by
 obtain ⟨pv,cv,hv,rfl,dd⟩:=id hm
 obtain ⟨rfl,az⟩:=id hi
 obtain ⟨a1,a2,rfl,qs,ql⟩:=id hr
 have mu:=hu.max
 have cu:=qs.max
 unfold Js
 refine Z0 hs fun qa w1 σ1 k1 q=>?_
 refine Z0 k1.sat fun qb w2 σ2 k2 o=>?_
 refine Z0 k2.sat fun qc w3 σ3 k3 p=>?_
 have S3:=(k1.trans k2).trans k3
 refine Q6E S3.sat (hg.lift ⟨S3.le⟩) fun a lv w4 σ4 k4 ht hl ok=>?_
 refine Z8 (vs:=[_,_]) rfl ?_
 refine Z8 (vs:=[_,_]) rfl ?_
 have S4:=S3.trans k4
 refine Q6y S4.sat (hg.lift ⟨S4.le⟩) fun w5 σ5 k5=>?_
 have Y:=S4.trans k5
 have q:=(((q.up k2).up k3).up k4).up k5
 have o:=((o.up k3).up k4).up k5
 have p:=(p.up k4).up k5
 have ai:=W8.liftS hr Y
 have ag:=hu.up Y
 have bc:=ht.lift ⟨k5.le⟩
 have no: ∀w6 σ6,Stp w5 σ5 w6 σ6→Q0 P F.ai [] w6 fun t w=>K t w:=fun w6 σ6 k6=>by
  have S6:=Y.trans k6
  exact Q6y S6.sat (hg.lift ⟨S6.le⟩) fun w7 σ7 M=>h _ _ (S6.trans M)
 refine Lm ?_
 rw[Bool.not_true]
 (repeat refine Hd.h ?_)
 refine Z1 Y.sat p rfl ?_
 (repeat refine Hd.h ?_)
 refine X4D Y.sat ai fun w6 b6=>?_
 have M:=Stp.of_below Y.sat b6
 (repeat refine Hd.h ?_)
 cases e1:Q2t s with
 | false=>
  rw[Bool.not_false]
  (repeat refine Hd.h ?_)
  refine J8 ?_
  exact no _ _ M
 | true=>
 rw[Bool.not_true]
 (repeat refine Hd.h ?_)
 refine X0 (ag.up M) ?_
 (repeat refine Hd.h ?_)
 refine Nf ?_
 (repeat refine Hd.h ?_)
 cases e2:decide ((10:Int)<xs.length) with
 | true=>
  (repeat refine Hd.h ?_)
  refine J8 ?_
  exact no _ _ M
 | false=>
 (repeat refine Hd.h ?_)
 refine ld (i:=0) M.sat (o.up M) rfl ?_
 (repeat refine Hd.h ?_)
 refine Q59 M.sat fun w8 σ8 a9=>?_
 have z:=M.trans a9
 (repeat refine Hd.h ?_)
 refine Z3 ?_
 (repeat refine Hd.h ?_)
 cases e3:decide (Lg i.op<0) with
 | true=>
  (repeat refine Hd.h ?_)
  refine J8 ?_
  exact no _ _ z
 | false=>
 (repeat refine Hd.h ?_)
 refine ld (i:=2) z.sat (o.up z) rfl ?_
 (repeat refine Hd.h ?_)
 refine Sm X8 ?_
 (repeat refine Hd.h ?_)
 refine Nf ?_
 (repeat refine Hd.h ?_)
 cases e4:decide ((200:Int)<i.s.length) with
 | true=>
  (repeat refine Hd.h ?_)
  refine J8 ?_
  exact no _ _ z
 | false=>
 (repeat refine Hd.h ?_)
 refine ld (i:=2) z.sat (q.up z) rfl ?_
 (repeat refine Hd.h ?_)
 refine Sm X8 ?_
 (repeat refine Hd.h ?_)
 refine Nf ?_
 (repeat refine Hd.h ?_)
 cases e5:decide ((100:Int)<m.result.length) with
 | true=>
  (repeat refine Hd.h ?_)
  refine J8 ?_
  exact no _ _ z
 | false=>
 (repeat refine Hd.h ?_)
 refine U6 ?_
 clear no
 have g2:xs.length≤10:=by have:=of_decide_eq_false e2;omega
 have g4:i.s.length≤200:=by have:=of_decide_eq_false e4;omega
 have g5:m.result.length≤100:=by have:=of_decide_eq_false e5;omega
 have al:=X1h e1
 have cl:=X4P e1
 have S8:=Y.trans z
 have q:=q.up z
 have o:=o.up z
 have p:=p.up z
 have ak:=W8.liftS ai z
 have W:=ag.up z
 have aj:=bc.lift ⟨z.le⟩
 have an:=RMe_lift hm ⟨S8.le⟩
 have s8:=z.sat
 clear k1 k2 k3 k4 k5 M z a9 S3 S4 Y ai ag bc b6 hl
 refine U3 xs.length (fun k w'=>Below w8.heap.size w8 w') (Below.refl _ _) fun k w9 d E b9=>?_
 have A:=Stp.of_below s8 b9
 refine X0 (W.up A) ?_
 refine Z3 ?_
 refine Q5 (fun Q=>?_) (fun Q=>?_)
 ·have bh:k<xs.length:=by simp at Q;omega
  refine Ex A.sat (W.up A) bh fun j=>?_
  refine Sm X8 ?_
  refine Nf ?_
  refine Q5 (fun Q=>?_) (fun Q=>?_)
  ·exact h _ _ (S8.trans A)
  ·(try simp only[↓M1,M1,Mb,reduceIte])
   exact Y5 mu bh b9
 clear Q E
 refine Z1 A.sat (q.up A) rfl ?_
 refine Z1 A.sat (o.up A) rfl ?_
 refine Z1 A.sat (p.up A) rfl ?_
 refine X22 (s:=s) A.sat (aj.lift ⟨A.le⟩) Q8v ok (RMe_lift an ⟨A.le⟩) ⟨rfl,az⟩ (W8.liftS ak A) al.1 al.2 g4 g5 fun cs wA σA kA Q=>?_
 refine Z8 (vs:=[_,_]) rfl ?_
 refine Z8 (vs:=[_,_]) rfl ?_
 refine Q9R kA.sat Q fun qd wB σB kB H=>?_
 have r:=(A.trans kA).trans kB
 have SB:=S8.trans r
 have sB:=kB.sat
 have q:=q.up r
 have o:=o.up r
 have p:=p.up r
 have ab:=W.up r
 have bf:=qs.up SB
 have a3:=ql.up SB
 have bd:=aj.lift ⟨r.le⟩
 have a5:=RMe_lift an ⟨r.le⟩
 have be:=W8.liftS Q kB
 have a0:=W8.liftS ak r
 clear A kA kB r ak W aj an b9 Q S8 s8
 refine Q6v (fun n=>RowT T.a (Ib wB (n 4)) (xs++s.stack)) (fun w'=>Hst wB σB w' σB) ⟨Stp.of_below sB (Below.refl _ _).drew⟩ (fun n _ _ j rt=>rt.hst sB j fun k E=>E.1) (fun n _ _ rt=>rt.kp.size) ?_
 refine T5 (fun n _ w j=>J5 (dj rfl)) ?_
 refine T5 (fun n _ w j=>J5 (dj rfl)) ?_
 refine Rd (Df wB σB T.a 1 X7 []) (fun n _=>Df.stI sB) (fun n _ w j=>Q1v j.stp [] [] rfl rfl (by simp) (by decide) trivial fun v' w' E ha hf=>⟨.of_below E.bel,j.stp.trans E,ha,hf⟩) ?_
 refine Oy (Hb wB σB T.a xs) (fun n _=>Hb.pre sB Q8z) (fun t n _ w j f=>Q5Q f (ab.up j.stp) rfl (by omega) (by omega)) ?_
 refine T5 (V:=a1) (fun t n _ w j e=>by subst e;exact ld (i:=1) j.sat (p.up j.stp) rfl (dj rfl)) ?_
 refine Oy (Q2x wB σB T.a (xs++s.stack)) (fun n _=>Q2x.st sB) (fun L t2 n _ w j f e=>by subst e;exact Q88 f (bf.up j.stp) rfl (by omega) (by omega)) ?_
 refine Rd (Df wB σB T.a 1 X7 []) (fun n _=>Df.stI sB) (fun n _ w j=>Q1v j.stp [] [] rfl rfl (by simp) (by decide) trivial fun v' w' E ha hf=>⟨.of_below E.bel,j.stp.trans E,ha,hf⟩) ?_
 refine T5 (V:=a2) (fun t n _ w j e=>by subst e;exact ld (i:=2) j.sat (p.up j.stp) rfl (dj rfl)) ?_
 refine Oy (Hb wB σB T.a s.locals) (fun n hA=>Hb.dis sB (hA 4 9 (by decide))) (fun L t2 n _ w j f e=>by subst e;exact Q5Q f (a3.up j.stp) rfl (by omega) (by omega)) ?_
 refine Q2E (fun xs v _=>v= .agg #[.bool true,xs.getD 0 undef,xs.getD 1 undef]) (fun _ _ _ _ _ _ h _=>h) (fun L t2 n _ w j f1 f2=>?_) ?_
 ·refine W0 (cells:= #[.bool true,L,t2]) ?_ (dj rfl)
  obtain ⟨_,c,g,_⟩:=f1
  obtain ⟨_,⟨c2,g2,_⟩,_⟩:=f2
  rcases g.2 with ⟨rfl,_⟩ | ⟨_,_,_,rfl,_⟩<;>rcases g2.2 with ⟨rfl,_⟩ | ⟨_,_,_,rfl,_⟩<;>kernel_rfl
 refine Rd (Q3O wB T.f) (fun n _=>Q3O.st X2q) (fun n _ w j=>X0Z j.sat fun b w' ae bb y=>⟨.of_below bb,b,rfl,Nat.le_trans j.stp.bel.size ae,_,rfl,y⟩) ?_
 rintro _ _ _ _ _ L _ _ t2 _ _ n-wC O rfl rfl- -rfl ⟨kC,A1⟩-rfl ⟨-,A2,-⟩ rfl ⟨b,rfl,R,L6,U,y⟩
 refine X3L sB O R U y A1 A2 fun wD σD N q1 q2 a6=>?_
 have q:=q.up N
 have o:=o.up N
 refine Z1 N.sat q rfl ?_
 refine Z1 N.sat o rfl ?_
 refine Z1 N.sat a6 rfl ?_
 refine X22 (s:=⟨true,xs++s.stack,s.locals⟩) (ds:=[.bool true,L,t2]) N.sat (bd.lift ⟨N.le⟩) Q8v ok (RMe_lift a5 ⟨N.le⟩) ⟨rfl,az⟩ ⟨_,_,rfl,q1,q2⟩ (by rw[List.length_append];omega) al.2 g4 g5 fun cy wE σE kE ap=>?_
 refine Z8 (vs:=[_,_]) rfl ?_
 refine Z8 (vs:=[_,_]) rfl ?_
 refine Q9R kE.sat ap fun qe wF σF kF ca=>?_
 have B:=(N.trans kE).trans kF
 have SF:=SB.trans B
 have sF:=kF.sat
 have o:=(o.up kE).up kF
 have p:=p.up B
 have H:=H.up B
 have bi:=ab.up B
 have b7:=W8.liftS be B
 have C:=W8.liftS ap kF
 have c7:=W8.liftS a0 B
 clear q N kE kF B ab be ap a0 a5 bd bf a3 q1 q2 a6 A1 A2 y U R O kC SB sB
 refine T4 ?_
 by_cases z1:(Py (Q7 Za) m i s).2=0
 case neg=>
  rw[decide_eq_false z1,Bool.not_false]
  refine J8 ?_
  exact h _ _ SF
 rw[decide_eq_true z1,Bool.not_true]
 refine U6 ?_
 obtain ⟨f1,f2⟩:=X45 (u:=xs) z1
 change Py (Q7 Za) m i ⟨true,xs++s.stack,s.locals⟩=(if 24<(Py (Q7 Za) m i s).1.stack.length+xs.length then (Shp.zero,72) else (⟨true,xs++(Py (Q7 Za) m i s).1.stack,(Py (Q7 Za) m i s).1.locals⟩,0)) at f1
 change i.op=Q2V∨(Py (Q7 Za) m i s).1.locals=s.locals at f2
 rw[f1] at C⊢
 clear f1
 have de:=X38 z1
 generalize (Py (Q7 Za) m i s).1=x at*
 obtain ⟨b1,b2,rfl,q1,q2⟩:=id b7
 have m1:=q1.max
 refine J5 ?_
 refine ld (i:=1) sF H rfl ?_
 refine X0 q1 ?_
 refine X0 bi ?_
 refine E5 ?_
 rw[G1 (by omega) (by omega)]
 refine Nf ?_
 by_cases Z:24<x.stack.length+xs.length
 ·rw[decide_eq_true (show (24:Int)<(x.stack.length:Int)+xs.length by omega)]
  rw[if_pos Z]
  refine J8 ?_
  refine Vo ?_
  exact h _ _ SF
 rw[decide_eq_false (show¬(24:Int)<(x.stack.length:Int)+xs.length by omega)]
 rw[if_neg Z] at C⊢
 refine U6 ?_
 refine Q6v (fun n=>RowT T.a (Ib wF (n 4)) (xs++x.stack)) (fun w'=>Hst wF σF w' σF) ⟨Stp.of_below sF (Below.refl _ _).drew⟩ (fun n _ _ j rt=>rt.hst sF j fun k E=>E.1) (fun n _ _ rt=>rt.kp.size) ?_
 refine T5 (fun n _ w j=>J5 (dj rfl)) ?_
 refine T5 (fun n _ w j=>J5 (dj rfl)) ?_
 refine Rd (Df wF σF T.a 1 X7 []) (fun n _=>Df.stI sF) (fun n _ w j=>Q1v j.stp [] [] rfl rfl (by simp) (by decide) trivial fun v' w' E ha hf=>⟨.of_below E.bel,j.stp.trans E,ha,hf⟩) ?_
 refine Oy (Hb wF σF T.a xs) (fun n _=>Hb.pre sF Q8z) (fun t n _ w j f=>Q5Q f (bi.up j.stp) rfl (by omega) (by omega)) ?_
 refine T5 (V:=b1) (fun t n _ w j e=>by subst e;exact ld (i:=1) j.sat (H.up j.stp) rfl (dj rfl)) ?_
 refine Oy (Q2x wF σF T.a (xs++x.stack)) (fun n _=>Q2x.st sF) (fun L t2 n _ w j f e=>by subst e;exact Q88 f (q1.up j.stp) rfl (by omega) (by omega)) ?_
 refine T5 (V:=b2) (fun t n _ w j e=>by subst e;exact ld (i:=2) j.sat (H.up j.stp) rfl (dj rfl)) ?_
 refine Q2E (fun xs v _=>v= .agg #[.bool true,xs.getD 0 undef,xs.getD 1 undef]) (fun _ _ _ _ _ _ h _=>h) (fun L t2 n _ w j f1 f2=>?_) ?_
 ·subst f2
  refine W0 (cells:= #[.bool true,L,b2]) ?_ (dj rfl)
  obtain ⟨_,c,g,_⟩:=f1
  obtain ⟨_,_,rfl,_⟩:=q2
  rcases g.2 with ⟨rfl,_⟩ | ⟨_,_,_,rfl,_⟩<;>kernel_rfl
 refine Rd (Q3O wF T.f) (fun n _=>Q3O.st X2q) (fun n _ w j=>X0Z j.sat fun b w' ae bb y=>⟨.of_below bb,b,rfl,Nat.le_trans j.stp.bel.size ae,_,rfl,y⟩) ?_
 rintro _ _ _ _ _ L _ _ _ n-wC O rfl rfl- -rfl ⟨kC,A1⟩ rfl rfl ⟨b,rfl,R,L6,U,y⟩
 refine X3d sF O R U y A1 q2 fun wG σG X p1 p2 b8=>?_
 have n2:=Q8s C
 have SG:=SF.trans X
 refine T4 ?_
 rw[decide_eq_true rfl,Bool.not_true]
 (repeat refine Hd.h ?_)
 refine Z1 X.sat (ca.up X) n2 ?_
 (repeat refine Hd.h ?_)
 refine Z1 X.sat b8 rfl ?_
 (repeat refine Hd.h ?_)
 refine Bf (a:=⟨true,xs++x.stack,x.locals⟩) (b:=⟨true,xs++x.stack,x.locals⟩) (es:=[.bool true,L,b2]) X.sat (W8.liftS C X) ⟨_,_,rfl,p1,p2⟩ fun wH bH=>?_
 have J:=X.trans (Stp.of_below X.sat bH)
 rw[decide_eq_true rfl]
 (repeat refine Hd.h ?_)
 refine U6 ?_
 refine J5 ?_
 refine ld (i:=0) J.sat (o.up J) rfl ?_
 refine Ni ?_
 cases e6:decide (i.op=[115,116,111,114,101]) with
 | true=>
  (repeat refine Hd.h ?_)
  exact h _ _ (SF.trans J)
 | false=>
 (repeat refine Hd.h ?_)
 have f3:x.locals=s.locals:=f2.resolve_left (of_decide_eq_false e6)
 refine ld (i:=2) J.sat (H.up J) rfl ?_
 (repeat refine Hd.h ?_)
 refine W0 (cells:= #[.bool false, .slice none 0 0,b2]) (by obtain ⟨_,_,rfl,_⟩:=q2;kernel_rfl) ?_
 (repeat refine Hd.h ?_)
 refine ld (i:=2) J.sat (p.up J) rfl ?_
 (repeat refine Hd.h ?_)
 refine W0 (cells:= #[.bool false, .slice none 0 0,a2]) (by obtain ⟨_,_,rfl,_⟩:=ql;kernel_rfl) ?_
 (repeat refine Hd.h ?_)
 refine Bf (a:=⟨false,[],x.locals⟩) (b:=⟨false,[],s.locals⟩) (ds:=[.bool false, .slice none 0 0,b2]) (es:=[.bool false, .slice none 0 0,a2]) J.sat ⟨_,_,rfl,Sl.nil,q2.up J⟩ ⟨_,_,rfl,Sl.nil,ql.up (SF.trans J)⟩ fun wI bI=>?_
 rw[f3,decide_eq_true rfl]
 (repeat refine Hd.h ?_)
 exact h _ _ (SF.trans (J.trans (Stp.of_below J.sat bI))))
end Go.Proofs.YtfppjenblllfaaaGreatDoor

namespace Go.Proofs.YtfppjenblllfaaaGreatDoor.stepBelow
open Go.ChangeShapes Go.WideShapes Go.ChangeAt Go.RowKit
open Go.Emb
theorem own : ownKnob Tryz.prog.godebug = none := by kernel_rfl
theorem lay : laidOutB Tryz.prog = true := by kernel_rfl
set_option maxRecDepth 100000 in
theorem X4G (os : Os) (started : os.Started) (H : Type) (enc : TypeId × Value → H) :
    ReturnsInHanded {} Tryz.checked os 6 .any (fun w args => (Rows.stepBelowSpec.pre enc Tryz.prog Tryz.f6 [] false w args ∧ laidMetH Tryz.prog laidAll w) ∧ sizedMet enc Tryz.prog Tryz.f6 (OpenSpec.ofChange Rows.stepBelowSpec) false w args) (Rows.stepBelowSpec.post enc Tryz.prog Tryz.f6 false true false false) := by
  refine returnsInHanded_of_change_and (C := Tryz.checked) (X := fun w _ => laidMetH Tryz.prog laidAll w) (fun _ _ _ hh h => h.of_heap hh) own started (by kernel_rfl) Tryz.func6
    (ChangeSpec.witness_shaped (enc := enc) (C := Tryz.checked) (os := os) (X := fun w _ => laidMetH Tryz.prog laidAll w) false (World.laidAll Tryz.prog os laidAll) #[.agg #[.string ByteArray.empty, .slice none 0 0, .string ByteArray.empty, .bool false, .int .i64 0, .slice none 0 0, .slice none 0 0], .agg #[.string ByteArray.empty, .int .i64 0, .string ByteArray.empty], .agg #[.bool false, .slice none 0 0, .slice none 0 0], .slice none 0 0] 8 (World.laidAll_os _ _ _)
      (World.shaped_of_ZipB (by kernel_rfl) (by kernel_rfl)) (by kernel_rfl) (by kernel_rfl) (by kernel_rfl) (by rw [MakeChecks.laidMetH_plain _ _ _ (by kernel_rfl)]; exact laidMet_laidAll _ (by kernel_rfl) (by kernel_rfl))) ?_
  intro W base args ds gs before hval0 hW _ hsz0 hL _
  have hsz : (DataW.weightsEach Tryz.prog (Tryz.f6.params.toList ++ Rows.stepBelowSpec.plain.varTypes Tryz.prog) (ds ++ gs)).all (· ≤ reachBytes) = true := hsz0
  have hval : ∀ (j : Nat) t v, Tryz.f6.params[j]? = some t → args[j]? = some v → Value.okWide Tryz.prog W .any base t v := hval0
  have hW' := hW
  obtain ⟨p, q, hA0, hV, rfl, hfz, hnd⟩ := hW
  have hA : DataW.TrodAll enc Tryz.prog W 0 (fun _ => true) true Tryz.f6.params.toList args.toList ds p := hA0
  have hlt := DataW.TrodAll.lt hA
  rw [Tryz.params6] at hA hval hsz
  obtain ⟨v0, vs0, d0, ds0, p0, q0, hargs, rfl, rfl, h0, r0⟩ := trodAll_cons hA
  obtain ⟨v1, vs1, d1, ds1, p1, q1, rfl, rfl, rfl, h1, r1⟩ := trodAll_cons r0
  obtain ⟨v2, vs2, d2, ds2, p2, q2, rfl, rfl, rfl, h2, r2⟩ := trodAll_cons r1
  obtain ⟨v3, vs3, d3, ds3, p3, q3, rfl, rfl, rfl, h3, r3⟩ := trodAll_cons r2
  obtain ⟨rfl, rfl, rfl⟩ := trodAll_nil r3
  obtain rfl : args = #[v0, v1, v2, v3] := by cases args; simp_all
  obtain ⟨rfl, rfl⟩ := trodVars_none hV
  have g0 : ∀ x ∈ p0, x.block < W.heap.size := fun x hx => hlt x (by simp [hx])
  have k0 := fun (W' : World) (bel : Below W.heap.size W W') => Below.trod lay (by kernel_rfl) (of_decide_eq_true (by kernel_rfl)) h0 bel g0
  obtain ⟨y0, c0, rfl, e0⟩ := X3W (hval 0 40 v0 rfl rfl) h0 (Q3m hsz (j := 0) (t := 40) rfl rfl)
  have g1 : ∀ x ∈ p1, x.block < W.heap.size := fun x hx => hlt x (by simp [hx])
  have k1 := fun (W' : World) (bel : Below W.heap.size W W') => Below.trod lay (by kernel_rfl) (of_decide_eq_true (by kernel_rfl)) h1 bel g1
  obtain ⟨y1, c1, rfl, e1⟩ := X3S (hval 1 42 v1 rfl rfl) h1 (Q3m hsz (j := 1) (t := 42) rfl rfl)
  have g2 : ∀ x ∈ p2, x.block < W.heap.size := fun x hx => hlt x (by simp [hx])
  have k2 := fun (W' : World) (bel : Below W.heap.size W W') => Below.trod lay (by kernel_rfl) (of_decide_eq_true (by kernel_rfl)) h2 bel g2
  obtain ⟨y2, c2, rfl, e2⟩ := X4i (hval 2 24 v2 rfl rfl) h2 (Q3m hsz (j := 2) (t := 24) rfl rfl)
  have g3 : ∀ x ∈ p3, x.block < W.heap.size := fun x hx => hlt x (by simp [hx])
  have k3 := fun (W' : World) (bel : Below W.heap.size W W') => Below.trod lay (by kernel_rfl) (of_decide_eq_true (by kernel_rfl)) h3 bel g3
  obtain ⟨l3, e3⟩ := X3o (hval 3 22 v3 rfl rfl) h3 (Q3m hsz (j := 3) (t := 22) rfl rfl)
  have hc : Q0 Tryz.prog 6 [.agg (List.toArray c0), .agg (List.toArray c1), .agg (List.toArray c2), v3] W (fun e w' => e = .bool true ∧ Below W.heap.size W w') := Q7u Q9S (X4t hL) e0 e1 e2 e3 (fun w' σ' hb => ⟨rfl, hb.bel⟩)
  refine (Q4f Tryz.func6 (by kernel_rfl) (by kernel_rfl) hc).mono fun e W' he => ?_
  obtain ⟨v, rfl⟩ : ∃ v, e = .returned v := by cases e <;> first | exact ⟨_, rfl⟩ | exact he.elim
  obtain ⟨rfl, bel⟩ := he
  exact ⟨_, rfl, _, _, _, [], _, [], hW', trodAll_mk1 (shut_bool Tryz.underlying4 _), (trodAll_cons_mk (k0 W' bel) (trodAll_cons_mk (k1 W' bel) (trodAll_cons_mk (k2 W' bel) (trodAll_cons_mk (k3 W' bel) trodAll_mk0)))), rfl, bel.frame _, fun h => by cases h⟩
theorem over : Rows.stepBelowRow.holds Tryz.pinned (OpenSpec.ofChange Rows.stepBelowSpec) :=
  OpenClaim.holds_of_wide 6 Tryz.f6 rfl rfl rfl rfl rfl rfl rfl ⟨rfl, rfl, rfl, rfl, rfl⟩ rfl rfl rfl rfl rfl (by kernel_rfl) Tryz.func6 (by kernel_rfl)
    (of_decide_eq_true (by kernel_rfl)) (by unfold Func.isWrapper; first | (rw [if_pos (by decide +kernel)]; kernel_rfl) | (rw [if_neg (by decide +kernel)]; exact ⟨rfl, rfl⟩))
    (fun os started H enc _ => X4G os started H enc)
end Go.Proofs.YtfppjenblllfaaaGreatDoor.stepBelow
namespace Go.Proofs.YtfppjenblllfaaaGreatDoor
theorem Q33 : Rows.StepBelowSaid := stepBelow.over
end Go.Proofs.YtfppjenblllfaaaGreatDoor
