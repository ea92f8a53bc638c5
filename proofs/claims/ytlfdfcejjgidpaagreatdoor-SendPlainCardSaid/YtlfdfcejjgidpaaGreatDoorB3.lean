/- Parts of a proof about the given program: its functions as texts of their own, what each computes, plain laws of that. The conditions of each stand in its statement. -/
import Derived.Test.YtlfdfcejjgidpaaGreatDoorB2
import Derived.Laws.OwnMore
import Derived.Laws.CopyRow
import Derived.Laws.StructEq
import Derived.Test.YtlfdfcejjgidpaaGreatDoorB1
set_option linter.unnecessarySimpa false
set_option linter.defProp false
set_option linter.unusedSectionVars false
set_option linter.unusedVariables false
set_option linter.unusedSimpArgs false
namespace Go.Hm
open Go.Kd
theorem L5 {l:List Cla} {n:Q8} {c:Cla} (h:lk l n=some c):c.name=n/\c∈l/\ ∃i,Z7 l n=some i/\l[i]? =some c:=by
 unfold lk at h;cases a:Z7 l n with
 | none=>rw[a] at h;cases h
 | some i=>
  rw[a] at h;obtain ⟨b,e,_⟩:=List.findIdx?_eq_some_iff_getElem.1 a;have d:l[i]? =some c:=h;rw[List.getElem?_eq_getElem b] at d;cases d;exact ⟨by simpa using e,List.getElem_mem b,i,rfl,List.getElem?_eq_getElem b⟩
theorem Vu {l:List Cla} {n:Q8} {i:Nat} (h:Z7 l n=some i): ∃c,lk l n=some c/\l[i]? =some c/\c.name=n:=by
 obtain ⟨a,b,_⟩:=List.findIdx?_eq_some_iff_getElem.1 h;refine ⟨l[i],?_,List.getElem?_eq_getElem a,by simpa using b⟩
 unfold lk;rw[h];simp[a]
theorem Q5i {l:List Cla} {n:Q8}:Q3A l n=(lk l n).isSome:=by
 unfold Q3A;cases a:Z7 l n with
 | none=>simp[lk,a]
 | some i=>obtain ⟨c,h,_⟩:=Vu a;simp[h]
theorem X1L {l:List Cla} {c:Cla} (h:c∈l): ∃d,lk l c.name=some d:=by
 cases a:Z7 l c.name with
 | none=>
  have:=List.findIdx?_eq_none_iff.1 a c h
  simp at this
 | some i=>obtain ⟨d,h,_⟩:=Vu a;exact ⟨d,h⟩
inductive Reach (L : Wm) : Q8 -> Q8 -> Prop
  | refl {a : Q8} {c : Cla} : L a = some c -> Reach L a a
  | step {a u b : Q8} {c : Cla} : L a = some c -> u ∈ V8 c -> Reach L u b -> Reach L a b
theorem Reach.trans {L:Wm} {a b d:Q8} (h:Reach L a b) (k:Reach L b d):Reach L a d:=by
 induction h with
 | refl _=>exact k
 | step c e _ f=>exact .step c e (f k)
theorem Reach.right {L:Wm} {a b:Q8} (h:Reach L a b): ∃c,L b=some c:=by
 induction h with
 | refl h=>exact ⟨_,h⟩
 | step _ _ _ d=>exact d
theorem Reach.left {L:Wm} {a b:Q8} (h:Reach L a b): ∃c,L a=some c:=by
 cases h with
 | refl h=>exact ⟨_,h⟩
 | step h _ _=>exact ⟨_,h⟩
theorem Q2f (L:Wm): ∀(f:Nat) (a b:List Q8),∃r,Wc L f a b=b++r:=by
 intro f
 induction f with
 | zero=>intro a b;exact ⟨[],by simp[Wc]⟩
 | succ f c=>
  intro a b;cases a with
  | nil=>exact ⟨[],by simp[Wc]⟩
  | cons n a=>
   simp only[Wc]
   split
   .exact c _ _
   .split
    .exact c _ _
    .obtain ⟨r,d⟩:=c (a++V8 ‹_›) (b++[n])
     exact ⟨n::r,by rw[d];simp⟩
theorem X1b (L:Wm): ∀(f:Nat) (a b:List Q8) (x:Q8),x∈Wc L f a b->x∈b\/ ∃t∈a,Reach L t x:=by
 intro f
 induction f with
 | zero=>intro a b x h;exact .inl h
 | succ f d=>
  intro a b x h;cases a with
  | nil=>exact .inl h
  | cons n a=>
   simp only[Wc] at h
   split at h
   .rcases d _ _ _ h with h | ⟨t,ht,h⟩
    .exact .inl h
    .exact .inr ⟨t,by simp[ht],h⟩
   .rename_i c e
    split at h
    .rcases d _ _ _ h with h | ⟨t,ht,h⟩
     .exact .inl h
     .exact .inr ⟨t,by simp[ht],h⟩
    .rcases d _ _ _ h with h | ⟨t,ht,h⟩
     .rcases List.mem_append.1 h with h | h
      .exact .inl h
      .simp at h;subst h;exact .inr ⟨x,by simp, .refl e⟩
     .rcases List.mem_append.1 ht with ht | ht
      .exact .inr ⟨t,by simp[ht],h⟩
      .exact .inr ⟨n,by simp, .step e ht h⟩
theorem X3u (l:List Cla) (a b:List Q8) (h: ∀x∈a,x∈b):weigh l b<=weigh l a:=by
 unfold weigh
 induction l with
 | nil=>simp
 | cons c r e=>
  simp only[List.map_cons,List.sum_cons]
  by_cases d:c.name∈a
  .rw[if_pos d,if_pos (h _ d)];omega
  .rw[if_neg d];split<;>omega
theorem Q08 (l:List Cla) (a:List Q8) (c:Cla) (hc:c∈l) (f:c.name∉a):weigh l (a++[c.name])+(V8 c).length<=weigh l a:=by
 unfold weigh
 induction l with
 | nil=>simp at hc
 | cons d r h=>
  simp only[List.map_cons,List.sum_cons];have e:weigh r (a++[c.name])<=weigh r a:=X3u _ _ _ (by simp;intro x g;exact .inl g)
  unfold weigh at e
  rcases List.mem_cons.1 hc with rfl | hc
  .rw[if_pos (by simp),if_neg f];omega
  .have:=h hc
   by_cases b:d.name∈a
   .rw[if_pos (by simp[b]),if_pos b];omega
   .rw[if_neg b];split<;>omega
theorem X2p (l:List Cla): ∀(f:Nat) (a b:List Q8),a.length+weigh l b<=f->
 (∀x∈b,∀c,lk l x=some c-> ∀u∈V8 c,∀d,lk l u=some d->u∈b\/u∈a)->
 (∀t∈a,∀d,lk l t=some d->t∈Wc (lk l) f a b)/\ ∀x∈Wc (lk l) f a b,∀c,lk l x=some c-> ∀u∈V8 c,∀d,lk l u=some d->u∈Wc (lk l) f a b:=by
 intro f
 induction f with
 | zero=>
  intro a b w o;have:a=[]:=List.eq_nil_of_length_eq_zero (by omega)
  subst this;refine ⟨by simp,fun x hx c i u j d g=>?_⟩
  rcases o x hx c i u j d g with h | h
  .exact h
  .simp at h
 | succ f v=>
  intro a b w o;cases a with
  | nil=>
   refine ⟨by simp,fun x hx c i u j d g=>?_⟩
   rcases o x hx c i u j d g with h | h
   .exact h
   .simp at h
  | cons n a=>
   simp only[List.length_cons] at w;simp only[Wc]
   split
   .rename_i y
    obtain ⟨p,q⟩:=v a b (by omega) (fun x hx c i u j d g=>by
     rcases o x hx c i u j d g with h | h
     .exact .inl h
     .rcases List.mem_cons.1 h with rfl | h
      .rw[y] at g;cases g
      .exact .inr h)
    refine ⟨fun t ht d g=>?_,q⟩
    rcases List.mem_cons.1 ht with rfl | ht
    .rw[y] at g;cases g
    .exact p t ht d g
   .rename_i c i
    split
    .rename_i k
     obtain ⟨r,s⟩:=Q2f (lk l) f a b
     obtain ⟨p,q⟩:=v a b (by omega) (fun x hx c i u j d g=>by
      rcases o x hx c i u j d g with h | h
      .exact .inl h
      .rcases List.mem_cons.1 h with rfl | h
       .exact .inl k
       .exact .inr h)
     refine ⟨fun t ht d g=>?_,q⟩
     rcases List.mem_cons.1 ht with rfl | ht
     .rw[s];simp[k]
     .exact p t ht d g
    .rename_i k
     obtain ⟨e,A,_⟩:=L5 i;have B:=Q08 l b c A (by rw[e];exact k)
     rw[e] at B
     obtain ⟨p,q⟩:=v (a++V8 c) (b++[n]) (by rw[List.length_append];omega) (fun x hx z m u j d g=>by
      rcases List.mem_append.1 hx with hx | hx
      .rcases o x hx z m u j d g with h | h
       .exact .inl (by simp[h])
       .rcases List.mem_cons.1 h with rfl | h
        .exact .inl (by simp)
        .exact .inr (by simp[h])
      .simp at hx;subst hx
       rw[i] at m;cases m;exact .inr (by simp[j]))
     refine ⟨fun t ht d g=>?_,q⟩
     rcases List.mem_cons.1 ht with rfl | ht
     .obtain ⟨r,s⟩:=Q2f (lk l) f (a++V8 c) (b++[t])
      rw[s];simp
     .exact p t (by simp[ht]) d g
theorem Wa {l:List Cla} {a b:Q8}:b∈K8 l a↔Reach (lk l) a b:=by
 obtain ⟨g,i⟩:=X2p l (1+weigh l []) [a] [] (by simp) (by simp)
 constructor
 .intro h
  rcases X1b _ _ _ _ _ h with h | ⟨t,e,f⟩
  .simp at h
  .simp at e;subst e;exact f
 .intro h
  have key: ∀{x y:Q8},Reach (lk l) x y->x∈K8 l a->y∈K8 l a:=by
   intro x y h
   induction h with
   | refl _=>exact id
   | step j m k o=>
    intro n;obtain ⟨d,c⟩:=k.left;exact o (i _ n _ j _ m _ c)
  obtain ⟨d,c⟩:=h.left;exact key h (g a (by simp) d c)
theorem X2q (l:List Cla): ∀(f:Nat) (a b:List Q8),a.length+weigh l b<=f-> ∀k,Wc (lk l) (f+k) a b=Wc (lk l) f a b:=by
 intro f
 induction f with
 | zero=>
  intro a b h k;have:a=[]:=List.eq_nil_of_length_eq_zero (by omega)
  subst this;cases k<;>rfl
 | succ f g=>
  intro a b h k;cases a with
  | nil=>rw[Nat.succ_add];rfl
  | cons n a=>
   simp only[List.length_cons] at h;rw[Nat.succ_add];simp only[Wc]
   split
   .exact g _ _ (by omega) k
   .rename_i c i
    split
    .exact g _ _ (by omega) k
    .rename_i d
     obtain ⟨e,j,_⟩:=L5 i;have m:=Q08 l b c j (by rw[e];exact d)
     rw[e] at m;exact g _ _ (by rw[List.length_append];omega) k
def Ls (L:Wm) (a b:Q8):Prop:= ∃c,L a=some c/\ ∃u∈V8 c,Reach L u b
def Zc (l:List Cla):Prop:= ∀a,¬Ls (lk l) a a
theorem Ls.reach {L:Wm} {a b:Q8} (h:Ls L a b):Reach L a b:=by
 obtain ⟨c,d,u,f,e⟩:=h;exact .step d f e
theorem Ls.trans {L:Wm} {a b d:Q8} (h:Ls L a b) (k:Reach L b d):Ls L a d:=by
 obtain ⟨c,e,u,g,f⟩:=h;exact ⟨c,e,u,g,f.trans k⟩
theorem Q6h {L:Wm} {a b:Q8}:Reach L a b↔(a=b/\(∃c,L a=some c))\/Ls L a b:=by
 constructor
 .intro h
  cases h with
  | refl h=>exact .inl ⟨rfl,_,h⟩
  | step d e f=>exact .inr ⟨_,d,_,e,f⟩
 .rintro (⟨rfl,c,h⟩ | h)
  .exact .refl h
  .exact h.reach
def Vx (l:List Cla) (a b:Q8):Bool:=match lk l a with
 | none=>false
 | some c=>(V8 c).any fun u=>(K8 l u).contains b
theorem Mv {l:List Cla} {a b:Q8}:Vx l a b=true↔Ls (lk l) a b:=by
 unfold Vx Ls;cases h:lk l a with
 | none=>simp
 | some c=>
  simp only[List.any_eq_true,List.contains_iff_mem,Wa];constructor
  .rintro ⟨u,e,d⟩;exact ⟨c,rfl,u,e,d⟩
  .rintro ⟨_,⟨⟩,u,e,d⟩;exact ⟨u,e,d⟩
def K2 (l:List Cla) (n:Q8):Nat:=l.countP fun m=>Vx l n m.name
theorem Kq (l:List Cla) (n:Q8):K2 l n<=l.length:=List.countP_le_length
theorem Q5P {α:Type} {p q:α->Bool}: ∀{l:List α},(∀x∈l,p x=true->q x=true)->(∃x∈l,q x=true/\p x=false)->l.countP p<l.countP q:=by
 intro l
 induction l with
 | nil=>rintro _ ⟨x,hx,_⟩;simp at hx
 | cons a r g=>
  rintro h ⟨x,hx,d,c⟩;have f:r.countP p<=r.countP q:=List.countP_mono_left fun x hx=>h x (by simp[hx])
  rw[List.countP_cons,List.countP_cons]
  rcases List.mem_cons.1 hx with rfl | hx
  .rw[d,c];simp;omega
  .have:=g (fun x hx=>h x (by simp[hx])) ⟨x,hx,d,c⟩
   have e:=h a (by simp)
   cases b:p a
   .simp;split<;>omega
   .rw[e b];simp;omega
theorem X4S {l:List Cla} (f:Zc l) {a b:Q8} (h:Ls (lk l) a b):K2 l b<K2 l a:=by
 unfold K2;refine Q5P (fun x _ j=>?_) ?_
 .rw[Mv] at*
  exact h.trans j.reach
 .obtain ⟨d,g⟩:=(Reach.right (h.reach))
  obtain ⟨e,i,_⟩:=L5 g;refine ⟨d,i,?_,?_⟩
  .rw[Mv,e];exact h
  .cases c:Vx l b d.name with
   | false=>rfl
   | true=>rw[Mv,e] at c;exact absurd c (f b)
theorem Qw {l:List Cla} (b:Zc l) {a u:Q8} {c d:Cla} (e:lk l a=some c) (g:u∈V8 c) (f:lk l u=some d):K2 l u<K2 l a:=
 X4S b ⟨c,e,u,g, .refl f⟩
theorem Q8y {l:List Cla} (b:Zc l): ∀(f g:Nat) (n:Q8),K2 l n<f->K2 l n<g->K6 (lk l) f n=K6 (lk l) g n:=by
 intro f
 induction f with
 | zero=>intro g n h;omega
 | succ f i=>
  intro g n j k;obtain ⟨g,rfl⟩: ∃m,g=m+1:=⟨g-1,by omega⟩
  simp only[K6];cases e:lk l n with
  | none=>rfl
  | some c=>
   simp only
   congr 1
   cases a:lk l c.super with
   | none=>cases f<;>cases g<;>simp[K6,a]
   | some d=>
    have:=Qw b e (by simp[V8]) a
    exact i g c.super (by omega) (by omega)
theorem Cb {l:List Cla} (a:Zc l) (n:Q8):chain l n=match lk l n with | none=>[] | some c=>c::chain l c.super:=by
 have:=Kq l n;unfold chain;rw[K6];cases e:lk l n with
 | none=>rfl
 | some c=>
  simp only
  congr 1
  cases b:lk l c.super with
  | none=>cases l.length<;>simp[K6,b]
  | some d=>
   have:=Qw a e (by simp[V8]) b
   exact Q8y a _ _ _ (by omega) (by omega)
theorem Nd {l:List Cla} {n:Q8} (h:lk l n=none):chain l n=[]:=by simp[chain,K6,h]
theorem Es {α β:Type} {f g:α->Option β}: ∀{l:List α},(∀x∈l,f x=g x)->l.findSome? f=l.findSome? g
 | [],_=>rfl
 | a::r,h=>by
  rw[List.findSome?_cons,List.findSome?_cons,h a (by simp),Es fun x b=>h x (by simp[b])]
theorem Q8P {l:List Cla} (b:Zc l) (n:Q8): ∀(f g:Nat) (c:Cla),lk l c.name=some c->K2 l c.name<f->K2 l c.name<g->Cn (lk l) f c n=Cn (lk l) g c n:=by
 intro f
 induction f with
 | zero=>intro g c _ h;omega
 | succ f k=>
  intro g c i o p;obtain ⟨g,rfl⟩: ∃m,g=m+1:=⟨g-1,by omega⟩
  simp only[Cn];refine Es fun u j=>?_;cases a:lk l u with
  | none=>rfl
  | some d=>
   simp only;cases G2 d n with
   | some m=>rfl
   | none=>
    simp only;have:=Qw b i (by simp[V8,j]) a
    have e:=(L5 a).1;exact k g d (by rw[e];exact a) (by rw[e];omega) (by rw[e];omega)
def W6 (l:List Cla) (c:Cla) (n:Q8):Option (Q8×Hm.Met):=Cn (lk l) (l.length+1) c n
theorem Q63 {l:List Cla} (b:Zc l) {c:Cla} (f:lk l c.name=some c) (n:Q8):W6 l c n=c.like.findSome? fun u=>match lk l u with
 | none=>none
 | some d=>match G2 d n with
  | some m=>some (u,m)
  | none=>W6 l d n:=by
 have:=Kq l c.name;unfold W6;rw[Cn];refine Es fun u g=>?_;cases a:lk l u with
 | none=>rfl
 | some d=>
  simp only;cases G2 d n with
  | some m=>rfl
  | none=>
   have:=Qw b f (by simp[V8,g]) a
   have e:=(L5 a).1;exact Q8P b n _ _ d (by rw[e];exact a) (by rw[e];omega) (by rw[e];omega)
theorem Q8U {l:List Cla} (b:Zc l): ∀(f g:Nat) (n:Q8),K2 l n<f->K2 l n<g->T3 (lk l) f n=T3 (lk l) g n:=by
 intro f
 induction f with
 | zero=>intro g n h;omega
 | succ f i=>
  intro g n j k;obtain ⟨g,rfl⟩: ∃m,g=m+1:=⟨g-1,by omega⟩
  simp only[T3];cases e:lk l n with
  | none=>rfl
  | some c=>
   simp only
   have:T3 (lk l) f c.super=T3 (lk l) g c.super:=by
    cases a:lk l c.super with
    | none=>cases f<;>cases g<;>simp[T3,a]
    | some d=>
     have:=Qw b e (by simp[V8]) a
     exact i g c.super (by omega) (by omega)
   rw[this]
theorem X1W {l:List Cla} (a:Zc l) (n:Q8):E7 l n=match lk l n with
 | none=>[]
 | some c=>if n=L8 then [] else n++[40]++E7 l c.super++[41]++c.fields.flatMap Qc++[46]:=by
 have:=Kq l n;unfold E7;rw[T3];cases e:lk l n with
 | none=>rfl
 | some c=>
  simp only
  have:T3 (lk l) l.length c.super=T3 (lk l) (l.length+1) c.super:=by
   cases b:lk l c.super with
   | none=>cases l.length<;>simp[T3,b]
   | some d=>
    have:=Qw a e (by simp[V8]) b
    exact Q8U a _ _ _ (by omega) (by omega)
  rw[this]
theorem Q3d {l:List Cla} {n:Q8} (h:lk l n=none):E7 l n=[]:=by simp[E7,T3,h]
def A9 (l:List Cla):Prop:=(l.map (·.name)).Nodup
theorem A9.lk {l:List Cla} (h:A9 l) {c:Cla} (f:c∈l):Go.Hm.lk l c.name=some c:=by
 obtain ⟨d,g⟩:=X1L f;obtain ⟨e,p,i,o,a⟩:=L5 g;obtain ⟨j,n,rfl⟩:=List.getElem_of_mem f;obtain ⟨b,k⟩:=List.getElem?_eq_some_iff.1 a
 have:i=j:=by
  have m:(l.map (·.name))[i]'(by simpa using b)=(l.map (·.name))[j]'(by simpa using n):=by simp[k,e]
  exact (List.getElem_inj h).1 m
 subst this;rw[g,<-k]
theorem A9.find {l:List Cla} (h:A9 l) {i:Nat} {c:Cla} (f:l[i]? =some c):Z7 l c.name=some i:=by
 obtain ⟨b,rfl⟩:=List.getElem?_eq_some_iff.1 f;have:=h.lk (List.getElem_mem b);obtain ⟨e,n,j,m,g⟩:=L5 this;obtain ⟨a,k⟩:=List.getElem?_eq_some_iff.1 g
 have:j=i:=by
  have d:(l.map (·.name))[j]'(by simpa using a)=(l.map (·.name))[i]'(by simpa using b):=by simp[k]
  exact (List.getElem_inj h).1 d
 rw[m,this]
end Go.Hm
namespace Go.Emb
open Go.RowKit Go.Hm
variable {w w1 w' : World} {σ σ1 σ2 σ' : Q2}
theorem Stp.join (c:Stp w σ w' σ1) (d:Stp w σ w' σ2): ∃f,Stp w σ w' f/\SLe σ1 f/\SLe σ2 f:=by
 have h: ∀b o,σ1 b=some o->(fun b=>(σ1 b).or (σ2 b)) b=some o:=fun b o e=>by simp[e]
 have j: ∀b o,σ2 b=some o->(fun b=>(σ1 b).or (σ2 b)) b=some o:=by
  intro b o e;cases a:σ1 b with
  | none=>simp[a,e]
  | some p=>
   have i:=c.sat b p a;have g:=d.sat b o e;rw[i] at g;cases g;simp only[a,Option.some_or]
 refine ⟨fun b=>(σ1 b).or (σ2 b),⟨c.bel,?_,fun b o e=>h b o (c.le b o e),?_⟩,⟨h⟩,⟨j⟩⟩
 .intro b o e
  cases a:σ1 b with
  | none=>simp only[a,Option.none_or] at e;exact d.sat b o e
  | some p=>simp only[a,Option.some_or] at e;cases e;exact c.sat b _ a
 .intro b a
  simp only[c.old b a,d.old b a];cases σ b<;>rfl
theorem Hi {Φ:Q2->Value->Prop} {A a:(Value->World->Prop)->Prop} (h:A (fun v w'=> ∃σ',Stp w σ w' σ'/\Φ σ' v)) (e:a (fun v w'=> ∃σ',Stp w σ w' σ'/\Φ σ' v)):J8 (fun w w'=>Below w.heap.size w w') A a:=
 H4 _ (fun _ _ _ ⟨σ',b,c⟩ d=>⟨σ',b.trans (Stp.of_below b.sat d),c⟩) h e
theorem Pj {Φ:Q2->Value->Prop} {v:Value} (a:Hst w σ w1 σ) (h:Stp w1 σ w' σ') (b:Φ σ' v):dk (fun w w'=>Below w.heap.size w w') (fun v w'=> ∃σ',Stp w σ w' σ'/\Φ σ' v) w1 v w':=
 ⟨h.bel,σ',a.stp.trans h,b⟩
theorem E6.mk {m:Hm.Met} {pv a b:Value} (c:Sl 1 V3 σ pv m.params) (d:Sl 3 Qx σ a m.code) (e:Sl 4 Uh σ b m.catches) (f:m.name.length<=U9) (g:m.result.length<=U9) (h:P0 m.locals):E6 σ m [S m.name,pv,S m.result, .bool m.abs,I m.locals,a,b]:=
 ⟨pv,a,b,rfl,c,d,e,f,g,h⟩
theorem W8.mk {c:Cla} {b a mv:Value} (d:Sl 1 V3 σ b c.like) (e:Sl 3 C5 σ a c.fields) (f:Sl 7 E6 σ mv c.methods) (g:c.name.length<=U9) (h:c.super.length<=U9):W8 σ c [S c.name,S c.super,b, .bool c.iface, .bool c.abs, .bool c.fin,a,mv]:=
 ⟨b,a,mv,rfl,d,e,f,g,h⟩
end Go.Emb
namespace Go.Hm
def SmM (m:Hm.Met):Prop:=m.params.length<=1000000/\m.code.length<=1000000/\m.catches.length<=1000000
def Qe (c:Cla):Prop:=c.like.length<=1000000/\c.fields.length<=1000000/\c.methods.length<=1000000/\ ∀m∈c.methods,SmM m
end Go.Hm
namespace Go.Proofs.Y
open Go.Emb Go.RowKit Go.Kd Go.Hm
variable {w : World} {K : Value -> World -> Prop} {σ : Q2}
theorem Q5M {m:Hm.Met} {cs:List Value} (hs:X1 w σ) (hm:E6 σ m cs) (D:SmM m)
 (h: ∀pv o f w' σ',Stp w σ w' σ'->E6 σ' m [S m.name,pv,S m.result, .bool m.abs,I m.locals,o,f]->K (.agg [S m.name,pv,S m.result, .bool m.abs,I m.locals,o,f].toArray) w'):Q0 P F.bV [.agg cs.toArray] w K:=Q6z (by
 obtain ⟨pv,o,f,rfl,y,z,A,Y,Z,g6⟩:=hm;obtain ⟨s1,s2,s3⟩:=D;unfold Q0h;simp only[Z1,Y1];refine Q2c hs fun b w1 σ1 d g a=>?_;refine I4 g.sat fun X w2 σ2 B j c=>?_;have ac:=a.lt;replace a:=a.step j;have C:=j.sat;have y:=(y.up g).up j;have z:=(z.up g).up j;have A:=(A.up g).up j;have L: ∀{w':World} (i:Nat) (v:Value),[S m.name,pv,S m.result, .bool m.abs,I m.locals,o,f][i]? =some v->Hst w2 σ2 w' σ2->w'.cell? ((⟨b,0,none⟩:Addr).add i)=some v:=fun i v f hh=>(a.step hh.stp).cell f;refine L9 C ?_;refine X4 (.pointer (some ((⟨b,0,none⟩:Addr).add 1))) (fun w d=>by rw[fa];exact X9 rfl) ?_
 refine X4 (.pointer (some ((⟨b,0,none⟩:Addr).add 5))) (fun w d=>by rw[fa];exact X9 rfl) ?_
 refine X4 (.pointer (some ((⟨b,0,none⟩:Addr).add 6))) (fun w d=>by rw[fa];exact X9 rfl) ?_
 refine X4 pv (fun t w d e=>by rw[e];exact Yo (L 1 pv rfl d) (X9 rfl)) ?_
 refine Hi (Φ:=fun σ' v=>Sl 1 V3 σ' v m.params) (fun t w d e=>by rw[e];exact Ma d.sat y s1 fun W w' σ' s f=>Pj d s f) ?_
 refine X4 o (fun t w d e=>by rw[e];exact Yo (L 5 o rfl d) (X9 rfl)) ?_
 refine Hi (Φ:=fun σ' v=>Sl 3 Qx σ' v m.code) (fun t w d e=>by rw[e];exact Hs d.sat z s2 fun W w' σ' s f=>Pj d s f) ?_
 refine X4 f (fun t w d e=>by rw[e];exact Yo (L 6 f rfl d) (X9 rfl)) ?_
 refine X4 (.pointer (some ((⟨b,0,none⟩:Addr).add 1))) (fun w d=>by rw[fa];exact X9 rfl) ?_
 refine Hi (Φ:=fun σ' v=>Sl 4 Uh σ' v m.catches) (fun t w d e=>by rw[e];exact Hq d.sat A s3 fun W w' σ' s f=>Pj d s f) ?_
 rintro t1 t2 t3 t4 t5 t6 t8 t9 am N w3 ab e1 e2 e3 e4 ⟨σ5,k5,p⟩ e6 ⟨σ8,k8,q⟩ e9 u ⟨av,E,k⟩;subst u;obtain ⟨σa,ka,J,M⟩:=k5.join k8;obtain ⟨σ3,H,Q,l2⟩:=ka.join E;have p:=(p.lift J).lift Q;have q:=(q.lift M).lift Q;have k:=k.lift l2;have a:=a.step H;have c:=c.step H;have n:X≠b:=by omega
 have l:=(g.trans j).trans H;refine Bn a U5 (Lv p) (Qi p) fun w4 R a=>?_;rw[fa];have l:=R.stp l d a.1;have c:=c.upd R n;refine Bn a U5 (Lv q) (Qi q) fun w5 U a=>?_;rw[fa];have l:=U.stp l d a.1;have c:=c.upd U n;refine Bn a U5 (Lv k) (Qi k) fun w6 V a=>?_;have l:=V.stp l d a.1;have c:=c.upd V n;refine X5X a rfl ?_;have O:=E6.mk p q k Y Z g6;have r:=Qk B g;refine sta c rfl rfl (by rw[List.all_toArray];exact List.all_eq_true.2 (Rep.one O)) fun w7 u7 c=>?_
 have l:=u7.stp l r c.1;refine M6 c rfl ?_;exact h t5 t8 N w7 σ3 l O)
theorem X2z {c:Cla} {cs:List Value} (hs:X1 w σ) (hc:W8 σ c cs) (av:Qe c)
 (h: ∀X U mv w' σ',Stp w σ w' σ'->W8 σ' c [S c.name,S c.super,X, .bool c.iface, .bool c.abs, .bool c.fin,U,mv]->K (.agg [S c.name,S c.super,X, .bool c.iface, .bool c.abs, .bool c.fin,U,mv].toArray) w'):Q0 P F.ct [.agg cs.toArray] w K:=Q6y (by
 obtain ⟨X,U,mv,rfl,g1,g2,V,g4,g5⟩:=hc;obtain ⟨s1,s2,s3,s4⟩:=av;unfold Q0g;simp only[Z1,Y1,M4];unfold Y2 Z5 X7 X5 X2;refine Q2c hs fun b w1 σ1 l m f=>?_;refine I4 m.sat fun R w2 σ2 ap o g=>?_;have be:=f.lt;replace f:=f.step o;have ar:=o.sat;have g1:=(g1.up m).up o;have g2:=(g2.up m).up o;have V:=(V.up m).up o;have L: ∀{w':World} (i:Nat) (v:Value),[S c.name,S c.super,X, .bool c.iface, .bool c.abs, .bool c.fin,U,mv][i]? =some v->Hst w2 σ2 w' σ2->w'.cell? ((⟨b,0,none⟩:Addr).add i)=some v:=fun i v W hh=>(f.step hh.stp).cell W;refine L9 ar ?_;refine X4 (.pointer (some ((⟨b,0,none⟩:Addr).add 2))) (fun w l=>by rw[fa];exact X9 rfl) ?_
 refine X4 (.pointer (some ((⟨b,0,none⟩:Addr).add 6))) (fun w l=>by rw[fa];exact X9 rfl) ?_
 refine X4 X (fun t w l e=>by rw[e];exact Yo (L 2 X rfl l) (X9 rfl)) ?_
 refine Hi (Φ:=fun σ' v=>Sl 1 V3 σ' v c.like) (fun t w l e=>by rw[e];exact Ma l.sat g1 s1 fun v' w' σ' E W=>Pj l E W) ?_
 refine X4 U (fun t w l e=>by rw[e];exact Yo (L 6 U rfl l) (X9 rfl)) ?_
 refine X4 (.pointer (some ((⟨b,0,none⟩:Addr).add 2))) (fun w l=>by rw[fa];exact X9 rfl) ?_
 refine Hi (Φ:=fun σ' v=>Sl 3 C5 σ' v c.fields) (fun t w l e=>by rw[e];exact Hr l.sat g2 s2 fun v' w' σ' E W=>Pj l E W) ?_
 rintro t6 t9 t7 t8 bn bo ae w3 ba e6 e9 e7 ⟨σ8,k8,Y⟩ a7 ah ⟨bs,aw,u⟩;subst ah;obtain ⟨σ3,k3,l1,l2⟩:=k8.join aw;have Y:=Y.lift l1;have u:=u.lift l2;have V:=V.up k3;have f:=f.step k3;have g:=g.step k3;have Q:R≠b:=by omega
 have Z:=(m.trans o).trans k3;refine Bn f U5 (Lv Y) (Qi Y) fun w4 u4 f=>?_;rw[fa];have Z:=u4.stp Z l f.1;have g:=g.upd u4 Q;refine Bn f U5 (Lv u) (Qi u) fun w5 u5 f=>?_;rw[fa];have Z:=u5.stp Z l f.1;have g:=g.upd u5 Q;refine Fw f rfl ?_;refine Q6 V ?_
 refine O7 c.methods.length (fun n a w'=> ∃σ',Stp w σ w' σ'/\SLe σ3 σ'/\W1 w.heap.size T.c 7 E6 σ' w' a (c.methods.take n)/\U6 σ' w' b [S c.name,S c.super,t8, .bool c.iface, .bool c.abs, .bool c.fin,ae,mv]/\U6 σ' w' R [S [],S [], .slice none 0 0, .bool false, .bool false, .bool false, .slice none 0 0, .slice none 0 0]/\ ∀k,a.ownBlock=some k->k≠b/\k≠R)
  ⟨σ3,Z,SLe.refl _,W1.nil,f,g,fun k E=>by cases E⟩ fun n a w6 d hn hi=>?_
 obtain ⟨σ6,B,C,ha,f,g,j⟩:=hi;refine Z4 ?_;refine Q3 (fun hh=>?_) (fun hh=>?_)
 .have z:n<c.methods.length:=by simpa using hh
  have ab:c.methods.length<=9223372036854775807:=by omega
  refine N0 (V.lift C) z fun p cs hl y hr=>?_;refine Z8 B.sat hl y ?_;refine Z0 B.sat (by rfl) y (Rep.one hr) fun q w7 σ7 r hq=>?_
  refine Z8 r.sat hq y ?_;refine Q5M r.sat (Rep.up r.le hr) (s4 _ (List.getElem_mem z)) fun pv cv W w8 σ8 N aq=>?_;have O:=(Nxt.of_stp (D:=fun k=>a.ownBlock=some k) r).trans (Nxt.of_stp N);have an:=(ha.up r).up N;have ax:=(f.nx O fun e=>(j _ e).1 rfl).lt;have ay:=(g.nx O fun e=>(j _ e).2 rfl).lt;refine Za ((B.trans r).trans N) an aq rfl rfl rfl (by rw[List.length_take];omega) (by rw[List.length_take];omega) fun s v' w9 σ9 A al ao hat=>?_
  refine H8 ?_;have A:=O.trans A;refine Z9 ab z ⟨σ9,al,C.more A.le,?_,f.nx A fun e=>(j _ e).1 rfl,g.nx A fun e=>(j _ e).2 rfl,?_⟩
  .rw[List.take_add_one,List.getElem?_eq_getElem z];exact ao
  .intro k E
   rcases hat with hat | hat
   .exact j k (hat▸E)
   .have:=hat k E
    constructor<;>omega
 .have z: ¬n<c.methods.length:=by simpa using hh
  rw[List.take_of_length_le Q4] at ha;obtain ⟨σ7,J,M,ad,H⟩:=ha.keep B;have f:U6 σ7 w6 b _:=⟨(H b fun e=>(j b e.symm).1 rfl).trans f.1,f.2⟩;have g:U6 σ7 w6 R _:=⟨(H R fun e=>(j R e.symm).2 rfl).trans g.1,g.2⟩;rw[fa];refine Bn f U5 (Lv M) (Qi M) fun w7 u7 f=>?_;have J:=u7.stp J l f.1;have g:=g.upd u7 Q;refine X5X f rfl ?_;have hr:=W8.mk (Y.lift (C.more ⟨ad⟩)) (u.lift (C.more ⟨ad⟩)) M g4 g5;have aa:=Qk ap m;refine sta g rfl rfl (by rw[List.all_toArray];exact List.all_eq_true.2 (Rep.one hr)) fun w8 u8 g=>?_
  have ak:=u8.stp J aa g.1;refine M6 g rfl ?_;exact h t8 ae a w8 σ7 ak hr)
end Go.Proofs.Y
namespace Go.Hm
open Go.Kd
def B8 {α:Type}:Nat->List α->List α
 | 0,xs=>xs
 | i+1,xs=>match (B8 i xs)[i]?,(B8 i xs)[xs.length-1-i]? with
  | some a,some b=>((B8 i xs).set i b).set (xs.length-1-i) a
  | _,_=>B8 i xs
theorem Q27 {α:Type} (xs:List α): ∀i,2*i<=xs.length->(B8 i xs).length=xs.length/\ ∀k,k<xs.length->(B8 i xs)[k]? =if k<i\/xs.length-1-k<i then xs[xs.length-1-k]? else xs[k]?
 | 0,_=>⟨rfl,fun k j=>by simp[B8]⟩
 | i+1,h=>by
  obtain ⟨m,c⟩:=Q27 xs i (by omega)
  have a:=c i (by omega)
  have b:=c (xs.length-1-i) (by omega)
  rw[if_neg (by omega)] at a b
  have n:i<xs.length:=by omega
  have d:xs.length-1-i<xs.length:=by omega
  rw[List.getElem?_eq_getElem (l:=xs) n] at a;rw[List.getElem?_eq_getElem (l:=xs) d] at b;simp only[B8,a,b];refine ⟨by simp[m],fun k j=>?_⟩
  by_cases e:k=xs.length-1-i
  .subst e
   rw[List.getElem?_set_self (by simp[m];omega),if_pos (by omega)]
   rw[show xs.length-1-(xs.length-1-i)=i by omega,List.getElem?_eq_getElem (by omega)]
  .rw[List.getElem?_set_ne (by omega)]
   by_cases f:k=i
   .subst f
    rw[List.getElem?_set_self (by omega),if_pos (by omega),List.getElem?_eq_getElem (by omega)]
   .rw[List.getElem?_set_ne (by omega),c k j]
    by_cases g:k<i\/xs.length-1-k<i
    .rw[if_pos g,if_pos (by omega)]
    .rw[if_neg g,if_neg (by omega)]
theorem X2d {α:Type} (xs:List α) (i:Nat) (c:2*i<=xs.length) (e:xs.length<=2*i+1):B8 i xs=xs.reverse:=by
 obtain ⟨f,d⟩:=Q27 xs i c;apply List.ext_getElem?;intro k
 by_cases b:k<xs.length
 .rw[d k b,List.getElem?_reverse b]
  by_cases a:k<i\/xs.length-1-k<i
  .rw[if_pos a]
  .rw[if_neg a];congr 1;omega
 .rw[List.getElem?_eq_none (by omega),List.getElem?_eq_none (by simp;omega)]
theorem Pg (L:Wm): ∀(f:Nat) (n:Q8),(K6 L f n).length<=f
 | 0,_=>by simp[K6]
 | f+1,n=>by
  simp only[K6]
  split
  .simp
  .have:=Pg L f (by rename_i c _;exact c.super)
   simp only[List.length_cons];rename_i c _;have:=Pg L f c.super;omega
theorem Fe (l:List Cla) (n:Q8):(chain l n).length<=l.length+1:=Pg _ _ _
theorem Q19 {l:List Cla} {n:Q8} {c:Cla} (h:c∈chain l n):c∈l:=by
 have key: ∀(f:Nat) (n:Q8),c∈K6 (lk l) f n->c∈l:=by
  intro f
  induction f with
  | zero=>intro n h;simp[K6] at h
  | succ f b=>
   intro n h;simp only[K6] at h
   split at h
   .simp at h
   .rename_i d a
    rcases List.mem_cons.1 h with rfl | h
    .exact (L5 a).2.1
    .exact b _ h
 exact key _ _ h
theorem Xo {α β:Type} (f:α->List β) (k:Nat): ∀(xs:List α),(∀x∈xs,(f x).length<=k)->(xs.flatMap f).length<=xs.length*k
 | [],_=>by simp
 | x::r,h=>by
  have b:=h x (by simp)
  have c:=Xo f k r fun y a=>h y (by simp[a])
  simp only[List.flatMap_cons,List.length_append,List.length_cons,Nat.add_mul];omega
def Y7 (l:List Cla) (i:Nat):Q8:=(l.getD i Cla.zero).name
theorem Zh {l:List Cla} (b:A9 l) {i:Nat} (a:i<l.length):lk l (Y7 l i)=some (l.getD i Cla.zero):=by
 have e:l.getD i Cla.zero=l[i]:=by rw[List.getD_eq_getElem?_getD,List.getElem?_eq_getElem a];rfl
 unfold Y7;rw[e];exact b.lk (List.getElem_mem a)
theorem G4 {l:List Cla} {u:Q8} {j:Nat} (h:Z7 l u=some j):j<l.length/\Y7 l j=u:=by
 obtain ⟨a,b,_⟩:=List.findIdx?_eq_some_iff_getElem.1 h;refine ⟨a,?_⟩;unfold Y7;rw[List.getD_eq_getElem?_getD,List.getElem?_eq_getElem a]
 simpa using b
theorem Q2D {l:List Cla} (b:Zc l) (f:A9 l) {i j:Nat} (e:i<l.length) {u:Q8} (g:u∈V8 (l.getD i Cla.zero)) (a:Z7 l u=some j):K2 l (Y7 l j)<K2 l (Y7 l i):=by
 obtain ⟨c,d,_⟩:=Vu a;rw[(G4 a).2];exact Qw b (Zh f e) g d
theorem Gi {α β:Type} {f g:β->α->β}: ∀(xs:List α) (b:β),(∀b x,x∈xs->f b x=g b x)->xs.foldl f b=xs.foldl g b
 | [],_,_=>rfl
 | x::r,b,h=>by
  rw[List.foldl_cons,List.foldl_cons,h b x (by simp)]
  exact Gi r _ fun b y a=>h b y (by simp[a])
theorem Zx {l:List Cla} {frm:Nat} (f:Nat) (out:List Nat) {i:Nat} (h:i<frm):Ql l frm f out i=out:=by
 cases f<;>simp[Ql,h]
theorem X1X {l:List Cla} (d:Zc l) (k:A9 l) {frm:Nat} (a:0<frm): ∀(f g:Nat) (out:List Nat) (i:Nat),i<l.length->K2 l (Y7 l i)<f->K2 l (Y7 l i)<g->Ql l frm f out i=Ql l frm g out i:=by
 intro f
 induction f with
 | zero=>intro g out i _ h;omega
 | succ f o=>
  intro g out i e p q;obtain ⟨g,rfl⟩: ∃m,g=m+1:=⟨g-1,by omega⟩
  simp only[Ql]
  split
  .rfl
  .split
   .rfl
   .congr 1
    refine Gi _ _ fun b u n=>?_;cases c:Z7 l u with
    | none=>simp only[Option.getD_none];rw[Zx f b a,Zx g b a]
    | some j=>
     simp only[Option.getD_some];have:=Q2D d k e n c;exact o g b j (G4 c).1 (by omega) (by omega)
def Yv (l:List Cla) (frm:Nat) (out:List Nat) (i:Nat):List Nat:=Ql l frm (l.length+1) out i
theorem Q9A {l:List Cla} (c:Zc l) (e:A9 l) {frm:Nat} (a:0<frm) (out:List Nat) {i:Nat} (f:i<l.length):Yv l frm out i=if i<frm then out else if i∈out then out else
 ((V8 (l.getD i Cla.zero)).foldl (fun out n=>Yv l frm out ((Z7 l n).getD 0)) out)++[i]:=by
 have h:=Kq l (Y7 l i);unfold Yv;rw[Ql]
 split
 .rfl
 .split
  .rfl
  .congr 1
   refine Gi _ _ fun b u g=>?_;cases d:Z7 l u with
   | none=>simp only[Option.getD_none];rw[Zx _ b a,Zx _ b a]
   | some j=>
    simp only[Option.getD_some];have:=Q2D c e f g d;exact X1X c e a _ _ b j (G4 d).1 (by omega) (by omega)
theorem Mf {α:Type} {p:Nat->Prop} {f:List Nat->α->List Nat}: ∀(xs:List α) (b:List Nat),(∀b x,x∈xs-> ∀y∈f b x,y∈b\/p y)-> ∀y∈xs.foldl f b,y∈b\/p y
 | [],b,_=>fun y a=> .inl a
 | x::r,b,h=>fun y a=>by
  rw[List.foldl_cons] at a
  rcases Mf r _ (fun b z c=>h b z (by simp[c])) y a with h1 | h1
  .exact h b x (by simp) y h1
  .exact .inr h1
theorem Q7L {l:List Cla} (m:A9 l) {frm:Nat} (q:0<frm): ∀(f:Nat) (out:List Nat) (i:Nat),i<l.length-> ∀y∈Ql l frm f out i,y∈out\/(y<l.length/\(y=i\/Ls (lk l) (Y7 l i) (Y7 l y))):=by
 intro f
 induction f with
 | zero=>intro out i _ y hy;exact .inl hy
 | succ f r=>
  intro out i e y hy;simp only[Ql] at hy
  split at hy
  .exact .inl hy
  .split at hy
   .exact .inl hy
   .rcases List.mem_append.1 hy with hy | hy
    .refine Mf (p:=fun y=>y<l.length/\(y=i\/Ls (lk l) (Y7 l i) (Y7 l y))) _ _ (fun b u n y hy=>?_) y hy
     cases d:Z7 l u with
     | none=>
      rw[d] at hy;simp only[Option.getD_none] at hy;rw[Zx f b q] at hy;exact .inl hy
     | some j=>
      rw[d] at hy;simp only[Option.getD_some] at hy;obtain ⟨g,a⟩:=G4 d;obtain ⟨c,o,_⟩:=Vu d
      rcases r b j g y hy with h | ⟨k,rfl | h2⟩
      .exact .inl h
      .exact .inr ⟨k, .inr ⟨_,Zh m e,u,n,by rw[a];exact .refl o⟩⟩
      .exact .inr ⟨k, .inr ⟨_,Zh m e,u,n,by rw[<-a];exact h2.reach⟩⟩
    .simp at hy;subst hy;exact .inr ⟨e, .inl rfl⟩
theorem Q47 {α:Type} {q:List Nat->Prop} {f:List Nat->α->List Nat}: ∀(xs:List α) (b:List Nat),(∀b x,x∈xs->q b->q (f b x))->q b->q (xs.foldl f b)
 | [],b,_,h=>h
 | x::r,b,a,h=>by
  rw[List.foldl_cons];exact Q47 r _ (fun b z c=>a b z (by simp[c])) (a b x (by simp) h)
def Few (l:List Cla) (out:List Nat):Prop:=out.Nodup/\ ∀y∈out,y<l.length
theorem Few.len {l:List Cla} {out:List Nat} (h:Few l out):out.length<=l.length:=by
 have key: ∀(n:Nat) (out:List Nat),out.Nodup->(∀y∈out,y<n)->out.length<=n:=by
  intro n
  induction n with
  | zero=>
   intro out _ h;cases out with
   | nil=>simp
   | cons a r=>have:=h a (by simp);omega
  | succ n k=>
   intro out d h
   have f:=k (out.filter (fun y=> !decide (y=n))) (d.sublist List.filter_sublist) (fun y b=>by
    have:=List.mem_filter.1 b;have g:=h y this.1;have m:y≠n:=by simpa using this.2
    omega)
   have g:out.length<=(out.filter (fun y=> !decide (y=n))).length+1:=by
    clear f h
    induction out with
    | nil=>simp
    | cons a r c=>
     obtain ⟨i,j⟩:=List.nodup_cons.1 d
     by_cases e:a=n
     .subst e
      have:r.filter (fun y=> !decide (y=a))=r:=List.filter_eq_self.2 fun y b=>by simp;rintro rfl;exact i b
      simp[this]
     .have:=c j
      simp[e];exact this
   omega
 exact key _ _ h.1 h.2
theorem Tv {l:List Cla} (m:Zc l) (t:A9 l) {frm:Nat} (o:0<frm): ∀(f:Nat) (out:List Nat) (i:Nat),i<l.length->Few l out->Few l (Ql l frm f out i):=by
 intro f
 induction f with
 | zero=>intro out i _ h;exact h
 | succ f B=>
  intro out i w h;simp only[Ql]
  split
  .exact h
  .split
   .exact h
   .rename_i q
    have z:Few l ((V8 (l.getD i Cla.zero)).foldl (fun out n=>Ql l frm f out ((Z7 l n).getD 0)) out):=by
     refine Q47 _ _ (fun b u v e=>?_) h;cases d:Z7 l u with
     | none=>simp only[Option.getD_none];rw[Zx f b o];exact e
     | some j=>exact B b j (G4 d).1 e
    have s:i∉(V8 (l.getD i Cla.zero)).foldl (fun out n=>Ql l frm f out ((Z7 l n).getD 0)) out:=by
     intro k
     rcases Mf (p:=fun y=>Ls (lk l) (Y7 l i) (Y7 l y)) _ _ (fun b u v y hy=>by
      cases d:Z7 l u with
      | none=>
       rw[d] at hy;simp only[Option.getD_none] at hy;rw[Zx f b o] at hy;exact .inl hy
      | some j=>
       rw[d] at hy;simp only[Option.getD_some] at hy;obtain ⟨r,g⟩:=G4 d;obtain ⟨c,A,_⟩:=Vu d
       rcases Q7L t o f b j r y hy with h | ⟨h1,rfl | h2⟩
       .exact .inl h
       .exact .inr ⟨_,Zh t w,u,v,by rw[g];exact .refl A⟩
       .exact .inr ⟨_,Zh t w,u,v,by rw[<-g];exact h2.reach⟩) i k with h1 | h1
     .exact q h1
     .exact m _ h1
    refine ⟨?_,fun y hy=>?_⟩
    .rw[List.nodup_append]
     exact ⟨z.1,by simp,by rintro a m b e rfl;simp at e;subst e;exact s m⟩
    .rcases List.mem_append.1 hy with hy | hy
     .exact z.2 y hy
     .simp at hy;omega
end Go.Hm
namespace Go.Emb
open Go.RowKit Go.Hm
variable {w w' : World}
def Ij (sz:Nat) (v:Value) (i:Nat):Addr:=match v with
 | .slice (some b) _ _=>b.add (i*sz)
 | _=>⟨0,0,none⟩
variable {P : Program} {K : Value -> World -> Prop} {σ : Q2} {α : Type} {R : Q2 -> α -> List Value -> Prop} {sz : Nat} {v : Value} {xs : List α}
theorem Sl.el (h:Sl sz R σ v xs) {i:Nat} (k:i<xs.length): ∃cs,J7 σ (Ij sz v i) cs/\cs.length=sz/\R σ xs[i] cs:=by
 obtain ⟨a,c,rfl,l,m,g,j⟩:=h;cases a with
 | none=>have:=g rfl;omega
 | some b=>
  obtain ⟨cs,d,e,f⟩:=(j b rfl).2 i xs[i] (by simp[k])
  exact ⟨cs,d,e,f⟩
theorem U2 {t e:TypeId} {c:Nat} {z:Value} [TS P t e] [TZ P e sz c z] (h:Sl sz R σ v xs) {i:Nat} (m:i<xs.length) (g:K (.pointer (some (Ij sz v i))) w):indexAddr P t v (I i) w K:=by
 obtain ⟨a,d,rfl,j,k,f,l⟩:=h;cases a with
 | none=>have:=f rfl;omega
 | some b=>
  rw[Ix Q4 Q4]
  simpa [Ij] using g
theorem Sl.elS {xs:List Kd.Q8} (h:Sl 1 V3 σ v xs) {i:Nat} (c:i<xs.length):J7 σ (Ij 1 v i) [S xs[i]]/\xs[i].length<=U9:=by
 obtain ⟨cs,a,d,rfl,b⟩:=h.el c;exact ⟨a,b⟩
theorem Sl.elF {xs:List Fld} (h:Sl 3 C5 σ v xs) {i:Nat} (c:i<xs.length):J7 σ (Ij 3 v i) [S xs[i].name,S xs[i].kind, .bool xs[i].tr]/\C5 σ xs[i] [S xs[i].name,S xs[i].kind, .bool xs[i].tr]:=by
 obtain ⟨cs,a,d,rfl,b⟩:=h.el c;exact ⟨a,rfl,b⟩
theorem Sl.elI {xs:List Ins} (h:Sl 3 Qx σ v xs) {i:Nat} (c:i<xs.length):J7 σ (Ij 3 v i) [S xs[i].op,I xs[i].n,S xs[i].s]/\Qx σ xs[i] [S xs[i].op,I xs[i].n,S xs[i].s]:=by
 obtain ⟨cs,a,d,rfl,b⟩:=h.el c;exact ⟨a,rfl,b⟩
theorem Sl.elK {xs:List Cat} (h:Sl 4 Uh σ v xs) {i:Nat} (c:i<xs.length):J7 σ (Ij 4 v i) [I xs[i].frm,I xs[i].to,I xs[i].at_,S xs[i].cls]/\Uh σ xs[i] [I xs[i].frm,I xs[i].to,I xs[i].at_,S xs[i].cls]:=by
 obtain ⟨cs,a,d,rfl,b⟩:=h.el c;exact ⟨a,rfl,b⟩
theorem Sl.conv {α β:Type} {R:Q2->α->List Value->Prop} {R':Q2->β->List Value->Prop} {sz:Nat} {v:Value} {xs:List α} {ys:List β} (h:Sl sz R σ v xs) (j:ys.length=xs.length) (q: ∀i (g:i<xs.length) (s:i<ys.length) cs,R σ xs[i] cs->R' σ ys[i] cs):Sl sz R' σ v ys:=by
 obtain ⟨a,d,rfl,n,o,p,e⟩:=h;refine ⟨a,d,by rw[j],by rw[j];exact n,o,p,fun b f=>⟨fun t=>(e b f).1 Q4,fun i x r=>?_⟩⟩
 obtain ⟨g,rfl⟩:=List.getElem?_eq_some_iff.1 r;have c:i<xs.length:=by omega
 obtain ⟨cs,k,l,m⟩:=(e b f).2 i xs[i] (List.getElem?_eq_getElem c);exact ⟨cs,k,l,q i c g cs m⟩
theorem Sl.elM {xs:List Hm.Met} (h:Sl 7 E6 σ v xs) {i:Nat} (e:i<xs.length): ∃pv a b,J7 σ (Ij 7 v i) [S xs[i].name,pv,S xs[i].result, .bool xs[i].abs,I xs[i].locals,a,b]/\E6 σ xs[i] [S xs[i].name,pv,S xs[i].result, .bool xs[i].abs,I xs[i].locals,a,b]:=by
 obtain ⟨cs,c,f,pv,a,b,rfl,d⟩:=h.el e;exact ⟨pv,a,b,c,pv,a,b,rfl,d⟩
theorem Sl.elC {xs:List Cla} (h:Sl 8 W8 σ v xs) {i:Nat} (e:i<xs.length): ∃b a mv,J7 σ (Ij 8 v i) [S xs[i].name,S xs[i].super,b, .bool xs[i].iface, .bool xs[i].abs, .bool xs[i].fin,a,mv]/\W8 σ xs[i] [S xs[i].name,S xs[i].super,b, .bool xs[i].iface, .bool xs[i].abs, .bool xs[i].fin,a,mv]:=by
 obtain ⟨cs,c,f,b,a,mv,rfl,d⟩:=h.el e;exact ⟨b,a,mv,c,b,a,mv,rfl,d⟩
theorem J9 {b:World->World->Prop} {A a:(Value->World->Prop)->Prop} {V:Value} (h:A (fun v _=>V=v)) (c:a (fun v _=>V=v)):J8 b A a:=H4 _ (fun _ _ _ h _=>h) h c
theorem J3 {v V:Value} (h:V=v):dk (fun w w'=>Below w.heap.size w w') (fun v _=>V=v) w v w:=⟨Below.refl _ _,h⟩
theorem Qv {v V:Value} (a:Below w.heap.size w w') (h:V=v):dk (fun w w'=>Below w.heap.size w w') (fun v _=>V=v) w v w':=⟨a,h⟩
theorem Ot {c b:Bool} {V:Value} {a:World->(Value->World->Prop)->Prop} (h:c=b->a w (dk (fun w w'=>Below w.heap.size w w') (fun v _=>V=v) w)):Q1 (.bool c) b w a (dk (fun w w'=>Below w.heap.size w w') (fun v _=>(if c=b then V else undef)=v) w):=by
 by_cases e:c=b
 .simp only[e,if_true]
  subst e;have:=h rfl;cases c
  .rw[Zg];exact this
  .rw[P1];exact this
 .have d:c= !b:=by cases c<;>cases b<;>simp_all
  rw[if_neg e];subst d;cases b
  .rw[Bool.not_false,Cm];exact ⟨Below.refl _ _,rfl⟩
  .rw[Bool.not_true,Jj];exact ⟨Below.refl _ _,rfl⟩
theorem Md {p:Prop} (hq:p:=by intros;(repeat (rename_i hx;subst hx));(repeat' (first | (with_reducible exact J3 rfl) | (with_reducible exact Qv (Stp.bel (by (repeat (first | exact Stp.refl (by (first | assumption | exact Stp.sat Q7 | exact Hst.sat Q7)) | assumption | refine Stp.trans ?_ (by first | assumption | exact Hst.stp Q7))))) rfl) | (with_reducible intro _) | (simp only[↓M2,M2,Mb,reduceIte]) | (with_reducible show Q9 _ _ _ _ _;first | refine Y4 aS aL aR ?_ | refine Z8 aS aL aR ?_ | refine ld aS aL aR ?_) | (with_reducible show indexAddr _ _ _ _ _ _;refine U2 aL au ?_) | (with_reducible show V9 _ _ _ _ _ _ _ _;refine Q6 aL ?_) | (with_reducible show Nk _ _ _ _ _ _;refine L6 aR ?_) | (with_reducible show pick _ _ _ _ _ _;refine Lm ?_) | (apply Ot;intro hh;(try simp only[hh,reduceIte,↓M2,M2,Mb,reduceIte]))));done):p:=hq
variable {w0 : World} {σ0 σ' : Q2} {e : TypeId} {u : Value} {ys : List α}
def Emp (v:Value):Prop:= ∃a,v= .slice a 0 0
theorem X58 {t y:TypeId} {o:Nat} {z:Value} {cs:List Bool} [ts:TS P t e] [tz:TZ P e sz o z] [hr:Rep R] (V:Stp w0 σ0 w σ) (ha:W1 w0.heap.size e sz R σ w v []) (hv:Emp v) (M:X1 w σ') (Z:Sl sz R σ' u ys) (hR: ∀x cs,R σ' x cs->R σ x cs) (hz:(z.cells.size==sz&&decide (0<sz))=true)
 (hb:ys.length*o<=140737488355328) (hm:ys.length<=1000000000000)
 (h: ∀j w',Stp w σ w' σ->W1 w0.heap.size e sz R σ w' j ys->K j w'):V9 P .append [t,t] y cs [v,u] w K:=by
 obtain ⟨g,rfl⟩:=hv;have L:=V.sat;obtain ⟨a,c,news,rfl,n1,s,n3,n4,n5⟩:=Z.cells M;obtain ⟨i,X,N,C,n⟩:=tz.info;simp only[Bool.and_eq_true,beq_iff_eq,decide_eq_true_eq] at hz;obtain ⟨O,al⟩:=hz
 have f:Src P i.size t (.slice a ys.length c) ys.length news w:=by
  cases a with
  | some b=>exact Src.ofSlice w ts.h b ys.length c news (by rw[N];exact s) (n3 b rfl) n4
  | none=>
   have r:ys.length=0:=by
    obtain ⟨Q,U,e',q1,_,q3,_⟩:=Z;injection e' with e1 e2 e3;have:=n1 rfl;omega
   have J:news=[]:=List.eq_nil_of_length_eq_zero (by rw[s,r];simp)
   subst J;rw[r];exact Src.ofNil w ts.h c
 have p: ∀j w',(Builtin.append_ #[t,t] y #[.slice g 0 0, .slice a ys.length c]).run P w= .ok j w'->Stp w σ w' σ->W1 w0.heap.size e sz R σ w' j ys->V9 P .append [t,t] y cs [.slice g 0 0, .slice a ys.length c] w K:=by
  intro j w' d H hq
  have m:(builtin .append #[t,t] y cs.toArray #[.slice g 0 0, .slice a ys.length c]).run P w= .ok (.value j) w':=by
   simp[builtin,d]
  unfold V9;rw[Zw];unfold Ye;rw[m];exact h j w' H hq
 by_cases r:ys=[]
 .subst r
  have J:news=[]:=List.eq_nil_of_length_eq_zero (by simpa using s)
  subst J;refine p (.slice g 0 0) w ?_ (Stp.refl L) ha;have Y:=f.len w;have q:=f.cells;simp only[List.length_nil] at Y q⊢;cases g<;>simp[Builtin.append_,run_underlying ts.h,sizeOf,typeInfo,X,Y,q,storeCells]
 .have ak:0<ys.length:=List.length_pos_iff.2 r
  have l:(Builtin.firstCells i.size 0 (.slice g 0 0)).run P w.drew= .ok (#[]:Array Value) w.drew:=by
   cases g with
   | none=>exact run_firstCells_none w.drew i.size 0 0 0
   | some Q=>exact run_firstCells_some w.drew i.size 0 Q 0 0 [] U5 (by intro _ _ h';simp at h')
  have W:0<0+ys.length:=by omega
  have d:=run_append_grow_src (P:=P) w t t y e i z ts.h X n g 0 0 [] l (.slice a ys.length c) ys.length news f W Q4 (growslice_fits W (by rw[C,Nat.zero_add];exact hb))
  simp only[Nat.zero_add] at d;have D:=grownCap_le_maxLen w ys.length 0 e (by simp only[maxLen];omega)
  have E:=grownCap_ge w ys.length 0 e;refine p _ _ d (Stp.of_below L ((Below.refl _ _).drew.alloc (Nat.le_refl _) _)) ⟨news,⟨s, .inr ⟨w.heap.size,_,_,rfl,V.bel.size,heap_alloc_new w.drew _,E,D,?_,?_⟩⟩,?_,fun i x hx=>hR _ _ (n5 i x hx)⟩
  .simp only[List.nil_append]
   rw[Array.size_append,List.size_toArray,s,size_zeroCells,O,<-Nat.add_mul]
   congr 1;omega
  .simp only[List.nil_append]
   rw[Array.toList_append];rw[List.take_append_of_le_length (by simp only[List.toList_toArray];omega),List.take_of_length_le (by simp only[List.toList_toArray];omega)]
  .intro k H;cases H;exact L.none (Nat.le_refl _)
def X2l {α:Type} (w0:World) (σ:Q2) (e:TypeId) (sz:Nat) (R:Q2->α->List Value->Prop) (xs:List α) (v:Value) (w':World):Prop:=Stp w0 σ w' σ/\W1 w0.heap.size e sz R σ w' v xs
def Q9M {α:Type} (w0:World) (σ:Q2) (e:TypeId) (sz:Nat) (R:Q2->α->List Value->Prop) (v:Value) (w':World):Prop:=Stp w0 σ w' σ/\W1 w0.heap.size e sz R σ w' v ([]:List α)/\Emp v
variable {w1 : World} {A rest : (Value -> World -> Prop) -> Prop}
theorem Q5b [Rep R] (xs:List α) (h:A (X2l w σ e sz R xs)) (d:rest (X2l w σ e sz R xs)):J8 (fun w w'=>Below w.heap.size w w') A rest:=
 H4 _ (fun _ _ _ ⟨a,c⟩ b=>⟨a.trans (Stp.of_below a.sat b),c.up (Stp.of_below a.sat b)⟩) h d
theorem X4q [Rep R] (h:A (Q9M w σ e sz R)) (f:rest (Q9M w σ e sz R)):J8 (fun w w'=>Below w.heap.size w w') A rest:=
 H4 _ (fun _ _ _ ⟨a,c,d⟩ b=>⟨a.trans (Stp.of_below a.sat b),c.up (Stp.of_below a.sat b),d⟩) h f
theorem Q7d (a:Hst w σ w1 σ) (h:Stp w1 σ w' σ) (b:W1 w.heap.size e sz R σ w' v xs):dk (fun w w'=>Below w.heap.size w w') (X2l w σ e sz R xs) w1 v w':=⟨h.bel,a.stp.trans h,b⟩
theorem X5D (a:Hst w σ w1 σ) (h:Stp w1 σ w' σ) (b:W1 w.heap.size e sz R σ w' v ([]:List α)) (c:Emp v):dk (fun w w'=>Below w.heap.size w w') (Q9M w σ e sz R) w1 v w':=⟨h.bel,a.stp.trans h,b,c⟩
theorem Q14 {t:TypeId} {a:Nat} {z:Value} [ts:TS P t e] [tz:TZ P e sz a z] (R:Q2->α->List Value->Prop) (c:Stp w0 σ0 w σ) (i:0<sz)
 (h: ∀v w',Stp w σ w' σ->W1 w0.heap.size e sz R σ w' v ([]:List α)->Emp v->K v w'):buildSlice P t 0 [] w K:=by
 obtain ⟨cells,d,f⟩:=Sa (P:=P) (t:=t) (sz:=sz) (e:=e) [] U5 U5 w;unfold buildSlice;have b:(Instr.buildSlice t 0 ([]:List (Nat×Value)).toArray).run P w=_:=d;rw[Y3 b];refine h _ _ (Stp.own c.sat _) ⟨[],⟨by simp, .inr ⟨_,_,cells,rfl,c.bel.size,heap_alloc_new w _,by simp,by simp[maxLen],?_,by simp⟩⟩,?_,by simp⟩ ⟨_,rfl⟩
 .have:cells.size=0:=by rw[<-Array.length_toList,f];rfl
  simp[this]
 .intro k g;cases g;exact c.sat.none (Nat.le_refl _)
theorem X05 [Rep R] {t:TypeId} {a:Nat} {z:Value} [ts:TS P t e] [tz:TZ P e sz a z] (b:(decide (0<sz))=true) (h:rest (Q9M w σ e sz R)):
 J8 (fun w w'=>Below w.heap.size w w') (fun φ=> ∀w1:World,Hst w σ w1 σ->buildSlice P t 0 [] w1 (dk (fun w w'=>Below w.heap.size w w') φ w1)) rest:=
 X4q (fun w1 c=>Q14 R c.stp (by simpa using b) fun v w' g d f=>X5D c g d f) h
theorem W8.parts {c:Cla} {a b j d e f g mv:Value} (h:W8 σ c [a,b,j,d,e,f,g,mv]):Sl 1 V3 σ j c.like/\Sl 3 C5 σ g c.fields/\Sl 7 E6 σ mv c.methods/\c.name.length<=U9/\c.super.length<=U9:=by
 obtain ⟨_,_,_,i,k⟩:=h;simp only[List.cons.injEq,and_true] at i;obtain ⟨_,_,rfl,_,_,_,rfl,rfl⟩:=i;exact k
theorem E6.parts {m:Hm.Met} {a pv b d e c g:Value} (h:E6 σ m [a,pv,b,d,e,c,g]):Sl 1 V3 σ pv m.params/\Sl 3 Qx σ c m.code/\Sl 4 Uh σ g m.catches/\m.name.length<=U9/\m.result.length<=U9/\P0 m.locals:=by
 obtain ⟨_,_,_,f,i⟩:=h;simp only[List.cons.injEq,and_true] at f;obtain ⟨_,rfl,_,_,_,rfl,rfl⟩:=f;exact i
variable {B : Nat}
theorem U0.shiftR [hr:Rep R] (h:U0 B e sz R σ w v xs) (t:SLe σ σ') (m: ∀k,v.ownBlock=some k->σ' k=none):U0 B e sz R σ' w v xs:=by
 obtain ⟨a,f,rfl,o,p,c,q⟩:=h;refine ⟨a,f,rfl,o,p,fun b d=>⟨(c b d).1,(c b d).2.1,(c b d).2.2.1,by subst d;exact m _ rfl⟩,fun r=>?_⟩
 obtain ⟨g,l,j,rfl,z,E,A,C,D⟩:=q r;exact ⟨g,l,j,rfl,z,m g rfl,A,C,fun i x s=>hr.up t.le (D i x s)⟩
def X3C (w:World):World:={w with heap:= #[]}
theorem Q6Y (d:X1 w σ):Stp (X3C w) (fun _=>none) w σ:=
 ⟨⟨rfl,rfl,rfl,Nat.zero_le _,fun k c=>absurd c (Nat.not_lt_zero k)⟩,d,fun _ _ h=>(by cases h),fun b a=>absurd a (Nat.not_lt_zero b)⟩
theorem U0.freeze [hr:Rep R] (g:X1 w σ) (h:U0 B e sz R σ w v xs): ∃σ',X1 w σ'/\SLe σ σ'/\Sl sz R σ' v xs/\ ∀k,some k≠v.ownBlock->σ' k=σ k:=by
 obtain ⟨σ',a,c,d,f⟩:=(h.mono (Nat.zero_le B):U0 (X3C w).heap.size e sz R σ w v xs).keep (Q6Y g);exact ⟨σ',a.sat,d,c,f⟩
theorem U6.freeze {b:Nat} {cs:List Value} (g:X1 w σ) (h:U6 σ w b cs): ∃σ',X1 w σ'/\SLe σ σ'/\J7 σ' ⟨b,0,none⟩ cs/\ ∀k,k≠b->σ' k=σ k:=by
 obtain ⟨σ',a,c,d,f⟩:=h.keep (Q6Y g) (Nat.zero_le b);exact ⟨σ',a.sat,⟨d⟩,c,f⟩
theorem U0.down {α:Type} {R:Q2->α->List Value->Prop} {B sz:Nat} {e:TypeId} {v:Value} {xs:List α} (h:U0 B e sz R σ' w v xs) (C:SLe σ σ') (s: ∀x cs,R σ' x cs->R σ x cs):U0 B e sz R σ w v xs:=by
 obtain ⟨a,f,rfl,p,q,c,r⟩:=h
 have m: ∀k,σ' k=none->σ k=none:=fun k z=>by
  cases e:σ k with
  | none=>rfl
  | some o=>have:=C.le k o e;rw[z] at this;cases this
 refine ⟨a,f,rfl,p,q,fun b d=>⟨(c b d).1,(c b d).2.1,(c b d).2.2.1,m _ (c b d).2.2.2⟩,fun t=>?_⟩;obtain ⟨g,l,j,rfl,D,E,H,J,L⟩:=r t;exact ⟨g,l,j,rfl,D,m _ E,H,J,fun i x A=>s _ _ (L i x A)⟩
end Go.Emb
namespace Go.Emb
open Go.RowKit
variable {P : Program} {w : World} {K : Value -> World -> Prop}
theorem X4r {d:Nat} {xs ys:Array Value}:(Op.eqFields d xs ys []).run P w= .ok true w:=by simp[Op.eqFields]
theorem Pn {d:Nat} {xs ys:Array Value} {f:Field} {a:List Field} {u v:Value} {b c:Bool} (h:f.name≠ "_") [tg:TG P f.type false] (i:xs[f.offset]? =some u) (j:ys[f.offset]? =some v)
 (e:(Op.equalIn d f.type u v).run P w= .ok b w) (g:(Op.eqFields d xs ys a).run P w= .ok c w):(Op.eqFields d xs ys (f::a)).run P w= .ok (b&&c) w:=by
 simp only[Op.eqFields,if_pos h]
 simp[part,Yz tg,i,j,e]
 cases b
 .simp
 .simp[g]
theorem X4t {d:Nat} {t:TypeId} (c:P.underlying t=some .string) (a b:List UInt8):(Op.equalIn (d+1) t (S a) (S b)).run P w= .ok (decide (a=b)) w:=by
 simp[Op.equalIn,run_underlying c,Hp]
theorem Q5c {d:Nat} {t:TypeId} {k c:IntKind} (f:P.underlying t=some (.int k)) (a b:Int):(Op.equalIn (d+1) t (.int c a) (.int c b)).run P w= .ok (decide (a=b)) w:=by
 simp[Op.equalIn,run_underlying f]
 by_cases e:a=b<;>simp[e]
theorem X4u {t:TypeId} {a c:Operand} {xs ys:List Value} {b:Bool} (i:P.underlying t=some (.struct (P.fieldsOf t))) (g:P.stoodInHeld t=false) (f:P.eqGuardType P.depth t=false)
 (d:(Op.eqFields 9999 xs.toArray ys.toArray (P.fieldsOf t).toList).run P w= .ok b w) (h:K (.bool b) w):Y5 P .eql t a c (.agg xs.toArray) (.agg ys.toArray) w K:=by
 have e:Y5 P .eql t a c (.agg xs.toArray) (.agg ys.toArray) w K=K (.bool b) w:=Y3 (by
  simp only[Sem.run_bind,run_eqGuard_agg w .eql t a c xs.toArray ys.toArray f,Result.andThen_ok];rw[run_eql_struct,run_equalIn_struct w 9999 t _ _ i g,d];rfl)
 rw[e];exact h
variable {w' : World}
def Q6Q (o:Option Obj) (m:List (Int×Value)):Prop:=
 ∃b a,o=some (.map b a)/\b.toList.map (fun e=>(e.key,e.val))=m.map (fun p=>(I p.1,p.2))/\(b.toList.map (·.born)).Pairwise (· < ·)/\ ∀e∈b.toList,e.born<a
def I0 (m:List (Int×Value)) (k:Int):Option Value:=match m with
 | []=>none
 | p::r=>if p.1=k then some p.2 else I0 r k
def Cv (m:List (Int×Value)) (k:Int) (v:Value):List (Int×Value):=match m with
 | []=>[(k,v)]
 | p::r=>if p.1=k then (k,v)::r else p::Cv r k v
theorem Q1f (k:Int): ∀(c:List MapEntry) (m:List (Int×Value)) (i:Nat),c.map (fun e=>(e.key,e.val))=m.map (fun p=>(I p.1,p.2))->
 ∃r,Instr.findNow (.int .i64) (I k) c i=some r/\r.map (·.2)=I0 m k/\(∀j v,r=some (j,v)->i<=j/\(∃e,c[j-i]? =some e/\e.key=I k)/\ ∀u,(c.modify (j-i) fun e=>{e with key:=I k,val:=u}).map (fun e=>(e.key,e.val))=(Cv m k u).map (fun p=>(I p.1,p.2)))/\
  (r=none-> ∀u,Cv m k u=m++[(k,u)]):=by
 intro c
 induction c with
 | nil=>
  intro m i h;cases m with
  | nil=>exact ⟨none,rfl,rfl,U5,fun _ u=>rfl⟩
  | cons=>simp at h
 | cons e r o=>
  intro m i h;cases m with
  | nil=>simp at h
  | cons p q=>
   simp only[List.map_cons,List.cons.injEq,Prod.mk.injEq] at h;obtain ⟨⟨d,g⟩,l⟩:=h;simp only[Instr.findNow,d,Instr.sameNow,if_true]
   by_cases a:p.1=k
   .have f:(k==p.1)=true:=by simp[a]
    simp only[f];refine ⟨_,rfl,by simp[I0,a,g],?_,by simp⟩
    intro j v b;cases b;refine ⟨Nat.le_refl _,⟨e,by simp,by rw[d,a]⟩,fun u=>?_⟩
    simp[Cv,a,l]
   .have f:(k==p.1)=false:=by simp;exact fun e=>a e.symm
    simp only[f];obtain ⟨A,s,t,y,z⟩:=o q (i+1) l;refine ⟨A,s,by simp[I0,a,t],?_,?_⟩
    .intro j v b
     obtain ⟨D,B,C⟩:=y j v b;refine ⟨by omega,by rw[show j-i=(j-(i+1))+1 by omega];simpa using B,fun u=>?_⟩
     have:=C u;rw[show j-i=(j-(i+1))+1 by omega]
     simp[Cv,a,d,g,this]
    .intro n u
     simp[Cv,a,z n u]
theorem Yy {t:TypeId} (a:P.underlying t=some (.int .i64)) (b:Bool) (k:Int) (w:World):(Instr.checkKey b 10000 t (I k)).run P w= .ok () w:=by
 unfold Instr.checkKey
 simp[run_underlying a]
theorem Q66 {t g f:TypeId} {sz d:Nat} {z:Value} [tm:TM P t g f] [tz:TZ P f sz d z] (b:P.underlying g=some (.int .i64)) {r:Nat} {m:List (Int×Value)} (o:Q6Q (w.heap[r]?) m) (k:Int):
 lookup P t (.map (some r)) (I k) true w K=K (match I0 m k with | some v=> .tuple #[v, .bool true] | none=> .tuple #[z, .bool false]) w:=by
 obtain ⟨e,a,j,l,s,u⟩:=o;obtain ⟨q,i,c,y,A⟩:=Q1f k e.toList m 0 l;unfold lookup;refine Y3 ?_;simp only[Instr.lookup,Sem.run_bind,run_underlying tm.h,Result.andThen_ok,Instr.findKey,run_underlying b,i,Yy b];have n:(getObj r).run P w= .ok (.map e a) w:=by simp[getObj,Sem.run,j]
 simp only[n,Result.andThen_ok,Sem.run_bind,Sem.run_pure,Yy b,run_underlying b,i];cases q with
 | none=>simp at c;rw[<-c];simp[Qb tz]
 | some p=>simp at c;rw[<-c];simp
theorem X1M {t g e:TypeId} {sz c:Nat} {z:Value} [tm:TM P t g e] [tz:TZ P e sz c z] (f:P.underlying g=some (.int .i64)) {r:Nat} {m:List (Int×Value)} (n:Q6Q (w.heap[r]?) m) (k:Int):
 lookup P t (.map (some r)) (I k) false w K=K ((I0 m k).getD z) w:=by
 obtain ⟨d,a,i,j,s,u⟩:=n;obtain ⟨q,o,b,v,y⟩:=Q1f k d.toList m 0 j;unfold lookup;refine Y3 ?_;have l:(getObj r).run P w= .ok (.map d a) w:=by simp[getObj,Sem.run,i]
 simp only[Instr.lookup,Sem.run_bind,run_underlying tm.h,Result.andThen_ok,Instr.findKey,run_underlying f,o,Yy f,l,Sem.run_pure];cases q with
 | none=>simp at b;rw[<-b];simp[Qb tz]
 | some p=>simp at b;rw[<-b];simp
def C7 (σ:Q2) (w:World) (r:Nat) (m:List (Int×Value)):Prop:=σ r=none/\Q6Q (w.heap[r]?) m
theorem C7.lt {σ:Q2} {r:Nat} {m:List (Int×Value)} (h:C7 σ w r m):r<w.heap.size:=by
 obtain ⟨_,c,a,b,_⟩:=h;exact (Array.getElem?_eq_some_iff.1 b).1
theorem C7.up {σ c:Q2} {r:Nat} {m:List (Int×Value)} (h:C7 σ w r m) (a:Stp w σ w' c):C7 c w' r m:=by
 have b:=h.lt;exact ⟨(a.old r b).trans h.1,(a.bel.block r b).symm▸h.2⟩
theorem Q9w {t:TypeId} {σ:Q2} (a:X1 w σ) (h: ∀r w',w.heap.size<=r->Stp w σ w' σ->C7 σ w' r []->K (.map (some r)) w'):Oz P t none w K:=by
 unfold Oz;rw[Y3 (v:= .map (some w.heap.size)) (w':=w.alloc (.map #[] 0)) (by simp[Instr.makeMap])]
 exact h _ _ (Nat.le_refl _) (Stp.own a _) ⟨a.none (Nat.le_refl _), #[],0,heap_alloc_new w _,rfl,by simp,by simp⟩
theorem Q3c {t Q W:TypeId} [tm:TM P t Q W] (A:P.underlying Q=some (.int .i64)) {σ:Q2} {r:Nat} {m:List (Int×Value)} (Z:C7 σ w r m) (k:Int) (v:Value)
 (h: ∀w',Upd w r w'->C7 σ w' r (Cv m k v)->K undef w'):mapUpdate P t (.map (some r)) (I k) v w K:=by
 obtain ⟨J,l,d,C,L,M,D⟩:=Z;obtain ⟨r',R,q2,q3,q4⟩:=Q1f k l.toList m 0 L;have O:(getObj r).run P w= .ok (.map l d) w:=by simp[getObj,Sem.run,C]
 have Y:=(Array.getElem?_eq_some_iff.1 C).1
 have n: ∀o,o=Obj.map l d\/True->(∀c e f,o≠ .cells c e f)->(setObj r o).run P w= .ok () {w with heap:=w.heap.setIfInBounds r o}:=by
  intro o _ _
  simp[setObj,Sem.run,C]
 have B: ∀o,Upd w r {w with heap:=w.heap.setIfInBounds r o}:=fun o=>⟨rfl,rfl,rfl,by simp,fun k A=>by simp only[Array.getElem?_setIfInBounds];rw[if_neg Q4]⟩
 have z: ∀o,({w with heap:=w.heap.setIfInBounds r o}:World).heap[r]? =some o:=fun o=>by simp[Array.getElem?_setIfInBounds,Y]
 unfold mapUpdate;cases r' with
 | none=>
  rw[Vw (w':={w with heap:=w.heap.setIfInBounds r (.map (l.push {key:=I k,val:=v,born:=d}) (d+1))}) (by
   simp only[Instr.mapUpdate,Sem.run_bind,run_underlying tm.h,Result.andThen_ok,Instr.findKey,run_underlying A,R,Yy A,O,Sem.run_pure];exact n _ (.inr trivial) (by intros;simp))]
  refine h _ (B _) ⟨J,_,_,z _,?_,?_,?_⟩
  .rw[q4 rfl];simp[L]
  .simp only[Array.toList_push,List.map_append,List.map_cons,List.map_nil]
   rw[List.pairwise_append];refine ⟨M,by simp,?_⟩
   intro a X b N
   simp at N;subst N
   obtain ⟨e,s,rfl⟩:=List.mem_map.1 X;exact D e s
  .intro e s
   simp at s
   rcases s with s | rfl
   .have:=D e (by simpa using s);omega
   .simp
 | some p=>
  obtain ⟨j,u⟩:=p;obtain ⟨z1,z2,U⟩:=q3 j u rfl;obtain ⟨e,H,V⟩:=z2;simp only[Nat.sub_zero] at H U
  have g:((l.modify j fun e=>{e with key:=I k,val:=v}).toList.map (·.born))=l.toList.map (·.born):=by
   apply List.ext_getElem?;intro i;simp only[Array.toList_modify,List.getElem?_map,List.getElem?_modify]
   by_cases E:j=i<;>cases l.toList[i]? <;>simp[E]
  have q:(Instr.keyThatStays (I k) (I k)).run P w= .ok (I k) w:=by
   simp[Instr.keyThatStays,Instr.sameBits]
  rw[Vw (w':={w with heap:=w.heap.setIfInBounds r (.map (l.modify j fun e=>{e with key:=I k,val:=v}) d)}) (by
   simp only[Instr.mapUpdate,Sem.run_bind,run_underlying tm.h,Result.andThen_ok,Instr.findKey,run_underlying A,R,Yy A,O,Sem.run_pure];rw[show ((l[j]?).map (·.key)).getD (I k)=I k by rw[<-Array.getElem?_toList,H];simp[V]]
   simp only[q,Result.andThen_ok];exact n _ (.inr trivial) (by intros;simp))]
  refine h _ (B _) ⟨J,_,_,z _,?_,?_,?_⟩
  .simp only[Array.toList_modify];exact U v
  .rw[g];exact M
  .intro x hx
   have:x.born∈l.toList.map (·.born):=by rw[<-g];exact List.mem_map.2 ⟨x,hx,rfl⟩
   obtain ⟨y,hy,e⟩:=List.mem_map.1 this;rw[<-e];exact D y hy
end Go.Emb
namespace Go.Proofs.Y
open Go.Emb Go.RowKit Go.Kd
variable {w : World}
theorem bt {w w1 b:World} (a:Below w.heap.size w w1) (c:Below w1.heap.size w1 b):Below w.heap.size w b:=a.trans (c.mono a.size)
end Go.Proofs.Y
