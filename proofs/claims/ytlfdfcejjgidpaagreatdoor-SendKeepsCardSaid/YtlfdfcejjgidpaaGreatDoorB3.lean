/- Parts of a proof about the given program: its functions as texts of their own, what each computes, plain laws of that. The conditions of each stand in its statement. -/
import Derived.Test.YtlfdfcejjgidpaaGreatDoorB2
import Derived.Deep.AppendSrc
import Derived.Laws.OwnMore
import Derived.Laws.CopyRow
import Derived.Laws.StructEq
import Derived.Test.YtlfdfcejjgidpaaGreatDoorB1
set_option linter.unnecessarySimpa false
set_option linter.defProp false
set_option linter.unusedSectionVars false
set_option linter.unusedVariables false
set_option linter.unusedSimpArgs false
namespace Go.Emb
open Go.RowKit Go.Hm
variable {P : Program} {w w' : World} {K : Value -> World -> Prop} {σ σ0 σ' : Q2}
structure SLe (σ σ' : Q2) : Prop where
  le : ∀ b o, σ b = some o -> σ' b = some o
theorem SLe.refl (σ:Q2):SLe σ σ:=⟨fun _ _ h=>h⟩
theorem SLe.step {w w':World} (h:SLe σ0 σ) (k:Stp w σ w' σ'):SLe σ0 σ':=⟨fun b o e=>k.le b o (h.le b o e)⟩
theorem SLe.more (h:SLe σ0 σ) (k:SLe σ σ'):SLe σ0 σ':=⟨fun b o e=>k.le b o (h.le b o e)⟩
structure Hst (w : World) (σ : Q2) (w' : World) (σ' : Q2) : Prop where
  stp : Stp w σ w' σ'
theorem Hst.sat (h:Hst w σ w' σ'):X3 w' σ':=h.stp.sat
variable {α : Type} {R : Q2 -> α -> List Value -> Prop} {sz : Nat} {v : Value} {xs : List α} {a : Addr} {cs : List Value}
theorem Sl.lift [Rep R] (h:Sl sz R σ0 v xs) (k:SLe σ0 σ):Sl sz R σ v xs:=h.le k.le
theorem U1.lift (h:U1 σ0 a cs) (k:SLe σ0 σ):U1 σ a cs:=h.le k.le
theorem Jb.lift {r:Nat} {m:List (List UInt8×Value)} (h:Jb σ0 r m) (k:SLe σ0 σ):Jb σ r m:=h.le k.le
theorem RMe_lift {x:Hm.Met} (h:B8 σ0 x cs) (k:SLe σ0 σ):B8 σ x cs:=Rep.up k.le h
theorem RCl_lift {x:Cla} (h:M0 σ0 x cs) (k:SLe σ0 σ):M0 σ x cs:=Rep.up k.le h
theorem RFd_any {x:Fld} (h:I1 σ0 x cs):I1 σ x cs:=h
theorem RIn_any {x:Ins} (h:Yz σ0 x cs):Yz σ x cs:=h
theorem RCa_any {x:Cat} (h:Wj σ0 x cs):Wj σ x cs:=h
theorem Z0.step {b:Nat} (h:Z0 σ w b cs) (k:Stp w σ w' σ'):Z0 σ' w' b cs:=h.up k
theorem W2.step [Rep R] {B:Nat} {e:TypeId} (h:W2 B e sz R σ w v xs) (k:Stp w σ w' σ'):W2 B e sz R σ' w' v xs:=h.up k
theorem E1 {Q:World->Prop} (d:X3 w σ) (h: ∀w' σ',Stp w σ w' σ'->Q w'): ∀w',Below w.heap.size w w'->Q w':=fun w' c=>h w' σ (Stp.of_below d c)
variable {k : IntKind} {t : TypeId} {ox oy : Operand} {a b : Int} {x : Bool} {s u : List UInt8}
theorem H5 (h:K (.int k (k.wrap (a+b))) w):Y6 P .add t ox oy (.int k a) (.int k b) w K:=by rw[To];exact h
theorem Jx (c: -9223372036854775808<=a+b/\a+b<=9223372036854775807) (h:K (I (a+b)) w):Y6 P .add t ox oy (I a) (I b) w K:=by rw[To,Qh c.1 c.2];exact h
theorem Vo (c: -9223372036854775808<=a-b/\a-b<=9223372036854775807) (h:K (I (a-b)) w):Y6 P .sub t ox oy (I a) (I b) w K:=by rw[Q6M,Qh c.1 c.2];exact h
theorem Z1 (h:K (.bool (decide (a<b))) w):Y6 P .lss t ox oy (.int k a) (.int k b) w K:=by rw[Q6K];exact h
theorem Q8C (h:K (.bool (decide (a<=b))) w):Y6 P .leq t ox oy (.int k a) (.int k b) w K:=by rw[Q6J];exact h
theorem Oj (h:K (.bool (decide (b<a))) w):Y6 P .gtr t ox oy (.int k a) (.int k b) w K:=by rw[Gg];exact h
theorem Xd (h:K (.bool (decide (b<=a))) w):Y6 P .geq t ox oy (.int k a) (.int k b) w K:=by rw[Q3Z];exact h
theorem C8 (h:K (.bool (decide (a=b))) w):Y6 P .eql t ox oy (.int k a) (.int k b) w K:=by rw[Q3Y];exact h
theorem Mk (h:K (.bool (!decide (a=b))) w):Y6 P .neq t ox oy (.int k a) (.int k b) w K:=by rw[Q6L];exact h
theorem Ml (h:K (.bool (!x)) w):V8 P .not (.bool x) w K:=by rw[Q7j];exact h
theorem K7 (h:K (.bool (decide (s=u))) w):Y6 P .eql t ox oy (S s) (S u) w K:=by rw[Pt];exact h
theorem Zn (h:K (.bool (!decide (s=u))) w):Y6 P .neq t ox oy (S s) (S u) w K:=by rw[Pu];exact h
theorem Zm (c:s.length+u.length<=9223372036854775807) (h:K (S (s++u)) w):Y6 P .add t ox oy (S s) (S u) w K:=by rw[Q4J c];exact h
theorem Bw {cs:List Bool} {r:TypeId} (c:P.underlying t=some .string) (h:K (I s.length) w):J7 P .len [t] r cs [S s] w K:=by rw[G5 c];exact h
theorem X7R {v u:Value} (h:K v w):pick P (.bool true) v u w K:=by rw[B5];exact h
theorem X7Q {v u:Value} (h:K u w):pick P (.bool false) v u w K:=by rw[R9];exact h
theorem C6 {v u:Value} (h:K (if x=true then v else u) w):pick P (.bool x) v u w K:=by rw[Bm];exact h
theorem Q0b {f:Fn} {first caps:List Value} (h:K (.func f first.toArray caps.toArray) w):H2 P f first caps w K:=by rw[Yy];exact h
theorem Z5 {vs:List Value} {i:Nat} {v:Value} (c:vs[i]? =some v) (h:K v w):ext P (.tuple vs.toArray) i w K:=by rw[Wu c];exact h
theorem Q6E {a:Addr} (h:K (.pointer (some a)) w):nilCheck P (.pointer (some a)) w K:=by rw[E4];exact h
theorem J3 {t e:Prop} (h:t):X0 (.bool true) t e:=by rw[G6];exact h
theorem Z6 {t e:Prop} (h:e):X0 (.bool false) t e:=by rw[B4];exact h
theorem X8T {c:World->(Value->World->Prop)->Prop} (h:c w K):Q1 (.bool true) true w c K:=by rw[D6];exact h
theorem X8S {c:World->(Value->World->Prop)->Prop} (h:c w K):Q1 (.bool false) false w c K:=by rw[H4];exact h
theorem X7O {c:World->(Value->World->Prop)->Prop} (h:K undef w):Q1 (.bool true) false w c K:=by rw[Qa];exact h
theorem X7L {c:World->(Value->World->Prop)->Prop} (h:K undef w):Q1 (.bool false) true w c K:=by rw[F8];exact h
variable {a : Addr}
theorem Z7 {t:TypeId} (f:X3 w σ) (h: ∀a w' σ',Stp w σ w' σ'->U1 σ' a cs->K (.pointer (some a)) w'):box P t (.agg cs.toArray) w K:=
 B6 f fun a w' σ' c d=>h a w' σ' c (by simpa [Value.cells] using d)
theorem W7 {t:TypeId} (g:X3 w σ) (d:v.cells= #[v]) (h: ∀a w' σ',Stp w σ w' σ'->U1 σ' a [v]->K (.pointer (some a)) w'):box P t v w K:=
 B6 g fun a w' σ' f c=>h a w' σ' f (by rw[d] at c;exact c)
theorem Oo (h:Sl sz R σ v xs):v.cells= #[v]:=by
 obtain ⟨a,c,rfl,_⟩:=h;rfl
theorem W5 {t:TypeId} {k c:Nat} {d:TypeId} {sz by_:Nat} {z:Value} [tf:TF P t k c d] [tz:TZ P d sz by_ z] [nz:NZ sz] (h:K (.pointer (some (a.add c))) w):fieldAddr P t (.pointer (some a)) k w K:=by
 rw[fa];exact h
theorem V4 {t:TypeId} {k c:Nat} {d:TypeId} [tf:TF P t k c d] [tg:TG P d false] {cs:List Value} {v:Value} (f:cs[c]? =some v) (h:K v w):Qr P t (.agg cs.toArray) k w K:=by
 rw[X7a (v:=v) (by simpa using f)];exact h
theorem W1 {A:(World->World->Prop)->(World->Prop)->Prop} (f:X3 w σ) (h:A (fun w w'=>Below w.heap.size w w') (fun w'=>Hst w σ w' σ)):dr w A:=
 Q0m _ _ ⟨Stp.of_below f (Below.refl _ _).drew⟩ (fun _ _ c d=>⟨c.stp.trans (Stp.of_below c.sat d)⟩) h
theorem E7 {α:Type} {R:Q2->α->List Value->Prop} {sz:Nat} {v:Value} {xs:List α} {t:TypeId} (c:X3 w σ) (d:Sl sz R σ v xs) (h: ∀a w' σ',Stp w σ w' σ'->U1 σ' a [v]->K (.pointer (some a)) w'):box P t v w K:=
 W7 c (Oo d) h
variable {e : TypeId} {by_ : Nat} {z : Value} {n : Nat}
theorem Q9n {xs:List Kd.Q9} [TS P t e] [TZ P e 1 by_ z] (h:Sl 1 L3 σ v xs) (i:n<xs.length) (g: ∀a,U1 σ a [S xs[n]]->xs[n].length<=V5->K (.pointer (some a)) w):indexAddr P t v (I n) w K:=
 E3 h i fun a cs c j d=>by obtain ⟨rfl,f⟩:=d;exact g a c f
theorem Q64 {xs:List Fld} [TS P t e] [TZ P e 3 by_ z] (h:Sl 3 I1 σ v xs) (i:n<xs.length) (g: ∀a,U1 σ a [S xs[n].name,S xs[n].kind, .bool xs[n].tr]->I1 σ xs[n] [S xs[n].name,S xs[n].kind, .bool xs[n].tr]->K (.pointer (some a)) w):indexAddr P t v (I n) w K:=
 E3 h i fun a cs c j d=>by obtain ⟨rfl,f⟩:=d;exact g a c ⟨rfl,f⟩
end Go.Emb
namespace Go.Hm
open Go.Kd
abbrev Mz:=Q9->Option Cla
def U0 (l:List Cla) (n:Q9):Option Nat:=l.findIdx? fun c=>decide (c.name=n)
def lk (l:List Cla):Mz:=fun n=>(U0 l n).bind (l[·]?)
def L5 (c:Cla):List Q9:=c.super::c.like
def W4:Q9:=[79,98,106,101,99,116]
def C0:Q9:=[70,97,117,108,116]
def G1:Q9:=[110,117,108,108]
def B2:Q9:=[116,101,120,116]
def Wc:Q9:=[119,104,97,116]
def L7:List Q9:=[[78,117,108,108,70,97,117,108,116],[73,110,100,101,120,70,97,117,108,116],[67,97,115,116,70,97,117,108,116],[90,101,114,111,70,97,117,108,116],[82,111,111,109,70,97,117,108,116],[67,97,108,108,70,97,117,108,116]]
def Xb:List Cla:=[⟨W4,[],[],false,false,false,[],[]⟩,⟨C0,W4,[],false,false,false,[⟨Wc,B2,false⟩],[]⟩]++L7.map fun n=>⟨n,C0,[],false,false,true,[],[]⟩
def Mn (L:Mz):Nat->List Q9->List Q9->List Q9
 | 0,_,a=>a
 | _,[],a=>a
 | f+1,n::b,a=>match L n with
  | none=>Mn L f b a
  | some c=>if n∈a then Mn L f b a else Mn L f (b++L5 c) (a++[n])
def weigh (l:List Cla) (a:List Q9):Nat:=(l.map fun c=>if c.name∈a then 0 else (L5 c).length).sum
def Yu:Q9:=[105,110,116]
def Wb:Q9:=[98,111,111,108]
def Qg (l:List Cla) (n:Q9):List Q9:=Mn (lk l) (1+weigh l []) [n] []
def Q3d (l:List Cla) (n:Q9):Bool:=(U0 l n).isSome
def E2 (l:List Cla) (s:Q9):Bool:=decide (s=G1)||(right s&&(plain (base s).1||Q3d l (base s).1))
def Uy (l:List Cla) (a b:Q9):Bool:=
 if !E2 l a|| !E2 l b then false else if a=b then true else if plain a||plain b then false else if a=G1 then true
 else if elem a≠[] then decide (b=W4) else (Qg l a).contains b
def Qq (L:Mz):Nat->Q9->List Cla
 | 0,_=>[]
 | f+1,n=>match L n with
  | none=>[]
  | some c=>c::Qq L f c.super
def chain (l:List Cla) (n:Q9):List Cla:=Qq (lk l) (l.length+1) n
def U5 (l:List Cla) (n:Q9):List Fld:=(chain l n).reverse.flatMap (·.fields)
def Hw (l:List Cla) (n f:Q9):Option Nat:=(U5 l n).findIdx? fun x=>decide (x.name=f)
def T2 (c:Cla) (n:Q9):Option Hm.Met:=c.methods.find? fun m=>decide (m.name=n)
def Ic (L:Mz):Nat->Cla->Q9->Option (Q9×Hm.Met)
 | 0,_,_=>none
 | f+1,c,n=>c.like.findSome? fun u=>match L u with
  | none=>none
  | some d=>match T2 d n with
   | some m=>some (u,m)
   | none=>Ic L f d n
def M7 (l:List Cla) (k n:Q9):Option (Q9×Hm.Met):=
 match (chain l k).findSome? fun c=>(T2 c n).map (c.name,·) with
 | some r=>some r
 | none=>(chain l k).findSome? fun c=>Ic (lk l) (l.length+1) c n
def Yj (l:List Cla) (n:Q9):Bool:=match lk l n with
 | some c=> !c.abs
 | none=>false
def Yc (f:Fld):Q9:=if f.tr then [] else [32]++f.name++[58]++f.kind
def Xi (L:Mz):Nat->Q9->Q9
 | 0,_=>[]
 | f+1,n=>match L n with
  | none=>[]
  | some c=>if n=W4 then [] else n++[40]++Xi L f c.super++[41]++c.fields.flatMap Yc++[46]
def F0 (l:List Cla) (n:Q9):Q9:=Xi (lk l) (l.length+1) n
def F7:List Q9->Q9
 | []=>[]
 | [a]=>a
 | a::b::r=>a++[44]++F7 (b::r)
def Zs (m:Hm.Met):Q9:=[40]++F7 m.params++[41]++m.result
def C2 (l:List Cla) (s:Q9):Bool:= !decide (s=G1)&&E2 l s
def Uk (l:List Cla) (c:Cla):Bool:=c.fields.any fun f=>(Hw l c.super f.name).isSome
def P7 (l:List Cla) (c:Cla):Bool:=c.fields.any (fun f=> !C2 l f.kind)||c.methods.any fun m=>(!C2 l m.result&& !decide (m.result=[]))||m.params.any fun s=> !C2 l s
def Ov (l:List Cla) (n:Q9):List Hm.Met:=(Qg l n).flatMap fun u=>((lk l u).map (·.methods)).getD []
def Hu (a:List Hm.Met):Bool:=a.any fun x=>a.any fun y=>decide (x.name=y.name)&& !decide (Zs x=Zs y)
def Vm (l:List Cla) (c:Cla):Bool:=Hu (Ov l c.name)
def Vd (l:List Cla) (k n:Q9):Bool:=match M7 l k n with
 | none=>true
 | some r=>r.2.abs
def Sw (l:List Cla) (c:Cla):Bool:= !c.abs&&(Ov l c.name).any fun m=>Vd l c.name m.name
def N1 (l:List Cla) (c:Cla):Nat:=if Uk l c then 64 else if P7 l c then 65 else if Vm l c then 66 else if Sw l c then 67 else 0
def Zt (l:List Cla) (n:Q9):Bool:=match lk l n with
 | none=>true
 | some d=>d.iface||d.fin
def G8 (l:List Cla) (n:Q9):Bool:=match lk l n with
 | none=>true
 | some d=> !d.iface
def B1 (l:List Cla) (c:Cla):Nat:=if Zt l c.super then 61 else if c.like.any (G8 l) then 62 else 0
def Xr (l:List Cla) (c:Cla):Bool:=(L5 c).any fun n=>(Qg l n).contains c.name
def Ym (l:List Cla) (frm:Nat):Nat->List Nat->Nat->List Nat
 | 0,out,_=>out
 | f+1,out,i=>if i<frm then out else if i∈out then out else ((L5 (l.getD i Cla.zero)).foldl (fun out n=>Ym l frm f out ((U0 l n).getD 0)) out)++[i]
def N2 (l:List Cla) (frm:Nat):List Nat:=((List.range l.length).drop frm).foldl (fun out i=>Ym l frm (l.length+1) out i) []
end Go.Hm
namespace Go.Emb
open Go.RowKit Go.Hm
variable {P : Program} {w w0 w1 w' w'' : World} {K : Value -> World -> Prop} {σ σ0 σ1 σ' : Q2}
def J6 {α:Type} (B:Nat) (e:TypeId) (sz:Nat) (R:Q2->α->List Value->Prop) (σ:Q2) (w:World) (v:Value) (xs:List α):Prop:=
 ∃a c,v= .slice a xs.length c/\xs.length<=c/\c<=maxLen/\(∀b,a=some b->b.spot=none/\B<=b.block/\b.block<w.heap.size/\σ b.block=none)/\(0<c-> ∃g f d,a=some ⟨g,f,none⟩/\B<=g/\σ g=none/\w.heap[g]? =some (.cells d e (0,0))/\f+c*sz<=d.size/\ ∀i x,xs[i]? =some x->R σ x ((d.toList.drop (f+i*sz)).take sz))
variable {α : Type} {R : Q2 -> α -> List Value -> Prop} {B sz : Nat} {e : TypeId} {v u : Value} {xs ys : List α}
theorem J6.of_acc (h:W2 B e sz R σ w v xs):J6 B e sz R σ w v xs:=by
 obtain ⟨cells,o,j,p⟩:=h
 rcases o.2 with ⟨rfl,n⟩ | ⟨g,b,c,rfl,k,l,d,a,r,f⟩
 .exact ⟨none,0,by rw[n],by omega,by simp,by simp,fun h=>by omega⟩
 .refine ⟨_,b,rfl,d,a,by rintro _ ⟨⟩;exact ⟨rfl,k,(Array.getElem?_eq_some_iff.1 l).1,j g rfl⟩,fun _=>⟨g,0,c,rfl,k,j g rfl,l,by omega,fun i x m=>?_⟩⟩
  have q:i<xs.length:=(List.getElem?_eq_some_iff.1 m).1;have hh:i*sz+sz<=xs.length*sz:=by rw[<-Nat.succ_mul];exact Nat.mul_le_mul_right _ q
  have:=p i x m;rw[<-f,List.drop_take,List.take_take] at this;rw[Nat.zero_add]
  rwa [show min sz (xs.length*sz-i*sz)=sz by omega] at this
theorem J6.mem (h:J6 B e sz R σ w v xs) {k:Nat} (c:v.ownBlock=some k):B<=k/\k<w.heap.size/\σ k=none:=by
 obtain ⟨a,d,rfl,f,g,b,i⟩:=h;cases a with
 | none=>cases c
 | some a=>cases c;exact (b a rfl).2
theorem J6.up [hr:Rep R] (h:J6 B e sz R σ w v xs) (f:Stp w σ w' σ'):J6 B e sz R σ' w' v xs:=by
 obtain ⟨a,j,rfl,o,p,c,q⟩:=h;refine ⟨a,j,rfl,o,p,fun b d=>⟨(c b d).1,(c b d).2.1,Nat.lt_of_lt_of_le (c b d).2.2.1 f.bel.size,(f.old _ (c b d).2.2.1).trans (c b d).2.2.2⟩,fun r=>?_⟩;obtain ⟨g,l,k,rfl,t,y,n,z,A⟩:=q r;have m:=(Array.getElem?_eq_some_iff.1 n).1;exact ⟨g,l,k,rfl,t,(f.old g m).trans y,(f.bel.block g m).trans n,z,fun i x s=>hr.up f.le (A i x s)⟩
theorem J6.step [hr:Rep R] (h:J6 B e sz R σ w v xs) (a:Stp w σ w' σ'):J6 B e sz R σ' w' v xs:=h.up a
theorem J6.kp {D:Nat->Prop} (h:J6 B e sz R σ w v xs) (m:Kpt D w w') (j: ∀k,v.ownBlock=some k-> ¬D k):J6 B e sz R σ w' v xs:=by
 obtain ⟨a,f,rfl,o,p,c,q⟩:=h;refine ⟨a,f,rfl,o,p,fun b d=>⟨(c b d).1,(c b d).2.1,Nat.lt_of_lt_of_le (c b d).2.2.1 m.size,(c b d).2.2.2⟩,fun r=>?_⟩;obtain ⟨g,l,i,rfl,t,y,n,z,A⟩:=q r;have s:=(Array.getElem?_eq_some_iff.1 n).1;exact ⟨g,l,i,rfl,t,y,(m.block g s (j g rfl)).trans n,z,A⟩
theorem Hx {b t:TypeId} {cs:List Bool} [ts:TS P b e] (h:J6 B e sz R σ w v xs) (d:K (I xs.length) w):J7 P .len [b] t cs [v] w K:=by
 obtain ⟨a,c,rfl,_⟩:=h;rw[Q4a];exact d
theorem Q9J {t:TypeId} {c:Nat} {z:Value} [TS P t e] [TZ P e sz c z] (h:J6 B e sz R σ w v xs) {n:Nat} (m:n<xs.length)
 (l: ∀a cs,(∀j u,cs[j]? =some u->w.cell? (a.add j)=some u)->cs.length=sz->R σ xs[n] cs->K (.pointer (some a)) w):indexAddr P t v (I n) w K:=by
 obtain ⟨a,d,rfl,r,s,o,k⟩:=h;obtain ⟨g,i,f,rfl,y,A,p,C,q⟩:=k Q5;rw[Ib Q5 Q5];have hh:n*sz+sz<=d*sz:=by rw[<-Nat.succ_mul];exact Nat.mul_le_mul_right _ Q5
 refine l _ ((f.toList.drop (i+n*sz)).take sz) ?_ ?_ (q n _ (by simp[m]))
 .intro j u b
  rw[List.getElem?_take] at b
  split at b
  .rw[List.getElem?_drop] at b
   unfold World.cell?;rw[I4,I4,Yv,Yv,Qt (Qt rfl _)];simp only[p]
   simpa using b
  .cases b
 .rw[List.length_take,List.length_drop,Array.length_toList];omega
theorem X9w {t:TypeId} {m:Nat} {z:Value} [ts:TS P t e] [tz:TZ P e sz m z] (h:J6 B e sz R σ w v xs) (l:Nat) (M:l<=xs.length)
 (A: ∀k,J6 B e sz R σ w k (xs.drop l)->(k.ownBlock=v.ownBlock\/k.ownBlock=none)->K k w):G7 P t v (some (I l)) none none w K:=by
 obtain ⟨a,c,rfl,s,J,d,p⟩:=h
 have hh: ∀w:World,(Instr.sliceBounds true xs.length c (some (I l)) none none).run P w= .ok (l,xs.length,c) w:=by
  intro w;have r:(l:Int)<=xs.length:=by omega
  simp[Instr.sliceBounds,Instr.sliceBound,asIntOf,s,r]
  intros;omega
 unfold G7
 have:(Instr.sliceAt t (.slice a xs.length c) (some (I l)) none none).run P w= .ok (.slice (if c=l then a else a.map (·.add (l*sz))) (xs.length-l) (c-l)) w:=by
  simp[Instr.sliceAt,run_underlying ts.h,Instr.slice,hh,D9 tz]
 rw[Y4 this];refine A _ ⟨_,c-l,by rw[List.length_drop],by rw[List.length_drop];omega,by omega,?_,fun L=>?_⟩ ?_
 .intro b j
  split at j
  .exact d b j
  .cases a with
   | none=>cases j
   | some a=>cases j;exact ⟨Qt (d a rfl).1 _,by rw[I4];exact (d a rfl).2⟩
 .have y:=p Q5
  clear p;obtain ⟨g,o,n,rfl,C,D,E,N,H⟩:=y;refine ⟨g,o+l*sz,n,?_,C,D,E,?_,fun i x q=>?_⟩
  .rw[if_neg Q5];simp only[Option.map_some];congr 1;unfold Addr.add;split<;>simp_all
  .have:l*sz+(c-l)*sz=c*sz:=by rw[<-Nat.add_mul];congr 1;omega
   omega
  .rw[List.getElem?_drop] at q
   have:=H _ _ q
   rwa [Nat.add_mul,<-Nat.add_assoc] at this
 .left
  by_cases f:c=l
  .rw[if_pos f];cases a<;>rfl
  .rw[if_neg f]
   cases a with
   | none=>rfl
   | some a=>simp only[Option.map_some,Value.ownBlock,I4]
theorem X4o {t Q ty:TypeId} {W:Nat} {z:Value} {cs:List Bool} {news:List Value} [ts:TS P t e] [tz:TZ P e sz W z] [hr:Rep R] (hs:X3 w σ) (hB:B<=w.heap.size) (ha:J6 B e sz R σ w v xs) (q:Src P sz Q u ys.length news w) (n5: ∀j y,ys[j]? =some y->R σ y ((news.drop (j*sz)).take sz)) (hz:(z.cells.size==sz&&decide (0<sz))=true)
 (U:(xs.length+ys.length)*W<=140737488355328) (hm:xs.length+ys.length<=1000000000000)
 (h: ∀r w',Kpt (fun k=>v.ownBlock=some k/\B<=k/\σ k=none) w w'->X3 w' σ->J6 B e sz R σ w' r (xs++ys)->((∃a A,v= .slice a xs.length A/\r= .slice a (xs.length+ys.length) A)\/(Below w.heap.size w w'/\ ∀k,r.ownBlock=some k->w.heap.size<=k))->K r w'):J7 P .append [t,Q] ty cs [v,u] w K:=by
 obtain ⟨s,c,rfl,c1,c2,C,c3⟩:=ha;obtain ⟨i,hi,H,aj,O⟩:=tz.info;simp only[Bool.and_eq_true,beq_iff_eq,decide_eq_true_eq] at hz;obtain ⟨ap,be⟩:=hz
 have J: ∀r w',(Builtin.append_ #[t,Q] ty #[.slice s xs.length c,u]).run P w= .ok r w'->Kpt (fun k=>(Value.slice s xs.length c).ownBlock=some k/\B<=k/\σ k=none) w w'->J6 B e sz R σ w' r (xs++ys)->((∃a A,(Value.slice s xs.length c)= .slice a xs.length A/\r= .slice a (xs.length+ys.length) A)\/(Below w.heap.size w w'/\ ∀k,r.ownBlock=some k->w.heap.size<=k))->J7 P .append [t,Q] ty cs [.slice s xs.length c,u] w K:=by
  intro r w' E hk hq ai
  have N:(builtin .append #[t,Q] ty cs.toArray #[.slice s xs.length c,u]).run P w= .ok (.value r) w':=by
   simp[builtin,E]
  unfold J7;rw[Xu];unfold Xm;rw[N];exact h r w' hk (fun k o ho=>by rw[hk.block k (hs.lt ho) fun e=>by rw[e.2.2] at ho;cases ho];exact hs k o ho) hq ai
 have n2:=q.newsLen;have n4:=q.one;have m:Src P i.size Q u ys.length news w:=by rw[H];exact q
 by_cases p:xs.length+ys.length<=c
 .by_cases L:c=0
  ·-- nothing at all
   subst L;have n:xs=[]:=List.eq_nil_of_length_eq_zero Q5;have hy:ys=[]:=List.eq_nil_of_length_eq_zero Q5;subst n hy;have hn:news=[]:=List.eq_nil_of_length_eq_zero (by simpa using n2)
   subst hn;refine J (.slice s 0 0) w ?_ Kpt.refl ⟨s,0,rfl,by simp,by simp,C,fun h=>by omega⟩ (.inl ⟨_,_,rfl,rfl⟩)
   have hl:=m.len w;have D:=m.cells;simp only[List.length_nil] at hl D⊢
   rcases m.kind with ⟨e',hk⟩ | hk<;>cases s<;>simp[Builtin.append_,run_underlying ts.h,run_underlying hk,sizeOf,typeInfo,hi,hl,D,storeCells]
  .obtain ⟨g,f,d,rfl,q1,q2,q3,q4,q5⟩:=c3 Q5
   have e1:(xs.length+ys.length)*sz<=c*sz:=Nat.mul_le_mul_right _ p;rw[Nat.add_mul] at e1;have Y:=run_storeCells_at P g (f+xs.length*sz) e news 0 d w q3 Q5 n4;simp only[Nat.add_zero] at Y;obtain ⟨aa,ao⟩:=Mg (cs:=(d.toList.take (f+xs.length*sz)++news++d.toList.drop (f+xs.length*sz+news.length)).toArray) q3;refine J (.slice (some ⟨g,f,none⟩) (xs.length+ys.length) c) _ ?_ (Kpt.of_upd aa ⟨rfl,q1,q2⟩) ?_ (.inl ⟨_,_,rfl,rfl⟩)
   .have hl:=m.len w
    have D:=m.cells;rw[H] at D
    rcases m.kind with ⟨e',hk⟩ | hk<;>simp[Builtin.append_,run_underlying ts.h,run_underlying hk,sizeOf,typeInfo,hi,hl,D,H,p,Addr.add_lit,Y]
   .refine ⟨_,c,by rw[List.length_append],by rw[List.length_append];exact p,c2,fun b U=>⟨(C b U).1,(C b U).2.1,by rw[aa.size];exact (C b U).2.2.1,(C b U).2.2.2⟩,fun _=>⟨g,f,_,rfl,q1,q2,ao,?_,fun j x n=>?_⟩⟩
    .simp;omega
    .by_cases V:j<xs.length
     .rw[List.getElem?_append_left V] at n
      have:=q5 j x n;have hh:j*sz+sz<=xs.length*sz:=by rw[<-Nat.succ_mul];exact Nat.mul_le_mul_right _ V
      have e2:((d.toList.take (f+xs.length*sz)++news++d.toList.drop (f+xs.length*sz+news.length)).toArray.toList.drop (f+j*sz)).take sz=(d.toList.drop (f+j*sz)).take sz:=by
       rw[List.toList_toArray,List.append_assoc];rw[List.drop_append_of_le_length (by rw[List.length_take,Array.length_toList (xs:=d)];omega),List.take_append_of_le_length (by rw[List.length_drop,List.length_take,Array.length_toList (xs:=d)];omega),List.drop_take,List.take_take]
       congr 1;omega
      rw[e2];exact this
     .rw[List.getElem?_append_right Q5] at n
      have:=n5 _ _ n;have an:j-xs.length<ys.length:=(List.getElem?_eq_some_iff.1 n).1;have hh:(j-xs.length)*sz+sz<=ys.length*sz:=by rw[<-Nat.succ_mul];exact Nat.mul_le_mul_right _ an
      have ba:j*sz=xs.length*sz+(j-xs.length)*sz:=by rw[<-Nat.add_mul];congr 1;omega
      have e2:((d.toList.take (f+xs.length*sz)++news++d.toList.drop (f+xs.length*sz+news.length)).toArray.toList.drop (f+j*sz)).take sz=(news.drop ((j-xs.length)*sz)).take sz:=by
       rw[List.toList_toArray,List.append_assoc]
       rw[List.drop_append,List.drop_eq_nil_of_le (by rw[List.length_take,Array.length_toList (xs:=d)];omega),List.nil_append,List.length_take,Array.length_toList (xs:=d),
        show f+j*sz-min (f+xs.length*sz) d.size=(j-xs.length)*sz by omega,
        List.drop_append_of_le_length Q5,List.take_append_of_le_length (by rw[List.length_drop];omega)]
      rw[e2];exact this
 ·-- a new row
  have M: ∃l:List Value,l.length=xs.length*sz/\(Builtin.firstCells i.size xs.length (.slice s xs.length c)).run P w.drew= .ok l.toArray w.drew/\ ∀j x,xs[j]? =some x->R σ x ((l.drop (j*sz)).take sz):=by
   by_cases L:c=0
   .subst L
    have n:xs=[]:=List.eq_nil_of_length_eq_zero Q5;subst n;refine ⟨[],by simp,?_,by simp⟩
    cases s with
    | none=>exact run_firstCells_none w.drew i.size 0 0 0
    | some a'=>exact run_firstCells_some w.drew i.size 0 a' 0 0 [] V0 (by intro _ _ h';simp at h')
   .obtain ⟨g,f,d,rfl,q1,q2,q3,q4,q5⟩:=c3 Q5
    have e1:xs.length*sz<=c*sz:=Nat.mul_le_mul_right _ c1;refine ⟨(d.toList.drop f).take (xs.length*sz),by rw[List.length_take,List.length_drop,Array.length_toList (xs:=d)];omega,?_,fun j x n=>?_⟩
    .refine run_firstCells_some w.drew i.size xs.length ⟨g,f,none⟩ xs.length c _ (by rw[List.length_take,List.length_drop,Array.length_toList (xs:=d),H];omega) (fun j u Z=>?_)
     rw[List.getElem?_take] at Z
     split at Z
     .rw[List.getElem?_drop] at Z
      have av:w.drew.heap[g]? =some (.cells d e (0,0)):=q3;unfold World.cell?;rw[I4,Yv,Qt rfl];simp only[av]
      simpa using Z
     .cases Z
    .have V:j<xs.length:=(List.getElem?_eq_some_iff.1 n).1
     have hh:j*sz+sz<=xs.length*sz:=by rw[<-Nat.succ_mul];exact Nat.mul_le_mul_right _ V
     have:=q5 j x n;rw[List.drop_take,List.take_take,List.drop_drop,show min sz (xs.length*sz-j*sz)=sz by omega]
     exact this
  obtain ⟨l,o1,o2,o3⟩:=M;have hg:c<xs.length+ys.length:=by omega
  have E:=run_append_grow_src (P:=P) w t Q ty e i z ts.h hi O s xs.length c l o2 (u) ys.length news m hg Q5 (growslice_fits hg (by rw[aj];exact U))
  have ak:=grownCap_le_maxLen w (xs.length+ys.length) c e (by simp only[maxLen];omega)
  have al:=grownCap_ge w (xs.length+ys.length) c e;have hL:(l++news).length=(xs.length+ys.length)*sz:=by rw[List.length_append,o1,n2,Nat.add_mul]
  refine J _ _ E ?_ ?_ (.inr ⟨(Below.refl _ _).drew.alloc (Nat.le_refl _) _,by intro k hk;cases hk;exact Nat.le_refl _⟩)
  .exact Kpt.of_below ((Below.refl _ _).drew.alloc (Nat.le_refl _) _)
  .refine ⟨_,_,by rw[List.length_append],by rw[List.length_append];exact al,ak,by rintro _ ⟨⟩;exact ⟨rfl,hB,(Array.getElem?_eq_some_iff.1 (heap_alloc_new w.drew _)).1,hs.none (Nat.le_refl _)⟩,fun _=>⟨w.heap.size,0,_,rfl,hB,hs.none (Nat.le_refl _),heap_alloc_new w.drew _,?_,fun j x n=>?_⟩⟩
   .rw[Array.size_append,List.size_toArray,hL,size_zeroCells,ap,<-Nat.add_mul]
    rw[Nat.zero_add];exact Nat.mul_le_mul_right _ Q5
   .rw[Nat.zero_add,Array.toList_append]
    have V:j<xs.length+ys.length:=by have:=(List.getElem?_eq_some_iff.1 n).1;rwa [List.length_append] at this
    have hh:j*sz+sz<=(xs.length+ys.length)*sz:=by rw[<-Nat.succ_mul];exact Nat.mul_le_mul_right _ V
    rw[List.drop_append_of_le_length (by simp only[List.toList_toArray];omega),List.take_append_of_le_length (by rw[List.length_drop];simp only[List.toList_toArray];omega)]
    simp only[List.toList_toArray]
    by_cases X:j<xs.length
    .rw[List.getElem?_append_left X] at n
     rw[Oq l news xs.length j o1 X];exact o3 j x n
    .rw[List.getElem?_append_right Q5] at n
     have:=n5 _ _ n;rw[show j*sz=l.length+(j-xs.length)*sz by rw[o1,<-Nat.add_mul];congr 1;omega,List.drop_append]
     simpa [List.drop_eq_nil_of_le] using this
theorem Q10 {t E:TypeId} {d:Nat} {z:Value} {cs:List Bool} [ts:TS P t e] [tz:TZ P e sz d z] [hr:Rep R] (i:X3 w σ) (hB:B<=w.heap.size) (o:J6 B e sz R σ w v xs) (j:Sl sz R σ u ys) (s:(z.cells.size==sz&&decide (0<sz))=true)
 (p:(xs.length+ys.length)*d<=140737488355328) (q:xs.length+ys.length<=1000000000000)
 (h: ∀f w',Kpt (fun k=>v.ownBlock=some k/\B<=k/\σ k=none) w w'->X3 w' σ->J6 B e sz R σ w' f (xs++ys)->((∃a c,v= .slice a xs.length c/\f= .slice a (xs.length+ys.length) c)\/(Below w.heap.size w w'/\ ∀k,f.ownBlock=some k->w.heap.size<=k))->K f w'):J7 P .append [t,t] E cs [v,u] w K:=by
 obtain ⟨a,c,news,rfl,y,m,A,C,D⟩:=j.cells i;refine X4o i hB o (news:=news) ?_ D s p q h;cases a with
 | some b=>exact Src.ofSlice w ts.h b ys.length c news m (A b rfl) C
 | none=>
  have l:ys.length=0:=by
   obtain ⟨H,g,n,J,_,L,_⟩:=j;injection n with e1 e2 e3;have:=y rfl;omega
  have r:news=[]:=List.eq_nil_of_length_eq_zero (by rw[m,l];simp)
  subst r;rw[l];exact Src.ofNil w ts.h c
theorem H8 {b:Nat} (h:w1.heap.size<=b) (k:Stp w σ w1 σ1):w.heap.size<=b:=Nat.le_trans k.bel.size h
theorem D2 {t:TypeId} {sz a:Nat} {z:Value} [tz:TZ P t sz a z] (g:X3 w σ) (h: ∀b w' σ',w.heap.size<=b->Stp w σ w' σ'->Z0 σ' w' b z.cells.toList->K (.pointer (some ⟨b,0,none⟩)) w'):T4 P t w K:=
 Q0e g fun b w' c d f=>h b w' σ c d f
theorem Rc {t:TypeId} {cs:List Value} (f:X3 w σ) (h: ∀b w' σ',w.heap.size<=b->Stp w σ w' σ'->Z0 σ' w' b cs->K (.pointer (some ⟨b,0,none⟩)) w'):box P t (.agg cs.toArray) w K:=
 Q8Q f fun b w' a c d=>h b w' σ a c (by simpa [Value.cells] using d)
theorem Qi {t:TypeId} {sz a:Nat} {z:Value} [tz:TZ P t sz a z] {b:Nat} {cs ds:List Value} (d:Z0 σ w b cs) (g:Stp w0 σ0 w σ) (i:w0.heap.size<=b) (k:cs.length=sz) (j:ds.length=sz) (f: ∀u∈ds,u.oneCell'=true)
 (h: ∀w',Hst w0 σ0 w' σ->Z0 σ w' b ds->K undef w'):U3 P t (.pointer (some ⟨b,0,none⟩)) (.agg ds.toArray) w K:=
 My d k j (by rw[List.all_toArray];exact List.all_eq_true.2 f) fun w' l c=>h w' ⟨l.stp g i d.1⟩ c
structure Nxt (D : Nat -> Prop) (w : World) (σ : Q2) (w' : World) (σ' : Q2) : Prop where
  kp : Kpt D w w'
  le : SLe σ σ'
  old : ∀ k, k < w.heap.size -> σ' k = σ k
  sat : X3 w' σ'
theorem Nxt.of_stp {D:Nat->Prop} (h:Stp w σ w' σ'):Nxt D w σ w' σ':=⟨Kpt.of_below h.bel,⟨h.le⟩,h.old,h.sat⟩
theorem Nxt.mono {D D':Nat->Prop} (h:Nxt D w σ w' σ') (a: ∀k,k<w.heap.size->D k->D' k):Nxt D' w σ w' σ':=⟨h.kp.mono a,h.le,h.old,h.sat⟩
theorem Nxt.trans {D:Nat->Prop} (h:Nxt D w σ w' σ') (k:Nxt D w' σ' w'' σ1):Nxt D w σ w'' σ1:=
 ⟨h.kp.trans k.kp,h.le.more k.le,fun i a=>(k.old i (Nat.lt_of_lt_of_le a h.kp.size)).trans (h.old i a),k.sat⟩
theorem Z0.nx {D:Nat->Prop} {b:Nat} {cs:List Value} (h:Z0 σ w b cs) (k:Nxt D w σ w' σ') (f: ¬D b):Z0 σ' w' b cs:=by
 have a:=h.lt;obtain ⟨c,e,d⟩:=h;exact ⟨(k.old b a).trans c,e,(k.kp.block b a f).trans d⟩
theorem K3.nx {D:Nat->Prop} {r:Nat} {m:List (List UInt8×Value)} (h:K3 σ w r m) (k:Nxt D w σ w' σ') (a: ¬D r):K3 σ' w' r m:=
 ⟨(k.old r h.lt).trans h.1,(k.kp.block r h.lt a).symm▸h.2⟩
variable {x : α}
theorem W2.nx [hr:Rep R] {D:Nat->Prop} (h:W2 B e sz R σ w v xs) (k:Nxt D w σ w' σ') (g: ∀k,v.ownBlock=some k-> ¬D k):W2 B e sz R σ' w' v xs:=by
 have b:=h.kp k.kp g;obtain ⟨cells,c,d,f⟩:=b;refine ⟨cells,c,fun i a=>(k.old i (h.mem i a).2.1).trans (d i a),fun i x j=>hr.up k.le.le (f i x j)⟩
theorem J6.nx [hr:Rep R] {D:Nat->Prop} (h:J6 B e sz R σ w v xs) (k:Nxt D w σ w' σ') (s: ∀k,v.ownBlock=some k-> ¬D k):J6 B e sz R σ' w' v xs:=by
 obtain ⟨a,f,rfl,o,p,c,q⟩:=h;refine ⟨a,f,rfl,o,p,fun b d=>⟨(c b d).1,(c b d).2.1,Nat.lt_of_lt_of_le (c b d).2.2.1 k.kp.size,(k.old _ (c b d).2.2.1).trans (c b d).2.2.2⟩,fun r=>?_⟩;obtain ⟨g,l,j,rfl,y,z,n,A,C⟩:=q r;have m:=(Array.getElem?_eq_some_iff.1 n).1;exact ⟨g,l,j,rfl,y,(k.old g m).trans z,(k.kp.block g m (s g rfl)).trans n,A,fun i x t=>hr.up k.le.le (C i x t)⟩
theorem Jy {t E:TypeId} {c:Nat} {z:Value} {cs:List Bool} {A:Value->Value->World->Prop} [ts:TS P t e] [tz:TZ P e sz c z] [hr:Rep R] (m:Stp w0 σ0 w σ) (o:W2 w0.heap.size e sz R σ w v xs) (C:R σ x u.cells.toList) (q:u.cells.size=sz) (D:(z.cells.size==sz&&decide (0<sz))=true) (l:(decide (0<sz)&&decide ([u].length*sz<=16777216))=true)
 (p:(xs.length+1)*c<=140737488355328) (y:xs.length+1<=9223372036854775807)
 (h: ∀s b w' σ',Nxt (fun k=>v.ownBlock=some k) w σ w' σ'->Stp w0 σ0 w' σ'->W2 w0.heap.size e sz R σ' w' b (xs++[x])->(b.ownBlock=v.ownBlock\/ ∀k,b.ownBlock=some k->w.heap.size<=k)->A s b w'):
 buildSlice P t 1 [(0,u)] w (fun s w=>J7 P .append [t,t] E cs [v,s] w (fun b w=>A s b w)):=by
 refine B7 m.sat [u] [x] rfl rfl (by simpa using q) l ⟨C,trivial⟩ fun s w1 σ1 a j=>?_
 refine app (m.trans a) (o.up a) j D (by simpa using p) (by simpa using y) fun b n r d f hat=>?_
 have i:Kpt (fun k=>v.ownBlock=some k) w n:=(Kpt.of_below a.bel).trans (Kpt.of_grown r fun k a=>a);refine h s b n σ1 ⟨i,⟨a.le⟩,a.old,d.sat⟩ d f ?_
 rcases hat with hat | hat
 .exact .inl hat
 .exact .inr fun k g=>Nat.le_trans a.bel.size (hat k g)
theorem Mj {t q:TypeId} {b:Nat} {z:Value} {cs:List Bool} {ys:List α} [ts:TS P t e] [tz:TZ P e sz b z] [hr:Rep R] (g:Stp w0 σ0 w σ) (i:W2 w0.heap.size e sz R σ w v xs) (o:Sl sz R σ u ys) (p:(z.cells.size==sz&&decide (0<sz))=true)
 (j:(xs.length+ys.length)*b<=140737488355328) (n:xs.length+ys.length<=9223372036854775807)
 (h: ∀a w',Nxt (fun k=>v.ownBlock=some k) w σ w' σ->Stp w0 σ0 w' σ->W2 w0.heap.size e sz R σ w' a (xs++ys)->(a.ownBlock=v.ownBlock\/ ∀k,a.ownBlock=some k->w.heap.size<=k)->K a w'):J7 P .append [t,t] q cs [v,u] w K:=
 app g i o p j n fun a r l c d f=>h a r ⟨Kpt.of_grown l fun k m=>m,SLe.refl _,fun _ _=>rfl,c.sat⟩ c d f
theorem J6.mono {B':Nat} (h:J6 B e sz R σ w v xs) (k:B'<=B):J6 B' e sz R σ w v xs:=by
 obtain ⟨a,f,rfl,l,m,d,n⟩:=h;refine ⟨a,f,rfl,l,m,fun b c=>⟨(d b c).1,Nat.le_trans k (d b c).2.1,(d b c).2.2⟩,fun o=>?_⟩;obtain ⟨g,j,i,rfl,p,q⟩:=n o;exact ⟨g,j,i,rfl,Nat.le_trans k p,q⟩
theorem J6.own (h:J6 B e sz R σ w v xs) {k:Nat} (a:v.ownBlock=some k):B<=k:=(h.mem a).1
theorem J6.keep [hr:Rep R] (h:J6 w0.heap.size e sz R σ w v xs) (n:Stp w0 σ0 w σ): ∃σ',Stp w0 σ0 w σ'/\Sl sz R σ' v xs/\SLe σ σ'/\(∀k,some k≠v.ownBlock->σ' k=σ k):=by
 obtain ⟨a,f,rfl,r,s,o,t⟩:=h
 by_cases z:f=0
 .have m:xs=[]:=List.eq_nil_of_length_eq_zero Q5
  subst z m;exact ⟨σ,n,⟨a,0,rfl,by simp,by simp,fun _=>rfl,fun b y=>⟨fun _=>(o b y).1,by simp⟩⟩,SLe.refl _,fun _ _=>rfl⟩
 .obtain ⟨g,p,c,rfl,C,q,D,J,E⟩:=t Q5
  have d:=Q2.put_le n.sat q (.cells c e (0,0));refine ⟨σ.put g (.cells c e (0,0)),n.put q C D,⟨_,f,rfl,r,s,by simp,?_⟩,⟨d⟩,?_⟩
  .rintro _ ⟨⟩
   refine ⟨fun _=>rfl,fun i x m=>⟨(c.toList.drop (p+i*sz)).take sz,⟨Qt rfl _,c,e,(0,0),by rw[I4];simp[Q2.put],?_⟩,?_,hr.up d (E i x m)⟩⟩
   .intro j u l
    rw[Yv];rw[List.getElem?_take] at l
    split at l
    .rw[List.getElem?_drop] at l;simpa using l
    .cases l
   .have H:i<xs.length:=(List.getElem?_eq_some_iff.1 m).1
    have h:i*sz+sz<=f*sz:=by rw[<-Nat.succ_mul];exact Nat.mul_le_mul_right _ Q5
    rw[List.length_take,List.length_drop,Array.length_toList (xs:=c)];omega
  .intro k A
   have:k≠g:=by intro e;subst e;exact A rfl
   simp only[Q2.put,if_neg this]
theorem Q6f {t U:TypeId} {C:Nat} {z:Value} {A:Value->Value->World->Prop} {ds:List Value} [ts:TS P t e] [tz:TZ P e sz C z] {s:Nat} {z':Value} [tz':TZ P U sz s z'] (Z:Stp w0 σ0 w σ) (ha:J6 w0.heap.size e sz R σ w v xs) {n:Nat} (hn:n<xs.length) (D:ds.length=sz) (hx:R σ x ds) (Y: ∀u∈ds,u.oneCell'=true)
 (h: ∀p u w',Kpt (fun k=>v.ownBlock=some k) w w'->Hst w0 σ0 w' σ->J6 w0.heap.size e sz R σ w' v (xs.set n x)->A p u w'):
 indexAddr P t v (I n) w (fun p w=>U3 P U p (.agg ds.toArray) w (fun u w=>A p u w)):=by
 obtain ⟨a,f,rfl,V,W,i,X⟩:=ha;obtain ⟨g,c,d,rfl,N,O,Q,q4,q5⟩:=X Q5;rw[Ib Q5 Q5];have hh:n*sz+sz<=f*sz:=by rw[<-Nat.succ_mul];exact Nat.mul_le_mul_right _ Q5
 have m:(⟨g,c,none⟩:Addr).add ((n:Int).toNat*sz)=⟨g,c+n*sz,none⟩:=by unfold Addr.add;split<;>simp_all
 rw[m];have o:=run_storeCells_at P g (c+n*sz) e ds 0 d w Q Q5 Y;simp only[Nat.add_zero] at o;obtain ⟨l,L⟩:=Mg (cs:=(d.toList.take (c+n*sz)++ds++d.toList.drop (c+n*sz+ds.length)).toArray) Q;unfold U3
 rw[Vn (w':=w.setRow g (d.toList.take (c+n*sz)++ds++d.toList.drop (c+n*sz+ds.length)).toArray) (by
  simp[Instr.storeAt,Instr.sureAddr,storeVar,D9 tz',Value.cells,D]
  simpa [D] using o)]
 have hk:Kpt (fun k=>(Value.slice (some ⟨g,c,none⟩) xs.length f).ownBlock=some k) w (w.setRow g (d.toList.take (c+n*sz)++ds++d.toList.drop (c+n*sz+ds.length)).toArray):=Kpt.of_upd l rfl;refine h _ _ _ hk ⟨l.stp Z N O⟩ ⟨_,f,by rw[List.length_set],by rw[List.length_set];exact V,W,fun b r=>⟨(i b r).1,(i b r).2.1,by rw[l.size];exact (i b r).2.2.1,(i b r).2.2.2⟩,fun _=>⟨g,c,_,rfl,N,O,L,?_,fun j y q=>?_⟩⟩
 .simp;omega
 .rw[List.toList_toArray]
  have ab:=Array.length_toList (xs:=d);have H:j<xs.length:=by have:=(List.getElem?_eq_some_iff.1 q).1;simpa using this
  have ac:j*sz+sz<=f*sz:=by rw[<-Nat.succ_mul];exact Nat.mul_le_mul_right _ Q5
  by_cases M:j=n
  .subst M
   rw[List.getElem?_set_self H] at q;cases q;rw[List.append_assoc,List.drop_append,List.drop_eq_nil_of_le (by rw[List.length_take];omega),List.nil_append,List.length_take,show c+j*sz-min (c+j*sz) d.toList.length=0 by omega,List.drop_zero,List.take_append_of_le_length Q5,List.take_of_length_le Q5]
   exact hx
  .rw[List.getElem?_set_ne Q5] at q
   have:=q5 j y q
   rcases Nat.lt_or_gt_of_ne M with J | hgt
   .have E:j*sz+sz<=n*sz:=by rw[<-Nat.succ_mul];exact Nat.mul_le_mul_right _ J
    rw[List.append_assoc,List.drop_append_of_le_length (by rw[List.length_take];omega),List.take_append_of_le_length (by rw[List.length_drop,List.length_take];omega),List.drop_take,List.take_take]
    rwa [show min sz (c+n*sz-(c+j*sz))=sz by omega]
   .have E:n*sz+sz<=j*sz:=by rw[<-Nat.succ_mul];exact Nat.mul_le_mul_right _ hgt
    rw[List.drop_append,List.drop_eq_nil_of_le (by rw[List.length_append,List.length_take];omega),List.nil_append,List.length_append,List.length_take,List.drop_drop,D]
    rwa [show c+n*sz+sz+(c+j*sz-(min (c+n*sz) d.toList.length+sz))=c+j*sz by omega]
theorem Q9g (p:Nat->Prop): ∀n,p n-> ∃m,p m/\ ∀k,p k->m<=k:=by
 intro n
 induction n using Nat.strongRecOn with
 | _ n g=>
  intro h
  by_cases b: ∃k,k<n/\p k
  .obtain ⟨k,c,d⟩:=b;exact g k c d
  .exact ⟨n,h,fun k f=>Nat.le_of_not_lt fun a=>b ⟨k,a,f⟩⟩
noncomputable def Q49 (p:Nat->Prop):Nat:=open Classical in if h: ∃m,p m/\ ∀k,p k->m<=k then Classical.choose h else 0
theorem Q3j {p:Nat->Prop} {n:Nat} (h:p n):p (Q49 p)/\Q49 p<=n:=by
 have a:=Q9g p n h;unfold Q49;rw[dif_pos a];exact ⟨(Classical.choose_spec a).1,(Classical.choose_spec a).2 n h⟩
theorem Q0v {α:Type} {x0:α} {A:(α->World->Prop)->α->(Nat->Value)->World->Prop} (I:Nat->α->World->Prop) (n:Nat) (h:I n x0 w)
 (k: ∀a n x d w,I n x w->(∀b c w',b<n->I b c w'->a c w')->A a x d w):lp x0 w A:=by
 refine Mc (fun x w=> ∃n,I n x w) (fun x w=>Q49 fun n=>I n x w) ⟨n,h⟩ ?_;rintro x d w ⟨n,j⟩;obtain ⟨i,l⟩:=Q3j (p:=fun n=>I n x w) j;refine k _ _ x d w i fun b c w' f g=>⟨⟨b,g⟩,?_⟩;exact Nat.lt_of_le_of_lt (Q3j (p:=fun n=>I n c w') g).2 f
theorem J6.below (h:J6 B e sz R σ w v xs) (a:Below w.heap.size w w'):J6 B e sz R σ w' v xs:=h.kp (D:=fun _=>False) (.of_below a) fun _ _=>id
theorem J6.pre {a:Option Addr} {n m b:Nat} (h:J6 B e sz R σ w (.slice a m b) (xs++ys)) (y:n=xs.length):J6 B e sz R σ w (.slice a n b) xs:=by
 obtain ⟨H,j,t,p,q,d,r⟩:=h
 injection t with l e2 o
 subst l o y;rw[List.length_append] at p;refine ⟨a,b,rfl,by omega,q,d,fun s=>?_⟩
 obtain ⟨g,f,c,q0,z,A,C,D,E⟩:=r s;exact ⟨g,f,c,q0,z,A,C,D,fun i x k=>E i x (by rw[List.getElem?_append_left (List.getElem?_eq_some_iff.1 k).1];exact k)⟩
def Tn (B:Nat) (e:TypeId) (sz:Nat) (R:Q2->α->List Value->Prop) (σ:Q2) (v:Value) (xs:List α) (x:α) (w1 c:World):Prop:=
 Kpt (fun k=>v.ownBlock=some k) w1 c/\(J6 B e sz R σ w1 v xs->J6 B e sz R σ c v xs)/\
  ∀a b,v= .slice a xs.length b->J6 B e sz R σ w1 (.slice a (xs.length+1) b) (xs++[x])->J6 B e sz R σ c (.slice a (xs.length+1) b) (xs++[x])
theorem Tn.below (a:Below w.heap.size w w'):Tn B e sz R σ v xs x w w':=⟨.of_below a,fun h=>h.below a,fun _ _ _ h=>h.below a⟩
theorem Tn.refl:Tn B e sz R σ v xs x w w:=Tn.below (Below.refl _ _)
def VQa (N B:Nat) (e:TypeId) (sz:Nat) (R:Q2->α->List Value->Prop) (σ:Q2) (v:Value) (xs:List α) (x:α) (c:Value) (w:World):Prop:=
 J6 B e sz R σ w c (xs++[x])/\((∃a b,v= .slice a xs.length b/\c= .slice a (xs.length+1) b)\/((∀k,c.ownBlock=some k->N<=k)/\ ∀k,v.ownBlock=some k->k<N))
theorem VQa.stable {N:Nat} {j:Value} (h:VQa N B e sz R σ v xs x j w) (i:Tn B e sz R σ v xs x w w'):VQa N B e sz R σ v xs x j w':=by
 obtain ⟨g,b⟩:=h;refine ⟨?_,b⟩
 rcases b with ⟨a,c,d,rfl⟩ | ⟨b,d⟩
 .exact i.2.2 a c d g
 .exact g.kp i.1 fun k l f=>by have:=b k l;have:=d k f;omega
theorem Kpt.more {D E:Nat->Prop} (h:Kpt D w w') (k:Kpt E w' w'') (hE: ∀j,E j->w.heap.size<=j):Kpt D w w'':=
 ⟨k.os.trans h.os,k.tape.trans h.tape,k.output.trans h.output,Nat.le_trans h.size k.size,fun i a b=>(k.block i (Nat.lt_of_lt_of_le a h.size) fun e=>by have:=hE i e;omega).trans (h.block i a b)⟩
end Go.Emb
namespace Go.Hm
open Go.Kd
theorem M6 {l:List Cla} {n:Q9} {c:Cla} (h:lk l n=some c):c.name=n/\c∈l/\ ∃i,U0 l n=some i/\l[i]? =some c:=by
 unfold lk at h;cases a:U0 l n with
 | none=>rw[a] at h;cases h
 | some i=>
  rw[a] at h;obtain ⟨b,e,_⟩:=List.findIdx?_eq_some_iff_getElem.1 a;have d:l[i]? =some c:=h;rw[List.getElem?_eq_getElem b] at d;cases d;exact ⟨by simpa using e,List.getElem_mem b,i,rfl,List.getElem?_eq_getElem b⟩
theorem Vl {l:List Cla} {n:Q9} {i:Nat} (h:U0 l n=some i): ∃c,lk l n=some c/\l[i]? =some c/\c.name=n:=by
 obtain ⟨a,b,_⟩:=List.findIdx?_eq_some_iff_getElem.1 h;refine ⟨l[i],?_,List.getElem?_eq_getElem a,by simpa using b⟩
 unfold lk;rw[h];simp[a]
theorem Q46 {l:List Cla} {n:Q9}:Q3d l n=(lk l n).isSome:=by
 unfold Q3d;cases a:U0 l n with
 | none=>simp[lk,a]
 | some i=>obtain ⟨c,h,_⟩:=Vl a;simp[h]
theorem X43 {l:List Cla} {c:Cla} (h:c∈l): ∃d,lk l c.name=some d:=by
 cases a:U0 l c.name with
 | none=>
  have:=List.findIdx?_eq_none_iff.1 a c h
  simp at this
 | some i=>obtain ⟨d,h,_⟩:=Vl a;exact ⟨d,h⟩
inductive Reach (L : Mz) : Q9 -> Q9 -> Prop
  | refl {a : Q9} {c : Cla} : L a = some c -> Reach L a a
  | step {a u b : Q9} {c : Cla} : L a = some c -> u ∈ L5 c -> Reach L u b -> Reach L a b
theorem Reach.trans {L:Mz} {a b d:Q9} (h:Reach L a b) (k:Reach L b d):Reach L a d:=by
 induction h with
 | refl _=>exact k
 | step c e _ f=>exact .step c e (f k)
theorem Reach.right {L:Mz} {a b:Q9} (h:Reach L a b): ∃c,L b=some c:=by
 induction h with
 | refl h=>exact ⟨_,h⟩
 | step _ _ _ d=>exact d
theorem Reach.left {L:Mz} {a b:Q9} (h:Reach L a b): ∃c,L a=some c:=by
 cases h with
 | refl h=>exact ⟨_,h⟩
 | step h _ _=>exact ⟨_,h⟩
theorem Q3X (L:Mz): ∀(f:Nat) (a b:List Q9),∃r,Mn L f a b=b++r:=by
 intro f
 induction f with
 | zero=>intro a b;exact ⟨[],by simp[Mn]⟩
 | succ f c=>
  intro a b;cases a with
  | nil=>exact ⟨[],by simp[Mn]⟩
  | cons n a=>
   simp only[Mn]
   split
   .exact c _ _
   .split
    .exact c _ _
    .obtain ⟨r,d⟩:=c (a++L5 ‹_›) (b++[n])
     exact ⟨n::r,by rw[d];simp⟩
theorem X3s (L:Mz): ∀(f:Nat) (a b:List Q9) (x:Q9),x∈Mn L f a b->x∈b\/ ∃t∈a,Reach L t x:=by
 intro f
 induction f with
 | zero=>intro a b x h;exact .inl h
 | succ f d=>
  intro a b x h;cases a with
  | nil=>exact .inl h
  | cons n a=>
   simp only[Mn] at h
   split at h
   .rcases d _ _ _ h with h | ⟨t,ht,h⟩
    .exact .inl h
    .exact .inr ⟨t,by simp[ht],h⟩
   .rename_i c e
    split at h
    .rcases d _ _ _ h with h | ⟨t,ht,h⟩
     .exact .inl h
     .exact .inr ⟨t,by simp[ht],h⟩
    .rcases d _ _ _ h with h | ⟨t,ht,h⟩
     .rcases List.mem_append.1 h with h | h
      .exact .inl h
      .simp at h;subst h;exact .inr ⟨x,by simp, .refl e⟩
     .rcases List.mem_append.1 ht with ht | ht
      .exact .inr ⟨t,by simp[ht],h⟩
      .exact .inr ⟨n,by simp, .step e ht h⟩
theorem X62 (l:List Cla) (a b:List Q9) (h: ∀x∈a,x∈b):weigh l b<=weigh l a:=by
 unfold weigh
 induction l with
 | nil=>simp
 | cons c r e=>
  simp only[List.map_cons,List.sum_cons]
  by_cases d:c.name∈a
  .rw[if_pos d,if_pos (h _ d)];omega
  .rw[if_neg d];split<;>omega
theorem Q1A (l:List Cla) (a:List Q9) (c:Cla) (hc:c∈l) (f:c.name∉a):weigh l (a++[c.name])+(L5 c).length<=weigh l a:=by
 unfold weigh
 induction l with
 | nil=>simp at hc
 | cons d r h=>
  simp only[List.map_cons,List.sum_cons];have e:weigh r (a++[c.name])<=weigh r a:=X62 _ _ _ (by simp;intro x g;exact .inl g)
  unfold weigh at e
  rcases List.mem_cons.1 hc with rfl | hc
  .rw[if_pos (by simp),if_neg f];omega
  .have:=h hc
   by_cases b:d.name∈a
   .rw[if_pos (by simp[b]),if_pos b];omega
   .rw[if_neg b];split<;>omega
theorem X4X (l:List Cla): ∀(f:Nat) (a b:List Q9),a.length+weigh l b<=f->
 (∀x∈b,∀c,lk l x=some c-> ∀u∈L5 c,∀d,lk l u=some d->u∈b\/u∈a)->
 (∀t∈a,∀d,lk l t=some d->t∈Mn (lk l) f a b)/\ ∀x∈Mn (lk l) f a b,∀c,lk l x=some c-> ∀u∈L5 c,∀d,lk l u=some d->u∈Mn (lk l) f a b:=by
 intro f
 induction f with
 | zero=>
  intro a b w o;have:a=[]:=List.eq_nil_of_length_eq_zero (by omega)
  subst this;refine ⟨by simp,fun x hx c i u j d g=>?_⟩
  rcases o x hx c i u j d g with h | h
  .exact h
  .simp at h
 | succ f v=>
  intro a b w o;cases a with
  | nil=>
   refine ⟨by simp,fun x hx c i u j d g=>?_⟩
   rcases o x hx c i u j d g with h | h
   .exact h
   .simp at h
  | cons n a=>
   simp only[List.length_cons] at w;simp only[Mn]
   split
   .rename_i y
    obtain ⟨p,q⟩:=v a b (by omega) (fun x hx c i u j d g=>by
     rcases o x hx c i u j d g with h | h
     .exact .inl h
     .rcases List.mem_cons.1 h with rfl | h
      .rw[y] at g;cases g
      .exact .inr h)
    refine ⟨fun t ht d g=>?_,q⟩
    rcases List.mem_cons.1 ht with rfl | ht
    .rw[y] at g;cases g
    .exact p t ht d g
   .rename_i c i
    split
    .rename_i k
     obtain ⟨r,s⟩:=Q3X (lk l) f a b
     obtain ⟨p,q⟩:=v a b (by omega) (fun x hx c i u j d g=>by
      rcases o x hx c i u j d g with h | h
      .exact .inl h
      .rcases List.mem_cons.1 h with rfl | h
       .exact .inl k
       .exact .inr h)
     refine ⟨fun t ht d g=>?_,q⟩
     rcases List.mem_cons.1 ht with rfl | ht
     .rw[s];simp[k]
     .exact p t ht d g
    .rename_i k
     obtain ⟨e,A,_⟩:=M6 i;have B:=Q1A l b c A (by rw[e];exact k)
     rw[e] at B
     obtain ⟨p,q⟩:=v (a++L5 c) (b++[n]) (by rw[List.length_append];omega) (fun x hx z m u j d g=>by
      rcases List.mem_append.1 hx with hx | hx
      .rcases o x hx z m u j d g with h | h
       .exact .inl (by simp[h])
       .rcases List.mem_cons.1 h with rfl | h
        .exact .inl (by simp)
        .exact .inr (by simp[h])
      .simp at hx;subst hx
       rw[i] at m;cases m;exact .inr (by simp[j]))
     refine ⟨fun t ht d g=>?_,q⟩
     rcases List.mem_cons.1 ht with rfl | ht
     .obtain ⟨r,s⟩:=Q3X (lk l) f (a++L5 c) (b++[t])
      rw[s];simp
     .exact p t (by simp[ht]) d g
theorem Mh {l:List Cla} {a b:Q9}:b∈Qg l a↔Reach (lk l) a b:=by
 obtain ⟨g,i⟩:=X4X l (1+weigh l []) [a] [] (by simp) (by simp)
 constructor
 .intro h
  rcases X3s _ _ _ _ _ h with h | ⟨t,e,f⟩
  .simp at h
  .simp at e;subst e;exact f
 .intro h
  have key: ∀{x y:Q9},Reach (lk l) x y->x∈Qg l a->y∈Qg l a:=by
   intro x y h
   induction h with
   | refl _=>exact id
   | step j m k o=>
    intro n;obtain ⟨d,c⟩:=k.left;exact o (i _ n _ j _ m _ c)
  obtain ⟨d,c⟩:=h.left;exact key h (g a (by simp) d c)
theorem X4Y (l:List Cla): ∀(f:Nat) (a b:List Q9),a.length+weigh l b<=f-> ∀k,Mn (lk l) (f+k) a b=Mn (lk l) f a b:=by
 intro f
 induction f with
 | zero=>
  intro a b h k;have:a=[]:=List.eq_nil_of_length_eq_zero (by omega)
  subst this;cases k<;>rfl
 | succ f g=>
  intro a b h k;cases a with
  | nil=>rw[Nat.succ_add];rfl
  | cons n a=>
   simp only[List.length_cons] at h;rw[Nat.succ_add];simp only[Mn]
   split
   .exact g _ _ (by omega) k
   .rename_i c i
    split
    .exact g _ _ (by omega) k
    .rename_i d
     obtain ⟨e,j,_⟩:=M6 i;have m:=Q1A l b c j (by rw[e];exact d)
     rw[e] at m;exact g _ _ (by rw[List.length_append];omega) k
def Ol (L:Mz) (a b:Q9):Prop:= ∃c,L a=some c/\ ∃u∈L5 c,Reach L u b
def Jz (l:List Cla):Prop:= ∀a,¬Ol (lk l) a a
theorem Ol.reach {L:Mz} {a b:Q9} (h:Ol L a b):Reach L a b:=by
 obtain ⟨c,d,u,f,e⟩:=h;exact .step d f e
theorem Ol.trans {L:Mz} {a b d:Q9} (h:Ol L a b) (k:Reach L b d):Ol L a d:=by
 obtain ⟨c,e,u,g,f⟩:=h;exact ⟨c,e,u,g,f.trans k⟩
theorem Q3N {L:Mz} {a b:Q9}:Reach L a b↔(a=b/\(∃c,L a=some c))\/Ol L a b:=by
 constructor
 .intro h
  cases h with
  | refl h=>exact .inl ⟨rfl,_,h⟩
  | step d e f=>exact .inr ⟨_,d,_,e,f⟩
 .rintro (⟨rfl,c,h⟩ | h)
  .exact .refl h
  .exact h.reach
def Jf (l:List Cla) (a b:Q9):Bool:=match lk l a with
 | none=>false
 | some c=>(L5 c).any fun u=>(Qg l u).contains b
theorem Lp {l:List Cla} {a b:Q9}:Jf l a b=true↔Ol (lk l) a b:=by
 unfold Jf Ol;cases h:lk l a with
 | none=>simp
 | some c=>
  simp only[List.any_eq_true,List.contains_iff_mem,Mh];constructor
  .rintro ⟨u,e,d⟩;exact ⟨c,rfl,u,e,d⟩
  .rintro ⟨_,⟨⟩,u,e,d⟩;exact ⟨u,e,d⟩
def Qd (l:List Cla) (n:Q9):Nat:=l.countP fun m=>Jf l n m.name
theorem Q01 (l:List Cla) (n:Q9):Qd l n<=l.length:=List.countP_le_length
theorem Q7y {α:Type} {p q:α->Bool}: ∀{l:List α},(∀x∈l,p x=true->q x=true)->(∃x∈l,q x=true/\p x=false)->l.countP p<l.countP q:=by
 intro l
 induction l with
 | nil=>rintro _ ⟨x,hx,_⟩;simp at hx
 | cons a r g=>
  rintro h ⟨x,hx,d,c⟩;have f:r.countP p<=r.countP q:=List.countP_mono_left fun x hx=>h x (by simp[hx])
  rw[List.countP_cons,List.countP_cons]
  rcases List.mem_cons.1 hx with rfl | hx
  .rw[d,c];simp;omega
  .have:=g (fun x hx=>h x (by simp[hx])) ⟨x,hx,d,c⟩
   have e:=h a (by simp)
   cases b:p a
   .simp;split<;>omega
   .rw[e b];simp;omega
theorem X7w {l:List Cla} (f:Jz l) {a b:Q9} (h:Ol (lk l) a b):Qd l b<Qd l a:=by
 unfold Qd;refine Q7y (fun x _ j=>?_) ?_
 .rw[Lp] at*
  exact h.trans j.reach
 .obtain ⟨d,g⟩:=(Reach.right (h.reach))
  obtain ⟨e,i,_⟩:=M6 g;refine ⟨d,i,?_,?_⟩
  .rw[Lp,e];exact h
  .cases c:Jf l b d.name with
   | false=>rfl
   | true=>rw[Lp,e] at c;exact absurd c (f b)
theorem Yf {l:List Cla} (b:Jz l) {a u:Q9} {c d:Cla} (e:lk l a=some c) (g:u∈L5 c) (f:lk l u=some d):Qd l u<Qd l a:=
 X7w b ⟨c,e,u,g, .refl f⟩
theorem X0y {l:List Cla} (b:Jz l): ∀(f g:Nat) (n:Q9),Qd l n<f->Qd l n<g->Qq (lk l) f n=Qq (lk l) g n:=by
 intro f
 induction f with
 | zero=>intro g n h;omega
 | succ f i=>
  intro g n j k;obtain ⟨g,rfl⟩: ∃m,g=m+1:=⟨g-1,by omega⟩
  simp only[Qq];cases e:lk l n with
  | none=>rfl
  | some c=>
   simp only
   congr 1
   cases a:lk l c.super with
   | none=>cases f<;>cases g<;>simp[Qq,a]
   | some d=>
    have:=Yf b e (by simp[L5]) a
    exact i g c.super (by omega) (by omega)
theorem Gq {l:List Cla} (a:Jz l) (n:Q9):chain l n=match lk l n with | none=>[] | some c=>c::chain l c.super:=by
 have:=Q01 l n;unfold chain;rw[Qq];cases e:lk l n with
 | none=>rfl
 | some c=>
  simp only
  congr 1
  cases b:lk l c.super with
  | none=>cases l.length<;>simp[Qq,b]
  | some d=>
   have:=Yf a e (by simp[L5]) b
   exact X0y a _ _ _ (by omega) (by omega)
theorem Dw {l:List Cla} {n:Q9} (h:lk l n=none):chain l n=[]:=by simp[chain,Qq,h]
theorem Ss {α β:Type} {f g:α->Option β}: ∀{l:List α},(∀x∈l,f x=g x)->l.findSome? f=l.findSome? g
 | [],_=>rfl
 | a::r,h=>by
  rw[List.findSome?_cons,List.findSome?_cons,h a (by simp),Ss fun x b=>h x (by simp[b])]
theorem X0Q {l:List Cla} (b:Jz l) (n:Q9): ∀(f g:Nat) (c:Cla),lk l c.name=some c->Qd l c.name<f->Qd l c.name<g->Ic (lk l) f c n=Ic (lk l) g c n:=by
 intro f
 induction f with
 | zero=>intro g c _ h;omega
 | succ f k=>
  intro g c i o p;obtain ⟨g,rfl⟩: ∃m,g=m+1:=⟨g-1,by omega⟩
  simp only[Ic];refine Ss fun u j=>?_;cases a:lk l u with
  | none=>rfl
  | some d=>
   simp only;cases T2 d n with
   | some m=>rfl
   | none=>
    simp only;have:=Yf b i (by simp[L5,j]) a
    have e:=(M6 a).1;exact k g d (by rw[e];exact a) (by rw[e];omega) (by rw[e];omega)
def M8 (l:List Cla) (c:Cla) (n:Q9):Option (Q9×Hm.Met):=Ic (lk l) (l.length+1) c n
theorem Q7N {l:List Cla} (b:Jz l) {c:Cla} (f:lk l c.name=some c) (n:Q9):M8 l c n=c.like.findSome? fun u=>match lk l u with
 | none=>none
 | some d=>match T2 d n with
  | some m=>some (u,m)
  | none=>M8 l d n:=by
 have:=Q01 l c.name;unfold M8;rw[Ic];refine Ss fun u g=>?_;cases a:lk l u with
 | none=>rfl
 | some d=>
  simp only;cases T2 d n with
  | some m=>rfl
  | none=>
   have:=Yf b f (by simp[L5,g]) a
   have e:=(M6 a).1;exact X0Q b n _ _ d (by rw[e];exact a) (by rw[e];omega) (by rw[e];omega)
theorem X0V {l:List Cla} (b:Jz l): ∀(f g:Nat) (n:Q9),Qd l n<f->Qd l n<g->Xi (lk l) f n=Xi (lk l) g n:=by
 intro f
 induction f with
 | zero=>intro g n h;omega
 | succ f i=>
  intro g n j k;obtain ⟨g,rfl⟩: ∃m,g=m+1:=⟨g-1,by omega⟩
  simp only[Xi];cases e:lk l n with
  | none=>rfl
  | some c=>
   simp only
   have:Xi (lk l) f c.super=Xi (lk l) g c.super:=by
    cases a:lk l c.super with
    | none=>cases f<;>cases g<;>simp[Xi,a]
    | some d=>
     have:=Yf b e (by simp[L5]) a
     exact i g c.super (by omega) (by omega)
   rw[this]
theorem X4j {l:List Cla} (a:Jz l) (n:Q9):F0 l n=match lk l n with
 | none=>[]
 | some c=>if n=W4 then [] else n++[40]++F0 l c.super++[41]++c.fields.flatMap Yc++[46]:=by
 have:=Q01 l n;unfold F0;rw[Xi];cases e:lk l n with
 | none=>rfl
 | some c=>
  simp only
  have:Xi (lk l) l.length c.super=Xi (lk l) (l.length+1) c.super:=by
   cases b:lk l c.super with
   | none=>cases l.length<;>simp[Xi,b]
   | some d=>
    have:=Yf a e (by simp[L5]) b
    exact X0V a _ _ _ (by omega) (by omega)
  rw[this]
theorem Q51 {l:List Cla} {n:Q9} (h:lk l n=none):F0 l n=[]:=by simp[F0,Xi,h]
def Xx (l:List Cla):Prop:=(l.map (·.name)).Nodup
theorem Xx.lk {l:List Cla} (h:Xx l) {c:Cla} (f:c∈l):Go.Hm.lk l c.name=some c:=by
 obtain ⟨d,g⟩:=X43 f;obtain ⟨e,p,i,o,a⟩:=M6 g;obtain ⟨j,n,rfl⟩:=List.getElem_of_mem f;obtain ⟨b,k⟩:=List.getElem?_eq_some_iff.1 a
 have:i=j:=by
  have m:(l.map (·.name))[i]'(by simpa using b)=(l.map (·.name))[j]'(by simpa using n):=by simp[k,e]
  exact (List.getElem_inj h).1 m
 subst this;rw[g,<-k]
theorem Xx.find {l:List Cla} (h:Xx l) {i:Nat} {c:Cla} (f:l[i]? =some c):U0 l c.name=some i:=by
 obtain ⟨b,rfl⟩:=List.getElem?_eq_some_iff.1 f;have:=h.lk (List.getElem_mem b);obtain ⟨e,n,j,m,g⟩:=M6 this;obtain ⟨a,k⟩:=List.getElem?_eq_some_iff.1 g
 have:j=i:=by
  have d:(l.map (·.name))[j]'(by simpa using a)=(l.map (·.name))[i]'(by simpa using b):=by simp[k]
  exact (List.getElem_inj h).1 d
 rw[m,this]
end Go.Hm
namespace Go.Emb
open Go.RowKit Go.Hm
variable {w w1 w' : World} {σ σ1 σ2 σ' : Q2}
theorem Stp.join (c:Stp w σ w' σ1) (d:Stp w σ w' σ2): ∃f,Stp w σ w' f/\SLe σ1 f/\SLe σ2 f:=by
 have h: ∀b o,σ1 b=some o->(fun b=>(σ1 b).or (σ2 b)) b=some o:=fun b o e=>by simp[e]
 have j: ∀b o,σ2 b=some o->(fun b=>(σ1 b).or (σ2 b)) b=some o:=by
  intro b o e;cases a:σ1 b with
  | none=>simp[a,e]
  | some p=>
   have i:=c.sat b p a;have g:=d.sat b o e;rw[i] at g;cases g;simp only[a,Option.some_or]
 refine ⟨fun b=>(σ1 b).or (σ2 b),⟨c.bel,?_,fun b o e=>h b o (c.le b o e),?_⟩,⟨h⟩,⟨j⟩⟩
 .intro b o e
  cases a:σ1 b with
  | none=>simp only[a,Option.none_or] at e;exact d.sat b o e
  | some p=>simp only[a,Option.some_or] at e;cases e;exact c.sat b _ a
 .intro b a
  simp only[c.old b a,d.old b a];cases σ b<;>rfl
theorem Vw {Φ:Q2->Value->Prop} {A a:(Value->World->Prop)->Prop} (h:A (fun v w'=> ∃σ',Stp w σ w' σ'/\Φ σ' v)) (e:a (fun v w'=> ∃σ',Stp w σ w' σ'/\Φ σ' v)):U8 (fun w w'=>Below w.heap.size w w') A a:=
 B9 _ (fun _ _ _ ⟨σ',b,c⟩ d=>⟨σ',b.trans (Stp.of_below b.sat d),c⟩) h e
theorem Sq {Φ:Q2->Value->Prop} {v:Value} (a:Hst w σ w1 σ) (h:Stp w1 σ w' σ') (b:Φ σ' v):dk (fun w w'=>Below w.heap.size w w') (fun v w'=> ∃σ',Stp w σ w' σ'/\Φ σ' v) w1 v w':=
 ⟨h.bel,σ',a.stp.trans h,b⟩
theorem B8.mk {m:Hm.Met} {pv a b:Value} (c:Sl 1 L3 σ pv m.params) (d:Sl 3 Yz σ a m.code) (e:Sl 4 Wj σ b m.catches) (f:m.name.length<=V5) (g:m.result.length<=V5) (h:Yg m.locals):B8 σ m [S m.name,pv,S m.result, .bool m.abs,I m.locals,a,b]:=
 ⟨pv,a,b,rfl,c,d,e,f,g,h⟩
theorem M0.mk {c:Cla} {b a mv:Value} (d:Sl 1 L3 σ b c.like) (e:Sl 3 I1 σ a c.fields) (f:Sl 7 B8 σ mv c.methods) (g:c.name.length<=V5) (h:c.super.length<=V5):M0 σ c [S c.name,S c.super,b, .bool c.iface, .bool c.abs, .bool c.fin,a,mv]:=
 ⟨b,a,mv,rfl,d,e,f,g,h⟩
end Go.Emb
namespace Go.Hm
def SmM (m:Hm.Met):Prop:=m.params.length<=1000000/\m.code.length<=1000000/\m.catches.length<=1000000
def Yh (c:Cla):Prop:=c.like.length<=1000000/\c.fields.length<=1000000/\c.methods.length<=1000000/\ ∀m∈c.methods,SmM m
end Go.Hm
namespace Go.Proofs.Y
open Go.Emb Go.RowKit Go.Kd Go.Hm
variable {w : World} {K : Value -> World -> Prop} {σ : Q2}
theorem Q7v {m:Hm.Met} {cs:List Value} (hs:X3 w σ) (hm:B8 σ m cs) (D:SmM m)
 (h: ∀pv o f w' σ',Stp w σ w' σ'->B8 σ' m [S m.name,pv,S m.result, .bool m.abs,I m.locals,o,f]->K (.agg [S m.name,pv,S m.result, .bool m.abs,I m.locals,o,f].toArray) w'):Q0 P F.cl [.agg cs.toArray] w K:=Q8k (by
 obtain ⟨pv,o,f,rfl,y,z,A,Y,Z,g6⟩:=hm;obtain ⟨s1,s2,s3⟩:=D;unfold Q1J;simp only[Y5,X5];refine Rc hs fun b w1 σ1 d g a=>?_;refine D2 g.sat fun X w2 σ2 B j c=>?_;have ac:=a.lt;replace a:=a.step j;have C:=j.sat;have y:=(y.up g).up j;have z:=(z.up g).up j;have A:=(A.up g).up j;have L: ∀{w':World} (i:Nat) (v:Value),[S m.name,pv,S m.result, .bool m.abs,I m.locals,o,f][i]? =some v->Hst w2 σ2 w' σ2->w'.cell? ((⟨b,0,none⟩:Addr).add i)=some v:=fun i v f hh=>(a.step hh.stp).cell f;refine W1 C ?_;refine X9 (.pointer (some ((⟨b,0,none⟩:Addr).add 1))) (fun w d=>by rw[fa];exact Y2 rfl) ?_
 refine X9 (.pointer (some ((⟨b,0,none⟩:Addr).add 5))) (fun w d=>by rw[fa];exact Y2 rfl) ?_
 refine X9 (.pointer (some ((⟨b,0,none⟩:Addr).add 6))) (fun w d=>by rw[fa];exact Y2 rfl) ?_
 refine X9 pv (fun t w d e=>by rw[e];exact Yx (L 1 pv rfl d) (Y2 rfl)) ?_
 refine Vw (Φ:=fun σ' v=>Sl 1 L3 σ' v m.params) (fun t w d e=>by rw[e];exact Ox d.sat y s1 fun W w' σ' s f=>Sq d s f) ?_
 refine X9 o (fun t w d e=>by rw[e];exact Yx (L 5 o rfl d) (Y2 rfl)) ?_
 refine Vw (Φ:=fun σ' v=>Sl 3 Yz σ' v m.code) (fun t w d e=>by rw[e];exact Cr d.sat z s2 fun W w' σ' s f=>Sq d s f) ?_
 refine X9 f (fun t w d e=>by rw[e];exact Yx (L 6 f rfl d) (Y2 rfl)) ?_
 refine X9 (.pointer (some ((⟨b,0,none⟩:Addr).add 1))) (fun w d=>by rw[fa];exact Y2 rfl) ?_
 refine Vw (Φ:=fun σ' v=>Sl 4 Wj σ' v m.catches) (fun t w d e=>by rw[e];exact Cp d.sat A s3 fun W w' σ' s f=>Sq d s f) ?_
 rintro t1 t2 t3 t4 t5 t6 t8 t9 am N w3 ab e1 e2 e3 e4 ⟨σ5,k5,p⟩ e6 ⟨σ8,k8,q⟩ e9 u ⟨av,E,k⟩;subst u;obtain ⟨σa,ka,J,M⟩:=k5.join k8;obtain ⟨σ3,H,Q,l2⟩:=ka.join E;have p:=(p.lift J).lift Q;have q:=(q.lift M).lift Q;have k:=k.lift l2;have a:=a.step H;have c:=c.step H;have n:X≠b:=by omega
 have l:=(g.trans j).trans H;refine Vh a V0 (Oo p) (Yk p) fun w4 R a=>?_;rw[fa];have l:=R.stp l d a.1;have c:=c.upd R n;refine Vh a V0 (Oo q) (Yk q) fun w5 U a=>?_;rw[fa];have l:=U.stp l d a.1;have c:=c.upd U n;refine Vh a V0 (Oo k) (Yk k) fun w6 V a=>?_;have l:=V.stp l d a.1;have c:=c.upd V n;refine By a rfl ?_;have O:=B8.mk p q k Y Z g6;have r:=H8 B g;refine My c rfl rfl (by rw[List.all_toArray];exact List.all_eq_true.2 (Rep.one O)) fun w7 u7 c=>?_
 have l:=u7.stp l r c.1;refine W9 c rfl ?_;exact h t5 t8 N w7 σ3 l O)
theorem X57 {c:Cla} {cs:List Value} (hs:X3 w σ) (hc:M0 σ c cs) (av:Yh c)
 (h: ∀X U mv w' σ',Stp w σ w' σ'->M0 σ' c [S c.name,S c.super,X, .bool c.iface, .bool c.abs, .bool c.fin,U,mv]->K (.agg [S c.name,S c.super,X, .bool c.iface, .bool c.abs, .bool c.fin,U,mv].toArray) w'):Q0 P F.cT [.agg cs.toArray] w K:=Q8j (by
 obtain ⟨X,U,mv,rfl,g1,g2,V,g4,g5⟩:=hc;obtain ⟨s1,s2,s3,s4⟩:=av;unfold Q1I;simp only[Y5,X5,L6];unfold X7 J5 X6 X2 X1;refine Rc hs fun b w1 σ1 l m f=>?_;refine D2 m.sat fun R w2 σ2 ap o g=>?_;have be:=f.lt;replace f:=f.step o;have ar:=o.sat;have g1:=(g1.up m).up o;have g2:=(g2.up m).up o;have V:=(V.up m).up o;have L: ∀{w':World} (i:Nat) (v:Value),[S c.name,S c.super,X, .bool c.iface, .bool c.abs, .bool c.fin,U,mv][i]? =some v->Hst w2 σ2 w' σ2->w'.cell? ((⟨b,0,none⟩:Addr).add i)=some v:=fun i v W hh=>(f.step hh.stp).cell W;refine W1 ar ?_;refine X9 (.pointer (some ((⟨b,0,none⟩:Addr).add 2))) (fun w l=>by rw[fa];exact Y2 rfl) ?_
 refine X9 (.pointer (some ((⟨b,0,none⟩:Addr).add 6))) (fun w l=>by rw[fa];exact Y2 rfl) ?_
 refine X9 X (fun t w l e=>by rw[e];exact Yx (L 2 X rfl l) (Y2 rfl)) ?_
 refine Vw (Φ:=fun σ' v=>Sl 1 L3 σ' v c.like) (fun t w l e=>by rw[e];exact Ox l.sat g1 s1 fun v' w' σ' E W=>Sq l E W) ?_
 refine X9 U (fun t w l e=>by rw[e];exact Yx (L 6 U rfl l) (Y2 rfl)) ?_
 refine X9 (.pointer (some ((⟨b,0,none⟩:Addr).add 2))) (fun w l=>by rw[fa];exact Y2 rfl) ?_
 refine Vw (Φ:=fun σ' v=>Sl 3 I1 σ' v c.fields) (fun t w l e=>by rw[e];exact Cq l.sat g2 s2 fun v' w' σ' E W=>Sq l E W) ?_
 rintro t6 t9 t7 t8 bn bo ae w3 ba e6 e9 e7 ⟨σ8,k8,Y⟩ a7 ah ⟨bs,aw,u⟩;subst ah;obtain ⟨σ3,k3,l1,l2⟩:=k8.join aw;have Y:=Y.lift l1;have u:=u.lift l2;have V:=V.up k3;have f:=f.step k3;have g:=g.step k3;have Q:R≠b:=by omega
 have Z:=(m.trans o).trans k3;refine Vh f V0 (Oo Y) (Yk Y) fun w4 u4 f=>?_;rw[fa];have Z:=u4.stp Z l f.1;have g:=g.upd u4 Q;refine Vh f V0 (Oo u) (Yk u) fun w5 u5 f=>?_;rw[fa];have Z:=u5.stp Z l f.1;have g:=g.upd u5 Q;refine Ys f rfl ?_;refine Q6 V ?_
 refine H0 c.methods.length (fun n a w'=> ∃σ',Stp w σ w' σ'/\SLe σ3 σ'/\W2 w.heap.size T.d 7 B8 σ' w' a (c.methods.take n)/\Z0 σ' w' b [S c.name,S c.super,t8, .bool c.iface, .bool c.abs, .bool c.fin,ae,mv]/\Z0 σ' w' R [S [],S [], .slice none 0 0, .bool false, .bool false, .bool false, .slice none 0 0, .slice none 0 0]/\ ∀k,a.ownBlock=some k->k≠b/\k≠R)
  ⟨σ3,Z,SLe.refl _,W2.nil,f,g,fun k E=>by cases E⟩ fun n a w6 d hn hi=>?_
 obtain ⟨σ6,B,C,ha,f,g,j⟩:=hi;refine Z1 ?_;refine Q4 (fun hh=>?_) (fun hh=>?_)
 .have z:n<c.methods.length:=by simpa using hh
  have ab:c.methods.length<=9223372036854775807:=by omega
  refine E3 (V.lift C) z fun p cs hl y hr=>?_;refine Z2 B.sat hl y ?_;refine Z3 B.sat (by rfl) y (Rep.one hr) fun q w7 σ7 r hq=>?_
  refine Z2 r.sat hq y ?_;refine Q7v r.sat (Rep.up r.le hr) (s4 _ (List.getElem_mem z)) fun pv cv W w8 σ8 N aq=>?_;have O:=(Nxt.of_stp (D:=fun k=>a.ownBlock=some k) r).trans (Nxt.of_stp N);have an:=(ha.up r).up N;have ax:=(f.nx O fun e=>(j _ e).1 rfl).lt;have ay:=(g.nx O fun e=>(j _ e).2 rfl).lt;refine Jy ((B.trans r).trans N) an aq rfl rfl rfl (by rw[List.length_take];omega) (by rw[List.length_take];omega) fun s v' w9 σ9 A al ao hat=>?_
  refine H5 ?_;have A:=O.trans A;refine U4 ab z ⟨σ9,al,C.more A.le,?_,f.nx A fun e=>(j _ e).1 rfl,g.nx A fun e=>(j _ e).2 rfl,?_⟩
  .rw[List.take_add_one,List.getElem?_eq_getElem z];exact ao
  .intro k E
   rcases hat with hat | hat
   .exact j k (hat▸E)
   .have:=hat k E
    constructor<;>omega
 .have z: ¬n<c.methods.length:=by simpa using hh
  rw[List.take_of_length_le Q5] at ha;obtain ⟨σ7,J,M,ad,H⟩:=ha.keep B;have f:Z0 σ7 w6 b _:=⟨(H b fun e=>(j b e.symm).1 rfl).trans f.1,f.2⟩;have g:Z0 σ7 w6 R _:=⟨(H R fun e=>(j R e.symm).2 rfl).trans g.1,g.2⟩;rw[fa];refine Vh f V0 (Oo M) (Yk M) fun w7 u7 f=>?_;have J:=u7.stp J l f.1;have g:=g.upd u7 Q;refine By f rfl ?_;have hr:=M0.mk (Y.lift (C.more ⟨ad⟩)) (u.lift (C.more ⟨ad⟩)) M g4 g5;have aa:=H8 ap m;refine My g rfl rfl (by rw[List.all_toArray];exact List.all_eq_true.2 (Rep.one hr)) fun w8 u8 g=>?_
  have ak:=u8.stp J aa g.1;refine W9 g rfl ?_;exact h t8 ae a w8 σ7 ak hr)
end Go.Proofs.Y
namespace Go.Hm
open Go.Kd
def K6 {α:Type}:Nat->List α->List α
 | 0,xs=>xs
 | i+1,xs=>match (K6 i xs)[i]?,(K6 i xs)[xs.length-1-i]? with
  | some a,some b=>((K6 i xs).set i b).set (xs.length-1-i) a
  | _,_=>K6 i xs
theorem Q3R {α:Type} (xs:List α): ∀i,2*i<=xs.length->(K6 i xs).length=xs.length/\ ∀k,k<xs.length->(K6 i xs)[k]? =if k<i\/xs.length-1-k<i then xs[xs.length-1-k]? else xs[k]?
 | 0,_=>⟨rfl,fun k j=>by simp[K6]⟩
 | i+1,h=>by
  obtain ⟨m,c⟩:=Q3R xs i (by omega)
  have a:=c i (by omega)
  have b:=c (xs.length-1-i) (by omega)
  rw[if_neg (by omega)] at a b
  have n:i<xs.length:=by omega
  have d:xs.length-1-i<xs.length:=by omega
  rw[List.getElem?_eq_getElem (l:=xs) n] at a;rw[List.getElem?_eq_getElem (l:=xs) d] at b;simp only[K6,a,b];refine ⟨by simp[m],fun k j=>?_⟩
  by_cases e:k=xs.length-1-i
  .subst e
   rw[List.getElem?_set_self (by simp[m];omega),if_pos (by omega)]
   rw[show xs.length-1-(xs.length-1-i)=i by omega,List.getElem?_eq_getElem (by omega)]
  .rw[List.getElem?_set_ne (by omega)]
   by_cases f:k=i
   .subst f
    rw[List.getElem?_set_self (by omega),if_pos (by omega),List.getElem?_eq_getElem (by omega)]
   .rw[List.getElem?_set_ne (by omega),c k j]
    by_cases g:k<i\/xs.length-1-k<i
    .rw[if_pos g,if_pos (by omega)]
    .rw[if_neg g,if_neg (by omega)]
theorem X4E {α:Type} (xs:List α) (i:Nat) (c:2*i<=xs.length) (e:xs.length<=2*i+1):K6 i xs=xs.reverse:=by
 obtain ⟨f,d⟩:=Q3R xs i c;apply List.ext_getElem?;intro k
 by_cases b:k<xs.length
 .rw[d k b,List.getElem?_reverse b]
  by_cases a:k<i\/xs.length-1-k<i
  .rw[if_pos a]
  .rw[if_neg a];congr 1;omega
 .rw[List.getElem?_eq_none (by omega),List.getElem?_eq_none (by simp;omega)]
theorem Q0i (L:Mz): ∀(f:Nat) (n:Q9),(Qq L f n).length<=f
 | 0,_=>by simp[Qq]
 | f+1,n=>by
  simp only[Qq]
  split
  .simp
  .have:=Q0i L f (by rename_i c _;exact c.super)
   simp only[List.length_cons];rename_i c _;have:=Q0i L f c.super;omega
theorem Kx (l:List Cla) (n:Q9):(chain l n).length<=l.length+1:=Q0i _ _ _
theorem Ky {l:List Cla} {n:Q9} {c:Cla} (h:c∈chain l n):c∈l:=by
 have key: ∀(f:Nat) (n:Q9),c∈Qq (lk l) f n->c∈l:=by
  intro f
  induction f with
  | zero=>intro n h;simp[Qq] at h
  | succ f b=>
   intro n h;simp only[Qq] at h
   split at h
   .simp at h
   .rename_i d a
    rcases List.mem_cons.1 h with rfl | h
    .exact (M6 a).2.1
    .exact b _ h
 exact key _ _ h
theorem Zo {α β:Type} (f:α->List β) (k:Nat): ∀(xs:List α),(∀x∈xs,(f x).length<=k)->(xs.flatMap f).length<=xs.length*k
 | [],_=>by simp
 | x::r,h=>by
  have b:=h x (by simp)
  have c:=Zo f k r fun y a=>h y (by simp[a])
  simp only[List.flatMap_cons,List.length_append,List.length_cons,Nat.add_mul];omega
def Z4 (l:List Cla) (i:Nat):Q9:=(l.getD i Cla.zero).name
theorem Ue {l:List Cla} (b:Xx l) {i:Nat} (a:i<l.length):lk l (Z4 l i)=some (l.getD i Cla.zero):=by
 have e:l.getD i Cla.zero=l[i]:=by rw[List.getD_eq_getElem?_getD,List.getElem?_eq_getElem a];rfl
 unfold Z4;rw[e];exact b.lk (List.getElem_mem a)
theorem I2 {l:List Cla} {u:Q9} {j:Nat} (h:U0 l u=some j):j<l.length/\Z4 l j=u:=by
 obtain ⟨a,b,_⟩:=List.findIdx?_eq_some_iff_getElem.1 h;refine ⟨a,?_⟩;unfold Z4;rw[List.getD_eq_getElem?_getD,List.getElem?_eq_getElem a]
 simpa using b
theorem Q4l {l:List Cla} (b:Jz l) (f:Xx l) {i j:Nat} (e:i<l.length) {u:Q9} (g:u∈L5 (l.getD i Cla.zero)) (a:U0 l u=some j):Qd l (Z4 l j)<Qd l (Z4 l i):=by
 obtain ⟨c,d,_⟩:=Vl a;rw[(I2 a).2];exact Yf b (Ue f e) g d
theorem Px {α β:Type} {f g:β->α->β}: ∀(xs:List α) (b:β),(∀b x,x∈xs->f b x=g b x)->xs.foldl f b=xs.foldl g b
 | [],_,_=>rfl
 | x::r,b,h=>by
  rw[List.foldl_cons,List.foldl_cons,h b x (by simp)]
  exact Px r _ fun b y a=>h b y (by simp[a])
theorem Ur {l:List Cla} {frm:Nat} (f:Nat) (out:List Nat) {i:Nat} (h:i<frm):Ym l frm f out i=out:=by
 cases f<;>simp[Ym,h]
theorem X4k {l:List Cla} (d:Jz l) (k:Xx l) {frm:Nat} (a:0<frm): ∀(f g:Nat) (out:List Nat) (i:Nat),i<l.length->Qd l (Z4 l i)<f->Qd l (Z4 l i)<g->Ym l frm f out i=Ym l frm g out i:=by
 intro f
 induction f with
 | zero=>intro g out i _ h;omega
 | succ f o=>
  intro g out i e p q;obtain ⟨g,rfl⟩: ∃m,g=m+1:=⟨g-1,by omega⟩
  simp only[Ym]
  split
  .rfl
  .split
   .rfl
   .congr 1
    refine Px _ _ fun b u n=>?_;cases c:U0 l u with
    | none=>simp only[Option.getD_none];rw[Ur f b a,Ur g b a]
    | some j=>
     simp only[Option.getD_some];have:=Q4l d k e n c;exact o g b j (I2 c).1 (by omega) (by omega)
def Js (l:List Cla) (frm:Nat) (out:List Nat) (i:Nat):List Nat:=Ym l frm (l.length+1) out i
theorem X1E {l:List Cla} (c:Jz l) (e:Xx l) {frm:Nat} (a:0<frm) (out:List Nat) {i:Nat} (f:i<l.length):Js l frm out i=if i<frm then out else if i∈out then out else
 ((L5 (l.getD i Cla.zero)).foldl (fun out n=>Js l frm out ((U0 l n).getD 0)) out)++[i]:=by
 have h:=Q01 l (Z4 l i);unfold Js;rw[Ym]
 split
 .rfl
 .split
  .rfl
  .congr 1
   refine Px _ _ fun b u g=>?_;cases d:U0 l u with
   | none=>simp only[Option.getD_none];rw[Ur _ b a,Ur _ b a]
   | some j=>
    simp only[Option.getD_some];have:=Q4l c e f g d;exact X4k c e a _ _ b j (I2 d).1 (by omega) (by omega)
theorem Oz {α:Type} {p:Nat->Prop} {f:List Nat->α->List Nat}: ∀(xs:List α) (b:List Nat),(∀b x,x∈xs-> ∀y∈f b x,y∈b\/p y)-> ∀y∈xs.foldl f b,y∈b\/p y
 | [],b,_=>fun y a=> .inl a
 | x::r,b,h=>fun y a=>by
  rw[List.foldl_cons] at a
  rcases Oz r _ (fun b z c=>h b z (by simp[c])) y a with h1 | h1
  .exact h b x (by simp) y h1
  .exact .inr h1
theorem Q9F {l:List Cla} (m:Xx l) {frm:Nat} (q:0<frm): ∀(f:Nat) (out:List Nat) (i:Nat),i<l.length-> ∀y∈Ym l frm f out i,y∈out\/(y<l.length/\(y=i\/Ol (lk l) (Z4 l i) (Z4 l y))):=by
 intro f
 induction f with
 | zero=>intro out i _ y hy;exact .inl hy
 | succ f r=>
  intro out i e y hy;simp only[Ym] at hy
  split at hy
  .exact .inl hy
  .split at hy
   .exact .inl hy
   .rcases List.mem_append.1 hy with hy | hy
    .refine Oz (p:=fun y=>y<l.length/\(y=i\/Ol (lk l) (Z4 l i) (Z4 l y))) _ _ (fun b u n y hy=>?_) y hy
     cases d:U0 l u with
     | none=>
      rw[d] at hy;simp only[Option.getD_none] at hy;rw[Ur f b q] at hy;exact .inl hy
     | some j=>
      rw[d] at hy;simp only[Option.getD_some] at hy;obtain ⟨g,a⟩:=I2 d;obtain ⟨c,o,_⟩:=Vl d
      rcases r b j g y hy with h | ⟨k,rfl | h2⟩
      .exact .inl h
      .exact .inr ⟨k, .inr ⟨_,Ue m e,u,n,by rw[a];exact .refl o⟩⟩
      .exact .inr ⟨k, .inr ⟨_,Ue m e,u,n,by rw[<-a];exact h2.reach⟩⟩
    .simp at hy;subst hy;exact .inr ⟨e, .inl rfl⟩
theorem Q5Q {α:Type} {q:List Nat->Prop} {f:List Nat->α->List Nat}: ∀(xs:List α) (b:List Nat),(∀b x,x∈xs->q b->q (f b x))->q b->q (xs.foldl f b)
 | [],b,_,h=>h
 | x::r,b,a,h=>by
  rw[List.foldl_cons];exact Q5Q r _ (fun b z c=>a b z (by simp[c])) (a b x (by simp) h)
def Few (l:List Cla) (out:List Nat):Prop:=out.Nodup/\ ∀y∈out,y<l.length
theorem Few.len {l:List Cla} {out:List Nat} (h:Few l out):out.length<=l.length:=by
 have key: ∀(n:Nat) (out:List Nat),out.Nodup->(∀y∈out,y<n)->out.length<=n:=by
  intro n
  induction n with
  | zero=>
   intro out _ h;cases out with
   | nil=>simp
   | cons a r=>have:=h a (by simp);omega
  | succ n k=>
   intro out d h
   have f:=k (out.filter (fun y=> !decide (y=n))) (d.sublist List.filter_sublist) (fun y b=>by
    have:=List.mem_filter.1 b;have g:=h y this.1;have m:y≠n:=by simpa using this.2
    omega)
   have g:out.length<=(out.filter (fun y=> !decide (y=n))).length+1:=by
    clear f h
    induction out with
    | nil=>simp
    | cons a r c=>
     obtain ⟨i,j⟩:=List.nodup_cons.1 d
     by_cases e:a=n
     .subst e
      have:r.filter (fun y=> !decide (y=a))=r:=List.filter_eq_self.2 fun y b=>by simp;rintro rfl;exact i b
      simp[this]
     .have:=c j
      simp[e];exact this
   omega
 exact key _ _ h.1 h.2
theorem Q0Z {l:List Cla} (m:Jz l) (t:Xx l) {frm:Nat} (o:0<frm): ∀(f:Nat) (out:List Nat) (i:Nat),i<l.length->Few l out->Few l (Ym l frm f out i):=by
 intro f
 induction f with
 | zero=>intro out i _ h;exact h
 | succ f B=>
  intro out i w h;simp only[Ym]
  split
  .exact h
  .split
   .exact h
   .rename_i q
    have z:Few l ((L5 (l.getD i Cla.zero)).foldl (fun out n=>Ym l frm f out ((U0 l n).getD 0)) out):=by
     refine Q5Q _ _ (fun b u v e=>?_) h;cases d:U0 l u with
     | none=>simp only[Option.getD_none];rw[Ur f b o];exact e
     | some j=>exact B b j (I2 d).1 e
    have s:i∉(L5 (l.getD i Cla.zero)).foldl (fun out n=>Ym l frm f out ((U0 l n).getD 0)) out:=by
     intro k
     rcases Oz (p:=fun y=>Ol (lk l) (Z4 l i) (Z4 l y)) _ _ (fun b u v y hy=>by
      cases d:U0 l u with
      | none=>
       rw[d] at hy;simp only[Option.getD_none] at hy;rw[Ur f b o] at hy;exact .inl hy
      | some j=>
       rw[d] at hy;simp only[Option.getD_some] at hy;obtain ⟨r,g⟩:=I2 d;obtain ⟨c,A,_⟩:=Vl d
       rcases Q9F t o f b j r y hy with h | ⟨h1,rfl | h2⟩
       .exact .inl h
       .exact .inr ⟨_,Ue t w,u,v,by rw[g];exact .refl A⟩
       .exact .inr ⟨_,Ue t w,u,v,by rw[<-g];exact h2.reach⟩) i k with h1 | h1
     .exact q h1
     .exact m _ h1
    refine ⟨?_,fun y hy=>?_⟩
    .rw[List.nodup_append]
     exact ⟨z.1,by simp,by rintro a m b e rfl;simp at e;subst e;exact s m⟩
    .rcases List.mem_append.1 hy with hy | hy
     .exact z.2 y hy
     .simp at hy;omega
end Go.Hm
namespace Go.Emb
open Go.RowKit Go.Hm
variable {w w' : World}
def Ws (sz:Nat) (v:Value) (i:Nat):Addr:=match v with
 | .slice (some b) _ _=>b.add (i*sz)
 | _=>⟨0,0,none⟩
variable {P : Program} {K : Value -> World -> Prop} {σ : Q2} {α : Type} {R : Q2 -> α -> List Value -> Prop} {sz : Nat} {v : Value} {xs : List α}
theorem Sl.el (h:Sl sz R σ v xs) {i:Nat} (k:i<xs.length): ∃cs,U1 σ (Ws sz v i) cs/\cs.length=sz/\R σ xs[i] cs:=by
 obtain ⟨a,c,rfl,l,m,g,j⟩:=h;cases a with
 | none=>have:=g rfl;omega
 | some b=>
  obtain ⟨cs,d,e,f⟩:=(j b rfl).2 i xs[i] (by simp[k])
  exact ⟨cs,d,e,f⟩
theorem Y9 {t e:TypeId} {c:Nat} {z:Value} [TS P t e] [TZ P e sz c z] (h:Sl sz R σ v xs) {i:Nat} (m:i<xs.length) (g:K (.pointer (some (Ws sz v i))) w):indexAddr P t v (I i) w K:=by
 obtain ⟨a,d,rfl,j,k,f,l⟩:=h;cases a with
 | none=>have:=f rfl;omega
 | some b=>
  rw[Ib Q5 Q5]
  simpa [Ws] using g
theorem Sl.elS {xs:List Kd.Q9} (h:Sl 1 L3 σ v xs) {i:Nat} (c:i<xs.length):U1 σ (Ws 1 v i) [S xs[i]]/\xs[i].length<=V5:=by
 obtain ⟨cs,a,d,rfl,b⟩:=h.el c;exact ⟨a,b⟩
theorem Sl.elF {xs:List Fld} (h:Sl 3 I1 σ v xs) {i:Nat} (c:i<xs.length):U1 σ (Ws 3 v i) [S xs[i].name,S xs[i].kind, .bool xs[i].tr]/\I1 σ xs[i] [S xs[i].name,S xs[i].kind, .bool xs[i].tr]:=by
 obtain ⟨cs,a,d,rfl,b⟩:=h.el c;exact ⟨a,rfl,b⟩
theorem Sl.elI {xs:List Ins} (h:Sl 3 Yz σ v xs) {i:Nat} (c:i<xs.length):U1 σ (Ws 3 v i) [S xs[i].op,I xs[i].n,S xs[i].s]/\Yz σ xs[i] [S xs[i].op,I xs[i].n,S xs[i].s]:=by
 obtain ⟨cs,a,d,rfl,b⟩:=h.el c;exact ⟨a,rfl,b⟩
theorem Sl.elK {xs:List Cat} (h:Sl 4 Wj σ v xs) {i:Nat} (c:i<xs.length):U1 σ (Ws 4 v i) [I xs[i].frm,I xs[i].to,I xs[i].at_,S xs[i].cls]/\Wj σ xs[i] [I xs[i].frm,I xs[i].to,I xs[i].at_,S xs[i].cls]:=by
 obtain ⟨cs,a,d,rfl,b⟩:=h.el c;exact ⟨a,rfl,b⟩
theorem Sl.conv {α β:Type} {R:Q2->α->List Value->Prop} {R':Q2->β->List Value->Prop} {sz:Nat} {v:Value} {xs:List α} {ys:List β} (h:Sl sz R σ v xs) (j:ys.length=xs.length) (q: ∀i (g:i<xs.length) (s:i<ys.length) cs,R σ xs[i] cs->R' σ ys[i] cs):Sl sz R' σ v ys:=by
 obtain ⟨a,d,rfl,n,o,p,e⟩:=h;refine ⟨a,d,by rw[j],by rw[j];exact n,o,p,fun b f=>⟨fun t=>(e b f).1 Q5,fun i x r=>?_⟩⟩
 obtain ⟨g,rfl⟩:=List.getElem?_eq_some_iff.1 r;have c:i<xs.length:=by omega
 obtain ⟨cs,k,l,m⟩:=(e b f).2 i xs[i] (List.getElem?_eq_getElem c);exact ⟨cs,k,l,q i c g cs m⟩
theorem Sl.elM {xs:List Hm.Met} (h:Sl 7 B8 σ v xs) {i:Nat} (e:i<xs.length): ∃pv a b,U1 σ (Ws 7 v i) [S xs[i].name,pv,S xs[i].result, .bool xs[i].abs,I xs[i].locals,a,b]/\B8 σ xs[i] [S xs[i].name,pv,S xs[i].result, .bool xs[i].abs,I xs[i].locals,a,b]:=by
 obtain ⟨cs,c,f,pv,a,b,rfl,d⟩:=h.el e;exact ⟨pv,a,b,c,pv,a,b,rfl,d⟩
theorem Sl.elC {xs:List Cla} (h:Sl 8 M0 σ v xs) {i:Nat} (e:i<xs.length): ∃b a mv,U1 σ (Ws 8 v i) [S xs[i].name,S xs[i].super,b, .bool xs[i].iface, .bool xs[i].abs, .bool xs[i].fin,a,mv]/\M0 σ xs[i] [S xs[i].name,S xs[i].super,b, .bool xs[i].iface, .bool xs[i].abs, .bool xs[i].fin,a,mv]:=by
 obtain ⟨cs,c,f,b,a,mv,rfl,d⟩:=h.el e;exact ⟨b,a,mv,c,b,a,mv,rfl,d⟩
theorem J4 {b:World->World->Prop} {A a:(Value->World->Prop)->Prop} {V:Value} (h:A (fun v _=>V=v)) (c:a (fun v _=>V=v)):U8 b A a:=B9 _ (fun _ _ _ h _=>h) h c
theorem V1 {v V:Value} (h:V=v):dk (fun w w'=>Below w.heap.size w w') (fun v _=>V=v) w v w:=⟨Below.refl _ _,h⟩
theorem P4 {v V:Value} (a:Below w.heap.size w w') (h:V=v):dk (fun w w'=>Below w.heap.size w w') (fun v _=>V=v) w v w':=⟨a,h⟩
theorem Xq {c b:Bool} {V:Value} {a:World->(Value->World->Prop)->Prop} (h:c=b->a w (dk (fun w w'=>Below w.heap.size w w') (fun v _=>V=v) w)):Q1 (.bool c) b w a (dk (fun w w'=>Below w.heap.size w w') (fun v _=>(if c=b then V else undef)=v) w):=by
 by_cases e:c=b
 .simp only[e,if_true]
  subst e;have:=h rfl;cases c
  .rw[H4];exact this
  .rw[D6];exact this
 .have d:c= !b:=by cases c<;>cases b<;>simp_all
  rw[if_neg e];subst d;cases b
  .rw[Bool.not_false,Qa];exact ⟨Below.refl _ _,rfl⟩
  .rw[Bool.not_true,F8];exact ⟨Below.refl _ _,rfl⟩
theorem Uc {p:Prop} (hq:p:=by intros;(repeat (rename_i hx;subst hx));(repeat' (first | (with_reducible exact V1 rfl) | (with_reducible exact P4 (Stp.bel (by (repeat (first | exact Stp.refl (by (first | assumption | exact Stp.sat Q7 | exact Hst.sat Q7)) | assumption | refine Stp.trans ?_ (by first | assumption | exact Hst.stp Q7))))) rfl) | (with_reducible intro _) | (simp only[↓M2,M2,Mb,reduceIte]) | (with_reducible show Q8 _ _ _ _ _;first | refine Y3 aS aL aR ?_ | refine Z2 aS aL aR ?_ | refine ld aS aL aR ?_) | (with_reducible show indexAddr _ _ _ _ _ _;refine Y9 aL au ?_) | (with_reducible show J7 _ _ _ _ _ _ _ _;refine Q6 aL ?_) | (with_reducible show Qr _ _ _ _ _ _;refine V4 aR ?_) | (with_reducible show pick _ _ _ _ _ _;refine C6 ?_) | (apply Xq;intro hh;(try simp only[hh,reduceIte,↓M2,M2,Mb,reduceIte]))));done):p:=hq
variable {w0 : World} {σ0 σ' : Q2} {e : TypeId} {u : Value} {ys : List α}
def Emp (v:Value):Prop:= ∃a,v= .slice a 0 0
theorem X1V {t y:TypeId} {o:Nat} {z:Value} {cs:List Bool} [ts:TS P t e] [tz:TZ P e sz o z] [hr:Rep R] (V:Stp w0 σ0 w σ) (ha:W2 w0.heap.size e sz R σ w v []) (hv:Emp v) (M:X3 w σ') (Z:Sl sz R σ' u ys) (hR: ∀x cs,R σ' x cs->R σ x cs) (hz:(z.cells.size==sz&&decide (0<sz))=true)
 (hb:ys.length*o<=140737488355328) (hm:ys.length<=1000000000000)
 (h: ∀j w',Stp w σ w' σ->W2 w0.heap.size e sz R σ w' j ys->K j w'):J7 P .append [t,t] y cs [v,u] w K:=by
 obtain ⟨g,rfl⟩:=hv;have L:=V.sat;obtain ⟨a,c,news,rfl,n1,s,n3,n4,n5⟩:=Z.cells M;obtain ⟨i,X,N,C,n⟩:=tz.info;simp only[Bool.and_eq_true,beq_iff_eq,decide_eq_true_eq] at hz;obtain ⟨O,al⟩:=hz
 have f:Src P i.size t (.slice a ys.length c) ys.length news w:=by
  cases a with
  | some b=>exact Src.ofSlice w ts.h b ys.length c news (by rw[N];exact s) (n3 b rfl) n4
  | none=>
   have r:ys.length=0:=by
    obtain ⟨Q,U,e',q1,_,q3,_⟩:=Z;injection e' with e1 e2 e3;have:=n1 rfl;omega
   have J:news=[]:=List.eq_nil_of_length_eq_zero (by rw[s,r];simp)
   subst J;rw[r];exact Src.ofNil w ts.h c
 have p: ∀j w',(Builtin.append_ #[t,t] y #[.slice g 0 0, .slice a ys.length c]).run P w= .ok j w'->Stp w σ w' σ->W2 w0.heap.size e sz R σ w' j ys->J7 P .append [t,t] y cs [.slice g 0 0, .slice a ys.length c] w K:=by
  intro j w' d H hq
  have m:(builtin .append #[t,t] y cs.toArray #[.slice g 0 0, .slice a ys.length c]).run P w= .ok (.value j) w':=by
   simp[builtin,d]
  unfold J7;rw[Xu];unfold Xm;rw[m];exact h j w' H hq
 by_cases r:ys=[]
 .subst r
  have J:news=[]:=List.eq_nil_of_length_eq_zero (by simpa using s)
  subst J;refine p (.slice g 0 0) w ?_ (Stp.refl L) ha;have Y:=f.len w;have q:=f.cells;simp only[List.length_nil] at Y q⊢;cases g<;>simp[Builtin.append_,run_underlying ts.h,sizeOf,typeInfo,X,Y,q,storeCells]
 .have ak:0<ys.length:=List.length_pos_iff.2 r
  have l:(Builtin.firstCells i.size 0 (.slice g 0 0)).run P w.drew= .ok (#[]:Array Value) w.drew:=by
   cases g with
   | none=>exact run_firstCells_none w.drew i.size 0 0 0
   | some Q=>exact run_firstCells_some w.drew i.size 0 Q 0 0 [] V0 (by intro _ _ h';simp at h')
  have W:0<0+ys.length:=by omega
  have d:=run_append_grow_src (P:=P) w t t y e i z ts.h X n g 0 0 [] l (.slice a ys.length c) ys.length news f W Q5 (growslice_fits W (by rw[C,Nat.zero_add];exact hb))
  simp only[Nat.zero_add] at d;have D:=grownCap_le_maxLen w ys.length 0 e (by simp only[maxLen];omega)
  have E:=grownCap_ge w ys.length 0 e;refine p _ _ d (Stp.of_below L ((Below.refl _ _).drew.alloc (Nat.le_refl _) _)) ⟨news,⟨s, .inr ⟨w.heap.size,_,_,rfl,V.bel.size,heap_alloc_new w.drew _,E,D,?_,?_⟩⟩,?_,fun i x hx=>hR _ _ (n5 i x hx)⟩
  .simp only[List.nil_append]
   rw[Array.size_append,List.size_toArray,s,size_zeroCells,O,<-Nat.add_mul]
   congr 1;omega
  .simp only[List.nil_append]
   rw[Array.toList_append];rw[List.take_append_of_le_length (by simp only[List.toList_toArray];omega),List.take_of_length_le (by simp only[List.toList_toArray];omega)]
  .intro k H;cases H;exact L.none (Nat.le_refl _)
theorem X8P {t l:TypeId} {a:Nat} {z:Value} {cs:List Bool} [ts:TS P t e] [tz:TZ P e sz a z] [hr:Rep R] (b:Stp w0 σ0 w σ) (d:W2 w0.heap.size e sz R σ w v []) (j:Emp v) (i:Sl sz R σ u ys) (k:(z.cells.size==sz&&decide (0<sz))=true)
 (f:ys.length*a<=140737488355328) (g:ys.length<=1000000000000)
 (h: ∀c w',Stp w σ w' σ->W2 w0.heap.size e sz R σ w' c ys->K c w'):J7 P .append [t,t] l cs [v,u] w K:=
 X1V b d j b.sat i (fun _ _ h=>h) k f g h
def X4S {α:Type} (w0:World) (σ:Q2) (e:TypeId) (sz:Nat) (R:Q2->α->List Value->Prop) (xs:List α) (v:Value) (w':World):Prop:=Stp w0 σ w' σ/\W2 w0.heap.size e sz R σ w' v xs
def X1X {α:Type} (w0:World) (σ:Q2) (e:TypeId) (sz:Nat) (R:Q2->α->List Value->Prop) (v:Value) (w':World):Prop:=Stp w0 σ w' σ/\W2 w0.heap.size e sz R σ w' v ([]:List α)/\Emp v
variable {w1 : World} {A rest : (Value -> World -> Prop) -> Prop}
theorem Q43 [Rep R] (xs:List α) (h:A (X4S w σ e sz R xs)) (d:rest (X4S w σ e sz R xs)):U8 (fun w w'=>Below w.heap.size w w') A rest:=
 B9 _ (fun _ _ _ ⟨a,c⟩ b=>⟨a.trans (Stp.of_below a.sat b),c.up (Stp.of_below a.sat b)⟩) h d
theorem X6Y [Rep R] (h:A (X1X w σ e sz R)) (f:rest (X1X w σ e sz R)):U8 (fun w w'=>Below w.heap.size w w') A rest:=
 B9 _ (fun _ _ _ ⟨a,c,d⟩ b=>⟨a.trans (Stp.of_below a.sat b),c.up (Stp.of_below a.sat b),d⟩) h f
theorem Q5J (a:Hst w σ w1 σ) (h:Stp w1 σ w' σ) (b:W2 w.heap.size e sz R σ w' v xs):dk (fun w w'=>Below w.heap.size w w') (X4S w σ e sz R xs) w1 v w':=⟨h.bel,a.stp.trans h,b⟩
theorem X8f (a:Hst w σ w1 σ) (h:Stp w1 σ w' σ) (b:W2 w.heap.size e sz R σ w' v ([]:List α)) (c:Emp v):dk (fun w w'=>Below w.heap.size w w') (X1X w σ e sz R) w1 v w':=⟨h.bel,a.stp.trans h,b,c⟩
theorem Cm {t:TypeId} {a:Nat} {z:Value} [ts:TS P t e] [tz:TZ P e sz a z] (R:Q2->α->List Value->Prop) (c:Stp w0 σ0 w σ) (i:0<sz)
 (h: ∀v w',Stp w σ w' σ->W2 w0.heap.size e sz R σ w' v ([]:List α)->Emp v->K v w'):buildSlice P t 0 [] w K:=by
 obtain ⟨cells,d,f⟩:=Fm (P:=P) (t:=t) (sz:=sz) (e:=e) [] V0 V0 w;unfold buildSlice;have b:(Instr.buildSlice t 0 ([]:List (Nat×Value)).toArray).run P w=_:=d;rw[Y4 b];refine h _ _ (Stp.own c.sat _) ⟨[],⟨by simp, .inr ⟨_,_,cells,rfl,c.bel.size,heap_alloc_new w _,by simp,by simp[maxLen],?_,by simp⟩⟩,?_,by simp⟩ ⟨_,rfl⟩
 .have:cells.size=0:=by rw[<-Array.length_toList,f];rfl
  simp[this]
 .intro k g;cases g;exact c.sat.none (Nat.le_refl _)
theorem Q5L [Rep R] {t:TypeId} {a:Nat} {z:Value} [ts:TS P t e] [tz:TZ P e sz a z] (b:(decide (0<sz))=true) (h:rest (X1X w σ e sz R)):
 U8 (fun w w'=>Below w.heap.size w w') (fun φ=> ∀w1:World,Hst w σ w1 σ->buildSlice P t 0 [] w1 (dk (fun w w'=>Below w.heap.size w w') φ w1)) rest:=
 X6Y (fun w1 c=>Cm R c.stp (by simpa using b) fun v w' g d f=>X8f c g d f) h
theorem M0.parts {c:Cla} {a b j d e f g mv:Value} (h:M0 σ c [a,b,j,d,e,f,g,mv]):Sl 1 L3 σ j c.like/\Sl 3 I1 σ g c.fields/\Sl 7 B8 σ mv c.methods/\c.name.length<=V5/\c.super.length<=V5:=by
 obtain ⟨_,_,_,i,k⟩:=h;simp only[List.cons.injEq,and_true] at i;obtain ⟨_,_,rfl,_,_,_,rfl,rfl⟩:=i;exact k
theorem B8.parts {m:Hm.Met} {a pv b d e c g:Value} (h:B8 σ m [a,pv,b,d,e,c,g]):Sl 1 L3 σ pv m.params/\Sl 3 Yz σ c m.code/\Sl 4 Wj σ g m.catches/\m.name.length<=V5/\m.result.length<=V5/\Yg m.locals:=by
 obtain ⟨_,_,_,f,i⟩:=h;simp only[List.cons.injEq,and_true] at f;obtain ⟨_,rfl,_,_,_,rfl,rfl⟩:=f;exact i
theorem Q8b (a:Array Value) (n i:Nat) (f:i<n) (k:0<a.size):((madeCells a (n*a.size)).toList.drop (i*a.size)).take a.size=a.toList:=by
 have g:i*a.size+a.size<=n*a.size:=by rw[<-Nat.succ_mul];exact Nat.mul_le_mul_right _ f
 refine List.ext_getElem (by simp[madeCells];omega) fun j h d=>?_
 have c:j<a.size:=by simpa using d
 simp only[List.getElem_take,List.getElem_drop,madeCells,Array.toList_map,List.getElem_map,Array.toList_range,List.getElem_range,Array.getElem_toList];have:(i*a.size+j) % a.size=j:=by rw[Nat.add_comm,Nat.add_mul_mod_self_right];exact Nat.mod_eq_of_lt c
 rw[this]
 simp[c]
theorem X49 {α:Type} {R:Q2->α->List Value->Prop} {t e:TypeId} {sz a n:Nat} {z:Value} [ts:TS P t e] [tz:TZ P e sz a z] (x0:α) (s:X3 w σ) (E:z.cells.size=sz) (f:0<sz) (D:R σ x0 z.cells.toList) (J:n*sz<=16777216) (H:a*n<=281474976710656)
 (h: ∀v w',Stp w σ w' σ->W2 w.heap.size e sz R σ w' v (List.replicate n x0)->(∀k,v.ownBlock=some k->w.heap.size<=k)->K v w'):Dn P t (I n) (I n) w K:=by
 obtain ⟨i,A,d,m,c⟩:=tz.info
 have l:(i.bytes:Int)*(n:Int)<=281474976710656:=by
  rw[m];have:((a*n:Nat):Int)<=281474976710656:=by omega
  rwa [Int.natCast_mul] at this
 have C:n<=16777216:=by
  have:n*1<=n*sz:=Nat.mul_le_mul_left _ f;omega
 have p:=run_makeSlice (P:=P) w t e i z ts.h A c .i64 .i64 (n:Int) (n:Int) Q5 (Int.le_refl _) (by rw[d];simp only[Int.toNat_natCast];omega) l Q5
 unfold Dn;rw[Y4 p];simp only[Int.toNat_natCast,d];refine h _ _ (Stp.own s _) ⟨(madeCells z.cells (n*sz)).toList,⟨by simp[madeCells], .inr ⟨w.heap.size,n,madeCells z.cells (n*sz),?_,Nat.le_refl _,heap_alloc_new w _,?_,?_,?_,?_⟩⟩,?_,fun j x g=>?_⟩ ?_
 .simp
 .simp
 .simp[maxLen];omega
 .simp[madeCells]
 .rw[List.take_of_length_le (by simp[madeCells])]
 .intro k o;cases o;exact s.none (Nat.le_refl _)
 .have r:j<n:=by have:=(List.getElem?_eq_some_iff.1 g).1;simpa using this
  have q:x=x0:=by
   rw[List.getElem?_replicate] at g;rw[if_pos r] at g;exact (Option.some.inj g).symm
  subst q;subst E;rw[Q8b z.cells n j r f];exact D
 .intro k o;cases o;exact Nat.le_refl _
variable {B : Nat}
theorem J6.shiftR [hr:Rep R] (h:J6 B e sz R σ w v xs) (t:SLe σ σ') (m: ∀k,v.ownBlock=some k->σ' k=none):J6 B e sz R σ' w v xs:=by
 obtain ⟨a,f,rfl,o,p,c,q⟩:=h;refine ⟨a,f,rfl,o,p,fun b d=>⟨(c b d).1,(c b d).2.1,(c b d).2.2.1,by subst d;exact m _ rfl⟩,fun r=>?_⟩
 obtain ⟨g,l,j,rfl,z,E,A,C,D⟩:=q r;exact ⟨g,l,j,rfl,z,m g rfl,A,C,fun i x s=>hr.up t.le (D i x s)⟩
def Q0g (w:World):World:={w with heap:= #[]}
theorem Ug (d:X3 w σ):Stp (Q0g w) (fun _=>none) w σ:=
 ⟨⟨rfl,rfl,rfl,Nat.zero_le _,fun k c=>absurd c (Nat.not_lt_zero k)⟩,d,fun _ _ h=>(by cases h),fun b a=>absurd a (Nat.not_lt_zero b)⟩
theorem J6.freeze [hr:Rep R] (g:X3 w σ) (h:J6 B e sz R σ w v xs): ∃σ',X3 w σ'/\SLe σ σ'/\Sl sz R σ' v xs/\ ∀k,some k≠v.ownBlock->σ' k=σ k:=by
 obtain ⟨σ',a,c,d,f⟩:=(h.mono (Nat.zero_le B):J6 (Q0g w).heap.size e sz R σ w v xs).keep (Ug g);exact ⟨σ',a.sat,d,c,f⟩
theorem Z0.freeze {b:Nat} {cs:List Value} (g:X3 w σ) (h:Z0 σ w b cs): ∃σ',X3 w σ'/\SLe σ σ'/\U1 σ' ⟨b,0,none⟩ cs/\ ∀k,k≠b->σ' k=σ k:=by
 obtain ⟨σ',a,c,d,f⟩:=h.keep (Ug g) (Nat.zero_le b);exact ⟨σ',a.sat,⟨d⟩,c,f⟩
theorem J6.raise {α:Type} {R:Q2->α->List Value->Prop} {B B' sz:Nat} {e:TypeId} {v:Value} {xs:List α} (h:J6 B' e sz R σ w v xs) (l: ∀k,v.ownBlock=some k->B<=k):J6 B e sz R σ w v xs:=by
 obtain ⟨a,f,rfl,m,o,d,p⟩:=h;refine ⟨a,f,rfl,m,o,fun b c=>⟨(d b c).1,l _ (by subst c;rfl),(d b c).2.2⟩,fun r=>?_⟩
 obtain ⟨g,j,i,rfl,s,q⟩:=p r;exact ⟨g,j,i,rfl,l g rfl,q⟩
theorem U1.tail {q:Addr} {xs ys:List Value} (h:U1 σ q (xs++ys)):U1 σ (q.add xs.length) ys:=by
 obtain ⟨d,a,e,z,f,g⟩:=h;cases xs with
 | nil=>exact ⟨by simp[Addr.add,d],a,e,z,by simpa [Addr.add] using f,fun i u c=>by simpa [Addr.add] using g i u c⟩
 | cons x xs=>
  refine ⟨by simp[Addr.add,d],a,e,z,by simpa [Addr.add] using f,fun i u c=>?_⟩
  have:=g ((x::xs).length+i) u (by rw[List.getElem?_append_right Q5];simpa using c)
  simpa [Addr.add,Nat.add_assoc] using this
theorem J6.down {α:Type} {R:Q2->α->List Value->Prop} {B sz:Nat} {e:TypeId} {v:Value} {xs:List α} (h:J6 B e sz R σ' w v xs) (C:SLe σ σ') (s: ∀x cs,R σ' x cs->R σ x cs):J6 B e sz R σ w v xs:=by
 obtain ⟨a,f,rfl,p,q,c,r⟩:=h
 have m: ∀k,σ' k=none->σ k=none:=fun k z=>by
  cases e:σ k with
  | none=>rfl
  | some o=>have:=C.le k o e;rw[z] at this;cases this
 refine ⟨a,f,rfl,p,q,fun b d=>⟨(c b d).1,(c b d).2.1,(c b d).2.2.1,m _ (c b d).2.2.2⟩,fun t=>?_⟩;obtain ⟨g,l,j,rfl,D,E,H,J,L⟩:=r t;exact ⟨g,l,j,rfl,D,m _ E,H,J,fun i x A=>s _ _ (L i x A)⟩
variable {b n : Nat} {ds : List Value} {V : Value}
structure VarT (b : Nat) (ds : List Value) (w w' : World) : Prop where
  kp : Kpt (fun j => j = b) w w'
  var : (b < w.heap.size -> w'.heap[b]? = w.heap[b]?) \/ ∃ e, w'.heap[b]? = some (.cells ds.toArray e (0, 0))
structure VarB (w0 : World) (σ0 : Q2) (w1 : World) (σ : Q2) (b n : Nat) (w' : World) : Prop where
  hst : Hst w0 σ0 w' σ
  kp : Kpt (fun j => j = b) w1 w'
  var : ∃ cs, cs.length = n /\ Z0 σ w' b cs
theorem VarT.of_below (h:Below w.heap.size w w'):VarT b ds w w':=⟨.of_below h, .inl fun a=>h.block b a⟩
theorem VarT.of_upd (h:Upd w b w') (a:Z0 σ w' b ds):VarT b ds w w':=⟨.of_upd h rfl, .inr a.2⟩
theorem VarB.step (d:w0.heap.size<=b) (g:ds.length=n) (h:VarB w0 σ0 w1 σ b n w) (k:VarT b ds w w'):VarB w0 σ0 w1 σ b n w':=by
 obtain ⟨cs,c,a⟩:=h.var;refine ⟨⟨h.hst.stp.kp k.kp fun j f=>by subst f;exact ⟨d,a.1⟩⟩,h.kp.trans k.kp,?_⟩
 rcases k.var with e | e
 .exact ⟨cs,c,a.1,by rw[e a.lt];exact a.2⟩
 .exact ⟨ds,g,a.1,e⟩
theorem Q9d {A:(World->World->Prop)->(World->Prop)->Prop} (ds:List Value) {cs:List Value} (a:Stp w0 σ0 w σ) (f:w0.heap.size<=b) (j:Z0 σ w b cs) (i:cs.length=n) (g:ds.length=n)
 (h:A (VarT b ds) (VarB w0 σ0 w σ b n)):dr w A:=
 Q0m _ _ ⟨⟨a.trans (Stp.of_below a.sat (Below.refl _ _).drew)⟩, .of_below (Below.refl _ _).drew,cs,i,j⟩ (fun _ _ c d=>c.step f g d) h
theorem T6 (h:V=v):dk (VarT b ds) (fun v _=>V=v) w v w:=⟨.of_below (Below.refl _ _),h⟩
theorem Vi (a:Below w.heap.size w w') (h:V=v):dk (VarT b ds) (fun v _=>V=v) w v w':=⟨.of_below a,h⟩
theorem Wr {t:TypeId} {c:Nat} {z:Value} [tz:TZ P t n c z] {a:(List Value->Value->World->Prop)->Prop} {φ:Value->World->Prop} (m:ds.length=n) (g: ∀u∈ds,u.oneCell'=true) (r: ∀v w,φ v w-> .agg ds.toArray=v)
 (o:a (fun _ _ w=>Z0 σ w b ds)) (f:σ b=none):Gr (VarT b ds) (fun F=> ∀x w,VarB w0 σ0 w1 σ b n w->φ x w->U3 P t (.pointer (some ⟨b,0,none⟩)) x w (dk (VarT b ds) (F [x]) w)) a:=by
 refine Q6Y _ (fun xs v w w' h k=>?_) (fun x w l q=>?_) o
 .rcases k.var with e | e
  .exact ⟨f,by rw[e h.lt];exact h.2⟩
  .exact ⟨f,e⟩
 .have:=r x w q
  subst this;obtain ⟨cs,i,j⟩:=l.var;exact My j i m (by rw[List.all_toArray];exact List.all_eq_true.2 g) fun w' p d=>⟨.of_upd p d,d⟩
theorem Nx {c a:Bool} {V:Value} {d:World->(Value->World->Prop)->Prop} (h:c=a->d w (dk (VarT b ds) (fun v _=>V=v) w)):Q1 (.bool c) a w d (dk (VarT b ds) (fun v _=>(if c=a then V else undef)=v) w):=by
 by_cases e:c=a
 .simp only[e,if_true]
  subst e;have:=h rfl;cases c
  .rw[H4];exact this
  .rw[D6];exact this
 .simp only[e,if_false]
  cases c<;>cases a<;>first | exact absurd rfl e | (rw[Qa];exact T6 rfl) | (rw[F8];exact T6 rfl)
theorem VarB.hs (h:VarB w0 σ0 w1 σ b n w):Hst w0 σ0 w σ:=h.hst
end Go.Emb
namespace Go.Emb
open Go.RowKit
variable {P : Program} {w : World} {K : Value -> World -> Prop}
theorem X70 {d:Nat} {xs ys:Array Value}:(Op.eqFields d xs ys []).run P w= .ok true w:=by simp[Op.eqFields]
theorem Q0p {d:Nat} {xs ys:Array Value} {f:Field} {a:List Field} {u v:Value} {b c:Bool} (h:f.name≠ "_") [tg:TG P f.type false] (i:xs[f.offset]? =some u) (j:ys[f.offset]? =some v)
 (e:(Op.equalIn d f.type u v).run P w= .ok b w) (g:(Op.eqFields d xs ys a).run P w= .ok c w):(Op.eqFields d xs ys (f::a)).run P w= .ok (b&&c) w:=by
 simp only[Op.eqFields,if_pos h]
 simp[part,Jw tg,i,j,e]
 cases b
 .simp
 .simp[g]
theorem X71 {d:Nat} {t:TypeId} (c:P.underlying t=some .string) (a b:List UInt8):(Op.equalIn (d+1) t (S a) (S b)).run P w= .ok (decide (a=b)) w:=by
 simp[Op.equalIn,run_underlying c,Co]
theorem Q6Z {d:Nat} {t:TypeId} {k c:IntKind} (f:P.underlying t=some (.int k)) (a b:Int):(Op.equalIn (d+1) t (.int c a) (.int c b)).run P w= .ok (decide (a=b)) w:=by
 simp[Op.equalIn,run_underlying f]
 by_cases e:a=b<;>simp[e]
theorem X7n {t:TypeId} {a c:Operand} {xs ys:List Value} {b:Bool} (i:P.underlying t=some (.struct (P.fieldsOf t))) (g:P.stoodInHeld t=false) (f:P.eqGuardType P.depth t=false)
 (d:(Op.eqFields 9999 xs.toArray ys.toArray (P.fieldsOf t).toList).run P w= .ok b w) (h:K (.bool (!b)) w):Y6 P .neq t a c (.agg xs.toArray) (.agg ys.toArray) w K:=by
 have e:Y6 P .neq t a c (.agg xs.toArray) (.agg ys.toArray) w K=K (.bool (!b)) w:=Y4 (by
  simp only[Sem.run_bind,run_eqGuard_agg w .neq t a c xs.toArray ys.toArray f,Result.andThen_ok];rw[run_neq_struct,run_equalIn_struct w 9999 t _ _ i g,d];rfl)
 rw[e];exact h
theorem X73 {t:TypeId} {a c:Operand} {xs ys:List Value} {b:Bool} (i:P.underlying t=some (.struct (P.fieldsOf t))) (g:P.stoodInHeld t=false) (f:P.eqGuardType P.depth t=false)
 (d:(Op.eqFields 9999 xs.toArray ys.toArray (P.fieldsOf t).toList).run P w= .ok b w) (h:K (.bool b) w):Y6 P .eql t a c (.agg xs.toArray) (.agg ys.toArray) w K:=by
 have e:Y6 P .eql t a c (.agg xs.toArray) (.agg ys.toArray) w K=K (.bool b) w:=Y4 (by
  simp only[Sem.run_bind,run_eqGuard_agg w .eql t a c xs.toArray ys.toArray f,Result.andThen_ok];rw[run_eql_struct,run_equalIn_struct w 9999 t _ _ i g,d];rfl)
 rw[e];exact h
variable {w' : World}
def Q8D (o:Option Obj) (m:List (Int×Value)):Prop:=
 ∃b a,o=some (.map b a)/\b.toList.map (fun e=>(e.key,e.val))=m.map (fun p=>(I p.1,p.2))/\(b.toList.map (·.born)).Pairwise (· < ·)/\ ∀e∈b.toList,e.born<a
def Qb (m:List (Int×Value)) (k:Int):Option Value:=match m with
 | []=>none
 | p::r=>if p.1=k then some p.2 else Qb r k
def Im (m:List (Int×Value)) (k:Int) (v:Value):List (Int×Value):=match m with
 | []=>[(k,v)]
 | p::r=>if p.1=k then (k,v)::r else p::Im r k v
theorem Q2S (k:Int): ∀(c:List MapEntry) (m:List (Int×Value)) (i:Nat),c.map (fun e=>(e.key,e.val))=m.map (fun p=>(I p.1,p.2))->
 ∃r,Instr.findNow (.int .i64) (I k) c i=some r/\r.map (·.2)=Qb m k/\(∀j v,r=some (j,v)->i<=j/\(∃e,c[j-i]? =some e/\e.key=I k)/\ ∀u,(c.modify (j-i) fun e=>{e with key:=I k,val:=u}).map (fun e=>(e.key,e.val))=(Im m k u).map (fun p=>(I p.1,p.2)))/\
  (r=none-> ∀u,Im m k u=m++[(k,u)]):=by
 intro c
 induction c with
 | nil=>
  intro m i h;cases m with
  | nil=>exact ⟨none,rfl,rfl,V0,fun _ u=>rfl⟩
  | cons=>simp at h
 | cons e r o=>
  intro m i h;cases m with
  | nil=>simp at h
  | cons p q=>
   simp only[List.map_cons,List.cons.injEq,Prod.mk.injEq] at h;obtain ⟨⟨d,g⟩,l⟩:=h;simp only[Instr.findNow,d,Instr.sameNow,if_true]
   by_cases a:p.1=k
   .have f:(k==p.1)=true:=by simp[a]
    simp only[f];refine ⟨_,rfl,by simp[Qb,a,g],?_,by simp⟩
    intro j v b;cases b;refine ⟨Nat.le_refl _,⟨e,by simp,by rw[d,a]⟩,fun u=>?_⟩
    simp[Im,a,l]
   .have f:(k==p.1)=false:=by simp;exact fun e=>a e.symm
    simp only[f];obtain ⟨A,s,t,y,z⟩:=o q (i+1) l;refine ⟨A,s,by simp[Qb,a,t],?_,?_⟩
    .intro j v b
     obtain ⟨D,B,C⟩:=y j v b;refine ⟨by omega,by rw[show j-i=(j-(i+1))+1 by omega];simpa using B,fun u=>?_⟩
     have:=C u;rw[show j-i=(j-(i+1))+1 by omega]
     simp[Im,a,d,g,this]
    .intro n u
     simp[Im,a,z n u]
theorem Jv {t:TypeId} (a:P.underlying t=some (.int .i64)) (b:Bool) (k:Int) (w:World):(Instr.checkKey b 10000 t (I k)).run P w= .ok () w:=by
 unfold Instr.checkKey
 simp[run_underlying a]
theorem Q7Q {t g f:TypeId} {sz d:Nat} {z:Value} [tm:TM P t g f] [tz:TZ P f sz d z] (b:P.underlying g=some (.int .i64)) {r:Nat} {m:List (Int×Value)} (o:Q8D (w.heap[r]?) m) (k:Int):
 lookup P t (.map (some r)) (I k) true w K=K (match Qb m k with | some v=> .tuple #[v, .bool true] | none=> .tuple #[z, .bool false]) w:=by
 obtain ⟨e,a,j,l,s,u⟩:=o;obtain ⟨q,i,c,y,A⟩:=Q2S k e.toList m 0 l;unfold lookup;refine Y4 ?_;simp only[Instr.lookup,Sem.run_bind,run_underlying tm.h,Result.andThen_ok,Instr.findKey,run_underlying b,i,Jv b];have n:(getObj r).run P w= .ok (.map e a) w:=by simp[getObj,Sem.run,j]
 simp only[n,Result.andThen_ok,Sem.run_bind,Sem.run_pure,Jv b,run_underlying b,i];cases q with
 | none=>simp at c;rw[<-c];simp[Xz tz]
 | some p=>simp at c;rw[<-c];simp
theorem X44 {t g e:TypeId} {sz c:Nat} {z:Value} [tm:TM P t g e] [tz:TZ P e sz c z] (f:P.underlying g=some (.int .i64)) {r:Nat} {m:List (Int×Value)} (n:Q8D (w.heap[r]?) m) (k:Int):
 lookup P t (.map (some r)) (I k) false w K=K ((Qb m k).getD z) w:=by
 obtain ⟨d,a,i,j,s,u⟩:=n;obtain ⟨q,o,b,v,y⟩:=Q2S k d.toList m 0 j;unfold lookup;refine Y4 ?_;have l:(getObj r).run P w= .ok (.map d a) w:=by simp[getObj,Sem.run,i]
 simp only[Instr.lookup,Sem.run_bind,run_underlying tm.h,Result.andThen_ok,Instr.findKey,run_underlying f,o,Jv f,l,Sem.run_pure];cases q with
 | none=>simp at b;rw[<-b];simp[Xz tz]
 | some p=>simp at b;rw[<-b];simp
def I3 (σ:Q2) (w:World) (r:Nat) (m:List (Int×Value)):Prop:=σ r=none/\Q8D (w.heap[r]?) m
theorem I3.lt {σ:Q2} {r:Nat} {m:List (Int×Value)} (h:I3 σ w r m):r<w.heap.size:=by
 obtain ⟨_,c,a,b,_⟩:=h;exact (Array.getElem?_eq_some_iff.1 b).1
theorem I3.up {σ c:Q2} {r:Nat} {m:List (Int×Value)} (h:I3 σ w r m) (a:Stp w σ w' c):I3 c w' r m:=by
 have b:=h.lt;exact ⟨(a.old r b).trans h.1,(a.bel.block r b).symm▸h.2⟩
theorem X1z {t:TypeId} {σ:Q2} (a:X3 w σ) (h: ∀r w',w.heap.size<=r->Stp w σ w' σ->I3 σ w' r []->K (.map (some r)) w'):Hr P t none w K:=by
 unfold Hr;rw[Y4 (v:= .map (some w.heap.size)) (w':=w.alloc (.map #[] 0)) (by simp[Instr.makeMap])]
 exact h _ _ (Nat.le_refl _) (Stp.own a _) ⟨a.none (Nat.le_refl _), #[],0,heap_alloc_new w _,rfl,by simp,by simp⟩
theorem Q50 {t Q W:TypeId} [tm:TM P t Q W] (A:P.underlying Q=some (.int .i64)) {σ:Q2} {r:Nat} {m:List (Int×Value)} (Z:I3 σ w r m) (k:Int) (v:Value)
 (h: ∀w',Upd w r w'->I3 σ w' r (Im m k v)->K undef w'):mapUpdate P t (.map (some r)) (I k) v w K:=by
 obtain ⟨J,l,d,C,L,M,D⟩:=Z;obtain ⟨r',R,q2,q3,q4⟩:=Q2S k l.toList m 0 L;have O:(getObj r).run P w= .ok (.map l d) w:=by simp[getObj,Sem.run,C]
 have Y:=(Array.getElem?_eq_some_iff.1 C).1
 have n: ∀o,o=Obj.map l d\/True->(∀c e f,o≠ .cells c e f)->(setObj r o).run P w= .ok () {w with heap:=w.heap.setIfInBounds r o}:=by
  intro o _ _
  simp[setObj,Sem.run,C]
 have B: ∀o,Upd w r {w with heap:=w.heap.setIfInBounds r o}:=fun o=>⟨rfl,rfl,rfl,by simp,fun k A=>by simp only[Array.getElem?_setIfInBounds];rw[if_neg Q5]⟩
 have z: ∀o,({w with heap:=w.heap.setIfInBounds r o}:World).heap[r]? =some o:=fun o=>by simp[Array.getElem?_setIfInBounds,Y]
 unfold mapUpdate;cases r' with
 | none=>
  rw[Vn (w':={w with heap:=w.heap.setIfInBounds r (.map (l.push {key:=I k,val:=v,born:=d}) (d+1))}) (by
   simp only[Instr.mapUpdate,Sem.run_bind,run_underlying tm.h,Result.andThen_ok,Instr.findKey,run_underlying A,R,Jv A,O,Sem.run_pure];exact n _ (.inr trivial) (by intros;simp))]
  refine h _ (B _) ⟨J,_,_,z _,?_,?_,?_⟩
  .rw[q4 rfl];simp[L]
  .simp only[Array.toList_push,List.map_append,List.map_cons,List.map_nil]
   rw[List.pairwise_append];refine ⟨M,by simp,?_⟩
   intro a X b N
   simp at N;subst N
   obtain ⟨e,s,rfl⟩:=List.mem_map.1 X;exact D e s
  .intro e s
   simp at s
   rcases s with s | rfl
   .have:=D e (by simpa using s);omega
   .simp
 | some p=>
  obtain ⟨j,u⟩:=p;obtain ⟨z1,z2,U⟩:=q3 j u rfl;obtain ⟨e,H,V⟩:=z2;simp only[Nat.sub_zero] at H U
  have g:((l.modify j fun e=>{e with key:=I k,val:=v}).toList.map (·.born))=l.toList.map (·.born):=by
   apply List.ext_getElem?;intro i;simp only[Array.toList_modify,List.getElem?_map,List.getElem?_modify]
   by_cases E:j=i<;>cases l.toList[i]? <;>simp[E]
  have q:(Instr.keyThatStays (I k) (I k)).run P w= .ok (I k) w:=by
   simp[Instr.keyThatStays,Instr.sameBits]
  rw[Vn (w':={w with heap:=w.heap.setIfInBounds r (.map (l.modify j fun e=>{e with key:=I k,val:=v}) d)}) (by
   simp only[Instr.mapUpdate,Sem.run_bind,run_underlying tm.h,Result.andThen_ok,Instr.findKey,run_underlying A,R,Jv A,O,Sem.run_pure];rw[show ((l[j]?).map (·.key)).getD (I k)=I k by rw[<-Array.getElem?_toList,H];simp[V]]
   simp only[q,Result.andThen_ok];exact n _ (.inr trivial) (by intros;simp))]
  refine h _ (B _) ⟨J,_,_,z _,?_,?_,?_⟩
  .simp only[Array.toList_modify];exact U v
  .rw[g];exact M
  .intro x hx
   have:x.born∈l.toList.map (·.born):=by rw[<-g];exact List.mem_map.2 ⟨x,hx,rfl⟩
   obtain ⟨y,hy,e⟩:=List.mem_map.1 this;rw[<-e];exact D y hy
end Go.Emb
namespace Go.Proofs.Y
open Go.Emb Go.RowKit Go.Kd
variable {w : World}
theorem bt {w w1 b:World} (a:Below w.heap.size w w1) (c:Below w1.heap.size w1 b):Below w.heap.size w b:=a.trans (c.mono a.size)
end Go.Proofs.Y
namespace Go.Emb
open Go.RowKit Go.Hm
variable {P : Program} {w : World} {K : Value -> World -> Prop}
theorem X9H {c:List TypeId} {t:TypeId} {cs:List Bool} {k:IntKind} {a b:Int} (h:K (.int k (max a b)) w):J7 P .max c t cs [.int k a, .int k b] w K:=by
 have d:(builtin .max c.toArray t cs.toArray #[.int k a, .int k b]).run P w= .ok (.value (.int k (max a b))) w:=by
  have:=run_max_int2 (P:=P) (w:=w) c.toArray t k k a b;have e:(if b>a then b else a)=max a b:=by split<;>omega
  rw[e] at this
  simp[builtin,this]
 unfold J7;rw[Xu];unfold Xm;rw[d];exact h
theorem X9I {c:List TypeId} {t:TypeId} {cs:List Bool} {k:IntKind} {a b:Int} (h:K (.int k (min a b)) w):J7 P .min c t cs [.int k a, .int k b] w K:=by
 have d:(builtin .min c.toArray t cs.toArray #[.int k a, .int k b]).run P w= .ok (.value (.int k (min a b))) w:=by
  have:=run_min_int2 (P:=P) (w:=w) c.toArray t k k a b;have e:(if b<a then b else a)=min a b:=by split<;>omega
  rw[e] at this
  simp[builtin,this]
 unfold J7;rw[Xu];unfold Xm;rw[d];exact h
end Go.Emb
